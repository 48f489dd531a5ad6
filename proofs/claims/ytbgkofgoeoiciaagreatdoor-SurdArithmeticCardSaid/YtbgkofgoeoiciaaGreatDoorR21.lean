/-
 My texts Nr, Ng, Nf, Nt, Nd, Len2, SdM, SdA, Nrd, RdK, SdK, Sd, SdQ put together.
-/
import Derived.Test.YtbgkofgoeoiciaaGreatDoorR17
import Derived.Test.YtbgkofgoeoiciaaGreatDoorR20
import Derived.Test.YtbgkofgoeoiciaaGreatDoorR16
import Derived.Test.YtbgkofgoeoiciaaGreatDoorR19
import Derived.Test.YtbgkofgoeoiciaaGreatDoorR12
set_option maxRecDepth 100000
namespace Go.Proofs.YtbgkofgoeoiciaaGreatDoor
open Go.RowKit
theorem Zed (neg:Bool) (u:Value) (n:Nat) (w:World) (hu:Zas w u n):Calls Tryz.prog 194 #[.bool neg,u] w (Zbt w (sg neg n)):=by
 refine (ZbR neg u n w hu).mono ?_
 rintro e w1 ⟨s,rfl,hs,hF⟩
 exact ⟨_,rfl,Zax.signed (hu.ext hF) hs.out,hF⟩
theorem Zax.opn {w:World} {s:Bool} {A:Option Addr} {l c:Nat} {z:Int} (h:Zax w (.agg #[.bool s, .slice A l c]) z):Zas w (.slice A l c) z.natAbs∧z=sg s z.natAbs∧(z=0→s=false):=by
 obtain ⟨s',A',l',c',he,h1,h2,h3⟩:=h.open
 injection he with he
 simp at he
 obtain ⟨rfl,rfl,rfl,rfl⟩:=he
 exact ⟨h1,h2,h3⟩
theorem Zax.mag {w:World} {s:Bool} {A:Option Addr} {l c:Nat} {z:Int} (h:Zax w (.agg #[.bool s, .slice A l c]) z):Zas w (.slice A l c) z.natAbs:=h.opn.1
theorem ZtF {w:World} {s:Bool} {A:Option Addr} {l c:Nat} {z:Int} (h:Zax w (.agg #[.bool s, .slice A l c]) z):sg (!s) z.natAbs = -z:=by
 obtain ⟨_,h2,h3⟩:=h.opn
 cases s<;>simp [sg] at *<;>omega
theorem Za5.neg {x:Int} (h:Za5 x):Za5 (-x):=by
 unfold Za5 at *; rw [Int.natAbs_neg]; exact h
theorem ZiA {fn:Func} {t:Tmp} {tmps:Array Value} {w w':World} {r:Nat} {x y:Value} {z:Int} (hres:fn.results=#[.cell t 34]) (ht:tmps[t]? = some (.pointer (some ⟨r,0,none⟩)))
 (hB:Blk 34 w' r #[x,y]) (hI:Zax w' (.agg #[x,y]) z) (Q:Ext w w'):bodyPost Tryz.prog fn (Zbt w z) .ret ⟨tmps,[]⟩ w' :=
 bodyPost_ret (Ze0 hres _ _ r _ _ ht hB) rfl ⟨_,rfl,hI,Q⟩
theorem Zax.sneg {w:World} {s:Bool} {A:Option Addr} {l c:Nat} {z:Int} (h:Zax w (.agg #[.bool s, .slice A l c]) z) (hz:z < 0):s=true:=by
 obtain ⟨_,h2,h3⟩:=h.opn
 cases s with
 | true=>rfl
 | false=>simp [sg] at h2; omega
theorem Zax.spos {w:World} {s:Bool} {A:Option Addr} {l c:Nat} {z:Int} (h:Zax w (.agg #[.bool s, .slice A l c]) z) (hz:0≤z):s=false:=by
 obtain ⟨_,h2,h3⟩:=h.opn
 cases s with
 | false=>rfl
 | true=>simp [sg] at h2; exact h3 (by omega)
theorem Zax.len0 {w:World} {s:Bool} {A:Option Addr} {l c:Nat} {z:Int} (h:Zax w (.agg #[.bool s, .slice A l c]) z) (hz:z=0):l=0:=by
 obtain ⟨h1,_,_⟩:=h.opn
 obtain ⟨A',xs,c',he,_,_,hd,ht,hv⟩:=h1
 injection he with _ he
 rw [hz] at hv
 have:=Zmd ht Zaw hv
 rw [this] at he
 simpa using he
theorem Zax.lenp {w:World} {s:Bool} {A:Option Addr} {l c:Nat} {z:Int} (h:Zax w (.agg #[.bool s, .slice A l c]) z) (hz:z≠0):0 < l:=by
 obtain ⟨h1,_,_⟩:=h.opn
 obtain ⟨A',xs,c',he,_,_,hd,ht,hv⟩:=h1
 injection he with _ he
 rcases Nat.eq_zero_or_pos l with e | e
 ·rw [e] at he
  have:xs=[]:=List.length_eq_zero_iff.1 he.symm
  rw [this] at hv
  simp at hv
  omega
 ·exact e
theorem Zax.quo {w:World} {s t:Bool} {A B:Option Addr} {l c l' c':Nat} {x y:Int} (h:Zax w (.agg #[.bool s, .slice A l c]) x) (k:Zax w (.agg #[.bool t, .slice B l' c']) y):sg (s != t) (x.natAbs / y.natAbs)=x.tdiv y∧sg s (x.natAbs % y.natAbs)=x.tmod y:=by
 obtain ⟨_,h2,h3⟩:=h.opn
 obtain ⟨_,k2,k3⟩:=k.opn
 generalize x.natAbs=m at *
 generalize y.natAbs=n at *
 subst h2 k2
 cases s<;>cases t<;>simp [sg,Int.neg_tdiv,Int.tdiv_neg,Int.neg_tmod,Int.tmod_neg]<;>exact (Int.tmod_eq_emod_of_nonneg (by omega)).symm
def Zk6 (w:World) (q r:Int) (e:Ending) (w':World):Prop:=∃ u v,e=.returned (.tuple #[u,v])∧Zax w' u q∧Zax w' v r∧Ext w w'
theorem ZrR {fn:Func} {t t':Tmp} {tmps:Array Value} {w w':World} {r r':Nat} {x y x' y':Value} {z z':Int} (hres:fn.results=#[.cell t 34, .cell t' 34]) (ht:tmps[t]? = some (.pointer (some ⟨r,0,none⟩))) (ht':tmps[t']? = some (.pointer (some ⟨r',0,none⟩)))
 (hB:Blk 34 w' r #[x,y]) (hB':Blk 34 w' r' #[x',y']) (hI:Zax w' (.agg #[x,y]) z) (hI':Zax w' (.agg #[x',y']) z') (Q:Ext w w'):bodyPost Tryz.prog fn (Zk6 w z z') .ret ⟨tmps,[]⟩ w':=by
 obtain ⟨h0,h1,_⟩:=hB.cell2
 obtain ⟨k0,k1,_⟩:=hB'.cell2
 exact bodyPost_ret (v:=.tuple #[.agg #[x,y], .agg #[x',y']]) (by simp [results,hres,ht,ht',go_sem,h0,h1,k0,k1]) rfl ⟨_,_,rfl,hI,hI',Q⟩
theorem ZeP {q:Rat} (h:¬ q.den=1):denF q≠0:=by rw [ZbN h]; have:=q.den_nz; omega
set_option maxHeartbeats 2000000 in
theorem Zjw (a:Value) (x:Int) (w:World) (ha:Zax w a x) :
 Calls Tryz.prog 151 #[a] w (Zbt w (-x)):=by
 obtain ⟨s1,A1,l1,c1,rfl⟩:=ha.shp
 have F2:Hid (Zax w (.agg #[.bool s1, .slice A1 l1 c1]) (x)):=ha
 clear ha
 have Hs:=zh (ZtF F2.out)
 go_enter Tryz.func151,Tryz.ntmps151
 go_wp2_with fail
 generalize hwb:World.alloc (World.alloc w _) _=w5
 obtain ⟨b_B3,b_B4,hE0⟩:=Ziz hwb
 clear hwb
 have B3:=zh b_B3
 have B4:=zh b_B4
 clear b_B3 b_B4
 replace F2:=zh (F2.out.ext hE0)
 have HE:=zh hE0
 clear hE0
 have F6:Hid (Zas w5 (.slice A1 l1 c1) ((x).natAbs)):=F2.out.mag
 refine (Zed ((!s1)) _ _ _ F6.out).mono ?_
 rintro e w7 ⟨_,rfl,hI,hF⟩
 obtain ⟨s8,A8,l8,c8,rfl⟩:=hI.shp
 replace B3:=zh (B3.out.ext hF)
 replace B4:=zh (B4.out.ext hF)
 replace F2:=zh (F2.out.ext hF)
 replace F6:=zh (F6.out.ext hF)
 replace HE:=zh (HE.out.trans hF)
 have F9:Hid (Zax w7 (.agg #[.bool s8, .slice A8 l8 c8]) (sg ((!s1)) ((x).natAbs))):=hI
 clear hF hI
 obtain ⟨c10_0,c10_1,f10_0,f10_1⟩:=B3.out.cell2
 obtain ⟨c11_0,c11_1,f11_0,f11_1⟩:=B4.out.cell2
 go_wp2
 clear c10_0 c10_1 f10_0 f10_1 c11_0 c11_1 f11_0 f11_1
 have hFs:Fr (fun i=>i=(w.heap.size + 1)) w7 ((w7.setCell ⟨(w.heap.size + 1),0,none⟩ (.bool s8)).setCell ⟨(w.heap.size + 1),1,none⟩ (.slice A8 l8 c8)):=(((Fr.refl (fun i=>i=(w.heap.size + 1)) _).setCell (p:=⟨(w.heap.size + 1),0,none⟩) (Or.inl rfl) _).setCell (p:=⟨(w.heap.size + 1),1,none⟩) (Or.inl rfl) _)
 replace F2:=zh (F2.out.oth B4.out Zbw hFs)
 replace F6:=zh (F6.out.oth B4.out Zbw hFs)
 replace F9:=zh (F9.out.oth B4.out Zbw hFs)
 replace B3:=zh (B3.out.fr hFs (by first | omega | (have:=B3.out.lt; have:=B4.out.lt; omega)))
 replace HE:=zh (HE.out.next hFs (fun i hi e=>by first | omega | (have:=HE.out.size; have:=B4.out.lt; omega)))
 have b_new:Blk 34 ((w7.setCell ⟨(w.heap.size + 1),0,none⟩ (.bool s8)).setCell ⟨(w.heap.size + 1),1,none⟩ (.slice A8 l8 c8)) (w.heap.size + 1) #[.bool s8, .slice A8 l8 c8]:=((B4.out.set_ 0 _).set_ 1 _)
 generalize ((w7.setCell ⟨(w.heap.size + 1),0,none⟩ (.bool s8)).setCell ⟨(w.heap.size + 1),1,none⟩ (.slice A8 l8 c8))=w12 at *
 replace B4:=zh b_new; clear b_new hFs
 exact ZiA rfl rfl B4.out (by have:=F9.out; rw [Hs.out] at this; exact this) HE.out
set_option maxHeartbeats 2000000 in
theorem ZqE (a:Value) (x:Int) (w:World) (ha:Zax w a x) (hx:x < 0) :
 Calls Tryz.prog 195 #[a] w (RetV w (.int .i64 (-1))):=by
 obtain ⟨s1,A1,l1,c1,rfl⟩:=ha.shp
 have F2:Hid (Zax w (.agg #[.bool s1, .slice A1 l1 c1]) (x)):=ha
 clear ha
 obtain rfl:s1=true:=F2.out.sneg hx
 clear hx
 go_enter Tryz.func195,Tryz.ntmps195
 go_wp2
 generalize hwb:World.alloc w _=w4
 obtain ⟨b_B3,hE0⟩:=ZcJ hwb
 clear hwb
 have B3:=zh b_B3
 clear b_B3
 replace F2:=zh (F2.out.ext hE0)
 have HE:=zh hE0
 clear hE0
 go_ret
 exact ⟨rfl,HE.out⟩
set_option maxHeartbeats 2000000 in
theorem ZpF (a:Value) (x:Int) (w:World) (ha:Zax w a x) (hx:x=0) :
 Calls Tryz.prog 195 #[a] w (RetV w (.int .i64 (0))):=by
 obtain ⟨s1,A1,l1,c1,rfl⟩:=ha.shp
 have F2:Hid (Zax w (.agg #[.bool s1, .slice A1 l1 c1]) (x)):=ha
 clear ha
 obtain rfl:s1=false:=F2.out.spos (by omega)
 obtain rfl:l1=0:=F2.out.len0 hx
 clear hx
 go_enter Tryz.func195,Tryz.ntmps195
 go_wp2
 generalize hwb:World.alloc w _=w4
 obtain ⟨b_B3,hE0⟩:=ZcJ hwb
 clear hwb
 have B3:=zh b_B3
 clear b_B3
 replace F2:=zh (F2.out.ext hE0)
 have HE:=zh hE0
 clear hE0
 go_ret
 exact ⟨rfl,HE.out⟩
set_option maxHeartbeats 2000000 in
theorem ZqF (a:Value) (x:Int) (w:World) (ha:Zax w a x) (hx:0 < x) :
 Calls Tryz.prog 195 #[a] w (RetV w (.int .i64 (1))):=by
 obtain ⟨s1,A1,l1,c1,rfl⟩:=ha.shp
 have F2:Hid (Zax w (.agg #[.bool s1, .slice A1 l1 c1]) (x)):=ha
 clear ha
 obtain rfl:s1=false:=F2.out.spos (by omega)
 have hl:((l1:Int) == 0)=false:=by have:=F2.out.lenp (by omega); simp; omega
 clear hx
 go_enter Tryz.func195,Tryz.ntmps195
 go_wp2
 generalize hwb:World.alloc w _=w4
 obtain ⟨b_B3,hE0⟩:=ZcJ hwb
 clear hwb
 have B3:=zh b_B3
 clear b_B3
 replace F2:=zh (F2.out.ext hE0)
 have HE:=zh hE0
 clear hE0
 go_ret
 exact ⟨rfl,HE.out⟩
theorem Zh8 (a:Value) (x:Int) (w:World) (ha:Zax w a x):Calls Tryz.prog 195 #[a] w (RetV w (.int .i64 x.sign)):=by
 rcases Int.lt_trichotomy x 0 with h | h | h
 ·rw [Int.sign_eq_neg_one_of_neg h]; exact ZqE a x w ha h
 ·rw [h,Int.sign_zero]; exact ZpF a x w ha h
 ·rw [Int.sign_eq_one_of_pos h]; exact ZqF a x w ha h
set_option maxHeartbeats 2000000 in
theorem Ze1 (a b:Value) (x y:Int) (w:World) (ha:Zax w a x) (hb:Zax w b y) (hx:Za5 x) (hy:Za5 y) (h0:y≠0) :
 Calls Tryz.prog 216 #[a,b] w (Zk6 w (x.tdiv y) (x.tmod y)):=by
 obtain ⟨s1,A1,l1,c1,rfl⟩:=ha.shp
 have F2:Hid (Zax w (.agg #[.bool s1, .slice A1 l1 c1]) (x)):=ha
 clear ha
 obtain ⟨s3,A3,l3,c3,rfl⟩:=hb.shp
 have F4:Hid (Zax w (.agg #[.bool s3, .slice A3 l3 c3]) (y)):=hb
 clear hb
 have Hx:Hid (ml x.natAbs≤1048576):=hx
 have Hy:Hid (ml y.natAbs≤1048576):=hy
 have H0:Hid (0 < y.natAbs):=by unfold Hid; omega
 have HQ:=zh (F2.out.quo F4.out)
 clear hx hy h0
 go_enter Tryz.func216,Tryz.ntmps216
 go_wp2_with fail
 generalize hwb:World.alloc (World.alloc (World.alloc (World.alloc w _) _) _) _=w9
 obtain ⟨b_B5,b_B6,b_B7,b_B8,hE0⟩:=ZsR hwb
 clear hwb
 have B5:=zh b_B5
 have B6:=zh b_B6
 have B7:=zh b_B7
 have B8:=zh b_B8
 clear b_B5 b_B6 b_B7 b_B8
 replace F2:=zh (F2.out.ext hE0)
 replace F4:=zh (F4.out.ext hE0)
 have HE:=zh hE0
 clear hE0
 have F10:Hid (Zas w9 (.slice A1 l1 c1) ((x).natAbs)):=F2.out.mag
 have F11:Hid (Zas w9 (.slice A3 l3 c3) ((y).natAbs)):=F4.out.mag
 refine (Zko _ _ ((x).natAbs) ((y).natAbs) _ F10.out F11.out Hx.out Hy.out H0.out).mono ?_
 rintro e w12 ⟨_,_,rfl,hq,hr,hF⟩
 obtain ⟨Aq13,lq13,cq13,rfl⟩:=hq.slice
 obtain ⟨Ar13,lr13,cr13,rfl⟩:=hr.slice
 replace B5:=zh (B5.out.ext hF)
 replace B6:=zh (B6.out.ext hF)
 replace B7:=zh (B7.out.ext hF)
 replace B8:=zh (B8.out.ext hF)
 replace F2:=zh (F2.out.ext hF)
 replace F4:=zh (F4.out.ext hF)
 replace F10:=zh (F10.out.ext hF)
 replace F11:=zh (F11.out.ext hF)
 replace HE:=zh (HE.out.trans hF)
 have F14:Hid (Zas w12 (.slice Aq13 lq13 cq13) (((x).natAbs) / ((y).natAbs))):=hq
 have F15:Hid (Zas w12 (.slice Ar13 lr13 cr13) (((x).natAbs) % ((y).natAbs))):=hr
 clear hF hq hr
 obtain ⟨c16_0,c16_1,f16_0,f16_1⟩:=B5.out.cell2
 obtain ⟨c17_0,c17_1,f17_0,f17_1⟩:=B6.out.cell2
 obtain ⟨c18_0,c18_1,f18_0,f18_1⟩:=B7.out.cell2
 obtain ⟨c19_0,c19_1,f19_0,f19_1⟩:=B8.out.cell2
 go_wp2_with fail
 clear c16_0 c16_1 f16_0 f16_1 c17_0 c17_1 f17_0 f17_1 c18_0 c18_1 f18_0 f18_1 c19_0 c19_1 f19_0 f19_1
 refine ZnS 11 (fun W'=>Blk 34 W' w.heap.size #[.bool s1, .slice A1 l1 c1]∧Blk 34 W' (w.heap.size + 1) #[.bool s3, .slice A3 l3 c3]∧Blk 34 W' (w.heap.size + 1 + 1) #[.bool false, .slice none 0 0]∧Blk 34 W' (w.heap.size + 1 + 1 + 1) #[.bool false, .slice none 0 0]) Zal ?_
 replace B5:=zh (B5.out.ext (Fr.refl _ _).drew)
 replace B6:=zh (B6.out.ext (Fr.refl _ _).drew)
 replace B7:=zh (B7.out.ext (Fr.refl _ _).drew)
 replace B8:=zh (B8.out.ext (Fr.refl _ _).drew)
 replace F2:=zh (F2.out.ext (Fr.refl _ _).drew)
 replace F4:=zh (F4.out.ext (Fr.refl _ _).drew)
 replace F10:=zh (F10.out.ext (Fr.refl _ _).drew)
 replace F11:=zh (F11.out.ext (Fr.refl _ _).drew)
 replace F14:=zh (F14.out.ext (Fr.refl _ _).drew)
 replace F15:=zh (F15.out.ext (Fr.refl _ _).drew)
 replace HE:=zh (HE.out.trans (Fr.refl _ _).drew)
 generalize w12.drew=w20 at *
 have hS:=(⟨B5.out,B6.out,B7.out,B8.out⟩:(fun W'=>Blk 34 W' w.heap.size #[.bool s1, .slice A1 l1 c1]∧Blk 34 W' (w.heap.size + 1) #[.bool s3, .slice A3 l3 c3]∧Blk 34 W' (w.heap.size + 1 + 1) #[.bool false, .slice none 0 0]∧Blk 34 W' (w.heap.size + 1 + 1 + 1) #[.bool false, .slice none 0 0]) w20)
 refine Zdc 0 rfl (by kernel_rfl) (fun _ _ _ h=>h) hS (fun _=>Zg6 (g:=w.heap.size) (off:=0) rfl rfl (by kernel_rfl)) (fun hS=>?_)
 refine Zdc 1 rfl (by kernel_rfl) (fun _ _ _ h=>h) hS (fun _=>Zk4 (g:=w.heap.size) (off:=0) (x:=.bool s1) rfl rfl (by kernel_rfl) (fun _ h=>Blk.one' (h.1) 0 rfl)) (fun hS=>?_)
 refine Zdc 2 rfl (by kernel_rfl) (fun _ _ _ h=>h) hS (fun _=>Zg6 (g:=(w.heap.size + 1)) (off:=0) rfl rfl (by kernel_rfl)) (fun hS=>?_)
 refine Zdc 3 rfl (by kernel_rfl) (fun _ _ _ h=>h) hS (fun _=>Zk4 (g:=(w.heap.size + 1)) (off:=0) (x:=.bool s3) rfl rfl (by kernel_rfl) (fun _ h=>Blk.one' (h.2.1) 0 rfl)) (fun hS=>?_)
 refine Zdc 4 rfl (by kernel_rfl) (fun _ _ _ h=>h) hS (fun _=>ZrJ (b:=s1) (c:=s3) rfl rfl (by kernel_rfl) (by kernel_rfl)) (fun hS=>?_)
 refine Zdc 5 rfl (by kernel_rfl) (fun _ _ _ h=>h) hS (fun _=>ym (v:=.slice Aq13 lq13 cq13) rfl rfl (by kernel_rfl)) (fun hS=>?_)
 refine Zdc 7 rfl (by kernel_rfl) (fun _ _ _ h=>h) hS (fun _=>Zg6 (g:=w.heap.size) (off:=0) rfl rfl (by kernel_rfl)) (fun hS=>?_)
 refine Zdc 8 rfl (by kernel_rfl) (fun _ _ _ h=>h) hS (fun _=>Zk4 (g:=w.heap.size) (off:=0) (x:=.bool s1) rfl rfl (by kernel_rfl) (fun _ h=>Blk.one' (h.1) 0 rfl)) (fun hS=>?_)
 refine Zdc 9 rfl (by kernel_rfl) (fun _ _ _ h=>h) hS (fun _=>ym (v:=.slice Ar13 lr13 cr13) rfl rfl (by kernel_rfl)) (fun hS=>?_)
 refine ZmN 6 rfl (by kernel_rfl) rfl (fun K hK=>?_)
 go_simp
 clear hS
 refine (Zed ((s1 != s3)) _ _ _ F14.out).mono ?_
 rintro e w21 ⟨_,rfl,hI,hF⟩
 obtain ⟨s22,A22,l22,c22,rfl⟩:=hI.shp
 replace B5:=zh (B5.out.ext hF)
 replace B6:=zh (B6.out.ext hF)
 replace B7:=zh (B7.out.ext hF)
 replace B8:=zh (B8.out.ext hF)
 replace F2:=zh (F2.out.ext hF)
 replace F4:=zh (F4.out.ext hF)
 replace F10:=zh (F10.out.ext hF)
 replace F11:=zh (F11.out.ext hF)
 replace F14:=zh (F14.out.ext hF)
 replace F15:=zh (F15.out.ext hF)
 replace HE:=zh (HE.out.trans hF)
 have F23:Hid (Zax w21 (.agg #[.bool s22, .slice A22 l22 c22]) (sg ((s1 != s3)) (((x).natAbs) / ((y).natAbs)))):=hI
 clear hF hI
 have hS:=(⟨B5.out,B6.out,B7.out,B8.out⟩:(fun W'=>Blk 34 W' w.heap.size #[.bool s1, .slice A1 l1 c1]∧Blk 34 W' (w.heap.size + 1) #[.bool s3, .slice A3 l3 c3]∧Blk 34 W' (w.heap.size + 1 + 1) #[.bool false, .slice none 0 0]∧Blk 34 W' (w.heap.size + 1 + 1 + 1) #[.bool false, .slice none 0 0]) w21)
 refine hK _ _ hS ?_
 clear hK
 refine ZmN 10 rfl (by kernel_rfl) rfl (fun K hK=>?_)
 go_simp
 clear hS
 refine (Zed (s1) _ _ _ F15.out).mono ?_
 rintro e w24 ⟨_,rfl,hI,hF⟩
 obtain ⟨s25,A25,l25,c25,rfl⟩:=hI.shp
 replace B5:=zh (B5.out.ext hF)
 replace B6:=zh (B6.out.ext hF)
 replace B7:=zh (B7.out.ext hF)
 replace B8:=zh (B8.out.ext hF)
 replace F2:=zh (F2.out.ext hF)
 replace F4:=zh (F4.out.ext hF)
 replace F10:=zh (F10.out.ext hF)
 replace F11:=zh (F11.out.ext hF)
 replace F14:=zh (F14.out.ext hF)
 replace F15:=zh (F15.out.ext hF)
 replace F23:=zh (F23.out.ext hF)
 replace HE:=zh (HE.out.trans hF)
 have F26:Hid (Zax w24 (.agg #[.bool s25, .slice A25 l25 c25]) (sg (s1) (((x).natAbs) % ((y).natAbs)))):=hI
 clear hF hI
 have hS:=(⟨B5.out,B6.out,B7.out,B8.out⟩:(fun W'=>Blk 34 W' w.heap.size #[.bool s1, .slice A1 l1 c1]∧Blk 34 W' (w.heap.size + 1) #[.bool s3, .slice A3 l3 c3]∧Blk 34 W' (w.heap.size + 1 + 1) #[.bool false, .slice none 0 0]∧Blk 34 W' (w.heap.size + 1 + 1 + 1) #[.bool false, .slice none 0 0]) w24)
 refine hK _ _ hS ?_
 clear hK
 refine Zrr (l:=[_,_]) 11 rfl (by kernel_rfl) ?_
 clear hS
 obtain ⟨c27_0,c27_1,f27_0,f27_1⟩:=B5.out.cell2
 obtain ⟨c28_0,c28_1,f28_0,f28_1⟩:=B6.out.cell2
 obtain ⟨c29_0,c29_1,f29_0,f29_1⟩:=B7.out.cell2
 obtain ⟨c30_0,c30_1,f30_0,f30_1⟩:=B8.out.cell2
 go_wp2
 clear c27_0 c27_1 f27_0 f27_1 c28_0 c28_1 f28_0 f28_1 c29_0 c29_1 f29_0 f29_1 c30_0 c30_1 f30_0 f30_1
 have hFs:Fr (fun i=>i=(w.heap.size + 1 + 1)) w24 ((w24.setCell ⟨(w.heap.size + 1 + 1),0,none⟩ (.bool s22)).setCell ⟨(w.heap.size + 1 + 1),1,none⟩ (.slice A22 l22 c22)):=(((Fr.refl (fun i=>i=(w.heap.size + 1 + 1)) _).setCell (p:=⟨(w.heap.size + 1 + 1),0,none⟩) (Or.inl rfl) _).setCell (p:=⟨(w.heap.size + 1 + 1),1,none⟩) (Or.inl rfl) _)
 replace F2:=zh (F2.out.oth B7.out Zbw hFs)
 replace F4:=zh (F4.out.oth B7.out Zbw hFs)
 replace F10:=zh (F10.out.oth B7.out Zbw hFs)
 replace F11:=zh (F11.out.oth B7.out Zbw hFs)
 replace F14:=zh (F14.out.oth B7.out Zbw hFs)
 replace F15:=zh (F15.out.oth B7.out Zbw hFs)
 replace F23:=zh (F23.out.oth B7.out Zbw hFs)
 replace F26:=zh (F26.out.oth B7.out Zbw hFs)
 replace B5:=zh (B5.out.fr hFs (by first | omega | (have:=B5.out.lt; have:=B7.out.lt; omega)))
 replace B6:=zh (B6.out.fr hFs (by first | omega | (have:=B6.out.lt; have:=B7.out.lt; omega)))
 replace B8:=zh (B8.out.fr hFs (by first | omega | (have:=B8.out.lt; have:=B7.out.lt; omega)))
 replace HE:=zh (HE.out.next hFs (fun i hi e=>by first | omega | (have:=HE.out.size; have:=B7.out.lt; omega)))
 have b_new:Blk 34 ((w24.setCell ⟨(w.heap.size + 1 + 1),0,none⟩ (.bool s22)).setCell ⟨(w.heap.size + 1 + 1),1,none⟩ (.slice A22 l22 c22)) (w.heap.size + 1 + 1) #[.bool s22, .slice A22 l22 c22]:=((B7.out.set_ 0 _).set_ 1 _)
 generalize ((w24.setCell ⟨(w.heap.size + 1 + 1),0,none⟩ (.bool s22)).setCell ⟨(w.heap.size + 1 + 1),1,none⟩ (.slice A22 l22 c22))=w31 at *
 replace B7:=zh b_new; clear b_new hFs
 have hFs:Fr (fun i=>i=(w.heap.size + 1 + 1 + 1)) w31 ((w31.setCell ⟨(w.heap.size + 1 + 1 + 1),0,none⟩ (.bool s25)).setCell ⟨(w.heap.size + 1 + 1 + 1),1,none⟩ (.slice A25 l25 c25)):=(((Fr.refl (fun i=>i=(w.heap.size + 1 + 1 + 1)) _).setCell (p:=⟨(w.heap.size + 1 + 1 + 1),0,none⟩) (Or.inl rfl) _).setCell (p:=⟨(w.heap.size + 1 + 1 + 1),1,none⟩) (Or.inl rfl) _)
 replace F2:=zh (F2.out.oth B8.out Zbw hFs)
 replace F4:=zh (F4.out.oth B8.out Zbw hFs)
 replace F10:=zh (F10.out.oth B8.out Zbw hFs)
 replace F11:=zh (F11.out.oth B8.out Zbw hFs)
 replace F14:=zh (F14.out.oth B8.out Zbw hFs)
 replace F15:=zh (F15.out.oth B8.out Zbw hFs)
 replace F23:=zh (F23.out.oth B8.out Zbw hFs)
 replace F26:=zh (F26.out.oth B8.out Zbw hFs)
 replace B5:=zh (B5.out.fr hFs (by first | omega | (have:=B5.out.lt; have:=B8.out.lt; omega)))
 replace B6:=zh (B6.out.fr hFs (by first | omega | (have:=B6.out.lt; have:=B8.out.lt; omega)))
 replace B7:=zh (B7.out.fr hFs (by first | omega | (have:=B7.out.lt; have:=B8.out.lt; omega)))
 replace HE:=zh (HE.out.next hFs (fun i hi e=>by first | omega | (have:=HE.out.size; have:=B8.out.lt; omega)))
 have b_new:Blk 34 ((w31.setCell ⟨(w.heap.size + 1 + 1 + 1),0,none⟩ (.bool s25)).setCell ⟨(w.heap.size + 1 + 1 + 1),1,none⟩ (.slice A25 l25 c25)) (w.heap.size + 1 + 1 + 1) #[.bool s25, .slice A25 l25 c25]:=((B8.out.set_ 0 _).set_ 1 _)
 generalize ((w31.setCell ⟨(w.heap.size + 1 + 1 + 1),0,none⟩ (.bool s25)).setCell ⟨(w.heap.size + 1 + 1 + 1),1,none⟩ (.slice A25 l25 c25))=w32 at *
 replace B8:=zh b_new; clear b_new hFs
 exact ZrR rfl rfl rfl B7.out B8.out (by rw [← HQ.out.1]; exact F23.out) (by rw [← HQ.out.2]; exact F26.out) HE.out
set_option maxHeartbeats 2000000 in
theorem ZrS (a:Value) (q:Rat) (w:World) (ha:Zai w a q) (hq:q.den=1) :
 Calls Tryz.prog 196 #[a] w (Zbt w (q.den:Int)):=by
 obtain ⟨s1,A1,l1,c1,t1,B1,m1,d1,rfl⟩:=ha.shp
 have F2:Hid (Zai w (.agg #[.bool s1, .slice A1 l1 c1, .bool t1, .slice B1 m1 d1]) (q)):=ha
 clear ha
 have Fd:=F2.out.den
 obtain rfl:m1=0:=Fd.len0 (Zbd hq)
 have Hq:Hid ((q.den:Int)=1):=by unfold Hid; omega
 clear Fd hq
 go_enter Tryz.func196,Tryz.ntmps196
 go_wp2_with fail
 generalize hwb:World.alloc (World.alloc w _) _=w5
 obtain ⟨b_B3,b_B4,hE0⟩:=Ziz hwb
 clear hwb
 have B3:=zh b_B3
 have B4:=zh b_B4
 clear b_B3 b_B4
 replace F2:=zh (F2.out.ext hE0)
 have HE:=zh hE0
 clear hE0
 refine (Zh3 1 _ (by omega) (by omega)).mono ?_
 rintro e w6 ⟨_,rfl,hI,hF⟩
 obtain ⟨s7,A7,l7,c7,rfl⟩:=hI.shp
 replace B3:=zh (B3.out.ext hF)
 replace B4:=zh (B4.out.ext hF)
 replace F2:=zh (F2.out.ext hF)
 replace HE:=zh (HE.out.trans hF)
 have F8:Hid (Zax w6 (.agg #[.bool s7, .slice A7 l7 c7]) (1)):=hI
 clear hF hI
 obtain ⟨c9_0,c9_1,c9_2,c9_3,f9_0,f9_1,f9_2,f9_3⟩:=B3.out.cell4
 obtain ⟨c10_0,c10_1,f10_0,f10_1⟩:=B4.out.cell2
 go_wp2
 clear c9_0 c9_1 c9_2 c9_3 f9_0 f9_1 f9_2 f9_3 c10_0 c10_1 f10_0 f10_1
 have hFs:Fr (fun i=>i=(w.heap.size + 1)) w6 ((w6.setCell ⟨(w.heap.size + 1),0,none⟩ (.bool s7)).setCell ⟨(w.heap.size + 1),1,none⟩ (.slice A7 l7 c7)):=(((Fr.refl (fun i=>i=(w.heap.size + 1)) _).setCell (p:=⟨(w.heap.size + 1),0,none⟩) (Or.inl rfl) _).setCell (p:=⟨(w.heap.size + 1),1,none⟩) (Or.inl rfl) _)
 replace F2:=zh (F2.out.oth B4.out Zbw hFs)
 replace F8:=zh (F8.out.oth B4.out Zbw hFs)
 replace B3:=zh (B3.out.fr hFs (by first | omega | (have:=B3.out.lt; have:=B4.out.lt; omega)))
 replace HE:=zh (HE.out.next hFs (fun i hi e=>by first | omega | (have:=HE.out.size; have:=B4.out.lt; omega)))
 have b_new:Blk 34 ((w6.setCell ⟨(w.heap.size + 1),0,none⟩ (.bool s7)).setCell ⟨(w.heap.size + 1),1,none⟩ (.slice A7 l7 c7)) (w.heap.size + 1) #[.bool s7, .slice A7 l7 c7]:=((B4.out.set_ 0 _).set_ 1 _)
 generalize ((w6.setCell ⟨(w.heap.size + 1),0,none⟩ (.bool s7)).setCell ⟨(w.heap.size + 1),1,none⟩ (.slice A7 l7 c7))=w11 at *
 replace B4:=zh b_new; clear b_new hFs
 exact ZiA rfl rfl B4.out (by rw [Hq.out]; exact F8.out) HE.out
set_option maxHeartbeats 2000000 in
theorem ZrT (a:Value) (q:Rat) (w:World) (ha:Zai w a q) (hq:¬ q.den=1) :
 Calls Tryz.prog 196 #[a] w (Zbt w (q.den:Int)):=by
 obtain ⟨s1,A1,l1,c1,t1,B1,m1,d1,rfl⟩:=ha.shp
 have F2:Hid (Zai w (.agg #[.bool s1, .slice A1 l1 c1, .bool t1, .slice B1 m1 d1]) (q)):=ha
 clear ha
 have Fd:=F2.out.den
 have hl:((m1:Int) == 0)=false:=by have:=Fd.lenp (ZeP hq); simp; omega
 have Hq:=zh (ZbN hq)
 clear Fd hq
 go_enter Tryz.func196,Tryz.ntmps196
 go_wp2
 generalize hwb:World.alloc (World.alloc w _) _=w5
 obtain ⟨b_B3,b_B4,hE0⟩:=Ziz hwb
 clear hwb
 have B3:=zh b_B3
 have B4:=zh b_B4
 clear b_B3 b_B4
 replace F2:=zh (F2.out.ext hE0)
 have HE:=zh hE0
 clear hE0
 have F6:Hid (Zax w5 (.agg #[.bool t1, .slice B1 m1 d1]) (denF (q))):=F2.out.den
 exact ZiA rfl rfl B4.out (by rw [← Hq.out]; exact F6.out) HE.out
theorem ZbC (a:Value) (q:Rat) (w:World) (ha:Zai w a q):Calls Tryz.prog 196 #[a] w (Zbt w (q.den:Int)):=by
 by_cases h:q.den=1
 ·exact ZrS a q w ha h
 ·exact ZrT a q w ha h
end Go.Proofs.YtbgkofgoeoiciaaGreatDoor

namespace Go.Proofs.YtbgkofgoeoiciaaGreatDoor
open Go.RowKit
def blen (n:Nat):Nat:=if n=0 then 0 else n.log2 + 1
theorem ZlH:blen 0=0:=rfl
theorem ZiB (n:Nat):n < 2 ^ blen n:=by
 unfold blen
 split
 ·rename_i h; subst h; decide
 ·rename_i h; exact (Nat.log2_lt h).1 (Nat.lt_succ_self _)
theorem Zee {n k:Nat}:blen n≤k ↔ n < 2 ^ k:=by
 unfold blen
 split
 ·rename_i h; subst h; simp [Nat.pow_pos]
 ·rename_i h; rw [← Nat.log2_lt h]; omega
theorem Zge {n:Nat} (h:0 < n):blen n=blen (n / 2) + 1:=by
 have h1:blen (n / 2) + 1≤blen n:=by
  have:blen (n / 2)≤blen n - 1:=Zee.2 (by
   have h2:=ZiB n
   have h3:0 < blen n:=by unfold blen; rw [if_neg (by omega)]; omega
   obtain ⟨k,hk⟩:∃ k,blen n=k + 1:=⟨blen n - 1,by omega⟩
   rw [hk] at h2 ⊢
   rw [Nat.pow_succ] at h2
   show n / 2 < 2 ^ (k + 1 - 1)
   rw [Nat.add_sub_cancel]
   omega)
  have h3:0 < blen n:=by unfold blen; rw [if_neg (by omega)]; omega
  omega
 have h2:blen n≤blen (n / 2) + 1:=Zee.2 (by
  have:=ZiB (n / 2)
  rw [Nat.pow_succ]
  omega)
 omega
theorem Zcu {n:Nat}:blen n=1 ↔ n=1:=by
 constructor
 ·intro h
  have h1:=ZiB n
  rw [h] at h1
  rcases Nat.eq_zero_or_pos n with e | e
  ·subst e; rw [ZlH] at h; omega
  ·omega
 ·rintro rfl; decide
theorem Ze2 {n:Nat}:1 < blen n ↔ 1 < n:=by
 rcases Nat.lt_or_ge 1 n with h | h
 ·have:¬ blen n≤1:=fun k=>by have:=Zee.1 k; omega
  omega
 ·have:blen n≤1:=Zee.2 (by omega)
  omega
theorem ZrU {B k t low:Nat} (hl:low < 2 ^ (B * k)) (ht:0 < t):blen (low + 2 ^ (B * k) * t)=B * k + blen t:=by
 have h1:=ZiB t
 have h2:blen (low + 2 ^ (B * k) * t)≤B * k + blen t:=Zee.2 (by
  rw [Nat.pow_add]
  have:2 ^ (B * k) * (t + 1)≤2 ^ (B * k) * 2 ^ blen t:=Nat.mul_le_mul_left _ h1
  rw [Nat.mul_add] at this
  omega)
 have h3:¬ blen (low + 2 ^ (B * k) * t)≤B * k + blen t - 1:=fun h=>by
  have h4:=Zee.1 h
  obtain ⟨j,hj⟩:∃ j,blen t=j + 1:=⟨blen t - 1,by have:=Zge ht; omega⟩
  rw [hj,show B * k + (j + 1) - 1=B * k + j by omega,Nat.pow_add] at h4
  have h5:2 ^ j≤t:=by
   rcases Nat.lt_or_ge t (2 ^ j) with h | h
   ·have:=Zee.2 h; omega
   ·exact h
  have:2 ^ (B * k) * 2 ^ j≤2 ^ (B * k) * t:=Nat.mul_le_mul_left _ h5
  omega
 have:0 < blen t:=by have:=Zge ht; omega
 omega
set_option maxHeartbeats 1000000 in
theorem Zef (a:Value) (x:Int) (w:World) (ha:Zax w a x) (hx:Za5 x):Calls Tryz.prog 157 #[a] w (RetV w (.int .i64 (blen x.natAbs:Int))):=by
 obtain ⟨s,A,l,c,rfl⟩:=ha.shp
 have h1:=ha.mag
 have h0:=ha.len0
 obtain ⟨A',xs,c',he,hc,hX,hd,ht,hv⟩:=h1
 injection he with e1 e2 e3
 subst e1 e2 e3
 unfold Za5 at hx
 rw [← hv,← ZbQ hd ht] at hx
 rw [← hv]
 clear ha h0 hv
 rcases Nat.eq_zero_or_pos xs.length with hl | hl
 ·obtain rfl:xs=[]:=List.length_eq_zero_iff.1 hl
  go_enter Tryz.func157,Tryz.ntmps157
  go_wp2
  go_ret
  exact ⟨rfl,(Fr.refl _ _).alloc _⟩
 ·obtain ⟨k,hk⟩:∃ k,xs.length=k + 1:=⟨xs.length - 1,by omega⟩
  obtain ⟨b,off,rfl,hb,hct⟩:=hX.at (i:=k) (by omega)
  obtain ⟨t,et⟩:∃ t,xs[k]?.getD 0=t:=⟨_,rfl⟩
  rw [et] at hct
  have ht0:0 < t:=by have:=ht k hk; omega
  have EV:val W32 xs=val W32 (xs.take k) + W32 ^ k * t:=by
   have:=Zat (B:=W32) (xs:=xs) k (by omega)
   rw [List.take_of_length_le (by omega),et] at this
   exact this
  have hlow:=ZaZ (hd.take k)
  rw [List.length_take,Nat.min_eq_left (by omega),Zix] at hlow
  have HB:Hid (blen (val W32 xs)=32 * k + blen t):=by
   unfold Hid
   rw [EV,Zix]
   exact ZrU hlow ht0
  have htW:t < W32:=et ▸ hd.getD Zaw k
  have hbt:blen t≤32:=Zee.2 (by rw [Zay] at htW; exact htW)
  obtain ⟨r,er⟩:∃ r,blen (val W32 xs)=r:=⟨_,rfl⟩
  rw [er] at HB ⊢
  have hne:b≠w.heap.size:=Nat.ne_of_lt hb
  rw [hk]
  clear hX hd ht EV hlow et er htW hc hl
  have g0:(((k:Int) + 1) == 0)=false:=by simp; omega
  go_enter Tryz.func157,Tryz.ntmps157
  go_wp2
  go_loop [3,4] (fun nv tv=>∃ n t':Nat,nv=.int .i64 (n:Int)∧tv=.int .u32 (t':Int)∧Hid (n + blen t'=r)∧n≤32 * k + 32) (fun _ tv=>(intOf tv).toNat)
  case atStart=>exact ⟨32 * k,t,by go_num,rfl,by have:=HB.out; unfold Hid; omega,by omega⟩
  case round =>
   obtain ⟨n,t',rfl,rfl,hR,hn⟩:=hrel
   by_cases hz:0 < t'
   ·have hR2:Hid (n + 1 + blen (t' / 2)=r):=by have h1:=hR.out; rw [Zge hz] at h1; unfold Hid; omega
    have hle:n + 1≤32 * k + 32:=by
     have h1:=hR.out; have h2:=HB.out; rw [Zge hz] at h1; omega
    have q1:(t':Int) / 2=((t' / 2:Nat):Int):=rfl
    have hlt:t' / 2 < t':=by omega
    obtain ⟨t2,et2⟩:∃ t2,t' / 2=t2:=⟨_,rfl⟩
    rw [et2] at hR2 q1 hlt
    clear et2
    go_wp2
    go_round
    case rel=>exact ⟨n + 1,t2,by go_num,rfl,hR2,hle⟩
    case measure=>simp [intOf]; omega
   ·obtain rfl:t'=0:=by omega
    have hR2:Hid (n=r):=by have h1:=hR.out; rw [ZlH] at h1; exact h1
    go_wp2
    go_ret
    exact ⟨by rw [hR2.out]; rfl,(Fr.refl _ _).alloc _⟩
theorem Zas.inj {w:World} {v:Value} {m n:Nat} (h:Zas w v m) (k:Zas w v n):m=n:=by
 obtain ⟨A,xs,c,rfl,_,hX,_,_,rfl⟩:=h
 obtain ⟨A',ys,c',he,_,hY,_,_,rfl⟩:=k
 injection he with e1 e2 e3
 subst e1
 have:xs=ys:=by
  apply List.ext_getElem e2
  intro i h1 h2
  obtain ⟨b,o,rfl,_,c1⟩:=hX.at h1
  obtain ⟨b',o',e',_,c2⟩:=hY.at h2
  injection e' with e'
  injection e' with e3 e4
  subst e3 e4
  rw [c1] at c2
  injection c2 with c2
  injection c2 with _ c2
  rw [List.getElem?_eq_getElem h1,List.getElem?_eq_getElem h2] at c2
  simp only [Option.getD_some] at c2
  omega
 rw [this]
open Classical in
noncomputable def Zh9 (w:World) (v:Value):Nat:=if h:∃ n,Zas w v n then Classical.choose h else 0
theorem ZlI {w:World} {v:Value} {n:Nat} (h:Zas w v n):Zh9 w v=n:=by
 have hx:∃ n,Zas w v n:=⟨n,h⟩
 unfold Zh9
 rw [dif_pos hx]
 exact (Classical.choose_spec hx).inj h
theorem Zas.len_zero {w:World} {A:Option Addr} {l c n:Nat} (h:Zas w (.slice A l c) n):(n=0 ↔ l=0)∧l=ml n:=by
 obtain ⟨A',xs,c',he,_,_,hd,ht,hv⟩:=h
 injection he with _ he
 have hl:=ZbQ hd ht
 rw [hv] at hl
 refine ⟨⟨fun e=>?_,fun e=>?_⟩,by omega⟩
 ·rw [e,Zk0] at hl; omega
 ·rw [e] at he
  have:xs=[]:=List.length_eq_zero_iff.1 he.symm
  rw [this] at hv
  simpa using hv.symm
set_option maxHeartbeats 1000000 in
theorem Znq (a b:Value) (x y:Int) (w:World) (ha:Zax w a x) (hb:Zax w b y) (hx:Za5 x) (hy:Za5 y):Calls Tryz.prog 155 #[a,b] w (Zbt w (Int.gcd x y:Int)):=by
 obtain ⟨s,A,l,c,rfl⟩:=ha.shp
 obtain ⟨t,B,m,d,rfl⟩:=hb.shp
 have HM:=zh ha.mag
 have HN:=zh hb.mag
 have HX:Hid (ml x.natAbs≤1048576):=hx
 have HY:Hid (ml y.natAbs≤1048576):=hy
 obtain ⟨r,er⟩:∃ r,Int.gcd x y=r:=⟨_,rfl⟩
 have HR:Hid (Nat.gcd x.natAbs y.natAbs=r):=er
 rw [er]
 clear ha hb hx hy er
 go_enter Tryz.func155,Tryz.ntmps155
 go_wp2_with fail
 generalize hwb:World.alloc (World.alloc (World.alloc w _) _) _=w1
 obtain ⟨b0,b1,b2,hE0⟩:=ZoK hwb
 clear hwb
 have HB2:=zh b2
 have HE:=zh hE0
 replace HM:=zh (HM.out.ext hE0)
 replace HN:=zh (HN.out.ext hE0)
 obtain ⟨c0,c1,f0,f1⟩:=b0.cell2
 obtain ⟨c2,c3,f2,f3⟩:=b1.cell2
 clear b0 b1 b2 hE0
 go_quiet (fail)
 clear c0 c1 f0 f1 c2 c3 f2 f3
 go_wp2_with fail
 go_loopw [5,6,7,8] (fun xv yv _ _ wr=>∃ (u v:Nat) (A' B':Option Addr) (l' c' m' d':Nat),xv=.slice A' l' c'∧yv=.slice B' m' d'∧Hid (Zas wr (.slice A' l' c') u)∧Hid (Zas wr (.slice B' m' d') v)∧Hid (ml u≤1048576)∧Hid (ml v≤1048576)∧Hid (Nat.gcd u v=r)∧Hid (Ext w1 wr)) (fun _ yv _ _ wr=>Zh9 wr yv)
 case atStart=>exact ⟨_,_,_,_,_,_,_,_,rfl,rfl,HM.out.ext ((Fr.refl _ _).drewN _),HN.out.ext ((Fr.refl _ _).drewN _),HX,HY,HR,(Fr.refl _ _).drewN _⟩
 case round =>
  obtain ⟨u,v,A',B',l',c',m',d',rfl,rfl,hU,hV,hu,hv,hG,hF⟩:=hrel
  obtain ⟨z1,z2⟩:=hV.out.len_zero
  have hm':m'≤1048576:=by have:=hv.out; omega
  by_cases hm:m'=0
  ·subst hm
   have hv0:v=0:=z1.2 rfl
   have HG:Hid (u=r):=by have:=hG.out; rw [hv0,Nat.gcd_zero_right] at this; exact this
   have HB:=zh (HB2.out.ext hF.out)
   have HEE:=zh (HE.out.trans hF.out)
   clear z1 z2 hv0
   go_wp2_with fail
   refine (Zed false _ u _ hU.out).mono ?_
   rintro e w2 ⟨_,rfl,hI,hF2⟩
   obtain ⟨s2,A2,l2,c2,rfl⟩:=hI.shp
   have HI:=zh hI
   have HB':=zh (HB.out.ext hF2)
   have HE':=zh (HEE.out.trans hF2)
   obtain ⟨k0,k1,k2,k3⟩:=HB'.out.cell2
   clear hI hF2
   go_wp2
   have hFs:Fr (fun i=>i=(w.heap.size + 1 + 1)) w2 ((w2.setCell ⟨w.heap.size + 1 + 1,0,none⟩ (.bool s2)).setCell ⟨w.heap.size + 1 + 1,1,none⟩ (.slice A2 l2 c2)):=((Fr.refl (fun i=>i=(w.heap.size + 1 + 1)) _).setCell (p:=⟨w.heap.size + 1 + 1,0,none⟩) (Or.inl rfl) _).setCell (p:=⟨w.heap.size + 1 + 1,1,none⟩) (Or.inl rfl) _
   exact ZiA rfl rfl ((HB'.out.set_ 0 _).set_ 1 _) (by rw [← HG.out]; exact HI.out.oth HB'.out Zbw hFs) (HE'.out.next hFs (fun i hi e=>by omega))
  ·have hm0:0 < m':=by omega
   have hv0:0 < v:=by rcases Nat.eq_zero_or_pos v with e | e; · exact absurd (z1.1 e) hm
                      ·exact e
   have HG:Hid (Nat.gcd v (u % v)=r):=by have:=hG.out; rw [Nat.gcd_comm,Nat.gcd_rec,Nat.gcd_comm] at this; exact this
   have hml:=zh (Nat.le_trans (ZdL (Nat.le_of_lt (Nat.mod_lt u hv0))) hv.out)
   have hlt:=zh (Nat.mod_lt u hv0)
   have HC:=zh (Zko _ _ u v wr hU.out hV.out hu.out hv.out hv0)
   clear z1 z2 hv0 hm hG
   go_wp2_with fail
   refine HC.out.mono ?_
   rintro e w2 ⟨_,_,rfl,hq,hr,hF2⟩
   obtain ⟨A2,l2,c2,rfl⟩:=hq.slice
   obtain ⟨A3,l3,c3,rfl⟩:=hr.slice
   have HQr:=zh hr
   have HV2:=zh (hV.out.ext hF2)
   have HF2:=zh (hF.out.trans hF2)
   have hme:Hid (Zh9 wr (.slice B' m' d')=v):=ZlI hV.out
   have hme2:Hid (Zh9 w2 (.slice A3 l3 c3)=u % v):=ZlI hr
   clear hq hr hF2 HC
   go_wp2
   go_roundw
   case rel=>exact ⟨v,u % v,_,_,_,_,_,_,rfl,rfl,HV2,HQr,hv,hml,HG,HF2⟩
   case measure=>rw [hme.out,hme2.out]; exact hlt.out
end Go.Proofs.YtbgkofgoeoiciaaGreatDoor

namespace Go.Proofs.YtbgkofgoeoiciaaGreatDoor
open Go.RowKit
theorem Za5.le {x y:Int} (h:Za5 x) (hl:y.natAbs≤x.natAbs):Za5 y:=Nat.le_trans (ZdL hl) h
theorem Za5.gcd {x y:Int} (h:Za5 y) (h0:y≠0):Za5 (Int.gcd x y:Int):=h.le (by
 have:Int.gcd x y≤y.natAbs:=Nat.gcd_le_right _ (by omega)
 omega)
theorem Za5.tdiv {x y:Int} (h:Za5 x):Za5 (x.tdiv y):=h.le (by rw [Int.natAbs_tdiv]; exact Nat.div_le_self _ _)
theorem Zhc {x y:Int} (h:0 < y):0 < Int.gcd x y:=by
 rcases Nat.eq_zero_or_pos (Int.gcd x y) with e | e
 ·have:=(Int.gcd_eq_zero_iff.1 e).2; omega
 ·exact e
def Zbu (q:Rat):Prop:=ml q.num.natAbs≤100000∧ml q.den≤100000
theorem mlm {x y:Int} {a b:Nat} (hx:ml x.natAbs≤a) (hy:ml y.natAbs≤b):ml (x * y).natAbs≤a + b:=by
 have h:=Ztx x.natAbs y.natAbs
 rw [← Int.natAbs_mul] at h
 omega
theorem mla {x y:Int} {a:Nat} (hx:ml x.natAbs≤a) (hy:ml y.natAbs≤a):ml (x + y).natAbs≤a + 1 :=
 Nat.le_trans (ZdL (Int.natAbs_add_le x y)) (Zty hx hy)
theorem Zbu.neg {q:Rat} (h:Zbu q):Zbu (-q):=by
 unfold Zbu at *
 rw [Zg7,Zju,Int.natAbs_neg]
 exact h
theorem Zgf {w w':World} {e:Ending} {a b:Int} (h:Zk6 w a b e w'):Zbn ZdZ (fun x w=>Zax w (ZaB x.1) a∧Zax w (ZaB x.2) b) w e w':=by
 obtain ⟨u,v,rfl,hI,hJ,Q⟩:=h
 obtain ⟨s,A,l,c,rfl⟩:=hI.shp
 obtain ⟨s',A',l',c',rfl⟩:=hJ.shp
 exact ⟨((s,A,l,c),(s',A',l',c')),rfl,Q,boxn Q (fun S w'' hS hF=>⟨hI.nrb hS hF,hJ.nrb hS hF⟩)⟩
theorem nfit {z:Int} {k:Nat} (h:ml z.natAbs≤k) (hk:Nat.ble k 1048576=true):Za5 z:=Nat.le_trans h (Nat.le_of_ble_eq_true hk)
theorem mlc {n k:Nat} (h:ml n≤k):ml ((n:Nat):Int).natAbs≤k:=by rw [Int.natAbs_natCast]; exact h
theorem ZlJ {x y:Int} {q:Rat} (hq:Rat.divInt x y=q) (hy:0 < y) (_:1 < ((Int.gcd x y:Nat):Int).natAbs):q.num=x.tdiv ((Int.gcd x y:Nat):Int)∧(q.den:Int)=y.tdiv ((Int.gcd x y:Nat):Int):=by
 rw [← hq]; exact Znl hy
theorem ZlK {x y:Int} {q:Rat} (hq:Rat.divInt x y=q) (hy:0 < y) (h:¬ 1 < ((Int.gcd x y:Nat):Int).natAbs):q.num=x∧(q.den:Int)=y:=by
 have h1:=Zhc (x:=x) hy
 rw [← hq]; exact Zh5 hy (by omega)
theorem Ze3 {n:Nat} (h:(((n:Nat):Int) == 1)=true):n=1:=by have:=eq_of_beq h; omega
theorem Ze4 {n:Nat} (h:(((n:Nat):Int) == 1)=false):n≠1:=fun e=>by subst e; cases h
theorem ZqG (a b:Value) (x y:Int) (q:Rat) (w:World) (ha:Zax w a x) (hb:Zax w b y) (hx:Za5 x) (hy:Za5 y) (h0:y < 0) (hq:Rat.divInt x y=q) :
 Calls Tryz.prog 146 #[a,b] w (ZbF w q):=by
 obtain ⟨s0,A0,l0,c0,rfl⟩:=ha.shp
 obtain ⟨s1,A1,l1,c1,rfl⟩:=hb.shp
 obtain rfl:s1=true:=hb.sneg h0
 have HFx:Za5 (-(x)):=hx.neg
 have HFy:Za5 (-(y)):=hy.neg
 have HY:0 < -(y):=by omega
 have HFg:Za5 ((Int.gcd (-(x)) (-(y)):Nat):Int):=Za5.gcd HFy (by omega)
 have HG0:((Int.gcd (-(x)) (-(y)):Nat):Int)≠0:=by have:=Zhc (x := -(x)) HY; omega
 have Hq:Rat.divInt (-(x)) (-(y))=q:=by rw [Rat.neg_divInt_neg]; exact hq
 refine Zan (Φ:=fun w=>(Zax w (.agg #[.bool s0, .slice A0 l0 c0]) (x)∧Zax w (.agg #[.bool true, .slice A1 l1 c1]) (y))) Tryz.func146 rfl (by kernel_rfl) (fun w' hf=>⟨ha.ext hf,hb.ext hf⟩) ?_
 refine Zac (Zab (xr 3 [(2, .p 2 0),(3, .p 3 0),(4, .p 4 0)] [bR4 4 36 false none 0 0 false none 0 0,bI2 3 34 true A1 l1 c1,bI2 2 34 s0 A0 l0 c0] ?_))
 refine xe (Zaa (Zac (Zac (Zab (xr 2 [(2, .p 2 0),(3, .p 3 0),(4, .p 4 0),(7, .v (.bool true))] [bR4 4 36 false none 0 0 false none 0 0,bI2 3 34 true A1 l1 c1,bI2 2 34 s0 A0 l0 c0] ?_)))))
 refine xe (Zaa (xa ?_))
 refine ZaE 6 (by kernel_rfl) (by kernel_rfl) Zal ?_
 refine xf 1 [(2, .p 2 0),(3, .p 3 0),(4, .p 4 0),eI2 8 s0 A0 l0 c0] [bR4 4 36 false none 0 0 false none 0 0,bI2 3 34 true A1 l1 c1,bI2 2 34 s0 A0 l0 c0] ?_
 refine xd 151 [vI2 s0 A0 l0 c0] 9 ZaB _ (fun w R Q=>(Zjw _ (x) _ Q.1).mono (fun _ _=>ZaI)) (fun xx=>?_)
 obtain ⟨s10,A10,l10,c10⟩:=xx
 refine xf 1 [(2, .p 2 0),(3, .p 3 0),(4, .p 4 0),eI2 9 s10 A10 l10 c10,eI2 10 true A1 l1 c1] [bR4 4 36 false none 0 0 false none 0 0,bI2 3 34 true A1 l1 c1,bI2 2 34 s0 A0 l0 c0] ?_
 refine xd 151 [vI2 true A1 l1 c1] 11 ZaB _ (fun w R Q=>(Zjw _ (y) _ Q.1.2).mono (fun _ _=>ZaI)) (fun xx=>?_)
 obtain ⟨s11,A11,l11,c11⟩:=xx
 refine xf 2 [(2, .p 2 0),(3, .p 3 0),(4, .p 4 0)] [bI2 3 34 s11 A11 l11 c11,bI2 2 34 s10 A10 l10 c10,bR4 4 36 false none 0 0 false none 0 0,bI2 3 34 true A1 l1 c1,bI2 2 34 s0 A0 l0 c0] ?_
 refine xz (xe (Zaa (Zac (Zab (xr 2 [(2, .p 2 0),(3, .p 3 0),(4, .p 4 0),eI2 12 s10 A10 l10 c10,eI2 13 s11 A11 l11 c11] [bI2 3 34 s11 A11 l11 c11,bI2 2 34 s10 A10 l10 c10,bR4 4 36 false none 0 0 false none 0 0] ?_)))))
 refine xc 155 [vI2 s10 A10 l10 c10,vI2 s11 A11 l11 c11] 14 ZaB _ (fun w R Q=>(Znq _ _ (-(x)) (-(y)) _ Q.1.2 Q.2 HFx HFy).mono (fun _ _=>ZaI)) (fun xx=>?_)
 obtain ⟨s12,A12,l12,c12⟩:=xx
 refine xr 2 [(2, .p 2 0),(3, .p 3 0),(4, .p 4 0),(5, .p 5 0)] [bI2 5 34 s12 A12 l12 c12,bI2 3 34 s11 A11 l11 c11,bI2 2 34 s10 A10 l10 c10,bR4 4 36 false none 0 0 false none 0 0] ?_
 refine xe (Zaa (Zac (Zac (Zab (xr 1 [(2, .p 2 0),(3, .p 3 0),(4, .p 4 0),(5, .p 5 0),eI2 15 s12 A12 l12 c12] [bI2 5 34 s12 A12 l12 c12,bI2 3 34 s11 A11 l11 c11,bI2 2 34 s10 A10 l10 c10,bR4 4 36 false none 0 0 false none 0 0] ?_)))))
 refine xc 157 [vI2 s12 A12 l12 c12] 16 (fun _:Unit=>.int .i64 ((blen (((Int.gcd (-(x)) (-(y)):Nat):Int)).natAbs:Nat):Int)) _ (fun w R Q=>(Zef _ (((Int.gcd (-(x)) (-(y)):Nat):Int)) _ Q.2 HFg).mono (fun _ _ h=>Zaf h rfl)) (fun xx=>?_)
 refine xr 1 [(2, .p 2 0),(3, .p 3 0),(4, .p 4 0),(5, .p 5 0),(17, .v (.bool (decide (((blen (((Int.gcd (-(x)) (-(y)):Nat):Int)).natAbs:Nat):Int) > 1))))] [bI2 5 34 s12 A12 l12 c12,bI2 3 34 s11 A11 l11 c11,bI2 2 34 s10 A10 l10 c10,bR4 4 36 false none 0 0 false none 0 0] ?_
 refine xe (Zaa ?_)
 refine Zbb ((decide (((blen (((Int.gcd (-(x)) (-(y)):Nat):Int)).natAbs:Nat):Int) > 1))) (by kernel_rfl) (fun hb13=>?_) (fun hb13=>?_)
 ·have HQ:=ZlJ Hq HY (Ze2.1 (by have:=of_decide_eq_true hb13; omega))
  refine Zac (Zab (xr 2 [(2, .p 2 0),(3, .p 3 0),(4, .p 4 0),(5, .p 5 0),eI2 19 s10 A10 l10 c10,eI2 20 s12 A12 l12 c12] [bI2 5 34 s12 A12 l12 c12,bI2 3 34 s11 A11 l11 c11,bI2 2 34 s10 A10 l10 c10,bR4 4 36 false none 0 0 false none 0 0] ?_))
  refine xc 216 [vI2 s10 A10 l10 c10,vI2 s12 A12 l12 c12] 21 ZdZ _ (fun w R Q=>(Ze1 _ _ (-(x)) (((Int.gcd (-(x)) (-(y)):Nat):Int)) _ Q.1.1.1.2 Q.1.2 HFx HFg HG0).mono (fun _ _=>Zgf)) (fun xx=>?_)
  obtain ⟨⟨s14,A14,l14,c14⟩,⟨s15,A15,l15,c15⟩⟩:=xx
  refine xr 4 [(2, .p 2 0),(3, .p 3 0),(4, .p 4 0),(5, .p 5 0)] [bI2 5 34 s12 A12 l12 c12,bI2 3 34 s11 A11 l11 c11,bI2 2 34 s14 A14 l14 c14,bR4 4 36 false none 0 0 false none 0 0] ?_
  refine xe (Zaa (Zab (xr 2 [(2, .p 2 0),(3, .p 3 0),(4, .p 4 0),eI2 25 s11 A11 l11 c11,eI2 26 s12 A12 l12 c12] [bI2 3 34 s11 A11 l11 c11,bI2 2 34 s14 A14 l14 c14,bR4 4 36 false none 0 0 false none 0 0] ?_)))
  refine xc 216 [vI2 s11 A11 l11 c11,vI2 s12 A12 l12 c12] 27 ZdZ _ (fun w R Q=>(Ze1 _ _ (-(y)) (((Int.gcd (-(x)) (-(y)):Nat):Int)) _ Q.1.1.1.2 Q.1.1.2 HFy HFg HG0).mono (fun _ _=>Zgf)) (fun xx=>?_)
  obtain ⟨⟨s16,A16,l16,c16⟩,⟨s17,A17,l17,c17⟩⟩:=xx
  refine xr 4 [(2, .p 2 0),(3, .p 3 0),(4, .p 4 0)] [bI2 3 34 s16 A16 l16 c16,bI2 2 34 s14 A14 l14 c14,bR4 4 36 false none 0 0 false none 0 0] ?_
  refine xe (Zaa (Zac (Zac (Zab (xr 1 [(2, .p 2 0),(3, .p 3 0),(4, .p 4 0),eI2 30 s16 A16 l16 c16] [bI2 3 34 s16 A16 l16 c16,bI2 2 34 s14 A14 l14 c14,bR4 4 36 false none 0 0 false none 0 0] ?_)))))
  refine xc 157 [vI2 s16 A16 l16 c16] 31 (fun _:Unit=>.int .i64 ((blen ((-(y)).tdiv (((Int.gcd (-(x)) (-(y)):Nat):Int))).natAbs:Nat):Int)) _ (fun w R Q=>(Zef _ ((-(y)).tdiv (((Int.gcd (-(x)) (-(y)):Nat):Int))) _ Q.2.1 (Za5.tdiv HFy)).mono (fun _ _ h=>Zaf h rfl)) (fun xx=>?_)
  refine xr 1 [(2, .p 2 0),(3, .p 3 0),(4, .p 4 0),(32, .v (.bool ((((blen ((-(y)).tdiv (((Int.gcd (-(x)) (-(y)):Nat):Int))).natAbs:Nat):Int):Int) == 1)))] [bI2 3 34 s16 A16 l16 c16,bI2 2 34 s14 A14 l14 c14,bR4 4 36 false none 0 0 false none 0 0] ?_
  refine xe (Zaa ?_)
  refine Zbb (((((blen ((-(y)).tdiv (((Int.gcd (-(x)) (-(y)):Nat):Int))).natAbs:Nat):Int):Int) == 1)) (by kernel_rfl) (fun hb18=>?_) (fun hb18=>?_)
  ·have hdhb18:=Zcu.1 (Ze3 hb18)
   refine Zab (xr 2 [(2, .p 2 0),(3, .p 3 0),(4, .p 4 0)] [bI2 3 34 false none 0 0,bI2 2 34 s14 A14 l14 c14,bR4 4 36 false none 0 0 false none 0 0] ?_)
   refine xe (Zaa (Zac (Zab (xr 4 [(4, .p 4 0)] [bR4 4 36 s14 A14 l14 c14 false none 0 0] ?_))))
   refine xe (Zaa (Zah ?_))
   refine Zae (v:=.agg #[.bool s14, .slice A14 l14 c14, .bool false, .slice none 0 0]) (by kernel_rfl) (fun w' R Q=>?_)
   exact ⟨_,rfl,Zai.of (by rw [HQ.1]; exact Q.1.1.2.1) (by rw [Zbd (by have:=hdhb18; have:=HQ.2; have:=q.den_nz; omega)]; exact (Zax.nil _)),R⟩
  ·have hdhb18:=fun h=>Ze4 hb18 (Zcu.2 h)
   refine ZaA (Zaa (Zac (Zab (xr 4 [(4, .p 4 0)] [bR4 4 36 s14 A14 l14 c14 s16 A16 l16 c16] ?_))))
   refine xe (Zaa (Zah ?_))
   refine Zae (v:=.agg #[.bool s14, .slice A14 l14 c14, .bool s16, .slice A16 l16 c16]) (by kernel_rfl) (fun w' R Q=>?_)
   exact ⟨_,rfl,Zai.of (by rw [HQ.1]; exact Q.1.1.2.1) (by rw [ZbN (fun h=>hdhb18 (by have:=HQ.2; omega)),HQ.2]; exact Q.1.2.1),R⟩
 ·have HQ:=ZlK Hq HY (fun h=>absurd (Ze2.2 h) (by have:=of_decide_eq_false hb13; omega))
  refine ZaA (Zaa (Zac (Zac (Zab (xr 1 [(2, .p 2 0),(3, .p 3 0),(4, .p 4 0),eI2 30 s11 A11 l11 c11] [bI2 3 34 s11 A11 l11 c11,bI2 2 34 s10 A10 l10 c10,bR4 4 36 false none 0 0 false none 0 0] ?_)))))
  refine xc 157 [vI2 s11 A11 l11 c11] 31 (fun _:Unit=>.int .i64 ((blen (-(y)).natAbs:Nat):Int)) _ (fun w R Q=>(Zef _ (-(y)) _ Q.1.1.2 HFy).mono (fun _ _ h=>Zaf h rfl)) (fun xx=>?_)
  refine xr 1 [(2, .p 2 0),(3, .p 3 0),(4, .p 4 0),(32, .v (.bool ((((blen (-(y)).natAbs:Nat):Int):Int) == 1)))] [bI2 3 34 s11 A11 l11 c11,bI2 2 34 s10 A10 l10 c10,bR4 4 36 false none 0 0 false none 0 0] ?_
  refine xe (Zaa ?_)
  refine Zbb (((((blen (-(y)).natAbs:Nat):Int):Int) == 1)) (by kernel_rfl) (fun hb19=>?_) (fun hb19=>?_)
  ·have hdhb19:=Zcu.1 (Ze3 hb19)
   refine Zab (xr 2 [(2, .p 2 0),(3, .p 3 0),(4, .p 4 0)] [bI2 3 34 false none 0 0,bI2 2 34 s10 A10 l10 c10,bR4 4 36 false none 0 0 false none 0 0] ?_)
   refine xe (Zaa (Zac (Zab (xr 4 [(4, .p 4 0)] [bR4 4 36 s10 A10 l10 c10 false none 0 0] ?_))))
   refine xe (Zaa (Zah ?_))
   refine Zae (v:=.agg #[.bool s10, .slice A10 l10 c10, .bool false, .slice none 0 0]) (by kernel_rfl) (fun w' R Q=>?_)
   exact ⟨_,rfl,Zai.of (by rw [HQ.1]; exact Q.1.1.1.1.2) (by rw [Zbd (by have:=hdhb19; have:=HQ.2; have:=q.den_nz; omega)]; exact (Zax.nil _)),R⟩
  ·have hdhb19:=fun h=>Ze4 hb19 (Zcu.2 h)
   refine ZaA (Zaa (Zac (Zab (xr 4 [(4, .p 4 0)] [bR4 4 36 s10 A10 l10 c10 s11 A11 l11 c11] ?_))))
   refine xe (Zaa (Zah ?_))
   refine Zae (v:=.agg #[.bool s10, .slice A10 l10 c10, .bool s11, .slice A11 l11 c11]) (by kernel_rfl) (fun w' R Q=>?_)
   exact ⟨_,rfl,Zai.of (by rw [HQ.1]; exact Q.1.1.1.1.2) (by rw [ZbN (fun h=>hdhb19 (by have:=HQ.2; omega)),HQ.2]; exact Q.1.1.1.2),R⟩
theorem ZqH (a b:Value) (x y:Int) (q:Rat) (w:World) (ha:Zax w a x) (hb:Zax w b y) (hx:Za5 x) (hy:Za5 y) (h0:0 < y) (hq:Rat.divInt x y=q) :
 Calls Tryz.prog 146 #[a,b] w (ZbF w q):=by
 obtain ⟨s0,A0,l0,c0,rfl⟩:=ha.shp
 obtain ⟨s1,A1,l1,c1,rfl⟩:=hb.shp
 obtain rfl:s1=false:=hb.spos (by omega)
 have HFx:Za5 (x):=hx
 have HFy:Za5 (y):=hy
 have HY:0 < y:=by omega
 have HFg:Za5 ((Int.gcd (x) (y):Nat):Int):=Za5.gcd HFy (by omega)
 have HG0:((Int.gcd (x) (y):Nat):Int)≠0:=by have:=Zhc (x:=x) HY; omega
 have Hq:Rat.divInt (x) (y)=q:=hq
 refine Zan (Φ:=fun w=>(Zax w (.agg #[.bool s0, .slice A0 l0 c0]) (x)∧Zax w (.agg #[.bool false, .slice A1 l1 c1]) (y))) Tryz.func146 rfl (by kernel_rfl) (fun w' hf=>⟨ha.ext hf,hb.ext hf⟩) ?_
 refine Zac (Zab (xr 3 [(2, .p 2 0),(3, .p 3 0),(4, .p 4 0)] [bR4 4 36 false none 0 0 false none 0 0,bI2 3 34 false A1 l1 c1,bI2 2 34 s0 A0 l0 c0] ?_))
 refine xe (Zaa (Zac (Zac (Zab (xr 2 [(2, .p 2 0),(3, .p 3 0),(4, .p 4 0),(7, .v (.bool false))] [bR4 4 36 false none 0 0 false none 0 0,bI2 3 34 false A1 l1 c1,bI2 2 34 s0 A0 l0 c0] ?_)))))
 refine xe (Zaa (xb (ZaA (Zaa (Zac (Zab (xr 2 [(2, .p 2 0),(3, .p 3 0),(4, .p 4 0),eI2 12 s0 A0 l0 c0,eI2 13 false A1 l1 c1] [bR4 4 36 false none 0 0 false none 0 0,bI2 3 34 false A1 l1 c1,bI2 2 34 s0 A0 l0 c0] ?_)))))))
 refine xc 155 [vI2 s0 A0 l0 c0,vI2 false A1 l1 c1] 14 ZaB _ (fun w R Q=>(Znq _ _ (x) (y) _ Q.1 Q.2 HFx HFy).mono (fun _ _=>ZaI)) (fun xx=>?_)
 obtain ⟨s10,A10,l10,c10⟩:=xx
 refine xr 2 [(2, .p 2 0),(3, .p 3 0),(4, .p 4 0),(5, .p 5 0)] [bI2 5 34 s10 A10 l10 c10,bR4 4 36 false none 0 0 false none 0 0,bI2 3 34 false A1 l1 c1,bI2 2 34 s0 A0 l0 c0] ?_
 refine xe (Zaa (Zac (Zac (Zab (xr 1 [(2, .p 2 0),(3, .p 3 0),(4, .p 4 0),(5, .p 5 0),eI2 15 s10 A10 l10 c10] [bI2 5 34 s10 A10 l10 c10,bR4 4 36 false none 0 0 false none 0 0,bI2 3 34 false A1 l1 c1,bI2 2 34 s0 A0 l0 c0] ?_)))))
 refine xc 157 [vI2 s10 A10 l10 c10] 16 (fun _:Unit=>.int .i64 ((blen (((Int.gcd (x) (y):Nat):Int)).natAbs:Nat):Int)) _ (fun w R Q=>(Zef _ (((Int.gcd (x) (y):Nat):Int)) _ Q.2 HFg).mono (fun _ _ h=>Zaf h rfl)) (fun xx=>?_)
 refine xr 1 [(2, .p 2 0),(3, .p 3 0),(4, .p 4 0),(5, .p 5 0),(17, .v (.bool (decide (((blen (((Int.gcd (x) (y):Nat):Int)).natAbs:Nat):Int) > 1))))] [bI2 5 34 s10 A10 l10 c10,bR4 4 36 false none 0 0 false none 0 0,bI2 3 34 false A1 l1 c1,bI2 2 34 s0 A0 l0 c0] ?_
 refine xe (Zaa ?_)
 refine Zbb ((decide (((blen (((Int.gcd (x) (y):Nat):Int)).natAbs:Nat):Int) > 1))) (by kernel_rfl) (fun hb11=>?_) (fun hb11=>?_)
 ·have HQ:=ZlJ Hq HY (Ze2.1 (by have:=of_decide_eq_true hb11; omega))
  refine Zac (Zab (xr 2 [(2, .p 2 0),(3, .p 3 0),(4, .p 4 0),(5, .p 5 0),eI2 19 s0 A0 l0 c0,eI2 20 s10 A10 l10 c10] [bI2 5 34 s10 A10 l10 c10,bR4 4 36 false none 0 0 false none 0 0,bI2 3 34 false A1 l1 c1,bI2 2 34 s0 A0 l0 c0] ?_))
  refine xc 216 [vI2 s0 A0 l0 c0,vI2 s10 A10 l10 c10] 21 ZdZ _ (fun w R Q=>(Ze1 _ _ (x) (((Int.gcd (x) (y):Nat):Int)) _ Q.1.1.1 Q.1.2 HFx HFg HG0).mono (fun _ _=>Zgf)) (fun xx=>?_)
  obtain ⟨⟨s12,A12,l12,c12⟩,⟨s13,A13,l13,c13⟩⟩:=xx
  refine xr 4 [(2, .p 2 0),(3, .p 3 0),(4, .p 4 0),(5, .p 5 0)] [bI2 5 34 s10 A10 l10 c10,bR4 4 36 false none 0 0 false none 0 0,bI2 3 34 false A1 l1 c1,bI2 2 34 s12 A12 l12 c12] ?_
  refine xe (Zaa (Zab (xr 2 [(2, .p 2 0),(3, .p 3 0),(4, .p 4 0),eI2 25 false A1 l1 c1,eI2 26 s10 A10 l10 c10] [bR4 4 36 false none 0 0 false none 0 0,bI2 3 34 false A1 l1 c1,bI2 2 34 s12 A12 l12 c12] ?_)))
  refine xc 216 [vI2 false A1 l1 c1,vI2 s10 A10 l10 c10] 27 ZdZ _ (fun w R Q=>(Ze1 _ _ (y) (((Int.gcd (x) (y):Nat):Int)) _ Q.1.1.1.2 Q.1.1.2 HFy HFg HG0).mono (fun _ _=>Zgf)) (fun xx=>?_)
  obtain ⟨⟨s14,A14,l14,c14⟩,⟨s15,A15,l15,c15⟩⟩:=xx
  refine xr 4 [(2, .p 2 0),(3, .p 3 0),(4, .p 4 0)] [bR4 4 36 false none 0 0 false none 0 0,bI2 3 34 s14 A14 l14 c14,bI2 2 34 s12 A12 l12 c12] ?_
  refine xe (Zaa (Zac (Zac (Zab (xr 1 [(2, .p 2 0),(3, .p 3 0),(4, .p 4 0),eI2 30 s14 A14 l14 c14] [bR4 4 36 false none 0 0 false none 0 0,bI2 3 34 s14 A14 l14 c14,bI2 2 34 s12 A12 l12 c12] ?_)))))
  refine xc 157 [vI2 s14 A14 l14 c14] 31 (fun _:Unit=>.int .i64 ((blen ((y).tdiv (((Int.gcd (x) (y):Nat):Int))).natAbs:Nat):Int)) _ (fun w R Q=>(Zef _ ((y).tdiv (((Int.gcd (x) (y):Nat):Int))) _ Q.2.1 (Za5.tdiv HFy)).mono (fun _ _ h=>Zaf h rfl)) (fun xx=>?_)
  refine xr 1 [(2, .p 2 0),(3, .p 3 0),(4, .p 4 0),(32, .v (.bool ((((blen ((y).tdiv (((Int.gcd (x) (y):Nat):Int))).natAbs:Nat):Int):Int) == 1)))] [bR4 4 36 false none 0 0 false none 0 0,bI2 3 34 s14 A14 l14 c14,bI2 2 34 s12 A12 l12 c12] ?_
  refine xe (Zaa ?_)
  refine Zbb (((((blen ((y).tdiv (((Int.gcd (x) (y):Nat):Int))).natAbs:Nat):Int):Int) == 1)) (by kernel_rfl) (fun hb16=>?_) (fun hb16=>?_)
  ·have hdhb16:=Zcu.1 (Ze3 hb16)
   refine Zab (xr 2 [(2, .p 2 0),(3, .p 3 0),(4, .p 4 0)] [bR4 4 36 false none 0 0 false none 0 0,bI2 3 34 false none 0 0,bI2 2 34 s12 A12 l12 c12] ?_)
   refine xe (Zaa (Zac (Zab (xr 4 [(4, .p 4 0)] [bR4 4 36 s12 A12 l12 c12 false none 0 0] ?_))))
   refine xe (Zaa (Zah ?_))
   refine Zae (v:=.agg #[.bool s12, .slice A12 l12 c12, .bool false, .slice none 0 0]) (by kernel_rfl) (fun w' R Q=>?_)
   exact ⟨_,rfl,Zai.of (by rw [HQ.1]; exact Q.1.1.2.1) (by rw [Zbd (by have:=hdhb16; have:=HQ.2; have:=q.den_nz; omega)]; exact (Zax.nil _)),R⟩
  ·have hdhb16:=fun h=>Ze4 hb16 (Zcu.2 h)
   refine ZaA (Zaa (Zac (Zab (xr 4 [(4, .p 4 0)] [bR4 4 36 s12 A12 l12 c12 s14 A14 l14 c14] ?_))))
   refine xe (Zaa (Zah ?_))
   refine Zae (v:=.agg #[.bool s12, .slice A12 l12 c12, .bool s14, .slice A14 l14 c14]) (by kernel_rfl) (fun w' R Q=>?_)
   exact ⟨_,rfl,Zai.of (by rw [HQ.1]; exact Q.1.1.2.1) (by rw [ZbN (fun h=>hdhb16 (by have:=HQ.2; omega)),HQ.2]; exact Q.1.2.1),R⟩
 ·have HQ:=ZlK Hq HY (fun h=>absurd (Ze2.2 h) (by have:=of_decide_eq_false hb11; omega))
  refine ZaA (Zaa (Zac (Zac (Zab (xr 1 [(2, .p 2 0),(3, .p 3 0),(4, .p 4 0),eI2 30 false A1 l1 c1] [bR4 4 36 false none 0 0 false none 0 0,bI2 3 34 false A1 l1 c1,bI2 2 34 s0 A0 l0 c0] ?_)))))
  refine xc 157 [vI2 false A1 l1 c1] 31 (fun _:Unit=>.int .i64 ((blen (y).natAbs:Nat):Int)) _ (fun w R Q=>(Zef _ (y) _ Q.1.1.2 HFy).mono (fun _ _ h=>Zaf h rfl)) (fun xx=>?_)
  refine xr 1 [(2, .p 2 0),(3, .p 3 0),(4, .p 4 0),(32, .v (.bool ((((blen (y).natAbs:Nat):Int):Int) == 1)))] [bR4 4 36 false none 0 0 false none 0 0,bI2 3 34 false A1 l1 c1,bI2 2 34 s0 A0 l0 c0] ?_
  refine xe (Zaa ?_)
  refine Zbb (((((blen (y).natAbs:Nat):Int):Int) == 1)) (by kernel_rfl) (fun hb17=>?_) (fun hb17=>?_)
  ·have hdhb17:=Zcu.1 (Ze3 hb17)
   refine Zab (xr 2 [(2, .p 2 0),(3, .p 3 0),(4, .p 4 0)] [bR4 4 36 false none 0 0 false none 0 0,bI2 3 34 false none 0 0,bI2 2 34 s0 A0 l0 c0] ?_)
   refine xe (Zaa (Zac (Zab (xr 4 [(4, .p 4 0)] [bR4 4 36 s0 A0 l0 c0 false none 0 0] ?_))))
   refine xe (Zaa (Zah ?_))
   refine Zae (v:=.agg #[.bool s0, .slice A0 l0 c0, .bool false, .slice none 0 0]) (by kernel_rfl) (fun w' R Q=>?_)
   exact ⟨_,rfl,Zai.of (by rw [HQ.1]; exact Q.1.1.1.1) (by rw [Zbd (by have:=hdhb17; have:=HQ.2; have:=q.den_nz; omega)]; exact (Zax.nil _)),R⟩
  ·have hdhb17:=fun h=>Ze4 hb17 (Zcu.2 h)
   refine ZaA (Zaa (Zac (Zab (xr 4 [(4, .p 4 0)] [bR4 4 36 s0 A0 l0 c0 false A1 l1 c1] ?_))))
   refine xe (Zaa (Zah ?_))
   refine Zae (v:=.agg #[.bool s0, .slice A0 l0 c0, .bool false, .slice A1 l1 c1]) (by kernel_rfl) (fun w' R Q=>?_)
   exact ⟨_,rfl,Zai.of (by rw [HQ.1]; exact Q.1.1.1.1) (by rw [ZbN (fun h=>hdhb17 (by have:=HQ.2; omega)),HQ.2]; exact Q.1.1.1.2),R⟩
theorem ZdF (a b:Value) (x y:Int) (w:World) (ha:Zax w a x) (hb:Zax w b y) (hx:Za5 x) (hy:Za5 y) (h0:y≠0):Calls Tryz.prog 146 #[a,b] w (ZbF w (Rat.divInt x y)):=by
 rcases Int.lt_or_gt_of_ne h0 with h | h
 ·exact ZqG a b x y _ w ha hb hx hy h rfl
 ·exact ZqH a b x y _ w ha hb hx hy h rfl
theorem ZlL (a:Value) (q:Rat) (w:World) (ha:Zai w a q) :
 Calls Tryz.prog 109 #[a] w (ZbF w (-q)):=by
 obtain ⟨s0,A0,l0,c0,t0,B0,m0,d0,rfl⟩:=ha.shp
 refine Zan (Φ:=fun w=>Zai w (.agg #[.bool s0, .slice A0 l0 c0, .bool t0, .slice B0 m0 d0]) (q)) Tryz.func109 rfl (by kernel_rfl) (fun w' hf=>ha.ext hf) ?_
 refine Zac (Zab (xr 2 [(1, .p 1 0),(2, .p 2 0)] [bR4 2 36 false none 0 0 false none 0 0,bR4 1 36 s0 A0 l0 c0 t0 B0 m0 d0] ?_))
 refine xe (Zaa (Zac ?_))
 refine ZaE 7 (by kernel_rfl) (by kernel_rfl) Zal ?_
 refine xf 2 [(1, .p 1 0),(2, .p 2 0),eI2 4 s0 A0 l0 c0] [bR4 2 36 false none 0 0 false none 0 0,bR4 1 36 s0 A0 l0 c0 t0 B0 m0 d0] ?_
 refine xd 151 [vI2 s0 A0 l0 c0] 5 ZaB _ (fun w R Q=>(Zjw _ ((q).num) _ Q.num).mono (fun _ _=>ZaI)) (fun xx=>?_)
 obtain ⟨s10,A10,l10,c10⟩:=xx
 refine xf 4 [(2, .p 2 0)] [bR4 2 36 s10 A10 l10 c10 t0 B0 m0 d0,bR4 2 36 false none 0 0 false none 0 0,bR4 1 36 s0 A0 l0 c0 t0 B0 m0 d0] ?_
 refine xz (xe (Zaa (Zah ?_)))
 refine Zae (v:=.agg #[.bool s10, .slice A10 l10 c10, .bool t0, .slice B0 m0 d0]) (by kernel_rfl) (fun w' R Q=>?_)
 exact ⟨_,rfl,Zai.of (by rw [Zg7]; exact Q.2) (by rw [Zni]; exact Q.1.den),R⟩
theorem Zbh (a:Value) (q:Rat) (w:World) (ha:Zai w a q) :
 Calls Tryz.prog 103 #[a] w (RetV w (.int .i64 q.num.sign)):=by
 obtain ⟨s0,A0,l0,c0,t0,B0,m0,d0,rfl⟩:=ha.shp
 refine Zan (Φ:=fun w=>Zai w (.agg #[.bool s0, .slice A0 l0 c0, .bool t0, .slice B0 m0 d0]) (q)) Tryz.func103 rfl (by kernel_rfl) (fun w' hf=>ha.ext hf) ?_
 refine Zac (Zab (xr 2 [(1, .p 1 0),(2, .v (.int .i64 0))] [bR4 1 36 s0 A0 l0 c0 t0 B0 m0 d0] ?_))
 refine xe (Zaa (Zac (Zab (xr 2 [(2, .v (.int .i64 0)),eI2 4 s0 A0 l0 c0] [] ?_))))
 refine xc 195 [vI2 s0 A0 l0 c0] 5 (fun _:Unit=>.int .i64 ((q).num).sign) _ (fun w R Q=>(Zh8 _ ((q).num) _ Q.num).mono (fun _ _ h=>Zaf h rfl)) (fun xx=>?_)
 refine xr 1 [(2, .v (.int .i64 ((q).num).sign))] [] ?_
 refine xe (Zaa (Zah ?_))
 refine Zae (v:=.int .i64 ((q).num).sign) (by kernel_rfl) (fun w' R Q=>?_)
 exact ⟨rfl,R⟩
theorem Zok (a b:Value) (p q:Rat) (w:World) (ha:Zai w a p) (hb:Zai w b q) (hp:Zbu p) (hq:Zbu q) (h1:p.den=1) (h2:q.den=1) :
 Calls Tryz.prog 176 #[a,b] w (ZbF w (p + q)):=by
 obtain ⟨s0,A0,l0,c0,t0,B0,m0,d0,rfl⟩:=ha.shp
 obtain rfl:m0=0:=ha.den.len0 (Zbd h1)
 obtain ⟨s1,A1,l1,c1,t1,B1,m1,d1,rfl⟩:=hb.shp
 obtain rfl:m1=0:=hb.den.len0 (Zbd h2)
 have S1:ml p.num.natAbs≤100000:=hp.1
 have S2:ml q.num.natAbs≤100000:=hq.1
 have S3:ml ((p.den:Nat):Int).natAbs≤100000:=mlc hp.2
 have S4:ml ((q.den:Nat):Int).natAbs≤100000:=mlc hq.2
 refine Zan (Φ:=fun w=>(Zai w (.agg #[.bool s0, .slice A0 l0 c0, .bool t0, .slice B0 0 d0]) (p)∧Zai w (.agg #[.bool s1, .slice A1 l1 c1, .bool t1, .slice B1 0 d1]) (q))) Tryz.func176 rfl (by kernel_rfl) (fun w' hf=>⟨ha.ext hf,hb.ext hf⟩) ?_
 refine Zac (Zab (xr 3 [(2, .p 2 0),(3, .p 3 0),(4, .p 4 0)] [bR4 4 36 false none 0 0 false none 0 0,bR4 3 36 s1 A1 l1 c1 t1 B1 0 d1,bR4 2 36 s0 A0 l0 c0 t0 B0 0 d0] ?_))
 refine xe (Zaa (Zac (Zac (Zab (xr 12 [(2, .p 2 0),(3, .p 3 0),(4, .p 4 0),(16, .v (.bool true))] [bR4 4 36 false none 0 0 false none 0 0,bR4 3 36 s1 A1 l1 c1 t1 B1 0 d1,bR4 2 36 s0 A0 l0 c0 t0 B0 0 d0] ?_)))))
 refine xe (Zaa (xa (Zac (Zab (xr 4 [(2, .p 2 0),(3, .p 3 0),(4, .p 4 0),eI2 18 s0 A0 l0 c0,eI2 20 s1 A1 l1 c1] [bR4 4 36 false none 0 0 false none 0 0,bR4 3 36 s1 A1 l1 c1 t1 B1 0 d1,bR4 2 36 s0 A0 l0 c0 t0 B0 0 d0] ?_)))))
 refine xc 217 [vI2 s0 A0 l0 c0,vI2 s1 A1 l1 c1] 21 ZaB _ (fun w R Q=>(Zjt _ _ ((p).num) ((q).num) _ Q.1.num Q.2.num (nfit S1 (by decide)) (nfit S2 (by decide))).mono (fun _ _=>ZaI)) (fun xx=>?_)
 obtain ⟨s10,A10,l10,c10⟩:=xx
 refine xr 2 [(2, .p 2 0),(3, .p 3 0),(4, .p 4 0)] [bR4 4 36 s10 A10 l10 c10 false none 0 0,bR4 3 36 s1 A1 l1 c1 t1 B1 0 d1,bR4 2 36 s0 A0 l0 c0 t0 B0 0 d0] ?_
 refine xe (Zaa (Zah (Zaj ?_)))
 refine Zae (v:=.agg #[.bool s10, .slice A10 l10 c10, .bool false, .slice none 0 0]) (by kernel_rfl) (fun w' R Q=>?_)
 exact ⟨_,rfl,Zai.of (by rw [(Ze9 h1 h2).1]; exact Q.2) (by rw [Zbd (Ze9 h1 h2).2]; exact (Zax.nil _)),R⟩
theorem Zol (a b:Value) (p q:Rat) (w:World) (ha:Zai w a p) (hb:Zai w b q) (hp:Zbu p) (hq:Zbu q) (h1:¬ p.den=1) :
 Calls Tryz.prog 176 #[a,b] w (ZbF w (p + q)):=by
 obtain ⟨s0,A0,l0,c0,t0,B0,m0,d0,rfl⟩:=ha.shp
 obtain ⟨k0,rfl⟩:∃ k,m0=k + 1:=⟨m0 - 1,by have:=ha.den.lenp (ZeP h1); omega⟩
 obtain ⟨s1,A1,l1,c1,t1,B1,m1,d1,rfl⟩:=hb.shp
 have S1:ml p.num.natAbs≤100000:=hp.1
 have S2:ml q.num.natAbs≤100000:=hq.1
 have S3:ml ((p.den:Nat):Int).natAbs≤100000:=mlc hp.2
 have S4:ml ((q.den:Nat):Int).natAbs≤100000:=mlc hq.2
 refine Zan (Φ:=fun w=>(Zai w (.agg #[.bool s0, .slice A0 l0 c0, .bool t0, .slice B0 (k0 + 1) d0]) (p)∧Zai w (.agg #[.bool s1, .slice A1 l1 c1, .bool t1, .slice B1 m1 d1]) (q))) Tryz.func176 rfl (by kernel_rfl) (fun w' hf=>⟨ha.ext hf,hb.ext hf⟩) ?_
 refine Zac (Zab (xr 3 [(2, .p 2 0),(3, .p 3 0),(4, .p 4 0)] [bR4 4 36 false none 0 0 false none 0 0,bR4 3 36 s1 A1 l1 c1 t1 B1 m1 d1,bR4 2 36 s0 A0 l0 c0 t0 B0 (k0 + 1) d0] ?_))
 refine xe (Zaa (Zac (Zac (Zab (xr 12 [(2, .p 2 0),(3, .p 3 0),(4, .p 4 0),(16, .v (.bool false))] [bR4 4 36 false none 0 0 false none 0 0,bR4 3 36 s1 A1 l1 c1 t1 B1 m1 d1,bR4 2 36 s0 A0 l0 c0 t0 B0 (k0 + 1) d0] ?_)))))
 refine xe (Zaa (xb (ZaA (Zaa (Zac ?_)))))
 refine ZaE 18 (by kernel_rfl) (by kernel_rfl) Zal ?_
 refine xf 3 [(2, .p 2 0),(3, .p 3 0),(4, .p 4 0),eI2 24 s0 A0 l0 c0,eR4 25 s1 A1 l1 c1 t1 B1 m1 d1] [bR4 4 36 false none 0 0 false none 0 0,bR4 3 36 s1 A1 l1 c1 t1 B1 m1 d1,bR4 2 36 s0 A0 l0 c0 t0 B0 (k0 + 1) d0] ?_
 refine xd 196 [vR4 s1 A1 l1 c1 t1 B1 m1 d1] 26 ZaB _ (fun w R Q=>(ZbC _ (q) _ Q.2).mono (fun _ _=>ZaI)) (fun xx=>?_)
 obtain ⟨s10,A10,l10,c10⟩:=xx
 refine xf 0 [(2, .p 2 0),(3, .p 3 0),(4, .p 4 0),eI2 24 s0 A0 l0 c0,eI2 26 s10 A10 l10 c10] [bR4 4 36 false none 0 0 false none 0 0,bR4 3 36 s1 A1 l1 c1 t1 B1 m1 d1,bR4 2 36 s0 A0 l0 c0 t0 B0 (k0 + 1) d0] ?_
 refine xd 145 [vI2 s0 A0 l0 c0,vI2 s10 A10 l10 c10] 27 ZaB _ (fun w R Q=>(ZbM _ _ ((p).num) (((q).den:Int)) _ Q.1.1.num Q.2 (nfit S1 (by decide)) (nfit S4 (by decide))).mono (fun _ _=>ZaI)) (fun xx=>?_)
 obtain ⟨s11,A11,l11,c11⟩:=xx
 refine xf 3 [(2, .p 2 0),(3, .p 3 0),(4, .p 4 0),eI2 27 s11 A11 l11 c11,eI2 29 s1 A1 l1 c1,eR4 30 s0 A0 l0 c0 t0 B0 (k0 + 1) d0] [bR4 4 36 false none 0 0 false none 0 0,bR4 3 36 s1 A1 l1 c1 t1 B1 m1 d1,bR4 2 36 s0 A0 l0 c0 t0 B0 (k0 + 1) d0] ?_
 refine xd 196 [vR4 s0 A0 l0 c0 t0 B0 (k0 + 1) d0] 31 ZaB _ (fun w R Q=>(ZbC _ (p) _ Q.1.1.1).mono (fun _ _=>ZaI)) (fun xx=>?_)
 obtain ⟨s12,A12,l12,c12⟩:=xx
 refine xf 0 [(2, .p 2 0),(3, .p 3 0),(4, .p 4 0),eI2 27 s11 A11 l11 c11,eI2 29 s1 A1 l1 c1,eI2 31 s12 A12 l12 c12] [bR4 4 36 false none 0 0 false none 0 0,bR4 3 36 s1 A1 l1 c1 t1 B1 m1 d1,bR4 2 36 s0 A0 l0 c0 t0 B0 (k0 + 1) d0] ?_
 refine xd 145 [vI2 s1 A1 l1 c1,vI2 s12 A12 l12 c12] 32 ZaB _ (fun w R Q=>(ZbM _ _ ((q).num) (((p).den:Int)) _ Q.1.1.1.2.num Q.2 (nfit S2 (by decide)) (nfit S3 (by decide))).mono (fun _ _=>ZaI)) (fun xx=>?_)
 obtain ⟨s13,A13,l13,c13⟩:=xx
 refine xf 0 [(2, .p 2 0),(3, .p 3 0),(4, .p 4 0),eI2 27 s11 A11 l11 c11,eI2 32 s13 A13 l13 c13] [bR4 4 36 false none 0 0 false none 0 0,bR4 3 36 s1 A1 l1 c1 t1 B1 m1 d1,bR4 2 36 s0 A0 l0 c0 t0 B0 (k0 + 1) d0] ?_
 refine xd 217 [vI2 s11 A11 l11 c11,vI2 s13 A13 l13 c13] 33 ZaB _ (fun w R Q=>(Zjt _ _ (((p).num) * (((q).den:Int))) (((q).num) * (((p).den:Int))) _ Q.1.1.2 Q.2 (nfit (mlm S1 S4) (by decide)) (nfit (mlm S2 S3) (by decide))).mono (fun _ _=>ZaI)) (fun xx=>?_)
 obtain ⟨s14,A14,l14,c14⟩:=xx
 refine xf 1 [(3, .p 3 0),(4, .p 4 0),eI2 33 s14 A14 l14 c14,eR4 34 s0 A0 l0 c0 t0 B0 (k0 + 1) d0] [bR4 4 36 false none 0 0 false none 0 0,bR4 3 36 s1 A1 l1 c1 t1 B1 m1 d1,bR4 2 36 s0 A0 l0 c0 t0 B0 (k0 + 1) d0] ?_
 refine xd 196 [vR4 s0 A0 l0 c0 t0 B0 (k0 + 1) d0] 35 ZaB _ (fun w R Q=>(ZbC _ (p) _ Q.1.1.1.1.1.1).mono (fun _ _=>ZaI)) (fun xx=>?_)
 obtain ⟨s15,A15,l15,c15⟩:=xx
 refine xf 1 [(4, .p 4 0),eI2 33 s14 A14 l14 c14,eI2 35 s15 A15 l15 c15,eR4 36 s1 A1 l1 c1 t1 B1 m1 d1] [bR4 4 36 false none 0 0 false none 0 0,bR4 3 36 s1 A1 l1 c1 t1 B1 m1 d1,bR4 2 36 s0 A0 l0 c0 t0 B0 (k0 + 1) d0] ?_
 refine xd 196 [vR4 s1 A1 l1 c1 t1 B1 m1 d1] 37 ZaB _ (fun w R Q=>(ZbC _ (q) _ Q.1.1.1.1.1.1.2).mono (fun _ _=>ZaI)) (fun xx=>?_)
 obtain ⟨s16,A16,l16,c16⟩:=xx
 refine xf 0 [(4, .p 4 0),eI2 33 s14 A14 l14 c14,eI2 35 s15 A15 l15 c15,eI2 37 s16 A16 l16 c16] [bR4 4 36 false none 0 0 false none 0 0,bR4 3 36 s1 A1 l1 c1 t1 B1 m1 d1,bR4 2 36 s0 A0 l0 c0 t0 B0 (k0 + 1) d0] ?_
 refine xd 145 [vI2 s15 A15 l15 c15,vI2 s16 A16 l16 c16] 38 ZaB _ (fun w R Q=>(ZbM _ _ (((p).den:Int)) (((q).den:Int)) _ Q.1.2 Q.2 (nfit S3 (by decide)) (nfit S4 (by decide))).mono (fun _ _=>ZaI)) (fun xx=>?_)
 obtain ⟨s17,A17,l17,c17⟩:=xx
 refine xf 0 [(4, .p 4 0),eI2 33 s14 A14 l14 c14,eI2 38 s17 A17 l17 c17] [bR4 4 36 false none 0 0 false none 0 0,bR4 3 36 s1 A1 l1 c1 t1 B1 m1 d1,bR4 2 36 s0 A0 l0 c0 t0 B0 (k0 + 1) d0] ?_
 refine xd 146 [vI2 s14 A14 l14 c14,vI2 s17 A17 l17 c17] 39 Zak _ (fun w R Q=>(ZdF _ _ ((((p).num) * (((q).den:Int))) + (((q).num) * (((p).den:Int)))) ((((p).den:Int)) * (((q).den:Int))) _ Q.1.1.1.2 Q.2 (nfit (mla (a:=200000) (mlm S1 S4) (mlm S2 S3)) (by decide)) (nfit (mlm S3 S4) (by decide)) (Int.mul_ne_zero (denI p) (denI q))).mono (fun _ _ h=>ZaJ (by rw [ZfK] at h; exact h))) (fun xx=>?_)
 obtain ⟨s18,A18,l18,c18,t18,B18,m18,d18⟩:=xx
 refine xf 1 [(4, .p 4 0)] [bR4 4 36 s18 A18 l18 c18 t18 B18 m18 d18,bR4 4 36 false none 0 0 false none 0 0,bR4 3 36 s1 A1 l1 c1 t1 B1 m1 d1,bR4 2 36 s0 A0 l0 c0 t0 B0 (k0 + 1) d0] ?_
 refine xz (xe (Zaa (Zah ?_)))
 refine Zae (v:=.agg #[.bool s18, .slice A18 l18 c18, .bool t18, .slice B18 m18 d18]) (by kernel_rfl) (fun w' R Q=>?_)
 exact ⟨_,rfl,Q.2,R⟩
theorem Zom (a b:Value) (p q:Rat) (w:World) (ha:Zai w a p) (hb:Zai w b q) (hp:Zbu p) (hq:Zbu q) (h1:p.den=1) (h2:¬ q.den=1) :
 Calls Tryz.prog 176 #[a,b] w (ZbF w (p + q)):=by
 obtain ⟨s0,A0,l0,c0,t0,B0,m0,d0,rfl⟩:=ha.shp
 obtain rfl:m0=0:=ha.den.len0 (Zbd h1)
 obtain ⟨s1,A1,l1,c1,t1,B1,m1,d1,rfl⟩:=hb.shp
 obtain ⟨k1,rfl⟩:∃ k,m1=k + 1:=⟨m1 - 1,by have:=hb.den.lenp (ZeP h2); omega⟩
 have S1:ml p.num.natAbs≤100000:=hp.1
 have S2:ml q.num.natAbs≤100000:=hq.1
 have S3:ml ((p.den:Nat):Int).natAbs≤100000:=mlc hp.2
 have S4:ml ((q.den:Nat):Int).natAbs≤100000:=mlc hq.2
 refine Zan (Φ:=fun w=>(Zai w (.agg #[.bool s0, .slice A0 l0 c0, .bool t0, .slice B0 0 d0]) (p)∧Zai w (.agg #[.bool s1, .slice A1 l1 c1, .bool t1, .slice B1 (k1 + 1) d1]) (q))) Tryz.func176 rfl (by kernel_rfl) (fun w' hf=>⟨ha.ext hf,hb.ext hf⟩) ?_
 refine Zac (Zab (xr 3 [(2, .p 2 0),(3, .p 3 0),(4, .p 4 0)] [bR4 4 36 false none 0 0 false none 0 0,bR4 3 36 s1 A1 l1 c1 t1 B1 (k1 + 1) d1,bR4 2 36 s0 A0 l0 c0 t0 B0 0 d0] ?_))
 refine xe (Zaa (Zac (Zac (Zab (xr 12 [(2, .p 2 0),(3, .p 3 0),(4, .p 4 0),(16, .v (.bool false))] [bR4 4 36 false none 0 0 false none 0 0,bR4 3 36 s1 A1 l1 c1 t1 B1 (k1 + 1) d1,bR4 2 36 s0 A0 l0 c0 t0 B0 0 d0] ?_)))))
 refine xe (Zaa (xb (ZaA (Zaa (Zac ?_)))))
 refine ZaE 18 (by kernel_rfl) (by kernel_rfl) Zal ?_
 refine xf 3 [(2, .p 2 0),(3, .p 3 0),(4, .p 4 0),eI2 24 s0 A0 l0 c0,eR4 25 s1 A1 l1 c1 t1 B1 (k1 + 1) d1] [bR4 4 36 false none 0 0 false none 0 0,bR4 3 36 s1 A1 l1 c1 t1 B1 (k1 + 1) d1,bR4 2 36 s0 A0 l0 c0 t0 B0 0 d0] ?_
 refine xd 196 [vR4 s1 A1 l1 c1 t1 B1 (k1 + 1) d1] 26 ZaB _ (fun w R Q=>(ZbC _ (q) _ Q.2).mono (fun _ _=>ZaI)) (fun xx=>?_)
 obtain ⟨s10,A10,l10,c10⟩:=xx
 refine xf 0 [(2, .p 2 0),(3, .p 3 0),(4, .p 4 0),eI2 24 s0 A0 l0 c0,eI2 26 s10 A10 l10 c10] [bR4 4 36 false none 0 0 false none 0 0,bR4 3 36 s1 A1 l1 c1 t1 B1 (k1 + 1) d1,bR4 2 36 s0 A0 l0 c0 t0 B0 0 d0] ?_
 refine xd 145 [vI2 s0 A0 l0 c0,vI2 s10 A10 l10 c10] 27 ZaB _ (fun w R Q=>(ZbM _ _ ((p).num) (((q).den:Int)) _ Q.1.1.num Q.2 (nfit S1 (by decide)) (nfit S4 (by decide))).mono (fun _ _=>ZaI)) (fun xx=>?_)
 obtain ⟨s11,A11,l11,c11⟩:=xx
 refine xf 3 [(2, .p 2 0),(3, .p 3 0),(4, .p 4 0),eI2 27 s11 A11 l11 c11,eI2 29 s1 A1 l1 c1,eR4 30 s0 A0 l0 c0 t0 B0 0 d0] [bR4 4 36 false none 0 0 false none 0 0,bR4 3 36 s1 A1 l1 c1 t1 B1 (k1 + 1) d1,bR4 2 36 s0 A0 l0 c0 t0 B0 0 d0] ?_
 refine xd 196 [vR4 s0 A0 l0 c0 t0 B0 0 d0] 31 ZaB _ (fun w R Q=>(ZbC _ (p) _ Q.1.1.1).mono (fun _ _=>ZaI)) (fun xx=>?_)
 obtain ⟨s12,A12,l12,c12⟩:=xx
 refine xf 0 [(2, .p 2 0),(3, .p 3 0),(4, .p 4 0),eI2 27 s11 A11 l11 c11,eI2 29 s1 A1 l1 c1,eI2 31 s12 A12 l12 c12] [bR4 4 36 false none 0 0 false none 0 0,bR4 3 36 s1 A1 l1 c1 t1 B1 (k1 + 1) d1,bR4 2 36 s0 A0 l0 c0 t0 B0 0 d0] ?_
 refine xd 145 [vI2 s1 A1 l1 c1,vI2 s12 A12 l12 c12] 32 ZaB _ (fun w R Q=>(ZbM _ _ ((q).num) (((p).den:Int)) _ Q.1.1.1.2.num Q.2 (nfit S2 (by decide)) (nfit S3 (by decide))).mono (fun _ _=>ZaI)) (fun xx=>?_)
 obtain ⟨s13,A13,l13,c13⟩:=xx
 refine xf 0 [(2, .p 2 0),(3, .p 3 0),(4, .p 4 0),eI2 27 s11 A11 l11 c11,eI2 32 s13 A13 l13 c13] [bR4 4 36 false none 0 0 false none 0 0,bR4 3 36 s1 A1 l1 c1 t1 B1 (k1 + 1) d1,bR4 2 36 s0 A0 l0 c0 t0 B0 0 d0] ?_
 refine xd 217 [vI2 s11 A11 l11 c11,vI2 s13 A13 l13 c13] 33 ZaB _ (fun w R Q=>(Zjt _ _ (((p).num) * (((q).den:Int))) (((q).num) * (((p).den:Int))) _ Q.1.1.2 Q.2 (nfit (mlm S1 S4) (by decide)) (nfit (mlm S2 S3) (by decide))).mono (fun _ _=>ZaI)) (fun xx=>?_)
 obtain ⟨s14,A14,l14,c14⟩:=xx
 refine xf 1 [(3, .p 3 0),(4, .p 4 0),eI2 33 s14 A14 l14 c14,eR4 34 s0 A0 l0 c0 t0 B0 0 d0] [bR4 4 36 false none 0 0 false none 0 0,bR4 3 36 s1 A1 l1 c1 t1 B1 (k1 + 1) d1,bR4 2 36 s0 A0 l0 c0 t0 B0 0 d0] ?_
 refine xd 196 [vR4 s0 A0 l0 c0 t0 B0 0 d0] 35 ZaB _ (fun w R Q=>(ZbC _ (p) _ Q.1.1.1.1.1.1).mono (fun _ _=>ZaI)) (fun xx=>?_)
 obtain ⟨s15,A15,l15,c15⟩:=xx
 refine xf 1 [(4, .p 4 0),eI2 33 s14 A14 l14 c14,eI2 35 s15 A15 l15 c15,eR4 36 s1 A1 l1 c1 t1 B1 (k1 + 1) d1] [bR4 4 36 false none 0 0 false none 0 0,bR4 3 36 s1 A1 l1 c1 t1 B1 (k1 + 1) d1,bR4 2 36 s0 A0 l0 c0 t0 B0 0 d0] ?_
 refine xd 196 [vR4 s1 A1 l1 c1 t1 B1 (k1 + 1) d1] 37 ZaB _ (fun w R Q=>(ZbC _ (q) _ Q.1.1.1.1.1.1.2).mono (fun _ _=>ZaI)) (fun xx=>?_)
 obtain ⟨s16,A16,l16,c16⟩:=xx
 refine xf 0 [(4, .p 4 0),eI2 33 s14 A14 l14 c14,eI2 35 s15 A15 l15 c15,eI2 37 s16 A16 l16 c16] [bR4 4 36 false none 0 0 false none 0 0,bR4 3 36 s1 A1 l1 c1 t1 B1 (k1 + 1) d1,bR4 2 36 s0 A0 l0 c0 t0 B0 0 d0] ?_
 refine xd 145 [vI2 s15 A15 l15 c15,vI2 s16 A16 l16 c16] 38 ZaB _ (fun w R Q=>(ZbM _ _ (((p).den:Int)) (((q).den:Int)) _ Q.1.2 Q.2 (nfit S3 (by decide)) (nfit S4 (by decide))).mono (fun _ _=>ZaI)) (fun xx=>?_)
 obtain ⟨s17,A17,l17,c17⟩:=xx
 refine xf 0 [(4, .p 4 0),eI2 33 s14 A14 l14 c14,eI2 38 s17 A17 l17 c17] [bR4 4 36 false none 0 0 false none 0 0,bR4 3 36 s1 A1 l1 c1 t1 B1 (k1 + 1) d1,bR4 2 36 s0 A0 l0 c0 t0 B0 0 d0] ?_
 refine xd 146 [vI2 s14 A14 l14 c14,vI2 s17 A17 l17 c17] 39 Zak _ (fun w R Q=>(ZdF _ _ ((((p).num) * (((q).den:Int))) + (((q).num) * (((p).den:Int)))) ((((p).den:Int)) * (((q).den:Int))) _ Q.1.1.1.2 Q.2 (nfit (mla (a:=200000) (mlm S1 S4) (mlm S2 S3)) (by decide)) (nfit (mlm S3 S4) (by decide)) (Int.mul_ne_zero (denI p) (denI q))).mono (fun _ _ h=>ZaJ (by rw [ZfK] at h; exact h))) (fun xx=>?_)
 obtain ⟨s18,A18,l18,c18,t18,B18,m18,d18⟩:=xx
 refine xf 1 [(4, .p 4 0)] [bR4 4 36 s18 A18 l18 c18 t18 B18 m18 d18,bR4 4 36 false none 0 0 false none 0 0,bR4 3 36 s1 A1 l1 c1 t1 B1 (k1 + 1) d1,bR4 2 36 s0 A0 l0 c0 t0 B0 0 d0] ?_
 refine xz (xe (Zaa (Zah ?_)))
 refine Zae (v:=.agg #[.bool s18, .slice A18 l18 c18, .bool t18, .slice B18 m18 d18]) (by kernel_rfl) (fun w' R Q=>?_)
 exact ⟨_,rfl,Q.2,R⟩
theorem Zeg (a b:Value) (p q:Rat) (w:World) (ha:Zai w a p) (hb:Zai w b q) (hp:Zbu p) (hq:Zbu q):Calls Tryz.prog 176 #[a,b] w (ZbF w (p + q)):=by
 by_cases h1:p.den=1
 ·by_cases h2:q.den=1
  ·exact Zok a b p q w ha hb hp hq h1 h2
  ·exact Zom a b p q w ha hb hp hq h1 h2
 ·exact Zol a b p q w ha hb hp hq h1
theorem Zon (a b:Value) (p q:Rat) (w:World) (ha:Zai w a p) (hb:Zai w b q) (hp:Zbu p) (hq:Zbu q) (h1:p.den=1) (h2:q.den=1) :
 Calls Tryz.prog 101 #[a,b] w (ZbF w (p * q)):=by
 obtain ⟨s0,A0,l0,c0,t0,B0,m0,d0,rfl⟩:=ha.shp
 obtain rfl:m0=0:=ha.den.len0 (Zbd h1)
 obtain ⟨s1,A1,l1,c1,t1,B1,m1,d1,rfl⟩:=hb.shp
 obtain rfl:m1=0:=hb.den.len0 (Zbd h2)
 have S1:ml p.num.natAbs≤100000:=hp.1
 have S2:ml q.num.natAbs≤100000:=hq.1
 have S3:ml ((p.den:Nat):Int).natAbs≤100000:=mlc hp.2
 have S4:ml ((q.den:Nat):Int).natAbs≤100000:=mlc hq.2
 refine Zan (Φ:=fun w=>(Zai w (.agg #[.bool s0, .slice A0 l0 c0, .bool t0, .slice B0 0 d0]) (p)∧Zai w (.agg #[.bool s1, .slice A1 l1 c1, .bool t1, .slice B1 0 d1]) (q))) Tryz.func101 rfl (by kernel_rfl) (fun w' hf=>⟨ha.ext hf,hb.ext hf⟩) ?_
 refine Zac (Zab (xr 3 [(2, .p 2 0),(3, .p 3 0),(4, .p 4 0)] [bR4 4 36 false none 0 0 false none 0 0,bR4 3 36 s1 A1 l1 c1 t1 B1 0 d1,bR4 2 36 s0 A0 l0 c0 t0 B0 0 d0] ?_))
 refine xe (Zaa (Zac (Zac (Zab (xr 12 [(2, .p 2 0),(3, .p 3 0),(4, .p 4 0),(16, .v (.bool true))] [bR4 4 36 false none 0 0 false none 0 0,bR4 3 36 s1 A1 l1 c1 t1 B1 0 d1,bR4 2 36 s0 A0 l0 c0 t0 B0 0 d0] ?_)))))
 refine xe (Zaa (xa (Zac (Zab (xr 4 [(2, .p 2 0),(3, .p 3 0),(4, .p 4 0),eI2 18 s0 A0 l0 c0,eI2 20 s1 A1 l1 c1] [bR4 4 36 false none 0 0 false none 0 0,bR4 3 36 s1 A1 l1 c1 t1 B1 0 d1,bR4 2 36 s0 A0 l0 c0 t0 B0 0 d0] ?_)))))
 refine xc 145 [vI2 s0 A0 l0 c0,vI2 s1 A1 l1 c1] 21 ZaB _ (fun w R Q=>(ZbM _ _ ((p).num) ((q).num) _ Q.1.num Q.2.num (nfit S1 (by decide)) (nfit S2 (by decide))).mono (fun _ _=>ZaI)) (fun xx=>?_)
 obtain ⟨s10,A10,l10,c10⟩:=xx
 refine xr 2 [(2, .p 2 0),(3, .p 3 0),(4, .p 4 0)] [bR4 4 36 s10 A10 l10 c10 false none 0 0,bR4 3 36 s1 A1 l1 c1 t1 B1 0 d1,bR4 2 36 s0 A0 l0 c0 t0 B0 0 d0] ?_
 refine xe (Zaa (Zah (Zaj ?_)))
 refine Zae (v:=.agg #[.bool s10, .slice A10 l10 c10, .bool false, .slice none 0 0]) (by kernel_rfl) (fun w' R Q=>?_)
 exact ⟨_,rfl,Zai.of (by rw [(Zfa h1 h2).1]; exact Q.2) (by rw [Zbd (Zfa h1 h2).2]; exact (Zax.nil _)),R⟩
theorem Zoo (a b:Value) (p q:Rat) (w:World) (ha:Zai w a p) (hb:Zai w b q) (hp:Zbu p) (hq:Zbu q) (h1:¬ p.den=1) :
 Calls Tryz.prog 101 #[a,b] w (ZbF w (p * q)):=by
 obtain ⟨s0,A0,l0,c0,t0,B0,m0,d0,rfl⟩:=ha.shp
 obtain ⟨k0,rfl⟩:∃ k,m0=k + 1:=⟨m0 - 1,by have:=ha.den.lenp (ZeP h1); omega⟩
 obtain ⟨s1,A1,l1,c1,t1,B1,m1,d1,rfl⟩:=hb.shp
 have S1:ml p.num.natAbs≤100000:=hp.1
 have S2:ml q.num.natAbs≤100000:=hq.1
 have S3:ml ((p.den:Nat):Int).natAbs≤100000:=mlc hp.2
 have S4:ml ((q.den:Nat):Int).natAbs≤100000:=mlc hq.2
 refine Zan (Φ:=fun w=>(Zai w (.agg #[.bool s0, .slice A0 l0 c0, .bool t0, .slice B0 (k0 + 1) d0]) (p)∧Zai w (.agg #[.bool s1, .slice A1 l1 c1, .bool t1, .slice B1 m1 d1]) (q))) Tryz.func101 rfl (by kernel_rfl) (fun w' hf=>⟨ha.ext hf,hb.ext hf⟩) ?_
 refine Zac (Zab (xr 3 [(2, .p 2 0),(3, .p 3 0),(4, .p 4 0)] [bR4 4 36 false none 0 0 false none 0 0,bR4 3 36 s1 A1 l1 c1 t1 B1 m1 d1,bR4 2 36 s0 A0 l0 c0 t0 B0 (k0 + 1) d0] ?_))
 refine xe (Zaa (Zac (Zac (Zab (xr 12 [(2, .p 2 0),(3, .p 3 0),(4, .p 4 0),(16, .v (.bool false))] [bR4 4 36 false none 0 0 false none 0 0,bR4 3 36 s1 A1 l1 c1 t1 B1 m1 d1,bR4 2 36 s0 A0 l0 c0 t0 B0 (k0 + 1) d0] ?_)))))
 refine xe (Zaa (xb (ZaA (Zaa (Zac ?_)))))
 refine ZaE 12 (by kernel_rfl) (by kernel_rfl) Zal ?_
 refine xf 4 [(2, .p 2 0),(3, .p 3 0),(4, .p 4 0),eI2 24 s0 A0 l0 c0,eI2 26 s1 A1 l1 c1] [bR4 4 36 false none 0 0 false none 0 0,bR4 3 36 s1 A1 l1 c1 t1 B1 m1 d1,bR4 2 36 s0 A0 l0 c0 t0 B0 (k0 + 1) d0] ?_
 refine xd 145 [vI2 s0 A0 l0 c0,vI2 s1 A1 l1 c1] 27 ZaB _ (fun w R Q=>(ZbM _ _ ((p).num) ((q).num) _ Q.1.num Q.2.num (nfit S1 (by decide)) (nfit S2 (by decide))).mono (fun _ _=>ZaI)) (fun xx=>?_)
 obtain ⟨s10,A10,l10,c10⟩:=xx
 refine xf 1 [(3, .p 3 0),(4, .p 4 0),eI2 27 s10 A10 l10 c10,eR4 28 s0 A0 l0 c0 t0 B0 (k0 + 1) d0] [bR4 4 36 false none 0 0 false none 0 0,bR4 3 36 s1 A1 l1 c1 t1 B1 m1 d1,bR4 2 36 s0 A0 l0 c0 t0 B0 (k0 + 1) d0] ?_
 refine xd 196 [vR4 s0 A0 l0 c0 t0 B0 (k0 + 1) d0] 29 ZaB _ (fun w R Q=>(ZbC _ (p) _ Q.1.1).mono (fun _ _=>ZaI)) (fun xx=>?_)
 obtain ⟨s11,A11,l11,c11⟩:=xx
 refine xf 1 [(4, .p 4 0),eI2 27 s10 A10 l10 c10,eI2 29 s11 A11 l11 c11,eR4 30 s1 A1 l1 c1 t1 B1 m1 d1] [bR4 4 36 false none 0 0 false none 0 0,bR4 3 36 s1 A1 l1 c1 t1 B1 m1 d1,bR4 2 36 s0 A0 l0 c0 t0 B0 (k0 + 1) d0] ?_
 refine xd 196 [vR4 s1 A1 l1 c1 t1 B1 m1 d1] 31 ZaB _ (fun w R Q=>(ZbC _ (q) _ Q.1.1.2).mono (fun _ _=>ZaI)) (fun xx=>?_)
 obtain ⟨s12,A12,l12,c12⟩:=xx
 refine xf 0 [(4, .p 4 0),eI2 27 s10 A10 l10 c10,eI2 29 s11 A11 l11 c11,eI2 31 s12 A12 l12 c12] [bR4 4 36 false none 0 0 false none 0 0,bR4 3 36 s1 A1 l1 c1 t1 B1 m1 d1,bR4 2 36 s0 A0 l0 c0 t0 B0 (k0 + 1) d0] ?_
 refine xd 145 [vI2 s11 A11 l11 c11,vI2 s12 A12 l12 c12] 32 ZaB _ (fun w R Q=>(ZbM _ _ (((p).den:Int)) (((q).den:Int)) _ Q.1.2 Q.2 (nfit S3 (by decide)) (nfit S4 (by decide))).mono (fun _ _=>ZaI)) (fun xx=>?_)
 obtain ⟨s13,A13,l13,c13⟩:=xx
 refine xf 0 [(4, .p 4 0),eI2 27 s10 A10 l10 c10,eI2 32 s13 A13 l13 c13] [bR4 4 36 false none 0 0 false none 0 0,bR4 3 36 s1 A1 l1 c1 t1 B1 m1 d1,bR4 2 36 s0 A0 l0 c0 t0 B0 (k0 + 1) d0] ?_
 refine xd 146 [vI2 s10 A10 l10 c10,vI2 s13 A13 l13 c13] 33 Zak _ (fun w R Q=>(ZdF _ _ (((p).num) * ((q).num)) ((((p).den:Int)) * (((q).den:Int))) _ Q.1.1.1.2 Q.2 (nfit (mlm S1 S2) (by decide)) (nfit (mlm S3 S4) (by decide)) (Int.mul_ne_zero (denI p) (denI q))).mono (fun _ _ h=>ZaJ (by rw [ZfL] at h; exact h))) (fun xx=>?_)
 obtain ⟨s14,A14,l14,c14,t14,B14,m14,d14⟩:=xx
 refine xf 1 [(4, .p 4 0)] [bR4 4 36 s14 A14 l14 c14 t14 B14 m14 d14,bR4 4 36 false none 0 0 false none 0 0,bR4 3 36 s1 A1 l1 c1 t1 B1 m1 d1,bR4 2 36 s0 A0 l0 c0 t0 B0 (k0 + 1) d0] ?_
 refine xz (xe (Zaa (Zah ?_)))
 refine Zae (v:=.agg #[.bool s14, .slice A14 l14 c14, .bool t14, .slice B14 m14 d14]) (by kernel_rfl) (fun w' R Q=>?_)
 exact ⟨_,rfl,Q.2,R⟩
theorem Zop (a b:Value) (p q:Rat) (w:World) (ha:Zai w a p) (hb:Zai w b q) (hp:Zbu p) (hq:Zbu q) (h1:p.den=1) (h2:¬ q.den=1) :
 Calls Tryz.prog 101 #[a,b] w (ZbF w (p * q)):=by
 obtain ⟨s0,A0,l0,c0,t0,B0,m0,d0,rfl⟩:=ha.shp
 obtain rfl:m0=0:=ha.den.len0 (Zbd h1)
 obtain ⟨s1,A1,l1,c1,t1,B1,m1,d1,rfl⟩:=hb.shp
 obtain ⟨k1,rfl⟩:∃ k,m1=k + 1:=⟨m1 - 1,by have:=hb.den.lenp (ZeP h2); omega⟩
 have S1:ml p.num.natAbs≤100000:=hp.1
 have S2:ml q.num.natAbs≤100000:=hq.1
 have S3:ml ((p.den:Nat):Int).natAbs≤100000:=mlc hp.2
 have S4:ml ((q.den:Nat):Int).natAbs≤100000:=mlc hq.2
 refine Zan (Φ:=fun w=>(Zai w (.agg #[.bool s0, .slice A0 l0 c0, .bool t0, .slice B0 0 d0]) (p)∧Zai w (.agg #[.bool s1, .slice A1 l1 c1, .bool t1, .slice B1 (k1 + 1) d1]) (q))) Tryz.func101 rfl (by kernel_rfl) (fun w' hf=>⟨ha.ext hf,hb.ext hf⟩) ?_
 refine Zac (Zab (xr 3 [(2, .p 2 0),(3, .p 3 0),(4, .p 4 0)] [bR4 4 36 false none 0 0 false none 0 0,bR4 3 36 s1 A1 l1 c1 t1 B1 (k1 + 1) d1,bR4 2 36 s0 A0 l0 c0 t0 B0 0 d0] ?_))
 refine xe (Zaa (Zac (Zac (Zab (xr 12 [(2, .p 2 0),(3, .p 3 0),(4, .p 4 0),(16, .v (.bool false))] [bR4 4 36 false none 0 0 false none 0 0,bR4 3 36 s1 A1 l1 c1 t1 B1 (k1 + 1) d1,bR4 2 36 s0 A0 l0 c0 t0 B0 0 d0] ?_)))))
 refine xe (Zaa (xb (ZaA (Zaa (Zac ?_)))))
 refine ZaE 12 (by kernel_rfl) (by kernel_rfl) Zal ?_
 refine xf 4 [(2, .p 2 0),(3, .p 3 0),(4, .p 4 0),eI2 24 s0 A0 l0 c0,eI2 26 s1 A1 l1 c1] [bR4 4 36 false none 0 0 false none 0 0,bR4 3 36 s1 A1 l1 c1 t1 B1 (k1 + 1) d1,bR4 2 36 s0 A0 l0 c0 t0 B0 0 d0] ?_
 refine xd 145 [vI2 s0 A0 l0 c0,vI2 s1 A1 l1 c1] 27 ZaB _ (fun w R Q=>(ZbM _ _ ((p).num) ((q).num) _ Q.1.num Q.2.num (nfit S1 (by decide)) (nfit S2 (by decide))).mono (fun _ _=>ZaI)) (fun xx=>?_)
 obtain ⟨s10,A10,l10,c10⟩:=xx
 refine xf 1 [(3, .p 3 0),(4, .p 4 0),eI2 27 s10 A10 l10 c10,eR4 28 s0 A0 l0 c0 t0 B0 0 d0] [bR4 4 36 false none 0 0 false none 0 0,bR4 3 36 s1 A1 l1 c1 t1 B1 (k1 + 1) d1,bR4 2 36 s0 A0 l0 c0 t0 B0 0 d0] ?_
 refine xd 196 [vR4 s0 A0 l0 c0 t0 B0 0 d0] 29 ZaB _ (fun w R Q=>(ZbC _ (p) _ Q.1.1).mono (fun _ _=>ZaI)) (fun xx=>?_)
 obtain ⟨s11,A11,l11,c11⟩:=xx
 refine xf 1 [(4, .p 4 0),eI2 27 s10 A10 l10 c10,eI2 29 s11 A11 l11 c11,eR4 30 s1 A1 l1 c1 t1 B1 (k1 + 1) d1] [bR4 4 36 false none 0 0 false none 0 0,bR4 3 36 s1 A1 l1 c1 t1 B1 (k1 + 1) d1,bR4 2 36 s0 A0 l0 c0 t0 B0 0 d0] ?_
 refine xd 196 [vR4 s1 A1 l1 c1 t1 B1 (k1 + 1) d1] 31 ZaB _ (fun w R Q=>(ZbC _ (q) _ Q.1.1.2).mono (fun _ _=>ZaI)) (fun xx=>?_)
 obtain ⟨s12,A12,l12,c12⟩:=xx
 refine xf 0 [(4, .p 4 0),eI2 27 s10 A10 l10 c10,eI2 29 s11 A11 l11 c11,eI2 31 s12 A12 l12 c12] [bR4 4 36 false none 0 0 false none 0 0,bR4 3 36 s1 A1 l1 c1 t1 B1 (k1 + 1) d1,bR4 2 36 s0 A0 l0 c0 t0 B0 0 d0] ?_
 refine xd 145 [vI2 s11 A11 l11 c11,vI2 s12 A12 l12 c12] 32 ZaB _ (fun w R Q=>(ZbM _ _ (((p).den:Int)) (((q).den:Int)) _ Q.1.2 Q.2 (nfit S3 (by decide)) (nfit S4 (by decide))).mono (fun _ _=>ZaI)) (fun xx=>?_)
 obtain ⟨s13,A13,l13,c13⟩:=xx
 refine xf 0 [(4, .p 4 0),eI2 27 s10 A10 l10 c10,eI2 32 s13 A13 l13 c13] [bR4 4 36 false none 0 0 false none 0 0,bR4 3 36 s1 A1 l1 c1 t1 B1 (k1 + 1) d1,bR4 2 36 s0 A0 l0 c0 t0 B0 0 d0] ?_
 refine xd 146 [vI2 s10 A10 l10 c10,vI2 s13 A13 l13 c13] 33 Zak _ (fun w R Q=>(ZdF _ _ (((p).num) * ((q).num)) ((((p).den:Int)) * (((q).den:Int))) _ Q.1.1.1.2 Q.2 (nfit (mlm S1 S2) (by decide)) (nfit (mlm S3 S4) (by decide)) (Int.mul_ne_zero (denI p) (denI q))).mono (fun _ _ h=>ZaJ (by rw [ZfL] at h; exact h))) (fun xx=>?_)
 obtain ⟨s14,A14,l14,c14,t14,B14,m14,d14⟩:=xx
 refine xf 1 [(4, .p 4 0)] [bR4 4 36 s14 A14 l14 c14 t14 B14 m14 d14,bR4 4 36 false none 0 0 false none 0 0,bR4 3 36 s1 A1 l1 c1 t1 B1 (k1 + 1) d1,bR4 2 36 s0 A0 l0 c0 t0 B0 0 d0] ?_
 refine xz (xe (Zaa (Zah ?_)))
 refine Zae (v:=.agg #[.bool s14, .slice A14 l14 c14, .bool t14, .slice B14 m14 d14]) (by kernel_rfl) (fun w' R Q=>?_)
 exact ⟨_,rfl,Q.2,R⟩
theorem Zb2 (a b:Value) (p q:Rat) (w:World) (ha:Zai w a p) (hb:Zai w b q) (hp:Zbu p) (hq:Zbu q):Calls Tryz.prog 101 #[a,b] w (ZbF w (p * q)):=by
 by_cases h1:p.den=1
 ·by_cases h2:q.den=1
  ·exact Zon a b p q w ha hb hp hq h1 h2
  ·exact Zop a b p q w ha hb hp hq h1 h2
 ·exact Zoo a b p q w ha hb hp hq h1
theorem ZqI (a b:Value) (p q:Rat) (w:World) (ha:Zai w a p) (hb:Zai w b q) (hp:Zbu p) (hq:Zbu q) :
 Calls Tryz.prog 111 #[a,b] w (ZbF w (p - q)):=by
 obtain ⟨s0,A0,l0,c0,t0,B0,m0,d0,rfl⟩:=ha.shp
 obtain ⟨s1,A1,l1,c1,t1,B1,m1,d1,rfl⟩:=hb.shp
 refine Zan (Φ:=fun w=>(Zai w (.agg #[.bool s0, .slice A0 l0 c0, .bool t0, .slice B0 m0 d0]) (p)∧Zai w (.agg #[.bool s1, .slice A1 l1 c1, .bool t1, .slice B1 m1 d1]) (q))) Tryz.func111 rfl (by kernel_rfl) (fun w' hf=>⟨ha.ext hf,hb.ext hf⟩) ?_
 refine Zac (Zab (xr 3 [(2, .p 2 0),(3, .p 3 0),(4, .p 4 0)] [bR4 4 36 false none 0 0 false none 0 0,bR4 3 36 s1 A1 l1 c1 t1 B1 m1 d1,bR4 2 36 s0 A0 l0 c0 t0 B0 m0 d0] ?_))
 refine xe (Zaa (Zac ?_))
 refine ZaE 5 (by kernel_rfl) (by kernel_rfl) Zal ?_
 refine xf 2 [(4, .p 4 0),eR4 5 s0 A0 l0 c0 t0 B0 m0 d0,eR4 6 s1 A1 l1 c1 t1 B1 m1 d1] [bR4 4 36 false none 0 0 false none 0 0,bR4 3 36 s1 A1 l1 c1 t1 B1 m1 d1,bR4 2 36 s0 A0 l0 c0 t0 B0 m0 d0] ?_
 refine xd 109 [vR4 s1 A1 l1 c1 t1 B1 m1 d1] 7 Zak _ (fun w R Q=>(ZlL _ (q) _ Q.2).mono (fun _ _=>ZaJ)) (fun xx=>?_)
 obtain ⟨s10,A10,l10,c10,t10,B10,m10,d10⟩:=xx
 refine xf 0 [(4, .p 4 0),eR4 5 s0 A0 l0 c0 t0 B0 m0 d0,eR4 7 s10 A10 l10 c10 t10 B10 m10 d10] [bR4 4 36 false none 0 0 false none 0 0,bR4 3 36 s1 A1 l1 c1 t1 B1 m1 d1,bR4 2 36 s0 A0 l0 c0 t0 B0 m0 d0] ?_
 refine xd 176 [vR4 s0 A0 l0 c0 t0 B0 m0 d0,vR4 s10 A10 l10 c10 t10 B10 m10 d10] 8 Zak _ (fun w R Q=>(Zeg _ _ (p) (-(q)) _ Q.1.1 Q.2 hp hq.neg).mono (fun _ _ h=>ZaJ (by rw [← Rat.sub_eq_add_neg] at h; exact h))) (fun xx=>?_)
 obtain ⟨s11,A11,l11,c11,t11,B11,m11,d11⟩:=xx
 refine xf 1 [(4, .p 4 0)] [bR4 4 36 s11 A11 l11 c11 t11 B11 m11 d11,bR4 4 36 false none 0 0 false none 0 0,bR4 3 36 s1 A1 l1 c1 t1 B1 m1 d1,bR4 2 36 s0 A0 l0 c0 t0 B0 m0 d0] ?_
 refine xz (xe (Zaa (Zah ?_)))
 refine Zae (v:=.agg #[.bool s11, .slice A11 l11 c11, .bool t11, .slice B11 m11 d11]) (by kernel_rfl) (fun w' R Q=>?_)
 exact ⟨_,rfl,Q.2,R⟩
theorem ZqJ (a b:Value) (p q:Rat) (w:World) (ha:Zai w a p) (hb:Zai w b q) (hp:Zbu p) (hq:Zbu q) :
 Calls Tryz.prog 203 #[a,b] w (ZbF w (p / q)):=by
 obtain ⟨s0,A0,l0,c0,t0,B0,m0,d0,rfl⟩:=ha.shp
 obtain ⟨s1,A1,l1,c1,t1,B1,m1,d1,rfl⟩:=hb.shp
 have S1:ml p.num.natAbs≤100000:=hp.1
 have S2:ml q.num.natAbs≤100000:=hq.1
 have S3:ml ((p.den:Nat):Int).natAbs≤100000:=mlc hp.2
 have S4:ml ((q.den:Nat):Int).natAbs≤100000:=mlc hq.2
 refine Zan (Φ:=fun w=>(Zai w (.agg #[.bool s0, .slice A0 l0 c0, .bool t0, .slice B0 m0 d0]) (p)∧Zai w (.agg #[.bool s1, .slice A1 l1 c1, .bool t1, .slice B1 m1 d1]) (q))) Tryz.func203 rfl (by kernel_rfl) (fun w' hf=>⟨ha.ext hf,hb.ext hf⟩) ?_
 refine Zac (Zab (xr 3 [(2, .p 2 0),(3, .p 3 0),(4, .p 4 0)] [bR4 4 36 false none 0 0 false none 0 0,bR4 3 36 s1 A1 l1 c1 t1 B1 m1 d1,bR4 2 36 s0 A0 l0 c0 t0 B0 m0 d0] ?_))
 refine xe (Zaa (Zac (Zac (Zab (xr 1 [(2, .p 2 0),(3, .p 3 0),(4, .p 4 0),eR4 5 s1 A1 l1 c1 t1 B1 m1 d1] [bR4 4 36 false none 0 0 false none 0 0,bR4 3 36 s1 A1 l1 c1 t1 B1 m1 d1,bR4 2 36 s0 A0 l0 c0 t0 B0 m0 d0] ?_)))))
 rcases Zkg ((q).num) with ⟨hz10,hs10⟩ | ⟨hz10,hs10⟩ | ⟨hz10,hs10⟩
 ·refine xc 103 [vR4 s1 A1 l1 c1 t1 B1 m1 d1] 6 (fun _:Unit=>.int .i64 (-1)) _ (fun w R Q=>(Zbh _ _ _ Q.2).mono (fun _ _ h=>Zaf h (by rw [hs10]))) (fun xx=>?_)
  refine xr 1 [(2, .p 2 0),(3, .p 3 0),(4, .p 4 0),(7, .v (.bool false))] [bR4 4 36 false none 0 0 false none 0 0,bR4 3 36 s1 A1 l1 c1 t1 B1 m1 d1,bR4 2 36 s0 A0 l0 c0 t0 B0 m0 d0] ?_
  refine xe (Zaa (xb (ZaA (Zaa (Zac ?_)))))
  refine ZaE 12 (by kernel_rfl) (by kernel_rfl) Zal ?_
  refine xf 3 [(2, .p 2 0),(3, .p 3 0),(4, .p 4 0),eI2 10 s0 A0 l0 c0,eR4 11 s1 A1 l1 c1 t1 B1 m1 d1] [bR4 4 36 false none 0 0 false none 0 0,bR4 3 36 s1 A1 l1 c1 t1 B1 m1 d1,bR4 2 36 s0 A0 l0 c0 t0 B0 m0 d0] ?_
  refine xd 196 [vR4 s1 A1 l1 c1 t1 B1 m1 d1] 12 ZaB _ (fun w R Q=>(ZbC _ (q) _ Q.1.2).mono (fun _ _=>ZaI)) (fun xx=>?_)
  obtain ⟨s11,A11,l11,c11⟩:=xx
  refine xf 0 [(2, .p 2 0),(3, .p 3 0),(4, .p 4 0),eI2 10 s0 A0 l0 c0,eI2 12 s11 A11 l11 c11] [bR4 4 36 false none 0 0 false none 0 0,bR4 3 36 s1 A1 l1 c1 t1 B1 m1 d1,bR4 2 36 s0 A0 l0 c0 t0 B0 m0 d0] ?_
  refine xd 145 [vI2 s0 A0 l0 c0,vI2 s11 A11 l11 c11] 13 ZaB _ (fun w R Q=>(ZbM _ _ ((p).num) (((q).den:Int)) _ Q.1.1.1.num Q.2 (nfit S1 (by decide)) (nfit S4 (by decide))).mono (fun _ _=>ZaI)) (fun xx=>?_)
  obtain ⟨s12,A12,l12,c12⟩:=xx
  refine xf 1 [(3, .p 3 0),(4, .p 4 0),eI2 13 s12 A12 l12 c12,eR4 14 s0 A0 l0 c0 t0 B0 m0 d0] [bR4 4 36 false none 0 0 false none 0 0,bR4 3 36 s1 A1 l1 c1 t1 B1 m1 d1,bR4 2 36 s0 A0 l0 c0 t0 B0 m0 d0] ?_
  refine xd 196 [vR4 s0 A0 l0 c0 t0 B0 m0 d0] 15 ZaB _ (fun w R Q=>(ZbC _ (p) _ Q.1.1.1.1).mono (fun _ _=>ZaI)) (fun xx=>?_)
  obtain ⟨s13,A13,l13,c13⟩:=xx
  refine xf 2 [(4, .p 4 0),eI2 13 s12 A12 l12 c12,eI2 15 s13 A13 l13 c13,eI2 17 s1 A1 l1 c1] [bR4 4 36 false none 0 0 false none 0 0,bR4 3 36 s1 A1 l1 c1 t1 B1 m1 d1,bR4 2 36 s0 A0 l0 c0 t0 B0 m0 d0] ?_
  refine xd 145 [vI2 s13 A13 l13 c13,vI2 s1 A1 l1 c1] 18 ZaB _ (fun w R Q=>(ZbM _ _ (((p).den:Int)) ((q).num) _ Q.2 Q.1.1.1.1.2.num (nfit S3 (by decide)) (nfit S2 (by decide))).mono (fun _ _=>ZaI)) (fun xx=>?_)
  obtain ⟨s14,A14,l14,c14⟩:=xx
  refine xf 0 [(4, .p 4 0),eI2 13 s12 A12 l12 c12,eI2 18 s14 A14 l14 c14] [bR4 4 36 false none 0 0 false none 0 0,bR4 3 36 s1 A1 l1 c1 t1 B1 m1 d1,bR4 2 36 s0 A0 l0 c0 t0 B0 m0 d0] ?_
  refine xd 146 [vI2 s12 A12 l12 c12,vI2 s14 A14 l14 c14] 19 Zak _ (fun w R Q=>(ZdF _ _ (((p).num) * (((q).den:Int))) ((((p).den:Int)) * ((q).num)) _ Q.1.1.2 Q.2 (nfit (mlm S1 S4) (by decide)) (nfit (mlm S3 S2) (by decide)) (Int.mul_ne_zero (denI p) (by omega))).mono (fun _ _ h=>ZaJ (by rw [Zh4] at h; exact h))) (fun xx=>?_)
  obtain ⟨s15,A15,l15,c15,t15,B15,m15,d15⟩:=xx
  refine xf 1 [(4, .p 4 0)] [bR4 4 36 s15 A15 l15 c15 t15 B15 m15 d15,bR4 4 36 false none 0 0 false none 0 0,bR4 3 36 s1 A1 l1 c1 t1 B1 m1 d1,bR4 2 36 s0 A0 l0 c0 t0 B0 m0 d0] ?_
  refine xz (xe (Zaa (Zah ?_)))
  refine Zae (v:=.agg #[.bool s15, .slice A15 l15 c15, .bool t15, .slice B15 m15 d15]) (by kernel_rfl) (fun w' R Q=>?_)
  exact ⟨_,rfl,Q.2,R⟩
 ·refine xc 103 [vR4 s1 A1 l1 c1 t1 B1 m1 d1] 6 (fun _:Unit=>.int .i64 0) _ (fun w R Q=>(Zbh _ _ _ Q.2).mono (fun _ _ h=>Zaf h (by rw [hs10]))) (fun xx=>?_)
  refine xr 1 [(2, .p 2 0),(3, .p 3 0),(4, .p 4 0),(7, .v (.bool true))] [bR4 4 36 false none 0 0 false none 0 0,bR4 3 36 s1 A1 l1 c1 t1 B1 m1 d1,bR4 2 36 s0 A0 l0 c0 t0 B0 m0 d0] ?_
  refine xe (Zaa (xa (Zac (Zab (xr 2 [(2, .p 2 0),(3, .p 3 0),(4, .p 4 0)] [bR4 4 36 false none 0 0 false none 0 0,bR4 3 36 s1 A1 l1 c1 t1 B1 m1 d1,bR4 2 36 s0 A0 l0 c0 t0 B0 m0 d0] ?_)))))
  refine xe (Zaa (Zah (Zaj ?_)))
  refine Zae (v:=.agg #[.bool false, .slice none 0 0, .bool false, .slice none 0 0]) (by kernel_rfl) (fun w' R Q=>?_)
  exact ⟨_,rfl,by rw [Rat.num_eq_zero.1 hz10,Rat.div_def,Rat.inv_zero,Rat.mul_zero]; exact Zai.nil _,R⟩
 ·refine xc 103 [vR4 s1 A1 l1 c1 t1 B1 m1 d1] 6 (fun _:Unit=>.int .i64 1) _ (fun w R Q=>(Zbh _ _ _ Q.2).mono (fun _ _ h=>Zaf h (by rw [hs10]))) (fun xx=>?_)
  refine xr 1 [(2, .p 2 0),(3, .p 3 0),(4, .p 4 0),(7, .v (.bool false))] [bR4 4 36 false none 0 0 false none 0 0,bR4 3 36 s1 A1 l1 c1 t1 B1 m1 d1,bR4 2 36 s0 A0 l0 c0 t0 B0 m0 d0] ?_
  refine xe (Zaa (xb (ZaA (Zaa (Zac ?_)))))
  refine ZaE 12 (by kernel_rfl) (by kernel_rfl) Zal ?_
  refine xf 3 [(2, .p 2 0),(3, .p 3 0),(4, .p 4 0),eI2 10 s0 A0 l0 c0,eR4 11 s1 A1 l1 c1 t1 B1 m1 d1] [bR4 4 36 false none 0 0 false none 0 0,bR4 3 36 s1 A1 l1 c1 t1 B1 m1 d1,bR4 2 36 s0 A0 l0 c0 t0 B0 m0 d0] ?_
  refine xd 196 [vR4 s1 A1 l1 c1 t1 B1 m1 d1] 12 ZaB _ (fun w R Q=>(ZbC _ (q) _ Q.1.2).mono (fun _ _=>ZaI)) (fun xx=>?_)
  obtain ⟨s16,A16,l16,c16⟩:=xx
  refine xf 0 [(2, .p 2 0),(3, .p 3 0),(4, .p 4 0),eI2 10 s0 A0 l0 c0,eI2 12 s16 A16 l16 c16] [bR4 4 36 false none 0 0 false none 0 0,bR4 3 36 s1 A1 l1 c1 t1 B1 m1 d1,bR4 2 36 s0 A0 l0 c0 t0 B0 m0 d0] ?_
  refine xd 145 [vI2 s0 A0 l0 c0,vI2 s16 A16 l16 c16] 13 ZaB _ (fun w R Q=>(ZbM _ _ ((p).num) (((q).den:Int)) _ Q.1.1.1.num Q.2 (nfit S1 (by decide)) (nfit S4 (by decide))).mono (fun _ _=>ZaI)) (fun xx=>?_)
  obtain ⟨s17,A17,l17,c17⟩:=xx
  refine xf 1 [(3, .p 3 0),(4, .p 4 0),eI2 13 s17 A17 l17 c17,eR4 14 s0 A0 l0 c0 t0 B0 m0 d0] [bR4 4 36 false none 0 0 false none 0 0,bR4 3 36 s1 A1 l1 c1 t1 B1 m1 d1,bR4 2 36 s0 A0 l0 c0 t0 B0 m0 d0] ?_
  refine xd 196 [vR4 s0 A0 l0 c0 t0 B0 m0 d0] 15 ZaB _ (fun w R Q=>(ZbC _ (p) _ Q.1.1.1.1).mono (fun _ _=>ZaI)) (fun xx=>?_)
  obtain ⟨s18,A18,l18,c18⟩:=xx
  refine xf 2 [(4, .p 4 0),eI2 13 s17 A17 l17 c17,eI2 15 s18 A18 l18 c18,eI2 17 s1 A1 l1 c1] [bR4 4 36 false none 0 0 false none 0 0,bR4 3 36 s1 A1 l1 c1 t1 B1 m1 d1,bR4 2 36 s0 A0 l0 c0 t0 B0 m0 d0] ?_
  refine xd 145 [vI2 s18 A18 l18 c18,vI2 s1 A1 l1 c1] 18 ZaB _ (fun w R Q=>(ZbM _ _ (((p).den:Int)) ((q).num) _ Q.2 Q.1.1.1.1.2.num (nfit S3 (by decide)) (nfit S2 (by decide))).mono (fun _ _=>ZaI)) (fun xx=>?_)
  obtain ⟨s19,A19,l19,c19⟩:=xx
  refine xf 0 [(4, .p 4 0),eI2 13 s17 A17 l17 c17,eI2 18 s19 A19 l19 c19] [bR4 4 36 false none 0 0 false none 0 0,bR4 3 36 s1 A1 l1 c1 t1 B1 m1 d1,bR4 2 36 s0 A0 l0 c0 t0 B0 m0 d0] ?_
  refine xd 146 [vI2 s17 A17 l17 c17,vI2 s19 A19 l19 c19] 19 Zak _ (fun w R Q=>(ZdF _ _ (((p).num) * (((q).den:Int))) ((((p).den:Int)) * ((q).num)) _ Q.1.1.2 Q.2 (nfit (mlm S1 S4) (by decide)) (nfit (mlm S3 S2) (by decide)) (Int.mul_ne_zero (denI p) (by omega))).mono (fun _ _ h=>ZaJ (by rw [Zh4] at h; exact h))) (fun xx=>?_)
  obtain ⟨s20,A20,l20,c20,t20,B20,m20,d20⟩:=xx
  refine xf 1 [(4, .p 4 0)] [bR4 4 36 s20 A20 l20 c20 t20 B20 m20 d20,bR4 4 36 false none 0 0 false none 0 0,bR4 3 36 s1 A1 l1 c1 t1 B1 m1 d1,bR4 2 36 s0 A0 l0 c0 t0 B0 m0 d0] ?_
  refine xz (xe (Zaa (Zah ?_)))
  refine Zae (v:=.agg #[.bool s20, .slice A20 l20 c20, .bool t20, .slice B20 m20 d20]) (by kernel_rfl) (fun w' R Q=>?_)
  exact ⟨_,rfl,Q.2,R⟩
end Go.Proofs.YtbgkofgoeoiciaaGreatDoor

namespace Go.Proofs.YtbgkofgoeoiciaaGreatDoor
open Go.RowKit
theorem Zk7 (a b:List UInt8):(⟨a.toArray⟩:ByteArray) ++ ⟨b.toArray⟩=⟨(a ++ b).toArray⟩:=by
 apply ByteArray.ext
 simp
theorem Zfo {n:Nat} (hn:ml n≤65536):(Lib.decDigits n).length≤655360:=by
 rcases Nat.eq_zero_or_pos n with e | e
 ·rw [e,Lib.decDigits_one (by omega)]; simp
 ·have h1:n < 10 ^ (10 * ml n):=by
   refine Nat.lt_of_lt_of_le (Ziy n) ?_
   rw [Nat.pow_mul]
   exact Nat.pow_le_pow_left (by rw [Zay]; decide) _
  have:=Zew _ _ h1
  rw [ZbG e] at this
  omega
set_option maxHeartbeats 2000000 in
theorem Zms (a:Value) (q:Rat) (w:World) (ha:Zai w a q) (h1:ml q.num.natAbs≤65536) (_:ml q.den≤65536) (hs:q.num < 0) (hd:q.den=1) :
 Calls Tryz.prog 28 #[a] w (RetV w (.string ⟨(Zad q).toArray⟩)):=by
 obtain ⟨s1,A1,l1,c1,t1,B1,m1,d1,rfl⟩:=ha.shp
 have F2:Hid (Zai w (.agg #[.bool s1, .slice A1 l1 c1, .bool t1, .slice B1 m1 d1]) (q)):=ha
 clear ha
 obtain rfl:s1=true:=F2.out.num.sneg hs
 have H1:Hid (ml q.num.natAbs≤65536):=h1
 obtain rfl:m1=0:=F2.out.den.len0 (Zbd hd)
 have HT:Hid (Zad q=45 :: Lib.decDigits q.num.natAbs):=by unfold Hid Zad Lib.itoa; rw [if_pos hd,if_pos hs]
 obtain ⟨rt,ert⟩:∃ rt,Zad q=rt:=⟨_,rfl⟩
 rw [ert] at HT ⊢
 clear hs hd h1 ert
 go_enter Tryz.func28,Tryz.ntmps28
 go_wp2_with fail
 generalize hwb:World.alloc w _=w4
 obtain ⟨b_B3,hE0⟩:=ZcJ hwb
 clear hwb
 have B3:=zh b_B3
 clear b_B3
 replace F2:=zh (F2.out.ext hE0)
 have HE:=zh hE0
 clear hE0
 have F5:Hid (Zax w4 (.agg #[.bool true, .slice A1 l1 c1]) ((q).num)):=F2.out.num
 have F8:Hid (Zas w4 (.slice A1 l1 c1) (((q).num).natAbs)):=F5.out.mag
 refine (ZdO true A1 l1 c1 _ _ F8.out (by first | exact H1.out | exact H2.out)).mono ?_
 obtain ⟨t7,et7⟩:∃ t,Lib.decDigits (((q).num).natAbs)=t:=⟨_,rfl⟩
 rw [et7]; have hlen7:t7.length≤655360:=by rw [← et7]; exact Zfo (by first | exact H1.out | exact H2.out)
 have Ht7:=zh et7; clear et7
 rintro e w6 ⟨rfl,hF⟩
 replace B3:=zh (B3.out.ext hF)
 replace F2:=zh (F2.out.ext hF)
 replace F5:=zh (F5.out.ext hF)
 replace F8:=zh (F8.out.ext hF)
 replace HE:=zh (HE.out.trans hF)
 clear hF
 obtain ⟨c9_0,c9_1,c9_2,c9_3,f9_0,f9_1,f9_2,f9_3⟩:=B3.out.cell4
 go_wp2
 clear c9_0 c9_1 c9_2 c9_3 f9_0 f9_1 f9_2 f9_3
 go_ret
 refine ⟨?_,HE.out⟩
 rw [HT.out,Ht7.out]
 show Ending.returned (.string ((⟨#[45]⟩:ByteArray) ++ ⟨t7.toArray⟩))=_
 simp only [Zk7]
 rfl
set_option maxHeartbeats 2000000 in
theorem Zmt (a:Value) (q:Rat) (w:World) (ha:Zai w a q) (h1:ml q.num.natAbs≤65536) (h2:ml q.den≤65536) (hs:q.num < 0) (hd:¬ q.den=1) :
 Calls Tryz.prog 28 #[a] w (RetV w (.string ⟨(Zad q).toArray⟩)):=by
 obtain ⟨s1,A1,l1,c1,t1,B1,m1,d1,rfl⟩:=ha.shp
 have F2:Hid (Zai w (.agg #[.bool s1, .slice A1 l1 c1, .bool t1, .slice B1 m1 d1]) (q)):=ha
 clear ha
 obtain rfl:s1=true:=F2.out.num.sneg hs
 have H1:Hid (ml q.num.natAbs≤65536):=h1
 have hl:0 < m1:=F2.out.den.lenp (ZeP hd)
 have hlb:decide ((0:Int) < (m1:Int))=true:=by rw [decide_eq_true_eq]; omega
 have H2:Hid (ml (denF q).natAbs≤65536):=by unfold Hid; rw [ZbN hd,Int.natAbs_natCast]; exact h2
 have HT:Hid (Zad q=(45 :: Lib.decDigits q.num.natAbs) ++ (47 :: Lib.decDigits (denF q).natAbs)):=by
  unfold Hid Zad
  rw [if_neg hd,ZbN hd,Int.natAbs_natCast,Lib.itoa_nonneg]
  unfold Lib.itoa
  rw [if_pos (show q.num < 0 by omega)]
  simp
 obtain ⟨rt,ert⟩:∃ rt,Zad q=rt:=⟨_,rfl⟩
 rw [ert] at HT ⊢
 clear hs hd h1 h2 ert
 go_enter Tryz.func28,Tryz.ntmps28
 go_wp2_with fail
 generalize hwb:World.alloc w _=w4
 obtain ⟨b_B3,hE0⟩:=ZcJ hwb
 clear hwb
 have B3:=zh b_B3
 clear b_B3
 replace F2:=zh (F2.out.ext hE0)
 have HE:=zh hE0
 clear hE0
 have F5:Hid (Zax w4 (.agg #[.bool true, .slice A1 l1 c1]) ((q).num)):=F2.out.num
 have F8:Hid (Zas w4 (.slice A1 l1 c1) (((q).num).natAbs)):=F5.out.mag
 refine (ZdO true A1 l1 c1 _ _ F8.out (by first | exact H1.out | exact H2.out)).mono ?_
 obtain ⟨t7,et7⟩:∃ t,Lib.decDigits (((q).num).natAbs)=t:=⟨_,rfl⟩
 rw [et7]; have hlen7:t7.length≤655360:=by rw [← et7]; exact Zfo (by first | exact H1.out | exact H2.out)
 have Ht7:=zh et7; clear et7
 rintro e w6 ⟨rfl,hF⟩
 replace B3:=zh (B3.out.ext hF)
 replace F2:=zh (F2.out.ext hF)
 replace F5:=zh (F5.out.ext hF)
 replace F8:=zh (F8.out.ext hF)
 replace HE:=zh (HE.out.trans hF)
 clear hF
 obtain ⟨c9_0,c9_1,c9_2,c9_3,f9_0,f9_1,f9_2,f9_3⟩:=B3.out.cell4
 go_wp2_with fail
 clear c9_0 c9_1 c9_2 c9_3 f9_0 f9_1 f9_2 f9_3
 have F10:Hid (Zax w6 (.agg #[.bool t1, .slice B1 m1 d1]) (denF (q))):=F2.out.den
 have F13:Hid (Zas w6 (.slice B1 m1 d1) ((denF (q)).natAbs)):=F10.out.mag
 refine (ZdO t1 B1 m1 d1 _ _ F13.out (by first | exact H1.out | exact H2.out)).mono ?_
 obtain ⟨t12,et12⟩:∃ t,Lib.decDigits ((denF (q)).natAbs)=t:=⟨_,rfl⟩
 rw [et12]; have hlen12:t12.length≤655360:=by rw [← et12]; exact Zfo (by first | exact H1.out | exact H2.out)
 have Ht12:=zh et12; clear et12
 rintro e w11 ⟨rfl,hF⟩
 replace B3:=zh (B3.out.ext hF)
 replace F2:=zh (F2.out.ext hF)
 replace F5:=zh (F5.out.ext hF)
 replace F8:=zh (F8.out.ext hF)
 replace F10:=zh (F10.out.ext hF)
 replace F13:=zh (F13.out.ext hF)
 replace HE:=zh (HE.out.trans hF)
 clear hF
 obtain ⟨c14_0,c14_1,c14_2,c14_3,f14_0,f14_1,f14_2,f14_3⟩:=B3.out.cell4
 go_wp2
 clear c14_0 c14_1 c14_2 c14_3 f14_0 f14_1 f14_2 f14_3
 go_ret
 refine ⟨?_,HE.out⟩
 rw [HT.out,Ht7.out,Ht12.out]
 show Ending.returned (.string (((⟨#[45]⟩:ByteArray) ++ ⟨t7.toArray⟩) ++ ((⟨#[47]⟩:ByteArray) ++ ⟨t12.toArray⟩)))=_
 simp only [Zk7]
 rfl
set_option maxHeartbeats 2000000 in
theorem Zmu (a:Value) (q:Rat) (w:World) (ha:Zai w a q) (h1:ml q.num.natAbs≤65536) (_:ml q.den≤65536) (hs:0≤q.num) (hd:q.den=1) :
 Calls Tryz.prog 28 #[a] w (RetV w (.string ⟨(Zad q).toArray⟩)):=by
 obtain ⟨s1,A1,l1,c1,t1,B1,m1,d1,rfl⟩:=ha.shp
 have F2:Hid (Zai w (.agg #[.bool s1, .slice A1 l1 c1, .bool t1, .slice B1 m1 d1]) (q)):=ha
 clear ha
 obtain rfl:s1=false:=F2.out.num.spos hs
 have H1:Hid (ml q.num.natAbs≤65536):=h1
 obtain rfl:m1=0:=F2.out.den.len0 (Zbd hd)
 have HT:Hid (Zad q=Lib.decDigits q.num.natAbs):=by unfold Hid Zad Lib.itoa; rw [if_pos hd,if_neg (show ¬ q.num < 0 by omega)]; rw [show q.num.toNat=q.num.natAbs by omega]
 obtain ⟨rt,ert⟩:∃ rt,Zad q=rt:=⟨_,rfl⟩
 rw [ert] at HT ⊢
 clear hs hd h1 ert
 go_enter Tryz.func28,Tryz.ntmps28
 go_wp2_with fail
 generalize hwb:World.alloc w _=w4
 obtain ⟨b_B3,hE0⟩:=ZcJ hwb
 clear hwb
 have B3:=zh b_B3
 clear b_B3
 replace F2:=zh (F2.out.ext hE0)
 have HE:=zh hE0
 clear hE0
 have F5:Hid (Zax w4 (.agg #[.bool false, .slice A1 l1 c1]) ((q).num)):=F2.out.num
 have F8:Hid (Zas w4 (.slice A1 l1 c1) (((q).num).natAbs)):=F5.out.mag
 refine (ZdO false A1 l1 c1 _ _ F8.out (by first | exact H1.out | exact H2.out)).mono ?_
 obtain ⟨t7,et7⟩:∃ t,Lib.decDigits (((q).num).natAbs)=t:=⟨_,rfl⟩
 rw [et7]; have hlen7:t7.length≤655360:=by rw [← et7]; exact Zfo (by first | exact H1.out | exact H2.out)
 have Ht7:=zh et7; clear et7
 rintro e w6 ⟨rfl,hF⟩
 replace B3:=zh (B3.out.ext hF)
 replace F2:=zh (F2.out.ext hF)
 replace F5:=zh (F5.out.ext hF)
 replace F8:=zh (F8.out.ext hF)
 replace HE:=zh (HE.out.trans hF)
 clear hF
 obtain ⟨c9_0,c9_1,c9_2,c9_3,f9_0,f9_1,f9_2,f9_3⟩:=B3.out.cell4
 go_wp2
 clear c9_0 c9_1 c9_2 c9_3 f9_0 f9_1 f9_2 f9_3
 go_ret
 refine ⟨?_,HE.out⟩
 rw [HT.out,Ht7.out]
 show Ending.returned (.string (⟨t7.toArray⟩:ByteArray))=_
 rfl
set_option maxHeartbeats 2000000 in
theorem Zmv (a:Value) (q:Rat) (w:World) (ha:Zai w a q) (h1:ml q.num.natAbs≤65536) (h2:ml q.den≤65536) (hs:0≤q.num) (hd:¬ q.den=1) :
 Calls Tryz.prog 28 #[a] w (RetV w (.string ⟨(Zad q).toArray⟩)):=by
 obtain ⟨s1,A1,l1,c1,t1,B1,m1,d1,rfl⟩:=ha.shp
 have F2:Hid (Zai w (.agg #[.bool s1, .slice A1 l1 c1, .bool t1, .slice B1 m1 d1]) (q)):=ha
 clear ha
 obtain rfl:s1=false:=F2.out.num.spos hs
 have H1:Hid (ml q.num.natAbs≤65536):=h1
 have hl:0 < m1:=F2.out.den.lenp (ZeP hd)
 have hlb:decide ((0:Int) < (m1:Int))=true:=by rw [decide_eq_true_eq]; omega
 have H2:Hid (ml (denF q).natAbs≤65536):=by unfold Hid; rw [ZbN hd,Int.natAbs_natCast]; exact h2
 have HT:Hid (Zad q=(Lib.decDigits q.num.natAbs) ++ (47 :: Lib.decDigits (denF q).natAbs)):=by
  unfold Hid Zad
  rw [if_neg hd,ZbN hd,Int.natAbs_natCast,Lib.itoa_nonneg]
  unfold Lib.itoa
  rw [if_neg (show ¬ q.num < 0 by omega)]
  rw [show q.num.toNat=q.num.natAbs by omega]
  simp
 obtain ⟨rt,ert⟩:∃ rt,Zad q=rt:=⟨_,rfl⟩
 rw [ert] at HT ⊢
 clear hs hd h1 h2 ert
 go_enter Tryz.func28,Tryz.ntmps28
 go_wp2_with fail
 generalize hwb:World.alloc w _=w4
 obtain ⟨b_B3,hE0⟩:=ZcJ hwb
 clear hwb
 have B3:=zh b_B3
 clear b_B3
 replace F2:=zh (F2.out.ext hE0)
 have HE:=zh hE0
 clear hE0
 have F5:Hid (Zax w4 (.agg #[.bool false, .slice A1 l1 c1]) ((q).num)):=F2.out.num
 have F8:Hid (Zas w4 (.slice A1 l1 c1) (((q).num).natAbs)):=F5.out.mag
 refine (ZdO false A1 l1 c1 _ _ F8.out (by first | exact H1.out | exact H2.out)).mono ?_
 obtain ⟨t7,et7⟩:∃ t,Lib.decDigits (((q).num).natAbs)=t:=⟨_,rfl⟩
 rw [et7]; have hlen7:t7.length≤655360:=by rw [← et7]; exact Zfo (by first | exact H1.out | exact H2.out)
 have Ht7:=zh et7; clear et7
 rintro e w6 ⟨rfl,hF⟩
 replace B3:=zh (B3.out.ext hF)
 replace F2:=zh (F2.out.ext hF)
 replace F5:=zh (F5.out.ext hF)
 replace F8:=zh (F8.out.ext hF)
 replace HE:=zh (HE.out.trans hF)
 clear hF
 obtain ⟨c9_0,c9_1,c9_2,c9_3,f9_0,f9_1,f9_2,f9_3⟩:=B3.out.cell4
 go_wp2_with fail
 clear c9_0 c9_1 c9_2 c9_3 f9_0 f9_1 f9_2 f9_3
 have F10:Hid (Zax w6 (.agg #[.bool t1, .slice B1 m1 d1]) (denF (q))):=F2.out.den
 have F13:Hid (Zas w6 (.slice B1 m1 d1) ((denF (q)).natAbs)):=F10.out.mag
 refine (ZdO t1 B1 m1 d1 _ _ F13.out (by first | exact H1.out | exact H2.out)).mono ?_
 obtain ⟨t12,et12⟩:∃ t,Lib.decDigits ((denF (q)).natAbs)=t:=⟨_,rfl⟩
 rw [et12]; have hlen12:t12.length≤655360:=by rw [← et12]; exact Zfo (by first | exact H1.out | exact H2.out)
 have Ht12:=zh et12; clear et12
 rintro e w11 ⟨rfl,hF⟩
 replace B3:=zh (B3.out.ext hF)
 replace F2:=zh (F2.out.ext hF)
 replace F5:=zh (F5.out.ext hF)
 replace F8:=zh (F8.out.ext hF)
 replace F10:=zh (F10.out.ext hF)
 replace F13:=zh (F13.out.ext hF)
 replace HE:=zh (HE.out.trans hF)
 clear hF
 obtain ⟨c14_0,c14_1,c14_2,c14_3,f14_0,f14_1,f14_2,f14_3⟩:=B3.out.cell4
 go_wp2
 clear c14_0 c14_1 c14_2 c14_3 f14_0 f14_1 f14_2 f14_3
 go_ret
 refine ⟨?_,HE.out⟩
 rw [HT.out,Ht7.out,Ht12.out]
 show Ending.returned (.string ((⟨t7.toArray⟩:ByteArray) ++ ((⟨#[47]⟩:ByteArray) ++ ⟨t12.toArray⟩)))=_
 simp only [Zk7]
 rfl
theorem Zib (a:Value) (q:Rat) (w:World) (ha:Zai w a q) (h1:ml q.num.natAbs≤65536) (h2:ml q.den≤65536):Calls Tryz.prog 28 #[a] w (RetV w (.string ⟨(Zad q).toArray⟩)):=by
 by_cases hs:q.num < 0
 ·by_cases hd:q.den=1
  ·exact Zms a q w ha h1 h2 hs hd
  ·exact Zmt a q w ha h1 h2 hs hd
 ·by_cases hd:q.den=1
  ·exact Zmu a q w ha h1 h2 (by omega) hd
  ·exact Zmv a q w ha h1 h2 (by omega) hd
end Go.Proofs.YtbgkofgoeoiciaaGreatDoor

namespace Go.Proofs.YtbgkofgoeoiciaaGreatDoor
open Go.RowKit
def Zkp (w:World) (l:List UInt8) (e:Ending) (w':World):Prop :=
 ∃ v b,e=.returned (.tuple #[v, .bool b])∧b=(l.all Zaz && !l.isEmpty)∧Zax w' v (if l.all Zaz then (Zag l:Int) else 0)∧Ext w w'
theorem Zns {fn:Func} {t t':Tmp} {tmps:Array Value} {w w':World} {r:Nat} {x y:Value} {b:Bool} {l:List UInt8} (hres:fn.results=#[.cell t 34, .tmp t']) (ht:tmps[t]? = some (.pointer (some ⟨r,0,none⟩))) (ht':tmps[t']? = some (.bool b))
 (hB:Blk 34 w' r #[x,y]) (hI:Zax w' (.agg #[x,y]) (if l.all Zaz then (Zag l:Int) else 0)) (hb:b=(l.all Zaz && !l.isEmpty)) (Q:Ext w w'):bodyPost Tryz.prog fn (Zkp w l) .ret ⟨tmps,[]⟩ w':=by
 obtain ⟨h0,h1,_⟩:=hB.cell2
 exact bodyPost_ret (v:=.tuple #[.agg #[x,y], .bool b]) (by simp [results,hres,ht,ht',go_sem,h0,h1]) rfl ⟨_,_,rfl,hb,hI,Q⟩
theorem Zas.one_pos {w:World} {b r:Nat} (h:Own .u32 216 w b [r]) (hr:r < W32) (h0:0 < r):Zas w (.slice (some ⟨b,0,none⟩) 1 1) r :=
 ⟨_,[r],1,rfl,Nat.le_refl _,h.shows0,Dig.cons hr Dig.nil,fun k hk=>by simp at hk; subst hk; simp; omega,by simp⟩
theorem ZfN {n k:Nat} (h:n < 10 ^ k):ml n≤k:=ZcP.2 (Nat.lt_of_lt_of_le h (Nat.pow_le_pow_left (by rw [Zay]; omega) _))
theorem Znt (s:ByteArray):s.toList.isEmpty=(bytes s).isEmpty:=by
 rw [Lib.toList_data]
def FdIn (l:List UInt8) (i k v f:Nat):Prop:=k≤9∧i + k≤l.length∧(l.take (i + k)).all Zaz=true∧v=Zag ((l.drop i).take k)∧f=10 ^ k
theorem FdIn.bounds {l:List UInt8} {i k v f:Nat} (h:FdIn l i k v f):v < 10 ^ k∧v < 1000000000∧f≤1000000000∧0 < f:=by
 obtain ⟨h1,h2,h3,h4,h5⟩:=h
 have hall:((l.drop i).take k).all Zaz=true:=by
  rw [List.all_eq_true] at h3 ⊢
  intro x hx
  refine h3 x ?_
  rw [List.take_add]
  exact List.mem_append_right _ hx
 have:=ZbD _ hall
 rw [List.length_take,List.length_drop,Nat.min_eq_left (by omega),← h4] at this
 have h6:10 ^ k≤10 ^ 9:=Nat.pow_le_pow_right (by omega) h1
 have h7:0 < 10 ^ k:=Nat.pow_pos (by omega)
 exact ⟨this,by omega,by omega,by omega⟩
theorem FdIn.step {l:List UInt8} {i k v f:Nat} {c:UInt8} (h:FdIn l i k v f) (hk:k < 9) (hlt:i + k < l.length) (hc:l[i + k]=c) (hd:Zaz c=true):FdIn l i (k + 1) (v * 10 + (c.toNat - 48)) (f * 10):=by
 obtain ⟨h1,h2,h3,h4,h5⟩:=h
 refine ⟨by omega,by omega,?_,?_,by rw [h5,Nat.pow_succ]⟩
 ·rw [← Nat.add_assoc,List.take_succ_eq_append_getElem hlt,List.all_append,h3,hc]
  simp [hd]
 ·rw [List.take_succ_eq_append_getElem (by simp; omega),ZeV,← h4,List.getElem_drop,hc]
  omega
theorem FdIn.done {l:List UInt8} {i k v f:Nat} (h:FdIn l i k v f):Zag (l.take i) * f + v=Zag (l.take (i + k)):=by
 obtain ⟨h1,h2,h3,h4,h5⟩:=h
 have:l.take (i + k)=l.take i ++ (l.drop i).take k:=by rw [List.take_add]
 rw [this,Ze8,List.length_take,List.length_drop,Nat.min_eq_left (by omega),← h4,h5]
theorem Zs1 {l:List UInt8} {i:Nat} (h:i < l.length) (hd:Zaz l[i]=false):l.all Zaz=false:=by
 rw [List.all_eq_false]
 exact ⟨l[i],List.getElem_mem h,by simp [hd]⟩
set_option maxHeartbeats 2000000 in
theorem Zdy (s:ByteArray) (w:World) (hs:s.size≤65536):Calls Tryz.prog 193 #[.string s] w (Zkp w (bytes s)):=by
 have hbl:=zh (Zav s)
 go_enter Tryz.func193,Tryz.ntmps193
 go_wp2_with fail
 generalize hwb:World.alloc w _=w1
 obtain ⟨b0,hE0⟩:=ZcJ hwb
 have HB:=zh b0
 have HE:=zh hE0
 clear hwb b0 hE0
 go_loopw [4,5,6,7,8] (fun mv iv _ _ _ wr=>∃ (i:Nat) (A:Option Addr) (ln c:Nat),i≤s.size∧iv=.int .i64 (i:Int)∧mv=.slice A ln c∧Hid (((bytes s).take i).all Zaz=true)∧Hid (Zas wr (.slice A ln c) (Zag ((bytes s).take i)))∧Hid (Ext w1 wr)) (fun _ iv _ _ _ _=>s.size - (intOf iv).toNat)
 case atStart=>exact ⟨0,none,0,0,by omega,rfl,rfl,by unfold Hid; simp,by unfold Hid; simpa [Zag] using Zas.zero _,Fr.refl _ _⟩
 case round =>
  obtain ⟨i,A,ln,c,hi,rfl,rfl,hall,hM,hF⟩:=hrel
  by_cases hlt:i < s.size
  ·go_wp2
   go_loop [5,6,7,8] (fun iv vv fv kv=>∃ (k v f:Nat),k≤9∧i + k≤s.size∧v < 1000000000∧f≤1000000000∧0 < f∧iv=.int .i64 ((i + k:Nat):Int)∧vv=.int .u32 (v:Int)∧fv=.int .u32 (f:Int)∧kv=.int .i64 (k:Int)∧Hid (FdIn (bytes s) i k v f)) (fun _ _ _ kv=>9 - (intOf kv).toNat)
   case atStart=>exact ⟨0,0,1,by omega,by omega,by omega,by omega,by omega,rfl,rfl,rfl,rfl,⟨by omega,by rw [hbl.out]; omega,hall.out,by simp [Zag],rfl⟩⟩
   case round =>
    obtain ⟨k,v,f,hk,hik,hv,hf,hf0,rfl,rfl,rfl,rfl,hI⟩:=hrel
    by_cases hgo:k < 9∧i + k < s.size
    ·obtain ⟨g1,g2⟩:=hgo
     have gd1:decide ((k:Int) < 9)=true:=by rw [decide_eq_true_eq]; omega
     have hbk:(bytes s)[i + k]'(by rw [hbl.out]; exact g2)=s[i + k]:=ZmX s g2
     by_cases hd:Zaz s[i + k]=true
     ·have HI2:=zh (hI.out.step g1 (by rw [hbl.out]; exact g2) hbk hd)
      have hb:=Znn hd
      have hb2:=HI2.out.bounds
      have e1:IntKind.u8.wrap ((s[i + k].toNat:Int) - 48)=((s[i + k].toNat - 48:Nat):Int):=by rw [IntKind.wrap_u8]; omega
      have e1':((s[i + k].toNat:Int) - 48) % 256=((s[i + k].toNat - 48:Nat):Int):=by omega
      obtain ⟨d,ed⟩:∃ d,s[i + k].toNat - 48=d:=⟨_,rfl⟩
      have hd9:d≤9:=by omega
      rw [ed] at HI2 e1 e1' hb2
      have hv2:=hb2.2.1
      have hf2:=hb2.2.2.1
      have x1:(i:Int) + (k:Int) < (s.size:Int):=by omega
      have x2:(0:Int)≤(i:Int) + (k:Int):=by omega
      have x3:(48:Int)≤(s[i + k].toNat:Int):=by omega
      have x4:¬ ((s[i + k].toNat:Int) < 48):=by omega
      have x5:¬ ((57:Int) < (s[i + k].toNat:Int)):=by omega
      have x6:decide ((s[i + k].toNat:Int) < 48)=false:=by rw [decide_eq_false_iff_not]; omega
      have x7:decide ((57:Int) < (s[i + k].toNat:Int))=false:=by rw [decide_eq_false_iff_not]; omega
      have x8:((i:Int) + (k:Int)).toNat=i + k:=by omega
      clear hb2 hbk ed hd
      go_wp2
      go_round
      case rel=>exact ⟨k + 1,v * 10 + d,f * 10,by omega,by omega,hv2,hf2,by omega,by go_num,by go_num,by go_num,by go_num,HI2⟩
      case measure=>simp [intOf]; omega
     ·have hno:Hid ((bytes s).all Zaz=false):=Zs1 (by rw [hbl.out]; exact g2) (by rw [hbk]; simpa using hd)
      have HBx:=zh (HB.out.ext hF.out)
      have HEx:=zh (HE.out.trans hF.out)
      obtain ⟨z0,z1,z2,z3⟩:=HBx.out.cell2
      have x1:(i:Int) + (k:Int) < (s.size:Int):=by omega
      have x2:(0:Int)≤(i:Int) + (k:Int):=by omega
      have x8:((i:Int) + (k:Int)).toNat=i + k:=by omega
      have hFin:Hid (∀ tmps:Array Value,tmps[2]? = some (.pointer (some ⟨w.heap.size,0,none⟩))→tmps[3]? = some (.bool false)→bodyPost Tryz.prog Tryz.f193 (Zkp w (bytes s)) .ret ⟨tmps,[]⟩ ((wr.setCell ⟨w.heap.size,0,none⟩ (.bool false)).setCell ⟨w.heap.size,1,none⟩ (.slice none 0 0))):=by
       intro tmps h2 h3
       have hFs:Fr (fun i=>i=w.heap.size) wr ((wr.setCell ⟨w.heap.size,0,none⟩ (.bool false)).setCell ⟨w.heap.size,1,none⟩ (.slice none 0 0)):=((Fr.refl (fun i=>i=w.heap.size) _).setCell (p:=⟨w.heap.size,0,none⟩) (Or.inl rfl) _).setCell (p:=⟨w.heap.size,1,none⟩) (Or.inl rfl) _
       refine Zns rfl h2 h3 ((HBx.out.set_ 0 _).set_ 1 _) ?_ (by rw [hno.out]; rfl) (HEx.out.next hFs (fun i hi e=>by omega))
       rw [hno.out]; exact Zax.nil _
      by_cases hlo:s[i + k].toNat < 48
      ·have x3:(s[i + k].toNat:Int) < 48:=by omega
       have x6:decide ((s[i + k].toNat:Int) < 48)=true:=by rw [decide_eq_true_eq]; omega
       clear hbk hd hno
       go_wp2
       exact hFin.out _ rfl rfl
      ·have hhi:57 < s[i + k].toNat:=by
        have:Zaz s[i + k]=false:=by simpa using hd
        unfold Zaz at this
        simp at this
        omega
       have x3:¬ ((s[i + k].toNat:Int) < 48):=by omega
       have x4:(57:Int) < (s[i + k].toNat:Int):=by omega
       have x6:decide ((s[i + k].toNat:Int) < 48)=false:=by rw [decide_eq_false_iff_not]; omega
       have x7:decide ((57:Int) < (s[i + k].toNat:Int))=true:=by rw [decide_eq_true_eq]; omega
       clear hbk hd hno
       go_wp2
       exact hFin.out _ rfl rfl
    ·have hk1:1≤k:=by
      rcases Nat.eq_zero_or_pos k with e | e
      ·subst e; exact absurd ⟨by omega,by omega⟩ hgo
      ·exact e
     have hfW:Hid (f < W32):=by unfold Hid; rw [Zay]; omega
     have hvW:Hid (v < W32):=by unfold Hid; rw [Zay]; omega
     have hml1:Hid (ml (Zag ((bytes s).take i))≤1048576):=by
      have h1:=ZfN (ZbD _ hall.out)
      rw [List.length_take,hbl.out] at h1
      unfold Hid; omega
     have hmlf:Hid (ml f≤1048576):=by
      have:=ZcP (n:=f) (k:=1)
      rw [Nat.pow_one] at this
      have:=this.2 hfW.out
      unfold Hid; omega
     have hmlv:Hid (ml v≤1048576):=by
      have:=ZcP (n:=v) (k:=1)
      rw [Nat.pow_one] at this
      have:=this.2 hvW.out
      unfold Hid; omega
     have hdone:=zh hI.out.done
     have hall2:Hid (((bytes s).take (i + k)).all Zaz=true):=hI.out.2.2.1
     have hml2:Hid (ml (Zag ((bytes s).take i) * f)≤1048576):=by
      have h1:=ZfN (ZbD _ hall2.out)
      rw [List.length_take,hbl.out] at h1
      have h2:=ZdL (show Zag ((bytes s).take i) * f≤Zag ((bytes s).take (i + k)) by have:=hdone.out; omega)
      unfold Hid; omega
     have hF0:Hid (0 < f):=hf0
     by_cases h9:k < 9
     ·have g2:¬ ((i:Int) + (k:Int) < (s.size:Int)):=by omega
      have gd1:decide ((k:Int) < 9)=true:=by rw [decide_eq_true_eq]; omega
      have gd2:decide ((i:Int) + (k:Int) < (s.size:Int))=false:=by rw [decide_eq_false_iff_not]; omega
      clear hgo hI
      go_wp2_with fail
      generalize hwb:World.alloc wr _=w2
      have hO2:Own .u32 216 w2 wr.heap.size [f]:=hwb ▸ Own.new wr 216 .u32 [f] []
      have hF2:Ext wr w2:=hwb ▸ (Fr.refl _ _).alloc _
      clear hwb
      refine (ZdM _ _ (Zag ((bytes s).take i)) f _ (hM.out.ext hF2) (Zas.one_pos hO2 hfW.out hF0.out) hml1.out hmlf.out).mono ?_
      rintro e w3 ⟨_,rfl,hN3,hF3⟩
      obtain ⟨A3,l3,c3,rfl⟩:=hN3.slice
      have HN3:=zh hN3
      have HF3:=zh ((hF.out.trans hF2).trans hF3)
      clear hN3 hF3 hF2 hO2
      go_wp2_with fail
      generalize hwb:World.alloc w3 _=w4
      have hO4:Own .u32 216 w4 w3.heap.size [v]:=hwb ▸ Own.new w3 216 .u32 [v] []
      have hF4:Ext w3 w4:=hwb ▸ (Fr.refl _ _).alloc _
      clear hwb
      refine (Zbs _ [v] 1 1 _ rfl hO4.shows0 (by simp) (by simp)).mono ?_
      rintro e w5 ⟨rfl,rfl⟩
      have HV4:=zh (Zas.one hO4 hvW.out)
      have HN4:=zh (HN3.out.ext hF4)
      have HF4:=zh (HF3.out.trans hF4)
      clear hO4 hF4 HN3 HF3
      go_wp2_with fail
      refine (Zfc _ _ _ _ _ HN4.out HV4.out hml2.out hmlv.out).mono ?_
      rintro e w6 ⟨_,rfl,hN6,hF6⟩
      rw [hdone.out] at hN6
      obtain ⟨A6,l6,c6,rfl⟩:=hN6.slice
      have HN6:=zh hN6
      have HF6:=zh (HF4.out.trans hF6)
      clear hN6 hF6
      go_wp2
      go_roundw
      case rel=>exact ⟨i + k,A6,l6,c6,by omega,by go_num,rfl,hall2,HN6,HF6⟩
      case measure=>simp [intOf]; omega
     ·have g2:¬ ((k:Int) < 9):=by omega
      have gd1:decide ((k:Int) < 9)=false:=by rw [decide_eq_false_iff_not]; omega
      clear hgo hI
      go_wp2_with fail
      generalize hwb:World.alloc wr _=w2
      have hO2:Own .u32 216 w2 wr.heap.size [f]:=hwb ▸ Own.new wr 216 .u32 [f] []
      have hF2:Ext wr w2:=hwb ▸ (Fr.refl _ _).alloc _
      clear hwb
      refine (ZdM _ _ (Zag ((bytes s).take i)) f _ (hM.out.ext hF2) (Zas.one_pos hO2 hfW.out hF0.out) hml1.out hmlf.out).mono ?_
      rintro e w3 ⟨_,rfl,hN3,hF3⟩
      obtain ⟨A3,l3,c3,rfl⟩:=hN3.slice
      have HN3:=zh hN3
      have HF3:=zh ((hF.out.trans hF2).trans hF3)
      clear hN3 hF3 hF2 hO2
      go_wp2_with fail
      generalize hwb:World.alloc w3 _=w4
      have hO4:Own .u32 216 w4 w3.heap.size [v]:=hwb ▸ Own.new w3 216 .u32 [v] []
      have hF4:Ext w3 w4:=hwb ▸ (Fr.refl _ _).alloc _
      clear hwb
      refine (Zbs _ [v] 1 1 _ rfl hO4.shows0 (by simp) (by simp)).mono ?_
      rintro e w5 ⟨rfl,rfl⟩
      have HV4:=zh (Zas.one hO4 hvW.out)
      have HN4:=zh (HN3.out.ext hF4)
      have HF4:=zh (HF3.out.trans hF4)
      clear hO4 hF4 HN3 HF3
      go_wp2_with fail
      refine (Zfc _ _ _ _ _ HN4.out HV4.out hml2.out hmlv.out).mono ?_
      rintro e w6 ⟨_,rfl,hN6,hF6⟩
      rw [hdone.out] at hN6
      obtain ⟨A6,l6,c6,rfl⟩:=hN6.slice
      have HN6:=zh hN6
      have HF6:=zh (HF4.out.trans hF6)
      clear hN6 hF6
      go_wp2
      go_roundw
      case rel=>exact ⟨i + k,A6,l6,c6,by omega,by go_num,rfl,hall2,HN6,HF6⟩
      case measure=>simp [intOf]; omega
  ·obtain rfl:i=s.size:=by omega
   have e1:(bytes s).take s.size=bytes s:=List.take_of_length_le (by rw [hbl.out]; exact Nat.le_refl _)
   have HA:Hid ((bytes s).all Zaz=true):=by have:=hall.out; rw [e1] at this; exact this
   have HM:Hid (Zas wr (.slice A ln c) (Zag (bytes s))):=by have:=hM.out; rw [e1] at this; exact this
   have HBx:=zh (HB.out.ext hF.out)
   have HEx:=zh (HE.out.trans hF.out)
   have hbe:=zh (Znt s)
   clear e1 hall hM
   go_wp2_with fail
   refine (Zed false _ _ _ HM.out).mono ?_
   rintro e w2 ⟨_,rfl,hI,hF2⟩
   obtain ⟨s2,A2,l2,c2,rfl⟩:=hI.shp
   have HI:=zh hI
   have HB':=zh (HBx.out.ext hF2)
   have HE':=zh (HEx.out.trans hF2)
   obtain ⟨k0,k1,k2,k3⟩:=HB'.out.cell2
   clear hI hF2
   go_wp2
   have hFs:Fr (fun i=>i=w.heap.size) w2 ((w2.setCell ⟨w.heap.size,0,none⟩ (.bool s2)).setCell ⟨w.heap.size,1,none⟩ (.slice A2 l2 c2)):=((Fr.refl (fun i=>i=w.heap.size) _).setCell (p:=⟨w.heap.size,0,none⟩) (Or.inl rfl) _).setCell (p:=⟨w.heap.size,1,none⟩) (Or.inl rfl) _
   refine Zns (b := !s.toList.isEmpty) rfl rfl rfl ((HB'.out.set_ 0 _).set_ 1 _) ?_ (by rw [HA.out,hbe.out]; rfl) (HE'.out.next hFs (fun i hi e=>by omega))
   rw [HA.out]
   exact HI.out.oth HB'.out Zbw hFs
end Go.Proofs.YtbgkofgoeoiciaaGreatDoor

namespace Go.Proofs.YtbgkofgoeoiciaaGreatDoor
open Go.RowKit
theorem ZpH {q:Rat} {k:Nat} (h:q.num.natAbs < 10 ^ k∧q.den < 10 ^ k) (hk:k≤100000):Zbu q:=⟨Nat.le_trans (ZfN h.1) hk,Nat.le_trans (ZfN h.2) hk⟩
theorem Zsn {k:Nat} {a:Value} {q:Rat} {w:World} (ha:Zai w a q) (h:q.num.natAbs < 10 ^ k∧q.den < 10 ^ k) (hk:k≤65536):Calls Tryz.prog 28 #[a] w (RetV w (.string ⟨(Zad q).toArray⟩)) :=
 Zib a q w ha (Nat.le_trans (ZfN h.1) hk) (Nat.le_trans (ZfN h.2) hk)
end Go.Proofs.YtbgkofgoeoiciaaGreatDoor

namespace Go.Proofs.YtbgkofgoeoiciaaGreatDoor
open Go.RowKit
def Free (m:Nat):Prop:=∀ j,2≤j→¬ j * j ∣ m
structure SqF (d r m:Nat):Prop where
 mul:r * r * m=d
 pos:0 < d
 free:Free m
theorem ZlM {r m r' m':Nat} (hr:0 < r) (hr':0 < r') (h:r * r * m=r' * r' * m') (hm:Free m) (hm':Free m'):r=r':=by
 have hg:0 < Nat.gcd r r':=Nat.gcd_pos_of_pos_left _ hr
 have hc:=Nat.coprime_div_gcd_div_gcd (m:=r) (n:=r') hg
 obtain ⟨a,ha⟩:=Nat.gcd_dvd_left r r'
 obtain ⟨b,hb⟩:=Nat.gcd_dvd_right r r'
 generalize Nat.gcd r r'=g at hg hc ha hb
 subst ha hb
 rw [Nat.mul_div_cancel_left _ hg,Nat.mul_div_cancel_left _ hg] at hc
 have h2:a * a * m=b * b * m':=by
  refine Nat.eq_of_mul_eq_mul_left (Nat.mul_pos hg hg) ?_
  grind
 have cc:Nat.Coprime (a * a) (b * b):=(hc.mul_right hc).mul_left (hc.mul_right hc)
 have d1:a * a ∣ m':=cc.dvd_of_dvd_mul_left ⟨m,h2.symm⟩
 have d2:b * b ∣ m:=cc.symm.dvd_of_dvd_mul_left ⟨m',h2⟩
 have a1:a≠0:=fun e=>by subst e; omega
 have b1:b≠0:=fun e=>by subst e; omega
 have a2:¬ 2≤a:=fun e=>hm' _ e d1
 have b2:¬ 2≤b:=fun e=>hm _ e d2
 have:a=b:=by omega
 rw [this]
theorem SqF.rpos {d r m:Nat} (h:SqF d r m):0 < r∧0 < m:=by
 have h1:=h.mul; have h2:=h.pos
 refine ⟨Nat.pos_of_ne_zero fun e=>?_,Nat.pos_of_ne_zero fun e=>?_⟩<;>subst e<;>simp at h1<;>omega
theorem SqF.eq {d r m r' m':Nat} (h:SqF d r m) (h':SqF d r' m'):r=r'∧m=m':=by
 have e:r=r':=ZlM h.rpos.1 h'.rpos.1 (h.mul.trans h'.mul.symm) h.free h'.free
 subst e
 exact ⟨rfl,Nat.eq_of_mul_eq_mul_left (Nat.mul_pos h.rpos.1 h.rpos.1) (h.mul.trans h'.mul.symm)⟩
theorem ZpI:∀ n d:Nat,d≤n→0 < d→∃ r m,SqF d r m:=by
 intro n
 induction n with
 | zero=>intro d h1 h2; omega
 | succ n ih =>
   intro d h1 h2
   by_cases hf:Free d
   ·exact ⟨1,d,by omega,h2,hf⟩
   ·unfold Free at hf
    have:∃ j,2≤j∧j * j ∣ d:=Classical.byContradiction fun hn=>hf fun j hj hd=>hn ⟨j,hj,hd⟩
    obtain ⟨j,hj,q,hq⟩:=this
    have q0:0 < q:=Nat.pos_of_ne_zero fun e=>by subst e; omega
    have j4:2 * 2≤j * j:=Nat.mul_le_mul hj hj
    have:q < d:=by rw [hq]; have:=Nat.mul_le_mul_right q j4; omega
    obtain ⟨r,m,hs⟩:=ih q (by omega) q0
    exact ⟨j * r,m,by rw [hq,← hs.mul]; grind,h2,hs.free⟩
def ZcC (k m:Nat):Prop:=∀ j,2≤j→j < k→¬ j * j ∣ m
theorem ZcC.next {k m:Nat} (h:ZcC k m) (hk:¬ k * k ∣ m):ZcC (k + 1) m:=fun j h1 h2 hd=>by
 by_cases e:j=k
 ·subst e; exact hk hd
 ·exact h j h1 (by omega) hd
theorem ZcC.div {k m:Nat} (h:ZcC k m) (hk:k * k ∣ m):ZcC k (m / (k * k)):=fun j h1 h2 hd =>
 h j h1 h2 (Nat.dvd_trans hd (Nat.div_dvd_of_dvd hk))
theorem ZcC.free {k m:Nat} (h:ZcC k m) (h0:0 < m) (hk:m < k * k):Free m:=fun j h1 hd=>by
 by_cases e:j < k
 ·exact h j h1 e hd
 ·have:=Nat.le_of_dvd h0 hd
  have:=Nat.mul_le_mul (show k≤j by omega) (show k≤j by omega)
  omega
theorem ZcC.two (m:Nat):ZcC 2 m:=fun j h1 h2=>by omega
theorem Free.no {k m:Nat} (h:Free m) (hk:2≤k):m % (k * k)≠0:=fun e=>h k hk (Nat.dvd_of_mod_eq_zero e)
theorem Znu (a:Rat):(a.num:Rat)=a * ((a.den:Int):Rat):=by
 have h:mkRat a.num a.den=a:=Rat.mkRat_self a
 have h0:((a.den:Int):Rat)≠0:=fun e=>a.den_nz (by have:=Rat.intCast_inj.1 (e.trans Rat.intCast_zero.symm); omega)
 have h2:Rat.divInt a.num (a.den:Int)=a:=Rat.num_divInt_den a
 rw [Rat.divInt_eq_div] at h2
 rw [Rat.div_def] at h2
 have h3:=Rat.inv_mul_cancel _ h0
 grind
def nrm (a b:Rat) (d:Int):Rat:=a * a + b * (-b) * (d:Rat)
theorem ZqM {a b:Rat} {d:Int} (hd:2≤d) (hf:Free d.toNat) (hb:¬ (a=0∧b=0)):nrm a b d≠0:=by
 intro h
 unfold nrm at h
 have ha:=Znu a
 have hb':=Znu b
 have h1:((a.num * b.den) * (a.num * b.den):Int)=(b.num * a.den) * (b.num * a.den) * d:=by
  apply Rat.intCast_inj.1
  simp only [Rat.intCast_mul]
  rw [ha,hb']
  generalize ((a.den:Int):Rat)=x at *
  generalize ((b.den:Int):Rat)=y at *
  grind
 have h2:(a.num * b.den).natAbs * (a.num * b.den).natAbs * 1=(b.num * a.den).natAbs * (b.num * a.den).natAbs * d.toNat:=by
  have:=congrArg Int.natAbs h1
  rw [Int.natAbs_mul,Int.natAbs_mul _ d,Int.natAbs_mul (b.num * _)] at this
  rw [Nat.mul_one,this]
  congr 1; omega
 have f1:Free 1:=fun j hj hd=>by
  have:=Nat.le_of_dvd (by omega) hd
  have:=Nat.mul_le_mul hj hj
  omega
 by_cases hz:b.num=0
 ·have e:b=0:=Rat.num_eq_zero.1 hz
  subst e
  refine hb ⟨?_,rfl⟩
  have:a * a=0:=by grind
  grind
 ·have n0:0 < (b.num * a.den).natAbs:=by
   have:=Int.mul_ne_zero hz (denI a); omega
  have m0:0 < (a.num * b.den).natAbs:=by
   refine Nat.pos_of_ne_zero fun e=>?_
   rw [e] at h2
   have:=Nat.mul_pos (Nat.mul_pos n0 n0) (show 0 < d.toNat by omega)
   omega
  have e:=ZlM m0 n0 h2 f1 hf
  rw [e] at h2
  have:=Nat.eq_of_mul_eq_mul_left (Nat.mul_pos n0 n0) h2
  omega
-- signs
def sg3 (q:Rat):Int:=q.num.sign
theorem ZoU {q:Rat}:sg3 q=1 ↔ 0 < q:=by
 unfold sg3
 rw [Int.sign_eq_one_iff_pos,Rat.lt_iff]; simp
theorem ZoV {q:Rat}:sg3 q = -1 ↔ q < 0:=by
 unfold sg3
 rw [Int.sign_eq_neg_one_iff_neg,Rat.lt_iff]; simp
theorem ZfO {q:Rat}:sg3 q=0 ↔ q=0:=by
 unfold sg3
 rw [Int.sign_eq_zero_iff_zero,Rat.num_eq_zero]
theorem Zeh (q:Rat):(q < 0∧sg3 q = -1)∨(q=0∧sg3 q=0)∨(0 < q∧sg3 q=1):=by
 rcases Zkg q.num with ⟨_,h⟩ | ⟨_,h⟩ | ⟨_,h⟩
 ·exact Or.inl ⟨ZoV.1 h,h⟩
 ·exact Or.inr (Or.inl ⟨ZfO.1 h,h⟩)
 ·exact Or.inr (Or.inr ⟨ZoU.1 h,h⟩)
end Go.Proofs.YtbgkofgoeoiciaaGreatDoor

namespace Go.Proofs.YtbgkofgoeoiciaaGreatDoor
open Go.RowKit
structure Sd where
 a:Rat
 b:Rat
 d:Int
def nv (a b:Rat) (d:Int):Sd:=if b=0 then ⟨a,0,1⟩ else ⟨a,b,d⟩
namespace Sd
def plus (x y:Sd):Sd:=nv (x.a + y.a) (x.b + y.b) (max x.d y.d)
def times (x y:Sd):Sd:=nv (x.a * y.a + x.b * y.b * ((max x.d y.d:Int):Rat)) (x.a * y.b + x.b * y.a) (max x.d y.d)
def neg (x:Sd):Sd:=⟨-x.a,-x.b,x.d⟩
def conj (x:Sd):Sd:=⟨x.a,-x.b,x.d⟩
def norm (x:Sd):Rat:=(x.times x.conj).a
def over (x y:Sd):Sd:=nv ((x.times y.conj).a * (y.norm)⁻¹) ((x.times y.conj).b * (y.norm)⁻¹) (x.times y.conj).d
def sgn (x:Sd):Int :=
 if x.b.num.sign=0∨x.a.num.sign=x.b.num.sign then x.a.num.sign
 else if x.a.num.sign=0 then x.b.num.sign
 else if 0 < x.norm.num.sign then x.a.num.sign else x.b.num.sign
-- the reference
def build (a b:Rat) (d:Int):Sd:=if d=1 then ⟨a + b,0,1⟩ else if b=0 then ⟨a,0,1⟩ else ⟨a,b,d⟩
def fld (d e:Int):Int:=if d=1∨d=e then e else if e=1 then d else 0
def rplus (x:Sd) (c:Rat) (y:Sd):Sd:=build (x.a + c * y.a) (x.b + c * y.b) (fld x.d y.d)
def rtimes (x y:Sd):Sd:=build (x.a * y.a + ((fld x.d y.d:Int):Rat) * (x.b * y.b)) (x.a * y.b + x.b * y.a) (fld x.d y.d)
def rnorm (x:Sd):Rat:=(x.rtimes x.conj).a
def rover (x y:Sd):Sd:=x.rtimes (build (y.conj.a * (1 / y.rnorm)) (y.conj.b * (1 / y.rnorm)) y.conj.d)
def rsgn (x:Sd):Int :=
 if x.a.num.sign=0∨x.b.num.sign=0∨x.a.num.sign=x.b.num.sign then (if x.a.num.sign=0 then x.b.num.sign else x.a.num.sign)
 else x.a.num.sign * (x.a * x.a - ((x.d:Int):Rat) * (x.b * x.b)).num.sign
def Ok (x:Sd):Prop:=(x.d=1∧x.b=0)∨(2≤x.d∧x.d≤1000000∧x.b≠0∧Free x.d.toNat)
end Sd
open Sd
structure Fld (D:Int):Prop where
 two:2≤D
 top:D≤1000000
 free:Free D.toNat
def Blg (d e:Int):Prop:=d=1∨e=1∨d=e
theorem nv_a (a b:Rat) (d:Int):(nv a b d).a=a:=by unfold nv; split<;>rfl
theorem nv_b (a b:Rat) (d:Int):(nv a b d).b=b:=by unfold nv; split<;>simp_all
theorem Zc5 (a:Rat) (d:Int):nv a 0 d=⟨a,0,1⟩:=by unfold nv; rw [if_pos rfl]
theorem Zgg {b:Rat} (a:Rat) (d:Int) (h:b≠0):nv a b d=⟨a,b,d⟩:=by unfold nv; rw [if_neg h]
theorem Zd7 {a a' b b':Rat} {d:Int} (h1:a=a') (h2:b=b'):nv a b d=nv a' b' d:=by rw [h1,h2]
theorem nv_d {a b:Rat} {d e:Int} (h:b=0∨d=e):nv a b d=nv a b e:=by
 rcases h with h | h
 ·subst h; rw [Zc5,Zc5]
 ·rw [h]
theorem Fld.nv_ok {D:Int} (h:Fld D) (a b:Rat):(nv a b D).Ok:=by
 unfold nv
 split
 ·exact Or.inl ⟨rfl,rfl⟩
 ·rename_i hb; exact Or.inr ⟨h.two,h.top,hb,h.free⟩
theorem Zgh:Fld 2:=⟨by decide,by decide,fun j hj hd=>by
 have:=Nat.le_of_dvd (by decide) hd
 have:=Nat.mul_le_mul hj hj
 have e:(2:Int).toNat=2:=rfl
 omega⟩
theorem Sd.Ok.field {x:Sd} (h:x.Ok):∃ D,Fld D∧(x.d=1∨x.d=D)∧∀ E,(x.d=1∨x.d=E)→x=nv x.a x.b E:=by
 obtain ⟨a,b,d⟩:=x
 rcases h with ⟨h1,h2⟩ | ⟨h1,h2,h3,h4⟩
 ·simp only at h1 h2
  subst h1 h2
  exact ⟨2,Zgh,Or.inl rfl,fun E _=>(Zc5 _ _).symm⟩
 ·exact ⟨d,⟨h1,h2,h4⟩,Or.inr rfl,fun E Q=>by
   simp only at Q h1 h3 ⊢
   have:d=E:=by omega
   subst this
   exact (Zgg a d h3).symm⟩
theorem ZtG {x y:Sd} (hx:x.Ok) (hy:y.Ok) (hb:Blg x.d y.d):∃ D,Fld D∧x=nv x.a x.b D∧y=nv y.a y.b D:=by
 obtain ⟨D,hD,h1,h2⟩:=hx.field
 obtain ⟨E,Q,k1,k2⟩:=hy.field
 unfold Blg at hb
 by_cases hd:x.d=1
 ·exact ⟨E,Q,h2 E (Or.inl hd),k2 E k1⟩
 ·exact ⟨D,hD,h2 D h1,k2 D (by omega)⟩
theorem Zc7 {D:Int} (_h:Fld D) (a b:Rat):(b=0∧nv a b D=⟨a,0,1⟩)∨(b≠0∧nv a b D=⟨a,b,D⟩):=by
 by_cases e:b=0
 ·subst e; exact Or.inl ⟨rfl,Zc5 _ _⟩
 ·exact Or.inr ⟨e,Zgg _ _ e⟩
section
variable {D:Int} (h:Fld D) (a b a' b':Rat)
include h
theorem ZqN:(b=0∧b'=0∧max (nv a b D).d (nv a' b' D).d=1)∨max (nv a b D).d (nv a' b' D).d=D:=by
 have:=h.two
 rcases Zc7 h a b with ⟨h1,e⟩ | ⟨_,e⟩<;>rcases Zc7 h a' b' with ⟨h2,f⟩ | ⟨_,f⟩<;>rw [e,f]
 ·exact Or.inl ⟨h1,h2,rfl⟩
 ·exact Or.inr (by show max 1 D=D; omega)
 ·exact Or.inr (by show max D 1=D; omega)
 ·exact Or.inr (by show max D D=D; omega)
theorem ZqO:(b=0∧b'=0∧fld (nv a b D).d (nv a' b' D).d=1)∨fld (nv a b D).d (nv a' b' D).d=D:=by
 have:=h.two
 rcases Zc7 h a b with ⟨h1,e⟩ | ⟨_,e⟩<;>rcases Zc7 h a' b' with ⟨h2,f⟩ | ⟨_,f⟩<;>rw [e,f]
 ·exact Or.inl ⟨h1,h2,rfl⟩
 ·exact Or.inr (by show fld 1 D=D; unfold fld; rw [if_pos (Or.inl rfl)])
 ·exact Or.inr (by show fld D 1=D; unfold fld; rw [if_neg (by omega),if_pos rfl])
 ·exact Or.inr (by show fld D D=D; unfold fld; rw [if_pos (Or.inr rfl)])
theorem ZoW:(nv a b D).plus (nv a' b' D)=nv (a + a') (b + b') D:=by
 unfold Sd.plus
 rw [nv_a,nv_a,nv_b,nv_b]
 refine nv_d ?_
 rcases ZqN h a b a' b' with ⟨h1,h2,_⟩ | e
 ·exact Or.inl (by rw [h1,h2,Rat.add_zero])
 ·exact Or.inr e
theorem Zjx:(nv a b D).times (nv a' b' D)=nv (a * a' + b * b' * (D:Rat)) (a * b' + b * a') D:=by
 unfold Sd.times
 rw [nv_a,nv_a,nv_b,nv_b]
 rcases ZqN h a b a' b' with ⟨h1,h2,e⟩ | e
 ·rw [e]; subst h1 h2
  rw [nv_d (e:=D) (Or.inl (by grind))]
  exact Zd7 (by grind) rfl
 ·rw [e]
theorem Znv:(nv a b D).neg=nv (-a) (-b) D:=by
 rcases Zc7 h a b with ⟨h1,e⟩ | ⟨h1,e⟩<;>rw [e]
 ·subst h1
  rw [show (-0:Rat)=0 from rfl,Zc5]; rfl
 ·rw [Zgg _ _ (by grind)]; rfl
theorem ZgD:(nv a b D).conj=nv a (-b) D:=by
 rcases Zc7 h a b with ⟨h1,e⟩ | ⟨h1,e⟩<;>rw [e]
 ·subst h1
  rw [show (-0:Rat)=0 from rfl,Zc5]; rfl
 ·rw [Zgg _ _ (by grind)]; rfl
theorem Zk8:(nv a b D).norm=nrm a b D:=by
 unfold Sd.norm
 rw [ZgD h,Zjx h,nv_a]; rfl
theorem ZoX:(nv a b D).over (nv a' b' D)=nv ((a * a' + b * (-b') * (D:Rat)) * (nrm a' b' D)⁻¹) ((a * (-b') + b * a') * (nrm a' b' D)⁻¹) D:=by
 unfold Sd.over
 rw [Zk8 h,ZgD h,Zjx h,nv_a,nv_b]
 refine nv_d ?_
 rcases Zc7 h (a * a' + b * (-b') * (D:Rat)) (a * (-b') + b * a') with ⟨h1,e⟩ | ⟨h1,e⟩
 ·exact Or.inl (by rw [h1,Rat.zero_mul])
 ·exact Or.inr (by rw [e])
theorem Zhe (e:Int) (he:(b=0∧e=1)∨e=D):Sd.build a b e=nv a b D:=by
 have:=h.two
 unfold Sd.build
 rcases he with ⟨h1,h2⟩ | h2
 ·rw [if_pos h2,h1,Zc5,Rat.add_zero]
 ·subst h2; rw [if_neg (by omega)]; rfl
theorem Zjy (c:Rat):(nv a b D).rplus c (nv a' b' D)=nv (a + c * a') (b + c * b') D:=by
 unfold Sd.rplus
 rw [nv_a,nv_a,nv_b,nv_b]
 refine Zhe h _ _ _ ?_
 rcases ZqO h a b a' b' with ⟨h1,h2,e⟩ | e
 ·exact Or.inl ⟨by rw [h1,h2]; grind,e⟩
 ·exact Or.inr e
theorem Zic:(nv a b D).rtimes (nv a' b' D)=nv (a * a' + b * b' * (D:Rat)) (a * b' + b * a') D:=by
 unfold Sd.rtimes
 rw [nv_a,nv_a,nv_b,nv_b]
 rcases ZqO h a b a' b' with ⟨h1,h2,e⟩ | e
 ·rw [e]; subst h1 h2
  rw [Zhe h _ _ _ (Or.inl ⟨by grind,rfl⟩)]
  exact Zd7 (by grind) rfl
 ·rw [e,Zhe h _ _ _ (Or.inr rfl)]
  exact Zd7 (by grind) rfl
theorem Znw:(nv a b D).rnorm=nrm a b D:=by
 unfold Sd.rnorm
 rw [ZgD h,Zic h,nv_a]; rfl
theorem ZrW (h0:¬ (a'=0∧b'=0)):(nv a b D).rover (nv a' b' D)=(nv a b D).over (nv a' b' D):=by
 have hn:=ZqM h.two h.free h0
 have e:1 / nrm a' b' D=(nrm a' b' D)⁻¹:=by rw [Rat.div_def,Rat.one_mul]
 rw [ZoX h]
 unfold Sd.rover
 rw [Znw h,ZgD h,nv_a,nv_b,e,Zhe h,Zic h]
 ·exact Zd7 (by grind) (by grind)
 ·rcases Zc7 h a' (-b') with ⟨h1,e⟩ | ⟨h1,e⟩
  ·exact Or.inl ⟨by rw [h1,Rat.zero_mul],by rw [e]⟩
  ·exact Or.inr (by rw [e])
theorem ZtH:(0 < nrm a b D∧(nv a b D).sgn=sg3 a)∨(nrm a b D < 0∧(nv a b D).sgn=sg3 b)∨(a=0∧b=0∧nrm a b D=0∧(nv a b D).sgn=0):=by
 have hD:(0:Rat) < (D:Rat):=Rat.intCast_pos.2 (by have:=h.two; omega)
 have sq:∀ q:Rat,q≠0→0 < q * q:=fun q hq=>by
  rcases Zeh q with ⟨k,_⟩ | ⟨k,_⟩ | ⟨k,_⟩
  ·have:=Rat.mul_pos (show 0 < -q by grind) (show 0 < -q by grind); grind
  ·exact absurd k hq
  ·exact Rat.mul_pos k k
 unfold Sd.sgn
 rw [Zk8 h,nv_a,nv_b]
 change _∨_
 by_cases h0:a=0∧b=0
 ·obtain ⟨rfl,rfl⟩:=h0
  exact Or.inr (Or.inr ⟨rfl,rfl,by unfold nrm; grind,rfl⟩)
 have hn:=ZqM h.two h.free h0
 have e1:∀ q:Rat,q.num.sign=sg3 q:=fun q=>rfl
 simp only [e1]
 by_cases hb:b=0
 ·subst hb
  have ha:a≠0:=fun e=>h0 ⟨e,rfl⟩
  refine Or.inl ⟨?_,if_pos (Or.inl rfl)⟩
  have:=sq a ha
  unfold nrm; grind
 have hb3:sg3 b≠0:=fun e=>hb (ZfO.1 e)
 by_cases ha:a=0
 ·subst ha
  refine Or.inr (Or.inl ⟨?_,?_⟩)
  ·have:=Rat.mul_pos (sq b hb) hD
   unfold nrm; grind
  ·rw [if_neg (by rintro (e | e)
                  ·exact hb3 e
                  ·exact hb3 (e.symm.trans rfl)),if_pos (show sg3 (0:Rat)=0 from rfl)]
 have ha3:sg3 a≠0:=fun e=>ha (ZfO.1 e)
 rcases Zeh (nrm a b D) with ⟨k,k3⟩ | ⟨k,k3⟩ | ⟨k,k3⟩
 ·refine Or.inr (Or.inl ⟨k,?_⟩)
  split
  ·rename_i hc; rcases hc with hc | hc
   ·exact absurd hc hb3
   ·exact hc
  ·rw [if_neg (by rw [k3]; decide)]
 ·exact absurd k hn
 ·refine Or.inl ⟨k,?_⟩
  split
  ·rfl
  ·rw [if_pos (by rw [k3]; decide)]
theorem Zs2:(nv a b D).rsgn=(nv a b D).sgn:=by
 have hS:=ZtH h a b
 have e1:∀ q:Rat,q.num.sign=sg3 q:=fun q=>rfl
 unfold Sd.rsgn
 rw [nv_a,nv_b]
 simp only [e1]
 by_cases hb:b=0
 ·subst hb
  have hz:sg3 (0:Rat)=0:=rfl
  rw [if_pos (Or.inr (Or.inl hz)),hz]
  rcases hS with ⟨k,e⟩ | ⟨k,e⟩ | ⟨k1,k2,k3,e⟩
  ·rw [e]; split
   ·rename_i e; exact e.symm
   ·rfl
  ·exfalso
   have hq:nrm a 0 D=a * a:=by unfold nrm; grind
   rw [hq] at k
   rcases Zeh a with ⟨j,_⟩ | ⟨j,_⟩ | ⟨j,_⟩
   ·have:=Rat.mul_pos (show 0 < -a by grind) (show 0 < -a by grind); grind
   ·subst j; grind
   ·have:=Rat.mul_pos j j; grind
  ·rw [e,k1,hz]; rfl
 rw [Zgg _ _ hb] at hS ⊢
 simp only []
 rw [show a * a - (D:Rat) * (b * b)=nrm a b D by unfold nrm; grind]
 have hb3:sg3 b≠0:=fun e=>hb (ZfO.1 e)
 rcases hS with ⟨k,e⟩ | ⟨k,e⟩ | ⟨k1,k2,k3,e⟩
 ·rw [e,ZoU.2 k]
  split
  ·split
   ·rename_i hc hz; exfalso
    have:=ZfO.1 hz; subst this
    have hD:(0:Rat) < (D:Rat):=Rat.intCast_pos.2 (by have:=h.two; omega)
    have hbb:0 < b * b:=by
     rcases Zeh b with ⟨j,_⟩ | ⟨j,_⟩ | ⟨j,_⟩
     ·have:=Rat.mul_pos (show 0 < -b by grind) (show 0 < -b by grind); grind
     ·exact absurd j hb
     ·exact Rat.mul_pos j j
    have:=Rat.mul_pos hbb hD
    unfold nrm at k; grind
   ·rfl
  ·omega
 ·rw [e,ZoV.2 k]
  split
  ·rename_i hc
   split
   ·rfl
   ·rename_i hz
    rcases hc with hc | hc | hc
    ·exact absurd hc hz
    ·exact absurd hc hb3
    ·exact hc
  ·rename_i hc
   have hA:sg3 a = -1∨sg3 a=0∨sg3 a=1:=by rcases Zeh a with ⟨_,j⟩ | ⟨_,j⟩ | ⟨_,j⟩<;>omega
   have hB:sg3 b = -1∨sg3 b=0∨sg3 b=1:=by rcases Zeh b with ⟨_,j⟩ | ⟨_,j⟩ | ⟨_,j⟩<;>omega
   omega
 ·exact absurd k2 hb
omit h in
end
end Go.Proofs.YtbgkofgoeoiciaaGreatDoor

namespace Go.Proofs.YtbgkofgoeoiciaaGreatDoor
open Go.RowKit
def ZaD (c:UInt8):Bool:=c != 47
def Zcb (l:List UInt8):Option Rat :=
 if (((ZaG l).2.takeWhile ZaD).all Zaz && !((ZaG l).2.takeWhile ZaD).isEmpty)=false then none
 else if (ZaG l).2.drop ((ZaG l).2.takeWhile ZaD).length=[] then
  (if Zad (((sg (ZaG l).1 (Zag ((ZaG l).2.takeWhile ZaD)):Int)):Rat)=l then some (((sg (ZaG l).1 (Zag ((ZaG l).2.takeWhile ZaD)):Int)):Rat) else none)
 else if (((ZaG l).2.drop (((ZaG l).2.takeWhile ZaD).length + 1)).all Zaz && !((ZaG l).2.drop (((ZaG l).2.takeWhile ZaD).length + 1)).isEmpty)=false∨Zag ((ZaG l).2.drop (((ZaG l).2.takeWhile ZaD).length + 1))=0 then none
 else (if Zad (Rat.divInt (sg (ZaG l).1 (Zag ((ZaG l).2.takeWhile ZaD))) (Zag ((ZaG l).2.drop (((ZaG l).2.takeWhile ZaD).length + 1)):Int))=l then some (Rat.divInt (sg (ZaG l).1 (Zag ((ZaG l).2.takeWhile ZaD))) (Zag ((ZaG l).2.drop (((ZaG l).2.takeWhile ZaD).length + 1)):Int)) else none)
theorem ZpK {l:List UInt8} {q:Rat} (h:Zcb l=some q):Zad q=l:=by
 unfold Zcb at h
 split at h
 ·cases h
 split at h
 ·split at h
  ·rename_i e; injection h with h; rw [← h]; exact e
  ·cases h
 split at h
 ·cases h
 ·split at h
  ·rename_i e; injection h with h; rw [← h]; exact e
  ·cases h
theorem Zid {l:List UInt8} (h:l.all Zaz=true):l.all ZaD=true:=by
 rw [List.all_eq_true] at *
 intro x hx
 have:=h x hx
 unfold ZaD
 simp
 rintro rfl
 exact absurd this (by decide)
theorem ZpL (q:Rat):Zcb (Zad q)=some q:=by
 by_cases h:q.den=1
 ·have ht:Zad q=Lib.itoa q.num ++ []:=by unfold Zad; rw [if_pos h,List.append_nil]
  have hu:=Zgn q.num []
  rw [← ht,List.append_nil] at hu
  obtain ⟨h1,h2⟩:=Zd2 (Zid (Zc4 q.num.natAbs))
  unfold Zcb
  rw [hu]
  simp only []
  rw [h1,Zc4,ZeN,Zno,Zkm h]
  rw [if_neg (by simp [Zbi]),List.drop_of_length_le (Nat.le_refl _),if_pos rfl,if_pos rfl]
 ·have ht:Zad q=Lib.itoa q.num ++ 47 :: Lib.decDigits q.den:=by unfold Zad; rw [if_neg h,Zg9]; simp
  have hu:=Zgn q.num (47 :: Lib.decDigits q.den)
  rw [← ht] at hu
  obtain ⟨h1,h2⟩:=ZgC (p:=ZaD) (r:=Lib.decDigits q.den) (c:=47) (Zid (Zc4 q.num.natAbs)) (by decide)
  have hd:=q.den_nz
  have hdr:(Lib.decDigits q.num.natAbs ++ 47 :: Lib.decDigits q.den).drop (Lib.decDigits q.num.natAbs).length=47 :: Lib.decDigits q.den:=by simp
  have hdr2:(Lib.decDigits q.num.natAbs ++ 47 :: Lib.decDigits q.den).drop ((Lib.decDigits q.num.natAbs).length + 1)=Lib.decDigits q.den:=by
   rw [← List.drop_drop,hdr]; rfl
  unfold Zcb
  rw [hu]
  simp only []
  rw [h1,hdr,hdr2,Zc4,Zc4,ZeN,ZeN,Zno,Rat.num_divInt_den]
  rw [if_neg (by simp [Zbi]),if_neg (by simp),if_neg (by simp [Zbi]; exact hd),if_pos rfl]
theorem Zhf (l:List UInt8):Zcb l=ZaH l:=by
 cases h:Zcb l with
 | some q=>rw [← ZpK h]; exact (Zgb q).symm
 | none =>
   cases k:ZaH l with
   | none=>rfl
   | some q =>
     have:=Zh7 k
     rw [← this,ZpL] at h
     cases h
def Zhg (w:World) (l:List UInt8) (e:Ending) (w':World):Prop :=
 ∃ v ok q,e=.returned (.tuple #[v, .bool ok])∧Ext w w'∧Zai w' v q∧((ok=true∧ZaH l=some q)∨(ok=false∧ZaH l=none))
theorem Zny {q:Rat} {s:ByteArray} {b:Bool} (hn:Zcb (bytes s)=if Zad q=bytes s then some q else none) (hb:b=decide (Zad q=bytes s)):(b=true∧ZaH (bytes s)=some q)∨(b=false∧ZaH (bytes s)=none):=by
 rw [Zhf] at hn
 by_cases h:Zad q=bytes s
 ·rw [if_pos h] at hn; left; exact ⟨by rw [hb,decide_eq_true h],hn⟩
 ·rw [if_neg h] at hn; right; exact ⟨by rw [hb,decide_eq_false h],hn⟩
theorem Zkq (t:ByteArray) (a b:Nat):(t.extract a b).size≤t.size:=by
 rw [← Zav,ZbJ,List.length_take,List.length_drop,Zav]; omega
theorem Zhv {l:List UInt8} {k:Nat} (h:(l.take k).all ZaD=true) (hs:∀ h:k < l.length,ZaD l[k]=false) (hk:k≤l.length):k=(l.takeWhile ZaD).length:=by
 rw [(Zfz h hs).1,List.length_take]; omega
theorem ZqP {t:ByteArray} {p:Nat} (hp:p=((bytes t).takeWhile ZaD).length):bytes (t.extract 0 p)=(bytes t).takeWhile ZaD∧bytes (t.extract (p + 1) t.size)=(bytes t).drop (p + 1):=by
 rw [ZbJ,ZbJ]
 refine ⟨?_,?_⟩
 ·rw [List.drop_zero,Nat.sub_zero,hp]
  have:=List.takeWhile_prefix ZaD (l:=bytes t)
  exact (List.prefix_iff_eq_take.1 this).symm
 ·rw [List.take_of_length_le (by rw [List.length_drop,Zav]; exact Nat.le_refl _)]
theorem ZpM {l t:List UInt8} {neg:Bool} (hu:ZaG l=(neg,t)) (hb:(((t.takeWhile ZaD)).all Zaz && !(t.takeWhile ZaD).isEmpty)=false):Zcb l=none:=by
 unfold Zcb; rw [hu]; simp only []; rw [if_pos hb]
theorem Zor {l t:List UInt8} {neg:Bool} (hu:ZaG l=(neg,t)) (hb:(((t.takeWhile ZaD)).all Zaz && !(t.takeWhile ZaD).isEmpty)=true) (hd:t.length≤(t.takeWhile ZaD).length) :
 Zcb l=if Zad ((sg neg (Zag (t.takeWhile ZaD)):Int):Rat)=l then some ((sg neg (Zag (t.takeWhile ZaD)):Int):Rat) else none:=by
 unfold Zcb; rw [hu]; simp only []; rw [if_neg (by rw [hb]; simp),if_pos (List.drop_of_length_le hd)]
theorem Zkr {l t:List UInt8} {neg:Bool} (hu:ZaG l=(neg,t)) (hb:(((t.takeWhile ZaD)).all Zaz && !(t.takeWhile ZaD).isEmpty)=true) (hd:(t.takeWhile ZaD).length < t.length)
 (h2:((t.drop ((t.takeWhile ZaD).length + 1)).all Zaz && !(t.drop ((t.takeWhile ZaD).length + 1)).isEmpty)=false∨Zag (t.drop ((t.takeWhile ZaD).length + 1))=0):Zcb l=none:=by
 unfold Zcb; rw [hu]; simp only []; rw [if_neg (by rw [hb]; simp),if_neg (fun e=>by have:=congrArg List.length e; simp at this; omega),if_pos h2]
theorem ZpN {l t:List UInt8} {neg:Bool} (hu:ZaG l=(neg,t)) (hb:(((t.takeWhile ZaD)).all Zaz && !(t.takeWhile ZaD).isEmpty)=true) (hd:(t.takeWhile ZaD).length < t.length)
 (h2:((t.drop ((t.takeWhile ZaD).length + 1)).all Zaz && !(t.drop ((t.takeWhile ZaD).length + 1)).isEmpty)=true) (h3:Zag (t.drop ((t.takeWhile ZaD).length + 1))≠0) :
 Zcb l=if Zad (Rat.divInt (sg neg (Zag (t.takeWhile ZaD))) (Zag (t.drop ((t.takeWhile ZaD).length + 1)):Int))=l then some (Rat.divInt (sg neg (Zag (t.takeWhile ZaD))) (Zag (t.drop ((t.takeWhile ZaD).length + 1)):Int)) else none:=by
 unfold Zcb; rw [hu]; simp only []; rw [if_neg (by rw [hb]; simp),if_neg (fun e=>by have:=congrArg List.length e; simp at this; omega),if_neg (fun e=>e.elim (fun e=>by rw [h2] at e; cases e) h3)]
theorem ZoY {x:List UInt8} {s:ByteArray}:((⟨x.toArray⟩:ByteArray).toList == s.toList)=decide (x=bytes s):=by
 rw [Lib.toList_data,Lib.toList_data]
 by_cases h:x=bytes s
 ·rw [decide_eq_true h]; simp [h]
 ·rw [decide_eq_false h]; simpa using h
theorem ZlN {t:ByteArray} (h:(bytes t).all Zaz=true) (hs:t.size≤65536):ml (Zag (bytes t))≤65536:=by
 have:=ZfN (ZbD _ h)
 rw [Zav] at this
 omega
theorem ZpO {neg:Bool} {n:Nat}:(sg neg n).natAbs=n:=by cases neg<;>simp [sg]
theorem ZoZ {x y:Int} (hy:y≠0):ml (Rat.divInt x y).num.natAbs≤ml x.natAbs∧ml (Rat.divInt x y).den≤ml y.natAbs:=by
 constructor
 ·refine ZdL ?_
  rw [Rat.num_divInt,Int.natAbs_ediv_of_dvd]
  ·refine Nat.le_trans (Nat.div_le_self _ _) ?_
   rw [Int.natAbs_mul]
   rcases Int.lt_or_gt_of_ne hy with h | h
   ·rw [Int.sign_eq_neg_one_of_neg h]; simp
   ·rw [Int.sign_eq_one_of_pos h]; simp
  ·exact Int.dvd_mul_of_dvd_right (Int.gcd_dvd_right _ _)
 ·refine ZdL ?_
  rw [Rat.den_divInt,if_neg hy]
  exact Nat.div_le_self _ _
theorem ZrX {s:ByteArray} (h:¬ bytes s=[]):∃ c,(bytes s).head? = some c∧s[0]? = some c:=by
 obtain ⟨h1,_⟩:=Zea h
 exact ⟨s[0],Zf3 h1,by simp [h1]⟩
theorem Znz {s:ByteArray} (h:¬ bytes s=[]):1≤s.size:=(Zea h).1
theorem ZnA {s:ByteArray} {c:UInt8} (h:(bytes s).head? = some c) (hc:c=45):ZaG (bytes s)=(true,bytes (s.extract 1 s.size)):=by
 unfold ZaG
 rw [h,hc,if_pos rfl,ZbJ,List.take_of_length_le (by rw [List.length_drop,Zav]; exact Nat.le_refl _),List.drop_one]
theorem Zos {s:ByteArray} {c:UInt8} (h:(bytes s).head? = some c) (hc:¬ c=45):ZaG (bytes s)=(false,bytes s):=by
 unfold ZaG
 rw [h,if_neg (by simpa using hc)]
theorem Zsp {c b:UInt8} (h:c=b):((c.toNat:Int) == (b.toNat:Int))=true:=by subst h; simp
theorem Zsq {c b:UInt8} (h:¬ c=b):((c.toNat:Int) == (b.toNat:Int))=false:=by
 have:c.toNat≠b.toNat:=fun e=>h (UInt8.toNat_inj.1 e)
 simp; omega
theorem ZtI {a b:Nat} (h:a < b):decide (((a:Nat):Int) < ((b:Nat):Int))=true:=decide_eq_true (by omega)
theorem Zs4 {a b:Nat} (h:¬ a < b):decide (((a:Nat):Int) < ((b:Nat):Int))=false:=decide_eq_false (by omega)
theorem Zie {a:Nat} (h:a≤1000000):IntKind.i64.wrap (((a:Nat):Int) + 1)=((a + 1:Nat):Int):=by rw [IntKind.wrap_i64]; omega
theorem ZrY {n:Nat} (h:n=0):(((n:Int).sign:Int) == 0)=true:=by subst h; rfl
theorem ZqQ {n:Nat} (h:¬ n=0):(((n:Int).sign:Int) == 0)=false:=by
 rw [beq_eq_false_iff_ne]; exact fun e=>h (by have:=Int.sign_eq_zero_iff_zero.1 e; omega)
theorem Zo0 {w w':World} {e:Ending} {l:List UInt8} (h:Zkp w l e w') (hd:l.all Zaz=true) (hne:l≠[]):Zbn (fun x:ShI=>.tuple #[ZaB x, .bool true]) (fun x w=>Zax w (ZaB x) (Zag l:Int)) w e w':=by
 obtain ⟨v,b,rfl,rfl,hI,Q⟩:=h
 rw [if_pos hd] at hI
 obtain ⟨s,A,l',c,rfl⟩:=hI.shp
 refine ⟨(s,A,l',c),?_,Q,boxn Q (fun S w'' hS hF=>hI.nrb hS hF)⟩
 rw [hd,show l.isEmpty=false by simpa using hne]; rfl
theorem Zfg {P:Program} {o:Oper} {ρ:Operand→Value} {w:World} {t:TypeId} {x i:Operand} {b:ByteArray} {k:Nat} {c:UInt8} (ho:o.op=Op.index t x i) (ht:P.underlying t=some .string) (hx:ρ x=.string b) (hi:ρ i=.int .i64 (k:Int)) (hc:b[k]? = some c):(execOp ρ o).run P w=.ok (.value (.int .u8 (c.toNat:Int))) w:=by
 simp [execOp,ho,Instr.index,asIntOf,underlying,ht,hx,hi,hc,Result.andThen]
theorem ZnB {w w':World} {e:Ending} {l:List UInt8} (h:Zkp w l e w') (hb:¬ (l.all Zaz && !l.isEmpty)=true):Zbn (fun x:ShI=>.tuple #[ZaB x, .bool false]) (fun _ _=>True) w e w':=by
 obtain ⟨v,b,rfl,rfl,hI,Q⟩:=h
 obtain ⟨s,A,l',c,rfl⟩:=hI.shp
 exact ⟨(s,A,l',c),by rw [Bool.eq_false_iff.2 hb]; rfl,Q,BoxN.pure trivial⟩
theorem ZlO {l:List UInt8} (h:(l.all Zaz && !l.isEmpty)=true):l.all Zaz=true∧l≠[]:=by
 rw [Bool.and_eq_true] at h
 exact ⟨h.1,fun e=>by rw [e] at h; simp at h⟩
theorem Zai.whole {w:World} {s:Bool} {A:Option Addr} {l c:Nat} {z:Int} (h:Zax w (.agg #[.bool s, .slice A l c]) z):Zai w (.agg #[.bool s, .slice A l c, .bool false, .slice none 0 0]) ((z:Int):Rat) :=
 Zai.of h (by rw [Zbd (by rfl)]; exact Zax.nil _)
theorem ZqR {z:Int} (h:ml z.natAbs≤65536):Za5 z:=nfit h (by decide)
theorem ZpP {n:Nat} (h:¬ n=0):((n:Nat):Int)≠0:=by omega
theorem Zs5:ml (1:Nat)≤65536:=Nat.le_trans (ZcP.2 (by rw [Zay]; decide):ml 1≤1) (by decide)
theorem Zs6 {t:ByteArray} {i:Nat} {c:UInt8} (hI:((bytes t).take i).all ZaD=true) (hc:t[i]? = some c) (h:¬ c=47):((bytes t).take (i + 1)).all ZaD=true:=by
 have hi:i < t.size:=by
  rcases Nat.lt_or_ge i t.size with h' | h'
  ·exact h'
  ·rw [getElem?_neg t i (by omega)] at hc; cases hc
 have hc':t[i]=c:=by
  rw [getElem?_pos t i hi] at hc; exact Option.some.inj hc
 rw [Zlj t i hi,List.all_append,hI,hc']
 simp [ZaD,h]
theorem ZtJ {t:ByteArray} {i:Nat} {c:UInt8} (hI:((bytes t).take i).all ZaD=true) (hc:t[i]? = some c) (h:c=47) (hi:i≤t.size):i=((bytes t).takeWhile ZaD).length:=by
 refine Zhv hI (fun hlt=>?_) (by rw [Zav]; exact hi)
 have hi':i < t.size:=by rw [← Zav]; exact hlt
 rw [getElem?_pos t i hi'] at hc
 have:(bytes t)[i]=47:=(Option.some.inj hc).trans h
 rw [this]; rfl
theorem ZtK {t:ByteArray} (hI:((bytes t).take t.size).all ZaD=true):t.size=((bytes t).takeWhile ZaD).length :=
 Zhv hI (fun h=>by rw [Zav] at h; omega) (by rw [Zav]; exact Nat.le_refl _)
theorem ZdH (s:ByteArray) (w:World) (hs:s.size≤65536) :
 Calls Tryz.prog 100 #[.string s] w (Zhg w (bytes s)):=by
 refine Zan (Φ:=fun w=>True) Tryz.func100 rfl (by kernel_rfl) (fun w' hf=>trivial) ?_
 refine Zac (Zab (xr 2 [(0, .v (.string s)),(2, .p 2 0),(3, .v (.bool false))] [bR4 2 36 false none 0 0 false none 0 0] ?_))
 refine xe (Zaa (Zac (Zab (xr 2 [(0, .v (.string s)),(2, .p 2 0),(3, .v (.bool false)),(4, .v (.string s))] [bR4 2 36 false none 0 0 false none 0 0] ?_))))
 refine xe (Zaa ?_)
 refine Znx (fun ss ff=>∃ (b:Bool),ss=ofL [(0, .v (.string s)),(2, .p 2 0),(3, .v (.bool false)),(4, .v (.string s)),(5, .v (.bool b))] [(2,36,[.v (.bool false), .v (.slice none 0 0), .v (.bool false), .v (.slice none 0 0)])]∧ff=(fun w=>True)∧((b=true→ZaG (bytes s)=(true,bytes (s.extract 1 s.size))∧1≤s.size)∧(b=false→ZaG (bytes s)=(false,bytes s)))) ?_ ?_
 ·by_cases he:bytes s=[]
  ·have hs0:s.size=0:=by rw [← Zav,he]; rfl
   refine Zab (xr 3 [(0, .v (.string s)),(2, .p 2 0),(3, .v (.bool false)),(4, .v (.string s)),(16, .v (.bool (decide (((s).size:Int) > 0))))] [bR4 2 36 false none 0 0 false none 0 0] ?_)
   rw [(show decide (((s).size:Int) > 0)=false from decide_eq_false (by omega))]
   refine xr 6 [(0, .v (.string s)),(2, .p 2 0),(3, .v (.bool false)),(4, .v (.string s)),(5, .v (.bool false))] [bR4 2 36 false none 0 0 false none 0 0] ?_
   refine xe ?_
   refine SXq.weak [(0, .v (.string s)),(2, .p 2 0),(3, .v (.bool false)),(4, .v (.string s)),(5, .v (.bool false))] [(2,36,[.v (.bool false), .v (.slice none 0 0), .v (.bool false), .v (.slice none 0 0)])] (Ψ:=fun w=>True) (ZbT.of (by kernel_rfl)) (by kernel_rfl) (fun w Q=>trivial) ?_
   exact ZeQ ⟨false,rfl,rfl,⟨fun h=>(by cases h),fun _=>(by unfold ZaG; rw [he]; rfl)⟩⟩
  ·obtain ⟨c0,h0,hc0⟩:=ZrX he
   have hs0:=Znz he
   by_cases hm:c0=45
   ·refine Zab (xr 3 [(0, .v (.string s)),(2, .p 2 0),(3, .v (.bool false)),(4, .v (.string s)),(16, .v (.bool (decide (((s).size:Int) > 0))))] [bR4 2 36 false none 0 0 false none 0 0] ?_)
    rw [(show decide (((s).size:Int) > 0)=true from decide_eq_true (by omega))]
    refine xr 2 [(0, .v (.string s)),(2, .p 2 0),(3, .v (.bool false)),(4, .v (.string s)),(17, .v (.bool true)),(18, .v (.string s))] [bR4 2 36 false none 0 0 false none 0 0] ?_
    refine Zdq 19 (.int .u8 (c0.toNat:Int)) (by kernel_rfl) (by kernel_rfl) (by kernel_rfl) (by kernel_rfl) (by kernel_rfl) (by kernel_rfl) (fun w R Q=>Zfg (t:=9) (x:=.tmp 18) (k:=0) (i:=.const (.int .i64 0)) (by kernel_rfl) (by kernel_rfl) (by kernel_rfl) (by rfl) hc0) ?_
    refine xr 1 [(0, .v (.string s)),(2, .p 2 0),(3, .v (.bool false)),(4, .v (.string s)),(17, .v (.bool true)),(20, .v (.bool (((c0.toNat:Int):Int) == 45)))] [bR4 2 36 false none 0 0 false none 0 0] ?_
    rw [(show ((c0.toNat:Int) == 45)=true from Zsp hm)]
    refine xr 2 [(0, .v (.string s)),(2, .p 2 0),(3, .v (.bool false)),(4, .v (.string s)),(5, .v (.bool true))] [bR4 2 36 false none 0 0 false none 0 0] ?_
    refine xe ?_
    refine SXq.weak [(0, .v (.string s)),(2, .p 2 0),(3, .v (.bool false)),(4, .v (.string s)),(5, .v (.bool true))] [(2,36,[.v (.bool false), .v (.slice none 0 0), .v (.bool false), .v (.slice none 0 0)])] (Ψ:=fun w=>True) (ZbT.of (by kernel_rfl)) (by kernel_rfl) (fun w Q=>trivial) ?_
    exact ZeQ ⟨true,rfl,rfl,⟨fun _=>⟨ZnA h0 hm,Znz he⟩,fun h=>(by cases h)⟩⟩
   ·refine Zab (xr 3 [(0, .v (.string s)),(2, .p 2 0),(3, .v (.bool false)),(4, .v (.string s)),(16, .v (.bool (decide (((s).size:Int) > 0))))] [bR4 2 36 false none 0 0 false none 0 0] ?_)
    rw [(show decide (((s).size:Int) > 0)=true from decide_eq_true (by omega))]
    refine xr 2 [(0, .v (.string s)),(2, .p 2 0),(3, .v (.bool false)),(4, .v (.string s)),(17, .v (.bool true)),(18, .v (.string s))] [bR4 2 36 false none 0 0 false none 0 0] ?_
    refine Zdq 19 (.int .u8 (c0.toNat:Int)) (by kernel_rfl) (by kernel_rfl) (by kernel_rfl) (by kernel_rfl) (by kernel_rfl) (by kernel_rfl) (fun w R Q=>Zfg (t:=9) (x:=.tmp 18) (k:=0) (i:=.const (.int .i64 0)) (by kernel_rfl) (by kernel_rfl) (by kernel_rfl) (by rfl) hc0) ?_
    refine xr 1 [(0, .v (.string s)),(2, .p 2 0),(3, .v (.bool false)),(4, .v (.string s)),(17, .v (.bool true)),(20, .v (.bool (((c0.toNat:Int):Int) == 45)))] [bR4 2 36 false none 0 0 false none 0 0] ?_
    rw [(show ((c0.toNat:Int) == 45)=false from Zsq (b:=45) hm)]
    refine xr 2 [(0, .v (.string s)),(2, .p 2 0),(3, .v (.bool false)),(4, .v (.string s)),(5, .v (.bool false))] [bR4 2 36 false none 0 0 false none 0 0] ?_
    refine xe ?_
    refine SXq.weak [(0, .v (.string s)),(2, .p 2 0),(3, .v (.bool false)),(4, .v (.string s)),(5, .v (.bool false))] [(2,36,[.v (.bool false), .v (.slice none 0 0), .v (.bool false), .v (.slice none 0 0)])] (Ψ:=fun w=>True) (ZbT.of (by kernel_rfl)) (by kernel_rfl) (fun w Q=>trivial) ?_
    exact ZeQ ⟨false,rfl,rfl,⟨fun h=>(by cases h),fun _=>Zos h0 hm⟩⟩
 ·rintro ss ff ⟨b,rfl,rfl,HB⟩
  refine Znx (fun ss ff=>∃ (t:ByteArray) (ng:Bool),ss=ofL [(0, .v (.string s)),(2, .p 2 0),(3, .v (.bool false)),(4, .v (.string t)),(5, .v (.bool ng))] [(2,36,[.v (.bool false), .v (.slice none 0 0), .v (.bool false), .v (.slice none 0 0)])]∧ff=(fun w=>True)∧(ZaG (bytes s)=(ng,bytes t))∧(t.size≤65536)) ?_ ?_
  ·refine Zac (Zab (xr 1 [(0, .v (.string s)),(2, .p 2 0),(3, .v (.bool false)),(4, .v (.string s)),(5, .v (.bool b)),(22, .v (.bool b))] [bR4 2 36 false none 0 0 false none 0 0] ?_))
   refine xe (Zaa ?_)
   refine Zbb (b) (by kernel_rfl) (fun hb10=>?_) (fun hb10=>?_)
   ·have hbb:=hb10
    obtain ⟨HM0,hsz⟩:=HB.1 hbb
    obtain ⟨t,ht⟩:∃ t,s.extract 1 s.size=t:=⟨_,rfl⟩
    rw [ht] at HM0
    have lt:t.size≤65536:=by rw [← ht,ByteArray.size_extract]; omega
    refine Zab (xr 1 [(0, .v (.string s)),(2, .p 2 0),(3, .v (.bool false)),(4, .v (.string s)),(5, .v (.bool b)),(23, .v (.string s))] [bR4 2 36 false none 0 0 false none 0 0] ?_)
    refine Zdq 24 (.string t) (by kernel_rfl) (by kernel_rfl) (by kernel_rfl) (by kernel_rfl) (by kernel_rfl) (by kernel_rfl) (fun w R Q=>ZdG 1 _ (t:=9) (x:=(Operand.tmp 23)) (lo:=(some (Operand.const (Value.int IntKind.i64 1)))) (hi:=none) (by kernel_rfl) (by kernel_rfl) (by kernel_rfl) (Or.inr rfl) (Or.inl ⟨rfl,rfl⟩) hsz (Nat.le_refl _) ht) ?_
    refine xr 1 [(0, .v (.string s)),(2, .p 2 0),(3, .v (.bool false)),(4, .v (.string t)),(5, .v (.bool b))] [bR4 2 36 false none 0 0 false none 0 0] ?_
    refine xe ?_
    refine SXq.weak [(0, .v (.string s)),(2, .p 2 0),(3, .v (.bool false)),(4, .v (.string t)),(5, .v (.bool b))] [(2,36,[.v (.bool false), .v (.slice none 0 0), .v (.bool false), .v (.slice none 0 0)])] (Ψ:=fun w=>True) (ZbT.of (by kernel_rfl)) (by kernel_rfl) (fun w Q=>trivial) ?_
    exact ZeQ ⟨t,b,rfl,rfl,(by rw [hbb]; exact HM0),lt⟩
   ·have hbb:=hb10
    refine ZaA ?_
    refine SXq.weak [(0, .v (.string s)),(2, .p 2 0),(3, .v (.bool false)),(4, .v (.string s)),(5, .v (.bool b))] [(2,36,[.v (.bool false), .v (.slice none 0 0), .v (.bool false), .v (.slice none 0 0)])] (Ψ:=fun w=>True) (ZbT.of (by kernel_rfl)) (by kernel_rfl) (fun w Q=>trivial) ?_
    exact ZeQ ⟨s,b,rfl,rfl,(by rw [hbb]; exact HB.2 hbb),hs⟩
  ·rintro ss ff ⟨t,ng,rfl,rfl,HM,lt⟩
   refine Zac (Zab (xr 3 [(0, .v (.string s)),(2, .p 2 0),(3, .v (.bool false)),(4, .v (.string t)),(5, .v (.bool ng)),(6, .v (.int .i64 ((t).size:Int)))] [bR4 2 36 false none 0 0 false none 0 0] ?_))
   refine xe (Zaa ?_)
   refine Znx (fun ss ff=>∃ (p:Nat),ss=ofL [(0, .v (.string s)),(2, .p 2 0),(3, .v (.bool false)),(4, .v (.string t)),(5, .v (.bool ng)),(6, .v (.int .i64 ((p:Nat):Int)))] [(2,36,[.v (.bool false), .v (.slice none 0 0), .v (.bool false), .v (.slice none 0 0)])]∧ff=(fun w=>True)∧(p=((bytes t).takeWhile ZaD).length)∧(p≤t.size)) ?_ ?_
   ·refine Zac (Zab (xr 1 [(0, .v (.string s)),(2, .p 2 0),(3, .v (.bool false)),(4, .v (.string t)),(5, .v (.bool ng)),(6, .v (.int .i64 ((t).size:Int))),(7, .v (.int .i64 0))] [bR4 2 36 false none 0 0 false none 0 0] ?_))
    refine xe (Zaa (ZaK ?_))
    refine SXc.weak [(0, .v (.string s)),(2, .p 2 0),(3, .v (.bool false)),(4, .v (.string t)),(5, .v (.bool ng)),(6, .v (.int .i64 ((t).size:Int))),(7, .v (.int .i64 ((0:Nat):Int)))] [(2,36,[.v (.bool false), .v (.slice none 0 0), .v (.bool false), .v (.slice none 0 0)])] (Ψ:=fun w=>True) (ZbT.of (by kernel_rfl)) (by kernel_rfl) (fun w Q=>trivial) ?_
    refine ZgE (fun nn ss ff=>∃ (i:Nat),ss=ofL [(0, .v (.string s)),(2, .p 2 0),(3, .v (.bool false)),(4, .v (.string t)),(5, .v (.bool ng)),(6, .v (.int .i64 ((t).size:Int))),(7, .v (.int .i64 ((i:Nat):Int)))] [(2,36,[.v (.bool false), .v (.slice none 0 0), .v (.bool false), .v (.slice none 0 0)])]∧ff=(fun w=>True)∧(i≤t.size)∧(((bytes t).take i).all ZaD=true)∧nn=t.size - i) (t.size - 0) ⟨0,rfl,rfl,(Nat.zero_le _),rfl,rfl⟩ ?_
    rintro nn ss ff ⟨i,rfl,rfl,hi,hI,rfl⟩
    refine Zac (Zac (Zab (xr 4 [(0, .v (.string s)),(2, .p 2 0),(3, .v (.bool false)),(4, .v (.string t)),(5, .v (.bool ng)),(6, .v (.int .i64 ((t).size:Int))),(7, .v (.int .i64 ((i:Nat):Int))),(30, .v (.bool (decide (((i:Nat):Int) < ((t).size:Int)))))] [bR4 2 36 false none 0 0 false none 0 0] ?_)))
    refine xe (Zaa ?_)
    refine Zbb ((decide (((i:Nat):Int) < ((t).size:Int)))) (by kernel_rfl) (fun hb11=>?_) (fun hb11=>?_)
    ·have hlt:i < t.size:=by have:=of_decide_eq_true hb11; omega
     obtain ⟨c,hc⟩:∃ c,t[i]? = some c:=⟨t[i],by simp [hlt]⟩
     refine ZaA (Zaa (Zac (ZaK (Zac ?_))))
     by_cases h47:c=47
     ·refine Zab (xr 2 [(0, .v (.string s)),(2, .p 2 0),(3, .v (.bool false)),(4, .v (.string t)),(5, .v (.bool ng)),(6, .v (.int .i64 ((t).size:Int))),(7, .v (.int .i64 ((i:Nat):Int))),(33, .v (.string t)),(34, .v (.int .i64 ((i:Nat):Int)))] [bR4 2 36 false none 0 0 false none 0 0] ?_)
      refine Zdq 35 (.int .u8 (c.toNat:Int)) (by kernel_rfl) (by kernel_rfl) (by kernel_rfl) (by kernel_rfl) (by kernel_rfl) (by kernel_rfl) (fun w R Q=>Zfg (t:=9) (x:=.tmp 33) (k:=i) (i:=.tmp 34) (by kernel_rfl) (by kernel_rfl) (by kernel_rfl) (by kernel_rfl) hc) ?_
      refine xr 1 [(0, .v (.string s)),(2, .p 2 0),(3, .v (.bool false)),(4, .v (.string t)),(5, .v (.bool ng)),(6, .v (.int .i64 ((t).size:Int))),(7, .v (.int .i64 ((i:Nat):Int))),(36, .v (.bool (((c.toNat:Int):Int) == 47)))] [bR4 2 36 false none 0 0 false none 0 0] ?_
      rw [(show ((c.toNat:Int) == 47)=true from Zsp h47)]
      refine xr 0 [(0, .v (.string s)),(2, .p 2 0),(3, .v (.bool false)),(4, .v (.string t)),(5, .v (.bool ng)),(6, .v (.int .i64 ((t).size:Int))),(7, .v (.int .i64 ((i:Nat):Int))),(36, .v (.bool true))] [bR4 2 36 false none 0 0 false none 0 0] ?_
      refine xe (Zaa (xa (Zac (Zab (xr 2 [(0, .v (.string s)),(2, .p 2 0),(3, .v (.bool false)),(4, .v (.string t)),(5, .v (.bool ng)),(6, .v (.int .i64 ((i:Nat):Int))),(7, .v (.int .i64 ((i:Nat):Int)))] [bR4 2 36 false none 0 0 false none 0 0] ?_)))))
      refine xe (Zaa (Zfm ?_))
      refine ZsL (by kernel_rfl) ?_
      refine Zbq (Zbq (ZgB ?_))
      refine SXq.weak [(0, .v (.string s)),(2, .p 2 0),(3, .v (.bool false)),(4, .v (.string t)),(5, .v (.bool ng)),(6, .v (.int .i64 ((i:Nat):Int)))] [(2,36,[.v (.bool false), .v (.slice none 0 0), .v (.bool false), .v (.slice none 0 0)])] (Ψ:=fun w=>True) (ZbT.of (by kernel_rfl)) (by kernel_rfl) (fun w Q=>trivial) ?_
      exact ZeQ ⟨i,rfl,rfl,ZtJ hI hc h47 hi,hi⟩
     ·refine Zab (xr 2 [(0, .v (.string s)),(2, .p 2 0),(3, .v (.bool false)),(4, .v (.string t)),(5, .v (.bool ng)),(6, .v (.int .i64 ((t).size:Int))),(7, .v (.int .i64 ((i:Nat):Int))),(33, .v (.string t)),(34, .v (.int .i64 ((i:Nat):Int)))] [bR4 2 36 false none 0 0 false none 0 0] ?_)
      refine Zdq 35 (.int .u8 (c.toNat:Int)) (by kernel_rfl) (by kernel_rfl) (by kernel_rfl) (by kernel_rfl) (by kernel_rfl) (by kernel_rfl) (fun w R Q=>Zfg (t:=9) (x:=.tmp 33) (k:=i) (i:=.tmp 34) (by kernel_rfl) (by kernel_rfl) (by kernel_rfl) (by kernel_rfl) hc) ?_
      refine xr 1 [(0, .v (.string s)),(2, .p 2 0),(3, .v (.bool false)),(4, .v (.string t)),(5, .v (.bool ng)),(6, .v (.int .i64 ((t).size:Int))),(7, .v (.int .i64 ((i:Nat):Int))),(36, .v (.bool (((c.toNat:Int):Int) == 47)))] [bR4 2 36 false none 0 0 false none 0 0] ?_
      rw [(show ((c.toNat:Int) == 47)=false from Zsq (b:=47) h47)]
      refine xr 0 [(0, .v (.string s)),(2, .p 2 0),(3, .v (.bool false)),(4, .v (.string t)),(5, .v (.bool ng)),(6, .v (.int .i64 ((t).size:Int))),(7, .v (.int .i64 ((i:Nat):Int))),(36, .v (.bool false))] [bR4 2 36 false none 0 0 false none 0 0] ?_
      refine xe (Zaa (xb (ZaA (ZcB (Zaa (Zab (xr 2 [(0, .v (.string s)),(2, .p 2 0),(3, .v (.bool false)),(4, .v (.string t)),(5, .v (.bool ng)),(6, .v (.int .i64 ((t).size:Int))),(7, .v (.int .i64 ((i:Nat):Int))),(32, .v (.int .i64 (IntKind.i64.wrap (((i:Nat):Int) + 1))))] [bR4 2 36 false none 0 0 false none 0 0] ?_)))))))
      rw [Zie (a:=i) (by omega)]
      refine xr 1 [(0, .v (.string s)),(2, .p 2 0),(3, .v (.bool false)),(4, .v (.string t)),(5, .v (.bool ng)),(6, .v (.int .i64 ((t).size:Int))),(7, .v (.int .i64 ((i + 1:Nat):Int)))] [bR4 2 36 false none 0 0 false none 0 0] ?_
      refine xe ?_
      refine SXq.weak [(0, .v (.string s)),(2, .p 2 0),(3, .v (.bool false)),(4, .v (.string t)),(5, .v (.bool ng)),(6, .v (.int .i64 ((t).size:Int))),(7, .v (.int .i64 (((i + 1):Nat):Int)))] [(2,36,[.v (.bool false), .v (.slice none 0 0), .v (.bool false), .v (.slice none 0 0)])] (Ψ:=fun w=>True) (ZbT.of (by kernel_rfl)) (by kernel_rfl) (fun w Q=>trivial) ?_
      exact ZfP (t.size - (i + 1)) (by omega) ⟨(i + 1),rfl,rfl,hlt,Zs6 hI hc h47,rfl⟩
    ·have hie:i=t.size:=by have:=of_decide_eq_false hb11; omega
     refine Zfm (Zbq (Zbq (ZgB ?_)))
     refine SXq.weak [(0, .v (.string s)),(2, .p 2 0),(3, .v (.bool false)),(4, .v (.string t)),(5, .v (.bool ng)),(6, .v (.int .i64 ((t.size:Nat):Int)))] [(2,36,[.v (.bool false), .v (.slice none 0 0), .v (.bool false), .v (.slice none 0 0)])] (Ψ:=fun w=>True) (ZbT.of (by kernel_rfl)) (by kernel_rfl) (fun w Q=>trivial) ?_
     exact ZeQ ⟨t.size,rfl,rfl,ZtK (hie ▸ hI),(Nat.le_refl _)⟩
   ·rintro ss ff ⟨p,rfl,rfl,hp,hpt⟩
    refine Zac ?_
    obtain ⟨x,hx⟩:∃ x,t.extract 0 p=x:=⟨_,rfl⟩
    have HX:bytes x=(bytes t).takeWhile ZaD:=by rw [← hx]; exact (ZqP hp).1
    have lx:x.size≤65536:=Nat.le_trans (by rw [← hx]; exact Zkq _ _ _) lt
    by_cases hA:((bytes x).all Zaz && !(bytes x).isEmpty)=true
    ·obtain ⟨dx,nx⟩:=ZlO hA
     have MX:ml ((Zag (bytes x):Nat):Int).natAbs≤65536:=by rw [Int.natAbs_natCast]; exact ZlN dx lx
     refine Zab (xr 2 [(0, .v (.string s)),(2, .p 2 0),(3, .v (.bool false)),(4, .v (.string t)),(5, .v (.bool ng)),(6, .v (.int .i64 ((p:Nat):Int))),(39, .v (.string t)),(40, .v (.int .i64 ((p:Nat):Int)))] [bR4 2 36 false none 0 0 false none 0 0] ?_)
     refine Zdq 41 (.string x) (by kernel_rfl) (by kernel_rfl) (by kernel_rfl) (by kernel_rfl) (by kernel_rfl) (by kernel_rfl) (fun w R Q=>ZdG 0 p (t:=9) (x:=(Operand.tmp 39)) (lo:=none) (hi:=(some (Operand.tmp 40))) (by kernel_rfl) (by kernel_rfl) (by kernel_rfl) (Or.inl ⟨rfl,rfl⟩) (Or.inr (by kernel_rfl)) (by omega) hpt hx) ?_
     refine xr 0 [(0, .v (.string s)),(2, .p 2 0),(3, .v (.bool false)),(4, .v (.string t)),(5, .v (.bool ng)),(6, .v (.int .i64 ((p:Nat):Int))),(41, .v (.string x))] [bR4 2 36 false none 0 0 false none 0 0] ?_
     refine xc 193 [.string x] 42 (fun x:ShI=>.tuple #[ZaB x, .bool true]) _ (fun w R Q=>(Zdy x _ (by omega)).mono (fun _ _ h=>Zo0 h dx nx)) (fun xx=>?_)
     obtain ⟨s12,A12,l12,c12⟩:=xx
     refine xr 6 [(0, .v (.string s)),(2, .p 2 0),(3, .v (.bool false)),(4, .v (.string t)),(5, .v (.bool ng)),(6, .v (.int .i64 ((p:Nat):Int))),(8, .p 8 0),(9, .v (.bool true))] [bI2 8 34 s12 A12 l12 c12,bR4 2 36 false none 0 0 false none 0 0] ?_
     refine xe (Zaa (Zac (Zac (Zab (xr 2 [(0, .v (.string s)),(2, .p 2 0),(3, .v (.bool false)),(4, .v (.string t)),(5, .v (.bool ng)),(6, .v (.int .i64 ((p:Nat):Int))),(8, .p 8 0),(46, .v (.bool false))] [bI2 8 34 s12 A12 l12 c12,bR4 2 36 false none 0 0 false none 0 0] ?_)))))
     refine xe (Zaa (xb (ZaA (Zaa (Zac (Zab (xr 3 [(0, .v (.string s)),(2, .p 2 0),(3, .v (.bool false)),(4, .v (.string t)),(6, .v (.int .i64 ((p:Nat):Int))),(48, .v (.bool ng)),eS1 50 A12 l12 c12] [bR4 2 36 false none 0 0 false none 0 0] ?_)))))))
     refine xc 194 [.bool ng, .slice A12 l12 c12] 51 ZaB _ (fun w R Q=>(Zed _ _ _ _ Q.2.mag).mono (fun _ _ h=>ZaI (by rw [show sg ng ((Zag (bytes x):Int)).natAbs=sg ng (Zag (bytes x)) from by rw [Int.natAbs_natCast]] at h; exact h))) (fun xx=>?_)
     obtain ⟨s13,A13,l13,c13⟩:=xx
     refine xr 3 [(0, .v (.string s)),(2, .p 2 0),(3, .v (.bool false)),(4, .v (.string t)),(6, .v (.int .i64 ((p:Nat):Int))),(10, .p 10 0)] [bR4 10 36 s13 A13 l13 c13 false none 0 0,bR4 2 36 false none 0 0 false none 0 0] ?_
     refine xe (Zaa (Zac (Zac ?_)))
     by_cases hl:p < t.size
     ·obtain ⟨q,hq⟩:∃ q,t.extract (p + 1) t.size=q:=⟨_,rfl⟩
      have HQ:bytes q=(bytes t).drop (p + 1):=by rw [← hq]; exact (ZqP hp).2
      have lq:q.size≤65536:=Nat.le_trans (by rw [← hq]; exact Zkq _ _ _) lt
      refine Zab (xr 4 [(0, .v (.string s)),(2, .p 2 0),(3, .v (.bool false)),(4, .v (.string t)),(6, .v (.int .i64 ((p:Nat):Int))),(10, .p 10 0),(56, .v (.bool (decide (((p:Nat):Int) < ((t).size:Int)))))] [bR4 10 36 s13 A13 l13 c13 false none 0 0,bR4 2 36 false none 0 0 false none 0 0] ?_)
      rw [ZtI hl]
      refine xr 0 [(0, .v (.string s)),(2, .p 2 0),(3, .v (.bool false)),(4, .v (.string t)),(6, .v (.int .i64 ((p:Nat):Int))),(10, .p 10 0),(56, .v (.bool true))] [bR4 10 36 s13 A13 l13 c13 false none 0 0,bR4 2 36 false none 0 0 false none 0 0] ?_
      refine xe (Zaa (xa (Zac ?_)))
      by_cases hQ:((bytes q).all Zaz && !(bytes q).isEmpty)=true
      ·obtain ⟨dq,nq⟩:=ZlO hQ
       have MQ:ml ((Zag (bytes q):Nat):Int).natAbs≤65536:=by rw [Int.natAbs_natCast]; exact ZlN dq lq
       refine Zab (xr 3 [(0, .v (.string s)),(2, .p 2 0),(3, .v (.bool false)),(10, .p 10 0),(58, .v (.string t)),(60, .v (.int .i64 (IntKind.i64.wrap (((p:Nat):Int) + 1))))] [bR4 10 36 s13 A13 l13 c13 false none 0 0,bR4 2 36 false none 0 0 false none 0 0] ?_)
       rw [Zie (a:=p) (by omega)]
       refine Zdq 61 (.string q) (by kernel_rfl) (by kernel_rfl) (by kernel_rfl) (by kernel_rfl) (by kernel_rfl) (by kernel_rfl) (fun w R Q=>ZdG (p + 1) _ (t:=9) (x:=(Operand.tmp 58)) (lo:=(some (Operand.tmp 60))) (hi:=none) (by kernel_rfl) (by kernel_rfl) (by kernel_rfl) (Or.inr (by kernel_rfl)) (Or.inl ⟨rfl,rfl⟩) (by omega) (Nat.le_refl _) hq) ?_
       refine xr 0 [(0, .v (.string s)),(2, .p 2 0),(3, .v (.bool false)),(10, .p 10 0),(61, .v (.string q))] [bR4 10 36 s13 A13 l13 c13 false none 0 0,bR4 2 36 false none 0 0 false none 0 0] ?_
       refine xc 193 [.string q] 62 (fun x:ShI=>.tuple #[ZaB x, .bool true]) _ (fun w R Q=>(Zdy q _ (by omega)).mono (fun _ _ h=>Zo0 h dq nq)) (fun xx=>?_)
       obtain ⟨s14,A14,l14,c14⟩:=xx
       refine xr 6 [(0, .v (.string s)),(2, .p 2 0),(3, .v (.bool false)),(10, .p 10 0),(11, .p 11 0),(12, .v (.bool true))] [bI2 11 34 s14 A14 l14 c14,bR4 10 36 s13 A13 l13 c13 false none 0 0,bR4 2 36 false none 0 0 false none 0 0] ?_
       refine xe (Zaa (Zac (Zac ?_)))
       by_cases hz:Zag (bytes q)=0
       ·refine Zab (xr 4 [(0, .v (.string s)),(2, .p 2 0),(3, .v (.bool false)),(10, .p 10 0),(11, .p 11 0),(67, .v (.bool false)),eI2 68 s14 A14 l14 c14] [bI2 11 34 s14 A14 l14 c14,bR4 10 36 s13 A13 l13 c13 false none 0 0,bR4 2 36 false none 0 0 false none 0 0] ?_)
        refine xc 195 [vI2 s14 A14 l14 c14] 69 (fun _:Unit=>.int .i64 ((Zag (bytes q):Int)).sign) _ (fun w R Q=>(Zh8 _ ((Zag (bytes q):Int)) _ Q.2).mono (fun _ _ h=>Zaf h rfl)) (fun xx=>?_)
        refine xr 1 [(0, .v (.string s)),(2, .p 2 0),(3, .v (.bool false)),(10, .p 10 0),(11, .p 11 0),(67, .v (.bool false)),(70, .v (.bool ((((Zag (bytes q):Int)).sign:Int) == 0)))] [bI2 11 34 s14 A14 l14 c14,bR4 10 36 s13 A13 l13 c13 false none 0 0,bR4 2 36 false none 0 0 false none 0 0] ?_
        rw [ZrY hz]
        refine xr 1 [(0, .v (.string s)),(2, .p 2 0),(3, .v (.bool false)),(10, .p 10 0),(11, .p 11 0),(71, .v (.bool true))] [bI2 11 34 s14 A14 l14 c14,bR4 10 36 s13 A13 l13 c13 false none 0 0,bR4 2 36 false none 0 0 false none 0 0] ?_
        refine xe (Zaa (xa (Zac (Zab (xr 3 [(0, .v (.string s)),(2, .p 2 0),(3, .v (.bool false)),(10, .p 10 0),(11, .p 11 0)] [bI2 11 34 s14 A14 l14 c14,bR4 10 36 s13 A13 l13 c13 false none 0 0,bR4 2 36 false none 0 0 false none 0 0] ?_)))))
        refine xe (Zaa (Zah (Zaj (Zaj ?_))))
        refine Zae (v:=.tuple #[.agg #[.bool false, .slice none 0 0, .bool false, .slice none 0 0], .bool false]) (by kernel_rfl) (fun w' R Q=>?_)
        exact ⟨_,false,0,rfl,R,Zai.nil _,Or.inr ⟨rfl,by rw [← Zhf]; exact Zkr HM (by rw [← HX]; exact hA) (by rw [← hp,Zav]; exact hl) (by rw [← hp,← HQ]; exact Or.inr hz)⟩⟩
       ·refine Zab (xr 4 [(0, .v (.string s)),(2, .p 2 0),(3, .v (.bool false)),(10, .p 10 0),(11, .p 11 0),(67, .v (.bool false)),eI2 68 s14 A14 l14 c14] [bI2 11 34 s14 A14 l14 c14,bR4 10 36 s13 A13 l13 c13 false none 0 0,bR4 2 36 false none 0 0 false none 0 0] ?_)
        refine xc 195 [vI2 s14 A14 l14 c14] 69 (fun _:Unit=>.int .i64 ((Zag (bytes q):Int)).sign) _ (fun w R Q=>(Zh8 _ ((Zag (bytes q):Int)) _ Q.2).mono (fun _ _ h=>Zaf h rfl)) (fun xx=>?_)
        refine xr 1 [(0, .v (.string s)),(2, .p 2 0),(3, .v (.bool false)),(10, .p 10 0),(11, .p 11 0),(67, .v (.bool false)),(70, .v (.bool ((((Zag (bytes q):Int)).sign:Int) == 0)))] [bI2 11 34 s14 A14 l14 c14,bR4 10 36 s13 A13 l13 c13 false none 0 0,bR4 2 36 false none 0 0 false none 0 0] ?_
        rw [ZqQ hz]
        refine xr 1 [(0, .v (.string s)),(2, .p 2 0),(3, .v (.bool false)),(10, .p 10 0),(11, .p 11 0),(71, .v (.bool false))] [bI2 11 34 s14 A14 l14 c14,bR4 10 36 s13 A13 l13 c13 false none 0 0,bR4 2 36 false none 0 0 false none 0 0] ?_
        refine xe (Zaa (xb (ZaA (Zaa (Zab (xr 3 [(0, .v (.string s)),(2, .p 2 0),(3, .v (.bool false)),(10, .p 10 0),eI2 74 s13 A13 l13 c13,eI2 75 s14 A14 l14 c14] [bR4 10 36 s13 A13 l13 c13 false none 0 0,bR4 2 36 false none 0 0 false none 0 0] ?_))))))
        refine xc 146 [vI2 s13 A13 l13 c13,vI2 s14 A14 l14 c14] 76 Zak _ (fun w R Q=>(ZdF _ _ (sg ng (Zag (bytes x))) ((Zag (bytes q):Int)) _ Q.1.1.2 Q.1.2 (ZqR (by rw [ZpO]; rw [Int.natAbs_natCast] at MX; exact MX)) (ZqR MQ) (ZpP hz)).mono (fun _ _=>ZaJ)) (fun xx=>?_)
        obtain ⟨s15,A15,l15,c15,t15,B15,m15,d15⟩:=xx
        refine xr 1 [(0, .v (.string s)),(2, .p 2 0),(3, .v (.bool false)),(10, .p 10 0)] [bR4 10 36 s15 A15 l15 c15 t15 B15 m15 d15,bR4 2 36 false none 0 0 false none 0 0] ?_
        refine xe (Zaa (Zac ?_))
        refine ZaE 7 (by kernel_rfl) (by kernel_rfl) Zal ?_
        refine xf 2 [(0, .v (.string s)),(2, .p 2 0),(3, .v (.bool false)),eR4 77 s15 A15 l15 c15 t15 B15 m15 d15,eR4 78 s15 A15 l15 c15 t15 B15 m15 d15] [bR4 10 36 s15 A15 l15 c15 t15 B15 m15 d15,bR4 2 36 false none 0 0 false none 0 0] ?_
        refine xd 28 [vR4 s15 A15 l15 c15 t15 B15 m15 d15] 79 (fun _:Unit=>.string ⟨(Zad (Rat.divInt (sg ng (Zag (bytes x))) ((Zag (bytes q):Int)))).toArray⟩) _ (fun w R Q=>(Zib _ (Rat.divInt (sg ng (Zag (bytes x))) ((Zag (bytes q):Int))) _ Q.2 (Nat.le_trans (ZoZ (ZpP hz)).1 (by rw [ZpO]; rw [Int.natAbs_natCast] at MX; exact MX)) (Nat.le_trans (ZoZ (ZpP hz)).2 MQ)).mono (fun _ _ h=>Zaf h rfl)) (fun xx=>?_)
        refine xf 4 [(2, .p 2 0),(3, .v (.bool ((⟨(Zad (Rat.divInt (sg ng (Zag (bytes x))) ((Zag (bytes q):Int)))).toArray⟩:ByteArray).toList == (s:ByteArray).toList)))] [bR4 2 36 s15 A15 l15 c15 t15 B15 m15 d15,bR4 10 36 s15 A15 l15 c15 t15 B15 m15 d15,bR4 2 36 false none 0 0 false none 0 0] ?_
        refine xz (xe (Zaa (Zah ?_)))
        refine Zae (v:=.tuple #[.agg #[.bool s15, .slice A15 l15 c15, .bool t15, .slice B15 m15 d15], .bool ((⟨(Zad (Rat.divInt (sg ng (Zag (bytes x))) ((Zag (bytes q):Int)))).toArray⟩:ByteArray).toList == (s:ByteArray).toList)]) (by kernel_rfl) (fun w' R Q=>?_)
        exact ⟨_,_,_,rfl,R,Q.1.2,Zny (by rw [ZpN HM (by rw [← HX]; exact hA) (by rw [← hp,Zav]; exact hl) (by rw [← hp,← HQ]; exact hQ) (by rw [← hp,← HQ]; exact hz),← hp,← HQ,← HX]) ZoY⟩
      ·refine Zab (xr 3 [(0, .v (.string s)),(2, .p 2 0),(3, .v (.bool false)),(10, .p 10 0),(58, .v (.string t)),(60, .v (.int .i64 (IntKind.i64.wrap (((p:Nat):Int) + 1))))] [bR4 10 36 s13 A13 l13 c13 false none 0 0,bR4 2 36 false none 0 0 false none 0 0] ?_)
       rw [Zie (a:=p) (by omega)]
       refine Zdq 61 (.string q) (by kernel_rfl) (by kernel_rfl) (by kernel_rfl) (by kernel_rfl) (by kernel_rfl) (by kernel_rfl) (fun w R Q=>ZdG (p + 1) _ (t:=9) (x:=(Operand.tmp 58)) (lo:=(some (Operand.tmp 60))) (hi:=none) (by kernel_rfl) (by kernel_rfl) (by kernel_rfl) (Or.inr (by kernel_rfl)) (Or.inl ⟨rfl,rfl⟩) (by omega) (Nat.le_refl _) hq) ?_
       refine xr 0 [(0, .v (.string s)),(2, .p 2 0),(3, .v (.bool false)),(10, .p 10 0),(61, .v (.string q))] [bR4 10 36 s13 A13 l13 c13 false none 0 0,bR4 2 36 false none 0 0 false none 0 0] ?_
       refine xc 193 [.string q] 62 (fun x:ShI=>.tuple #[ZaB x, .bool false]) _ (fun w R Q=>(Zdy q _ (by omega)).mono (fun _ _ h=>ZnB h hQ)) (fun xx=>?_)
       obtain ⟨s16,A16,l16,c16⟩:=xx
       refine xr 6 [(0, .v (.string s)),(2, .p 2 0),(3, .v (.bool false)),(10, .p 10 0),(11, .p 11 0),(12, .v (.bool false))] [bI2 11 34 s16 A16 l16 c16,bR4 10 36 s13 A13 l13 c13 false none 0 0,bR4 2 36 false none 0 0 false none 0 0] ?_
       refine xe (Zaa (Zac (Zac (Zab (xr 7 [(0, .v (.string s)),(2, .p 2 0),(3, .v (.bool false)),(10, .p 10 0),(11, .p 11 0),(71, .v (.bool true))] [bI2 11 34 s16 A16 l16 c16,bR4 10 36 s13 A13 l13 c13 false none 0 0,bR4 2 36 false none 0 0 false none 0 0] ?_)))))
       refine xe (Zaa (xa (Zac (Zab (xr 3 [(0, .v (.string s)),(2, .p 2 0),(3, .v (.bool false)),(10, .p 10 0),(11, .p 11 0)] [bI2 11 34 s16 A16 l16 c16,bR4 10 36 s13 A13 l13 c13 false none 0 0,bR4 2 36 false none 0 0 false none 0 0] ?_)))))
       refine xe (Zaa (Zah (Zaj (Zaj ?_))))
       refine Zae (v:=.tuple #[.agg #[.bool false, .slice none 0 0, .bool false, .slice none 0 0], .bool false]) (by kernel_rfl) (fun w' R Q=>?_)
       exact ⟨_,false,0,rfl,R,Zai.nil _,Or.inr ⟨rfl,by rw [← Zhf]; exact Zkr HM (by rw [← HX]; exact hA) (by rw [← hp,Zav]; exact hl) (by rw [← hp,← HQ]; exact Or.inl (Bool.eq_false_iff.2 hQ))⟩⟩
     ·refine Zab (xr 4 [(0, .v (.string s)),(2, .p 2 0),(3, .v (.bool false)),(4, .v (.string t)),(6, .v (.int .i64 ((p:Nat):Int))),(10, .p 10 0),(56, .v (.bool (decide (((p:Nat):Int) < ((t).size:Int)))))] [bR4 10 36 s13 A13 l13 c13 false none 0 0,bR4 2 36 false none 0 0 false none 0 0] ?_)
      rw [Zs4 hl]
      refine xr 0 [(0, .v (.string s)),(2, .p 2 0),(3, .v (.bool false)),(4, .v (.string t)),(6, .v (.int .i64 ((p:Nat):Int))),(10, .p 10 0),(56, .v (.bool false))] [bR4 10 36 s13 A13 l13 c13 false none 0 0,bR4 2 36 false none 0 0 false none 0 0] ?_
      refine xe (Zaa (xb (ZaA (Zaa (Zac ?_)))))
      refine ZaE 7 (by kernel_rfl) (by kernel_rfl) Zal ?_
      refine xf 2 [(0, .v (.string s)),(2, .p 2 0),(3, .v (.bool false)),eR4 77 s13 A13 l13 c13 false none 0 0,eR4 78 s13 A13 l13 c13 false none 0 0] [bR4 10 36 s13 A13 l13 c13 false none 0 0,bR4 2 36 false none 0 0 false none 0 0] ?_
      refine xd 28 [vR4 s13 A13 l13 c13 false none 0 0] 79 (fun _:Unit=>.string ⟨(Zad (((sg ng (Zag (bytes x)):Int):Rat))).toArray⟩) _ (fun w R Q=>(Zib _ (((sg ng (Zag (bytes x)):Int):Rat)) _ (Zai.whole Q.2) (by show ml (sg ng (Zag (bytes x))).natAbs≤_; rw [ZpO]; rw [Int.natAbs_natCast] at MX; exact MX) Zs5).mono (fun _ _ h=>Zaf h rfl)) (fun xx=>?_)
      refine xf 4 [(2, .p 2 0),(3, .v (.bool ((⟨(Zad (((sg ng (Zag (bytes x)):Int):Rat))).toArray⟩:ByteArray).toList == (s:ByteArray).toList)))] [bR4 2 36 s13 A13 l13 c13 false none 0 0,bR4 10 36 s13 A13 l13 c13 false none 0 0,bR4 2 36 false none 0 0 false none 0 0] ?_
      refine xz (xe (Zaa (Zah ?_)))
      refine Zae (v:=.tuple #[.agg #[.bool s13, .slice A13 l13 c13, .bool false, .slice none 0 0], .bool ((⟨(Zad (((sg ng (Zag (bytes x)):Int):Rat))).toArray⟩:ByteArray).toList == (s:ByteArray).toList)]) (by kernel_rfl) (fun w' R Q=>?_)
      exact ⟨_,_,_,rfl,R,(Zai.whole Q.1.2),Zny (by rw [Zor HM (by rw [← HX]; exact hA) (by rw [← hp,Zav]; omega),← HX]) ZoY⟩
    ·refine Zab (xr 2 [(0, .v (.string s)),(2, .p 2 0),(3, .v (.bool false)),(4, .v (.string t)),(5, .v (.bool ng)),(6, .v (.int .i64 ((p:Nat):Int))),(39, .v (.string t)),(40, .v (.int .i64 ((p:Nat):Int)))] [bR4 2 36 false none 0 0 false none 0 0] ?_)
     refine Zdq 41 (.string x) (by kernel_rfl) (by kernel_rfl) (by kernel_rfl) (by kernel_rfl) (by kernel_rfl) (by kernel_rfl) (fun w R Q=>ZdG 0 p (t:=9) (x:=(Operand.tmp 39)) (lo:=none) (hi:=(some (Operand.tmp 40))) (by kernel_rfl) (by kernel_rfl) (by kernel_rfl) (Or.inl ⟨rfl,rfl⟩) (Or.inr (by kernel_rfl)) (by omega) hpt hx) ?_
     refine xr 0 [(0, .v (.string s)),(2, .p 2 0),(3, .v (.bool false)),(4, .v (.string t)),(5, .v (.bool ng)),(6, .v (.int .i64 ((p:Nat):Int))),(41, .v (.string x))] [bR4 2 36 false none 0 0 false none 0 0] ?_
     refine xc 193 [.string x] 42 (fun x:ShI=>.tuple #[ZaB x, .bool false]) _ (fun w R Q=>(Zdy x _ (by omega)).mono (fun _ _ h=>ZnB h hA)) (fun xx=>?_)
     obtain ⟨s17,A17,l17,c17⟩:=xx
     refine xr 6 [(0, .v (.string s)),(2, .p 2 0),(3, .v (.bool false)),(4, .v (.string t)),(5, .v (.bool ng)),(6, .v (.int .i64 ((p:Nat):Int))),(8, .p 8 0),(9, .v (.bool false))] [bI2 8 34 s17 A17 l17 c17,bR4 2 36 false none 0 0 false none 0 0] ?_
     refine xe (Zaa (Zac (Zac (Zab (xr 2 [(0, .v (.string s)),(2, .p 2 0),(3, .v (.bool false)),(4, .v (.string t)),(5, .v (.bool ng)),(6, .v (.int .i64 ((p:Nat):Int))),(8, .p 8 0),(46, .v (.bool true))] [bI2 8 34 s17 A17 l17 c17,bR4 2 36 false none 0 0 false none 0 0] ?_)))))
     refine xe (Zaa (xa (Zac (Zab (xr 3 [(0, .v (.string s)),(2, .p 2 0),(3, .v (.bool false)),(4, .v (.string t)),(5, .v (.bool ng)),(6, .v (.int .i64 ((p:Nat):Int))),(8, .p 8 0)] [bI2 8 34 s17 A17 l17 c17,bR4 2 36 false none 0 0 false none 0 0] ?_)))))
     refine xe (Zaa (Zah (Zaj ?_)))
     refine Zae (v:=.tuple #[.agg #[.bool false, .slice none 0 0, .bool false, .slice none 0 0], .bool false]) (by kernel_rfl) (fun w' R Q=>?_)
     exact ⟨_,false,0,rfl,R,Zai.nil _,Or.inr ⟨rfl,by rw [← Zhf]; exact ZpM HM (by rw [← HX]; exact Bool.eq_false_iff.2 hA)⟩⟩
end Go.Proofs.YtbgkofgoeoiciaaGreatDoor

namespace Go.Proofs.YtbgkofgoeoiciaaGreatDoor
open Go.RowKit
theorem ZcK {α:Type} (o:Option α):o=none∨∃ x,o=some x:=by cases o; exact Or.inl rfl; exact Or.inr ⟨_,rfl⟩
section
variable {w w':World} {e:Ending} {l:List UInt8}
theorem ZgF (h:Zgv w l e w') (hr:ZaH l=none):Zbn (fun x:ShQ=>.tuple #[Zak x, .bool false]) (fun x w=>Zap w (Zak x) 0) w e w':=by
 obtain ⟨v,ok,rfl,Q,⟨rfl,q,h1,h2⟩ | ⟨rfl,h1,h2⟩⟩:=h
 ·rw [hr] at h1; cases h1
 ·obtain ⟨s,A,l,c,t,B,m,d,rfl⟩:=h2.shp
  exact ⟨(s,A,l,c,t,B,m,d),rfl,Q,boxn Q (fun S w'' hS hF=>h2.nrb hS hF)⟩
theorem ZdP {q:Rat} (h:Zgv w l e w') (hr:ZaH l=some q):Zbn (fun x:ShQ=>.tuple #[Zak x, .bool true]) (fun x w=>Zap w (Zak x) q) w e w':=by
 obtain ⟨v,ok,rfl,Q,⟨rfl,q,h1,h2⟩ | ⟨rfl,h1,h2⟩⟩:=h
 ·rw [hr] at h1; injection h1 with h1; subst h1
  obtain ⟨s,A,l,c,t,B,m,d,rfl⟩:=h2.shp
  exact ⟨(s,A,l,c,t,B,m,d),rfl,Q,boxn Q (fun S w'' hS hF=>h2.nrb hS hF)⟩
 ·rw [hr] at h1; cases h1
theorem Zez (h:Zhg w l e w') (hr:ZaH l=none):Zbn (fun x:ShQ=>.tuple #[Zak x, .bool false]) (fun x w=>∃ q,Zai w (Zak x) q) w e w':=by
 obtain ⟨v,ok,q,rfl,Q,h2,⟨rfl,h1⟩ | ⟨rfl,h1⟩⟩:=h
 ·rw [hr] at h1; cases h1
 ·obtain ⟨s,A,l,c,t,B,m,d,rfl⟩:=h2.shp
  exact ⟨(s,A,l,c,t,B,m,d),rfl,Q,boxn Q (fun S w'' hS hF=>⟨q,h2.nrb hS hF⟩)⟩
theorem ZeA {q:Rat} (h:Zhg w l e w') (hr:ZaH l=some q):Zbn (fun x:ShQ=>.tuple #[Zak x, .bool true]) (fun x w=>Zai w (Zak x) q) w e w':=by
 obtain ⟨v,ok,q',rfl,Q,h2,⟨rfl,h1⟩ | ⟨rfl,h1⟩⟩:=h
 ·rw [hr] at h1; injection h1 with h1; subst h1
  obtain ⟨s,A,l,c,t,B,m,d,rfl⟩:=h2.shp
  exact ⟨(s,A,l,c,t,B,m,d),rfl,Q,boxn Q (fun S w'' hS hF=>h2.nrb hS hF)⟩
 ·rw [hr] at h1; cases h1
end
end Go.Proofs.YtbgkofgoeoiciaaGreatDoor

namespace Go.Proofs.YtbgkofgoeoiciaaGreatDoor
open Go.RowKit
def Dq (q:Rat) (k:Nat):Prop:=q.num.natAbs < 10 ^ k∧q.den < 10 ^ k
theorem ZeB {x y j k:Nat} (hx:x < 10 ^ j) (hy:y < 10 ^ k):x * y < 10 ^ (j + k):=by
 have:=Nat.mul_lt_mul'' hx hy
 rwa [← Nat.pow_add] at this
theorem Dq.up {q:Rat} {j k:Nat} (h:Dq q j) (hk:j≤k):Dq q k :=
 ⟨Nat.lt_of_lt_of_le h.1 (Nat.pow_le_pow_right (by omega) hk),Nat.lt_of_lt_of_le h.2 (Nat.pow_le_pow_right (by omega) hk)⟩
theorem Dq.neg {q:Rat} {k:Nat} (h:Dq q k):Dq (-q) k:=Zqz h
theorem Dq.mul {p q:Rat} {j k:Nat} (h:Dq p j) (h':Dq q k):Dq (p * q) (j + k) :=
 Zkn (Int.mul_ne_zero (denI p) (denI q)) (ZfL p q) (by rw [Int.natAbs_mul]; exact ZeB h.1 h'.1) (by rw [Int.natAbs_mul,Int.natAbs_natCast,Int.natAbs_natCast]; exact ZeB h.2 h'.2)
theorem Dq.add {p q:Rat} {j k:Nat} (h:Dq p j) (h':Dq q k):Dq (p + q) (j + k + 1):=by
 have m1:=ZeB h.1 h'.2
 have m2:=ZeB h'.1 h.2
 rw [Nat.add_comm k j] at m2
 refine Zkn (Int.mul_ne_zero (denI p) (denI q)) (ZfK p q) ?_ ?_
 ·have:=Int.natAbs_add_le (p.num * q.den) (q.num * p.den)
  rw [Int.natAbs_mul,Int.natAbs_mul,Int.natAbs_natCast,Int.natAbs_natCast] at this
  rw [Nat.pow_succ]; omega
 ·rw [Int.natAbs_mul,Int.natAbs_natCast,Int.natAbs_natCast]
  have:=ZeB h.2 h'.2
  rw [Nat.pow_succ]; omega
theorem Dq.inv {q:Rat} {k:Nat} (h:Dq q k) (hk:1≤k):Dq (q⁻¹) k:=by
 obtain ⟨h1,h2⟩:=h
 rcases Ztz q.num with ⟨h,_⟩ | ⟨h,_⟩ | ⟨h,_⟩
 ·obtain ⟨e1,e2⟩:=Znk h
  refine ⟨by rw [e1,Int.natAbs_neg,Int.natAbs_natCast]; exact h2,?_⟩
  have:(q⁻¹).den=q.num.natAbs:=by omega
  rw [this]; exact h1
 ·rw [Zly h]; exact ⟨Nat.pow_pos (by omega),Nat.one_lt_pow (by omega) (by omega)⟩
 ·obtain ⟨e1,e2⟩:=Znj h
  refine ⟨by rw [e1,Int.natAbs_natCast]; exact h2,?_⟩
  have:(q⁻¹).den=q.num.natAbs:=by omega
  rw [this]; exact h1
theorem Dq.int {d:Int} {k:Nat} (h:d.natAbs < 10 ^ k) (hk:1≤k):Dq (d:Rat) k:=⟨h,Nat.one_lt_pow (by omega) (by omega)⟩
theorem Dq.zero {k:Nat} (hk:1≤k):Dq 0 k:=⟨Nat.pow_pos (by omega),Nat.one_lt_pow (by omega) (by omega)⟩
theorem ZqS {x k:Nat} (h:x < 10 ^ k) (hk:k≤722):wl x≤38:=by
 obtain ⟨n,hn⟩:∃ n,38=n:=⟨_,rfl⟩
 rw [hn]
 have h1:x < 10 ^ (19 * n):=Nat.lt_of_lt_of_le h (Nat.pow_le_pow_right (by omega) (by omega))
 have h2:(10 ^ 19) ^ n≤W64 ^ n:=Nat.pow_le_pow_left (by rw [Zao]; decide) n
 rw [← Nat.pow_mul] at h2
 exact ZbO.2 (Nat.lt_of_lt_of_le h1 h2)
theorem Dq.fit {q:Rat} {k:Nat} (h:Dq q k) (hk:k≤722):Zdx q 38:=⟨ZqS h.1 hk,ZqS h.2 hk⟩
theorem Dq.rfit {q:Rat} {k:Nat} (h:Dq q k) (hk:k≤100000):Zbu q:=ZpH h hk
structure Sz (x:Sd) (k:Nat):Prop where
 a:Dq x.a k
 b:Dq x.b k
 lo:1≤x.d
 hi:x.d≤1000000
theorem Sz.d {x:Sd} {k:Nat} (h:Sz x k):Dq (x.d:Rat) 7:=by
 have h1:=h.lo; have h2:=h.hi
 exact Dq.int (k:=7) (by rw [show (10:Nat) ^ 7=10000000 by decide]; omega) (by decide)
theorem Zks {a b:Rat} {d:Int} {k:Nat} (ha:Dq a k) (hb:Dq b k) (h1:1≤d) (h2:d≤1000000):Sz (nv a b d) k:=by
 refine ⟨by rw [nv_a]; exact ha,by rw [nv_b]; exact hb,?_,?_⟩<;>unfold nv<;>split<;>first | exact h1 | exact h2 | exact (by decide:(1:Int)≤1) | exact (by decide:(1:Int)≤1000000)
theorem Sz.max {x y:Sd} {j k:Nat} (h:Sz x j) (h':Sz y k):1≤max x.d y.d∧max x.d y.d≤1000000:=by
 have h1:=h.lo; have h2:=h.hi; have h3:=h'.lo; have h4:=h'.hi
 omega
theorem Dq.imax {x y:Sd} {j k:Nat} (h:Sz x j) (h':Sz y k):Dq ((max x.d y.d:Int):Rat) 7:=by
 obtain ⟨h1,h2⟩:=h.max h'
 exact Dq.int (k:=7) (by rw [show (10:Nat) ^ 7=10000000 by decide]; omega) (by decide)
theorem Sz.neg {x:Sd} {k:Nat} (h:Sz x k):Sz x.neg k:=⟨h.a.neg,h.b.neg,h.lo,h.hi⟩
theorem Sz.conj {x:Sd} {k:Nat} (h:Sz x k):Sz x.conj k:=⟨h.a,h.b.neg,h.lo,h.hi⟩
theorem Sz.plus {x y:Sd} {j k:Nat} (h:Sz x j) (h':Sz y k):Sz (x.plus y) (j + k + 1) :=
 Zks (h.a.add h'.a) (h.b.add h'.b) (h.max h').1 (h.max h').2
theorem Sz.times {x y:Sd} {j k:Nat} (h:Sz x j) (h':Sz y k):Sz (x.times y) (2 * (j + k) + 8) :=
 Zks (((h.a.mul h'.a).add ((h.b.mul h'.b).mul (Dq.imax h h'))).up (by omega)) (((h.a.mul h'.b).add (h.b.mul h'.a)).up (by omega)) (h.max h').1 (h.max h').2
theorem Sz.norm {x:Sd} {k:Nat} (h:Sz x k):Dq x.norm (4 * k + 8):=(h.times h.conj).a.up (by omega)
theorem Sz.over {x y:Sd} {j k:Nat} (h:Sz x j) (h':Sz y k):Sz (x.over y) (2 * (j + k) + 8 + (4 * k + 8)) :=
 Zks ((h.times h'.conj).a.mul (h'.norm.inv (by omega))) ((h.times h'.conj).b.mul (h'.norm.inv (by omega))) (h.times h'.conj).lo (h.times h'.conj).hi
theorem Sz.up {x:Sd} {j k:Nat} (h:Sz x j) (hk:j≤k):Sz x k:=⟨h.a.up hk,h.b.up hk,h.lo,h.hi⟩
theorem Sd.Ok.dle {x:Sd} (h:x.Ok):1≤x.d∧x.d≤1000000:=by
 rcases h with ⟨h,_⟩ | ⟨h1,h2,_⟩<;>omega
-- structs
abbrev vV9 (x:Bool) (A:Option Addr) (l c:Nat) (y:Bool) (B:Option Addr) (m d:Nat) (x':Bool) (A':Option Addr) (l' c':Nat) (y':Bool) (B':Option Addr) (m' d':Nat) (k:Int):Value:=.agg #[.bool x, .slice A l c, .bool y, .slice B m d, .bool x', .slice A' l' c', .bool y', .slice B' m' d', .int .i64 k]
abbrev bV9 (n:Nat) (t:TypeId) (x:Bool) (A:Option Addr) (l c:Nat) (y:Bool) (B:Option Addr) (m d:Nat) (x':Bool) (A':Option Addr) (l' c':Nat) (y':Bool) (B':Option Addr) (m' d':Nat) (k:Int):Nat × TypeId × List AV:=(n,t,[.v (.bool x), .v (.slice A l c), .v (.bool y), .v (.slice B m d), .v (.bool x'), .v (.slice A' l' c'), .v (.bool y'), .v (.slice B' m' d'), .v (.int .i64 k)])
theorem ZeC (b:Bool):b=true∨b=false:=by cases b<;>simp
theorem Zo1 (a b:Int):(if b > a then b else a)=max a b:=by omega
abbrev ShS:=ShQ × ShQ
def shSd (d:Int) (x:ShS):Value:=.agg #[.bool x.1.1, .slice x.1.2.1 x.1.2.2.1 x.1.2.2.2.1, .bool x.1.2.2.2.2.1, .slice x.1.2.2.2.2.2.1 x.1.2.2.2.2.2.2.1 x.1.2.2.2.2.2.2.2,
 .bool x.2.1, .slice x.2.2.1 x.2.2.2.1 x.2.2.2.2.1, .bool x.2.2.2.2.2.1, .slice x.2.2.2.2.2.2.1 x.2.2.2.2.2.2.2.1 x.2.2.2.2.2.2.2.2, .int .i64 d]
def SdIs (w:World) (v:Value) (x:Sd):Prop:=∃ y:ShS,v=shSd x.d y∧Zap w (Zak y.1) x.a∧Zap w (Zak y.2) x.b
def ZaT (w:World) (v:Value) (x:Sd):Prop:=∃ y:ShS,v=shSd x.d y∧Zai w (Zak y.1) x.a∧Zai w (Zak y.2) x.b
def Zfh (w:World) (x:Sd) (e:Ending) (w':World):Prop:=∃ v,e=.returned v∧SdIs w' v x∧Ext w w'
def ZfQ (w:World) (x:Sd) (e:Ending) (w':World):Prop:=∃ v,e=.returned v∧ZaT w' v x∧Ext w w'
section
variable {s t s' t':Bool} {A B A' B':Option Addr} {l c m d l' c' m' d':Nat} {w w':World} {e:Ending} {v:Value} {x:Sd} {a b:Rat} {k:Int}
theorem SdIs.of (h1:Zap w (.agg #[.bool s, .slice A l c, .bool t, .slice B m d]) a) (h2:Zap w (.agg #[.bool s', .slice A' l' c', .bool t', .slice B' m' d']) b) :
 SdIs w (.agg #[.bool s, .slice A l c, .bool t, .slice B m d, .bool s', .slice A' l' c', .bool t', .slice B' m' d', .int .i64 k]) ⟨a,b,k⟩:=⟨((s,A,l,c,t,B,m,d),(s',A',l',c',t',B',m',d')),rfl,h1,h2⟩
theorem ZaT.of (h1:Zai w (.agg #[.bool s, .slice A l c, .bool t, .slice B m d]) a) (h2:Zai w (.agg #[.bool s', .slice A' l' c', .bool t', .slice B' m' d']) b) :
 ZaT w (.agg #[.bool s, .slice A l c, .bool t, .slice B m d, .bool s', .slice A' l' c', .bool t', .slice B' m' d', .int .i64 k]) ⟨a,b,k⟩:=⟨((s,A,l,c,t,B,m,d),(s',A',l',c',t',B',m',d')),rfl,h1,h2⟩
theorem ZbA (h:Zfh w x e w'):Zbn (shSd x.d) (fun y w=>Zap w (Zak y.1) x.a∧Zap w (Zak y.2) x.b) w e w':=by
 obtain ⟨v,rfl,⟨y,rfl,h1,h2⟩,Q⟩:=h
 exact ⟨y,rfl,Q,boxn Q (fun S w'' hS hF=>⟨h1.nrb hS hF,h2.nrb hS hF⟩)⟩
theorem Zcn (h:ZfQ w x e w'):Zbn (shSd x.d) (fun y w=>Zai w (Zak y.1) x.a∧Zai w (Zak y.2) x.b) w e w':=by
 obtain ⟨v,rfl,⟨y,rfl,h1,h2⟩,Q⟩:=h
 exact ⟨y,rfl,Q,boxn Q (fun S w'' hS hF=>⟨h1.nrb hS hF,h2.nrb hS hF⟩)⟩
end
-- reading
noncomputable def rdS (a b:List UInt8) (d:Int):Option Sd :=
 match ZaH a,ZaH b with
 | some p,some q=>@ite _ (Sd.Ok ⟨p,q,d⟩) (Classical.propDecidable _) (some ⟨p,q,d⟩) none
 | _,_=>none
theorem ZeR {a b:List UInt8} {d:Int} {p q:Rat} (h1:ZaH a=some p) (h2:ZaH b=some q) (h:Sd.Ok ⟨p,q,d⟩):rdS a b d=some ⟨p,q,d⟩:=by
 unfold rdS; rw [h1,h2]; exact if_pos h
theorem ZqT {a b:List UInt8} {d:Int} {p q:Rat} (h1:ZaH a=some p) (h2:ZaH b=some q) (h:¬ Sd.Ok ⟨p,q,d⟩):rdS a b d=none:=by
 unfold rdS; rw [h1,h2]; exact if_neg h
theorem Zo2 {a b:List UInt8} {d:Int} (h1:ZaH a=none):rdS a b d=none:=by
 unfold rdS; rw [h1]
theorem Zo3 {a b:List UInt8} {d:Int} (h1:ZaH b=none):rdS a b d=none:=by
 unfold rdS; rw [h1]; split<;>simp_all
theorem ZnC {a b:List UInt8} {d:Int} {x:Sd} (h:rdS a b d=some x):ZaH a=some x.a∧ZaH b=some x.b∧x.d=d∧x.Ok:=by
 unfold rdS at h
 split at h
 ·rename_i p q h1 h2
  split at h
  ·rename_i hk
   injection h with h; subst h
   exact ⟨h1,h2,rfl,hk⟩
  ·cases h
 ·cases h
theorem ZtL {a b:List UInt8} {d:Int} {x:Sd} {k:Nat} (h:rdS a b d=some x) (ha:a.length≤k) (hb:b.length≤k) (hk:1≤k):Sz x k:=by
 obtain ⟨h1,h2,_,h4⟩:=ZnC h
 exact ⟨ZlB h1 ha hk,ZlB h2 hb hk,h4.dle.1,h4.dle.2⟩
def ZmB (w:World) (o:Option Sd) (e:Ending) (w':World):Prop:=∃ v ok x,e=.returned (.tuple #[v, .bool ok])∧SdIs w' v x∧Ext w w'∧((ok=true∧o=some x)∨(ok=false∧o=none))
def Zkt (w:World) (o:Option Sd) (e:Ending) (w':World):Prop:=∃ v ok x,e=.returned (.tuple #[v, .bool ok])∧ZaT w' v x∧Ext w w'∧((ok=true∧o=some x)∨(ok=false∧o=none))
section
variable {w w':World} {e:Ending} {o:Option Sd}
theorem ZeD {x:Sd} (h:ZmB w o e w') (ho:o=some x):Zbn (fun y:ShS=>.tuple #[shSd x.d y, .bool true]) (fun y w=>Zap w (Zak y.1) x.a∧Zap w (Zak y.2) x.b) w e w':=by
 obtain ⟨v,ok,x',rfl,⟨y,rfl,h1,h2⟩,Q,⟨rfl,h⟩ | ⟨rfl,h⟩⟩:=h
 ·rw [ho] at h; injection h with h; subst h
  exact ⟨y,rfl,Q,boxn Q (fun S w'' hS hF=>⟨h1.nrb hS hF,h2.nrb hS hF⟩)⟩
 ·rw [ho] at h; cases h
theorem Za3 {x:Sd} (h:Zkt w o e w') (ho:o=some x):Zbn (fun y:ShS=>.tuple #[shSd x.d y, .bool true]) (fun y w=>Zai w (Zak y.1) x.a∧Zai w (Zak y.2) x.b) w e w':=by
 obtain ⟨v,ok,x',rfl,⟨y,rfl,h1,h2⟩,Q,⟨rfl,h⟩ | ⟨rfl,h⟩⟩:=h
 ·rw [ho] at h; injection h with h; subst h
  exact ⟨y,rfl,Q,boxn Q (fun S w'' hS hF=>⟨h1.nrb hS hF,h2.nrb hS hF⟩)⟩
 ·rw [ho] at h; cases h
theorem ZfR (h:ZmB w o e w') (ho:o=none):Zbn (fun y:Int × ShS=>.tuple #[shSd y.1 y.2, .bool false]) (fun _ _=>True) w e w':=by
 obtain ⟨v,ok,x',rfl,⟨y,rfl,h1,h2⟩,Q,⟨rfl,h⟩ | ⟨rfl,h⟩⟩:=h
 ·rw [ho] at h; cases h
 ·exact ⟨(x'.d,y),rfl,Q,BoxN.pure trivial⟩
theorem ZcL (h:Zkt w o e w') (ho:o=none):Zbn (fun y:Int × ShS=>.tuple #[shSd y.1 y.2, .bool false]) (fun _ _=>True) w e w':=by
 obtain ⟨v,ok,x',rfl,⟨y,rfl,h1,h2⟩,Q,⟨rfl,h⟩ | ⟨rfl,h⟩⟩:=h
 ·rw [ho] at h; cases h
 ·exact ⟨(x'.d,y),rfl,Q,BoxN.pure trivial⟩
end
-- a rational number's parts as one variable
abbrev nQ:ShQ:=(false,none,0,0,false,none,0,0)
abbrev vQ (x:ShQ):Value:=.agg #[.bool x.1, .slice x.2.1 x.2.2.1 x.2.2.2.1, .bool x.2.2.2.2.1, .slice x.2.2.2.2.2.1 x.2.2.2.2.2.2.1 x.2.2.2.2.2.2.2]
abbrev eQ (n:Nat) (x:ShQ):Nat × AV:=(n, .v (vQ x))
abbrev bQ (n:Nat) (t:TypeId) (x:ShQ):Nat × TypeId × List AV:=(n,t,[.v (.bool x.1), .v (.slice x.2.1 x.2.2.1 x.2.2.2.1), .v (.bool x.2.2.2.2.1), .v (.slice x.2.2.2.2.2.1 x.2.2.2.2.2.2.1 x.2.2.2.2.2.2.2)])
abbrev vW (x y:ShQ) (k:Int):Value:=vV9 x.1 x.2.1 x.2.2.1 x.2.2.2.1 x.2.2.2.2.1 x.2.2.2.2.2.1 x.2.2.2.2.2.2.1 x.2.2.2.2.2.2.2 y.1 y.2.1 y.2.2.1 y.2.2.2.1 y.2.2.2.2.1 y.2.2.2.2.2.1 y.2.2.2.2.2.2.1 y.2.2.2.2.2.2.2 k
abbrev eW (n:Nat) (x y:ShQ) (k:Int):Nat × AV:=(n, .v (vW x y k))
abbrev bW (n:Nat) (t:TypeId) (x y:ShQ) (k:Int):Nat × TypeId × List AV:=bV9 n t x.1 x.2.1 x.2.2.1 x.2.2.2.1 x.2.2.2.2.1 x.2.2.2.2.2.1 x.2.2.2.2.2.2.1 x.2.2.2.2.2.2.2 y.1 y.2.1 y.2.2.1 y.2.2.2.1 y.2.2.2.2.1 y.2.2.2.2.2.1 y.2.2.2.2.2.2.1 y.2.2.2.2.2.2.2 k
theorem Zap.shq {w:World} {v:Value} {q:Rat} (h:Zap w v q):∃ x:ShQ,v=Zak x:=by
 obtain ⟨s,A,l,c,t,B,m,d,rfl⟩:=h.shp
 exact ⟨(s,A,l,c,t,B,m,d),rfl⟩
theorem Zai.shq {w:World} {v:Value} {q:Rat} (h:Zai w v q):∃ x:ShQ,v=Zak x:=by
 obtain ⟨s,A,l,c,t,B,m,d,rfl⟩:=h.shp
 exact ⟨(s,A,l,c,t,B,m,d),rfl⟩
theorem SdIs.shq {w:World} {v:Value} {x:Sd} (h:SdIs w v x):∃ X Y:ShQ,v=vW X Y x.d∧Zap w (Zak X) x.a∧Zap w (Zak Y) x.b:=by
 obtain ⟨⟨X,Y⟩,h1,h2,h3⟩:=h
 exact ⟨X,Y,h1,h2,h3⟩
theorem ZaT.shq {w:World} {v:Value} {x:Sd} (h:ZaT w v x):∃ X Y:ShQ,v=vW X Y x.d∧Zai w (Zak X) x.a∧Zai w (Zak Y) x.b:=by
 obtain ⟨⟨X,Y⟩,h1,h2,h3⟩:=h
 exact ⟨X,Y,h1,h2,h3⟩
end Go.Proofs.YtbgkofgoeoiciaaGreatDoor

namespace Go.Proofs.YtbgkofgoeoiciaaGreatDoor
open Go.RowKit
theorem nv_t {p q:Rat} {d:Int} (h:decide (q.num=0)=true):nv p q d=⟨p,0,1⟩:=by
 have:=Rat.num_eq_zero.1 (of_decide_eq_true h); subst this; exact Zc5 p d
theorem nv_f {p q:Rat} {d:Int} (h:decide (q.num=0)=false):nv p q d=⟨p,q,d⟩:=Zgg p d (fun e=>of_decide_eq_false h (Rat.num_eq_zero.2 e))
theorem Dq.prt {q:Rat} {k:Nat} (h:Dq q k) (hk:k≤722):Zdf q.num.natAbs∧Zdf q.den:=by
 have:=h.fit hk; unfold Zdx at this; unfold Zdf; omega
theorem Zs7 (z:Int) (w:World) (h0:0≤z) (h1:z≤1000000):Calls Tryz.prog 171 #[.int .i64 z] w (Zbv w z):=by
 obtain ⟨n,rfl⟩:∃ n:Nat,z=(n:Int):=⟨z.toNat,by omega⟩
 exact ZoE n w (by rw [Zao]; omega) (by rw [IntKind.wrap_u64]; omega) (decide_eq_false (by omega))
theorem ZlP (z:Int) (w:World) (h0:0≤z) (h1:z≤1000000) :
 Calls Tryz.prog 97 #[.int .i64 z] w (Zc3 w (z:Rat)):=by
 refine Zan (Φ:=fun w=>True) Tryz.func97 rfl (by kernel_rfl) (fun w' hf=>trivial) ?_
 refine Zac (Zab (xr 1 [(0, .v (.int .i64 z)),(2, .p 2 0)] [bR4 2 116 false none 0 0 false none 0 0] ?_))
 refine xe (Zaa (Zac (Zab (xr 1 [(2, .p 2 0),(3, .v (.int .i64 z))] [bR4 2 116 false none 0 0 false none 0 0] ?_))))
 refine xc 171 [.int .i64 z] 4 ZaB _ (fun w R Q=>(Zs7 z _ h0 h1).mono (fun _ _=>ZaR)) (fun xx=>?_)
 obtain ⟨s10,A10,l10,c10⟩:=xx
 refine xr 2 [(2, .p 2 0)] [bR4 2 116 s10 A10 l10 c10 false none 0 0] ?_
 refine xe (Zaa (Zah ?_))
 refine Zae (v:=.agg #[.bool s10, .slice A10 l10 c10, .bool false, .slice none 0 0]) (by kernel_rfl) (fun w' R Q=>?_)
 exact ⟨_,rfl,Zap.of Q.2 (ZaC.nil _),R⟩
theorem ZnD (vp:Value) (p:Rat) (w:World) (hhp:Zap w vp p)  :
 Calls Tryz.prog 93 #[vp] w (Zfh w ⟨p,0,1⟩):=by
 obtain ⟨s8,A8,l8,c8,t8,B8,m8,d8,rfl⟩:=hhp.shp
 refine Zan (Φ:=fun w=>Zap w (.agg #[.bool s8, .slice A8 l8 c8, .bool t8, .slice B8 m8 d8]) (p)) Tryz.func93 rfl (by kernel_rfl) (fun w' hf=>hhp.ext hf) ?_
 refine Zac (Zab (xr 2 [(1, .p 1 0),(2, .p 2 0)] [bV9 2 120 false none 0 0 false none 0 0 false none 0 0 false none 0 0 0,bR4 1 116 s8 A8 l8 c8 t8 B8 m8 d8] ?_))
 refine xe (Zaa (Zac (Zab (xr 3 [(2, .p 2 0)] [bV9 2 120 s8 A8 l8 c8 t8 B8 m8 d8 false none 0 0 false none 0 0 1] ?_))))
 refine xe (Zaa (Zah ?_))
 refine Zae (v:=.agg #[.bool s8, .slice A8 l8 c8, .bool t8, .slice B8 m8 d8, .bool false, .slice none 0 0, .bool false, .slice none 0 0, .int .i64 1]) (by kernel_rfl) (fun w' R Q=>?_)
 exact ⟨_,rfl,(SdIs.of Q (Zap.nil _)),R⟩
theorem Zhh (vp vq:Value) (p:Rat) (q:Rat) (d:Int) (w:World) (hhp:Zap w vp p) (hhq:Zap w vq q)  :
 Calls Tryz.prog 99 #[vp,vq, .int .i64 d] w (Zfh w (nv p q d)):=by
 obtain ⟨X8,rfl⟩:=hhp.shq
 obtain ⟨X9,rfl⟩:=hhq.shq
 refine Zan (Φ:=fun w=>(Zap w (Zak X8) (p)∧Zap w (Zak X9) (q))) Tryz.func99 rfl (by kernel_rfl) (fun w' hf=>⟨hhp.ext hf,hhq.ext hf⟩) ?_
 refine Zac (Zab (xr 3 [(2, .v (.int .i64 d)),(3, .p 3 0),(4, .p 4 0),(6, .p 6 0)] [bW 6 120 nQ nQ 0,bQ 4 116 X9,bQ 3 116 X8] ?_))
 refine xe (Zaa (Zac (Zac (Zab (xr 1 [(2, .v (.int .i64 d)),(3, .p 3 0),(4, .p 4 0),(6, .p 6 0),eQ 7 X9] [bW 6 120 nQ nQ 0,bQ 4 116 X9,bQ 3 116 X8] ?_)))))
 refine xc 192 [vQ X9] 8 (fun _:Unit=>.bool (decide (q.num=0))) _ (fun w R Q=>(ZcU _ q _ Q.2).mono (fun _ _ h=>Zaf h rfl)) (fun xx=>?_)
 refine xr 0 [(2, .v (.int .i64 d)),(3, .p 3 0),(4, .p 4 0),(6, .p 6 0),(8, .v (.bool (decide (q.num=0))))] [bW 6 120 nQ nQ 0,bQ 4 116 X9,bQ 3 116 X8] ?_
 refine xe (Zaa ?_)
 refine Zbb ((decide (q.num=0))) (by kernel_rfl) (fun hb10=>?_) (fun hb10=>?_)
 ·refine Zac (Zab (xr 1 [(2, .v (.int .i64 d)),(3, .p 3 0),(4, .p 4 0),(6, .p 6 0),eQ 9 X8] [bW 6 120 nQ nQ 0,bQ 4 116 X9,bQ 3 116 X8] ?_))
  refine xc 93 [vQ X8] 10 (shSd 1) _ (fun w R Q=>(ZnD _ p _ Q.1.1).mono (fun _ _=>ZbA)) (fun xx=>?_)
  obtain ⟨X11,X12⟩:=xx
  refine xr 1 [(2, .v (.int .i64 d)),(3, .p 3 0),(4, .p 4 0),(6, .p 6 0)] [bW 6 120 X11 X12 1,bQ 4 116 X9,bQ 3 116 X8] ?_
  refine xe (Zaa (Zah (Zaj ?_)))
  refine Zae (v:=vW X11 X12 1) (by kernel_rfl) (fun w' R Q=>?_)
  exact ⟨_,rfl,by rw [nv_t hb10]; exact (SdIs.of Q.2.1 Q.2.2),R⟩
 ·refine ZaA (Zaa (Zac (Zab (xr 5 [(6, .p 6 0)] [bW 6 120 X8 X9 d] ?_))))
  refine xe (Zaa (Zah ?_))
  refine Zae (v:=vW X8 X9 d) (by kernel_rfl) (fun w' R Q=>?_)
  exact ⟨_,rfl,by rw [nv_f hb10]; exact (SdIs.of Q.1.1 Q.1.2),R⟩
theorem Zif (vx vy:Value) (x:Sd) (y:Sd) (w:World) (hg:Glob w) (hhx:SdIs w vx x) (hhy:SdIs w vy y) {jx:Nat} (zx:Sz x jx) {jy:Nat} (zy:Sz y jy) (hj:jx + jy≤722) :
 Calls Tryz.prog 114 #[vx,vy] w (Zfh w (x.plus y)):=by
 obtain ⟨X0,X1,rfl,hx1,hx2⟩:=hhx.shq
 obtain ⟨X2,X3,rfl,hy1,hy2⟩:=hhy.shq
 refine Zan (Φ:=fun w=>((((Glob w∧Zap w (Zak X0) (x.a))∧Zap w (Zak X1) (x.b))∧Zap w (Zak X2) (y.a))∧Zap w (Zak X3) (y.b))) Tryz.func114 rfl (by kernel_rfl) (fun w' hf=>⟨⟨⟨⟨hg.ext hf,hx1.ext hf⟩,hx2.ext hf⟩,hy1.ext hf⟩,hy2.ext hf⟩) ?_
 refine Zac (Zab (xr 3 [(2, .p 2 0),(3, .p 3 0),(4, .p 4 0)] [bW 4 120 nQ nQ 0,bW 3 120 X2 X3 y.d,bW 2 120 X0 X1 x.d] ?_))
 refine xe (Zaa (Zac ?_))
 refine ZaE 17 (by kernel_rfl) (by kernel_rfl) Zal ?_
 refine xf 4 [(2, .p 2 0),(3, .p 3 0),(4, .p 4 0),eQ 6 X0,eQ 8 X2] [bW 4 120 nQ nQ 0,bW 3 120 X2 X3 y.d,bW 2 120 X0 X1 x.d] ?_
 refine xd 98 [vQ X0,vQ X2] 9 Zak _ (fun w R Q=>(Zg8 _ _ x.a y.a _ Q.1.1.1.1 Q.1.1.1.2 Q.1.2 (zx.a.fit (by omega)) (zy.a.fit (by omega))).mono (fun _ _=>Za7)) (fun X10=>?_)
 refine xf 4 [(2, .p 2 0),(3, .p 3 0),(4, .p 4 0),eQ 9 X10,eQ 11 X1,eQ 13 X3] [bW 4 120 nQ nQ 0,bW 3 120 X2 X3 y.d,bW 2 120 X0 X1 x.d] ?_
 refine xd 98 [vQ X1,vQ X3] 14 Zak _ (fun w R Q=>(Zg8 _ _ x.b y.b _ Q.1.1.1.1.1 Q.1.1.1.2 Q.1.2 (zx.b.fit (by omega)) (zy.b.fit (by omega))).mono (fun _ _=>Za7)) (fun X11=>?_)
 refine xf 5 [(4, .p 4 0),eQ 9 X10,eQ 14 X11,(19, .v (.int .i64 (if y.d > x.d then y.d else x.d)))] [bW 4 120 nQ nQ 0,bW 3 120 X2 X3 y.d,bW 2 120 X0 X1 x.d] ?_
 rw [Zo1]
 refine xd 99 [vQ X10,vQ X11, .int .i64 (max x.d y.d)] 20 (shSd ((nv (x.a + y.a) (x.b + y.b) (max x.d y.d)).d)) _ (fun w R Q=>(Zhh _ _ (x.a + y.a) (x.b + y.b) (max x.d y.d) _ Q.1.2 Q.2).mono (fun _ _=>ZbA)) (fun xx=>?_)
 obtain ⟨⟨s12,A12,l12,c12,t12,B12,m12,d12⟩,⟨s13,A13,l13,c13,t13,B13,m13,d13⟩⟩:=xx
 refine xf 1 [(4, .p 4 0)] [(4,120,[.v (.bool s12), .v (.slice A12 l12 c12), .v (.bool t12), .v (.slice B12 m12 d12), .v (.bool s13), .v (.slice A13 l13 c13), .v (.bool t13), .v (.slice B13 m13 d13), .v (.int .i64 ((nv (x.a + y.a) (x.b + y.b) (max x.d y.d)).d))]),bW 4 120 nQ nQ 0,bW 3 120 X2 X3 y.d,bW 2 120 X0 X1 x.d] ?_
 refine xz (xe (Zaa (Zah ?_)))
 refine Zae (v:=.agg #[.bool s12, .slice A12 l12 c12, .bool t12, .slice B12 m12 d12, .bool s13, .slice A13 l13 c13, .bool t13, .slice B13 m13 d13, .int .i64 ((nv (x.a + y.a) (x.b + y.b) (max x.d y.d)).d)]) (by kernel_rfl) (fun w' R Q=>?_)
 exact ⟨_,rfl,(SdIs.of Q.2.1 Q.2.2),R⟩
theorem Zhi (vx vy:Value) (x:Sd) (y:Sd) (w:World) (hg:Glob w) (hhx:SdIs w vx x) (hhy:SdIs w vy y) {jx:Nat} (zx:Sz x jx) {jy:Nat} (zy:Sz y jy) (hj:jx + jy≤700) :
 Calls Tryz.prog 113 #[vx,vy] w (Zfh w (x.times y)):=by
 obtain ⟨X0,X1,rfl,hx1,hx2⟩:=hhx.shq
 obtain ⟨X2,X3,rfl,hy1,hy2⟩:=hhy.shq
 refine Zan (Φ:=fun w=>((((Glob w∧Zap w (Zak X0) (x.a))∧Zap w (Zak X1) (x.b))∧Zap w (Zak X2) (y.a))∧Zap w (Zak X3) (y.b))) Tryz.func113 rfl (by kernel_rfl) (fun w' hf=>⟨⟨⟨⟨hg.ext hf,hx1.ext hf⟩,hx2.ext hf⟩,hy1.ext hf⟩,hy2.ext hf⟩) ?_
 refine Zac (Zab (xr 3 [(2, .p 2 0),(3, .p 3 0),(4, .p 4 0)] [bW 4 120 nQ nQ 0,bW 3 120 X2 X3 y.d,bW 2 120 X0 X1 x.d] ?_))
 refine xe (Zaa (Zac (Zab (xr 5 [(2, .p 2 0),(3, .p 3 0),(4, .p 4 0),(12, .v (.int .i64 (if y.d > x.d then y.d else x.d)))] [bW 4 120 nQ nQ 0,bW 3 120 X2 X3 y.d,bW 2 120 X0 X1 x.d] ?_))))
 rw [Zo1]
 refine xr 1 [(2, .p 2 0),(3, .p 3 0),(4, .p 4 0),(5, .v (.int .i64 (max x.d y.d)))] [bW 4 120 nQ nQ 0,bW 3 120 X2 X3 y.d,bW 2 120 X0 X1 x.d] ?_
 refine xe (Zaa (Zac ?_))
 refine ZaE 16 (by kernel_rfl) (by kernel_rfl) Zal ?_
 refine xf 4 [(2, .p 2 0),(3, .p 3 0),(4, .p 4 0),(5, .v (.int .i64 (max x.d y.d))),eQ 14 X0,eQ 16 X2] [bW 4 120 nQ nQ 0,bW 3 120 X2 X3 y.d,bW 2 120 X0 X1 x.d] ?_
 refine xd 96 [vQ X0,vQ X2] 17 Zak _ (fun w R Q=>(ZdE _ _ x.a y.a _ Q.1.1.1.1 Q.1.1.1.2 Q.1.2 (zx.a.fit (by omega)) (zy.a.fit (by omega))).mono (fun _ _=>Za7)) (fun X10=>?_)
 refine xf 4 [(2, .p 2 0),(3, .p 3 0),(4, .p 4 0),(5, .v (.int .i64 (max x.d y.d))),eQ 17 X10,eQ 19 X1,eQ 21 X3] [bW 4 120 nQ nQ 0,bW 3 120 X2 X3 y.d,bW 2 120 X0 X1 x.d] ?_
 refine xd 96 [vQ X1,vQ X3] 22 Zak _ (fun w R Q=>(ZdE _ _ x.b y.b _ Q.1.1.1.1.1 Q.1.1.1.2 Q.1.2 (zx.b.fit (by omega)) (zy.b.fit (by omega))).mono (fun _ _=>Za7)) (fun X11=>?_)
 refine xf 1 [(2, .p 2 0),(3, .p 3 0),(4, .p 4 0),(5, .v (.int .i64 (max x.d y.d))),eQ 17 X10,eQ 22 X11,(23, .v (.int .i64 (max x.d y.d)))] [bW 4 120 nQ nQ 0,bW 3 120 X2 X3 y.d,bW 2 120 X0 X1 x.d] ?_
 refine xd 97 [.int .i64 (max x.d y.d)] 24 Zak _ (fun w R Q=>(ZlP (max x.d y.d) _ (by have:=zx.max zy; omega) (zx.max zy).2).mono (fun _ _=>Za7)) (fun X12=>?_)
 refine xf 0 [(2, .p 2 0),(3, .p 3 0),(4, .p 4 0),(5, .v (.int .i64 (max x.d y.d))),eQ 17 X10,eQ 22 X11,eQ 24 X12] [bW 4 120 nQ nQ 0,bW 3 120 X2 X3 y.d,bW 2 120 X0 X1 x.d] ?_
 refine xd 96 [vQ X11,vQ X12] 25 Zak _ (fun w R Q=>(ZdE _ _ (x.b * y.b) (((max x.d y.d:Int):Rat)) _ Q.1.1.1.1.1.1.1 Q.1.2 Q.2 ((zx.b.mul zy.b).fit (by omega)) ((Dq.imax zx zy).fit (by omega))).mono (fun _ _=>Za7)) (fun X13=>?_)
 refine xf 0 [(2, .p 2 0),(3, .p 3 0),(4, .p 4 0),(5, .v (.int .i64 (max x.d y.d))),eQ 17 X10,eQ 25 X13] [bW 4 120 nQ nQ 0,bW 3 120 X2 X3 y.d,bW 2 120 X0 X1 x.d] ?_
 refine xd 98 [vQ X10,vQ X13] 26 Zak _ (fun w R Q=>(Zg8 _ _ (x.a * y.a) ((x.b * y.b) * (((max x.d y.d:Int):Rat))) _ Q.1.1.1.1.1.1.1.1 Q.1.1.1.2 Q.2 ((zx.a.mul zy.a).fit (by omega)) (((zx.b.mul zy.b).mul (Dq.imax zx zy)).fit (by omega))).mono (fun _ _=>Za7)) (fun X14=>?_)
 refine xf 2 [(2, .p 2 0),(3, .p 3 0),(4, .p 4 0),(5, .v (.int .i64 (max x.d y.d))),(6, .p 6 0)] [bQ 6 116 X14,bR4 6 116 false none 0 0 false none 0 0,bW 4 120 nQ nQ 0,bW 3 120 X2 X3 y.d,bW 2 120 X0 X1 x.d] ?_
 refine xz (xe (Zaa (Zac ?_)))
 refine ZaE 13 (by kernel_rfl) (by kernel_rfl) Zal ?_
 refine xf 4 [(2, .p 2 0),(3, .p 3 0),(4, .p 4 0),(5, .v (.int .i64 (max x.d y.d))),(6, .p 6 0),eQ 28 X0,eQ 30 X3] [bQ 6 116 X14,bR4 6 116 false none 0 0 false none 0 0,bW 4 120 nQ nQ 0,bW 3 120 X2 X3 y.d,bW 2 120 X0 X1 x.d] ?_
 refine xd 96 [vQ X0,vQ X3] 31 Zak _ (fun w R Q=>(ZdE _ _ x.a y.b _ Q.1.1.1.1.1.1.1.1.1 Q.1.1.1.1.1.1.1.1.2 Q.1.1.1.1.1.2 (zx.a.fit (by omega)) (zy.b.fit (by omega))).mono (fun _ _=>Za7)) (fun X15=>?_)
 refine xf 4 [(4, .p 4 0),(5, .v (.int .i64 (max x.d y.d))),(6, .p 6 0),eQ 31 X15,eQ 33 X1,eQ 35 X2] [bQ 6 116 X14,bR4 6 116 false none 0 0 false none 0 0,bW 4 120 nQ nQ 0,bW 3 120 X2 X3 y.d,bW 2 120 X0 X1 x.d] ?_
 refine xd 96 [vQ X1,vQ X2] 36 Zak _ (fun w R Q=>(ZdE _ _ x.b y.a _ Q.1.1.1.1.1.1.1.1.1.1 Q.1.1.1.1.1.1.1.1.2 Q.1.1.1.1.1.1.1.2 (zx.b.fit (by omega)) (zy.a.fit (by omega))).mono (fun _ _=>Za7)) (fun X16=>?_)
 refine xf 0 [(4, .p 4 0),(5, .v (.int .i64 (max x.d y.d))),(6, .p 6 0),eQ 31 X15,eQ 36 X16] [bQ 6 116 X14,bR4 6 116 false none 0 0 false none 0 0,bW 4 120 nQ nQ 0,bW 3 120 X2 X3 y.d,bW 2 120 X0 X1 x.d] ?_
 refine xd 98 [vQ X15,vQ X16] 37 Zak _ (fun w R Q=>(Zg8 _ _ (x.a * y.b) (x.b * y.a) _ Q.1.1.1.1.1.1.1.1.1.1.1 Q.1.2 Q.2 ((zx.a.mul zy.b).fit (by omega)) ((zx.b.mul zy.a).fit (by omega))).mono (fun _ _=>Za7)) (fun X17=>?_)
 refine xf 2 [(4, .p 4 0),(5, .v (.int .i64 (max x.d y.d))),(6, .p 6 0),(7, .p 7 0)] [bQ 7 116 X17,bR4 7 116 false none 0 0 false none 0 0,bQ 6 116 X14,bR4 6 116 false none 0 0 false none 0 0,bW 4 120 nQ nQ 0,bW 3 120 X2 X3 y.d,bW 2 120 X0 X1 x.d] ?_
 refine xz (xe (Zaa (Zac (Zab (xr 3 [(4, .p 4 0),eQ 38 X14,eQ 39 X17,(40, .v (.int .i64 (max x.d y.d)))] [bW 4 120 nQ nQ 0] ?_)))))
 refine xc 99 [vQ X14,vQ X17, .int .i64 (max x.d y.d)] 41 (shSd ((nv ((x.a * y.a) + ((x.b * y.b) * (((max x.d y.d:Int):Rat)))) ((x.a * y.b) + (x.b * y.a)) (max x.d y.d)).d)) _ (fun w R Q=>(Zhh _ _ ((x.a * y.a) + ((x.b * y.b) * (((max x.d y.d:Int):Rat)))) ((x.a * y.b) + (x.b * y.a)) (max x.d y.d) _ Q.1.1.1.2 Q.2).mono (fun _ _=>ZbA)) (fun xx=>?_)
 obtain ⟨⟨s18,A18,l18,c18,t18,B18,m18,d18⟩,⟨s19,A19,l19,c19,t19,B19,m19,d19⟩⟩:=xx
 refine xr 1 [(4, .p 4 0)] [(4,120,[.v (.bool s18), .v (.slice A18 l18 c18), .v (.bool t18), .v (.slice B18 m18 d18), .v (.bool s19), .v (.slice A19 l19 c19), .v (.bool t19), .v (.slice B19 m19 d19), .v (.int .i64 ((nv ((x.a * y.a) + ((x.b * y.b) * (((max x.d y.d:Int):Rat)))) ((x.a * y.b) + (x.b * y.a)) (max x.d y.d)).d))])] ?_
 refine xe (Zaa (Zah ?_))
 refine Zae (v:=.agg #[.bool s18, .slice A18 l18 c18, .bool t18, .slice B18 m18 d18, .bool s19, .slice A19 l19 c19, .bool t19, .slice B19 m19 d19, .int .i64 ((nv ((x.a * y.a) + ((x.b * y.b) * (((max x.d y.d:Int):Rat)))) ((x.a * y.b) + (x.b * y.a)) (max x.d y.d)).d)]) (by kernel_rfl) (fun w' R Q=>?_)
 exact ⟨_,rfl,(SdIs.of Q.2.1 Q.2.2),R⟩
theorem ZjA (vx:Value) (x:Sd) (w:World) (hhx:SdIs w vx x)  :
 Calls Tryz.prog 120 #[vx] w (Zfh w x.neg):=by
 obtain ⟨X0,X1,rfl,hx1,hx2⟩:=hhx.shq
 refine Zan (Φ:=fun w=>(Zap w (Zak X0) (x.a)∧Zap w (Zak X1) (x.b))) Tryz.func120 rfl (by kernel_rfl) (fun w' hf=>⟨hx1.ext hf,hx2.ext hf⟩) ?_
 refine Zac (Zab (xr 2 [(1, .p 1 0),(2, .p 2 0)] [bW 2 120 nQ nQ 0,bW 1 120 X0 X1 x.d] ?_))
 refine xe (Zaa (Zac ?_))
 refine ZaE 10 (by kernel_rfl) (by kernel_rfl) Zal ?_
 refine xf 2 [(1, .p 1 0),(2, .p 2 0),eQ 4 X0] [bW 2 120 nQ nQ 0,bW 1 120 X0 X1 x.d] ?_
 refine xd 197 [vQ X0] 5 Zak _ (fun w R Q=>(Zjv _ x.a _ Q.1).mono (fun _ _=>Za7)) (fun X10=>?_)
 refine xf 2 [(1, .p 1 0),(2, .p 2 0),eQ 5 X10,eQ 7 X1] [bW 2 120 nQ nQ 0,bW 1 120 X0 X1 x.d] ?_
 refine xd 197 [vQ X1] 8 Zak _ (fun w R Q=>(Zjv _ x.b _ Q.1.2).mono (fun _ _=>Za7)) (fun X11=>?_)
 refine xf 4 [(2, .p 2 0)] [bW 2 120 X10 X11 x.d,bW 2 120 nQ nQ 0,bW 1 120 X0 X1 x.d] ?_
 refine xz (xe (Zaa (Zah ?_)))
 refine Zae (v:=vW X10 X11 x.d) (by kernel_rfl) (fun w' R Q=>?_)
 exact ⟨_,rfl,(SdIs.of Q.1.2 Q.2),R⟩
theorem ZlQ (vx:Value) (x:Sd) (w:World) (hhx:SdIs w vx x)  :
 Calls Tryz.prog 105 #[vx] w (Zfh w x.conj):=by
 obtain ⟨X0,X1,rfl,hx1,hx2⟩:=hhx.shq
 refine Zan (Φ:=fun w=>(Zap w (Zak X0) (x.a)∧Zap w (Zak X1) (x.b))) Tryz.func105 rfl (by kernel_rfl) (fun w' hf=>⟨hx1.ext hf,hx2.ext hf⟩) ?_
 refine Zac (Zab (xr 2 [(1, .p 1 0),(2, .p 2 0)] [bW 2 120 nQ nQ 0,bW 1 120 X0 X1 x.d] ?_))
 refine xe (Zaa (Zac ?_))
 refine ZaE 9 (by kernel_rfl) (by kernel_rfl) Zal ?_
 refine xf 4 [(1, .p 1 0),(2, .p 2 0),eQ 4 X0,eQ 6 X1] [bW 2 120 nQ nQ 0,bW 1 120 X0 X1 x.d] ?_
 refine xd 197 [vQ X1] 7 Zak _ (fun w R Q=>(Zjv _ x.b _ Q.2).mono (fun _ _=>Za7)) (fun X10=>?_)
 refine xf 4 [(2, .p 2 0)] [bW 2 120 X0 X10 x.d,bW 2 120 nQ nQ 0,bW 1 120 X0 X1 x.d] ?_
 refine xz (xe (Zaa (Zah ?_)))
 refine Zae (v:=vW X0 X10 x.d) (by kernel_rfl) (fun w' R Q=>?_)
 exact ⟨_,rfl,(SdIs.of Q.1.1 Q.2),R⟩
theorem ZlR (vx:Value) (x:Sd) (w:World) (hg:Glob w) (hhx:SdIs w vx x) {jx:Nat} (zx:Sz x jx) (hj:jx≤350) :
 Calls Tryz.prog 106 #[vx] w (Zc3 w x.norm):=by
 obtain ⟨X0,X1,rfl,hx1,hx2⟩:=hhx.shq
 refine Zan (Φ:=fun w=>((Glob w∧Zap w (Zak X0) (x.a))∧Zap w (Zak X1) (x.b))) Tryz.func106 rfl (by kernel_rfl) (fun w' hf=>⟨⟨hg.ext hf,hx1.ext hf⟩,hx2.ext hf⟩) ?_
 refine Zac (Zab (xr 2 [(1, .p 1 0),(2, .p 2 0)] [bR4 2 116 false none 0 0 false none 0 0,bW 1 120 X0 X1 x.d] ?_))
 refine xe (Zaa (Zac ?_))
 refine ZaE 6 (by kernel_rfl) (by kernel_rfl) Zal ?_
 refine xf 2 [(2, .p 2 0),eW 3 X0 X1 x.d,eW 4 X0 X1 x.d] [bR4 2 116 false none 0 0 false none 0 0,bW 1 120 X0 X1 x.d] ?_
 refine xd 105 [vW X0 X1 x.d] 5 (shSd x.conj.d) _ (fun w R Q=>(ZlQ _ x _ (SdIs.of Q.1.2 Q.2)).mono (fun _ _=>ZbA)) (fun xx=>?_)
 obtain ⟨X10,X11⟩:=xx
 refine xf 0 [(2, .p 2 0),eW 3 X0 X1 x.d,eW 5 X10 X11 x.conj.d] [bR4 2 116 false none 0 0 false none 0 0,bW 1 120 X0 X1 x.d] ?_
 refine xd 113 [vW X0 X1 x.d,vW X10 X11 x.conj.d] 6 (shSd ((x.times x.conj).d)) _ (fun w R Q=>(Zhi _ _ x x.conj _ Q.1.1.1 (SdIs.of Q.1.1.2 Q.1.2) (SdIs.of Q.2.1 Q.2.2) zx zx.conj (by omega)).mono (fun _ _=>ZbA)) (fun xx=>?_)
 obtain ⟨X12,X13⟩:=xx
 refine xf 2 [(2, .p 2 0)] [bQ 2 116 X12,bR4 2 116 false none 0 0 false none 0 0,bW 1 120 X0 X1 x.d] ?_
 refine xz (xe (Zaa (Zah ?_)))
 refine Zae (v:=Zak X12) (by kernel_rfl) (fun w' R Q=>?_)
 exact ⟨_,rfl,Q.2.1,R⟩
theorem ZlS (vx:Value) (x:Sd) (w:World) (hhx:SdIs w vx x)  :
 Calls Tryz.prog 116 #[vx] w (RetV w (.bool (decide (x.a.num=0) && decide (x.b.num=0)))):=by
 obtain ⟨X0,X1,rfl,hx1,hx2⟩:=hhx.shq
 refine Zan (Φ:=fun w=>(Zap w (Zak X0) (x.a)∧Zap w (Zak X1) (x.b))) Tryz.func116 rfl (by kernel_rfl) (fun w' hf=>⟨hx1.ext hf,hx2.ext hf⟩) ?_
 refine Zac (Zab (xr 2 [(1, .p 1 0),(2, .v (.bool false))] [bW 1 120 X0 X1 x.d] ?_))
 refine xe (Zaa (Zac (Zab (xr 2 [(1, .p 1 0),(2, .v (.bool false)),eQ 4 X0] [bW 1 120 X0 X1 x.d] ?_))))
 refine xc 192 [vQ X0] 5 (fun _:Unit=>.bool (decide (x.a.num=0))) _ (fun w R Q=>(ZcU _ x.a _ Q.1).mono (fun _ _ h=>Zaf h rfl)) (fun xx=>?_)
 refine xr 1 [(1, .p 1 0),(2, .v (.bool false)),(6, .v (.bool (decide (x.a.num=0))))] [bW 1 120 X0 X1 x.d] ?_
 rcases ZeC ((decide (x.a.num=0))) with hb10 | hb10
 ·rw [hb10]
  refine xr 2 [(2, .v (.bool false)),(6, .v (.bool true)),eQ 8 X1] [] ?_
  refine xc 192 [vQ X1] 9 (fun _:Unit=>.bool (decide (x.b.num=0))) _ (fun w R Q=>(ZcU _ x.b _ Q.1.2).mono (fun _ _ h=>Zaf h rfl)) (fun xx=>?_)
  refine xr 2 [(2, .v (.bool (decide (x.b.num=0))))] [] ?_
  refine xe (Zaa (Zah ?_))
  refine Zae (v:=.bool (decide (x.b.num=0))) (by kernel_rfl) (fun w' R Q=>?_)
  exact ⟨by simp,R⟩
 ·rw [hb10]
  refine xr 5 [(2, .v (.bool false))] [] ?_
  refine xe (Zaa (Zah ?_))
  refine Zae (v:=.bool false) (by kernel_rfl) (fun w' R Q=>?_)
  exact ⟨by simp,R⟩
theorem ZqU (vx vy:Value) (x:Sd) (y:Sd) (w:World) (hg:Glob w) (hhx:SdIs w vx x) (hhy:SdIs w vy y) {jx:Nat} (zx:Sz x jx) {jy:Nat} (zy:Sz y jy) (hj:jx + jy≤350) (hj2:jy≤170) :
 Calls Tryz.prog 117 #[vx,vy] w (Zfh w (x.over y)):=by
 obtain ⟨X0,X1,rfl,hx1,hx2⟩:=hhx.shq
 obtain ⟨X2,X3,rfl,hy1,hy2⟩:=hhy.shq
 refine Zan (Φ:=fun w=>((((Glob w∧Zap w (Zak X0) (x.a))∧Zap w (Zak X1) (x.b))∧Zap w (Zak X2) (y.a))∧Zap w (Zak X3) (y.b))) Tryz.func117 rfl (by kernel_rfl) (fun w' hf=>⟨⟨⟨⟨hg.ext hf,hx1.ext hf⟩,hx2.ext hf⟩,hy1.ext hf⟩,hy2.ext hf⟩) ?_
 refine Zac (Zab (xr 3 [(2, .p 2 0),(3, .p 3 0),(4, .p 4 0)] [bW 4 120 nQ nQ 0,bW 3 120 X2 X3 y.d,bW 2 120 X0 X1 x.d] ?_))
 refine xe (Zaa (Zac (Zab (xr 1 [(2, .p 2 0),(3, .p 3 0),(4, .p 4 0),eW 7 X2 X3 y.d] [bW 4 120 nQ nQ 0,bW 3 120 X2 X3 y.d,bW 2 120 X0 X1 x.d] ?_))))
 refine xc 106 [vW X2 X3 y.d] 8 Zak _ (fun w R Q=>(ZlR _ y _ Q.1.1.1.1 (SdIs.of Q.1.2 Q.2) zy (by omega)).mono (fun _ _=>Za7)) (fun X10=>?_)
 refine xr 0 [(2, .p 2 0),(3, .p 3 0),(4, .p 4 0),eQ 8 X10] [bW 4 120 nQ nQ 0,bW 3 120 X2 X3 y.d,bW 2 120 X0 X1 x.d] ?_
 refine xc 202 [vQ X10] 9 Zak _ (fun w R Q=>(Znm _ y.norm _ Q.2).mono (fun _ _=>Za7)) (fun X11=>?_)
 refine xr 2 [(2, .p 2 0),(3, .p 3 0),(4, .p 4 0),(5, .p 5 0)] [bQ 5 116 X11,bW 4 120 nQ nQ 0,bW 3 120 X2 X3 y.d,bW 2 120 X0 X1 x.d] ?_
 refine xe (Zaa (Zac ?_))
 refine ZaE 6 (by kernel_rfl) (by kernel_rfl) Zal ?_
 refine xf 2 [(4, .p 4 0),(5, .p 5 0),eW 10 X0 X1 x.d,eW 11 X2 X3 y.d] [bQ 5 116 X11,bW 4 120 nQ nQ 0,bW 3 120 X2 X3 y.d,bW 2 120 X0 X1 x.d] ?_
 refine xd 105 [vW X2 X3 y.d] 12 (shSd y.conj.d) _ (fun w R Q=>(ZlQ _ y _ (SdIs.of Q.1.1.1.2 Q.1.1.2)).mono (fun _ _=>ZbA)) (fun xx=>?_)
 obtain ⟨X12,X13⟩:=xx
 refine xf 0 [(4, .p 4 0),(5, .p 5 0),eW 10 X0 X1 x.d,eW 12 X12 X13 y.conj.d] [bQ 5 116 X11,bW 4 120 nQ nQ 0,bW 3 120 X2 X3 y.d,bW 2 120 X0 X1 x.d] ?_
 refine xd 113 [vW X0 X1 x.d,vW X12 X13 y.conj.d] 13 (shSd ((x.times y.conj).d)) _ (fun w R Q=>(Zhi _ _ x y.conj _ Q.1.1.1.1.1.1.1 (SdIs.of Q.1.1.1.1.1.1.2 Q.1.1.1.1.1.2) (SdIs.of Q.2.1 Q.2.2) zx zy.conj (by omega)).mono (fun _ _=>ZbA)) (fun xx=>?_)
 obtain ⟨⟨s14,A14,l14,c14,t14,B14,m14,d14⟩,⟨s15,A15,l15,c15,t15,B15,m15,d15⟩⟩:=xx
 refine xf 2 [(4, .p 4 0),(5, .p 5 0),(6, .p 6 0)] [(6,120,[.v (.bool s14), .v (.slice A14 l14 c14), .v (.bool t14), .v (.slice B14 m14 d14), .v (.bool s15), .v (.slice A15 l15 c15), .v (.bool t15), .v (.slice B15 m15 d15), .v (.int .i64 ((x.times y.conj).d))]),bW 6 120 nQ nQ 0,bQ 5 116 X11,bW 4 120 nQ nQ 0,bW 3 120 X2 X3 y.d,bW 2 120 X0 X1 x.d] ?_
 refine xz (xe (Zaa (Zac ?_)))
 refine ZaE 12 (by kernel_rfl) (by kernel_rfl) Zal ?_
 refine xf 3 [(4, .p 4 0),(5, .p 5 0),(6, .p 6 0),eR4 15 s14 A14 l14 c14 t14 B14 m14 d14,eQ 16 X11] [(6,120,[.v (.bool s14), .v (.slice A14 l14 c14), .v (.bool t14), .v (.slice B14 m14 d14), .v (.bool s15), .v (.slice A15 l15 c15), .v (.bool t15), .v (.slice B15 m15 d15), .v (.int .i64 ((x.times y.conj).d))]),bW 6 120 nQ nQ 0,bQ 5 116 X11,bW 4 120 nQ nQ 0,bW 3 120 X2 X3 y.d,bW 2 120 X0 X1 x.d] ?_
 refine xd 96 [vR4 s14 A14 l14 c14 t14 B14 m14 d14,vQ X11] 17 Zak _ (fun w R Q=>(ZdE _ _ ((x.times y.conj).a) (y.norm⁻¹) _ Q.1.1.1.1.1.1.1.1 Q.2.1 Q.1.1.2 ((zx.times zy.conj).a.fit (by omega)) ((zy.norm.inv (by omega)).fit (by omega))).mono (fun _ _=>Za7)) (fun X16=>?_)
 refine xf 3 [(4, .p 4 0),(6, .p 6 0),eQ 17 X16,eR4 19 s15 A15 l15 c15 t15 B15 m15 d15,eQ 20 X11] [(6,120,[.v (.bool s14), .v (.slice A14 l14 c14), .v (.bool t14), .v (.slice B14 m14 d14), .v (.bool s15), .v (.slice A15 l15 c15), .v (.bool t15), .v (.slice B15 m15 d15), .v (.int .i64 ((x.times y.conj).d))]),bW 6 120 nQ nQ 0,bQ 5 116 X11,bW 4 120 nQ nQ 0,bW 3 120 X2 X3 y.d,bW 2 120 X0 X1 x.d] ?_
 refine xd 96 [vR4 s15 A15 l15 c15 t15 B15 m15 d15,vQ X11] 21 Zak _ (fun w R Q=>(ZdE _ _ ((x.times y.conj).b) (y.norm⁻¹) _ Q.1.1.1.1.1.1.1.1.1 Q.1.2.2 Q.1.1.1.2 ((zx.times zy.conj).b.fit (by omega)) ((zy.norm.inv (by omega)).fit (by omega))).mono (fun _ _=>Za7)) (fun X17=>?_)
 refine xf 2 [(4, .p 4 0),eQ 17 X16,eQ 21 X17,(23, .v (.int .i64 ((x.times y.conj).d)))] [(6,120,[.v (.bool s14), .v (.slice A14 l14 c14), .v (.bool t14), .v (.slice B14 m14 d14), .v (.bool s15), .v (.slice A15 l15 c15), .v (.bool t15), .v (.slice B15 m15 d15), .v (.int .i64 ((x.times y.conj).d))]),bW 6 120 nQ nQ 0,bQ 5 116 X11,bW 4 120 nQ nQ 0,bW 3 120 X2 X3 y.d,bW 2 120 X0 X1 x.d] ?_
 refine xd 99 [vQ X16,vQ X17, .int .i64 ((x.times y.conj).d)] 24 (shSd ((nv (((x.times y.conj).a) * (y.norm⁻¹)) (((x.times y.conj).b) * (y.norm⁻¹)) ((x.times y.conj).d)).d)) _ (fun w R Q=>(Zhh _ _ (((x.times y.conj).a) * (y.norm⁻¹)) (((x.times y.conj).b) * (y.norm⁻¹)) ((x.times y.conj).d) _ Q.1.2 Q.2).mono (fun _ _=>ZbA)) (fun xx=>?_)
 obtain ⟨⟨s18,A18,l18,c18,t18,B18,m18,d18⟩,⟨s19,A19,l19,c19,t19,B19,m19,d19⟩⟩:=xx
 refine xf 1 [(4, .p 4 0)] [(4,120,[.v (.bool s18), .v (.slice A18 l18 c18), .v (.bool t18), .v (.slice B18 m18 d18), .v (.bool s19), .v (.slice A19 l19 c19), .v (.bool t19), .v (.slice B19 m19 d19), .v (.int .i64 ((nv (((x.times y.conj).a) * (y.norm⁻¹)) (((x.times y.conj).b) * (y.norm⁻¹)) ((x.times y.conj).d)).d))]),(6,120,[.v (.bool s14), .v (.slice A14 l14 c14), .v (.bool t14), .v (.slice B14 m14 d14), .v (.bool s15), .v (.slice A15 l15 c15), .v (.bool t15), .v (.slice B15 m15 d15), .v (.int .i64 ((x.times y.conj).d))]),bW 6 120 nQ nQ 0,bQ 5 116 X11,bW 4 120 nQ nQ 0,bW 3 120 X2 X3 y.d,bW 2 120 X0 X1 x.d] ?_
 refine xz (xe (Zaa (Zah ?_)))
 refine Zae (v:=.agg #[.bool s18, .slice A18 l18 c18, .bool t18, .slice B18 m18 d18, .bool s19, .slice A19 l19 c19, .bool t19, .slice B19 m19 d19, .int .i64 ((nv (((x.times y.conj).a) * (y.norm⁻¹)) (((x.times y.conj).b) * (y.norm⁻¹)) ((x.times y.conj).d)).d)]) (by kernel_rfl) (fun w' R Q=>?_)
 exact ⟨_,rfl,(SdIs.of Q.2.1 Q.2.2),R⟩
theorem ZlT (vx:Value) (x:Sd) (w:World) (hg:Glob w) (hhx:SdIs w vx x) {jx:Nat} (zx:Sz x jx) (hj:jx≤350) :
 Calls Tryz.prog 108 #[vx] w (RetV w (.int .i64 x.sgn)):=by
 obtain ⟨X0,X1,rfl,hx1,hx2⟩:=hhx.shq
 refine Zan (Φ:=fun w=>((Glob w∧Zap w (Zak X0) (x.a))∧Zap w (Zak X1) (x.b))) Tryz.func108 rfl (by kernel_rfl) (fun w' hf=>⟨⟨hg.ext hf,hx1.ext hf⟩,hx2.ext hf⟩) ?_
 refine Zac (Zab (xr 2 [(1, .p 1 0),(2, .v (.int .i64 0))] [bW 1 120 X0 X1 x.d] ?_))
 refine xe (Zaa (Zac ?_))
 refine ZaE 8 (by kernel_rfl) (by kernel_rfl) Zal ?_
 refine xf 2 [(1, .p 1 0),(2, .v (.int .i64 0)),eQ 6 X0] [bW 1 120 X0 X1 x.d] ?_
 refine xd 200 [vQ X0] 7 (fun _:Unit=>.int .i64 x.a.num.sign) _ (fun w R Q=>(Zh6 _ x.a _ Q.1.2).mono (fun _ _ h=>Zaf h rfl)) (fun xx=>?_)
 refine xf 2 [(1, .p 1 0),(2, .v (.int .i64 0)),(7, .v (.int .i64 x.a.num.sign)),eQ 9 X1] [bW 1 120 X0 X1 x.d] ?_
 refine xd 200 [vQ X1] 10 (fun _:Unit=>.int .i64 x.b.num.sign) _ (fun w R Q=>(Zh6 _ x.b _ Q.1.2).mono (fun _ _ h=>Zaf h rfl)) (fun xx=>?_)
 refine xf 2 [(1, .p 1 0),(2, .v (.int .i64 0)),(3, .v (.int .i64 x.a.num.sign)),(4, .v (.int .i64 x.b.num.sign))] [bW 1 120 X0 X1 x.d] ?_
 refine xz (xe (Zaa (Zac (ZaK (Zac (Zab (xr 3 [(1, .p 1 0),(2, .v (.int .i64 0)),(3, .v (.int .i64 x.a.num.sign)),(4, .v (.int .i64 x.b.num.sign)),(14, .v (.bool ((x.b.num.sign:Int) == 0)))] [bW 1 120 X0 X1 x.d] ?_)))))))
 rcases ZeC (((x.b.num.sign:Int) == 0)) with hb10 | hb10
 ·rw [hb10]
  refine xr 5 [(1, .p 1 0),(2, .v (.int .i64 0)),(3, .v (.int .i64 x.a.num.sign)),(4, .v (.int .i64 x.b.num.sign)),(11, .v (.bool true))] [bW 1 120 X0 X1 x.d] ?_
  refine xe (Zaa (xa (Zac (Zab (xr 2 [(2, .v (.int .i64 x.a.num.sign)),(4, .v (.int .i64 x.b.num.sign))] [] ?_)))))
  refine xe (Zaa (Zah (ZaM (Zaj ?_))))
  refine Zae (v:=.int .i64 x.a.num.sign) (by kernel_rfl) (fun w' R Q=>?_)
  exact ⟨by unfold Sd.sgn; simp_all<;>(intro h; omega),R⟩
 ·rw [hb10]
  refine xr 5 [(1, .p 1 0),(2, .v (.int .i64 0)),(3, .v (.int .i64 x.a.num.sign)),(4, .v (.int .i64 x.b.num.sign)),(11, .v (.bool ((x.a.num.sign:Int) == x.b.num.sign)))] [bW 1 120 X0 X1 x.d] ?_
  refine xe (Zaa ?_)
  refine Zbb (((x.a.num.sign:Int) == x.b.num.sign)) (by kernel_rfl) (fun hb11=>?_) (fun hb11=>?_)
  ·refine Zac (Zab (xr 2 [(2, .v (.int .i64 x.a.num.sign)),(4, .v (.int .i64 x.b.num.sign))] [] ?_))
   refine xe (Zaa (Zah (ZaM (Zaj ?_))))
   refine Zae (v:=.int .i64 x.a.num.sign) (by kernel_rfl) (fun w' R Q=>?_)
   exact ⟨by unfold Sd.sgn; simp_all<;>(intro h; omega),R⟩
  ·refine Zac (Zab (xr 3 [(1, .p 1 0),(2, .v (.int .i64 0)),(3, .v (.int .i64 x.a.num.sign)),(4, .v (.int .i64 x.b.num.sign)),(20, .v (.bool ((x.a.num.sign:Int) == 0)))] [bW 1 120 X0 X1 x.d] ?_))
   refine xe (Zaa ?_)
   refine Zbb (((x.a.num.sign:Int) == 0)) (by kernel_rfl) (fun hb12=>?_) (fun hb12=>?_)
   ·refine Zac (Zab (xr 2 [(2, .v (.int .i64 x.b.num.sign)),(4, .v (.int .i64 x.b.num.sign))] [] ?_))
    refine xe (Zaa (Zah (ZaM (Zaj ?_))))
    refine Zae (v:=.int .i64 x.b.num.sign) (by kernel_rfl) (fun w' R Q=>?_)
    exact ⟨by unfold Sd.sgn; simp_all<;>(intro h; omega),R⟩
   ·refine Zac (Zab (xr 1 [(2, .v (.int .i64 0)),(3, .v (.int .i64 x.a.num.sign)),(4, .v (.int .i64 x.b.num.sign)),eW 25 X0 X1 x.d] [] ?_))
    refine xc 106 [vW X0 X1 x.d] 26 Zak _ (fun w R Q=>(ZlR _ x _ Q.1.1.1.1 (SdIs.of Q.1.1.1.2 Q.1.1.2) zx (by omega)).mono (fun _ _=>Za7)) (fun X13=>?_)
    refine xr 0 [(2, .v (.int .i64 0)),(3, .v (.int .i64 x.a.num.sign)),(4, .v (.int .i64 x.b.num.sign)),eQ 26 X13] [] ?_
    refine xc 200 [vQ X13] 27 (fun _:Unit=>.int .i64 x.norm.num.sign) _ (fun w R Q=>(Zh6 _ x.norm _ Q.2).mono (fun _ _ h=>Zaf h rfl)) (fun xx=>?_)
    refine xr 2 [(2, .v (.int .i64 0)),(3, .v (.int .i64 x.a.num.sign)),(4, .v (.int .i64 x.b.num.sign)),(24, .v (.bool (decide (x.norm.num.sign > 0))))] [] ?_
    refine xe (Zaa ?_)
    refine Zbb ((decide (x.norm.num.sign > 0))) (by kernel_rfl) (fun hb14=>?_) (fun hb14=>?_)
    ·refine Zac (Zab (xr 2 [(2, .v (.int .i64 x.a.num.sign)),(4, .v (.int .i64 x.b.num.sign))] [] ?_))
     refine xe (Zaa (Zah (ZaM (Zaj ?_))))
     refine Zae (v:=.int .i64 x.a.num.sign) (by kernel_rfl) (fun w' R Q=>?_)
     exact ⟨by unfold Sd.sgn; simp_all<;>(intro h; omega),R⟩
    ·refine ZaA (ZcB (Zaa (Zac (Zab (xr 2 [(2, .v (.int .i64 x.b.num.sign))] [] ?_)))))
     refine xe (Zaa (Zah ?_))
     refine Zae (v:=.int .i64 x.b.num.sign) (by kernel_rfl) (fun w' R Q=>?_)
     exact ⟨by unfold Sd.sgn; simp_all<;>(intro h; omega),R⟩
theorem ZdQ (vx:Value) (x:Sd) (w:World) (hg:Glob w) (hhx:SdIs w vx x) {j:Nat} (za:Dq x.a j) (zb:Dq x.b j) (hj:j≤722) :
 Calls Tryz.prog 94 #[vx] w (RetV w (.agg #[.string ⟨(Zad x.a).toArray⟩, .string ⟨(Zad x.b).toArray⟩, .int .i64 x.d])):=by
 obtain ⟨X0,X1,rfl,hx1,hx2⟩:=hhx.shq
 refine Zan (Φ:=fun w=>((Glob w∧Zap w (Zak X0) (x.a))∧Zap w (Zak X1) (x.b))) Tryz.func94 rfl (by kernel_rfl) (fun w' hf=>⟨⟨hg.ext hf,hx1.ext hf⟩,hx2.ext hf⟩) ?_
 refine Zac (Zab (xr 2 [(1, .p 1 0),(2, .p 2 0)] [(2,23,[.v (.string ⟨#[]⟩), .v (.string ⟨#[]⟩), .v (.int .i64 0)]),bW 1 120 X0 X1 x.d] ?_))
 refine xe (Zaa (Zac ?_))
 refine ZaE 10 (by kernel_rfl) (by kernel_rfl) Zal ?_
 refine xf 2 [(1, .p 1 0),(2, .p 2 0),eQ 4 X0] [(2,23,[.v (.string ⟨#[]⟩), .v (.string ⟨#[]⟩), .v (.int .i64 0)]),bW 1 120 X0 X1 x.d] ?_
 refine xd 107 [vQ X0] 5 (fun _:Unit=>.string ⟨(Zad x.a).toArray⟩) _ (fun w R Q=>(Zi2 _ x.a _ Q.1.1 Q.1.2 (za.prt (by omega)).1 (za.prt (by omega)).2).mono (fun _ _ h=>Zaf h rfl)) (fun xx=>?_)
 refine xf 2 [(1, .p 1 0),(2, .p 2 0),(5, .v (.string ⟨(Zad x.a).toArray⟩)),eQ 7 X1] [(2,23,[.v (.string ⟨#[]⟩), .v (.string ⟨#[]⟩), .v (.int .i64 0)]),bW 1 120 X0 X1 x.d] ?_
 refine xd 107 [vQ X1] 8 (fun _:Unit=>.string ⟨(Zad x.b).toArray⟩) _ (fun w R Q=>(Zi2 _ x.b _ Q.1.1.1 Q.1.2 (zb.prt (by omega)).1 (zb.prt (by omega)).2).mono (fun _ _ h=>Zaf h rfl)) (fun xx=>?_)
 refine xf 4 [(2, .p 2 0)] [(2,23,[.v (.string ⟨(Zad x.a).toArray⟩), .v (.string ⟨(Zad x.b).toArray⟩), .v (.int .i64 x.d)]),(2,23,[.v (.string ⟨#[]⟩), .v (.string ⟨#[]⟩), .v (.int .i64 0)]),bW 1 120 X0 X1 x.d] ?_
 refine xz (xe (Zaa (Zah ?_)))
 refine Zae (v:=.agg #[.string ⟨(Zad x.a).toArray⟩, .string ⟨(Zad x.b).toArray⟩, .int .i64 x.d]) (by kernel_rfl) (fun w' R Q=>?_)
 exact ⟨rfl,R⟩
def blg (d e:Int):Bool:=d == 1 || (e == 1 || d == e)
theorem blg1 {d e:Int} (h:(d == 1)=true):blg d e=true:=by unfold blg; rw [h]; rfl
theorem blg2 {d e:Int} (h:(d == 1)=false) (h':(e == 1)=true):blg d e=true:=by unfold blg; rw [h,h']; rfl
theorem blg3 {d e:Int} (h:(d == 1)=false) (h':(e == 1)=false):blg d e=(d == e):=by unfold blg; rw [h,h']; rfl
theorem Zo4 {d e:Int}:blg d e=true ↔ Blg d e:=by unfold blg Blg; simp
theorem Zku (d e:Int) (w:World) :
 Calls Tryz.prog 185 #[.int .i64 d, .int .i64 e] w (RetV w (.bool (blg d e))):=by
 refine Zan (Φ:=fun w=>True) Tryz.func185 rfl (by kernel_rfl) (fun w' hf=>trivial) ?_
 refine Zac (Zab (xr 1 [(0, .v (.int .i64 d)),(1, .v (.int .i64 e)),(4, .v (.bool false))] [] ?_))
 refine xe (Zaa (Zac (Zab (xr 3 [(0, .v (.int .i64 d)),(1, .v (.int .i64 e)),(4, .v (.bool false)),(7, .v (.bool ((d:Int) == 1)))] [] ?_))))
 rcases ZeC (((d:Int) == 1)) with hb10 | hb10
 ·rw [hb10]
  refine xr 9 [(4, .v (.bool true))] [] ?_
  refine xe (Zaa (Zah ?_))
  refine Zae (v:=.bool true) (by kernel_rfl) (fun w' R Q=>?_)
  exact ⟨by rw [blg1 hb10],R⟩
 ·rw [hb10]
  refine xr 4 [(0, .v (.int .i64 d)),(1, .v (.int .i64 e)),(4, .v (.bool false)),(11, .v (.bool ((e:Int) == 1)))] [] ?_
  rcases ZeC (((e:Int) == 1)) with hb11 | hb11
  ·rw [hb11]
   refine xr 5 [(4, .v (.bool true))] [] ?_
   refine xe (Zaa (Zah ?_))
   refine Zae (v:=.bool true) (by kernel_rfl) (fun w' R Q=>?_)
   exact ⟨by rw [blg2 hb10 hb11],R⟩
  ·rw [hb11]
   refine xr 5 [(4, .v (.bool ((d:Int) == e)))] [] ?_
   refine xe (Zaa (Zah ?_))
   refine Zae (v:=.bool ((d:Int) == e)) (by kernel_rfl) (fun w' R Q=>?_)
   exact ⟨by rw [blg3 hb10 hb11],R⟩
end Go.Proofs.YtbgkofgoeoiciaaGreatDoor

namespace Go.Proofs.YtbgkofgoeoiciaaGreatDoor
open Go.RowKit
section
variable {N:Nat} {S0:Nat→Prop} {w0:World} {P:Program} {s:St} {Φ Φ0:World→Prop} {ops:Array Oper} {Q:Exit→Act→World→Prop}
theorem xl {i:Nat} (d:Nat) (y:Value) (hx:∀ w,Fr S0 w0 w→Φ w→(execOp s.rho (opAt ops i)).run P w=.ok (.value y) w) (K:SXi P N S0 w0 ops Q (i + 1) (s.put d (.v y)) Φ) (hi:Nat.blt i ops.size=true:=by kernel_rfl) (hs:Zcf (opAt ops i).op=true:=by kernel_rfl)
 (hw:s.wantB ops (opAt ops i)=some true:=by kernel_rfl) (hv:(opAt ops i).op.operands.toList.all s.vB=true:=by kernel_rfl) (hd:(opAt ops i).dst=some d:=by kernel_rfl) (hN:Nat.blt d N=true:=by kernel_rfl):SXi P N S0 w0 ops Q i s Φ:=Zdq d y hi hs hw hv hd hN hx K
theorem xm {n i:Nat} (d:Nat) (y:Value) (hx:∀ w,Φ0 w→(execOp s.rho (opAt ops i)).run P w=.ok (.value y) w) (K:StI P N S0 w0 ops Φ0 Q n (i + 1) (s.put d (.v y)) Φ) (hi:Nat.blt i n=true:=by kernel_rfl) (hk:Zj6 (opAt ops i).op=true:=by kernel_rfl)
 (hw:s.wantB ops (opAt ops i)=some true:=by kernel_rfl) (hv:(opAt ops i).op.operands.toList.all s.vB=true:=by kernel_rfl) (hd:(opAt ops i).dst=some d:=by kernel_rfl) (hN:Nat.blt d N=true:=by kernel_rfl):StI P N S0 w0 ops Φ0 Q n i s Φ:=ZsK d y hi hk hw hv hd hN hx K
end
abbrev vS3 (a b:ByteArray) (d:Int):Value:=.agg #[.string a, .string b, .int .i64 d]
abbrev eS3 (n:Nat) (a b:ByteArray) (d:Int):Nat × AV:=(n, .v (vS3 a b d))
abbrev bS3 (n:Nat) (t:TypeId) (a b:ByteArray) (d:Int):Nat × TypeId × List AV:=(n,t,[.v (.string a), .v (.string b), .v (.int .i64 d)])
section
variable {w w':World} {e:Ending} {l:List UInt8} {o:Option Sd}
theorem Zmw (h:Zgv w l e w'):Zbn (fun u0:Bool × ShQ=>.tuple #[Zak u0.2, .bool u0.1]) (fun _ _=>True) w e w':=by
 obtain ⟨v,ok,rfl,Q,h⟩:=h
 obtain ⟨s,A,l,c,t,B,m,d,rfl⟩:∃ s A l c t B m d,v=.agg #[.bool s, .slice A l c, .bool t, .slice B m d]:=by
  rcases h with ⟨_,q,_,h2⟩ | ⟨_,_,h2⟩<;>exact h2.shp
 exact ⟨(ok,s,A,l,c,t,B,m,d),rfl,Q,BoxN.pure trivial⟩
theorem Zk9 (h:Zhg w l e w'):Zbn (fun u0:Bool × ShQ=>.tuple #[Zak u0.2, .bool u0.1]) (fun _ _=>True) w e w':=by
 obtain ⟨v,ok,q,rfl,Q,h2,_⟩:=h
 obtain ⟨s,A,l,c,t,B,m,d,rfl⟩:=h2.shp
 exact ⟨(ok,s,A,l,c,t,B,m,d),rfl,Q,BoxN.pure trivial⟩
theorem Zot (h:ZmB w o e w'):Zbn (fun u0:Bool × Int × ShS=>.tuple #[shSd u0.2.1 u0.2.2, .bool u0.1]) (fun _ _=>True) w e w':=by
 obtain ⟨v,ok,x',rfl,⟨y,rfl,_⟩,Q,_⟩:=h
 exact ⟨(ok,x'.d,y),rfl,Q,BoxN.pure trivial⟩
theorem ZfS (h:Zkt w o e w'):Zbn (fun u0:Bool × Int × ShS=>.tuple #[shSd u0.2.1 u0.2.2, .bool u0.1]) (fun _ _=>True) w e w':=by
 obtain ⟨v,ok,x',rfl,⟨y,rfl,_⟩,Q,_⟩:=h
 exact ⟨(ok,x'.d,y),rfl,Q,BoxN.pure trivial⟩
end
theorem Zla {z:Int} (h1 : -9223372036854775808≤z) (h2:z≤9223372036854775807):IntKind.i64.wrap z=z:=by
 rw [IntKind.wrap_i64]; omega
theorem Zs8 {P:Program} {o:Oper} {ρ:Operand→Value} {w:World} {t k:TypeId} {x y:Operand} {a b:Nat} (ho:o.op=Op.binOp .quo t x y k) (hx:ρ x=.int .i64 ((a:Nat):Int)) (hy:ρ y=.int .i64 ((b:Nat):Int)) (hb:0 < b) (ha:a≤1000000) :
 (execOp ρ o).run P w=.ok (.value (.int .i64 ((a / b:Nat):Int))) w:=by
 have h:¬ ((b:Int)=0):=by omega
 have e:IntKind.i64.wrap ((a:Int).tdiv (b:Int))=((a / b:Nat):Int):=by
  rw [ZdD]; have h1:=Nat.div_le_self a b; generalize a / b=q at *; exact Zla (by omega) (by omega)
 simp only [execOp,ho,hx,hy,eqGuard,binOp,Op.intDiv,if_neg h,e]
 rfl
theorem Zo5 {P:Program} {o:Oper} {ρ:Operand→Value} {w:World} {t k:TypeId} {x y:Operand} {a b:Nat} (ho:o.op=Op.binOp .rem t x y k) (hx:ρ x=.int .i64 ((a:Nat):Int)) (hy:ρ y=.int .i64 ((b:Nat):Int)) (hb:0 < b) :
 (execOp ρ o).run P w=.ok (.value (.int .i64 ((a % b:Nat):Int))) w:=by
 have h:¬ ((b:Int)=0):=by omega
 have e:((a:Int).tmod (b:Int))=((a % b:Nat):Int):=by
  rw [Int.tmod_eq_emod_of_nonneg (by omega)]; rfl
 simp only [execOp,ho,hx,hy,eqGuard,binOp,Op.intDiv,if_neg h,e]
 rfl
theorem nmul {a b:Nat} (h:a * b≤1000000000):IntKind.i64.wrap (((a:Nat):Int) * ((b:Nat):Int))=((a * b:Nat):Int):=by
 rw [← Int.natCast_mul]; exact Zla (by omega) (by omega)
theorem ninc {a:Nat} (h:a≤1000000000):IntKind.i64.wrap (((a:Nat):Int) + 1)=((a + 1:Nat):Int):=by
 rw [Zla (by omega) (by omega)]; rfl
theorem Zkv {k:Nat} (h:k≤1001):k * k≤1000000000:=by
 have:=Nat.mul_le_mul h h; omega
theorem le_t {a b:Nat} (h:decide (((a:Nat):Int)≤((b:Nat):Int))=true):a≤b:=by have:=of_decide_eq_true h; omega
theorem le_f {a b:Nat} (h:decide (((a:Nat):Int)≤((b:Nat):Int))=false):b < a:=by have:=of_decide_eq_false h; omega
theorem md_t {a:Nat} (h:(((a:Nat):Int) == 0)=true):a=0:=by have:=eq_of_beq h; omega
theorem md_f {a:Nat} (h:(((a:Nat):Int) == 0)=false):a≠0:=fun e=>by subst e; cases h
theorem k_le {k m:Nat} (h:k * k≤m) (hm:m≤1000000):k≤1000:=by
 refine Decidable.byContradiction fun hc=>?_
 have:=Nat.mul_le_mul (show 1001≤k by omega) (show 1001≤k by omega)
 omega
theorem sq_r {r m N:Nat} (h:r * r * m=N) (h0:0 < m) (hN:N≤1000000):r≤1000:=by
 refine k_le (m:=N) ?_ hN
 rw [← h]; exact Nat.le_mul_of_pos_right _ h0
theorem Zt4 {r k:Nat} (h:r≤1000) (hk:k≤1000):r * k≤1000000000:=by
 have:=Nat.mul_le_mul h hk; omega
theorem ZtM {m j:Nat} (hm:0 < m) (h:m % j=0) (hj:4≤j):0 < m / j∧m / j < m :=
 ⟨Nat.div_pos (Nat.le_of_dvd hm (Nat.dvd_of_mod_eq_zero h)) (by omega),Nat.div_lt_self hm (by omega)⟩
theorem kk4 {k:Nat} (h:2≤k):4≤k * k:=Nat.mul_le_mul h h
theorem Zs9 {r k m N:Nat} (hm:r * r * m=N) (h:m % (k * k)=0):r * k * (r * k) * (m / (k * k))=N:=by
 obtain ⟨q,rfl⟩:=Nat.dvd_of_mod_eq_zero h
 by_cases hk:k * k=0
 ·rw [hk] at hm ⊢; grind
 ·rw [Nat.mul_div_cancel_left _ (by omega),← hm]; grind
theorem Zo6 {N R M:Nat} (h:SqF N R M):(R=1 ↔ Free N):=by
 constructor
 ·intro e; have:=h.mul; subst e
  have this:M=N:=by omega
  exact this ▸ h.free
 ·intro hf
  exact (h.eq ⟨by omega,h.pos,hf⟩).1
theorem ZrZ {N k:Nat} (hk:2≤k) (h:N % (k * k)=0):¬ Free N:=fun hf=>hf.no hk h
section
variable {A B:List UInt8} {D:Int} {p q:Rat}
theorem ZqV (h1:ZaH A=some p) (h2:ZaH B=some q) (hD:(D == 1)=true) (hq:q.num=0):rdS A B D=some ⟨p,0,1⟩:=by
 have e:=eq_of_beq hD; subst e
 have e:=Rat.num_eq_zero.1 hq; subst e
 exact ZeR h1 h2 (Or.inl ⟨rfl,rfl⟩)
theorem ZlU (h1:ZaH A=some p) (h2:ZaH B=some q) (hD:(D == 1)=true) (hq:q.num≠0):rdS A B D=none:=by
 have e:=eq_of_beq hD; subst e
 refine ZqT h1 h2 ?_
 rintro (⟨_,h⟩ | ⟨h,_⟩)
 ·simp only at h; subst h; exact hq rfl
 ·simp only at h; omega
theorem ZqW (h:(D == 1)=false):D≠1:=fun e=>by subst e; cases h
theorem Ze7 (h1:ZaH A=some p) (h2:ZaH B=some q) (hD:(D == 1)=false) (h:D < 2∨D > 1000000∨q.num=0∨¬ Free D.toNat):rdS A B D=none:=by
 refine ZqT h1 h2 ?_
 have:=ZqW hD
 rintro (⟨h3,_⟩ | ⟨h3,h4,h5,h6⟩)
 ·exact this h3
 ·simp only at h3 h4 h5 h6
  rcases h with h | h | h | h
  ·omega
  ·omega
  ·exact h5 (Rat.num_eq_zero.1 h)
  ·exact h h6
theorem Zsr (h1:ZaH A=some p) (h2:ZaH B=some q) (h3:2≤D) (h4:D≤1000000) (h5:q.num≠0) (h6:Free D.toNat):rdS A B D=some ⟨p,q,D⟩ :=
 ZeR h1 h2 (Or.inr ⟨h3,h4,fun e=>h5 (by simp only at e; rw [e]; rfl),h6⟩)
end
theorem Zt5 {R N M:Nat} (hS:SqF N R M) (h:(((R:Nat):Int) != 1)=true):¬ Free N:=fun hf=>by
 have:=(Zo6 hS).2 hf; subst this; cases h
theorem Zt6 {R N M:Nat} (hS:SqF N R M) (h:(((R:Nat):Int) != 1)=false):Free N:=by
 refine (Zo6 hS).1 ?_
 have:((R:Nat):Int)=1:=by simpa using h
 omega
-- results
abbrev zS:Value:=.agg #[.string ⟨#[]⟩, .string ⟨#[]⟩, .int .i64 0]
abbrev tS (x:Sd):Value:=.agg #[.string ⟨(Zad x.a).toArray⟩, .string ⟨(Zad x.b).toArray⟩, .int .i64 x.d]
abbrev okS (x:Sd):Value:=.tuple #[tS x, .int .i64 0]
noncomputable def opV (o o':Option Sd) (f:Sd→Sd→Value) (z:Value):Value :=
 match o,o' with
 | some x,some y=>@ite _ (Blg x.d y.d) (Classical.propDecidable _) (f x y) (.tuple #[z, .int .i64 9])
 | _,_=>.tuple #[z, .int .i64 1]
def opU (o:Option Sd) (f:Sd→Value) (z:Value):Value:=match o with | some x=>f x | none=>.tuple #[z, .int .i64 1]
section
variable {o o':Option Sd} {f:Sd→Sd→Value} {g:Sd→Value} {z:Value} {x y:Sd}
theorem ZaX (h:o=none∨o'=none):opV o o' f z=.tuple #[z, .int .i64 1]:=by
 unfold opV; rcases h with h | h<;>rw [h]<;>split<;>simp_all
theorem ZbB (h:o=some x) (h':o'=some y) (hb:¬ Blg x.d y.d):opV o o' f z=.tuple #[z, .int .i64 9]:=by
 unfold opV; rw [h,h']; exact if_neg hb
theorem Zbk (h:o=some x) (h':o'=some y) (hb:Blg x.d y.d):opV o o' f z=f x y:=by
 unfold opV; rw [h,h']; exact if_pos hb
theorem Zo7 (h:o=none):opU o g z=.tuple #[z, .int .i64 1]:=by rw [h]; rfl
theorem ZgG (h:o=some x):opU o g z=g x:=by rw [h]; rfl
end
abbrev zV:Value:=vV9 false none 0 0 false none 0 0 false none 0 0 false none 0 0 0
def Zkw (w:World) (o o':Option Sd) (e:Ending) (w':World):Prop :=
 ((o=none∨o'=none)∧e=.returned (.tuple #[zV,zV, .int .i64 1])∧Ext w w') ∨
 (∃ x y,o=some x∧o'=some y∧¬ Blg x.d y.d∧e=.returned (.tuple #[zV,zV, .int .i64 9])∧Ext w w') ∨
 (∃ x y v v',o=some x∧o'=some y∧Blg x.d y.d∧e=.returned (.tuple #[v,v', .int .i64 0])∧SdIs w' v x∧SdIs w' v' y∧Ext w w')
section
variable {w w':World} {e:Ending} {o o':Option Sd} {x y:Sd}
theorem ZfT (h:Zkw w o o' e w') (hb:o=none∨o'=none):Zbn (fun _:Unit=>.tuple #[zV,zV, .int .i64 1]) (fun _ _=>True) w e w':=by
 rcases h with ⟨_,h,Q⟩ | ⟨x,y,h1,h2,_⟩ | ⟨x,y,v,v',h1,h2,_⟩
 ·exact ⟨(),h,Q,BoxN.pure trivial⟩
 ·rw [h1,h2] at hb; simp at hb
 ·rw [h1,h2] at hb; simp at hb
theorem Zgo (h:Zkw w o o' e w') (ho:o=some x) (ho':o'=some y) (hb:¬ Blg x.d y.d):Zbn (fun _:Unit=>.tuple #[zV,zV, .int .i64 9]) (fun _ _=>True) w e w':=by
 rcases h with ⟨hb,_⟩ | ⟨x',y',h1,h2,h3,h,Q⟩ | ⟨x',y',v,v',h1,h2,h3,_⟩
 ·rw [ho,ho'] at hb; simp at hb
 ·exact ⟨(),h,Q,BoxN.pure trivial⟩
 ·rw [ho] at h1; rw [ho'] at h2; injection h1 with h1; injection h2 with h2; subst h1 h2; exact absurd h3 hb
theorem Zd0 (h:Zkw w o o' e w') (ho:o=some x) (ho':o'=some y) (hb:Blg x.d y.d):Zbn (fun u:ShS × ShS=>.tuple #[shSd x.d u.1,shSd y.d u.2, .int .i64 0])
 (fun u w=>((Zap w (Zak u.1.1) x.a∧Zap w (Zak u.1.2) x.b)∧Zap w (Zak u.2.1) y.a)∧Zap w (Zak u.2.2) y.b) w e w':=by
 rcases h with ⟨hb,_⟩ | ⟨x',y',h1,h2,h3,_⟩ | ⟨x',y',v,v',h1,h2,h3,rfl,⟨u,rfl,a1,a2⟩,⟨u',rfl,b1,b2⟩,Q⟩
 ·rw [ho,ho'] at hb; simp at hb
 ·rw [ho] at h1; rw [ho'] at h2; injection h1 with h1; injection h2 with h2; subst h1 h2; exact absurd hb h3
 ·rw [ho] at h1; rw [ho'] at h2; injection h1 with h1; injection h2 with h2; subst h1 h2
  exact ⟨(u,u'),rfl,Q,boxn Q (fun S w'' hS hF=>⟨⟨⟨a1.nrb hS hF,a2.nrb hS hF⟩,b1.nrb hS hF⟩,b2.nrb hS hF⟩)⟩
end
section
variable {A B:List UInt8} {d:Int} {R M:Nat} {p q:Rat}
end
end Go.Proofs.YtbgkofgoeoiciaaGreatDoor
