/-
 My texts Nr, Ng, Nf, Nt, Nd, Nrd, RdK, Po, Pw2, Rf5, Pv put together.
-/
import Derived.Test.YtcpjeaaapocoeaaGreatDoorP17
import Derived.Test.YtcpjeaaapocoeaaGreatDoorP18
import Derived.Test.YtcpjeaaapocoeaaGreatDoorP16
set_option maxRecDepth 100000
namespace Go.Proofs.YtcpjeaaapocoeaaGreatDoor
open Go.RowKit
theorem ZdF (neg:Bool) (u:Value) (n:Nat) (w:World) (hu:Zam w u n):Calls Tryz.prog 275 #[.bool neg,u] w (Zgs w (sg neg n)):=by
 refine (Zoh neg u n w hu).mono ?_
 rintro e w1 ⟨s,rfl,hs,hF⟩
 exact ⟨_,rfl,Zak.signed (hu.ext hF) hs.out,hF⟩
theorem Zak.opn {w:World} {s:Bool} {A:Option Addr} {l c:Nat} {z:Int} (h:Zak w (.agg #[.bool s, .slice A l c]) z):Zam w (.slice A l c) z.natAbs∧z=sg s z.natAbs∧(z=0→s=false):=by
 obtain ⟨s',A',l',c',he,h1,h2,h3⟩:=h.open
 injection he with he
 simp at he
 obtain ⟨rfl,rfl,rfl,rfl⟩:=he
 exact ⟨h1,h2,h3⟩
theorem Zak.mag {w:World} {s:Bool} {A:Option Addr} {l c:Nat} {z:Int} (h:Zak w (.agg #[.bool s, .slice A l c]) z):Zam w (.slice A l c) z.natAbs:=h.opn.1
theorem Zq6 {w:World} {s:Bool} {A:Option Addr} {l c:Nat} {z:Int} (h:Zak w (.agg #[.bool s, .slice A l c]) z):sg (!s) z.natAbs = -z:=by
 obtain ⟨_,h2,h3⟩:=h.opn
 cases s<;>simp [sg] at *<;>omega
theorem ZaZ.neg {x:Int} (h:ZaZ x):ZaZ (-x):=by
 unfold ZaZ at *; rw [Int.natAbs_neg]; exact h
theorem ZmE {fn:Func} {t:Tmp} {tmps:Array Value} {w w':World} {r:Nat} {x y:Value} {z:Int} (hres:fn.results=#[.cell t 155]) (ht:tmps[t]? = some (.pointer (some ⟨r,0,none⟩)))
 (hB:Blk 155 w' r #[x,y]) (hI:Zak w' (.agg #[x,y]) z) (Q:Ext w w'):bodyPost Tryz.prog fn (Zgs w z) .ret ⟨tmps,[]⟩ w' :=
 bodyPost_ret (Zfd hres _ _ r _ _ ht hB) rfl ⟨_,rfl,hI,Q⟩
theorem Zak.sneg {w:World} {s:Bool} {A:Option Addr} {l c:Nat} {z:Int} (h:Zak w (.agg #[.bool s, .slice A l c]) z) (hz:z < 0):s=true:=by
 obtain ⟨_,h2,h3⟩:=h.opn
 cases s with
 | true=>rfl
 | false=>simp [sg] at h2; omega
theorem Zak.spos {w:World} {s:Bool} {A:Option Addr} {l c:Nat} {z:Int} (h:Zak w (.agg #[.bool s, .slice A l c]) z) (hz:0≤z):s=false:=by
 obtain ⟨_,h2,h3⟩:=h.opn
 cases s with
 | false=>rfl
 | true=>simp [sg] at h2; exact h3 (by omega)
theorem Zak.len0 {w:World} {s:Bool} {A:Option Addr} {l c:Nat} {z:Int} (h:Zak w (.agg #[.bool s, .slice A l c]) z) (hz:z=0):l=0:=by
 obtain ⟨h1,_,_⟩:=h.opn
 obtain ⟨A',xs,c',he,_,_,hd,ht,hv⟩:=h1
 injection he with _ he
 rw [hz] at hv
 have:=Zke ht Zao hv
 rw [this] at he
 simpa using he
theorem Zak.lenp {w:World} {s:Bool} {A:Option Addr} {l c:Nat} {z:Int} (h:Zak w (.agg #[.bool s, .slice A l c]) z) (hz:z≠0):0 < l:=by
 obtain ⟨h1,_,_⟩:=h.opn
 obtain ⟨A',xs,c',he,_,_,hd,ht,hv⟩:=h1
 injection he with _ he
 rcases Nat.eq_zero_or_pos l with e | e
 ·rw [e] at he
  have:xs=[]:=List.length_eq_zero_iff.1 he.symm
  rw [this] at hv
  simp at hv
  omega
 ·exact e
theorem Zak.quo {w:World} {s t:Bool} {A B:Option Addr} {l c l' c':Nat} {x y:Int} (h:Zak w (.agg #[.bool s, .slice A l c]) x) (k:Zak w (.agg #[.bool t, .slice B l' c']) y):sg (s != t) (x.natAbs / y.natAbs)=x.tdiv y∧sg s (x.natAbs % y.natAbs)=x.tmod y:=by
 obtain ⟨_,h2,h3⟩:=h.opn
 obtain ⟨_,k2,k3⟩:=k.opn
 generalize x.natAbs=m at *
 generalize y.natAbs=n at *
 subst h2 k2
 cases s<;>cases t<;>simp [sg,Int.neg_tdiv,Int.tdiv_neg,Int.neg_tmod,Int.tmod_neg]<;>exact (Int.tmod_eq_emod_of_nonneg (by omega)).symm
def Zjq (w:World) (q r:Int) (e:Ending) (w':World):Prop:=∃ u v,e=.returned (.tuple #[u,v])∧Zak w' u q∧Zak w' v r∧Ext w w'
theorem ZpI {fn:Func} {t t':Tmp} {tmps:Array Value} {w w':World} {r r':Nat} {x y x' y':Value} {z z':Int} (hres:fn.results=#[.cell t 155, .cell t' 155]) (ht:tmps[t]? = some (.pointer (some ⟨r,0,none⟩))) (ht':tmps[t']? = some (.pointer (some ⟨r',0,none⟩)))
 (hB:Blk 155 w' r #[x,y]) (hB':Blk 155 w' r' #[x',y']) (hI:Zak w' (.agg #[x,y]) z) (hI':Zak w' (.agg #[x',y']) z') (Q:Ext w w'):bodyPost Tryz.prog fn (Zjq w z z') .ret ⟨tmps,[]⟩ w':=by
 obtain ⟨h0,h1,_⟩:=hB.cell2
 obtain ⟨k0,k1,_⟩:=hB'.cell2
 exact bodyPost_ret (v:=.tuple #[.agg #[x,y], .agg #[x',y']]) (by simp [results,hres,ht,ht',go_sem,h0,h1,k0,k1]) rfl ⟨_,_,rfl,hI,hI',Q⟩
theorem ZmF {q:Rat} (h:¬ q.den=1):denF q≠0:=by rw [ZcM h]; have:=q.den_nz; omega
set_option maxHeartbeats 2000000 in
theorem Zla (a:Value) (x:Int) (w:World) (ha:Zak w a x) :
 Calls Tryz.prog 257 #[a] w (Zgs w (-x)):=by
 obtain ⟨s1,A1,l1,c1,rfl⟩:=ha.shp
 have F2:Hid (Zak w (.agg #[.bool s1, .slice A1 l1 c1]) (x)):=ha
 clear ha
 have Hs:=zh (Zq6 F2.out)
 go_enter Tryz.func257,Tryz.ntmps257
 go_wp2_with fail
 generalize hwb:World.alloc (World.alloc w _) _=w5
 obtain ⟨b_B3,b_B4,hE0⟩:=Zmv hwb
 clear hwb
 have B3:=zh b_B3
 have B4:=zh b_B4
 clear b_B3 b_B4
 replace F2:=zh (F2.out.ext hE0)
 have HE:=zh hE0
 clear hE0
 have F6:Hid (Zam w5 (.slice A1 l1 c1) ((x).natAbs)):=F2.out.mag
 refine (ZdF ((!s1)) _ _ _ F6.out).mono ?_
 rintro e w7 ⟨_,rfl,hI,hF⟩
 obtain ⟨s8,A8,l8,c8,rfl⟩:=hI.shp
 replace B3:=zh (B3.out.ext hF)
 replace B4:=zh (B4.out.ext hF)
 replace F2:=zh (F2.out.ext hF)
 replace F6:=zh (F6.out.ext hF)
 replace HE:=zh (HE.out.trans hF)
 have F9:Hid (Zak w7 (.agg #[.bool s8, .slice A8 l8 c8]) (sg ((!s1)) ((x).natAbs))):=hI
 clear hF hI
 obtain ⟨c10_0,c10_1,f10_0,f10_1⟩:=B3.out.cell2
 obtain ⟨c11_0,c11_1,f11_0,f11_1⟩:=B4.out.cell2
 go_wp2
 clear c10_0 c10_1 f10_0 f10_1 c11_0 c11_1 f11_0 f11_1
 have hFs:Fr (fun i=>i=(w.heap.size + 1)) w7 ((w7.setCell ⟨(w.heap.size + 1),0,none⟩ (.bool s8)).setCell ⟨(w.heap.size + 1),1,none⟩ (.slice A8 l8 c8)):=(((Fr.refl (fun i=>i=(w.heap.size + 1)) _).setCell (p:=⟨(w.heap.size + 1),0,none⟩) (Or.inl rfl) _).setCell (p:=⟨(w.heap.size + 1),1,none⟩) (Or.inl rfl) _)
 replace F2:=zh (F2.out.oth B4.out Zbr hFs)
 replace F6:=zh (F6.out.oth B4.out Zbr hFs)
 replace F9:=zh (F9.out.oth B4.out Zbr hFs)
 replace B3:=zh (B3.out.fr hFs (by first | omega | (have:=B3.out.lt; have:=B4.out.lt; omega)))
 replace HE:=zh (HE.out.next hFs (fun i hi e=>by first | omega | (have:=HE.out.size; have:=B4.out.lt; omega)))
 have b_new:Blk 155 ((w7.setCell ⟨(w.heap.size + 1),0,none⟩ (.bool s8)).setCell ⟨(w.heap.size + 1),1,none⟩ (.slice A8 l8 c8)) (w.heap.size + 1) #[.bool s8, .slice A8 l8 c8]:=((B4.out.set_ 0 _).set_ 1 _)
 generalize ((w7.setCell ⟨(w.heap.size + 1),0,none⟩ (.bool s8)).setCell ⟨(w.heap.size + 1),1,none⟩ (.slice A8 l8 c8))=w12 at *
 replace B4:=zh b_new; clear b_new hFs
 exact ZmE rfl rfl B4.out (by have:=F9.out; rw [Hs.out] at this; exact this) HE.out
set_option maxHeartbeats 2000000 in
theorem Zos (a:Value) (x:Int) (w:World) (ha:Zak w a x) (hx:x < 0) :
 Calls Tryz.prog 258 #[a] w (RetV w (.int .i64 (-1))):=by
 obtain ⟨s1,A1,l1,c1,rfl⟩:=ha.shp
 have F2:Hid (Zak w (.agg #[.bool s1, .slice A1 l1 c1]) (x)):=ha
 clear ha
 obtain rfl:s1=true:=F2.out.sneg hx
 clear hx
 go_enter Tryz.func258,Tryz.ntmps258
 go_wp2
 generalize hwb:World.alloc w _=w4
 obtain ⟨b_B3,hE0⟩:=Zcm hwb
 clear hwb
 have B3:=zh b_B3
 clear b_B3
 replace F2:=zh (F2.out.ext hE0)
 have HE:=zh hE0
 clear hE0
 go_ret
 exact ⟨rfl,HE.out⟩
set_option maxHeartbeats 2000000 in
theorem Znp (a:Value) (x:Int) (w:World) (ha:Zak w a x) (hx:x=0) :
 Calls Tryz.prog 258 #[a] w (RetV w (.int .i64 (0))):=by
 obtain ⟨s1,A1,l1,c1,rfl⟩:=ha.shp
 have F2:Hid (Zak w (.agg #[.bool s1, .slice A1 l1 c1]) (x)):=ha
 clear ha
 obtain rfl:s1=false:=F2.out.spos (by omega)
 obtain rfl:l1=0:=F2.out.len0 hx
 clear hx
 go_enter Tryz.func258,Tryz.ntmps258
 go_wp2
 generalize hwb:World.alloc w _=w4
 obtain ⟨b_B3,hE0⟩:=Zcm hwb
 clear hwb
 have B3:=zh b_B3
 clear b_B3
 replace F2:=zh (F2.out.ext hE0)
 have HE:=zh hE0
 clear hE0
 go_ret
 exact ⟨rfl,HE.out⟩
set_option maxHeartbeats 2000000 in
theorem Zot (a:Value) (x:Int) (w:World) (ha:Zak w a x) (hx:0 < x) :
 Calls Tryz.prog 258 #[a] w (RetV w (.int .i64 (1))):=by
 obtain ⟨s1,A1,l1,c1,rfl⟩:=ha.shp
 have F2:Hid (Zak w (.agg #[.bool s1, .slice A1 l1 c1]) (x)):=ha
 clear ha
 obtain rfl:s1=false:=F2.out.spos (by omega)
 have hl:((l1:Int) == 0)=false:=by have:=F2.out.lenp (by omega); simp; omega
 clear hx
 go_enter Tryz.func258,Tryz.ntmps258
 go_wp2
 generalize hwb:World.alloc w _=w4
 obtain ⟨b_B3,hE0⟩:=Zcm hwb
 clear hwb
 have B3:=zh b_B3
 clear b_B3
 replace F2:=zh (F2.out.ext hE0)
 have HE:=zh hE0
 clear hE0
 go_ret
 exact ⟨rfl,HE.out⟩
theorem ZgD (a:Value) (x:Int) (w:World) (ha:Zak w a x):Calls Tryz.prog 258 #[a] w (RetV w (.int .i64 x.sign)):=by
 rcases Int.lt_trichotomy x 0 with h | h | h
 ·rw [Int.sign_eq_neg_one_of_neg h]; exact Zos a x w ha h
 ·rw [h,Int.sign_zero]; exact Znp a x w ha h
 ·rw [Int.sign_eq_one_of_pos h]; exact Zot a x w ha h
set_option maxHeartbeats 2000000 in
theorem Zd8 (a b:Value) (x y:Int) (w:World) (ha:Zak w a x) (hb:Zak w b y) (hx:ZaZ x) (hy:ZaZ y) (h0:y≠0) :
 Calls Tryz.prog 274 #[a,b] w (Zjq w (x.tdiv y) (x.tmod y)):=by
 obtain ⟨s1,A1,l1,c1,rfl⟩:=ha.shp
 have F2:Hid (Zak w (.agg #[.bool s1, .slice A1 l1 c1]) (x)):=ha
 clear ha
 obtain ⟨s3,A3,l3,c3,rfl⟩:=hb.shp
 have F4:Hid (Zak w (.agg #[.bool s3, .slice A3 l3 c3]) (y)):=hb
 clear hb
 have Hx:Hid (ml x.natAbs≤17592186044416):=hx
 have Hy:Hid (ml y.natAbs≤17592186044416):=hy
 have H0:Hid (0 < y.natAbs):=by unfold Hid; omega
 have HQ:=zh (F2.out.quo F4.out)
 clear hx hy h0
 go_enter Tryz.func274,Tryz.ntmps274
 go_wp2_with fail
 generalize hwb:World.alloc (World.alloc (World.alloc (World.alloc w _) _) _) _=w9
 obtain ⟨b_B5,b_B6,b_B7,b_B8,hE0⟩:=Zqr hwb
 clear hwb
 have B5:=zh b_B5
 have B6:=zh b_B6
 have B7:=zh b_B7
 have B8:=zh b_B8
 clear b_B5 b_B6 b_B7 b_B8
 replace F2:=zh (F2.out.ext hE0)
 replace F4:=zh (F4.out.ext hE0)
 have HE:=zh hE0
 clear hE0
 have F10:Hid (Zam w9 (.slice A1 l1 c1) ((x).natAbs)):=F2.out.mag
 have F11:Hid (Zam w9 (.slice A3 l3 c3) ((y).natAbs)):=F4.out.mag
 refine (ZiN _ _ ((x).natAbs) ((y).natAbs) _ F10.out F11.out Hx.out Hy.out H0.out).mono ?_
 rintro e w12 ⟨_,_,rfl,hq,hr,hF⟩
 obtain ⟨Aq13,lq13,cq13,rfl⟩:=hq.slice
 obtain ⟨Ar13,lr13,cr13,rfl⟩:=hr.slice
 replace B5:=zh (B5.out.ext hF)
 replace B6:=zh (B6.out.ext hF)
 replace B7:=zh (B7.out.ext hF)
 replace B8:=zh (B8.out.ext hF)
 replace F2:=zh (F2.out.ext hF)
 replace F4:=zh (F4.out.ext hF)
 replace F10:=zh (F10.out.ext hF)
 replace F11:=zh (F11.out.ext hF)
 replace HE:=zh (HE.out.trans hF)
 have F14:Hid (Zam w12 (.slice Aq13 lq13 cq13) (((x).natAbs) / ((y).natAbs))):=hq
 have F15:Hid (Zam w12 (.slice Ar13 lr13 cr13) (((x).natAbs) % ((y).natAbs))):=hr
 clear hF hq hr
 obtain ⟨c16_0,c16_1,f16_0,f16_1⟩:=B5.out.cell2
 obtain ⟨c17_0,c17_1,f17_0,f17_1⟩:=B6.out.cell2
 obtain ⟨c18_0,c18_1,f18_0,f18_1⟩:=B7.out.cell2
 obtain ⟨c19_0,c19_1,f19_0,f19_1⟩:=B8.out.cell2
 go_wp2_with fail
 clear c16_0 c16_1 f16_0 f16_1 c17_0 c17_1 f17_0 f17_1 c18_0 c18_1 f18_0 f18_1 c19_0 c19_1 f19_0 f19_1
 refine ZlN 11 (fun W'=>Blk 155 W' w.heap.size #[.bool s1, .slice A1 l1 c1]∧Blk 155 W' (w.heap.size + 1) #[.bool s3, .slice A3 l3 c3]∧Blk 155 W' (w.heap.size + 1 + 1) #[.bool false, .slice none 0 0]∧Blk 155 W' (w.heap.size + 1 + 1 + 1) #[.bool false, .slice none 0 0]) Zas ?_
 replace B5:=zh (B5.out.ext (Fr.refl _ _).drew)
 replace B6:=zh (B6.out.ext (Fr.refl _ _).drew)
 replace B7:=zh (B7.out.ext (Fr.refl _ _).drew)
 replace B8:=zh (B8.out.ext (Fr.refl _ _).drew)
 replace F2:=zh (F2.out.ext (Fr.refl _ _).drew)
 replace F4:=zh (F4.out.ext (Fr.refl _ _).drew)
 replace F10:=zh (F10.out.ext (Fr.refl _ _).drew)
 replace F11:=zh (F11.out.ext (Fr.refl _ _).drew)
 replace F14:=zh (F14.out.ext (Fr.refl _ _).drew)
 replace F15:=zh (F15.out.ext (Fr.refl _ _).drew)
 replace HE:=zh (HE.out.trans (Fr.refl _ _).drew)
 generalize w12.drew=w20 at *
 have hS:=(⟨B5.out,B6.out,B7.out,B8.out⟩:(fun W'=>Blk 155 W' w.heap.size #[.bool s1, .slice A1 l1 c1]∧Blk 155 W' (w.heap.size + 1) #[.bool s3, .slice A3 l3 c3]∧Blk 155 W' (w.heap.size + 1 + 1) #[.bool false, .slice none 0 0]∧Blk 155 W' (w.heap.size + 1 + 1 + 1) #[.bool false, .slice none 0 0]) w20)
 refine ZcI 0 rfl (by kernel_rfl) (fun _ _ _ h=>h) hS (fun _=>ZfI (g:=w.heap.size) (off:=0) rfl rfl (by kernel_rfl)) (fun hS=>?_)
 refine ZcI 1 rfl (by kernel_rfl) (fun _ _ _ h=>h) hS (fun _=>Zjn (g:=w.heap.size) (off:=0) (x:=.bool s1) rfl rfl (by kernel_rfl) (fun _ h=>Blk.one' (h.1) 0 rfl)) (fun hS=>?_)
 refine ZcI 2 rfl (by kernel_rfl) (fun _ _ _ h=>h) hS (fun _=>ZfI (g:=(w.heap.size + 1)) (off:=0) rfl rfl (by kernel_rfl)) (fun hS=>?_)
 refine ZcI 3 rfl (by kernel_rfl) (fun _ _ _ h=>h) hS (fun _=>Zjn (g:=(w.heap.size + 1)) (off:=0) (x:=.bool s3) rfl rfl (by kernel_rfl) (fun _ h=>Blk.one' (h.2.1) 0 rfl)) (fun hS=>?_)
 refine ZcI 4 rfl (by kernel_rfl) (fun _ _ _ h=>h) hS (fun _=>Zpv (b:=s1) (c:=s3) rfl rfl (by kernel_rfl) (by kernel_rfl)) (fun hS=>?_)
 refine ZcI 5 rfl (by kernel_rfl) (fun _ _ _ h=>h) hS (fun _=>ym (v:=.slice Aq13 lq13 cq13) rfl rfl (by kernel_rfl)) (fun hS=>?_)
 refine ZcI 7 rfl (by kernel_rfl) (fun _ _ _ h=>h) hS (fun _=>ZfI (g:=w.heap.size) (off:=0) rfl rfl (by kernel_rfl)) (fun hS=>?_)
 refine ZcI 8 rfl (by kernel_rfl) (fun _ _ _ h=>h) hS (fun _=>Zjn (g:=w.heap.size) (off:=0) (x:=.bool s1) rfl rfl (by kernel_rfl) (fun _ h=>Blk.one' (h.1) 0 rfl)) (fun hS=>?_)
 refine ZcI 9 rfl (by kernel_rfl) (fun _ _ _ h=>h) hS (fun _=>ym (v:=.slice Ar13 lr13 cr13) rfl rfl (by kernel_rfl)) (fun hS=>?_)
 refine ZkM 6 rfl (by kernel_rfl) rfl (fun K hK=>?_)
 go_simp
 clear hS
 refine (ZdF ((s1 != s3)) _ _ _ F14.out).mono ?_
 rintro e w21 ⟨_,rfl,hI,hF⟩
 obtain ⟨s22,A22,l22,c22,rfl⟩:=hI.shp
 replace B5:=zh (B5.out.ext hF)
 replace B6:=zh (B6.out.ext hF)
 replace B7:=zh (B7.out.ext hF)
 replace B8:=zh (B8.out.ext hF)
 replace F2:=zh (F2.out.ext hF)
 replace F4:=zh (F4.out.ext hF)
 replace F10:=zh (F10.out.ext hF)
 replace F11:=zh (F11.out.ext hF)
 replace F14:=zh (F14.out.ext hF)
 replace F15:=zh (F15.out.ext hF)
 replace HE:=zh (HE.out.trans hF)
 have F23:Hid (Zak w21 (.agg #[.bool s22, .slice A22 l22 c22]) (sg ((s1 != s3)) (((x).natAbs) / ((y).natAbs)))):=hI
 clear hF hI
 have hS:=(⟨B5.out,B6.out,B7.out,B8.out⟩:(fun W'=>Blk 155 W' w.heap.size #[.bool s1, .slice A1 l1 c1]∧Blk 155 W' (w.heap.size + 1) #[.bool s3, .slice A3 l3 c3]∧Blk 155 W' (w.heap.size + 1 + 1) #[.bool false, .slice none 0 0]∧Blk 155 W' (w.heap.size + 1 + 1 + 1) #[.bool false, .slice none 0 0]) w21)
 refine hK _ _ hS ?_
 clear hK
 refine ZkM 10 rfl (by kernel_rfl) rfl (fun K hK=>?_)
 go_simp
 clear hS
 refine (ZdF (s1) _ _ _ F15.out).mono ?_
 rintro e w24 ⟨_,rfl,hI,hF⟩
 obtain ⟨s25,A25,l25,c25,rfl⟩:=hI.shp
 replace B5:=zh (B5.out.ext hF)
 replace B6:=zh (B6.out.ext hF)
 replace B7:=zh (B7.out.ext hF)
 replace B8:=zh (B8.out.ext hF)
 replace F2:=zh (F2.out.ext hF)
 replace F4:=zh (F4.out.ext hF)
 replace F10:=zh (F10.out.ext hF)
 replace F11:=zh (F11.out.ext hF)
 replace F14:=zh (F14.out.ext hF)
 replace F15:=zh (F15.out.ext hF)
 replace F23:=zh (F23.out.ext hF)
 replace HE:=zh (HE.out.trans hF)
 have F26:Hid (Zak w24 (.agg #[.bool s25, .slice A25 l25 c25]) (sg (s1) (((x).natAbs) % ((y).natAbs)))):=hI
 clear hF hI
 have hS:=(⟨B5.out,B6.out,B7.out,B8.out⟩:(fun W'=>Blk 155 W' w.heap.size #[.bool s1, .slice A1 l1 c1]∧Blk 155 W' (w.heap.size + 1) #[.bool s3, .slice A3 l3 c3]∧Blk 155 W' (w.heap.size + 1 + 1) #[.bool false, .slice none 0 0]∧Blk 155 W' (w.heap.size + 1 + 1 + 1) #[.bool false, .slice none 0 0]) w24)
 refine hK _ _ hS ?_
 clear hK
 refine Zpk (l:=[_,_]) 11 rfl (by kernel_rfl) ?_
 clear hS
 obtain ⟨c27_0,c27_1,f27_0,f27_1⟩:=B5.out.cell2
 obtain ⟨c28_0,c28_1,f28_0,f28_1⟩:=B6.out.cell2
 obtain ⟨c29_0,c29_1,f29_0,f29_1⟩:=B7.out.cell2
 obtain ⟨c30_0,c30_1,f30_0,f30_1⟩:=B8.out.cell2
 go_wp2
 clear c27_0 c27_1 f27_0 f27_1 c28_0 c28_1 f28_0 f28_1 c29_0 c29_1 f29_0 f29_1 c30_0 c30_1 f30_0 f30_1
 have hFs:Fr (fun i=>i=(w.heap.size + 1 + 1)) w24 ((w24.setCell ⟨(w.heap.size + 1 + 1),0,none⟩ (.bool s22)).setCell ⟨(w.heap.size + 1 + 1),1,none⟩ (.slice A22 l22 c22)):=(((Fr.refl (fun i=>i=(w.heap.size + 1 + 1)) _).setCell (p:=⟨(w.heap.size + 1 + 1),0,none⟩) (Or.inl rfl) _).setCell (p:=⟨(w.heap.size + 1 + 1),1,none⟩) (Or.inl rfl) _)
 replace F2:=zh (F2.out.oth B7.out Zbr hFs)
 replace F4:=zh (F4.out.oth B7.out Zbr hFs)
 replace F10:=zh (F10.out.oth B7.out Zbr hFs)
 replace F11:=zh (F11.out.oth B7.out Zbr hFs)
 replace F14:=zh (F14.out.oth B7.out Zbr hFs)
 replace F15:=zh (F15.out.oth B7.out Zbr hFs)
 replace F23:=zh (F23.out.oth B7.out Zbr hFs)
 replace F26:=zh (F26.out.oth B7.out Zbr hFs)
 replace B5:=zh (B5.out.fr hFs (by first | omega | (have:=B5.out.lt; have:=B7.out.lt; omega)))
 replace B6:=zh (B6.out.fr hFs (by first | omega | (have:=B6.out.lt; have:=B7.out.lt; omega)))
 replace B8:=zh (B8.out.fr hFs (by first | omega | (have:=B8.out.lt; have:=B7.out.lt; omega)))
 replace HE:=zh (HE.out.next hFs (fun i hi e=>by first | omega | (have:=HE.out.size; have:=B7.out.lt; omega)))
 have b_new:Blk 155 ((w24.setCell ⟨(w.heap.size + 1 + 1),0,none⟩ (.bool s22)).setCell ⟨(w.heap.size + 1 + 1),1,none⟩ (.slice A22 l22 c22)) (w.heap.size + 1 + 1) #[.bool s22, .slice A22 l22 c22]:=((B7.out.set_ 0 _).set_ 1 _)
 generalize ((w24.setCell ⟨(w.heap.size + 1 + 1),0,none⟩ (.bool s22)).setCell ⟨(w.heap.size + 1 + 1),1,none⟩ (.slice A22 l22 c22))=w31 at *
 replace B7:=zh b_new; clear b_new hFs
 have hFs:Fr (fun i=>i=(w.heap.size + 1 + 1 + 1)) w31 ((w31.setCell ⟨(w.heap.size + 1 + 1 + 1),0,none⟩ (.bool s25)).setCell ⟨(w.heap.size + 1 + 1 + 1),1,none⟩ (.slice A25 l25 c25)):=(((Fr.refl (fun i=>i=(w.heap.size + 1 + 1 + 1)) _).setCell (p:=⟨(w.heap.size + 1 + 1 + 1),0,none⟩) (Or.inl rfl) _).setCell (p:=⟨(w.heap.size + 1 + 1 + 1),1,none⟩) (Or.inl rfl) _)
 replace F2:=zh (F2.out.oth B8.out Zbr hFs)
 replace F4:=zh (F4.out.oth B8.out Zbr hFs)
 replace F10:=zh (F10.out.oth B8.out Zbr hFs)
 replace F11:=zh (F11.out.oth B8.out Zbr hFs)
 replace F14:=zh (F14.out.oth B8.out Zbr hFs)
 replace F15:=zh (F15.out.oth B8.out Zbr hFs)
 replace F23:=zh (F23.out.oth B8.out Zbr hFs)
 replace F26:=zh (F26.out.oth B8.out Zbr hFs)
 replace B5:=zh (B5.out.fr hFs (by first | omega | (have:=B5.out.lt; have:=B8.out.lt; omega)))
 replace B6:=zh (B6.out.fr hFs (by first | omega | (have:=B6.out.lt; have:=B8.out.lt; omega)))
 replace B7:=zh (B7.out.fr hFs (by first | omega | (have:=B7.out.lt; have:=B8.out.lt; omega)))
 replace HE:=zh (HE.out.next hFs (fun i hi e=>by first | omega | (have:=HE.out.size; have:=B8.out.lt; omega)))
 have b_new:Blk 155 ((w31.setCell ⟨(w.heap.size + 1 + 1 + 1),0,none⟩ (.bool s25)).setCell ⟨(w.heap.size + 1 + 1 + 1),1,none⟩ (.slice A25 l25 c25)) (w.heap.size + 1 + 1 + 1) #[.bool s25, .slice A25 l25 c25]:=((B8.out.set_ 0 _).set_ 1 _)
 generalize ((w31.setCell ⟨(w.heap.size + 1 + 1 + 1),0,none⟩ (.bool s25)).setCell ⟨(w.heap.size + 1 + 1 + 1),1,none⟩ (.slice A25 l25 c25))=w32 at *
 replace B8:=zh b_new; clear b_new hFs
 exact ZpI rfl rfl rfl B7.out B8.out (by rw [← HQ.out.1]; exact F23.out) (by rw [← HQ.out.2]; exact F26.out) HE.out
end Go.Proofs.YtcpjeaaapocoeaaGreatDoor

namespace Go.Proofs.YtcpjeaaapocoeaaGreatDoor
open Go.RowKit
def blen (n:Nat):Nat:=if n=0 then 0 else n.log2 + 1
theorem Zj1:blen 0=0:=rfl
theorem Zhg (n:Nat):n < 2 ^ blen n:=by
 unfold blen
 split
 ·rename_i h; subst h; decide
 ·rename_i h; exact (Nat.log2_lt h).1 (Nat.lt_succ_self _)
theorem ZdG {n k:Nat}:blen n≤k ↔ n < 2 ^ k:=by
 unfold blen
 split
 ·rename_i h; subst h; simp [Nat.pow_pos]
 ·rename_i h; rw [← Nat.log2_lt h]; omega
theorem Ze3 {n:Nat} (h:0 < n):blen n=blen (n / 2) + 1:=by
 have h1:blen (n / 2) + 1≤blen n:=by
  have:blen (n / 2)≤blen n - 1:=ZdG.2 (by
   have h2:=Zhg n
   have h3:0 < blen n:=by unfold blen; rw [if_neg (by omega)]; omega
   obtain ⟨k,hk⟩:∃ k,blen n=k + 1:=⟨blen n - 1,by omega⟩
   rw [hk] at h2 ⊢
   rw [Nat.pow_succ] at h2
   show n / 2 < 2 ^ (k + 1 - 1)
   rw [Nat.add_sub_cancel]
   omega)
  have h3:0 < blen n:=by unfold blen; rw [if_neg (by omega)]; omega
  omega
 have h2:blen n≤blen (n / 2) + 1:=ZdG.2 (by
  have:=Zhg (n / 2)
  rw [Nat.pow_succ]
  omega)
 omega
theorem Zb4 {n:Nat}:blen n=1 ↔ n=1:=by
 constructor
 ·intro h
  have h1:=Zhg n
  rw [h] at h1
  rcases Nat.eq_zero_or_pos n with e | e
  ·subst e; rw [Zj1] at h; omega
  ·omega
 ·rintro rfl; decide
theorem Zd9 {n:Nat}:1 < blen n ↔ 1 < n:=by
 rcases Nat.lt_or_ge 1 n with h | h
 ·have:¬ blen n≤1:=fun k=>by have:=ZdG.1 k; omega
  omega
 ·have:blen n≤1:=ZdG.2 (by omega)
  omega
theorem ZpJ {B k t low:Nat} (hl:low < 2 ^ (B * k)) (ht:0 < t):blen (low + 2 ^ (B * k) * t)=B * k + blen t:=by
 have h1:=Zhg t
 have h2:blen (low + 2 ^ (B * k) * t)≤B * k + blen t:=ZdG.2 (by
  rw [Nat.pow_add]
  have:2 ^ (B * k) * (t + 1)≤2 ^ (B * k) * 2 ^ blen t:=Nat.mul_le_mul_left _ h1
  rw [Nat.mul_add] at this
  omega)
 have h3:¬ blen (low + 2 ^ (B * k) * t)≤B * k + blen t - 1:=fun h=>by
  have h4:=ZdG.1 h
  obtain ⟨j,hj⟩:∃ j,blen t=j + 1:=⟨blen t - 1,by have:=Ze3 ht; omega⟩
  rw [hj,show B * k + (j + 1) - 1=B * k + j by omega,Nat.pow_add] at h4
  have h5:2 ^ j≤t:=by
   rcases Nat.lt_or_ge t (2 ^ j) with h | h
   ·have:=ZdG.2 h; omega
   ·exact h
  have:2 ^ (B * k) * 2 ^ j≤2 ^ (B * k) * t:=Nat.mul_le_mul_left _ h5
  omega
 have:0 < blen t:=by have:=Ze3 ht; omega
 omega
set_option maxHeartbeats 1000000 in
theorem ZdH (a:Value) (x:Int) (w:World) (ha:Zak w a x) (hx:ZaZ x):Calls Tryz.prog 273 #[a] w (RetV w (.int .i64 (blen x.natAbs:Int))):=by
 obtain ⟨s,A,l,c,rfl⟩:=ha.shp
 have h1:=ha.mag
 have h0:=ha.len0
 obtain ⟨A',xs,c',he,hc,hX,hd,ht,hv⟩:=h1
 injection he with e1 e2 e3
 subst e1 e2 e3
 unfold ZaZ at hx
 rw [← hv,← ZbI hd ht] at hx
 rw [← hv]
 clear ha h0 hv
 rcases Nat.eq_zero_or_pos xs.length with hl | hl
 ·obtain rfl:xs=[]:=List.length_eq_zero_iff.1 hl
  go_enter Tryz.func273,Tryz.ntmps273
  go_wp2
  go_ret
  exact ⟨rfl,(Fr.refl _ _).alloc _⟩
 ·obtain ⟨k,hk⟩:∃ k,xs.length=k + 1:=⟨xs.length - 1,by omega⟩
  obtain ⟨b,off,rfl,hb,hct⟩:=hX.at (i:=k) (by omega)
  obtain ⟨t,et⟩:∃ t,xs[k]?.getD 0=t:=⟨_,rfl⟩
  rw [et] at hct
  have ht0:0 < t:=by have:=ht k hk; omega
  have EV:val W32 xs=val W32 (xs.take k) + W32 ^ k * t:=by
   have:=Zal (B:=W32) (xs:=xs) k (by omega)
   rw [List.take_of_length_le (by omega),et] at this
   exact this
  have hlow:=ZaX (hd.take k)
  rw [List.length_take,Nat.min_eq_left (by omega),Zg7] at hlow
  have HB:Hid (blen (val W32 xs)=32 * k + blen t):=by
   unfold Hid
   rw [EV,Zg7]
   exact ZpJ hlow ht0
  have htW:t < W32:=et ▸ hd.getD Zao k
  have hbt:blen t≤32:=ZdG.2 (by rw [Zap] at htW; exact htW)
  obtain ⟨r,er⟩:∃ r,blen (val W32 xs)=r:=⟨_,rfl⟩
  rw [er] at HB ⊢
  have hne:b≠w.heap.size:=Nat.ne_of_lt hb
  rw [hk]
  clear hX hd ht EV hlow et er htW hc hl
  have g0:(((k:Int) + 1) == 0)=false:=by simp; omega
  go_enter Tryz.func273,Tryz.ntmps273
  go_wp2
  go_loop [3,4] (fun nv tv=>∃ n t':Nat,nv=.int .i64 (n:Int)∧tv=.int .u32 (t':Int)∧Hid (n + blen t'=r)∧n≤32 * k + 32) (fun _ tv=>(intOf tv).toNat)
  case atStart=>exact ⟨32 * k,t,by go_num,rfl,by have:=HB.out; unfold Hid; omega,by omega⟩
  case round =>
   obtain ⟨n,t',rfl,rfl,hR,hn⟩:=hrel
   by_cases hz:0 < t'
   ·have hR2:Hid (n + 1 + blen (t' / 2)=r):=by have h1:=hR.out; rw [Ze3 hz] at h1; unfold Hid; omega
    have hle:n + 1≤32 * k + 32:=by
     have h1:=hR.out; have h2:=HB.out; rw [Ze3 hz] at h1; omega
    have q1:(t':Int) / 2=((t' / 2:Nat):Int):=rfl
    have hlt:t' / 2 < t':=by omega
    obtain ⟨t2,et2⟩:∃ t2,t' / 2=t2:=⟨_,rfl⟩
    rw [et2] at hR2 q1 hlt
    clear et2
    go_wp2
    go_round
    case rel=>exact ⟨n + 1,t2,by go_num,rfl,hR2,hle⟩
    case measure=>simp [intOf]; omega
   ·obtain rfl:t'=0:=by omega
    have hR2:Hid (n=r):=by have h1:=hR.out; rw [Zj1] at h1; exact h1
    go_wp2
    go_ret
    exact ⟨by rw [hR2.out]; rfl,(Fr.refl _ _).alloc _⟩
theorem Zam.inj {w:World} {v:Value} {m n:Nat} (h:Zam w v m) (k:Zam w v n):m=n:=by
 obtain ⟨A,xs,c,rfl,_,hX,_,_,rfl⟩:=h
 obtain ⟨A',ys,c',he,_,hY,_,_,rfl⟩:=k
 injection he with e1 e2 e3
 subst e1
 have:xs=ys:=by
  apply List.ext_getElem e2
  intro i h1 h2
  obtain ⟨b,o,rfl,_,c1⟩:=hX.at h1
  obtain ⟨b',o',e',_,c2⟩:=hY.at h2
  injection e' with e'
  injection e' with e3 e4
  subst e3 e4
  rw [c1] at c2
  injection c2 with c2
  injection c2 with _ c2
  rw [List.getElem?_eq_getElem h1,List.getElem?_eq_getElem h2] at c2
  simp only [Option.getD_some] at c2
  omega
 rw [this]
open Classical in
noncomputable def ZgE (w:World) (v:Value):Nat:=if h:∃ n,Zam w v n then Classical.choose h else 0
theorem Zj2 {w:World} {v:Value} {n:Nat} (h:Zam w v n):ZgE w v=n:=by
 have hx:∃ n,Zam w v n:=⟨n,h⟩
 unfold ZgE
 rw [dif_pos hx]
 exact (Classical.choose_spec hx).inj h
theorem Zam.len_zero {w:World} {A:Option Addr} {l c n:Nat} (h:Zam w (.slice A l c) n):(n=0 ↔ l=0)∧l=ml n:=by
 obtain ⟨A',xs,c',he,_,_,hd,ht,hv⟩:=h
 injection he with _ he
 have hl:=ZbI hd ht
 rw [hv] at hl
 refine ⟨⟨fun e=>?_,fun e=>?_⟩,by omega⟩
 ·rw [e,Zjb] at hl; omega
 ·rw [e] at he
  have:xs=[]:=List.length_eq_zero_iff.1 he.symm
  rw [this] at hv
  simpa using hv.symm
set_option maxHeartbeats 1000000 in
theorem Zlb (a b:Value) (x y:Int) (w:World) (ha:Zak w a x) (hb:Zak w b y) (hx:ZaZ x) (hy:ZaZ y):Calls Tryz.prog 272 #[a,b] w (Zgs w (Int.gcd x y:Int)):=by
 obtain ⟨s,A,l,c,rfl⟩:=ha.shp
 obtain ⟨t,B,m,d,rfl⟩:=hb.shp
 have HM:=zh ha.mag
 have HN:=zh hb.mag
 have HX:Hid (ml x.natAbs≤17592186044416):=hx
 have HY:Hid (ml y.natAbs≤17592186044416):=hy
 obtain ⟨r,er⟩:∃ r,Int.gcd x y=r:=⟨_,rfl⟩
 have HR:Hid (Nat.gcd x.natAbs y.natAbs=r):=er
 rw [er]
 clear ha hb hx hy er
 go_enter Tryz.func272,Tryz.ntmps272
 go_wp2_with fail
 generalize hwb:World.alloc (World.alloc (World.alloc w _) _) _=w1
 obtain ⟨b0,b1,b2,hE0⟩:=Zjm hwb
 clear hwb
 have HB2:=zh b2
 have HE:=zh hE0
 replace HM:=zh (HM.out.ext hE0)
 replace HN:=zh (HN.out.ext hE0)
 obtain ⟨c0,c1,f0,f1⟩:=b0.cell2
 obtain ⟨c2,c3,f2,f3⟩:=b1.cell2
 clear b0 b1 b2 hE0
 go_quiet (fail)
 clear c0 c1 f0 f1 c2 c3 f2 f3
 go_wp2_with fail
 go_loopw [5,6,7,8] (fun xv yv _ _ wr=>∃ (u v:Nat) (A' B':Option Addr) (l' c' m' d':Nat),xv=.slice A' l' c'∧yv=.slice B' m' d'∧Hid (Zam wr (.slice A' l' c') u)∧Hid (Zam wr (.slice B' m' d') v)∧Hid (ml u≤17592186044416)∧Hid (ml v≤17592186044416)∧Hid (Nat.gcd u v=r)∧Hid (Ext w1 wr)) (fun _ yv _ _ wr=>ZgE wr yv)
 case atStart=>exact ⟨_,_,_,_,_,_,_,_,rfl,rfl,HM.out.ext ((Fr.refl _ _).drewN _),HN.out.ext ((Fr.refl _ _).drewN _),HX,HY,HR,(Fr.refl _ _).drewN _⟩
 case round =>
  obtain ⟨u,v,A',B',l',c',m',d',rfl,rfl,hU,hV,hu,hv,hG,hF⟩:=hrel
  obtain ⟨z1,z2⟩:=hV.out.len_zero
  have hm':m'≤17592186044416:=by have:=hv.out; omega
  by_cases hm:m'=0
  ·subst hm
   have hv0:v=0:=z1.2 rfl
   have HG:Hid (u=r):=by have:=hG.out; rw [hv0,Nat.gcd_zero_right] at this; exact this
   have HB:=zh (HB2.out.ext hF.out)
   have HEE:=zh (HE.out.trans hF.out)
   clear z1 z2 hv0
   go_wp2_with fail
   refine (ZdF false _ u _ hU.out).mono ?_
   rintro e w2 ⟨_,rfl,hI,hF2⟩
   obtain ⟨s2,A2,l2,c2,rfl⟩:=hI.shp
   have HI:=zh hI
   have HB':=zh (HB.out.ext hF2)
   have HE':=zh (HEE.out.trans hF2)
   obtain ⟨k0,k1,k2,k3⟩:=HB'.out.cell2
   clear hI hF2
   go_wp2
   have hFs:Fr (fun i=>i=(w.heap.size + 1 + 1)) w2 ((w2.setCell ⟨w.heap.size + 1 + 1,0,none⟩ (.bool s2)).setCell ⟨w.heap.size + 1 + 1,1,none⟩ (.slice A2 l2 c2)):=((Fr.refl (fun i=>i=(w.heap.size + 1 + 1)) _).setCell (p:=⟨w.heap.size + 1 + 1,0,none⟩) (Or.inl rfl) _).setCell (p:=⟨w.heap.size + 1 + 1,1,none⟩) (Or.inl rfl) _
   exact ZmE rfl rfl ((HB'.out.set_ 0 _).set_ 1 _) (by rw [← HG.out]; exact HI.out.oth HB'.out Zbr hFs) (HE'.out.next hFs (fun i hi e=>by omega))
  ·have hm0:0 < m':=by omega
   have hv0:0 < v:=by rcases Nat.eq_zero_or_pos v with e | e; · exact absurd (z1.1 e) hm
                      ·exact e
   have HG:Hid (Nat.gcd v (u % v)=r):=by have:=hG.out; rw [Nat.gcd_comm,Nat.gcd_rec,Nat.gcd_comm] at this; exact this
   have hml:=zh (Nat.le_trans (Zfr (Nat.le_of_lt (Nat.mod_lt u hv0))) hv.out)
   have hlt:=zh (Nat.mod_lt u hv0)
   have HC:=zh (ZiN _ _ u v wr hU.out hV.out hu.out hv.out hv0)
   clear z1 z2 hv0 hm hG
   go_wp2_with fail
   refine HC.out.mono ?_
   rintro e w2 ⟨_,_,rfl,hq,hr,hF2⟩
   obtain ⟨A2,l2,c2,rfl⟩:=hq.slice
   obtain ⟨A3,l3,c3,rfl⟩:=hr.slice
   have HQr:=zh hr
   have HV2:=zh (hV.out.ext hF2)
   have HF2:=zh (hF.out.trans hF2)
   have hme:Hid (ZgE wr (.slice B' m' d')=v):=Zj2 hV.out
   have hme2:Hid (ZgE w2 (.slice A3 l3 c3)=u % v):=Zj2 hr
   clear hq hr hF2 HC
   go_wp2
   go_roundw
   case rel=>exact ⟨v,u % v,_,_,_,_,_,_,rfl,rfl,HV2,HQr,hv,hml,HG,HF2⟩
   case measure=>rw [hme.out,hme2.out]; exact hlt.out
end Go.Proofs.YtcpjeaaapocoeaaGreatDoor

namespace Go.Proofs.YtcpjeaaapocoeaaGreatDoor
open Go.RowKit
theorem ZaZ.le {x y:Int} (h:ZaZ x) (hl:y.natAbs≤x.natAbs):ZaZ y:=Nat.le_trans (Zfr hl) h
theorem ZaZ.gcd {x y:Int} (h:ZaZ y) (h0:y≠0):ZaZ (Int.gcd x y:Int):=h.le (by
 have:Int.gcd x y≤y.natAbs:=Nat.gcd_le_right _ (by omega)
 omega)
theorem ZaZ.tdiv {x y:Int} (h:ZaZ x):ZaZ (x.tdiv y):=h.le (by rw [Int.natAbs_tdiv]; exact Nat.div_le_self _ _)
theorem ZfQ {x y:Int} (h:0 < y):0 < Int.gcd x y:=by
 rcases Nat.eq_zero_or_pos (Int.gcd x y) with e | e
 ·have:=(Int.gcd_eq_zero_iff.1 e).2; omega
 ·exact e
theorem Ze4 {w w':World} {e:Ending} {a b:Int} (h:Zjq w a b e w'):Zbh Zgy (fun x w=>Zak w (Zbz x.1) a∧Zak w (Zbz x.2) b) w e w':=by
 obtain ⟨u,v,rfl,hI,hJ,Q⟩:=h
 obtain ⟨s,A,l,c,rfl⟩:=hI.shp
 obtain ⟨s',A',l',c',rfl⟩:=hJ.shp
 exact ⟨((s,A,l,c),(s',A',l',c')),rfl,Q,boxn Q (fun S w'' hS hF=>⟨hI.nrb hS hF,hJ.nrb hS hF⟩)⟩
theorem Zj3 {x y:Int} {q:Rat} (hq:Rat.divInt x y=q) (hy:0 < y) (_:1 < ((Int.gcd x y:Nat):Int).natAbs):q.num=x.tdiv ((Int.gcd x y:Nat):Int)∧(q.den:Int)=y.tdiv ((Int.gcd x y:Nat):Int):=by
 rw [← hq]; exact Zk8 hy
theorem Zj4 {x y:Int} {q:Rat} (hq:Rat.divInt x y=q) (hy:0 < y) (h:¬ 1 < ((Int.gcd x y:Nat):Int).natAbs):q.num=x∧(q.den:Int)=y:=by
 have h1:=ZfQ (x:=x) hy
 rw [← hq]; exact ZgC hy (by omega)
theorem Zea {n:Nat} (h:(((n:Nat):Int) == 1)=true):n=1:=by have:=eq_of_beq h; omega
theorem Zeb {n:Nat} (h:(((n:Nat):Int) == 1)=false):n≠1:=fun e=>by subst e; cases h
theorem Zou (a b:Value) (x y:Int) (q:Rat) (w:World) (ha:Zak w a x) (hb:Zak w b y) (hx:ZaZ x) (hy:ZaZ y) (h0:y < 0) (hq:Rat.divInt x y=q) :
 Calls Tryz.prog 173 #[a,b] w (Zhc w q):=by
 obtain ⟨s0,A0,l0,c0,rfl⟩:=ha.shp
 obtain ⟨s1,A1,l1,c1,rfl⟩:=hb.shp
 obtain rfl:s1=true:=hb.sneg h0
 have HFx:ZaZ (-(x)):=hx.neg
 have HFy:ZaZ (-(y)):=hy.neg
 have HY:0 < -(y):=by omega
 have HFg:ZaZ ((Int.gcd (-(x)) (-(y)):Nat):Int):=ZaZ.gcd HFy (by omega)
 have HG0:((Int.gcd (-(x)) (-(y)):Nat):Int)≠0:=by have:=ZfQ (x := -(x)) HY; omega
 have Hq:Rat.divInt (-(x)) (-(y))=q:=by rw [Rat.neg_divInt_neg]; exact hq
 refine Za6 (Φ:=fun w=>(Zak w (.agg #[.bool s0, .slice A0 l0 c0]) (x)∧Zak w (.agg #[.bool true, .slice A1 l1 c1]) (y))) Tryz.func173 rfl (by kernel_rfl) (fun w' hf=>⟨ha.ext hf,hb.ext hf⟩) ?_
 refine Zac (Zab (xr 3 [(2, .p 2 0),(3, .p 3 0),(4, .p 4 0)] [bR4 4 157 false none 0 0 false none 0 0,bI2 3 155 true A1 l1 c1,bI2 2 155 s0 A0 l0 c0] ?_))
 refine xe (Zaa (Zac (Zac (Zab (xr 2 [(2, .p 2 0),(3, .p 3 0),(4, .p 4 0),(7, .v (.bool true))] [bR4 4 157 false none 0 0 false none 0 0,bI2 3 155 true A1 l1 c1,bI2 2 155 s0 A0 l0 c0] ?_)))))
 refine xe (Zaa (xa ?_))
 refine ZbJ 6 (by kernel_rfl) (by kernel_rfl) Zas ?_
 refine xf 1 [(2, .p 2 0),(3, .p 3 0),(4, .p 4 0),eI2 8 s0 A0 l0 c0] [bR4 4 157 false none 0 0 false none 0 0,bI2 3 155 true A1 l1 c1,bI2 2 155 s0 A0 l0 c0] ?_
 refine xd 257 [vI2 s0 A0 l0 c0] 9 Zbz _ (fun w R Q=>(Zla _ (x) _ Q.1).mono (fun _ _=>ZeL)) (fun xx=>?_)
 obtain ⟨s10,A10,l10,c10⟩:=xx
 refine xf 1 [(2, .p 2 0),(3, .p 3 0),(4, .p 4 0),eI2 9 s10 A10 l10 c10,eI2 10 true A1 l1 c1] [bR4 4 157 false none 0 0 false none 0 0,bI2 3 155 true A1 l1 c1,bI2 2 155 s0 A0 l0 c0] ?_
 refine xd 257 [vI2 true A1 l1 c1] 11 Zbz _ (fun w R Q=>(Zla _ (y) _ Q.1.2).mono (fun _ _=>ZeL)) (fun xx=>?_)
 obtain ⟨s11,A11,l11,c11⟩:=xx
 refine xf 2 [(2, .p 2 0),(3, .p 3 0),(4, .p 4 0)] [bI2 3 155 s11 A11 l11 c11,bI2 2 155 s10 A10 l10 c10,bR4 4 157 false none 0 0 false none 0 0,bI2 3 155 true A1 l1 c1,bI2 2 155 s0 A0 l0 c0] ?_
 refine xz (xe (Zaa (Zac (Zab (xr 2 [(2, .p 2 0),(3, .p 3 0),(4, .p 4 0),eI2 12 s10 A10 l10 c10,eI2 13 s11 A11 l11 c11] [bI2 3 155 s11 A11 l11 c11,bI2 2 155 s10 A10 l10 c10,bR4 4 157 false none 0 0 false none 0 0] ?_)))))
 refine xc 272 [vI2 s10 A10 l10 c10,vI2 s11 A11 l11 c11] 14 Zbz _ (fun w R Q=>(Zlb _ _ (-(x)) (-(y)) _ Q.1.2 Q.2 HFx HFy).mono (fun _ _=>ZeL)) (fun xx=>?_)
 obtain ⟨s12,A12,l12,c12⟩:=xx
 refine xr 2 [(2, .p 2 0),(3, .p 3 0),(4, .p 4 0),(5, .p 5 0)] [bI2 5 155 s12 A12 l12 c12,bI2 3 155 s11 A11 l11 c11,bI2 2 155 s10 A10 l10 c10,bR4 4 157 false none 0 0 false none 0 0] ?_
 refine xe (Zaa (Zac (Zac (Zab (xr 1 [(2, .p 2 0),(3, .p 3 0),(4, .p 4 0),(5, .p 5 0),eI2 15 s12 A12 l12 c12] [bI2 5 155 s12 A12 l12 c12,bI2 3 155 s11 A11 l11 c11,bI2 2 155 s10 A10 l10 c10,bR4 4 157 false none 0 0 false none 0 0] ?_)))))
 refine xc 273 [vI2 s12 A12 l12 c12] 16 (fun _:Unit=>.int .i64 ((blen (((Int.gcd (-(x)) (-(y)):Nat):Int)).natAbs:Nat):Int)) _ (fun w R Q=>(ZdH _ (((Int.gcd (-(x)) (-(y)):Nat):Int)) _ Q.2 HFg).mono (fun _ _ h=>Zay h rfl)) (fun xx=>?_)
 refine xr 1 [(2, .p 2 0),(3, .p 3 0),(4, .p 4 0),(5, .p 5 0),(17, .v (.bool (decide (((blen (((Int.gcd (-(x)) (-(y)):Nat):Int)).natAbs:Nat):Int) > 1))))] [bI2 5 155 s12 A12 l12 c12,bI2 3 155 s11 A11 l11 c11,bI2 2 155 s10 A10 l10 c10,bR4 4 157 false none 0 0 false none 0 0] ?_
 refine xe (Zaa ?_)
 refine Zbc ((decide (((blen (((Int.gcd (-(x)) (-(y)):Nat):Int)).natAbs:Nat):Int) > 1))) (by kernel_rfl) (fun hb13=>?_) (fun hb13=>?_)
 ·have HQ:=Zj3 Hq HY (Zd9.1 (by have:=of_decide_eq_true hb13; omega))
  refine Zac (Zab (xr 2 [(2, .p 2 0),(3, .p 3 0),(4, .p 4 0),(5, .p 5 0),eI2 19 s10 A10 l10 c10,eI2 20 s12 A12 l12 c12] [bI2 5 155 s12 A12 l12 c12,bI2 3 155 s11 A11 l11 c11,bI2 2 155 s10 A10 l10 c10,bR4 4 157 false none 0 0 false none 0 0] ?_))
  refine xc 274 [vI2 s10 A10 l10 c10,vI2 s12 A12 l12 c12] 21 Zgy _ (fun w R Q=>(Zd8 _ _ (-(x)) (((Int.gcd (-(x)) (-(y)):Nat):Int)) _ Q.1.1.1.2 Q.1.2 HFx HFg HG0).mono (fun _ _=>Ze4)) (fun xx=>?_)
  obtain ⟨⟨s14,A14,l14,c14⟩,⟨s15,A15,l15,c15⟩⟩:=xx
  refine xr 4 [(2, .p 2 0),(3, .p 3 0),(4, .p 4 0),(5, .p 5 0)] [bI2 5 155 s12 A12 l12 c12,bI2 3 155 s11 A11 l11 c11,bI2 2 155 s14 A14 l14 c14,bR4 4 157 false none 0 0 false none 0 0] ?_
  refine xe (Zaa (Zab (xr 2 [(2, .p 2 0),(3, .p 3 0),(4, .p 4 0),eI2 25 s11 A11 l11 c11,eI2 26 s12 A12 l12 c12] [bI2 3 155 s11 A11 l11 c11,bI2 2 155 s14 A14 l14 c14,bR4 4 157 false none 0 0 false none 0 0] ?_)))
  refine xc 274 [vI2 s11 A11 l11 c11,vI2 s12 A12 l12 c12] 27 Zgy _ (fun w R Q=>(Zd8 _ _ (-(y)) (((Int.gcd (-(x)) (-(y)):Nat):Int)) _ Q.1.1.1.2 Q.1.1.2 HFy HFg HG0).mono (fun _ _=>Ze4)) (fun xx=>?_)
  obtain ⟨⟨s16,A16,l16,c16⟩,⟨s17,A17,l17,c17⟩⟩:=xx
  refine xr 4 [(2, .p 2 0),(3, .p 3 0),(4, .p 4 0)] [bI2 3 155 s16 A16 l16 c16,bI2 2 155 s14 A14 l14 c14,bR4 4 157 false none 0 0 false none 0 0] ?_
  refine xe (Zaa (Zac (Zac (Zab (xr 1 [(2, .p 2 0),(3, .p 3 0),(4, .p 4 0),eI2 30 s16 A16 l16 c16] [bI2 3 155 s16 A16 l16 c16,bI2 2 155 s14 A14 l14 c14,bR4 4 157 false none 0 0 false none 0 0] ?_)))))
  refine xc 273 [vI2 s16 A16 l16 c16] 31 (fun _:Unit=>.int .i64 ((blen ((-(y)).tdiv (((Int.gcd (-(x)) (-(y)):Nat):Int))).natAbs:Nat):Int)) _ (fun w R Q=>(ZdH _ ((-(y)).tdiv (((Int.gcd (-(x)) (-(y)):Nat):Int))) _ Q.2.1 (ZaZ.tdiv HFy)).mono (fun _ _ h=>Zay h rfl)) (fun xx=>?_)
  refine xr 1 [(2, .p 2 0),(3, .p 3 0),(4, .p 4 0),(32, .v (.bool ((((blen ((-(y)).tdiv (((Int.gcd (-(x)) (-(y)):Nat):Int))).natAbs:Nat):Int):Int) == 1)))] [bI2 3 155 s16 A16 l16 c16,bI2 2 155 s14 A14 l14 c14,bR4 4 157 false none 0 0 false none 0 0] ?_
  refine xe (Zaa ?_)
  refine Zbc (((((blen ((-(y)).tdiv (((Int.gcd (-(x)) (-(y)):Nat):Int))).natAbs:Nat):Int):Int) == 1)) (by kernel_rfl) (fun hb18=>?_) (fun hb18=>?_)
  ·have hdhb18:=Zb4.1 (Zea hb18)
   refine Zab (xr 2 [(2, .p 2 0),(3, .p 3 0),(4, .p 4 0)] [bI2 3 155 false none 0 0,bI2 2 155 s14 A14 l14 c14,bR4 4 157 false none 0 0 false none 0 0] ?_)
   refine xe (Zaa (Zac (Zab (xr 4 [(4, .p 4 0)] [bR4 4 157 s14 A14 l14 c14 false none 0 0] ?_))))
   refine xe (Zaa (Zau ?_))
   refine Zai (v:=.agg #[.bool s14, .slice A14 l14 c14, .bool false, .slice none 0 0]) (by kernel_rfl) (fun w' R Q=>?_)
   exact ⟨_,rfl,ZaE.of (by rw [HQ.1]; exact Q.1.1.2.1) (by rw [Zdy (by have:=hdhb18; have:=HQ.2; have:=q.den_nz; omega)]; exact (Zak.nil _)),R⟩
  ·have hdhb18:=fun h=>Zeb hb18 (Zb4.2 h)
   refine Zav (Zaa (Zac (Zab (xr 4 [(4, .p 4 0)] [bR4 4 157 s14 A14 l14 c14 s16 A16 l16 c16] ?_))))
   refine xe (Zaa (Zau ?_))
   refine Zai (v:=.agg #[.bool s14, .slice A14 l14 c14, .bool s16, .slice A16 l16 c16]) (by kernel_rfl) (fun w' R Q=>?_)
   exact ⟨_,rfl,ZaE.of (by rw [HQ.1]; exact Q.1.1.2.1) (by rw [ZcM (fun h=>hdhb18 (by have:=HQ.2; omega)),HQ.2]; exact Q.1.2.1),R⟩
 ·have HQ:=Zj4 Hq HY (fun h=>absurd (Zd9.2 h) (by have:=of_decide_eq_false hb13; omega))
  refine Zav (Zaa (Zac (Zac (Zab (xr 1 [(2, .p 2 0),(3, .p 3 0),(4, .p 4 0),eI2 30 s11 A11 l11 c11] [bI2 3 155 s11 A11 l11 c11,bI2 2 155 s10 A10 l10 c10,bR4 4 157 false none 0 0 false none 0 0] ?_)))))
  refine xc 273 [vI2 s11 A11 l11 c11] 31 (fun _:Unit=>.int .i64 ((blen (-(y)).natAbs:Nat):Int)) _ (fun w R Q=>(ZdH _ (-(y)) _ Q.1.1.2 HFy).mono (fun _ _ h=>Zay h rfl)) (fun xx=>?_)
  refine xr 1 [(2, .p 2 0),(3, .p 3 0),(4, .p 4 0),(32, .v (.bool ((((blen (-(y)).natAbs:Nat):Int):Int) == 1)))] [bI2 3 155 s11 A11 l11 c11,bI2 2 155 s10 A10 l10 c10,bR4 4 157 false none 0 0 false none 0 0] ?_
  refine xe (Zaa ?_)
  refine Zbc (((((blen (-(y)).natAbs:Nat):Int):Int) == 1)) (by kernel_rfl) (fun hb19=>?_) (fun hb19=>?_)
  ·have hdhb19:=Zb4.1 (Zea hb19)
   refine Zab (xr 2 [(2, .p 2 0),(3, .p 3 0),(4, .p 4 0)] [bI2 3 155 false none 0 0,bI2 2 155 s10 A10 l10 c10,bR4 4 157 false none 0 0 false none 0 0] ?_)
   refine xe (Zaa (Zac (Zab (xr 4 [(4, .p 4 0)] [bR4 4 157 s10 A10 l10 c10 false none 0 0] ?_))))
   refine xe (Zaa (Zau ?_))
   refine Zai (v:=.agg #[.bool s10, .slice A10 l10 c10, .bool false, .slice none 0 0]) (by kernel_rfl) (fun w' R Q=>?_)
   exact ⟨_,rfl,ZaE.of (by rw [HQ.1]; exact Q.1.1.1.1.2) (by rw [Zdy (by have:=hdhb19; have:=HQ.2; have:=q.den_nz; omega)]; exact (Zak.nil _)),R⟩
  ·have hdhb19:=fun h=>Zeb hb19 (Zb4.2 h)
   refine Zav (Zaa (Zac (Zab (xr 4 [(4, .p 4 0)] [bR4 4 157 s10 A10 l10 c10 s11 A11 l11 c11] ?_))))
   refine xe (Zaa (Zau ?_))
   refine Zai (v:=.agg #[.bool s10, .slice A10 l10 c10, .bool s11, .slice A11 l11 c11]) (by kernel_rfl) (fun w' R Q=>?_)
   exact ⟨_,rfl,ZaE.of (by rw [HQ.1]; exact Q.1.1.1.1.2) (by rw [ZcM (fun h=>hdhb19 (by have:=HQ.2; omega)),HQ.2]; exact Q.1.1.1.2),R⟩
theorem Zov (a b:Value) (x y:Int) (q:Rat) (w:World) (ha:Zak w a x) (hb:Zak w b y) (hx:ZaZ x) (hy:ZaZ y) (h0:0 < y) (hq:Rat.divInt x y=q) :
 Calls Tryz.prog 173 #[a,b] w (Zhc w q):=by
 obtain ⟨s0,A0,l0,c0,rfl⟩:=ha.shp
 obtain ⟨s1,A1,l1,c1,rfl⟩:=hb.shp
 obtain rfl:s1=false:=hb.spos (by omega)
 have HFx:ZaZ (x):=hx
 have HFy:ZaZ (y):=hy
 have HY:0 < y:=by omega
 have HFg:ZaZ ((Int.gcd (x) (y):Nat):Int):=ZaZ.gcd HFy (by omega)
 have HG0:((Int.gcd (x) (y):Nat):Int)≠0:=by have:=ZfQ (x:=x) HY; omega
 have Hq:Rat.divInt (x) (y)=q:=hq
 refine Za6 (Φ:=fun w=>(Zak w (.agg #[.bool s0, .slice A0 l0 c0]) (x)∧Zak w (.agg #[.bool false, .slice A1 l1 c1]) (y))) Tryz.func173 rfl (by kernel_rfl) (fun w' hf=>⟨ha.ext hf,hb.ext hf⟩) ?_
 refine Zac (Zab (xr 3 [(2, .p 2 0),(3, .p 3 0),(4, .p 4 0)] [bR4 4 157 false none 0 0 false none 0 0,bI2 3 155 false A1 l1 c1,bI2 2 155 s0 A0 l0 c0] ?_))
 refine xe (Zaa (Zac (Zac (Zab (xr 2 [(2, .p 2 0),(3, .p 3 0),(4, .p 4 0),(7, .v (.bool false))] [bR4 4 157 false none 0 0 false none 0 0,bI2 3 155 false A1 l1 c1,bI2 2 155 s0 A0 l0 c0] ?_)))))
 refine xe (Zaa (xb (Zav (Zaa (Zac (Zab (xr 2 [(2, .p 2 0),(3, .p 3 0),(4, .p 4 0),eI2 12 s0 A0 l0 c0,eI2 13 false A1 l1 c1] [bR4 4 157 false none 0 0 false none 0 0,bI2 3 155 false A1 l1 c1,bI2 2 155 s0 A0 l0 c0] ?_)))))))
 refine xc 272 [vI2 s0 A0 l0 c0,vI2 false A1 l1 c1] 14 Zbz _ (fun w R Q=>(Zlb _ _ (x) (y) _ Q.1 Q.2 HFx HFy).mono (fun _ _=>ZeL)) (fun xx=>?_)
 obtain ⟨s10,A10,l10,c10⟩:=xx
 refine xr 2 [(2, .p 2 0),(3, .p 3 0),(4, .p 4 0),(5, .p 5 0)] [bI2 5 155 s10 A10 l10 c10,bR4 4 157 false none 0 0 false none 0 0,bI2 3 155 false A1 l1 c1,bI2 2 155 s0 A0 l0 c0] ?_
 refine xe (Zaa (Zac (Zac (Zab (xr 1 [(2, .p 2 0),(3, .p 3 0),(4, .p 4 0),(5, .p 5 0),eI2 15 s10 A10 l10 c10] [bI2 5 155 s10 A10 l10 c10,bR4 4 157 false none 0 0 false none 0 0,bI2 3 155 false A1 l1 c1,bI2 2 155 s0 A0 l0 c0] ?_)))))
 refine xc 273 [vI2 s10 A10 l10 c10] 16 (fun _:Unit=>.int .i64 ((blen (((Int.gcd (x) (y):Nat):Int)).natAbs:Nat):Int)) _ (fun w R Q=>(ZdH _ (((Int.gcd (x) (y):Nat):Int)) _ Q.2 HFg).mono (fun _ _ h=>Zay h rfl)) (fun xx=>?_)
 refine xr 1 [(2, .p 2 0),(3, .p 3 0),(4, .p 4 0),(5, .p 5 0),(17, .v (.bool (decide (((blen (((Int.gcd (x) (y):Nat):Int)).natAbs:Nat):Int) > 1))))] [bI2 5 155 s10 A10 l10 c10,bR4 4 157 false none 0 0 false none 0 0,bI2 3 155 false A1 l1 c1,bI2 2 155 s0 A0 l0 c0] ?_
 refine xe (Zaa ?_)
 refine Zbc ((decide (((blen (((Int.gcd (x) (y):Nat):Int)).natAbs:Nat):Int) > 1))) (by kernel_rfl) (fun hb11=>?_) (fun hb11=>?_)
 ·have HQ:=Zj3 Hq HY (Zd9.1 (by have:=of_decide_eq_true hb11; omega))
  refine Zac (Zab (xr 2 [(2, .p 2 0),(3, .p 3 0),(4, .p 4 0),(5, .p 5 0),eI2 19 s0 A0 l0 c0,eI2 20 s10 A10 l10 c10] [bI2 5 155 s10 A10 l10 c10,bR4 4 157 false none 0 0 false none 0 0,bI2 3 155 false A1 l1 c1,bI2 2 155 s0 A0 l0 c0] ?_))
  refine xc 274 [vI2 s0 A0 l0 c0,vI2 s10 A10 l10 c10] 21 Zgy _ (fun w R Q=>(Zd8 _ _ (x) (((Int.gcd (x) (y):Nat):Int)) _ Q.1.1.1 Q.1.2 HFx HFg HG0).mono (fun _ _=>Ze4)) (fun xx=>?_)
  obtain ⟨⟨s12,A12,l12,c12⟩,⟨s13,A13,l13,c13⟩⟩:=xx
  refine xr 4 [(2, .p 2 0),(3, .p 3 0),(4, .p 4 0),(5, .p 5 0)] [bI2 5 155 s10 A10 l10 c10,bR4 4 157 false none 0 0 false none 0 0,bI2 3 155 false A1 l1 c1,bI2 2 155 s12 A12 l12 c12] ?_
  refine xe (Zaa (Zab (xr 2 [(2, .p 2 0),(3, .p 3 0),(4, .p 4 0),eI2 25 false A1 l1 c1,eI2 26 s10 A10 l10 c10] [bR4 4 157 false none 0 0 false none 0 0,bI2 3 155 false A1 l1 c1,bI2 2 155 s12 A12 l12 c12] ?_)))
  refine xc 274 [vI2 false A1 l1 c1,vI2 s10 A10 l10 c10] 27 Zgy _ (fun w R Q=>(Zd8 _ _ (y) (((Int.gcd (x) (y):Nat):Int)) _ Q.1.1.1.2 Q.1.1.2 HFy HFg HG0).mono (fun _ _=>Ze4)) (fun xx=>?_)
  obtain ⟨⟨s14,A14,l14,c14⟩,⟨s15,A15,l15,c15⟩⟩:=xx
  refine xr 4 [(2, .p 2 0),(3, .p 3 0),(4, .p 4 0)] [bR4 4 157 false none 0 0 false none 0 0,bI2 3 155 s14 A14 l14 c14,bI2 2 155 s12 A12 l12 c12] ?_
  refine xe (Zaa (Zac (Zac (Zab (xr 1 [(2, .p 2 0),(3, .p 3 0),(4, .p 4 0),eI2 30 s14 A14 l14 c14] [bR4 4 157 false none 0 0 false none 0 0,bI2 3 155 s14 A14 l14 c14,bI2 2 155 s12 A12 l12 c12] ?_)))))
  refine xc 273 [vI2 s14 A14 l14 c14] 31 (fun _:Unit=>.int .i64 ((blen ((y).tdiv (((Int.gcd (x) (y):Nat):Int))).natAbs:Nat):Int)) _ (fun w R Q=>(ZdH _ ((y).tdiv (((Int.gcd (x) (y):Nat):Int))) _ Q.2.1 (ZaZ.tdiv HFy)).mono (fun _ _ h=>Zay h rfl)) (fun xx=>?_)
  refine xr 1 [(2, .p 2 0),(3, .p 3 0),(4, .p 4 0),(32, .v (.bool ((((blen ((y).tdiv (((Int.gcd (x) (y):Nat):Int))).natAbs:Nat):Int):Int) == 1)))] [bR4 4 157 false none 0 0 false none 0 0,bI2 3 155 s14 A14 l14 c14,bI2 2 155 s12 A12 l12 c12] ?_
  refine xe (Zaa ?_)
  refine Zbc (((((blen ((y).tdiv (((Int.gcd (x) (y):Nat):Int))).natAbs:Nat):Int):Int) == 1)) (by kernel_rfl) (fun hb16=>?_) (fun hb16=>?_)
  ·have hdhb16:=Zb4.1 (Zea hb16)
   refine Zab (xr 2 [(2, .p 2 0),(3, .p 3 0),(4, .p 4 0)] [bR4 4 157 false none 0 0 false none 0 0,bI2 3 155 false none 0 0,bI2 2 155 s12 A12 l12 c12] ?_)
   refine xe (Zaa (Zac (Zab (xr 4 [(4, .p 4 0)] [bR4 4 157 s12 A12 l12 c12 false none 0 0] ?_))))
   refine xe (Zaa (Zau ?_))
   refine Zai (v:=.agg #[.bool s12, .slice A12 l12 c12, .bool false, .slice none 0 0]) (by kernel_rfl) (fun w' R Q=>?_)
   exact ⟨_,rfl,ZaE.of (by rw [HQ.1]; exact Q.1.1.2.1) (by rw [Zdy (by have:=hdhb16; have:=HQ.2; have:=q.den_nz; omega)]; exact (Zak.nil _)),R⟩
  ·have hdhb16:=fun h=>Zeb hb16 (Zb4.2 h)
   refine Zav (Zaa (Zac (Zab (xr 4 [(4, .p 4 0)] [bR4 4 157 s12 A12 l12 c12 s14 A14 l14 c14] ?_))))
   refine xe (Zaa (Zau ?_))
   refine Zai (v:=.agg #[.bool s12, .slice A12 l12 c12, .bool s14, .slice A14 l14 c14]) (by kernel_rfl) (fun w' R Q=>?_)
   exact ⟨_,rfl,ZaE.of (by rw [HQ.1]; exact Q.1.1.2.1) (by rw [ZcM (fun h=>hdhb16 (by have:=HQ.2; omega)),HQ.2]; exact Q.1.2.1),R⟩
 ·have HQ:=Zj4 Hq HY (fun h=>absurd (Zd9.2 h) (by have:=of_decide_eq_false hb11; omega))
  refine Zav (Zaa (Zac (Zac (Zab (xr 1 [(2, .p 2 0),(3, .p 3 0),(4, .p 4 0),eI2 30 false A1 l1 c1] [bR4 4 157 false none 0 0 false none 0 0,bI2 3 155 false A1 l1 c1,bI2 2 155 s0 A0 l0 c0] ?_)))))
  refine xc 273 [vI2 false A1 l1 c1] 31 (fun _:Unit=>.int .i64 ((blen (y).natAbs:Nat):Int)) _ (fun w R Q=>(ZdH _ (y) _ Q.1.1.2 HFy).mono (fun _ _ h=>Zay h rfl)) (fun xx=>?_)
  refine xr 1 [(2, .p 2 0),(3, .p 3 0),(4, .p 4 0),(32, .v (.bool ((((blen (y).natAbs:Nat):Int):Int) == 1)))] [bR4 4 157 false none 0 0 false none 0 0,bI2 3 155 false A1 l1 c1,bI2 2 155 s0 A0 l0 c0] ?_
  refine xe (Zaa ?_)
  refine Zbc (((((blen (y).natAbs:Nat):Int):Int) == 1)) (by kernel_rfl) (fun hb17=>?_) (fun hb17=>?_)
  ·have hdhb17:=Zb4.1 (Zea hb17)
   refine Zab (xr 2 [(2, .p 2 0),(3, .p 3 0),(4, .p 4 0)] [bR4 4 157 false none 0 0 false none 0 0,bI2 3 155 false none 0 0,bI2 2 155 s0 A0 l0 c0] ?_)
   refine xe (Zaa (Zac (Zab (xr 4 [(4, .p 4 0)] [bR4 4 157 s0 A0 l0 c0 false none 0 0] ?_))))
   refine xe (Zaa (Zau ?_))
   refine Zai (v:=.agg #[.bool s0, .slice A0 l0 c0, .bool false, .slice none 0 0]) (by kernel_rfl) (fun w' R Q=>?_)
   exact ⟨_,rfl,ZaE.of (by rw [HQ.1]; exact Q.1.1.1.1) (by rw [Zdy (by have:=hdhb17; have:=HQ.2; have:=q.den_nz; omega)]; exact (Zak.nil _)),R⟩
  ·have hdhb17:=fun h=>Zeb hb17 (Zb4.2 h)
   refine Zav (Zaa (Zac (Zab (xr 4 [(4, .p 4 0)] [bR4 4 157 s0 A0 l0 c0 false A1 l1 c1] ?_))))
   refine xe (Zaa (Zau ?_))
   refine Zai (v:=.agg #[.bool s0, .slice A0 l0 c0, .bool false, .slice A1 l1 c1]) (by kernel_rfl) (fun w' R Q=>?_)
   exact ⟨_,rfl,ZaE.of (by rw [HQ.1]; exact Q.1.1.1.1) (by rw [ZcM (fun h=>hdhb17 (by have:=HQ.2; omega)),HQ.2]; exact Q.1.1.1.2),R⟩
theorem Zow (a b:Value) (x y:Int) (w:World) (ha:Zak w a x) (hb:Zak w b y) (hx:ZaZ x) (hy:ZaZ y) (h0:y≠0):Calls Tryz.prog 173 #[a,b] w (Zhc w (Rat.divInt x y)):=by
 rcases Int.lt_or_gt_of_ne h0 with h | h
 ·exact Zou a b x y _ w ha hb hx hy h rfl
 ·exact Zov a b x y _ w ha hb hx hy h rfl
theorem ZfR (a:Value) (q:Rat) (w:World) (ha:ZaE w a q) :
 Calls Tryz.prog 165 #[a] w (RetV w (.int .i64 q.num.sign)):=by
 obtain ⟨s0,A0,l0,c0,t0,B0,m0,d0,rfl⟩:=ha.shp
 refine Za6 (Φ:=fun w=>ZaE w (.agg #[.bool s0, .slice A0 l0 c0, .bool t0, .slice B0 m0 d0]) (q)) Tryz.func165 rfl (by kernel_rfl) (fun w' hf=>ha.ext hf) ?_
 refine Zac (Zab (xr 2 [(1, .p 1 0),(2, .v (.int .i64 0))] [bR4 1 157 s0 A0 l0 c0 t0 B0 m0 d0] ?_))
 refine xe (Zaa (Zac (Zab (xr 2 [(2, .v (.int .i64 0)),eI2 4 s0 A0 l0 c0] [] ?_))))
 refine xc 258 [vI2 s0 A0 l0 c0] 5 (fun _:Unit=>.int .i64 ((q).num).sign) _ (fun w R Q=>(ZgD _ ((q).num) _ Q.num).mono (fun _ _ h=>Zay h rfl)) (fun xx=>?_)
 refine xr 1 [(2, .v (.int .i64 ((q).num).sign))] [] ?_
 refine xe (Zaa (Zau ?_))
 refine Zai (v:=.int .i64 ((q).num).sign) (by kernel_rfl) (fun w' R Q=>?_)
 exact ⟨rfl,R⟩
end Go.Proofs.YtcpjeaaapocoeaaGreatDoor

namespace Go.Proofs.YtcpjeaaapocoeaaGreatDoor
open Go.RowKit
theorem Zjr (a b:List UInt8):(⟨a.toArray⟩:ByteArray) ++ ⟨b.toArray⟩=⟨(a ++ b).toArray⟩:=by
 apply ByteArray.ext
 simp
theorem Zeu {n j:Nat} (h:n < 10 ^ j∧j≤140737488355000):(Lib.decDigits n).length≤140737488355000:=by
 rcases Nat.eq_zero_or_pos n with e | e
 ·rw [e,Lib.decDigits_one (by omega)]; simp
 ·have:=Zns _ _ h.1
  rw [Zcv e] at this
  omega
theorem Zdl (s:Bool) (A0:Option Addr) (l0 c0:Nat) (n:Nat) (w:World) (hN:Zam w (.slice A0 l0 c0) n) {j:Nat} (h:n < 10 ^ j∧j≤140737488355000) :
 Calls Tryz.prog 143 #[.agg #[.bool s, .slice A0 l0 c0]] w (RetV w (.string ⟨(Lib.decDigits n).toArray⟩)):=by
 refine Zl5 s A0 l0 c0 n w hN ((j + 8) / 9) ?_ (by have:=h.2; omega)
 refine Nat.lt_of_lt_of_le h.1 ?_
 rw [show (1000000000:Nat)=10 ^ 9 by decide,← Nat.pow_mul]
 exact Nat.pow_le_pow_right (by omega) (by omega)
set_option maxHeartbeats 2000000 in
theorem Zkn (a:Value) (q:Rat) (w:World) (ha:ZaE w a q) (j k:Nat) (h1:q.num.natAbs < 10 ^ j∧j≤140737488355000) (_:q.den < 10 ^ k∧k≤140737488355000) (hs:q.num < 0) (hd:q.den=1) :
 Calls Tryz.prog 67 #[a] w (RetV w (.string ⟨(ZaA q).toArray⟩)):=by
 obtain ⟨s1,A1,l1,c1,t1,B1,m1,d1,rfl⟩:=ha.shp
 have F2:Hid (ZaE w (.agg #[.bool s1, .slice A1 l1 c1, .bool t1, .slice B1 m1 d1]) (q)):=ha
 clear ha
 obtain rfl:s1=true:=F2.out.num.sneg hs
 have H1:Hid (q.num.natAbs < 10 ^ j∧j≤140737488355000):=h1
 obtain rfl:m1=0:=F2.out.den.len0 (Zdy hd)
 have HT:Hid (ZaA q=45 :: Lib.decDigits q.num.natAbs):=by unfold Hid ZaA Lib.itoa; rw [if_pos hd,if_pos hs]
 obtain ⟨rt,ert⟩:∃ rt,ZaA q=rt:=⟨_,rfl⟩
 rw [ert] at HT ⊢
 clear hs hd h1 ert
 go_enter Tryz.func67,Tryz.ntmps67
 go_wp2_with fail
 generalize hwb:World.alloc w _=w4
 obtain ⟨b_B3,hE0⟩:=Zcm hwb
 clear hwb
 have B3:=zh b_B3
 clear b_B3
 replace F2:=zh (F2.out.ext hE0)
 have HE:=zh hE0
 clear hE0
 have F5:Hid (Zak w4 (.agg #[.bool true, .slice A1 l1 c1]) ((q).num)):=F2.out.num
 have F8:Hid (Zam w4 (.slice A1 l1 c1) (((q).num).natAbs)):=F5.out.mag
 refine (Zdl true A1 l1 c1 _ _ F8.out H1.out).mono ?_
 obtain ⟨t7,et7⟩:∃ t,Lib.decDigits (((q).num).natAbs)=t:=⟨_,rfl⟩
 rw [et7]; have hlen7:t7.length≤140737488355000:=by rw [← et7]; exact Zeu H1.out
 have Ht7:=zh et7; clear et7
 rintro e w6 ⟨rfl,hF⟩
 replace B3:=zh (B3.out.ext hF)
 replace F2:=zh (F2.out.ext hF)
 replace F5:=zh (F5.out.ext hF)
 replace F8:=zh (F8.out.ext hF)
 replace HE:=zh (HE.out.trans hF)
 clear hF
 obtain ⟨c9_0,c9_1,c9_2,c9_3,f9_0,f9_1,f9_2,f9_3⟩:=B3.out.cell4
 go_wp2
 clear c9_0 c9_1 c9_2 c9_3 f9_0 f9_1 f9_2 f9_3
 go_ret
 refine ⟨?_,HE.out⟩
 rw [HT.out,Ht7.out]
 show Ending.returned (.string ((⟨#[45]⟩:ByteArray) ++ ⟨t7.toArray⟩))=_
 simp only [Zjr]
 rfl
set_option maxHeartbeats 2000000 in
theorem Zko (a:Value) (q:Rat) (w:World) (ha:ZaE w a q) (j k:Nat) (h1:q.num.natAbs < 10 ^ j∧j≤140737488355000) (h2:q.den < 10 ^ k∧k≤140737488355000) (hs:q.num < 0) (hd:¬ q.den=1) :
 Calls Tryz.prog 67 #[a] w (RetV w (.string ⟨(ZaA q).toArray⟩)):=by
 obtain ⟨s1,A1,l1,c1,t1,B1,m1,d1,rfl⟩:=ha.shp
 have F2:Hid (ZaE w (.agg #[.bool s1, .slice A1 l1 c1, .bool t1, .slice B1 m1 d1]) (q)):=ha
 clear ha
 obtain rfl:s1=true:=F2.out.num.sneg hs
 have H1:Hid (q.num.natAbs < 10 ^ j∧j≤140737488355000):=h1
 have hl:0 < m1:=F2.out.den.lenp (ZmF hd)
 have hlb:decide ((0:Int) < (m1:Int))=true:=by rw [decide_eq_true_eq]; omega
 have H2:Hid ((denF q).natAbs < 10 ^ k∧k≤140737488355000):=by unfold Hid; rw [ZcM hd,Int.natAbs_natCast]; exact h2
 have HT:Hid (ZaA q=(45 :: Lib.decDigits q.num.natAbs) ++ (47 :: Lib.decDigits (denF q).natAbs)):=by
  unfold Hid ZaA
  rw [if_neg hd,ZcM hd,Int.natAbs_natCast,Lib.itoa_nonneg]
  unfold Lib.itoa
  rw [if_pos (show q.num < 0 by omega)]
  simp
 obtain ⟨rt,ert⟩:∃ rt,ZaA q=rt:=⟨_,rfl⟩
 rw [ert] at HT ⊢
 clear hs hd h1 h2 ert
 go_enter Tryz.func67,Tryz.ntmps67
 go_wp2_with fail
 generalize hwb:World.alloc w _=w4
 obtain ⟨b_B3,hE0⟩:=Zcm hwb
 clear hwb
 have B3:=zh b_B3
 clear b_B3
 replace F2:=zh (F2.out.ext hE0)
 have HE:=zh hE0
 clear hE0
 have F5:Hid (Zak w4 (.agg #[.bool true, .slice A1 l1 c1]) ((q).num)):=F2.out.num
 have F8:Hid (Zam w4 (.slice A1 l1 c1) (((q).num).natAbs)):=F5.out.mag
 refine (Zdl true A1 l1 c1 _ _ F8.out H1.out).mono ?_
 obtain ⟨t7,et7⟩:∃ t,Lib.decDigits (((q).num).natAbs)=t:=⟨_,rfl⟩
 rw [et7]; have hlen7:t7.length≤140737488355000:=by rw [← et7]; exact Zeu H1.out
 have Ht7:=zh et7; clear et7
 rintro e w6 ⟨rfl,hF⟩
 replace B3:=zh (B3.out.ext hF)
 replace F2:=zh (F2.out.ext hF)
 replace F5:=zh (F5.out.ext hF)
 replace F8:=zh (F8.out.ext hF)
 replace HE:=zh (HE.out.trans hF)
 clear hF
 obtain ⟨c9_0,c9_1,c9_2,c9_3,f9_0,f9_1,f9_2,f9_3⟩:=B3.out.cell4
 go_wp2_with fail
 clear c9_0 c9_1 c9_2 c9_3 f9_0 f9_1 f9_2 f9_3
 have F10:Hid (Zak w6 (.agg #[.bool t1, .slice B1 m1 d1]) (denF (q))):=F2.out.den
 have F13:Hid (Zam w6 (.slice B1 m1 d1) ((denF (q)).natAbs)):=F10.out.mag
 refine (Zdl t1 B1 m1 d1 _ _ F13.out H2.out).mono ?_
 obtain ⟨t12,et12⟩:∃ t,Lib.decDigits ((denF (q)).natAbs)=t:=⟨_,rfl⟩
 rw [et12]; have hlen12:t12.length≤140737488355000:=by rw [← et12]; exact Zeu H2.out
 have Ht12:=zh et12; clear et12
 rintro e w11 ⟨rfl,hF⟩
 replace B3:=zh (B3.out.ext hF)
 replace F2:=zh (F2.out.ext hF)
 replace F5:=zh (F5.out.ext hF)
 replace F8:=zh (F8.out.ext hF)
 replace F10:=zh (F10.out.ext hF)
 replace F13:=zh (F13.out.ext hF)
 replace HE:=zh (HE.out.trans hF)
 clear hF
 obtain ⟨c14_0,c14_1,c14_2,c14_3,f14_0,f14_1,f14_2,f14_3⟩:=B3.out.cell4
 go_wp2
 clear c14_0 c14_1 c14_2 c14_3 f14_0 f14_1 f14_2 f14_3
 go_ret
 refine ⟨?_,HE.out⟩
 rw [HT.out,Ht7.out,Ht12.out]
 show Ending.returned (.string (((⟨#[45]⟩:ByteArray) ++ ⟨t7.toArray⟩) ++ ((⟨#[47]⟩:ByteArray) ++ ⟨t12.toArray⟩)))=_
 simp only [Zjr]
 rfl
set_option maxHeartbeats 2000000 in
theorem Zkp (a:Value) (q:Rat) (w:World) (ha:ZaE w a q) (j k:Nat) (h1:q.num.natAbs < 10 ^ j∧j≤140737488355000) (_:q.den < 10 ^ k∧k≤140737488355000) (hs:0≤q.num) (hd:q.den=1) :
 Calls Tryz.prog 67 #[a] w (RetV w (.string ⟨(ZaA q).toArray⟩)):=by
 obtain ⟨s1,A1,l1,c1,t1,B1,m1,d1,rfl⟩:=ha.shp
 have F2:Hid (ZaE w (.agg #[.bool s1, .slice A1 l1 c1, .bool t1, .slice B1 m1 d1]) (q)):=ha
 clear ha
 obtain rfl:s1=false:=F2.out.num.spos hs
 have H1:Hid (q.num.natAbs < 10 ^ j∧j≤140737488355000):=h1
 obtain rfl:m1=0:=F2.out.den.len0 (Zdy hd)
 have HT:Hid (ZaA q=Lib.decDigits q.num.natAbs):=by unfold Hid ZaA Lib.itoa; rw [if_pos hd,if_neg (show ¬ q.num < 0 by omega)]; rw [show q.num.toNat=q.num.natAbs by omega]
 obtain ⟨rt,ert⟩:∃ rt,ZaA q=rt:=⟨_,rfl⟩
 rw [ert] at HT ⊢
 clear hs hd h1 ert
 go_enter Tryz.func67,Tryz.ntmps67
 go_wp2_with fail
 generalize hwb:World.alloc w _=w4
 obtain ⟨b_B3,hE0⟩:=Zcm hwb
 clear hwb
 have B3:=zh b_B3
 clear b_B3
 replace F2:=zh (F2.out.ext hE0)
 have HE:=zh hE0
 clear hE0
 have F5:Hid (Zak w4 (.agg #[.bool false, .slice A1 l1 c1]) ((q).num)):=F2.out.num
 have F8:Hid (Zam w4 (.slice A1 l1 c1) (((q).num).natAbs)):=F5.out.mag
 refine (Zdl false A1 l1 c1 _ _ F8.out H1.out).mono ?_
 obtain ⟨t7,et7⟩:∃ t,Lib.decDigits (((q).num).natAbs)=t:=⟨_,rfl⟩
 rw [et7]; have hlen7:t7.length≤140737488355000:=by rw [← et7]; exact Zeu H1.out
 have Ht7:=zh et7; clear et7
 rintro e w6 ⟨rfl,hF⟩
 replace B3:=zh (B3.out.ext hF)
 replace F2:=zh (F2.out.ext hF)
 replace F5:=zh (F5.out.ext hF)
 replace F8:=zh (F8.out.ext hF)
 replace HE:=zh (HE.out.trans hF)
 clear hF
 obtain ⟨c9_0,c9_1,c9_2,c9_3,f9_0,f9_1,f9_2,f9_3⟩:=B3.out.cell4
 go_wp2
 clear c9_0 c9_1 c9_2 c9_3 f9_0 f9_1 f9_2 f9_3
 go_ret
 refine ⟨?_,HE.out⟩
 rw [HT.out,Ht7.out]
 show Ending.returned (.string (⟨t7.toArray⟩:ByteArray))=_
 rfl
set_option maxHeartbeats 2000000 in
theorem Zkq (a:Value) (q:Rat) (w:World) (ha:ZaE w a q) (j k:Nat) (h1:q.num.natAbs < 10 ^ j∧j≤140737488355000) (h2:q.den < 10 ^ k∧k≤140737488355000) (hs:0≤q.num) (hd:¬ q.den=1) :
 Calls Tryz.prog 67 #[a] w (RetV w (.string ⟨(ZaA q).toArray⟩)):=by
 obtain ⟨s1,A1,l1,c1,t1,B1,m1,d1,rfl⟩:=ha.shp
 have F2:Hid (ZaE w (.agg #[.bool s1, .slice A1 l1 c1, .bool t1, .slice B1 m1 d1]) (q)):=ha
 clear ha
 obtain rfl:s1=false:=F2.out.num.spos hs
 have H1:Hid (q.num.natAbs < 10 ^ j∧j≤140737488355000):=h1
 have hl:0 < m1:=F2.out.den.lenp (ZmF hd)
 have hlb:decide ((0:Int) < (m1:Int))=true:=by rw [decide_eq_true_eq]; omega
 have H2:Hid ((denF q).natAbs < 10 ^ k∧k≤140737488355000):=by unfold Hid; rw [ZcM hd,Int.natAbs_natCast]; exact h2
 have HT:Hid (ZaA q=(Lib.decDigits q.num.natAbs) ++ (47 :: Lib.decDigits (denF q).natAbs)):=by
  unfold Hid ZaA
  rw [if_neg hd,ZcM hd,Int.natAbs_natCast,Lib.itoa_nonneg]
  unfold Lib.itoa
  rw [if_neg (show ¬ q.num < 0 by omega)]
  rw [show q.num.toNat=q.num.natAbs by omega]
  simp
 obtain ⟨rt,ert⟩:∃ rt,ZaA q=rt:=⟨_,rfl⟩
 rw [ert] at HT ⊢
 clear hs hd h1 h2 ert
 go_enter Tryz.func67,Tryz.ntmps67
 go_wp2_with fail
 generalize hwb:World.alloc w _=w4
 obtain ⟨b_B3,hE0⟩:=Zcm hwb
 clear hwb
 have B3:=zh b_B3
 clear b_B3
 replace F2:=zh (F2.out.ext hE0)
 have HE:=zh hE0
 clear hE0
 have F5:Hid (Zak w4 (.agg #[.bool false, .slice A1 l1 c1]) ((q).num)):=F2.out.num
 have F8:Hid (Zam w4 (.slice A1 l1 c1) (((q).num).natAbs)):=F5.out.mag
 refine (Zdl false A1 l1 c1 _ _ F8.out H1.out).mono ?_
 obtain ⟨t7,et7⟩:∃ t,Lib.decDigits (((q).num).natAbs)=t:=⟨_,rfl⟩
 rw [et7]; have hlen7:t7.length≤140737488355000:=by rw [← et7]; exact Zeu H1.out
 have Ht7:=zh et7; clear et7
 rintro e w6 ⟨rfl,hF⟩
 replace B3:=zh (B3.out.ext hF)
 replace F2:=zh (F2.out.ext hF)
 replace F5:=zh (F5.out.ext hF)
 replace F8:=zh (F8.out.ext hF)
 replace HE:=zh (HE.out.trans hF)
 clear hF
 obtain ⟨c9_0,c9_1,c9_2,c9_3,f9_0,f9_1,f9_2,f9_3⟩:=B3.out.cell4
 go_wp2_with fail
 clear c9_0 c9_1 c9_2 c9_3 f9_0 f9_1 f9_2 f9_3
 have F10:Hid (Zak w6 (.agg #[.bool t1, .slice B1 m1 d1]) (denF (q))):=F2.out.den
 have F13:Hid (Zam w6 (.slice B1 m1 d1) ((denF (q)).natAbs)):=F10.out.mag
 refine (Zdl t1 B1 m1 d1 _ _ F13.out H2.out).mono ?_
 obtain ⟨t12,et12⟩:∃ t,Lib.decDigits ((denF (q)).natAbs)=t:=⟨_,rfl⟩
 rw [et12]; have hlen12:t12.length≤140737488355000:=by rw [← et12]; exact Zeu H2.out
 have Ht12:=zh et12; clear et12
 rintro e w11 ⟨rfl,hF⟩
 replace B3:=zh (B3.out.ext hF)
 replace F2:=zh (F2.out.ext hF)
 replace F5:=zh (F5.out.ext hF)
 replace F8:=zh (F8.out.ext hF)
 replace F10:=zh (F10.out.ext hF)
 replace F13:=zh (F13.out.ext hF)
 replace HE:=zh (HE.out.trans hF)
 clear hF
 obtain ⟨c14_0,c14_1,c14_2,c14_3,f14_0,f14_1,f14_2,f14_3⟩:=B3.out.cell4
 go_wp2
 clear c14_0 c14_1 c14_2 c14_3 f14_0 f14_1 f14_2 f14_3
 go_ret
 refine ⟨?_,HE.out⟩
 rw [HT.out,Ht7.out,Ht12.out]
 show Ending.returned (.string ((⟨t7.toArray⟩:ByteArray) ++ ((⟨#[47]⟩:ByteArray) ++ ⟨t12.toArray⟩)))=_
 simp only [Zjr]
 rfl
theorem ZiO (a:Value) (q:Rat) (w:World) (ha:ZaE w a q) (j k:Nat) (h1:q.num.natAbs < 10 ^ j∧j≤140737488355000) (h2:q.den < 10 ^ k∧k≤140737488355000):Calls Tryz.prog 67 #[a] w (RetV w (.string ⟨(ZaA q).toArray⟩)):=by
 by_cases hs:q.num < 0
 ·by_cases hd:q.den=1
  ·exact Zkn a q w ha j k h1 h2 hs hd
  ·exact Zko a q w ha j k h1 h2 hs hd
 ·by_cases hd:q.den=1
  ·exact Zkp a q w ha j k h1 h2 (by omega) hd
  ·exact Zkq a q w ha j k h1 h2 (by omega) hd
end Go.Proofs.YtcpjeaaapocoeaaGreatDoor

namespace Go.Proofs.YtcpjeaaapocoeaaGreatDoor
open Go.RowKit
def ZiP (w:World) (l:List UInt8) (e:Ending) (w':World):Prop :=
 ∃ v b,e=.returned (.tuple #[v, .bool b])∧b=(l.all Zaj && !l.isEmpty)∧Zak w' v (if l.all Zaj then (Zad l:Int) else 0)∧Ext w w'
theorem Zlf {fn:Func} {t t':Tmp} {tmps:Array Value} {w w':World} {r:Nat} {x y:Value} {b:Bool} {l:List UInt8} (hres:fn.results=#[.cell t 155, .tmp t']) (ht:tmps[t]? = some (.pointer (some ⟨r,0,none⟩))) (ht':tmps[t']? = some (.bool b))
 (hB:Blk 155 w' r #[x,y]) (hI:Zak w' (.agg #[x,y]) (if l.all Zaj then (Zad l:Int) else 0)) (hb:b=(l.all Zaj && !l.isEmpty)) (Q:Ext w w'):bodyPost Tryz.prog fn (ZiP w l) .ret ⟨tmps,[]⟩ w':=by
 obtain ⟨h0,h1,_⟩:=hB.cell2
 exact bodyPost_ret (v:=.tuple #[.agg #[x,y], .bool b]) (by simp [results,hres,ht,ht',go_sem,h0,h1]) rfl ⟨_,_,rfl,hb,hI,Q⟩
theorem Zam.one_pos {w:World} {b r:Nat} (h:Own .u32 329 w b [r]) (hr:r < W32) (h0:0 < r):Zam w (.slice (some ⟨b,0,none⟩) 1 1) r :=
 ⟨_,[r],1,rfl,Nat.le_refl _,h.shows0,Dig.cons hr Dig.nil,fun k hk=>by simp at hk; subst hk; simp; omega,by simp⟩
theorem ZoB {n k:Nat} (h:n < 10 ^ k):n < 1000000000 ^ ((k + 8) / 9):=by
 refine Nat.lt_of_lt_of_le h ?_
 rw [show (1000000000:Nat)=10 ^ 9 by decide,← Nat.pow_mul]
 exact Nat.pow_le_pow_right (by omega) (by omega)
theorem Zhh {n k:Nat} (h:n < 10 ^ k):ml n≤(k + 8) / 9:=Zc9.2 (Nat.lt_of_lt_of_le (ZoB h) (Nat.pow_le_pow_left (by rw [Zap]; omega) _))
theorem Zlg (s:ByteArray):s.toList.isEmpty=(bytes s).isEmpty:=by
 rw [Lib.toList_data]
def FdIn (l:List UInt8) (i k v f:Nat):Prop:=k≤9∧i + k≤l.length∧(l.take (i + k)).all Zaj=true∧v=Zad ((l.drop i).take k)∧f=10 ^ k
theorem FdIn.bounds {l:List UInt8} {i k v f:Nat} (h:FdIn l i k v f):v < 10 ^ k∧v < 1000000000∧f≤1000000000∧0 < f:=by
 obtain ⟨h1,h2,h3,h4,h5⟩:=h
 have hall:((l.drop i).take k).all Zaj=true:=by
  rw [List.all_eq_true] at h3 ⊢
  intro x hx
  refine h3 x ?_
  rw [List.take_add]
  exact List.mem_append_right _ hx
 have:=Zbp _ hall
 rw [List.length_take,List.length_drop,Nat.min_eq_left (by omega),← h4] at this
 have h6:10 ^ k≤10 ^ 9:=Nat.pow_le_pow_right (by omega) h1
 have h7:0 < 10 ^ k:=Nat.pow_pos (by omega)
 exact ⟨this,by omega,by omega,by omega⟩
theorem FdIn.step {l:List UInt8} {i k v f:Nat} {c:UInt8} (h:FdIn l i k v f) (hk:k < 9) (hlt:i + k < l.length) (hc:l[i + k]=c) (hd:Zaj c=true):FdIn l i (k + 1) (v * 10 + (c.toNat - 48)) (f * 10):=by
 obtain ⟨h1,h2,h3,h4,h5⟩:=h
 refine ⟨by omega,by omega,?_,?_,by rw [h5,Nat.pow_succ]⟩
 ·rw [← Nat.add_assoc,List.take_succ_eq_append_getElem hlt,List.all_append,h3,hc]
  simp [hd]
 ·rw [List.take_succ_eq_append_getElem (by simp; omega),Zdo,← h4,List.getElem_drop,hc]
  omega
theorem FdIn.done {l:List UInt8} {i k v f:Nat} (h:FdIn l i k v f):Zad (l.take i) * f + v=Zad (l.take (i + k)):=by
 obtain ⟨h1,h2,h3,h4,h5⟩:=h
 have:l.take (i + k)=l.take i ++ (l.drop i).take k:=by rw [List.take_add]
 rw [this,Zeg,List.length_take,List.length_drop,Nat.min_eq_left (by omega),← h4,h5]
theorem ZqB {l:List UInt8} {i:Nat} (h:i < l.length) (hd:Zaj l[i]=false):l.all Zaj=false:=by
 rw [List.all_eq_false]
 exact ⟨l[i],List.getElem_mem h,by simp [hd]⟩
set_option maxHeartbeats 2000000 in
theorem Zc4 (s:ByteArray) (w:World) (hs:s.size≤140737488351232):Calls Tryz.prog 337 #[.string s] w (ZiP w (bytes s)):=by
 have hbl:=zh (Zag s)
 go_enter Tryz.func337,Tryz.ntmps337
 go_wp2_with fail
 generalize hwb:World.alloc w _=w1
 obtain ⟨b0,hE0⟩:=Zcm hwb
 have HB:=zh b0
 have HE:=zh hE0
 clear hwb b0 hE0
 go_loopw [4,5,6,7,8] (fun mv iv _ _ _ wr=>∃ (i:Nat) (A:Option Addr) (ln c:Nat),i≤s.size∧iv=.int .i64 (i:Int)∧mv=.slice A ln c∧Hid (((bytes s).take i).all Zaj=true)∧Hid (Zam wr (.slice A ln c) (Zad ((bytes s).take i)))∧Hid (Ext w1 wr)) (fun _ iv _ _ _ _=>s.size - (intOf iv).toNat)
 case atStart=>exact ⟨0,none,0,0,by omega,rfl,rfl,by unfold Hid; simp,by unfold Hid; simpa [Zad] using Zam.zero _,Fr.refl _ _⟩
 case round =>
  obtain ⟨i,A,ln,c,hi,rfl,rfl,hall,hM,hF⟩:=hrel
  by_cases hlt:i < s.size
  ·go_wp2
   go_loop [5,6,7,8] (fun iv vv fv kv=>∃ (k v f:Nat),k≤9∧i + k≤s.size∧v < 1000000000∧f≤1000000000∧0 < f∧iv=.int .i64 ((i + k:Nat):Int)∧vv=.int .u32 (v:Int)∧fv=.int .u32 (f:Int)∧kv=.int .i64 (k:Int)∧Hid (FdIn (bytes s) i k v f)) (fun _ _ _ kv=>9 - (intOf kv).toNat)
   case atStart=>exact ⟨0,0,1,by omega,by omega,by omega,by omega,by omega,rfl,rfl,rfl,rfl,⟨by omega,by rw [hbl.out]; omega,hall.out,by simp [Zad],rfl⟩⟩
   case round =>
    obtain ⟨k,v,f,hk,hik,hv,hf,hf0,rfl,rfl,rfl,rfl,hI⟩:=hrel
    by_cases hgo:k < 9∧i + k < s.size
    ·obtain ⟨g1,g2⟩:=hgo
     have gd1:decide ((k:Int) < 9)=true:=by rw [decide_eq_true_eq]; omega
     have hbk:(bytes s)[i + k]'(by rw [hbl.out]; exact g2)=s[i + k]:=ZhS s g2
     by_cases hd:Zaj s[i + k]=true
     ·have HI2:=zh (hI.out.step g1 (by rw [hbl.out]; exact g2) hbk hd)
      have hb:=ZgH hd
      have hb2:=HI2.out.bounds
      have e1:IntKind.u8.wrap ((s[i + k].toNat:Int) - 48)=((s[i + k].toNat - 48:Nat):Int):=by rw [IntKind.wrap_u8]; omega
      have e1':((s[i + k].toNat:Int) - 48) % 256=((s[i + k].toNat - 48:Nat):Int):=by omega
      obtain ⟨d,ed⟩:∃ d,s[i + k].toNat - 48=d:=⟨_,rfl⟩
      have hd9:d≤9:=by omega
      rw [ed] at HI2 e1 e1' hb2
      have hv2:=hb2.2.1
      have hf2:=hb2.2.2.1
      have x1:(i:Int) + (k:Int) < (s.size:Int):=by omega
      have x2:(0:Int)≤(i:Int) + (k:Int):=by omega
      have x3:(48:Int)≤(s[i + k].toNat:Int):=by omega
      have x4:¬ ((s[i + k].toNat:Int) < 48):=by omega
      have x5:¬ ((57:Int) < (s[i + k].toNat:Int)):=by omega
      have x6:decide ((s[i + k].toNat:Int) < 48)=false:=by rw [decide_eq_false_iff_not]; omega
      have x7:decide ((57:Int) < (s[i + k].toNat:Int))=false:=by rw [decide_eq_false_iff_not]; omega
      have x8:((i:Int) + (k:Int)).toNat=i + k:=by omega
      clear hb2 hbk ed hd
      go_wp2
      go_round
      case rel=>exact ⟨k + 1,v * 10 + d,f * 10,by omega,by omega,hv2,hf2,by omega,by go_num,by go_num,by go_num,by go_num,HI2⟩
      case measure=>simp [intOf]; omega
     ·have hno:Hid ((bytes s).all Zaj=false):=ZqB (by rw [hbl.out]; exact g2) (by rw [hbk]; simpa using hd)
      have HBx:=zh (HB.out.ext hF.out)
      have HEx:=zh (HE.out.trans hF.out)
      obtain ⟨z0,z1,z2,z3⟩:=HBx.out.cell2
      have x1:(i:Int) + (k:Int) < (s.size:Int):=by omega
      have x2:(0:Int)≤(i:Int) + (k:Int):=by omega
      have x8:((i:Int) + (k:Int)).toNat=i + k:=by omega
      have hFin:Hid (∀ tmps:Array Value,tmps[2]? = some (.pointer (some ⟨w.heap.size,0,none⟩))→tmps[3]? = some (.bool false)→bodyPost Tryz.prog Tryz.f337 (ZiP w (bytes s)) .ret ⟨tmps,[]⟩ ((wr.setCell ⟨w.heap.size,0,none⟩ (.bool false)).setCell ⟨w.heap.size,1,none⟩ (.slice none 0 0))):=by
       intro tmps h2 h3
       have hFs:Fr (fun i=>i=w.heap.size) wr ((wr.setCell ⟨w.heap.size,0,none⟩ (.bool false)).setCell ⟨w.heap.size,1,none⟩ (.slice none 0 0)):=((Fr.refl (fun i=>i=w.heap.size) _).setCell (p:=⟨w.heap.size,0,none⟩) (Or.inl rfl) _).setCell (p:=⟨w.heap.size,1,none⟩) (Or.inl rfl) _
       refine Zlf rfl h2 h3 ((HBx.out.set_ 0 _).set_ 1 _) ?_ (by rw [hno.out]; rfl) (HEx.out.next hFs (fun i hi e=>by omega))
       rw [hno.out]; exact Zak.nil _
      by_cases hlo:s[i + k].toNat < 48
      ·have x3:(s[i + k].toNat:Int) < 48:=by omega
       have x6:decide ((s[i + k].toNat:Int) < 48)=true:=by rw [decide_eq_true_eq]; omega
       clear hbk hd hno
       go_wp2
       exact hFin.out _ rfl rfl
      ·have hhi:57 < s[i + k].toNat:=by
        have:Zaj s[i + k]=false:=by simpa using hd
        unfold Zaj at this
        simp at this
        omega
       have x3:¬ ((s[i + k].toNat:Int) < 48):=by omega
       have x4:(57:Int) < (s[i + k].toNat:Int):=by omega
       have x6:decide ((s[i + k].toNat:Int) < 48)=false:=by rw [decide_eq_false_iff_not]; omega
       have x7:decide ((57:Int) < (s[i + k].toNat:Int))=true:=by rw [decide_eq_true_eq]; omega
       clear hbk hd hno
       go_wp2
       exact hFin.out _ rfl rfl
    ·have hk1:1≤k:=by
      rcases Nat.eq_zero_or_pos k with e | e
      ·subst e; exact absurd ⟨by omega,by omega⟩ hgo
      ·exact e
     have hfW:Hid (f < W32):=by unfold Hid; rw [Zap]; omega
     have hvW:Hid (v < W32):=by unfold Hid; rw [Zap]; omega
     have hml1:Hid (ml (Zad ((bytes s).take i))≤17592186044416):=by
      have h1:=Zhh (Zbp _ hall.out)
      rw [List.length_take,hbl.out] at h1
      unfold Hid; omega
     have hmlf:Hid (ml f≤17592186044416):=by
      have:=Zc9 (n:=f) (k:=1)
      rw [Nat.pow_one] at this
      have:=this.2 hfW.out
      unfold Hid; omega
     have hmlv:Hid (ml v≤17592186044416):=by
      have:=Zc9 (n:=v) (k:=1)
      rw [Nat.pow_one] at this
      have:=this.2 hvW.out
      unfold Hid; omega
     have hdone:=zh hI.out.done
     have hall2:Hid (((bytes s).take (i + k)).all Zaj=true):=hI.out.2.2.1
     have hml2:Hid (ml (Zad ((bytes s).take i) * f)≤17592186044416):=by
      have h1:=Zhh (Zbp _ hall2.out)
      rw [List.length_take,hbl.out] at h1
      have h2:=Zfr (show Zad ((bytes s).take i) * f≤Zad ((bytes s).take (i + k)) by have:=hdone.out; omega)
      unfold Hid; omega
     have hF0:Hid (0 < f):=hf0
     by_cases h9:k < 9
     ·have g2:¬ ((i:Int) + (k:Int) < (s.size:Int)):=by omega
      have gd1:decide ((k:Int) < 9)=true:=by rw [decide_eq_true_eq]; omega
      have gd2:decide ((i:Int) + (k:Int) < (s.size:Int))=false:=by rw [decide_eq_false_iff_not]; omega
      clear hgo hI
      go_wp2_with fail
      generalize hwb:World.alloc wr _=w2
      have hO2:Own .u32 329 w2 wr.heap.size [f]:=hwb ▸ Own.new wr 329 .u32 [f] []
      have hF2:Ext wr w2:=hwb ▸ (Fr.refl _ _).alloc _
      clear hwb
      refine (Ziz _ _ (Zad ((bytes s).take i)) f _ (hM.out.ext hF2) (Zam.one_pos hO2 hfW.out hF0.out) hml1.out hmlf.out).mono ?_
      rintro e w3 ⟨_,rfl,hN3,hF3⟩
      obtain ⟨A3,l3,c3,rfl⟩:=hN3.slice
      have HN3:=zh hN3
      have HF3:=zh ((hF.out.trans hF2).trans hF3)
      clear hN3 hF3 hF2 hO2
      go_wp2_with fail
      generalize hwb:World.alloc w3 _=w4
      have hO4:Own .u32 329 w4 w3.heap.size [v]:=hwb ▸ Own.new w3 329 .u32 [v] []
      have hF4:Ext w3 w4:=hwb ▸ (Fr.refl _ _).alloc _
      clear hwb
      refine (Zby _ [v] 1 1 _ rfl hO4.shows0 (by simp) (by simp)).mono ?_
      rintro e w5 ⟨rfl,rfl⟩
      have HV4:=zh (Zam.one hO4 hvW.out)
      have HN4:=zh (HN3.out.ext hF4)
      have HF4:=zh (HF3.out.trans hF4)
      clear hO4 hF4 HN3 HF3
      go_wp2_with fail
      refine (Ziy _ _ _ _ _ HN4.out HV4.out hml2.out hmlv.out).mono ?_
      rintro e w6 ⟨_,rfl,hN6,hF6⟩
      rw [hdone.out] at hN6
      obtain ⟨A6,l6,c6,rfl⟩:=hN6.slice
      have HN6:=zh hN6
      have HF6:=zh (HF4.out.trans hF6)
      clear hN6 hF6
      go_wp2
      go_roundw
      case rel=>exact ⟨i + k,A6,l6,c6,by omega,by go_num,rfl,hall2,HN6,HF6⟩
      case measure=>simp [intOf]; omega
     ·have g2:¬ ((k:Int) < 9):=by omega
      have gd1:decide ((k:Int) < 9)=false:=by rw [decide_eq_false_iff_not]; omega
      clear hgo hI
      go_wp2_with fail
      generalize hwb:World.alloc wr _=w2
      have hO2:Own .u32 329 w2 wr.heap.size [f]:=hwb ▸ Own.new wr 329 .u32 [f] []
      have hF2:Ext wr w2:=hwb ▸ (Fr.refl _ _).alloc _
      clear hwb
      refine (Ziz _ _ (Zad ((bytes s).take i)) f _ (hM.out.ext hF2) (Zam.one_pos hO2 hfW.out hF0.out) hml1.out hmlf.out).mono ?_
      rintro e w3 ⟨_,rfl,hN3,hF3⟩
      obtain ⟨A3,l3,c3,rfl⟩:=hN3.slice
      have HN3:=zh hN3
      have HF3:=zh ((hF.out.trans hF2).trans hF3)
      clear hN3 hF3 hF2 hO2
      go_wp2_with fail
      generalize hwb:World.alloc w3 _=w4
      have hO4:Own .u32 329 w4 w3.heap.size [v]:=hwb ▸ Own.new w3 329 .u32 [v] []
      have hF4:Ext w3 w4:=hwb ▸ (Fr.refl _ _).alloc _
      clear hwb
      refine (Zby _ [v] 1 1 _ rfl hO4.shows0 (by simp) (by simp)).mono ?_
      rintro e w5 ⟨rfl,rfl⟩
      have HV4:=zh (Zam.one hO4 hvW.out)
      have HN4:=zh (HN3.out.ext hF4)
      have HF4:=zh (HF3.out.trans hF4)
      clear hO4 hF4 HN3 HF3
      go_wp2_with fail
      refine (Ziy _ _ _ _ _ HN4.out HV4.out hml2.out hmlv.out).mono ?_
      rintro e w6 ⟨_,rfl,hN6,hF6⟩
      rw [hdone.out] at hN6
      obtain ⟨A6,l6,c6,rfl⟩:=hN6.slice
      have HN6:=zh hN6
      have HF6:=zh (HF4.out.trans hF6)
      clear hN6 hF6
      go_wp2
      go_roundw
      case rel=>exact ⟨i + k,A6,l6,c6,by omega,by go_num,rfl,hall2,HN6,HF6⟩
      case measure=>simp [intOf]; omega
  ·obtain rfl:i=s.size:=by omega
   have e1:(bytes s).take s.size=bytes s:=List.take_of_length_le (by rw [hbl.out]; exact Nat.le_refl _)
   have HA:Hid ((bytes s).all Zaj=true):=by have:=hall.out; rw [e1] at this; exact this
   have HM:Hid (Zam wr (.slice A ln c) (Zad (bytes s))):=by have:=hM.out; rw [e1] at this; exact this
   have HBx:=zh (HB.out.ext hF.out)
   have HEx:=zh (HE.out.trans hF.out)
   have hbe:=zh (Zlg s)
   clear e1 hall hM
   go_wp2_with fail
   refine (ZdF false _ _ _ HM.out).mono ?_
   rintro e w2 ⟨_,rfl,hI,hF2⟩
   obtain ⟨s2,A2,l2,c2,rfl⟩:=hI.shp
   have HI:=zh hI
   have HB':=zh (HBx.out.ext hF2)
   have HE':=zh (HEx.out.trans hF2)
   obtain ⟨k0,k1,k2,k3⟩:=HB'.out.cell2
   clear hI hF2
   go_wp2
   have hFs:Fr (fun i=>i=w.heap.size) w2 ((w2.setCell ⟨w.heap.size,0,none⟩ (.bool s2)).setCell ⟨w.heap.size,1,none⟩ (.slice A2 l2 c2)):=((Fr.refl (fun i=>i=w.heap.size) _).setCell (p:=⟨w.heap.size,0,none⟩) (Or.inl rfl) _).setCell (p:=⟨w.heap.size,1,none⟩) (Or.inl rfl) _
   refine Zlf (b := !s.toList.isEmpty) rfl rfl rfl ((HB'.out.set_ 0 _).set_ 1 _) ?_ (by rw [HA.out,hbe.out]; rfl) (HE'.out.next hFs (fun i hi e=>by omega))
   rw [HA.out]
   exact HI.out.oth HB'.out Zbr hFs
end Go.Proofs.YtcpjeaaapocoeaaGreatDoor

namespace Go.Proofs.YtcpjeaaapocoeaaGreatDoor
open Go.RowKit
def Zat (c:UInt8):Bool:=c != 47
def ZbR (l:List UInt8):Option Rat :=
 if (((Zaz l).2.takeWhile Zat).all Zaj && !((Zaz l).2.takeWhile Zat).isEmpty)=false then none
 else if (Zaz l).2.drop ((Zaz l).2.takeWhile Zat).length=[] then
  (if ZaA (((sg (Zaz l).1 (Zad ((Zaz l).2.takeWhile Zat)):Int)):Rat)=l then some (((sg (Zaz l).1 (Zad ((Zaz l).2.takeWhile Zat)):Int)):Rat) else none)
 else if (((Zaz l).2.drop (((Zaz l).2.takeWhile Zat).length + 1)).all Zaj && !((Zaz l).2.drop (((Zaz l).2.takeWhile Zat).length + 1)).isEmpty)=false∨Zad ((Zaz l).2.drop (((Zaz l).2.takeWhile Zat).length + 1))=0 then none
 else (if ZaA (Rat.divInt (sg (Zaz l).1 (Zad ((Zaz l).2.takeWhile Zat))) (Zad ((Zaz l).2.drop (((Zaz l).2.takeWhile Zat).length + 1)):Int))=l then some (Rat.divInt (sg (Zaz l).1 (Zad ((Zaz l).2.takeWhile Zat))) (Zad ((Zaz l).2.drop (((Zaz l).2.takeWhile Zat).length + 1)):Int)) else none)
theorem Znx {l:List UInt8} {q:Rat} (h:ZbR l=some q):ZaA q=l:=by
 unfold ZbR at h
 split at h
 ·cases h
 split at h
 ·split at h
  ·rename_i e; injection h with h; rw [← h]; exact e
  ·cases h
 split at h
 ·cases h
 ·split at h
  ·rename_i e; injection h with h; rw [← h]; exact e
  ·cases h
theorem ZgJ {l:List UInt8} (h:l.all Zaj=true):l.all Zat=true:=by
 rw [List.all_eq_true] at *
 intro x hx
 have:=h x hx
 unfold Zat
 simp
 rintro rfl
 exact absurd this (by decide)
theorem Zny (q:Rat):ZbR (ZaA q)=some q:=by
 by_cases h:q.den=1
 ·have ht:ZaA q=Lib.itoa q.num ++ []:=by unfold ZaA; rw [if_pos h,List.append_nil]
  have hu:=Zfi q.num []
  rw [← ht,List.append_nil] at hu
  obtain ⟨h1,h2⟩:=Zdu (ZgJ (ZcC q.num.natAbs))
  unfold ZbR
  rw [hu]
  simp only []
  rw [h1,ZcC,Zd1,Zlh,ZiR h]
  rw [if_neg (by simp [Zbe]),List.drop_of_length_le (Nat.le_refl _),if_pos rfl,if_pos rfl]
 ·have ht:ZaA q=Lib.itoa q.num ++ 47 :: Lib.decDigits q.den:=by unfold ZaA; rw [if_neg h,ZfU]; simp
  have hu:=Zfi q.num (47 :: Lib.decDigits q.den)
  rw [← ht] at hu
  obtain ⟨h1,h2⟩:=Zfw (p:=Zat) (r:=Lib.decDigits q.den) (c:=47) (ZgJ (ZcC q.num.natAbs)) (by decide)
  have hd:=q.den_nz
  have hdr:(Lib.decDigits q.num.natAbs ++ 47 :: Lib.decDigits q.den).drop (Lib.decDigits q.num.natAbs).length=47 :: Lib.decDigits q.den:=by simp
  have hdr2:(Lib.decDigits q.num.natAbs ++ 47 :: Lib.decDigits q.den).drop ((Lib.decDigits q.num.natAbs).length + 1)=Lib.decDigits q.den:=by
   rw [← List.drop_drop,hdr]; rfl
  unfold ZbR
  rw [hu]
  simp only []
  rw [h1,hdr,hdr2,ZcC,ZcC,Zd1,Zd1,Zlh,Rat.num_divInt_den]
  rw [if_neg (by simp [Zbe]),if_neg (by simp),if_neg (by simp [Zbe]; exact hd),if_pos rfl]
theorem ZfV (l:List UInt8):ZbR l=ZaB l:=by
 cases h:ZbR l with
 | some q=>rw [← Znx h]; exact (Zj5 q).symm
 | none =>
   cases k:ZaB l with
   | none=>rfl
   | some q =>
     have:=ZgI k
     rw [← this,Zny] at h
     cases h
def Zh4 (w:World) (l:List UInt8) (e:Ending) (w':World):Prop :=
 ∃ v ok q,e=.returned (.tuple #[v, .bool ok])∧Ext w w'∧ZaE w' v q∧((ok=true∧ZaB l=some q)∨(ok=false∧ZaB l=none))
theorem Zli {q:Rat} {s:ByteArray} {b:Bool} (hn:ZbR (bytes s)=if ZaA q=bytes s then some q else none) (hb:b=decide (ZaA q=bytes s)):(b=true∧ZaB (bytes s)=some q)∨(b=false∧ZaB (bytes s)=none):=by
 rw [ZfV] at hn
 by_cases h:ZaA q=bytes s
 ·rw [if_pos h] at hn; left; exact ⟨by rw [hb,decide_eq_true h],hn⟩
 ·rw [if_neg h] at hn; right; exact ⟨by rw [hb,decide_eq_false h],hn⟩
theorem ZiS (t:ByteArray) (a b:Nat):(t.extract a b).size≤t.size:=by
 rw [← Zag,Zbv,List.length_take,List.length_drop,Zag]; omega
theorem Zf6 {l:List UInt8} {k:Nat} (h:(l.take k).all Zat=true) (hs:∀ h:k < l.length,Zat l[k]=false) (hk:k≤l.length):k=(l.takeWhile Zat).length:=by
 rw [(ZeI h hs).1,List.length_take]; omega
theorem ZoG {t:ByteArray} {p:Nat} (hp:p=((bytes t).takeWhile Zat).length):bytes (t.extract 0 p)=(bytes t).takeWhile Zat∧bytes (t.extract (p + 1) t.size)=(bytes t).drop (p + 1):=by
 rw [Zbv,Zbv]
 refine ⟨?_,?_⟩
 ·rw [List.drop_zero,Nat.sub_zero,hp]
  have:=List.takeWhile_prefix Zat (l:=bytes t)
  exact (List.prefix_iff_eq_take.1 this).symm
 ·rw [List.take_of_length_le (by rw [List.length_drop,Zag]; exact Nat.le_refl _)]
theorem Znz {l t:List UInt8} {neg:Bool} (hu:Zaz l=(neg,t)) (hb:(((t.takeWhile Zat)).all Zaj && !(t.takeWhile Zat).isEmpty)=false):ZbR l=none:=by
 unfold ZbR; rw [hu]; simp only []; rw [if_pos hb]
theorem Zl9 {l t:List UInt8} {neg:Bool} (hu:Zaz l=(neg,t)) (hb:(((t.takeWhile Zat)).all Zaj && !(t.takeWhile Zat).isEmpty)=true) (hd:t.length≤(t.takeWhile Zat).length) :
 ZbR l=if ZaA ((sg neg (Zad (t.takeWhile Zat)):Int):Rat)=l then some ((sg neg (Zad (t.takeWhile Zat)):Int):Rat) else none:=by
 unfold ZbR; rw [hu]; simp only []; rw [if_neg (by rw [hb]; simp),if_pos (List.drop_of_length_le hd)]
theorem ZiT {l t:List UInt8} {neg:Bool} (hu:Zaz l=(neg,t)) (hb:(((t.takeWhile Zat)).all Zaj && !(t.takeWhile Zat).isEmpty)=true) (hd:(t.takeWhile Zat).length < t.length)
 (h2:((t.drop ((t.takeWhile Zat).length + 1)).all Zaj && !(t.drop ((t.takeWhile Zat).length + 1)).isEmpty)=false∨Zad (t.drop ((t.takeWhile Zat).length + 1))=0):ZbR l=none:=by
 unfold ZbR; rw [hu]; simp only []; rw [if_neg (by rw [hb]; simp),if_neg (fun e=>by have:=congrArg List.length e; simp at this; omega),if_pos h2]
theorem ZnA {l t:List UInt8} {neg:Bool} (hu:Zaz l=(neg,t)) (hb:(((t.takeWhile Zat)).all Zaj && !(t.takeWhile Zat).isEmpty)=true) (hd:(t.takeWhile Zat).length < t.length)
 (h2:((t.drop ((t.takeWhile Zat).length + 1)).all Zaj && !(t.drop ((t.takeWhile Zat).length + 1)).isEmpty)=true) (h3:Zad (t.drop ((t.takeWhile Zat).length + 1))≠0) :
 ZbR l=if ZaA (Rat.divInt (sg neg (Zad (t.takeWhile Zat))) (Zad (t.drop ((t.takeWhile Zat).length + 1)):Int))=l then some (Rat.divInt (sg neg (Zad (t.takeWhile Zat))) (Zad (t.drop ((t.takeWhile Zat).length + 1)):Int)) else none:=by
 unfold ZbR; rw [hu]; simp only []; rw [if_neg (by rw [hb]; simp),if_neg (fun e=>by have:=congrArg List.length e; simp at this; omega),if_neg (fun e=>e.elim (fun e=>by rw [h2] at e; cases e) h3)]
theorem ZmJ {x:List UInt8} {s:ByteArray}:((⟨x.toArray⟩:ByteArray).toList == s.toList)=decide (x=bytes s):=by
 rw [Lib.toList_data,Lib.toList_data]
 by_cases h:x=bytes s
 ·rw [decide_eq_true h]; simp [h]
 ·rw [decide_eq_false h]; simpa using h
theorem ZmK {t:ByteArray} (h:(bytes t).all Zaj=true):Zad (bytes t) < 10 ^ t.size:=by
 have:=Zbp _ h
 rwa [Zag] at this
theorem ZkA {neg:Bool} {n:Nat}:(sg neg n).natAbs=n:=by cases neg<;>simp [sg]
theorem ZpN {s:ByteArray} (h:¬ bytes s=[]):∃ c,(bytes s).head? = some c∧s[0]? = some c:=by
 obtain ⟨h1,_⟩:=ZdE h
 exact ⟨s[0],ZeZ h1,by simp [h1]⟩
theorem Zlj {s:ByteArray} (h:¬ bytes s=[]):1≤s.size:=(ZdE h).1
theorem Zlk {s:ByteArray} {c:UInt8} (h:(bytes s).head? = some c) (hc:c=45):Zaz (bytes s)=(true,bytes (s.extract 1 s.size)):=by
 unfold Zaz
 rw [h,hc,if_pos rfl,Zbv,List.take_of_length_le (by rw [List.length_drop,Zag]; exact Nat.le_refl _),List.drop_one]
theorem Zma {s:ByteArray} {c:UInt8} (h:(bytes s).head? = some c) (hc:¬ c=45):Zaz (bytes s)=(false,bytes s):=by
 unfold Zaz
 rw [h,if_neg (by simpa using hc)]
theorem Zp9 {c b:UInt8} (h:c=b):((c.toNat:Int) == (b.toNat:Int))=true:=by subst h; simp
theorem Zqa {c b:UInt8} (h:¬ c=b):((c.toNat:Int) == (b.toNat:Int))=false:=by
 have:c.toNat≠b.toNat:=fun e=>h (UInt8.toNat_inj.1 e)
 simp; omega
theorem Zra {a b:Nat} (h:a < b):decide (((a:Nat):Int) < ((b:Nat):Int))=true:=decide_eq_true (by omega)
theorem ZqC {a b:Nat} (h:¬ a < b):decide (((a:Nat):Int) < ((b:Nat):Int))=false:=decide_eq_false (by omega)
theorem ZgK {a:Nat} (h:a≤140737488351232):IntKind.i64.wrap (((a:Nat):Int) + 1)=((a + 1:Nat):Int):=by rw [IntKind.wrap_i64]; omega
theorem ZpO {n:Nat} (h:n=0):(((n:Int).sign:Int) == 0)=true:=by subst h; rfl
theorem ZoH {n:Nat} (h:¬ n=0):(((n:Int).sign:Int) == 0)=false:=by
 rw [beq_eq_false_iff_ne]; exact fun e=>h (by have:=Int.sign_eq_zero_iff_zero.1 e; omega)
theorem ZmL {w w':World} {e:Ending} {l:List UInt8} (h:ZiP w l e w') (hd:l.all Zaj=true) (hne:l≠[]):Zbh (fun x:ShI=>.tuple #[Zbz x, .bool true]) (fun x w=>Zak w (Zbz x) (Zad l:Int)) w e w':=by
 obtain ⟨v,b,rfl,rfl,hI,Q⟩:=h
 rw [if_pos hd] at hI
 obtain ⟨s,A,l',c,rfl⟩:=hI.shp
 refine ⟨(s,A,l',c),?_,Q,boxn Q (fun S w'' hS hF=>hI.nrb hS hF)⟩
 rw [hd,show l.isEmpty=false by simpa using hne]; rfl
theorem Zeo {P:Program} {o:Oper} {ρ:Operand→Value} {w:World} {t:TypeId} {x i:Operand} {b:ByteArray} {k:Nat} {c:UInt8} (ho:o.op=Op.index t x i) (ht:P.underlying t=some .string) (hx:ρ x=.string b) (hi:ρ i=.int .i64 (k:Int)) (hc:b[k]? = some c):(execOp ρ o).run P w=.ok (.value (.int .u8 (c.toNat:Int))) w:=by
 simp [execOp,ho,Instr.index,asIntOf,underlying,ht,hx,hi,hc,Result.andThen]
theorem Zll {w w':World} {e:Ending} {l:List UInt8} (h:ZiP w l e w') (hb:¬ (l.all Zaj && !l.isEmpty)=true):Zbh (fun x:ShI=>.tuple #[Zbz x, .bool false]) (fun _ _=>True) w e w':=by
 obtain ⟨v,b,rfl,rfl,hI,Q⟩:=h
 obtain ⟨s,A,l',c,rfl⟩:=hI.shp
 exact ⟨(s,A,l',c),by rw [Bool.eq_false_iff.2 hb]; rfl,Q,BoxN.pure trivial⟩
theorem Zj7 {l:List UInt8} (h:(l.all Zaj && !l.isEmpty)=true):l.all Zaj=true∧l≠[]:=by
 rw [Bool.and_eq_true] at h
 exact ⟨h.1,fun e=>by rw [e] at h; simp at h⟩
theorem ZaE.whole {w:World} {s:Bool} {A:Option Addr} {l c:Nat} {z:Int} (h:Zak w (.agg #[.bool s, .slice A l c]) z):ZaE w (.agg #[.bool s, .slice A l c, .bool false, .slice none 0 0]) ((z:Int):Rat) :=
 ZaE.of h (by rw [Zdy (by rfl)]; exact Zak.nil _)
theorem Zrb {n k:Nat} (h:n < 10 ^ k) (hk:k≤140737488351232):ZaZ ((n:Nat):Int):=by
 have:=Zhh h
 unfold ZaZ
 rw [Int.natAbs_natCast]; omega
theorem ZqD {s:Bool} {n k:Nat} (h:n < 10 ^ k) (hk:k≤140737488351232):ZaZ (sg s n):=by
 have:=Zhh h
 unfold ZaZ
 rw [ZkA]; omega
theorem ZmM {x y:Int} {a b j:Nat} (hy:y≠0) (hx:x.natAbs < a) (hb:y.natAbs < b) (hj:j≤140737488351232) {k:Nat} (hk:k≤140737488351232):((Rat.divInt x y).num.natAbs < a∧j≤140737488355000)∧((Rat.divInt x y).den < b∧k≤140737488355000):=by
 refine ⟨⟨Nat.lt_of_le_of_lt ?_ hx,by omega⟩,Nat.lt_of_le_of_lt ?_ hb,by omega⟩
 ·rw [Rat.num_divInt,Int.natAbs_ediv_of_dvd]
  ·refine Nat.le_trans (Nat.div_le_self _ _) ?_
   rw [Int.natAbs_mul]
   rcases Int.lt_or_gt_of_ne hy with h | h
   ·rw [Int.sign_eq_neg_one_of_neg h]; simp
   ·rw [Int.sign_eq_one_of_pos h]; simp
  ·exact Int.dvd_mul_of_dvd_right (Int.gcd_dvd_right _ _)
 ·rw [Rat.den_divInt,if_neg hy]
  exact Nat.div_le_self _ _
theorem ZnB {n:Nat} (h:¬ n=0):((n:Nat):Int)≠0:=by omega
theorem ZqE:(1:Nat) < 10 ^ 1∧1≤140737488355000:=by decide
theorem ZqF {t:ByteArray} {i:Nat} {c:UInt8} (hI:((bytes t).take i).all Zat=true) (hc:t[i]? = some c) (h:¬ c=47):((bytes t).take (i + 1)).all Zat=true:=by
 have hi:i < t.size:=by
  rcases Nat.lt_or_ge i t.size with h' | h'
  ·exact h'
  ·rw [getElem?_neg t i (by omega)] at hc; cases hc
 have hc':t[i]=c:=by
  rw [getElem?_pos t i hi] at hc; exact Option.some.inj hc
 rw [Zgv t i hi,List.all_append,hI,hc']
 simp [Zat,h]
theorem Zrc {t:ByteArray} {i:Nat} {c:UInt8} (hI:((bytes t).take i).all Zat=true) (hc:t[i]? = some c) (h:c=47) (hi:i≤t.size):i=((bytes t).takeWhile Zat).length:=by
 refine Zf6 hI (fun hlt=>?_) (by rw [Zag]; exact hi)
 have hi':i < t.size:=by rw [← Zag]; exact hlt
 rw [getElem?_pos t i hi'] at hc
 have:(bytes t)[i]=47:=(Option.some.inj hc).trans h
 rw [this]; rfl
theorem Zrd {t:ByteArray} (hI:((bytes t).take t.size).all Zat=true):t.size=((bytes t).takeWhile Zat).length :=
 Zf6 hI (fun h=>by rw [Zag] at h; omega) (by rw [Zag]; exact Nat.le_refl _)
theorem Zj8 (s:ByteArray) (w:World) (hs:s.size≤140737488351232) :
 Calls Tryz.prog 271 #[.string s] w (Zh4 w (bytes s)):=by
 refine Za6 (Φ:=fun w=>True) Tryz.func271 rfl (by kernel_rfl) (fun w' hf=>trivial) ?_
 refine Zac (Zab (xr 2 [(0, .v (.string s)),(2, .p 2 0),(3, .v (.bool false))] [bR4 2 157 false none 0 0 false none 0 0] ?_))
 refine xe (Zaa (Zac (Zab (xr 2 [(0, .v (.string s)),(2, .p 2 0),(3, .v (.bool false)),(4, .v (.string s))] [bR4 2 157 false none 0 0 false none 0 0] ?_))))
 refine xe (Zaa ?_)
 refine Zk2 (fun ss ff=>∃ (b:Bool),ss=ofL [(0, .v (.string s)),(2, .p 2 0),(3, .v (.bool false)),(4, .v (.string s)),(5, .v (.bool b))] [(2,157,[.v (.bool false), .v (.slice none 0 0), .v (.bool false), .v (.slice none 0 0)])]∧ff=(fun w=>True)∧((b=true→Zaz (bytes s)=(true,bytes (s.extract 1 s.size))∧1≤s.size)∧(b=false→Zaz (bytes s)=(false,bytes s)))) ?_ ?_
 ·by_cases he:bytes s=[]
  ·have hs0:s.size=0:=by rw [← Zag,he]; rfl
   refine Zab (xr 3 [(0, .v (.string s)),(2, .p 2 0),(3, .v (.bool false)),(4, .v (.string s)),(16, .v (.bool (decide (((s).size:Int) > 0))))] [bR4 2 157 false none 0 0 false none 0 0] ?_)
   rw [(show decide (((s).size:Int) > 0)=false from decide_eq_false (by omega))]
   refine xr 6 [(0, .v (.string s)),(2, .p 2 0),(3, .v (.bool false)),(4, .v (.string s)),(5, .v (.bool false))] [bR4 2 157 false none 0 0 false none 0 0] ?_
   refine xe ?_
   refine SXq.weak [(0, .v (.string s)),(2, .p 2 0),(3, .v (.bool false)),(4, .v (.string s)),(5, .v (.bool false))] [(2,157,[.v (.bool false), .v (.slice none 0 0), .v (.bool false), .v (.slice none 0 0)])] (Ψ:=fun w=>True) (ZaM.of (by kernel_rfl)) (by kernel_rfl) (fun w Q=>trivial) ?_
   exact Zd0 ⟨false,rfl,rfl,⟨fun h=>(by cases h),fun _=>(by unfold Zaz; rw [he]; rfl)⟩⟩
  ·obtain ⟨c0,h0,hc0⟩:=ZpN he
   have hs0:=Zlj he
   by_cases hm:c0=45
   ·refine Zab (xr 3 [(0, .v (.string s)),(2, .p 2 0),(3, .v (.bool false)),(4, .v (.string s)),(16, .v (.bool (decide (((s).size:Int) > 0))))] [bR4 2 157 false none 0 0 false none 0 0] ?_)
    rw [(show decide (((s).size:Int) > 0)=true from decide_eq_true (by omega))]
    refine xr 2 [(0, .v (.string s)),(2, .p 2 0),(3, .v (.bool false)),(4, .v (.string s)),(17, .v (.bool true)),(18, .v (.string s))] [bR4 2 157 false none 0 0 false none 0 0] ?_
    refine ZcW 19 (.int .u8 (c0.toNat:Int)) (by kernel_rfl) (by kernel_rfl) (by kernel_rfl) (by kernel_rfl) (by kernel_rfl) (by kernel_rfl) (fun w R Q=>Zeo (t:=9) (x:=.tmp 18) (k:=0) (i:=.const (.int .i64 0)) (by kernel_rfl) (by kernel_rfl) (by kernel_rfl) (by rfl) hc0) ?_
    refine xr 1 [(0, .v (.string s)),(2, .p 2 0),(3, .v (.bool false)),(4, .v (.string s)),(17, .v (.bool true)),(20, .v (.bool (((c0.toNat:Int):Int) == 45)))] [bR4 2 157 false none 0 0 false none 0 0] ?_
    rw [(show ((c0.toNat:Int) == 45)=true from Zp9 hm)]
    refine xr 2 [(0, .v (.string s)),(2, .p 2 0),(3, .v (.bool false)),(4, .v (.string s)),(5, .v (.bool true))] [bR4 2 157 false none 0 0 false none 0 0] ?_
    refine xe ?_
    refine SXq.weak [(0, .v (.string s)),(2, .p 2 0),(3, .v (.bool false)),(4, .v (.string s)),(5, .v (.bool true))] [(2,157,[.v (.bool false), .v (.slice none 0 0), .v (.bool false), .v (.slice none 0 0)])] (Ψ:=fun w=>True) (ZaM.of (by kernel_rfl)) (by kernel_rfl) (fun w Q=>trivial) ?_
    exact Zd0 ⟨true,rfl,rfl,⟨fun _=>⟨Zlk h0 hm,Zlj he⟩,fun h=>(by cases h)⟩⟩
   ·refine Zab (xr 3 [(0, .v (.string s)),(2, .p 2 0),(3, .v (.bool false)),(4, .v (.string s)),(16, .v (.bool (decide (((s).size:Int) > 0))))] [bR4 2 157 false none 0 0 false none 0 0] ?_)
    rw [(show decide (((s).size:Int) > 0)=true from decide_eq_true (by omega))]
    refine xr 2 [(0, .v (.string s)),(2, .p 2 0),(3, .v (.bool false)),(4, .v (.string s)),(17, .v (.bool true)),(18, .v (.string s))] [bR4 2 157 false none 0 0 false none 0 0] ?_
    refine ZcW 19 (.int .u8 (c0.toNat:Int)) (by kernel_rfl) (by kernel_rfl) (by kernel_rfl) (by kernel_rfl) (by kernel_rfl) (by kernel_rfl) (fun w R Q=>Zeo (t:=9) (x:=.tmp 18) (k:=0) (i:=.const (.int .i64 0)) (by kernel_rfl) (by kernel_rfl) (by kernel_rfl) (by rfl) hc0) ?_
    refine xr 1 [(0, .v (.string s)),(2, .p 2 0),(3, .v (.bool false)),(4, .v (.string s)),(17, .v (.bool true)),(20, .v (.bool (((c0.toNat:Int):Int) == 45)))] [bR4 2 157 false none 0 0 false none 0 0] ?_
    rw [(show ((c0.toNat:Int) == 45)=false from Zqa (b:=45) hm)]
    refine xr 2 [(0, .v (.string s)),(2, .p 2 0),(3, .v (.bool false)),(4, .v (.string s)),(5, .v (.bool false))] [bR4 2 157 false none 0 0 false none 0 0] ?_
    refine xe ?_
    refine SXq.weak [(0, .v (.string s)),(2, .p 2 0),(3, .v (.bool false)),(4, .v (.string s)),(5, .v (.bool false))] [(2,157,[.v (.bool false), .v (.slice none 0 0), .v (.bool false), .v (.slice none 0 0)])] (Ψ:=fun w=>True) (ZaM.of (by kernel_rfl)) (by kernel_rfl) (fun w Q=>trivial) ?_
    exact Zd0 ⟨false,rfl,rfl,⟨fun h=>(by cases h),fun _=>Zma h0 hm⟩⟩
 ·rintro ss ff ⟨b,rfl,rfl,HB⟩
  refine Zk2 (fun ss ff=>∃ (t:ByteArray) (ng:Bool),ss=ofL [(0, .v (.string s)),(2, .p 2 0),(3, .v (.bool false)),(4, .v (.string t)),(5, .v (.bool ng))] [(2,157,[.v (.bool false), .v (.slice none 0 0), .v (.bool false), .v (.slice none 0 0)])]∧ff=(fun w=>True)∧(Zaz (bytes s)=(ng,bytes t))∧(t.size≤140737488351232)) ?_ ?_
  ·refine Zac (Zab (xr 1 [(0, .v (.string s)),(2, .p 2 0),(3, .v (.bool false)),(4, .v (.string s)),(5, .v (.bool b)),(22, .v (.bool b))] [bR4 2 157 false none 0 0 false none 0 0] ?_))
   refine xe (Zaa ?_)
   refine Zbc (b) (by kernel_rfl) (fun hb10=>?_) (fun hb10=>?_)
   ·have hbb:=hb10
    obtain ⟨HM0,hsz⟩:=HB.1 hbb
    obtain ⟨t,ht⟩:∃ t,s.extract 1 s.size=t:=⟨_,rfl⟩
    rw [ht] at HM0
    have lt:t.size≤140737488351232:=by rw [← ht,ByteArray.size_extract]; omega
    refine Zab (xr 1 [(0, .v (.string s)),(2, .p 2 0),(3, .v (.bool false)),(4, .v (.string s)),(5, .v (.bool b)),(23, .v (.string s))] [bR4 2 157 false none 0 0 false none 0 0] ?_)
    refine ZcW 24 (.string t) (by kernel_rfl) (by kernel_rfl) (by kernel_rfl) (by kernel_rfl) (by kernel_rfl) (by kernel_rfl) (fun w R Q=>Zdb 1 _ (t:=9) (x:=(Operand.tmp 23)) (lo:=(some (Operand.const (Value.int IntKind.i64 1)))) (hi:=none) (by kernel_rfl) (by kernel_rfl) (by kernel_rfl) (Or.inr rfl) (Or.inl ⟨rfl,rfl⟩) hsz (Nat.le_refl _) ht) ?_
    refine xr 1 [(0, .v (.string s)),(2, .p 2 0),(3, .v (.bool false)),(4, .v (.string t)),(5, .v (.bool b))] [bR4 2 157 false none 0 0 false none 0 0] ?_
    refine xe ?_
    refine SXq.weak [(0, .v (.string s)),(2, .p 2 0),(3, .v (.bool false)),(4, .v (.string t)),(5, .v (.bool b))] [(2,157,[.v (.bool false), .v (.slice none 0 0), .v (.bool false), .v (.slice none 0 0)])] (Ψ:=fun w=>True) (ZaM.of (by kernel_rfl)) (by kernel_rfl) (fun w Q=>trivial) ?_
    exact Zd0 ⟨t,b,rfl,rfl,(by rw [hbb]; exact HM0),lt⟩
   ·have hbb:=hb10
    refine Zav ?_
    refine SXq.weak [(0, .v (.string s)),(2, .p 2 0),(3, .v (.bool false)),(4, .v (.string s)),(5, .v (.bool b))] [(2,157,[.v (.bool false), .v (.slice none 0 0), .v (.bool false), .v (.slice none 0 0)])] (Ψ:=fun w=>True) (ZaM.of (by kernel_rfl)) (by kernel_rfl) (fun w Q=>trivial) ?_
    exact Zd0 ⟨s,b,rfl,rfl,(by rw [hbb]; exact HB.2 hbb),hs⟩
  ·rintro ss ff ⟨t,ng,rfl,rfl,HM,lt⟩
   refine Zac (Zab (xr 3 [(0, .v (.string s)),(2, .p 2 0),(3, .v (.bool false)),(4, .v (.string t)),(5, .v (.bool ng)),(6, .v (.int .i64 ((t).size:Int)))] [bR4 2 157 false none 0 0 false none 0 0] ?_))
   refine xe (Zaa ?_)
   refine Zk2 (fun ss ff=>∃ (p:Nat),ss=ofL [(0, .v (.string s)),(2, .p 2 0),(3, .v (.bool false)),(4, .v (.string t)),(5, .v (.bool ng)),(6, .v (.int .i64 ((p:Nat):Int)))] [(2,157,[.v (.bool false), .v (.slice none 0 0), .v (.bool false), .v (.slice none 0 0)])]∧ff=(fun w=>True)∧(p=((bytes t).takeWhile Zat).length)∧(p≤t.size)) ?_ ?_
   ·refine Zac (Zab (xr 1 [(0, .v (.string s)),(2, .p 2 0),(3, .v (.bool false)),(4, .v (.string t)),(5, .v (.bool ng)),(6, .v (.int .i64 ((t).size:Int))),(7, .v (.int .i64 0))] [bR4 2 157 false none 0 0 false none 0 0] ?_))
    refine xe (Zaa (ZaP ?_))
    refine SXc.weak [(0, .v (.string s)),(2, .p 2 0),(3, .v (.bool false)),(4, .v (.string t)),(5, .v (.bool ng)),(6, .v (.int .i64 ((t).size:Int))),(7, .v (.int .i64 ((0:Nat):Int)))] [(2,157,[.v (.bool false), .v (.slice none 0 0), .v (.bool false), .v (.slice none 0 0)])] (Ψ:=fun w=>True) (ZaM.of (by kernel_rfl)) (by kernel_rfl) (fun w Q=>trivial) ?_
    refine ZbU (fun nn ss ff=>∃ (i:Nat),ss=ofL [(0, .v (.string s)),(2, .p 2 0),(3, .v (.bool false)),(4, .v (.string t)),(5, .v (.bool ng)),(6, .v (.int .i64 ((t).size:Int))),(7, .v (.int .i64 ((i:Nat):Int)))] [(2,157,[.v (.bool false), .v (.slice none 0 0), .v (.bool false), .v (.slice none 0 0)])]∧ff=(fun w=>True)∧(i≤t.size)∧(((bytes t).take i).all Zat=true)∧nn=t.size - i) (t.size - 0) ⟨0,rfl,rfl,(Nat.zero_le _),rfl,rfl⟩ ?_
    rintro nn ss ff ⟨i,rfl,rfl,hi,hI,rfl⟩
    refine Zac (Zac (Zab (xr 4 [(0, .v (.string s)),(2, .p 2 0),(3, .v (.bool false)),(4, .v (.string t)),(5, .v (.bool ng)),(6, .v (.int .i64 ((t).size:Int))),(7, .v (.int .i64 ((i:Nat):Int))),(30, .v (.bool (decide (((i:Nat):Int) < ((t).size:Int)))))] [bR4 2 157 false none 0 0 false none 0 0] ?_)))
    refine xe (Zaa ?_)
    refine Zbc ((decide (((i:Nat):Int) < ((t).size:Int)))) (by kernel_rfl) (fun hb11=>?_) (fun hb11=>?_)
    ·have hlt:i < t.size:=by have:=of_decide_eq_true hb11; omega
     obtain ⟨c,hc⟩:∃ c,t[i]? = some c:=⟨t[i],by simp [hlt]⟩
     refine Zav (Zaa (Zac (ZaP (Zac ?_))))
     by_cases h47:c=47
     ·refine Zab (xr 2 [(0, .v (.string s)),(2, .p 2 0),(3, .v (.bool false)),(4, .v (.string t)),(5, .v (.bool ng)),(6, .v (.int .i64 ((t).size:Int))),(7, .v (.int .i64 ((i:Nat):Int))),(33, .v (.string t)),(34, .v (.int .i64 ((i:Nat):Int)))] [bR4 2 157 false none 0 0 false none 0 0] ?_)
      refine ZcW 35 (.int .u8 (c.toNat:Int)) (by kernel_rfl) (by kernel_rfl) (by kernel_rfl) (by kernel_rfl) (by kernel_rfl) (by kernel_rfl) (fun w R Q=>Zeo (t:=9) (x:=.tmp 33) (k:=i) (i:=.tmp 34) (by kernel_rfl) (by kernel_rfl) (by kernel_rfl) (by kernel_rfl) hc) ?_
      refine xr 1 [(0, .v (.string s)),(2, .p 2 0),(3, .v (.bool false)),(4, .v (.string t)),(5, .v (.bool ng)),(6, .v (.int .i64 ((t).size:Int))),(7, .v (.int .i64 ((i:Nat):Int))),(36, .v (.bool (((c.toNat:Int):Int) == 47)))] [bR4 2 157 false none 0 0 false none 0 0] ?_
      rw [(show ((c.toNat:Int) == 47)=true from Zp9 h47)]
      refine xr 0 [(0, .v (.string s)),(2, .p 2 0),(3, .v (.bool false)),(4, .v (.string t)),(5, .v (.bool ng)),(6, .v (.int .i64 ((t).size:Int))),(7, .v (.int .i64 ((i:Nat):Int))),(36, .v (.bool true))] [bR4 2 157 false none 0 0 false none 0 0] ?_
      refine xe (Zaa (xa (Zac (Zab (xr 2 [(0, .v (.string s)),(2, .p 2 0),(3, .v (.bool false)),(4, .v (.string t)),(5, .v (.bool ng)),(6, .v (.int .i64 ((i:Nat):Int))),(7, .v (.int .i64 ((i:Nat):Int)))] [bR4 2 157 false none 0 0 false none 0 0] ?_)))))
      refine xe (Zaa (ZbL ?_))
      refine Zqn (by kernel_rfl) ?_
      refine Zaw (Zaw (Zcb ?_))
      refine SXq.weak [(0, .v (.string s)),(2, .p 2 0),(3, .v (.bool false)),(4, .v (.string t)),(5, .v (.bool ng)),(6, .v (.int .i64 ((i:Nat):Int)))] [(2,157,[.v (.bool false), .v (.slice none 0 0), .v (.bool false), .v (.slice none 0 0)])] (Ψ:=fun w=>True) (ZaM.of (by kernel_rfl)) (by kernel_rfl) (fun w Q=>trivial) ?_
      exact Zd0 ⟨i,rfl,rfl,Zrc hI hc h47 hi,hi⟩
     ·refine Zab (xr 2 [(0, .v (.string s)),(2, .p 2 0),(3, .v (.bool false)),(4, .v (.string t)),(5, .v (.bool ng)),(6, .v (.int .i64 ((t).size:Int))),(7, .v (.int .i64 ((i:Nat):Int))),(33, .v (.string t)),(34, .v (.int .i64 ((i:Nat):Int)))] [bR4 2 157 false none 0 0 false none 0 0] ?_)
      refine ZcW 35 (.int .u8 (c.toNat:Int)) (by kernel_rfl) (by kernel_rfl) (by kernel_rfl) (by kernel_rfl) (by kernel_rfl) (by kernel_rfl) (fun w R Q=>Zeo (t:=9) (x:=.tmp 33) (k:=i) (i:=.tmp 34) (by kernel_rfl) (by kernel_rfl) (by kernel_rfl) (by kernel_rfl) hc) ?_
      refine xr 1 [(0, .v (.string s)),(2, .p 2 0),(3, .v (.bool false)),(4, .v (.string t)),(5, .v (.bool ng)),(6, .v (.int .i64 ((t).size:Int))),(7, .v (.int .i64 ((i:Nat):Int))),(36, .v (.bool (((c.toNat:Int):Int) == 47)))] [bR4 2 157 false none 0 0 false none 0 0] ?_
      rw [(show ((c.toNat:Int) == 47)=false from Zqa (b:=47) h47)]
      refine xr 0 [(0, .v (.string s)),(2, .p 2 0),(3, .v (.bool false)),(4, .v (.string t)),(5, .v (.bool ng)),(6, .v (.int .i64 ((t).size:Int))),(7, .v (.int .i64 ((i:Nat):Int))),(36, .v (.bool false))] [bR4 2 157 false none 0 0 false none 0 0] ?_
      refine xe (Zaa (xb (Zav (ZbP (Zaa (Zab (xr 2 [(0, .v (.string s)),(2, .p 2 0),(3, .v (.bool false)),(4, .v (.string t)),(5, .v (.bool ng)),(6, .v (.int .i64 ((t).size:Int))),(7, .v (.int .i64 ((i:Nat):Int))),(32, .v (.int .i64 (IntKind.i64.wrap (((i:Nat):Int) + 1))))] [bR4 2 157 false none 0 0 false none 0 0] ?_)))))))
      rw [ZgK (a:=i) (by omega)]
      refine xr 1 [(0, .v (.string s)),(2, .p 2 0),(3, .v (.bool false)),(4, .v (.string t)),(5, .v (.bool ng)),(6, .v (.int .i64 ((t).size:Int))),(7, .v (.int .i64 ((i + 1:Nat):Int)))] [bR4 2 157 false none 0 0 false none 0 0] ?_
      refine xe ?_
      refine SXq.weak [(0, .v (.string s)),(2, .p 2 0),(3, .v (.bool false)),(4, .v (.string t)),(5, .v (.bool ng)),(6, .v (.int .i64 ((t).size:Int))),(7, .v (.int .i64 (((i + 1):Nat):Int)))] [(2,157,[.v (.bool false), .v (.slice none 0 0), .v (.bool false), .v (.slice none 0 0)])] (Ψ:=fun w=>True) (ZaM.of (by kernel_rfl)) (by kernel_rfl) (fun w Q=>trivial) ?_
      exact Zbm (t.size - (i + 1)) (by omega) ⟨(i + 1),rfl,rfl,hlt,ZqF hI hc h47,rfl⟩
    ·have hie:i=t.size:=by have:=of_decide_eq_false hb11; omega
     refine ZbL (Zaw (Zaw (Zcb ?_)))
     refine SXq.weak [(0, .v (.string s)),(2, .p 2 0),(3, .v (.bool false)),(4, .v (.string t)),(5, .v (.bool ng)),(6, .v (.int .i64 ((t.size:Nat):Int)))] [(2,157,[.v (.bool false), .v (.slice none 0 0), .v (.bool false), .v (.slice none 0 0)])] (Ψ:=fun w=>True) (ZaM.of (by kernel_rfl)) (by kernel_rfl) (fun w Q=>trivial) ?_
     exact Zd0 ⟨t.size,rfl,rfl,Zrd (hie ▸ hI),(Nat.le_refl _)⟩
   ·rintro ss ff ⟨p,rfl,rfl,hp,hpt⟩
    refine Zac ?_
    obtain ⟨x,hx⟩:∃ x,t.extract 0 p=x:=⟨_,rfl⟩
    have HX:bytes x=(bytes t).takeWhile Zat:=by rw [← hx]; exact (ZoG hp).1
    have lx:x.size≤140737488351232:=Nat.le_trans (by rw [← hx]; exact ZiS _ _ _) lt
    by_cases hA:((bytes x).all Zaj && !(bytes x).isEmpty)=true
    ·obtain ⟨dx,nx⟩:=Zj7 hA
     have MX:=ZmK dx
     refine Zab (xr 2 [(0, .v (.string s)),(2, .p 2 0),(3, .v (.bool false)),(4, .v (.string t)),(5, .v (.bool ng)),(6, .v (.int .i64 ((p:Nat):Int))),(39, .v (.string t)),(40, .v (.int .i64 ((p:Nat):Int)))] [bR4 2 157 false none 0 0 false none 0 0] ?_)
     refine ZcW 41 (.string x) (by kernel_rfl) (by kernel_rfl) (by kernel_rfl) (by kernel_rfl) (by kernel_rfl) (by kernel_rfl) (fun w R Q=>Zdb 0 p (t:=9) (x:=(Operand.tmp 39)) (lo:=none) (hi:=(some (Operand.tmp 40))) (by kernel_rfl) (by kernel_rfl) (by kernel_rfl) (Or.inl ⟨rfl,rfl⟩) (Or.inr (by kernel_rfl)) (by omega) hpt hx) ?_
     refine xr 0 [(0, .v (.string s)),(2, .p 2 0),(3, .v (.bool false)),(4, .v (.string t)),(5, .v (.bool ng)),(6, .v (.int .i64 ((p:Nat):Int))),(41, .v (.string x))] [bR4 2 157 false none 0 0 false none 0 0] ?_
     refine xc 337 [.string x] 42 (fun x:ShI=>.tuple #[Zbz x, .bool true]) _ (fun w R Q=>(Zc4 x _ (by omega)).mono (fun _ _ h=>ZmL h dx nx)) (fun xx=>?_)
     obtain ⟨s12,A12,l12,c12⟩:=xx
     refine xr 6 [(0, .v (.string s)),(2, .p 2 0),(3, .v (.bool false)),(4, .v (.string t)),(5, .v (.bool ng)),(6, .v (.int .i64 ((p:Nat):Int))),(8, .p 8 0),(9, .v (.bool true))] [bI2 8 155 s12 A12 l12 c12,bR4 2 157 false none 0 0 false none 0 0] ?_
     refine xe (Zaa (Zac (Zac (Zab (xr 2 [(0, .v (.string s)),(2, .p 2 0),(3, .v (.bool false)),(4, .v (.string t)),(5, .v (.bool ng)),(6, .v (.int .i64 ((p:Nat):Int))),(8, .p 8 0),(46, .v (.bool false))] [bI2 8 155 s12 A12 l12 c12,bR4 2 157 false none 0 0 false none 0 0] ?_)))))
     refine xe (Zaa (xb (Zav (Zaa (Zac (Zab (xr 3 [(0, .v (.string s)),(2, .p 2 0),(3, .v (.bool false)),(4, .v (.string t)),(6, .v (.int .i64 ((p:Nat):Int))),(48, .v (.bool ng)),eS1 50 A12 l12 c12] [bR4 2 157 false none 0 0 false none 0 0] ?_)))))))
     refine xc 275 [.bool ng, .slice A12 l12 c12] 51 Zbz _ (fun w R Q=>(ZdF _ _ _ _ Q.2.mag).mono (fun _ _ h=>ZeL (by rw [show sg ng ((Zad (bytes x):Int)).natAbs=sg ng (Zad (bytes x)) from by rw [Int.natAbs_natCast]] at h; exact h))) (fun xx=>?_)
     obtain ⟨s13,A13,l13,c13⟩:=xx
     refine xr 3 [(0, .v (.string s)),(2, .p 2 0),(3, .v (.bool false)),(4, .v (.string t)),(6, .v (.int .i64 ((p:Nat):Int))),(10, .p 10 0)] [bR4 10 157 s13 A13 l13 c13 false none 0 0,bR4 2 157 false none 0 0 false none 0 0] ?_
     refine xe (Zaa (Zac (Zac ?_)))
     by_cases hl:p < t.size
     ·obtain ⟨q,hq⟩:∃ q,t.extract (p + 1) t.size=q:=⟨_,rfl⟩
      have HQ:bytes q=(bytes t).drop (p + 1):=by rw [← hq]; exact (ZoG hp).2
      have lq:q.size≤140737488351232:=Nat.le_trans (by rw [← hq]; exact ZiS _ _ _) lt
      refine Zab (xr 4 [(0, .v (.string s)),(2, .p 2 0),(3, .v (.bool false)),(4, .v (.string t)),(6, .v (.int .i64 ((p:Nat):Int))),(10, .p 10 0),(56, .v (.bool (decide (((p:Nat):Int) < ((t).size:Int)))))] [bR4 10 157 s13 A13 l13 c13 false none 0 0,bR4 2 157 false none 0 0 false none 0 0] ?_)
      rw [Zra hl]
      refine xr 0 [(0, .v (.string s)),(2, .p 2 0),(3, .v (.bool false)),(4, .v (.string t)),(6, .v (.int .i64 ((p:Nat):Int))),(10, .p 10 0),(56, .v (.bool true))] [bR4 10 157 s13 A13 l13 c13 false none 0 0,bR4 2 157 false none 0 0 false none 0 0] ?_
      refine xe (Zaa (xa (Zac ?_)))
      by_cases hQ:((bytes q).all Zaj && !(bytes q).isEmpty)=true
      ·obtain ⟨dq,nq⟩:=Zj7 hQ
       have MQ:=ZmK dq
       refine Zab (xr 3 [(0, .v (.string s)),(2, .p 2 0),(3, .v (.bool false)),(10, .p 10 0),(58, .v (.string t)),(60, .v (.int .i64 (IntKind.i64.wrap (((p:Nat):Int) + 1))))] [bR4 10 157 s13 A13 l13 c13 false none 0 0,bR4 2 157 false none 0 0 false none 0 0] ?_)
       rw [ZgK (a:=p) (by omega)]
       refine ZcW 61 (.string q) (by kernel_rfl) (by kernel_rfl) (by kernel_rfl) (by kernel_rfl) (by kernel_rfl) (by kernel_rfl) (fun w R Q=>Zdb (p + 1) _ (t:=9) (x:=(Operand.tmp 58)) (lo:=(some (Operand.tmp 60))) (hi:=none) (by kernel_rfl) (by kernel_rfl) (by kernel_rfl) (Or.inr (by kernel_rfl)) (Or.inl ⟨rfl,rfl⟩) (by omega) (Nat.le_refl _) hq) ?_
       refine xr 0 [(0, .v (.string s)),(2, .p 2 0),(3, .v (.bool false)),(10, .p 10 0),(61, .v (.string q))] [bR4 10 157 s13 A13 l13 c13 false none 0 0,bR4 2 157 false none 0 0 false none 0 0] ?_
       refine xc 337 [.string q] 62 (fun x:ShI=>.tuple #[Zbz x, .bool true]) _ (fun w R Q=>(Zc4 q _ (by omega)).mono (fun _ _ h=>ZmL h dq nq)) (fun xx=>?_)
       obtain ⟨s14,A14,l14,c14⟩:=xx
       refine xr 6 [(0, .v (.string s)),(2, .p 2 0),(3, .v (.bool false)),(10, .p 10 0),(11, .p 11 0),(12, .v (.bool true))] [bI2 11 155 s14 A14 l14 c14,bR4 10 157 s13 A13 l13 c13 false none 0 0,bR4 2 157 false none 0 0 false none 0 0] ?_
       refine xe (Zaa (Zac (Zac ?_)))
       by_cases hz:Zad (bytes q)=0
       ·refine Zab (xr 4 [(0, .v (.string s)),(2, .p 2 0),(3, .v (.bool false)),(10, .p 10 0),(11, .p 11 0),(67, .v (.bool false)),eI2 68 s14 A14 l14 c14] [bI2 11 155 s14 A14 l14 c14,bR4 10 157 s13 A13 l13 c13 false none 0 0,bR4 2 157 false none 0 0 false none 0 0] ?_)
        refine xc 258 [vI2 s14 A14 l14 c14] 69 (fun _:Unit=>.int .i64 ((Zad (bytes q):Int)).sign) _ (fun w R Q=>(ZgD _ ((Zad (bytes q):Int)) _ Q.2).mono (fun _ _ h=>Zay h rfl)) (fun xx=>?_)
        refine xr 1 [(0, .v (.string s)),(2, .p 2 0),(3, .v (.bool false)),(10, .p 10 0),(11, .p 11 0),(67, .v (.bool false)),(70, .v (.bool ((((Zad (bytes q):Int)).sign:Int) == 0)))] [bI2 11 155 s14 A14 l14 c14,bR4 10 157 s13 A13 l13 c13 false none 0 0,bR4 2 157 false none 0 0 false none 0 0] ?_
        rw [ZpO hz]
        refine xr 1 [(0, .v (.string s)),(2, .p 2 0),(3, .v (.bool false)),(10, .p 10 0),(11, .p 11 0),(71, .v (.bool true))] [bI2 11 155 s14 A14 l14 c14,bR4 10 157 s13 A13 l13 c13 false none 0 0,bR4 2 157 false none 0 0 false none 0 0] ?_
        refine xe (Zaa (xa (Zac (Zab (xr 3 [(0, .v (.string s)),(2, .p 2 0),(3, .v (.bool false)),(10, .p 10 0),(11, .p 11 0)] [bI2 11 155 s14 A14 l14 c14,bR4 10 157 s13 A13 l13 c13 false none 0 0,bR4 2 157 false none 0 0 false none 0 0] ?_)))))
        refine xe (Zaa (Zau (Zae (Zae ?_))))
        refine Zai (v:=.tuple #[.agg #[.bool false, .slice none 0 0, .bool false, .slice none 0 0], .bool false]) (by kernel_rfl) (fun w' R Q=>?_)
        exact ⟨_,false,0,rfl,R,ZaE.nil _,Or.inr ⟨rfl,by rw [← ZfV]; exact ZiT HM (by rw [← HX]; exact hA) (by rw [← hp,Zag]; exact hl) (by rw [← hp,← HQ]; exact Or.inr hz)⟩⟩
       ·refine Zab (xr 4 [(0, .v (.string s)),(2, .p 2 0),(3, .v (.bool false)),(10, .p 10 0),(11, .p 11 0),(67, .v (.bool false)),eI2 68 s14 A14 l14 c14] [bI2 11 155 s14 A14 l14 c14,bR4 10 157 s13 A13 l13 c13 false none 0 0,bR4 2 157 false none 0 0 false none 0 0] ?_)
        refine xc 258 [vI2 s14 A14 l14 c14] 69 (fun _:Unit=>.int .i64 ((Zad (bytes q):Int)).sign) _ (fun w R Q=>(ZgD _ ((Zad (bytes q):Int)) _ Q.2).mono (fun _ _ h=>Zay h rfl)) (fun xx=>?_)
        refine xr 1 [(0, .v (.string s)),(2, .p 2 0),(3, .v (.bool false)),(10, .p 10 0),(11, .p 11 0),(67, .v (.bool false)),(70, .v (.bool ((((Zad (bytes q):Int)).sign:Int) == 0)))] [bI2 11 155 s14 A14 l14 c14,bR4 10 157 s13 A13 l13 c13 false none 0 0,bR4 2 157 false none 0 0 false none 0 0] ?_
        rw [ZoH hz]
        refine xr 1 [(0, .v (.string s)),(2, .p 2 0),(3, .v (.bool false)),(10, .p 10 0),(11, .p 11 0),(71, .v (.bool false))] [bI2 11 155 s14 A14 l14 c14,bR4 10 157 s13 A13 l13 c13 false none 0 0,bR4 2 157 false none 0 0 false none 0 0] ?_
        refine xe (Zaa (xb (Zav (Zaa (Zab (xr 3 [(0, .v (.string s)),(2, .p 2 0),(3, .v (.bool false)),(10, .p 10 0),eI2 74 s13 A13 l13 c13,eI2 75 s14 A14 l14 c14] [bR4 10 157 s13 A13 l13 c13 false none 0 0,bR4 2 157 false none 0 0 false none 0 0] ?_))))))
        refine xc 173 [vI2 s13 A13 l13 c13,vI2 s14 A14 l14 c14] 76 ZcL _ (fun w R Q=>(Zow _ _ (sg ng (Zad (bytes x))) ((Zad (bytes q):Int)) _ Q.1.1.2 Q.1.2 (ZqD MX lx) (Zrb MQ lq) (ZnB hz)).mono (fun _ _=>Zoj)) (fun xx=>?_)
        obtain ⟨s15,A15,l15,c15,t15,B15,m15,d15⟩:=xx
        refine xr 1 [(0, .v (.string s)),(2, .p 2 0),(3, .v (.bool false)),(10, .p 10 0)] [bR4 10 157 s15 A15 l15 c15 t15 B15 m15 d15,bR4 2 157 false none 0 0 false none 0 0] ?_
        refine xe (Zaa (Zac ?_))
        refine ZbJ 7 (by kernel_rfl) (by kernel_rfl) Zas ?_
        refine xf 2 [(0, .v (.string s)),(2, .p 2 0),(3, .v (.bool false)),eR4 77 s15 A15 l15 c15 t15 B15 m15 d15,eR4 78 s15 A15 l15 c15 t15 B15 m15 d15] [bR4 10 157 s15 A15 l15 c15 t15 B15 m15 d15,bR4 2 157 false none 0 0 false none 0 0] ?_
        refine xd 67 [vR4 s15 A15 l15 c15 t15 B15 m15 d15] 79 (fun _:Unit=>.string ⟨(ZaA (Rat.divInt (sg ng (Zad (bytes x))) ((Zad (bytes q):Int)))).toArray⟩) _ (fun w R Q=>(ZiO _ (Rat.divInt (sg ng (Zad (bytes x))) ((Zad (bytes q):Int))) _ Q.2 x.size q.size (ZmM (k:=q.size) (ZnB hz) (by rw [ZkA]; exact MX) MQ lx lq).1 (ZmM (j:=x.size) (ZnB hz) (by rw [ZkA]; exact MX) MQ lx lq).2).mono (fun _ _ h=>Zay h rfl)) (fun xx=>?_)
        refine xf 4 [(2, .p 2 0),(3, .v (.bool ((⟨(ZaA (Rat.divInt (sg ng (Zad (bytes x))) ((Zad (bytes q):Int)))).toArray⟩:ByteArray).toList == (s:ByteArray).toList)))] [bR4 2 157 s15 A15 l15 c15 t15 B15 m15 d15,bR4 10 157 s15 A15 l15 c15 t15 B15 m15 d15,bR4 2 157 false none 0 0 false none 0 0] ?_
        refine xz (xe (Zaa (Zau ?_)))
        refine Zai (v:=.tuple #[.agg #[.bool s15, .slice A15 l15 c15, .bool t15, .slice B15 m15 d15], .bool ((⟨(ZaA (Rat.divInt (sg ng (Zad (bytes x))) ((Zad (bytes q):Int)))).toArray⟩:ByteArray).toList == (s:ByteArray).toList)]) (by kernel_rfl) (fun w' R Q=>?_)
        exact ⟨_,_,_,rfl,R,Q.1.2,Zli (by rw [ZnA HM (by rw [← HX]; exact hA) (by rw [← hp,Zag]; exact hl) (by rw [← hp,← HQ]; exact hQ) (by rw [← hp,← HQ]; exact hz),← hp,← HQ,← HX]) ZmJ⟩
      ·refine Zab (xr 3 [(0, .v (.string s)),(2, .p 2 0),(3, .v (.bool false)),(10, .p 10 0),(58, .v (.string t)),(60, .v (.int .i64 (IntKind.i64.wrap (((p:Nat):Int) + 1))))] [bR4 10 157 s13 A13 l13 c13 false none 0 0,bR4 2 157 false none 0 0 false none 0 0] ?_)
       rw [ZgK (a:=p) (by omega)]
       refine ZcW 61 (.string q) (by kernel_rfl) (by kernel_rfl) (by kernel_rfl) (by kernel_rfl) (by kernel_rfl) (by kernel_rfl) (fun w R Q=>Zdb (p + 1) _ (t:=9) (x:=(Operand.tmp 58)) (lo:=(some (Operand.tmp 60))) (hi:=none) (by kernel_rfl) (by kernel_rfl) (by kernel_rfl) (Or.inr (by kernel_rfl)) (Or.inl ⟨rfl,rfl⟩) (by omega) (Nat.le_refl _) hq) ?_
       refine xr 0 [(0, .v (.string s)),(2, .p 2 0),(3, .v (.bool false)),(10, .p 10 0),(61, .v (.string q))] [bR4 10 157 s13 A13 l13 c13 false none 0 0,bR4 2 157 false none 0 0 false none 0 0] ?_
       refine xc 337 [.string q] 62 (fun x:ShI=>.tuple #[Zbz x, .bool false]) _ (fun w R Q=>(Zc4 q _ (by omega)).mono (fun _ _ h=>Zll h hQ)) (fun xx=>?_)
       obtain ⟨s16,A16,l16,c16⟩:=xx
       refine xr 6 [(0, .v (.string s)),(2, .p 2 0),(3, .v (.bool false)),(10, .p 10 0),(11, .p 11 0),(12, .v (.bool false))] [bI2 11 155 s16 A16 l16 c16,bR4 10 157 s13 A13 l13 c13 false none 0 0,bR4 2 157 false none 0 0 false none 0 0] ?_
       refine xe (Zaa (Zac (Zac (Zab (xr 7 [(0, .v (.string s)),(2, .p 2 0),(3, .v (.bool false)),(10, .p 10 0),(11, .p 11 0),(71, .v (.bool true))] [bI2 11 155 s16 A16 l16 c16,bR4 10 157 s13 A13 l13 c13 false none 0 0,bR4 2 157 false none 0 0 false none 0 0] ?_)))))
       refine xe (Zaa (xa (Zac (Zab (xr 3 [(0, .v (.string s)),(2, .p 2 0),(3, .v (.bool false)),(10, .p 10 0),(11, .p 11 0)] [bI2 11 155 s16 A16 l16 c16,bR4 10 157 s13 A13 l13 c13 false none 0 0,bR4 2 157 false none 0 0 false none 0 0] ?_)))))
       refine xe (Zaa (Zau (Zae (Zae ?_))))
       refine Zai (v:=.tuple #[.agg #[.bool false, .slice none 0 0, .bool false, .slice none 0 0], .bool false]) (by kernel_rfl) (fun w' R Q=>?_)
       exact ⟨_,false,0,rfl,R,ZaE.nil _,Or.inr ⟨rfl,by rw [← ZfV]; exact ZiT HM (by rw [← HX]; exact hA) (by rw [← hp,Zag]; exact hl) (by rw [← hp,← HQ]; exact Or.inl (Bool.eq_false_iff.2 hQ))⟩⟩
     ·refine Zab (xr 4 [(0, .v (.string s)),(2, .p 2 0),(3, .v (.bool false)),(4, .v (.string t)),(6, .v (.int .i64 ((p:Nat):Int))),(10, .p 10 0),(56, .v (.bool (decide (((p:Nat):Int) < ((t).size:Int)))))] [bR4 10 157 s13 A13 l13 c13 false none 0 0,bR4 2 157 false none 0 0 false none 0 0] ?_)
      rw [ZqC hl]
      refine xr 0 [(0, .v (.string s)),(2, .p 2 0),(3, .v (.bool false)),(4, .v (.string t)),(6, .v (.int .i64 ((p:Nat):Int))),(10, .p 10 0),(56, .v (.bool false))] [bR4 10 157 s13 A13 l13 c13 false none 0 0,bR4 2 157 false none 0 0 false none 0 0] ?_
      refine xe (Zaa (xb (Zav (Zaa (Zac ?_)))))
      refine ZbJ 7 (by kernel_rfl) (by kernel_rfl) Zas ?_
      refine xf 2 [(0, .v (.string s)),(2, .p 2 0),(3, .v (.bool false)),eR4 77 s13 A13 l13 c13 false none 0 0,eR4 78 s13 A13 l13 c13 false none 0 0] [bR4 10 157 s13 A13 l13 c13 false none 0 0,bR4 2 157 false none 0 0 false none 0 0] ?_
      refine xd 67 [vR4 s13 A13 l13 c13 false none 0 0] 79 (fun _:Unit=>.string ⟨(ZaA (((sg ng (Zad (bytes x)):Int):Rat))).toArray⟩) _ (fun w R Q=>(ZiO _ (((sg ng (Zad (bytes x)):Int):Rat)) _ (ZaE.whole Q.2) x.size 1 ⟨by show (sg ng (Zad (bytes x))).natAbs < _; rw [ZkA]; exact MX,by omega⟩ ZqE).mono (fun _ _ h=>Zay h rfl)) (fun xx=>?_)
      refine xf 4 [(2, .p 2 0),(3, .v (.bool ((⟨(ZaA (((sg ng (Zad (bytes x)):Int):Rat))).toArray⟩:ByteArray).toList == (s:ByteArray).toList)))] [bR4 2 157 s13 A13 l13 c13 false none 0 0,bR4 10 157 s13 A13 l13 c13 false none 0 0,bR4 2 157 false none 0 0 false none 0 0] ?_
      refine xz (xe (Zaa (Zau ?_)))
      refine Zai (v:=.tuple #[.agg #[.bool s13, .slice A13 l13 c13, .bool false, .slice none 0 0], .bool ((⟨(ZaA (((sg ng (Zad (bytes x)):Int):Rat))).toArray⟩:ByteArray).toList == (s:ByteArray).toList)]) (by kernel_rfl) (fun w' R Q=>?_)
      exact ⟨_,_,_,rfl,R,(ZaE.whole Q.1.2),Zli (by rw [Zl9 HM (by rw [← HX]; exact hA) (by rw [← hp,Zag]; omega),← HX]) ZmJ⟩
    ·refine Zab (xr 2 [(0, .v (.string s)),(2, .p 2 0),(3, .v (.bool false)),(4, .v (.string t)),(5, .v (.bool ng)),(6, .v (.int .i64 ((p:Nat):Int))),(39, .v (.string t)),(40, .v (.int .i64 ((p:Nat):Int)))] [bR4 2 157 false none 0 0 false none 0 0] ?_)
     refine ZcW 41 (.string x) (by kernel_rfl) (by kernel_rfl) (by kernel_rfl) (by kernel_rfl) (by kernel_rfl) (by kernel_rfl) (fun w R Q=>Zdb 0 p (t:=9) (x:=(Operand.tmp 39)) (lo:=none) (hi:=(some (Operand.tmp 40))) (by kernel_rfl) (by kernel_rfl) (by kernel_rfl) (Or.inl ⟨rfl,rfl⟩) (Or.inr (by kernel_rfl)) (by omega) hpt hx) ?_
     refine xr 0 [(0, .v (.string s)),(2, .p 2 0),(3, .v (.bool false)),(4, .v (.string t)),(5, .v (.bool ng)),(6, .v (.int .i64 ((p:Nat):Int))),(41, .v (.string x))] [bR4 2 157 false none 0 0 false none 0 0] ?_
     refine xc 337 [.string x] 42 (fun x:ShI=>.tuple #[Zbz x, .bool false]) _ (fun w R Q=>(Zc4 x _ (by omega)).mono (fun _ _ h=>Zll h hA)) (fun xx=>?_)
     obtain ⟨s17,A17,l17,c17⟩:=xx
     refine xr 6 [(0, .v (.string s)),(2, .p 2 0),(3, .v (.bool false)),(4, .v (.string t)),(5, .v (.bool ng)),(6, .v (.int .i64 ((p:Nat):Int))),(8, .p 8 0),(9, .v (.bool false))] [bI2 8 155 s17 A17 l17 c17,bR4 2 157 false none 0 0 false none 0 0] ?_
     refine xe (Zaa (Zac (Zac (Zab (xr 2 [(0, .v (.string s)),(2, .p 2 0),(3, .v (.bool false)),(4, .v (.string t)),(5, .v (.bool ng)),(6, .v (.int .i64 ((p:Nat):Int))),(8, .p 8 0),(46, .v (.bool true))] [bI2 8 155 s17 A17 l17 c17,bR4 2 157 false none 0 0 false none 0 0] ?_)))))
     refine xe (Zaa (xa (Zac (Zab (xr 3 [(0, .v (.string s)),(2, .p 2 0),(3, .v (.bool false)),(4, .v (.string t)),(5, .v (.bool ng)),(6, .v (.int .i64 ((p:Nat):Int))),(8, .p 8 0)] [bI2 8 155 s17 A17 l17 c17,bR4 2 157 false none 0 0 false none 0 0] ?_)))))
     refine xe (Zaa (Zau (Zae ?_)))
     refine Zai (v:=.tuple #[.agg #[.bool false, .slice none 0 0, .bool false, .slice none 0 0], .bool false]) (by kernel_rfl) (fun w' R Q=>?_)
     exact ⟨_,false,0,rfl,R,ZaE.nil _,Or.inr ⟨rfl,by rw [← ZfV]; exact Znz HM (by rw [← HX]; exact Bool.eq_false_iff.2 hA)⟩⟩
end Go.Proofs.YtcpjeaaapocoeaaGreatDoor

namespace Go.Proofs.YtcpjeaaapocoeaaGreatDoor
open Go.RowKit
theorem ZmN {α:Type} (o:Option α):o=none∨∃ x,o=some x:=by cases o; exact Or.inl rfl; exact Or.inr ⟨_,rfl⟩
section
variable {w w':World} {e:Ending} {l:List UInt8}
theorem Zjs (h:Zhb w l e w') (hr:ZaB l=none):Zbh (fun x:ShQ=>.tuple #[ZcL x, .bool false]) (fun x w=>Zbq w (ZcL x) 0) w e w':=by
 obtain ⟨v,ok,rfl,Q,⟨rfl,q,h1,h2⟩ | ⟨rfl,h1,h2⟩⟩:=h
 ·rw [hr] at h1; cases h1
 ·obtain ⟨s,A,l,c,t,B,m,d,rfl⟩:=h2.shp
  exact ⟨(s,A,l,c,t,B,m,d),rfl,Q,boxn Q (fun S w'' hS hF=>h2.nrb hS hF)⟩
theorem Zjt {q:Rat} (h:Zhb w l e w') (hr:ZaB l=some q):Zbh (fun x:ShQ=>.tuple #[ZcL x, .bool true]) (fun x w=>Zbq w (ZcL x) q) w e w':=by
 obtain ⟨v,ok,rfl,Q,⟨rfl,q,h1,h2⟩ | ⟨rfl,h1,h2⟩⟩:=h
 ·rw [hr] at h1; injection h1 with h1; subst h1
  obtain ⟨s,A,l,c,t,B,m,d,rfl⟩:=h2.shp
  exact ⟨(s,A,l,c,t,B,m,d),rfl,Q,boxn Q (fun S w'' hS hF=>h2.nrb hS hF)⟩
 ·rw [hr] at h1; cases h1
theorem ZiU (h:Zh4 w l e w') (hr:ZaB l=none):Zbh (fun x:ShQ=>.tuple #[ZcL x, .bool false]) (fun x w=>∃ q,ZaE w (ZcL x) q) w e w':=by
 obtain ⟨v,ok,q,rfl,Q,h2,⟨rfl,h1⟩ | ⟨rfl,h1⟩⟩:=h
 ·rw [hr] at h1; cases h1
 ·obtain ⟨s,A,l,c,t,B,m,d,rfl⟩:=h2.shp
  exact ⟨(s,A,l,c,t,B,m,d),rfl,Q,boxn Q (fun S w'' hS hF=>⟨q,h2.nrb hS hF⟩)⟩
theorem ZiV {q:Rat} (h:Zh4 w l e w') (hr:ZaB l=some q):Zbh (fun x:ShQ=>.tuple #[ZcL x, .bool true]) (fun x w=>ZaE w (ZcL x) q) w e w':=by
 obtain ⟨v,ok,q',rfl,Q,h2,⟨rfl,h1⟩ | ⟨rfl,h1⟩⟩:=h
 ·rw [hr] at h1; injection h1 with h1; subst h1
  obtain ⟨s,A,l,c,t,B,m,d,rfl⟩:=h2.shp
  exact ⟨(s,A,l,c,t,B,m,d),rfl,Q,boxn Q (fun S w'' hS hF=>h2.nrb hS hF)⟩
 ·rw [hr] at h1; cases h1
end
end Go.Proofs.YtcpjeaaapocoeaaGreatDoor

namespace Go.Proofs.YtcpjeaaapocoeaaGreatDoor
open Go.RowKit
def Zdv (w:World) (ok:Bool) (e:Ending) (w':World):Prop:=∃ (x0 x1 x2 x3 x4 x5:Int) (s:Bool) (A:Option Addr) (l c:Nat) (t:Bool) (B:Option Addr) (m d:Nat),
 e=.returned (.tuple #[.agg #[.int .i64 x0, .int .i64 x1, .int .i64 x2, .int .i64 x3, .int .i64 x4, .int .i64 x5, .bool s, .slice A l c, .bool t, .slice B m d], .bool ok])∧Ext w w'
theorem Zdv.of {w w':World} {ok r:Bool} {x0 x1 x2 x3 x4 x5:Int} {s:Bool} {A:Option Addr} {l c:Nat} {t:Bool} {B:Option Addr} {m d:Nat} (h:ok=r) (Q:Ext w w') :
 Zdv w ok (.returned (.tuple #[.agg #[.int .i64 x0, .int .i64 x1, .int .i64 x2, .int .i64 x3, .int .i64 x4, .int .i64 x5, .bool s, .slice A l c, .bool t, .slice B m d], .bool r])) w':=by
 subst h; exact ⟨_,_,_,_,_,_,_,_,_,_,_,_,_,_,rfl,Q⟩
section
variable {v:Int} {t:TermR} {q:Rat}
theorem Zju (hr:ZaB (bytes t.coef)=none):ZaF v t=false:=by simp [ZaF,Zem,hr]
theorem Zjv (hr:ZaB (bytes t.coef)=some q) (hz:q.num=0):ZaF v t=false:=by
 have:q=0:=by rw [← Rat.num_divInt_den q,hz,Rat.zero_divInt]
 simp [ZaF,Zem,hr,this]
theorem ZmO (h:¬ (t.exps.length:Int)=v):ZaF v t=false:=by simp [ZaF,h]
theorem Zhj (h:t.exps.all expB=false):ZaF v t=false:=by unfold ZaF; rw [h,Bool.and_false,Bool.and_false]
theorem ZmP (hr:ZaB (bytes t.coef)=some q) (hz:¬ q.num=0) (h:(t.exps.length:Int)=v) (ha:t.exps.all expB=true):ZaF v t=true:=by
 have:q≠0:=by rintro rfl; exact hz rfl
 simp only [ZaF,Zem,hr]
 rw [ha,decide_eq_true h,decide_eq_true this]; rfl
theorem Zhk {z:Int} (h:z < 0∨1048576 < z):expB z=false:=by
 unfold expB
 rcases h with h | h
 ·rw [decide_eq_false (by omega:¬ 0≤z)]; rfl
 ·rw [decide_eq_false (by omega:¬ z≤1048576),Bool.and_false]
end
theorem ZgL (t:TermR) (v:Int) (w:World) (hg:Glob w) (hs:(bytes t.coef).length≤570) (hl:t.exps.length≤9223372036854775807) (hv:v≤6) (hI:IRow w t.A t.exps) :
 Calls Tryz.prog 318 #[.int .i64 v, .agg #[.string t.coef, .slice t.A t.exps.length t.cap]] w (Zdv w (ZaF v t)):=by
 refine Za6 (Φ:=fun w=>(Glob w∧IRow w t.A t.exps)) Tryz.func318 rfl (by kernel_rfl) (fun w' hf=>⟨hg.ext hf,hI.ext hf⟩) ?_
 refine Zac (Zab (xq 3 [(3, .p 3 0),(4, .p 4 0),(5, .v (.bool false))] [(4,397,[.v (.int .i64 0), .v (.int .i64 0), .v (.int .i64 0), .v (.int .i64 0), .v (.int .i64 0), .v (.int .i64 0), .v (.bool false), .v (.slice none 0 0), .v (.bool false), .v (.slice none 0 0)]),(3,53,[.v (.string t.coef), .v (.slice t.A t.exps.length t.cap)])] ?_))
 refine xe (Zaa (Zac (Zab (xq 2 [(13, .v (.string t.coef))] [] ?_))))
 rcases ZmN (ZaB (bytes t.coef)) with hr | ⟨q,hr⟩
 ·refine xqc 236 [.string t.coef] 14 (fun x:ShQ=>.tuple #[ZcL x, .bool false]) _ (fun w R Q=>(Zk1 t.coef _ Q.1 (Zgx.of_len hs)).mono (fun _ _ h=>Zjs h hr)) (fun xx=>?_)
  obtain ⟨s10,A10,l10,c10,t10,B10,m10,d10⟩:=xx
  refine xq 6 [(6, .p 6 0),(7, .v (.bool false))] [bR4 6 142 s10 A10 l10 c10 t10 B10 m10 d10] ?_
  refine xe (Zaa (Zac (Zac ?_)))
  by_cases hlen:(t.exps.length:Int)=v
  ·refine Zab (xq 13 [(29, .v (.bool true))] [] ?_)
   refine xe (Zaa (xa (Zac (Zab (xq 3 [(5, .v (.bool false))] [] ?_)))))
   refine xe (Zaa (Zau (Zae ?_)))
   refine Zai (v:=.tuple #[.agg #[.int .i64 0, .int .i64 0, .int .i64 0, .int .i64 0, .int .i64 0, .int .i64 0, .bool false, .slice none 0 0, .bool false, .slice none 0 0], .bool false]) (by kernel_rfl) (fun w' R Q=>?_)
   exact Zdv.of (Zju hr) R
  ·refine Zab (xq 13 [(29, .v (.bool true))] [] ?_)
   refine xe (Zaa (xa (Zac (Zab (xq 3 [(5, .v (.bool false))] [] ?_)))))
   refine xe (Zaa (Zau (Zae ?_)))
   refine Zai (v:=.tuple #[.agg #[.int .i64 0, .int .i64 0, .int .i64 0, .int .i64 0, .int .i64 0, .int .i64 0, .bool false, .slice none 0 0, .bool false, .slice none 0 0], .bool false]) (by kernel_rfl) (fun w' R Q=>?_)
   exact Zdv.of (Zju hr) R
 ·refine xqc 236 [.string t.coef] 14 (fun x:ShQ=>.tuple #[ZcL x, .bool true]) _ (fun w R Q=>(Zk1 t.coef _ Q.1 (Zgx.of_len hs)).mono (fun _ _ h=>Zjt h hr)) (fun xx=>?_)
  obtain ⟨s11,A11,l11,c11,t11,B11,m11,d11⟩:=xx
  refine xq 6 [(6, .p 6 0),(7, .v (.bool true))] [bR4 6 142 s11 A11 l11 c11 t11 B11 m11 d11] ?_
  refine xe (Zaa (Zac (Zac ?_)))
  by_cases hlen:(t.exps.length:Int)=v
  ·refine Zab (xq 4 [(19, .v (.bool false)),eR4 20 s11 A11 l11 c11 t11 B11 m11 d11] [] ?_)
   by_cases hz:q.num=0
   ·refine xqc 131 [vR4 s11 A11 l11 c11 t11 B11 m11 d11] 21 (fun _:Unit=>.bool true) _ (fun w R Q=>(Zd7 _ q _ Q.2).mono (fun _ _ h=>Zay h (by rw [decide_eq_true hz]))) (fun xx=>?_)
    refine xq 8 [(29, .v (.bool true))] [] ?_
    refine xe (Zaa (xa (Zac (Zab (xq 3 [(5, .v (.bool false))] [] ?_)))))
    refine xe (Zaa (Zau (Zae ?_)))
    refine Zai (v:=.tuple #[.agg #[.int .i64 0, .int .i64 0, .int .i64 0, .int .i64 0, .int .i64 0, .int .i64 0, .bool false, .slice none 0 0, .bool false, .slice none 0 0], .bool false]) (by kernel_rfl) (fun w' R Q=>?_)
    exact Zdv.of (Zjv hr hz) R
   ·refine xqc 131 [vR4 s11 A11 l11 c11 t11 B11 m11 d11] 21 (fun _:Unit=>.bool false) _ (fun w R Q=>(Zd7 _ q _ Q.2).mono (fun _ _ h=>Zay h (by rw [decide_eq_false hz]))) (fun xx=>?_)
    refine xq 7 [(23, .v (.bool false)),(28, .v (.bool ((((t.exps.length:Nat):Int):Int) != v)))] [] ?_
    rw [(show (((t.exps.length:Nat):Int) != v)=false from by simp [hlen])]
    refine xq 1 [(29, .v (.bool false))] [] ?_
    refine xe (Zaa (xb (Zav (Zaa (Zac (Zac (Zab (xq 4 [eS1 32 t.A t.exps.length t.cap,(33, .v (.int .i64 ((t.exps.length:Nat):Int))),(34, .v (.int .i64 0))] [] ?_))))))))
    refine xe (Zaa (ZaP ?_))
    refine SXc.weak [(3, .p 3 0),(4, .p 4 0),(5, .v (.bool false)),(6, .p 6 0),(32, .v (.slice t.A t.exps.length t.cap)),(33, .v (.int .i64 ((t.exps.length:Nat):Int))),(34, .v (.int .i64 ((0:Nat):Int)))] [(6,142,[.v (.bool s11), .v (.slice A11 l11 c11), .v (.bool t11), .v (.slice B11 m11 d11)]),(4,397,[.v (.int .i64 0), .v (.int .i64 0), .v (.int .i64 0), .v (.int .i64 0), .v (.int .i64 0), .v (.int .i64 0), .v (.bool false), .v (.slice none 0 0), .v (.bool false), .v (.slice none 0 0)]),(3,53,[.v (.string t.coef), .v (.slice t.A t.exps.length t.cap)])] (Ψ:=fun w=>(IRow w t.A t.exps∧Zbq w (.agg #[.bool s11, .slice A11 l11 c11, .bool t11, .slice B11 m11 d11]) (q))) (ZaM.of (by kernel_rfl)) (by kernel_rfl) (fun w Q=>⟨Q.1.1.2,Q.1.2⟩) ?_
    refine ZbU (fun nn ss ff=>∃ (k:Nat),ss=ofL [(3, .p 3 0),(4, .p 4 0),(5, .v (.bool false)),(6, .p 6 0),(32, .v (.slice t.A t.exps.length t.cap)),(33, .v (.int .i64 ((t.exps.length:Nat):Int))),(34, .v (.int .i64 ((k:Nat):Int)))] [(6,142,[.v (.bool s11), .v (.slice A11 l11 c11), .v (.bool t11), .v (.slice B11 m11 d11)]),(4,397,[.v (.int .i64 0), .v (.int .i64 0), .v (.int .i64 0), .v (.int .i64 0), .v (.int .i64 0), .v (.int .i64 0), .v (.bool false), .v (.slice none 0 0), .v (.bool false), .v (.slice none 0 0)]),(3,53,[.v (.string t.coef), .v (.slice t.A t.exps.length t.cap)])]∧ff=(fun w=>(IRow w t.A t.exps∧Zbq w (.agg #[.bool s11, .slice A11 l11 c11, .bool t11, .slice B11 m11 d11]) (q)))∧(k≤t.exps.length)∧(∀ i,i < k→expB (nth t.exps i)=true)∧nn=(1 + (t.exps.length - k))) ((1 + (t.exps.length - 0))) ⟨0,rfl,rfl,(Nat.zero_le _),(fun i hi=>absurd hi (Nat.not_lt_zero i)),rfl⟩ ?_
    rintro nn ss ff ⟨k,rfl,rfl,hk,hall,rfl⟩
    refine Zac (Zab (xq 1 [(35, .v (.bool (decide (((k:Nat):Int) < ((t.exps.length:Nat):Int)))))] [] ?_))
    refine xe (Zaa (Zac ?_))
    refine Zbc ((decide (((k:Nat):Int) < ((t.exps.length:Nat):Int)))) (by kernel_rfl) (fun hb12=>?_) (fun hb12=>?_)
    ·have hlt:k < t.exps.length:=by have:=of_decide_eq_true hb12; omega
     refine Zav (Zaa (Zac (ZaP (Zac (Zab ?_)))))
     refine xqk 36 (atA t.A (k * 1)) (fun w R Q=>ZaN (t:=22) (e:=3) (sz:=1) (x:=.tmp 32) (ix:=.tmp 34) (len:=t.exps.length) (cap:=t.cap) (i:=k) ((Q.1).ne hlt) hlt) ?_
     refine xqk 37 (.int .i64 (nth t.exps k)) (fun w R Q=>Zbd (t:=3) (x:=.tmp 36) (zs:=t.exps) (j:=k) (Q.1) hlt) ?_
     refine xq 1 [(9, .v (.int .i64 (nth t.exps k)))] [] ?_
     refine xe (Zaa (Zac ?_))
     by_cases h0:nth t.exps k < 0
     ·refine Zab (xq 2 [(39, .v (.bool (decide ((nth t.exps k) < 0))))] [] ?_)
      rw [(show decide (nth t.exps k < 0)=true from decide_eq_true h0)]
      refine xq 4 [(43, .v (.bool true))] [] ?_
      refine xe (Zaa (xa (Zac (Zab (xq 3 [(5, .v (.bool false))] [] ?_)))))
      refine xe (Zaa (Zau (ZaC (Zae (Zae (ZaC (Zae ?_)))))))
      refine Zai (v:=.tuple #[.agg #[.int .i64 0, .int .i64 0, .int .i64 0, .int .i64 0, .int .i64 0, .int .i64 0, .bool false, .slice none 0 0, .bool false, .slice none 0 0], .bool false]) (by kernel_rfl) (fun w' R Q=>?_)
      exact Zdv.of (Zhj (ZfO hlt (Zhk (Or.inl h0)))) R
     ·by_cases h1:1048576 < nth t.exps k
      ·refine Zab (xq 2 [(39, .v (.bool (decide ((nth t.exps k) < 0))))] [] ?_)
       rw [(show decide (nth t.exps k < 0)=false from decide_eq_false h0)]
       refine xq 3 [(40, .v (.bool false)),(42, .v (.bool (decide ((nth t.exps k) > 1048576))))] [] ?_
       rw [(show decide (nth t.exps k > 1048576)=true from decide_eq_true h1)]
       refine xq 1 [(43, .v (.bool true))] [] ?_
       refine xe (Zaa (xa (Zac (Zab (xq 3 [(5, .v (.bool false))] [] ?_)))))
       refine xe (Zaa (Zau (ZaC (Zae (Zae (ZaC (Zae ?_)))))))
       refine Zai (v:=.tuple #[.agg #[.int .i64 0, .int .i64 0, .int .i64 0, .int .i64 0, .int .i64 0, .int .i64 0, .bool false, .slice none 0 0, .bool false, .slice none 0 0], .bool false]) (by kernel_rfl) (fun w' R Q=>?_)
       exact Zdv.of (Zhj (ZfO hlt (Zhk (Or.inr h1)))) R
      ·refine Zab (xq 2 [(39, .v (.bool (decide ((nth t.exps k) < 0))))] [] ?_)
       rw [(show decide (nth t.exps k < 0)=false from decide_eq_false h0)]
       refine xq 3 [(40, .v (.bool false)),(42, .v (.bool (decide ((nth t.exps k) > 1048576))))] [] ?_
       rw [(show decide (nth t.exps k > 1048576)=false from decide_eq_false h1)]
       refine xq 1 [(43, .v (.bool false))] [] ?_
       refine xe (Zaa (xb (Zav (ZbP (Zaa (Zab (xq 1 [(45, .v (.int .i64 (IntKind.i64.wrap (((k:Nat):Int) + 1))))] [] ?_)))))))
       rw [show IntKind.i64.wrap ((((k:Nat):Int) + 1))=((k + 1:Nat):Int) from by rw [IntKind.wrap_i64]; omega]
       refine xq 1 [(34, .v (.int .i64 ((k + 1:Nat):Int)))] [] ?_
       refine xe ?_
       refine SXq.weak [(3, .p 3 0),(4, .p 4 0),(5, .v (.bool false)),(6, .p 6 0),(32, .v (.slice t.A t.exps.length t.cap)),(33, .v (.int .i64 ((t.exps.length:Nat):Int))),(34, .v (.int .i64 (((k + 1):Nat):Int)))] [(6,142,[.v (.bool s11), .v (.slice A11 l11 c11), .v (.bool t11), .v (.slice B11 m11 d11)]),(4,397,[.v (.int .i64 0), .v (.int .i64 0), .v (.int .i64 0), .v (.int .i64 0), .v (.int .i64 0), .v (.int .i64 0), .v (.bool false), .v (.slice none 0 0), .v (.bool false), .v (.slice none 0 0)]),(3,53,[.v (.string t.coef), .v (.slice t.A t.exps.length t.cap)])] (Ψ:=fun w=>(IRow w t.A t.exps∧Zbq w (.agg #[.bool s11, .slice A11 l11 c11, .bool t11, .slice B11 m11 d11]) (q))) (ZaM.of (by kernel_rfl)) (by kernel_rfl) (fun w Q=>⟨Q.1,Q.2⟩) ?_
       exact Zbm ((1 + (t.exps.length - (k + 1)))) (by omega) ⟨(k + 1),rfl,rfl,hlt,(fun i hi=>by rcases (by omega:i < k∨i=k) with h | rfl; exact hall i h; exact Zmz h0 h1),rfl⟩
    ·have hge:t.exps.length≤k:=by have:=of_decide_eq_false hb12; omega
     refine ZbL (Zaw (Zaw (Zcb (Zaa (Zac (Zab (xq 1 [(10, .p 10 0)] [(10,397,[.v (.int .i64 0), .v (.int .i64 0), .v (.int .i64 0), .v (.int .i64 0), .v (.int .i64 0), .v (.int .i64 0), .v (.bool false), .v (.slice none 0 0), .v (.bool false), .v (.slice none 0 0)])] ?_)))))))
     refine xe (Zaa (Zac (Zab (xq 3 [] [(10,397,[.v (.int .i64 0), .v (.int .i64 0), .v (.int .i64 0), .v (.int .i64 0), .v (.int .i64 0), .v (.int .i64 0), .v (.bool s11), .v (.slice A11 l11 c11), .v (.bool t11), .v (.slice B11 m11 d11)])] ?_))))
     refine xe (Zaa (Zac ?_))
     refine SXc.freezeN 10 397 [.int .i64 0, .int .i64 0, .int .i64 0, .int .i64 0, .int .i64 0, .int .i64 0, .bool s11, .slice A11 l11 c11, .bool t11, .slice B11 m11 d11] (fun gr=>[(3, .p 3 0),(4, .p 4 0),(5, .v (.bool false)),(10, .v (.pointer (some ⟨gr,0,none⟩)))]) [(4,397,[.v (.int .i64 0), .v (.int .i64 0), .v (.int .i64 0), .v (.int .i64 0), .v (.int .i64 0), .v (.int .i64 0), .v (.bool false), .v (.slice none 0 0), .v (.bool false), .v (.slice none 0 0)]),(3,53,[.v (.string t.coef), .v (.slice t.A t.exps.length t.cap)])] (by kernel_rfl) (fun _=>by kernel_rfl) (by kernel_rfl) (by kernel_rfl) (fun _=>by kernel_rfl) (fun gr hgr=>?_)
     refine ZbJ 4 (by kernel_rfl) (by kernel_rfl) Zas ?_
     refine xqg 4 [eS1 49 (some ⟨gr,0,none⟩) 6 6,eS1 51 t.A t.exps.length t.cap] ?_
     refine xz ?_
     obtain ⟨x0,x1,x2,x3,x4,x5,hx⟩:=Zpz (m:=t.exps.length) (zs:=t.exps) rfl (by omega) [.bool s11, .slice A11 l11 c11, .bool t11, .slice B11 m11 d11]
     refine Zpy (dT:=22) (sT:=22) (e:=3) (bt:=397) (dx:=.tmp 49) (sx:=.tmp 51) (d:=52) (n:=6) (m:=t.exps.length) (dc:=6) (sc:=t.cap) (cs:=[.int .i64 0, .int .i64 0, .int .i64 0, .int .i64 0, .int .i64 0, .int .i64 0, .bool s11, .slice A11 l11 c11, .bool t11, .slice B11 m11 d11]) (zs:=t.exps) gr (fun w=>Blk 397 w gr [.int .i64 x0, .int .i64 x1, .int .i64 x2, .int .i64 x3, .int .i64 x4, .int .i64 x5, .bool s11, .slice A11 l11 c11, .bool t11, .slice B11 m11 d11].toArray) rfl (by omega) (show 6≤10 from by decide) (show 0 < 10 from by decide) (fun w Q=>Q.2) (fun w Q=>Q.1.1) hgr (fun w w' Q hF hB=>Eq.mp (congrArg (fun l:List Value=>Blk 397 w' gr l.toArray) hx) hB) ?_
     refine xe (Zaa (Zac (Zab ?_)))
     refine xqk 53 (.agg #[.int .i64 x0, .int .i64 x1, .int .i64 x2, .int .i64 x3, .int .i64 x4, .int .i64 x5, .bool s11, .slice A11 l11 c11, .bool t11, .slice B11 m11 d11]) (fun w R Q=>Zqu (t:=397) (x:=.tmp 10) (cs:=[.int .i64 x0, .int .i64 x1, .int .i64 x2, .int .i64 x3, .int .i64 x4, .int .i64 x5, .bool s11, .slice A11 l11 c11, .bool t11, .slice B11 m11 d11]) Q) ?_
     refine xq 2 [(5, .v (.bool true))] [(4,397,[.v (.int .i64 x0), .v (.int .i64 x1), .v (.int .i64 x2), .v (.int .i64 x3), .v (.int .i64 x4), .v (.int .i64 x5), .v (.bool s11), .v (.slice A11 l11 c11), .v (.bool t11), .v (.slice B11 m11 d11)])] ?_
     refine xe (Zaa (Zau ?_))
     refine Zai (v:=.tuple #[.agg #[.int .i64 x0, .int .i64 x1, .int .i64 x2, .int .i64 x3, .int .i64 x4, .int .i64 x5, .bool s11, .slice A11 l11 c11, .bool t11, .slice B11 m11 d11], .bool true]) (by kernel_rfl) (fun w' R Q=>?_)
     exact Zdv.of (ZmP hr hz hlen (Zmy (fun i hi=>hall i (by omega)))) R
  ·refine Zab (xq 4 [(19, .v (.bool false)),eR4 20 s11 A11 l11 c11 t11 B11 m11 d11] [] ?_)
   by_cases hz:q.num=0
   ·refine xqc 131 [vR4 s11 A11 l11 c11 t11 B11 m11 d11] 21 (fun _:Unit=>.bool true) _ (fun w R Q=>(Zd7 _ q _ Q.2).mono (fun _ _ h=>Zay h (by rw [decide_eq_true hz]))) (fun xx=>?_)
    refine xq 8 [(29, .v (.bool true))] [] ?_
    refine xe (Zaa (xa (Zac (Zab (xq 3 [(5, .v (.bool false))] [] ?_)))))
    refine xe (Zaa (Zau (Zae ?_)))
    refine Zai (v:=.tuple #[.agg #[.int .i64 0, .int .i64 0, .int .i64 0, .int .i64 0, .int .i64 0, .int .i64 0, .bool false, .slice none 0 0, .bool false, .slice none 0 0], .bool false]) (by kernel_rfl) (fun w' R Q=>?_)
    exact Zdv.of (Zjv hr hz) R
   ·refine xqc 131 [vR4 s11 A11 l11 c11 t11 B11 m11 d11] 21 (fun _:Unit=>.bool false) _ (fun w R Q=>(Zd7 _ q _ Q.2).mono (fun _ _ h=>Zay h (by rw [decide_eq_false hz]))) (fun xx=>?_)
    refine xq 7 [(23, .v (.bool false)),(28, .v (.bool ((((t.exps.length:Nat):Int):Int) != v)))] [] ?_
    rw [(show (((t.exps.length:Nat):Int) != v)=true from by simp [hlen])]
    refine xq 1 [(29, .v (.bool true))] [] ?_
    refine xe (Zaa (xa (Zac (Zab (xq 3 [(5, .v (.bool false))] [] ?_)))))
    refine xe (Zaa (Zau (Zae ?_)))
    refine Zai (v:=.tuple #[.agg #[.int .i64 0, .int .i64 0, .int .i64 0, .int .i64 0, .int .i64 0, .int .i64 0, .bool false, .slice none 0 0, .bool false, .slice none 0 0], .bool false]) (by kernel_rfl) (fun w' R Q=>?_)
    exact Zdv.of (ZmO hlen) R
end Go.Proofs.YtcpjeaaapocoeaaGreatDoor

namespace Go.Proofs.YtcpjeaaapocoeaaGreatDoor
open Go.RowKit
theorem TRow.at_ {w:World} {A:Option Addr} {ts:List TermR} (h:TRow w A ts) {i:Nat} (hi:i < ts.length):∃ b off,A=some ⟨b,off,none⟩:=by
 obtain ⟨b,off,e,_⟩:=h i hi; exact ⟨b,off,e⟩
section
variable {P:Program} {o:Oper} {ρ:Operand→Value} {w:World} {t e:TypeId} {x ix:Operand} {A:Option Addr} {b off:Nat}
theorem ZaV (hA:A=some ⟨b,off,none⟩) {len cap i sz:Nat} (h:i < len) (ho:o.op=Op.indexAddr t x ix:=by kernel_rfl) (ht:P.underlying t=some (.slice e):=by kernel_rfl) (hs:(P.info? e).map (fun i=>i.size)=some sz:=by kernel_rfl)
 (hx:ρ x=.slice A len cap:=by kernel_rfl) (hi:ρ ix=.int .i64 ((i:Nat):Int):=by kernel_rfl):(execOp ρ o).run P w=.ok (.value (.pointer (some ⟨b,off + i * sz,none⟩))) w:=by
 have:=ZaN (w:=w) (A:=A) (by rw [hA]; simp) h ho ht hs hx hi
 rw [this,hA,atA,Option.map_some,ZcH]
theorem Zbk (hA:A=some ⟨b,off,none⟩) {ts:List TermR} {j:Nat} (hS:TRow w A ts) (hj:j < ts.length) (ho:o.op=Op.load t x:=by kernel_rfl) (hx:ρ x=.pointer (some ⟨b,off + j * 2 + 1,none⟩):=by kernel_rfl) (ha:(teOf P t).map (fun e=>e.agg)=some false:=by kernel_rfl) :
 (execOp ρ o).run P w=.ok (.value (.slice ts[j]!.A ts[j]!.exps.length ts[j]!.cap)) w:=by
 refine Zqv hS hj ho ?_ ha
 rw [hx,hA,atA,Option.map_some,ZcH,Nat.add_assoc]
end
theorem TRow.exps {w:World} {A:Option Addr} {ts:List TermR} (h:TRow w A ts) {i:Nat} (hi:i < ts.length):IRow w ts[i]!.A ts[i]!.exps:=by
 obtain ⟨_,_,_,_,_,_,h⟩:=h i hi; exact h
abbrev ShTm:=Int × Int × Int × Int × Int × Int × Bool × Option Addr × Nat × Nat × Bool × Option Addr × Nat × Nat
def shTm (x:ShTm) (ok:Bool):Value:=match x with
 | (x0,x1,x2,x3,x4,x5,s,A,l,c,t,B,m,d)=>.tuple #[.agg #[.int .i64 x0, .int .i64 x1, .int .i64 x2, .int .i64 x3, .int .i64 x4, .int .i64 x5, .bool s, .slice A l c, .bool t, .slice B m d], .bool ok]
theorem ZmQ {w w':World} {e:Ending} {ok:Bool} (h:Zdv w ok e w'):Zbh (fun x=>shTm x ok) (fun _ _=>True) w e w':=by
 obtain ⟨x0,x1,x2,x3,x4,x5,s,A,l,c,t,B,m,d,rfl,Q⟩:=h
 exact ⟨(x0,x1,x2,x3,x4,x5,s,A,l,c,t,B,m,d),rfl,Q,BoxN.pure trivial⟩
def ZcP (w:World) (ok:Bool) (e:Ending) (w':World):Prop:=∃ (A:Option Addr) (l c:Nat),e=.returned (.tuple #[.slice A l c, .bool ok])∧Ext w w'
theorem ZcP.of {w w':World} {ok r:Bool} {A:Option Addr} {l c:Nat} (h:ok=r) (Q:Ext w w'):ZcP w ok (.returned (.tuple #[.slice A l c, .bool r])) w':=by
 subst h; exact ⟨_,_,_,rfl,Q⟩
theorem Zjw {w w':World} {e:Ending} {ok:Bool} (h:ZcP w ok e w'):Zbh (fun x:ShN=>.tuple #[.slice x.1 x.2.1 x.2.2, .bool ok]) (fun _ _=>True) w e w':=by
 obtain ⟨A,l,c,rfl,Q⟩:=h
 exact ⟨(A,l,c),rfl,Q,BoxN.pure trivial⟩
section
variable {v:Int} {ts:List TermR} {k n:Nat} {t u:TermR}
theorem Zdz (h:wfT v ts k=true) {i:Nat} (hi:i < k):ZaF v ts[i]! = true:=by
 induction k with
 | zero=>omega
 | succ k ih =>
   unfold wfT at h
   rw [Bool.and_eq_true,Bool.and_eq_true] at h
   rcases (by omega:i < k∨i=k) with h' | rfl
   ·exact ih h.1 h'
   ·exact h.2.1
theorem Zlm (hwf:wfT v ts k=true) (hk:0 < k) (hu:ts[k - 1]! = u) (hok:ZaF v t=true) (hv6:v≤6):(Zel u.exps∧Zel t.exps)∧u.exps.length=t.exps.length:=by
 have h1:=ZaF.exp (Zdz hwf (show k - 1 < k by omega)) hv6
 rw [hu] at h1
 have h2:=ZaF.exp hok hv6
 exact ⟨⟨h1.1,h2.1⟩,by have:=h1.2; have:=h2.2; omega⟩
theorem ZfW (hwf:wfT v ts k=true) (ht:ts[k]! = t) (hok:ZaF v t=true) (h:k=0∨0 < ordF ts[k - 1]!.exps t.exps):wfT v ts (k + 1)=true:=by
 unfold wfT
 rw [hwf,ht,hok]
 rcases h with h | h
 ·rw [decide_eq_true h]; rfl
 ·rw [decide_eq_true h,Bool.or_true]; rfl
theorem Zew (ht:ts[k]! = t) (hok:ZaF v t=false):wfT v ts (k + 1)=false:=by
 unfold wfT; rw [ht,hok,Bool.false_and,Bool.and_false]
theorem ZmR (ht:ts[k]! = t) (hu:ts[k - 1]! = u) (hk:¬ k=0) (ho:¬ 0 < ordF u.exps t.exps):wfT v ts (k + 1)=false:=by
 unfold wfT; rw [ht,hu,decide_eq_false hk,decide_eq_false ho,Bool.or_false,Bool.and_false,Bool.and_false]
theorem ZkB (h:v < 0∨6 < v):(decide (0≤v) && (decide (v≤6) && wfT v ts n))=false:=by
 rcases h with h | h
 ·rw [decide_eq_false (by omega:¬ 0≤v)]; rfl
 ·rw [decide_eq_false (by omega:¬ v≤6),Bool.false_and,Bool.and_false]
theorem Ze6 (h:wfT v ts n=false):(decide (0≤v) && (decide (v≤6) && wfT v ts n))=false:=by rw [h,Bool.and_false,Bool.and_false]
theorem Zqb (h0:¬ v < 0) (h7:¬ 6 < v) (h:wfT v ts n=true):(decide (0≤v) && (decide (v≤6) && wfT v ts n))=true:=by
 rw [h,decide_eq_true (by omega:0≤v),decide_eq_true (by omega:v≤6)]; rfl
end
theorem ZiX (A:Option Addr) (c:Nat) (ts:List TermR) (v:Int) (w:World) (hg:Glob w) (hT:TRow w A ts) (hlen:ts.length≤4096) (hc:∀ i,i < ts.length→(bytes ts[i]!.coef).length≤570) (hx:∀ i,i < ts.length→ts[i]!.exps.length≤9223372036854775807) :
 Calls Tryz.prog 245 #[.agg #[.int .i64 v, .slice A ts.length c]] w (ZcP w (decide (0≤v) && (decide (v≤6) && wfT v ts ts.length))):=by
 refine Za6 (Φ:=fun w=>(Glob w∧TRow w A ts)) Tryz.func245 rfl (by kernel_rfl) (fun w' hf=>⟨hg.ext hf,hT.ext hf⟩) ?_
 refine Zac (Zab (xq 3 [(1, .p 1 0),eS1 2 none 0 0,(3, .v (.bool false))] [(1,43,[.v (.int .i64 v), .v (.slice A ts.length c)])] ?_))
 refine xe (Zaa (Zac (Zac ?_)))
 by_cases hv0:v < 0
 ·refine Zab (xq 3 [(11, .v (.bool (decide (v < 0))))] [] ?_)
  rw [(show decide (v < 0)=true from decide_eq_true hv0)]
  refine xq 5 [(16, .v (.bool true))] [] ?_
  refine xe (Zaa (xa (Zac (Zab (xq 2 [eS1 2 none 0 0,(3, .v (.bool false))] [] ?_)))))
  refine xe (Zaa (Zau (Zae ?_)))
  refine Zai (v:=.tuple #[.slice none 0 0, .bool false]) (by kernel_rfl) (fun w' R Q=>?_)
  exact ZcP.of (ZkB (by omega)) R
 ·by_cases hv7:6 < v
  ·refine Zab (xq 3 [(11, .v (.bool (decide (v < 0))))] [] ?_)
   rw [(show decide (v < 0)=false from decide_eq_false hv0)]
   refine xq 4 [(12, .v (.bool false)),(15, .v (.bool (decide (v > 6))))] [] ?_
   rw [(show decide (v > 6)=true from decide_eq_true hv7)]
   refine xq 1 [(16, .v (.bool true))] [] ?_
   refine xe (Zaa (xa (Zac (Zab (xq 2 [eS1 2 none 0 0,(3, .v (.bool false))] [] ?_)))))
   refine xe (Zaa (Zau (Zae ?_)))
   refine Zai (v:=.tuple #[.slice none 0 0, .bool false]) (by kernel_rfl) (fun w' R Q=>?_)
   exact ZcP.of (ZkB (by omega)) R
  ·have hv6:v≤6:=by omega
   refine Zab (xq 3 [(11, .v (.bool (decide (v < 0))))] [] ?_)
   rw [(show decide (v < 0)=false from decide_eq_false hv0)]
   refine xq 4 [(12, .v (.bool false)),(15, .v (.bool (decide (v > 6))))] [] ?_
   rw [(show decide (v > 6)=false from decide_eq_false hv7)]
   refine xq 1 [(16, .v (.bool false))] [] ?_
   refine xe (Zaa (xb (Zav (Zaa (Zac (Zab (xq 3 [(19, .v (.int .i64 ((ts.length:Nat):Int)))] [] ?_)))))))
   refine Zq3 (d:=20) (t:=234) (e:=397) (k:=10) (bytes:=112) (z:=(.agg #[.int .i64 0, .int .i64 0, .int .i64 0, .int .i64 0, .int .i64 0, .int .i64 0, .bool false, .slice none 0 0, .bool false, .slice none 0 0])) (kl:=.i64) (kc:=.i64) (l:=.const (.int .i64 0)) (c:=.tmp 19) (cap:=ts.length) (by simp only [maxLen]; omega) (by omega) (fun b cur hb hcur=>?_)
   refine xr 1 [(1, .p 1 0),eS1 2 none 0 0,(3, .v (.bool false)),eS1 4 (some ⟨b,0,none⟩) 0 ts.length] [(1,43,[.v (.int .i64 v), .v (.slice A ts.length c)])] ?_
   refine xe (Zaa (Zac (Zac (Zab (xq 4 [eS1 22 A ts.length c,(23, .v (.int .i64 ((ts.length:Nat):Int))),(24, .v (.int .i64 0))] [] ?_)))))
   refine xe (Zaa (ZaP ?_))
   refine SXc.weak [(1, .p 1 0),(2, .v (.slice none 0 0)),(3, .v (.bool false)),(4, .v (.slice (some ⟨b,0,none⟩) 0 ts.length)),(22, .v (.slice A ts.length c)),(23, .v (.int .i64 ((ts.length:Nat):Int))),(24, .v (.int .i64 ((0:Nat):Int)))] [(1,43,[.v (.int .i64 v), .v (.slice A ts.length c)])] (Ψ:=fun w=>((Glob w∧TRow w A ts)∧Blk 397 w b cur.toArray)) (ZaM.of (by kernel_rfl)) (by kernel_rfl) (fun w Q=>⟨⟨Q.1.1,Q.1.2⟩,Q.2⟩) ?_
   refine ZbU (fun nn ss ff=>∃ (k b cap:Nat) (cur:List Value),ss=ofL [(1, .p 1 0),(2, .v (.slice none 0 0)),(3, .v (.bool false)),(4, .v (.slice (some ⟨b,0,none⟩) k cap)),(22, .v (.slice A ts.length c)),(23, .v (.int .i64 ((ts.length:Nat):Int))),(24, .v (.int .i64 ((k:Nat):Int)))] [(1,43,[.v (.int .i64 v), .v (.slice A ts.length c)])]∧ff=(fun w=>((Glob w∧TRow w A ts)∧Blk 397 w b cur.toArray))∧(w.heap.size≤b)∧(cur.length=cap * 10)∧(k≤cap)∧(cap≤maxLen)∧(0 < ts.length→0 < cur.length)∧(k≤ts.length)∧(wfT v ts k=true)∧nn=(1 + (ts.length - k))) ((1 + (ts.length - 0))) ⟨0,b,ts.length,cur,rfl,rfl,hb,hcur,(Nat.zero_le _),(by simp only [maxLen]; omega),(fun h=>by omega),(Nat.zero_le _),rfl,rfl⟩ ?_
   rintro nn ss ff ⟨k,b,cap,cur,rfl,rfl,hb,hcur,hkc,hcm,hpos,hk,hwf,rfl⟩
   refine Zac (Zab (xq 1 [(25, .v (.bool (decide (((k:Nat):Int) < ((ts.length:Nat):Int)))))] [] ?_))
   refine xe (Zaa (Zac ?_))
   refine Zbc ((decide (((k:Nat):Int) < ((ts.length:Nat):Int)))) (by kernel_rfl) (fun hb10=>?_) (fun hb10=>?_)
   ·have hlt:k < ts.length:=by have:=of_decide_eq_true hb10; omega
    refine Zav (Zaa (Zac (ZaP (Zac (Zab (xq 1 [(26, .v (.int .i64 ((k:Nat):Int)))] [] ?_))))))
    refine xqk 27 (atA A (k * 2)) (fun w R Q=>ZaN (t:=41) (e:=53) (sz:=2) (x:=.tmp 22) (ix:=.tmp 24) (len:=ts.length) (cap:=c) (i:=k) ((Q.1.2).ne hlt) hlt) ?_
    obtain ⟨t,ht⟩:∃ x,ts[k]! = x:=⟨_,rfl⟩
    refine xqk 28 (.agg #[.string t.coef, .slice t.A t.exps.length t.cap]) (fun w R Q=>by rw [← ht]; exact Zhf (t:=53) (x:=.tmp 27) (ts:=ts) (j:=k) (Q.1.2) hlt) ?_
    refine xq 3 [(5, .v (.int .i64 ((k:Nat):Int))),(6, .p 6 0)] [(6,53,[.v (.string t.coef), .v (.slice t.A t.exps.length t.cap)])] ?_
    refine xe (Zaa (Zac (Zab (xq 3 [(31, .v (.int .i64 v)),(32, .v (.agg #[.string t.coef, .slice t.A t.exps.length t.cap]))] [] ?_))))
    cases hok:ZaF v t
    ·refine xqc 318 [.int .i64 v, .agg #[.string t.coef, .slice t.A t.exps.length t.cap]] 33 (fun x=>shTm x false) _ (fun w R Q=>(ZgL t v _ Q.1.1 (ht ▸ hc k hlt) (ht ▸ hx k hlt) hv6 (ht ▸ TRow.exps Q.1.2 hlt)).mono (fun _ _ h=>ZmQ (by rw [hok] at h; exact h))) (fun xx=>?_)
     obtain ⟨x011,x111,x211,x311,x411,x511,s11,A11,l11,c11,t11,B11,m11,d11⟩:=xx
     refine xq 6 [(7, .p 7 0),(8, .v (.bool false))] [(7,397,[.v (.int .i64 x011), .v (.int .i64 x111), .v (.int .i64 x211), .v (.int .i64 x311), .v (.int .i64 x411), .v (.int .i64 x511), .v (.bool s11), .v (.slice A11 l11 c11), .v (.bool t11), .v (.slice B11 m11 d11)])] ?_
     refine xe (Zaa (Zac (Zac ?_)))
     refine ZbK 19 [0,1,3,7,15,31,63,127,63,319,1023,2047,4095,63,8255,32767,65535,131071,262143] (by kernel_rfl) (by kernel_rfl) Zas ?_
     refine xqg 19 [(54, .v (.bool true))] ?_
     refine xz (xe (Zaa (xa (Zac (Zab (xq 2 [eS1 2 none 0 0,(3, .v (.bool false))] [] ?_))))))
     refine xe (Zaa (Zau (Zae (ZaC (Zae (Zae (ZaC (Zae ?_))))))))
     refine Zai (v:=.tuple #[.slice none 0 0, .bool false]) (by kernel_rfl) (fun w' R Q=>?_)
     exact ZcP.of (Ze6 (Zde (k:=k + 1) (Zew ht hok) _ hlt)) R
    ·refine xqc 318 [.int .i64 v, .agg #[.string t.coef, .slice t.A t.exps.length t.cap]] 33 (fun x=>shTm x true) _ (fun w R Q=>(ZgL t v _ Q.1.1 (ht ▸ hc k hlt) (ht ▸ hx k hlt) hv6 (ht ▸ TRow.exps Q.1.2 hlt)).mono (fun _ _ h=>ZmQ (by rw [hok] at h; exact h))) (fun xx=>?_)
     obtain ⟨x012,x112,x212,x312,x412,x512,s12,A12,l12,c12,t12,B12,m12,d12⟩:=xx
     refine xq 6 [(7, .p 7 0),(8, .v (.bool true))] [(7,397,[.v (.int .i64 x012), .v (.int .i64 x112), .v (.int .i64 x212), .v (.int .i64 x312), .v (.int .i64 x412), .v (.int .i64 x512), .v (.bool s12), .v (.slice A12 l12 c12), .v (.bool t12), .v (.slice B12 m12 d12)])] ?_
     refine xe (Zaa (Zac (Zac ?_)))
     by_cases hk0:k=0
     ·refine ZbK 19 [0,1,3,7,15,31,63,127,63,319,1023,2047,4095,63,8255,32767,65535,131071,262143] (by kernel_rfl) (by kernel_rfl) Zas ?_
      refine xqg 5 [(38, .v (.bool false)),(40, .v (.bool (decide (((k:Nat):Int) > 0))))] ?_
      rw [(show decide (((k:Nat):Int) > 0)=false from decide_eq_false (by omega))]
      refine xqg 14 [(54, .v (.bool false))] ?_
      refine xz (xe (Zaa (xb (Zav (Zaa (Zab (xq 2 [eS1 55 (some ⟨b,0,none⟩) k cap,(56, .v (.agg #[.int .i64 x012, .int .i64 x112, .int .i64 x212, .int .i64 x312, .int .i64 x412, .int .i64 x512, .bool s12, .slice A12 l12 c12, .bool t12, .slice B12 m12 d12]))] [] ?_)))))))
      refine ZcU (d:=57) (fun zb:Nat=>.slice (some ⟨zb,0,none⟩) 1 1) (fun zb zw=>Blk 397 zw zb #[.int .i64 x012, .int .i64 x112, .int .i64 x212, .int .i64 x312, .int .i64 x412, .int .i64 x512, .bool s12, .slice A12 l12 c12, .bool t12, .slice B12 m12 d12]) (by kernel_rfl) (by kernel_rfl) (by kernel_rfl) (by kernel_rfl) (by kernel_rfl) (by kernel_rfl) (fun w R Q=>Zbs (t:=234) (e:=397) (n:=1) (sz:=10) (z:=.agg #[.int .i64 0, .int .i64 0, .int .i64 0, .int .i64 0, .int .i64 0, .int .i64 0, .bool false, .slice none 0 0, .bool false, .slice none 0 0]) (parts:=#[(0,Operand.tmp 56)]) (by kernel_rfl) (by kernel_rfl) (by kernel_rfl) (by kernel_rfl) (by kernel_rfl) (by kernel_rfl)) (fun b13=>?_)
      refine xr 0 [(1, .p 1 0),eS1 2 none 0 0,(3, .v (.bool false)),eS1 4 (some ⟨b,0,none⟩) k cap,eS1 22 A ts.length c,(23, .v (.int .i64 ((ts.length:Nat):Int))),(24, .v (.int .i64 ((k:Nat):Int))),eS1 55 (some ⟨b,0,none⟩) k cap,eS1 57 (some ⟨b13,0,none⟩) 1 1] [(1,43,[.v (.int .i64 v), .v (.slice A ts.length c)])] ?_
      refine Zol (d:=58) (k:=10) (n:=k) (m:=1) (cap:=cap) (bytes:=112) (t:=234) (e:=397) (s0:=.tmp 55) (x:=.tmp 57) (cur:=cur) (news:=[.int .i64 x012, .int .i64 x112, .int .i64 x212, .int .i64 x312, .int .i64 x412, .int .i64 x512, .bool s12, .slice A12 l12 c12, .bool t12, .slice B12 m12 d12]) (z:=(.agg #[.int .i64 0, .int .i64 0, .int .i64 0, .int .i64 0, .int .i64 0, .int .i64 0, .bool false, .slice none 0 0, .bool false, .slice none 0 0])) b b13 1 (fun w=>Glob w∧TRow w A ts) (fun w Q=>Q.1.1.2) (fun w Q=>Q.2) rfl (by decide) rfl hcur hkc hcm (hpos (by omega)) (by omega) hb (by simp [Value.oneCell']) (by simp only [maxLen]; omega) (by omega) (fun w w' R Q hF=>⟨hg.ext R,hT.ext R⟩) (fun b' cap' cur' hb' hcur' hkc' hcm' htk' hpos'=>?_)
      refine xr 1 [(1, .p 1 0),eS1 2 none 0 0,(3, .v (.bool false)),eS1 4 (some ⟨b',0,none⟩) (k + 1) cap',eS1 22 A ts.length c,(23, .v (.int .i64 ((ts.length:Nat):Int))),(24, .v (.int .i64 ((k:Nat):Int)))] [(1,43,[.v (.int .i64 v), .v (.slice A ts.length c)])] ?_
      refine xe (ZbP (Zaa (Zab (xq 1 [(59, .v (.int .i64 (IntKind.i64.wrap (((k:Nat):Int) + 1))))] [] ?_))))
      rw [(show IntKind.i64.wrap (((k:Nat):Int) + 1)=((k + 1:Nat):Int) from by rw [IntKind.wrap_i64]; omega)]
      refine xq 1 [(24, .v (.int .i64 ((k + 1:Nat):Int)))] [] ?_
      refine xe ?_
      refine SXq.weak [(1, .p 1 0),(2, .v (.slice none 0 0)),(3, .v (.bool false)),(4, .v (.slice (some ⟨b',0,none⟩) (k + 1) cap')),(22, .v (.slice A ts.length c)),(23, .v (.int .i64 ((ts.length:Nat):Int))),(24, .v (.int .i64 (((k + 1):Nat):Int)))] [(1,43,[.v (.int .i64 v), .v (.slice A ts.length c)])] (Ψ:=fun w=>((Glob w∧TRow w A ts)∧Blk 397 w b' cur'.toArray)) (ZaM.of (by kernel_rfl)) (by kernel_rfl) (fun w Q=>⟨⟨Q.1.1,Q.1.2⟩,Q.2⟩) ?_
      exact Zbm ((1 + (ts.length - (k + 1)))) (by omega) ⟨(k + 1),b',cap',cur',rfl,rfl,hb',hcur',hkc',hcm',(fun _=>hpos'),hlt,(ZfW hwf ht hok (Or.inl hk0)),rfl⟩
     ·obtain ⟨u,hu⟩:∃ x,ts[k - 1]! = x:=⟨_,rfl⟩
      refine SXc.know (p:=∃ tb tf,A=some ⟨tb,tf,none⟩) (fun w _ Q=>TRow.at_ Q.1.1.2 hlt) (fun hAe=>?_)
      obtain ⟨tb,tf,hA⟩:=hAe
      have hul:=Zlm hwf (by omega) hu hok hv6
      by_cases ho:0 < ordF u.exps t.exps
      ·refine ZbK 19 [0,1,3,7,15,31,63,127,63,319,1023,2047,4095,63,8255,32767,65535,131071,262143] (by kernel_rfl) (by kernel_rfl) Zas ?_
       refine xqg 5 [(38, .v (.bool false)),(40, .v (.bool (decide (((k:Nat):Int) > 0))))] ?_
       rw [(show decide (((k:Nat):Int) > 0)=true from decide_eq_true (by omega))]
       refine xqg 5 [(41, .v (.bool true)),eS1 43 A ts.length c,(45, .v (.int .i64 (IntKind.i64.wrap (((k:Nat):Int) - 1))))] ?_
       rw [(show IntKind.i64.wrap (((k:Nat):Int) - 1)=((k - 1:Nat):Int) from by rw [IntKind.wrap_i64]; omega)]
       refine xqj 46 (.pointer (some ⟨tb,tf + (k - 1) * 2,none⟩)) (fun w Q=>ZaV hA (t:=41) (e:=53) (sz:=2) (x:=.tmp 43) (ix:=.tmp 45) (len:=ts.length) (cap:=c) (i:=k - 1) (by omega)) ?_
       refine xqg 1 [(47, .v (.pointer (some ⟨tb,tf + (k - 1) * 2 + 1,none⟩)))] ?_
       refine xqj 48 (.slice u.A u.exps.length u.cap) (fun w Q=>by rw [← hu]; exact Zbk hA (t:=22) (x:=.tmp 47) (ts:=ts) (j:=k - 1) (Q.1.1.2) (by omega)) ?_
       refine xqg 2 [eS1 50 t.A t.exps.length t.cap] ?_
       refine xqd 319 [.slice u.A u.exps.length u.cap, .slice t.A t.exps.length t.cap] 51 (fun _:Unit=>.int .i64 (ordF u.exps t.exps)) _ (fun w R Q=>(ZjV u.A t.A u.cap t.cap u.exps t.exps _ (hu ▸ TRow.exps Q.1.1.2 (by omega)) (ht ▸ TRow.exps Q.1.1.2 hlt) hul.2 hul.1.1 hul.1.2).mono (fun _ _ h=>Zay h rfl)) (fun xx=>?_)
       refine xqg 1 [(52, .v (.bool (decide ((ordF u.exps t.exps)≤0))))] ?_
       rw [(show decide (ordF u.exps t.exps≤0)=false from decide_eq_false (by omega))]
       refine xqg 2 [(54, .v (.bool false))] ?_
       refine xz (xe (Zaa (xb (Zav (Zaa (Zab (xq 2 [eS1 55 (some ⟨b,0,none⟩) k cap,(56, .v (.agg #[.int .i64 x012, .int .i64 x112, .int .i64 x212, .int .i64 x312, .int .i64 x412, .int .i64 x512, .bool s12, .slice A12 l12 c12, .bool t12, .slice B12 m12 d12]))] [] ?_)))))))
       refine ZcU (d:=57) (fun zb:Nat=>.slice (some ⟨zb,0,none⟩) 1 1) (fun zb zw=>Blk 397 zw zb #[.int .i64 x012, .int .i64 x112, .int .i64 x212, .int .i64 x312, .int .i64 x412, .int .i64 x512, .bool s12, .slice A12 l12 c12, .bool t12, .slice B12 m12 d12]) (by kernel_rfl) (by kernel_rfl) (by kernel_rfl) (by kernel_rfl) (by kernel_rfl) (by kernel_rfl) (fun w R Q=>Zbs (t:=234) (e:=397) (n:=1) (sz:=10) (z:=.agg #[.int .i64 0, .int .i64 0, .int .i64 0, .int .i64 0, .int .i64 0, .int .i64 0, .bool false, .slice none 0 0, .bool false, .slice none 0 0]) (parts:=#[(0,Operand.tmp 56)]) (by kernel_rfl) (by kernel_rfl) (by kernel_rfl) (by kernel_rfl) (by kernel_rfl) (by kernel_rfl)) (fun b14=>?_)
       refine xr 0 [(1, .p 1 0),eS1 2 none 0 0,(3, .v (.bool false)),eS1 4 (some ⟨b,0,none⟩) k cap,eS1 22 A ts.length c,(23, .v (.int .i64 ((ts.length:Nat):Int))),(24, .v (.int .i64 ((k:Nat):Int))),eS1 55 (some ⟨b,0,none⟩) k cap,eS1 57 (some ⟨b14,0,none⟩) 1 1] [(1,43,[.v (.int .i64 v), .v (.slice A ts.length c)])] ?_
       refine Zol (d:=58) (k:=10) (n:=k) (m:=1) (cap:=cap) (bytes:=112) (t:=234) (e:=397) (s0:=.tmp 55) (x:=.tmp 57) (cur:=cur) (news:=[.int .i64 x012, .int .i64 x112, .int .i64 x212, .int .i64 x312, .int .i64 x412, .int .i64 x512, .bool s12, .slice A12 l12 c12, .bool t12, .slice B12 m12 d12]) (z:=(.agg #[.int .i64 0, .int .i64 0, .int .i64 0, .int .i64 0, .int .i64 0, .int .i64 0, .bool false, .slice none 0 0, .bool false, .slice none 0 0])) b b14 1 (fun w=>Glob w∧TRow w A ts) (fun w Q=>Q.1.1.1.2) (fun w Q=>Q.2) rfl (by decide) rfl hcur hkc hcm (hpos (by omega)) (by omega) hb (by simp [Value.oneCell']) (by simp only [maxLen]; omega) (by omega) (fun w w' R Q hF=>⟨hg.ext R,hT.ext R⟩) (fun b' cap' cur' hb' hcur' hkc' hcm' htk' hpos'=>?_)
       refine xr 1 [(1, .p 1 0),eS1 2 none 0 0,(3, .v (.bool false)),eS1 4 (some ⟨b',0,none⟩) (k + 1) cap',eS1 22 A ts.length c,(23, .v (.int .i64 ((ts.length:Nat):Int))),(24, .v (.int .i64 ((k:Nat):Int)))] [(1,43,[.v (.int .i64 v), .v (.slice A ts.length c)])] ?_
       refine xe (ZbP (Zaa (Zab (xq 1 [(59, .v (.int .i64 (IntKind.i64.wrap (((k:Nat):Int) + 1))))] [] ?_))))
       rw [(show IntKind.i64.wrap (((k:Nat):Int) + 1)=((k + 1:Nat):Int) from by rw [IntKind.wrap_i64]; omega)]
       refine xq 1 [(24, .v (.int .i64 ((k + 1:Nat):Int)))] [] ?_
       refine xe ?_
       refine SXq.weak [(1, .p 1 0),(2, .v (.slice none 0 0)),(3, .v (.bool false)),(4, .v (.slice (some ⟨b',0,none⟩) (k + 1) cap')),(22, .v (.slice A ts.length c)),(23, .v (.int .i64 ((ts.length:Nat):Int))),(24, .v (.int .i64 (((k + 1):Nat):Int)))] [(1,43,[.v (.int .i64 v), .v (.slice A ts.length c)])] (Ψ:=fun w=>((Glob w∧TRow w A ts)∧Blk 397 w b' cur'.toArray)) (ZaM.of (by kernel_rfl)) (by kernel_rfl) (fun w Q=>⟨⟨Q.1.1,Q.1.2⟩,Q.2⟩) ?_
       exact Zbm ((1 + (ts.length - (k + 1)))) (by omega) ⟨(k + 1),b',cap',cur',rfl,rfl,hb',hcur',hkc',hcm',(fun _=>hpos'),hlt,(ZfW hwf ht hok (Or.inr (by rw [hu]; exact ho))),rfl⟩
      ·refine ZbK 19 [0,1,3,7,15,31,63,127,63,319,1023,2047,4095,63,8255,32767,65535,131071,262143] (by kernel_rfl) (by kernel_rfl) Zas ?_
       refine xqg 5 [(38, .v (.bool false)),(40, .v (.bool (decide (((k:Nat):Int) > 0))))] ?_
       rw [(show decide (((k:Nat):Int) > 0)=true from decide_eq_true (by omega))]
       refine xqg 5 [(41, .v (.bool true)),eS1 43 A ts.length c,(45, .v (.int .i64 (IntKind.i64.wrap (((k:Nat):Int) - 1))))] ?_
       rw [(show IntKind.i64.wrap (((k:Nat):Int) - 1)=((k - 1:Nat):Int) from by rw [IntKind.wrap_i64]; omega)]
       refine xqj 46 (.pointer (some ⟨tb,tf + (k - 1) * 2,none⟩)) (fun w Q=>ZaV hA (t:=41) (e:=53) (sz:=2) (x:=.tmp 43) (ix:=.tmp 45) (len:=ts.length) (cap:=c) (i:=k - 1) (by omega)) ?_
       refine xqg 1 [(47, .v (.pointer (some ⟨tb,tf + (k - 1) * 2 + 1,none⟩)))] ?_
       refine xqj 48 (.slice u.A u.exps.length u.cap) (fun w Q=>by rw [← hu]; exact Zbk hA (t:=22) (x:=.tmp 47) (ts:=ts) (j:=k - 1) (Q.1.1.2) (by omega)) ?_
       refine xqg 2 [eS1 50 t.A t.exps.length t.cap] ?_
       refine xqd 319 [.slice u.A u.exps.length u.cap, .slice t.A t.exps.length t.cap] 51 (fun _:Unit=>.int .i64 (ordF u.exps t.exps)) _ (fun w R Q=>(ZjV u.A t.A u.cap t.cap u.exps t.exps _ (hu ▸ TRow.exps Q.1.1.2 (by omega)) (ht ▸ TRow.exps Q.1.1.2 hlt) hul.2 hul.1.1 hul.1.2).mono (fun _ _ h=>Zay h rfl)) (fun xx=>?_)
       refine xqg 1 [(52, .v (.bool (decide ((ordF u.exps t.exps)≤0))))] ?_
       rw [(show decide (ordF u.exps t.exps≤0)=true from decide_eq_true (by omega))]
       refine xqg 2 [(54, .v (.bool true))] ?_
       refine xz (xe (Zaa (xa (Zac (Zab (xq 2 [eS1 2 none 0 0,(3, .v (.bool false))] [] ?_))))))
       refine xe (Zaa (Zau (Zae (ZaC (Zae (Zae (ZaC (Zae ?_))))))))
       refine Zai (v:=.tuple #[.slice none 0 0, .bool false]) (by kernel_rfl) (fun w' R Q=>?_)
       exact ZcP.of (Ze6 (Zde (k:=k + 1) (ZmR ht hu hk0 ho) _ hlt)) R
   ·have hge:ts.length≤k:=by have:=of_decide_eq_false hb10; omega
    refine ZbL (Zaw (Zaw (Zcb (Zaa (Zac (Zab (xq 3 [eS1 2 (some ⟨b,0,none⟩) k cap,(3, .v (.bool true))] [] ?_)))))))
    refine xe (Zaa (Zau ?_))
    refine Zai (v:=.tuple #[.slice (some ⟨b,0,none⟩) k cap, .bool true]) (by kernel_rfl) (fun w' R Q=>?_)
    exact ZcP.of (Zqb hv0 hv7 (by rw [show ts.length=k by omega]; exact hwf)) R
end Go.Proofs.YtcpjeaaapocoeaaGreatDoor

namespace Go.Proofs.YtcpjeaaapocoeaaGreatDoor
open Go.RowKit
theorem Zln {zs:List Int} {k:Nat} (h:∀ i,0≤nth zs i∧nth zs i≤1048576) (hk:k≤6):IntKind.i64.wrap (sumT zs k + nth zs k)=sumT zs (k + 1):=by
 have h1:=Zjo h k
 have h2:=h k
 show IntKind.i64.wrap (sumT zs k + nth zs k)=sumT zs k + nth zs k
 rw [IntKind.wrap_i64]; omega
theorem ZoI {zs ys:List Int} {n:Nat} (hz:zs.length=n) (hy:ys.length=n) (h:¬ sumT zs n=sumT ys n):ordF zs ys=cmpF (sumT zs n) (sumT ys n):=by
 unfold ordF; rw [hz,hy,if_neg h]
theorem Zlo {zs ys:List Int} {n:Nat} (hz:zs.length=n) (hy:ys.length=n) (h:sumT zs n=sumT ys n):ordF zs ys=ordL zs ys n:=by
 unfold ordF; rw [hz,hy,if_pos h]
theorem ZoJ {a b:Int} (h:a < b):cmpF a b = -1:=by unfold cmpF; rw [if_pos h]
theorem ZoK {a b:Int} (h:b < a):cmpF a b=1:=by unfold cmpF; rw [if_neg (by omega),if_pos h]
set_option maxHeartbeats 1000000 in
theorem Zlp (A:Option Addr) (c:Nat) (zs:List Int) (w:World) (hA:IRow w A zs) (hl:zs.length≤9223372036854775807):Calls Tryz.prog 367 #[.slice A zs.length c] w fun e w'=>e=.returned (.int .i64 (degF zs))∧w'=w:=by
 obtain ⟨n,hn⟩:∃ n,zs.length=n:=⟨_,rfl⟩
 unfold degF
 have HA:=zh hA
 have HN:=zh hn
 rw [hn]
 clear hA
 go_enter Tryz.func367,Tryz.ntmps367
 by_cases h6:6 < n
 ·rw [if_pos h6]
  have h6':(6:Int) < (n:Int):=by omega
  go_wp2
  go_ret
  exact ⟨rfl,rfl⟩
 ·rw [if_neg h6]
  have h6':(n:Int)≤6:=by omega
  go_wp2
  go_loop [3,4] (fun v3 v11=>∃ (k:Nat),k≤n∧v11=.int .i64 (k:Int)∧v3=.int .i64 (degT zs k)∧0≤degT zs k∧degT zs k≤24) (fun _ v=>n - (intOf v).toNat)
  case atStart=>exact ⟨0,by omega,rfl,rfl,by simp [degT],by simp [degT]⟩
  case round =>
   obtain ⟨k,hk,rfl,rfl,d0,d24⟩:=hrel
   obtain ⟨d,hd⟩:∃ d,degT zs k=d:=⟨_,rfl⟩
   rw [hd] at d0 d24 ⊢
   by_cases hlt:k < n
   ·obtain ⟨b,off,rfl,_,hc⟩:=HA.out k (by rw [HN.out]; exact hlt)
    obtain ⟨z,hz⟩:∃ z,nth zs k=z:=⟨_,rfl⟩
    rw [hz] at hc
    have hstep:Hid (degT zs (k + 1)=if d < 0 then -1 else if z < 0∨24 - d < z then -1 else d + z):=by
     unfold Hid; rw [← hd,← hz]; rfl
    have hdn:¬ d < 0:=by omega
    have hk1:(0:Int)≤(k:Int):=by omega
    have hk2:(k:Int) < (n:Int):=by omega
    have w1:IntKind.i64.wrap (24 - d)=24 - d:=IntWalk.i64_in _ (by omega)
    by_cases hz0:z < 0∨24 - d < z
    ·have HL:Hid (degT zs n = -1):=by
      have h1:=hstep.out
      rw [if_neg hdn,if_pos hz0] at h1
      have key:∀ m,degT zs (k + 1 + m) = -1:=fun m=>by
       induction m with
       | zero=>exact h1
       | succ m ih=>show (if degT zs (k + 1 + m) < 0 then _ else _)=_; rw [ih]; rfl
      have:=key (n - (k + 1))
      rwa [show k + 1 + (n - (k + 1))=n by omega] at this
     by_cases hz1:z < 0
     ·go_wp2
      go_ret
      exact ⟨by rw [HL.out]; rfl,rfl⟩
     ·have hz2:24 - d < z:=by omega
      go_wp2
      go_ret
      exact ⟨by rw [HL.out]; rfl,rfl⟩
    ·have w2:IntKind.i64.wrap (d + z)=d + z:=IntWalk.i64_in _ (by omega)
     have hz1:¬ z < 0:=by omega
     have hz2:¬ 24 - d < z:=by omega
     have HS:Hid (degT zs (k + 1)=d + z):=by
      have h1:=hstep.out
      rwa [if_neg hdn,if_neg hz0] at h1
     clear hd hz hstep hz0
     go_wp2
     go_round
     case rel=>exact ⟨k + 1,by omega,by go_num,by rw [HS.out],by rw [HS.out]; omega,by rw [HS.out]; omega⟩
     case measure=>simp [intOf]; omega
   ·obtain rfl:k=n:=by omega
    go_wp2
    go_ret
    exact ⟨rfl,rfl⟩
theorem ZhC (A:Option Addr) (c:Nat) (zs:List Int) (w:World) (hA:IRow w A zs) (hl:zs.length≤9223372036854775807):Calls Tryz.prog 322 #[.slice A zs.length c] w fun e w'=>e=.returned (.bool (decide (0≤degF zs)))∧w'=w:=by
 have H:=zh (Zlp A c zs w hA hl)
 obtain ⟨n,hn⟩:∃ n,zs.length=n:=⟨_,rfl⟩
 have HD:Hid (6 < n→degF zs = -1):=zh (fun h=>by unfold degF; rw [if_pos (by omega)])
 rw [hn] at H ⊢
 generalize degF zs=dz at H HD ⊢
 clear hA hn
 go_enter Tryz.func322,Tryz.ntmps322
 by_cases h6:6 < n
 ·have h6':(6:Int) < (n:Int):=by omega
  have hd:=HD.out h6
  subst hd
  go_wp2
  go_ret
  exact ⟨rfl,rfl⟩
 ·have h6':(n:Int)≤6:=by omega
  go_wp2_with fail
  refine H.out.mono ?_
  rintro e w1 ⟨rfl,rfl⟩
  go_wp2
  go_ret
  exact ⟨rfl,rfl⟩
theorem Zmb (A B:Option Addr) (c d n:Nat) (zs ys:List Int) (w:World) (hA:IRow w A zs) (hB:IRow w B ys) (hnz:zs.length=n) (hny:ys.length=n) (hz:Zel zs) (hy:Zel ys) :
 Calls Tryz.prog 291 #[.slice A n c, .slice B n d] w (RetV w (.int .i64 (ordF zs ys))):=by
 have hn6:n≤6:=hnz ▸ hz.1
 refine Za6 (Φ:=fun w=>(IRow w A zs∧IRow w B ys)) Tryz.func291 rfl (by kernel_rfl) (fun w' hf=>⟨hA.ext hf,hB.ext hf⟩) ?_
 refine Zac (Zab (xq 1 [(4, .v (.int .i64 0))] [] ?_))
 refine xe (Zaa (Zac (Zab (xq 2 [(5, .v (.int .i64 0)),(6, .v (.int .i64 0))] [] ?_))))
 refine xe (Zaa (Zac (Zac (Zab (xq 1 [(7, .v (.int .i64 0))] [] ?_)))))
 refine xe (Zaa (ZaP ?_))
 refine SXc.weak [(0, .v (.slice A n c)),(1, .v (.slice B n d)),(4, .v (.int .i64 0)),(5, .v (.int .i64 (sumT zs 0))),(6, .v (.int .i64 (sumT ys 0))),(7, .v (.int .i64 ((0:Nat):Int)))] [] (Ψ:=fun w=>(IRow w A zs∧IRow w B ys)) (ZaM.of (by kernel_rfl)) (by kernel_rfl) (fun w Q=>⟨Q.1,Q.2⟩) ?_
 refine ZbU (fun nn ss ff=>∃ (k:Nat),ss=ofL [(0, .v (.slice A n c)),(1, .v (.slice B n d)),(4, .v (.int .i64 0)),(5, .v (.int .i64 (sumT zs k))),(6, .v (.int .i64 (sumT ys k))),(7, .v (.int .i64 ((k:Nat):Int)))] []∧ff=(fun w=>(IRow w A zs∧IRow w B ys))∧(k≤n)∧nn=(1 + (n - k))) ((1 + (n - 0))) ⟨0,rfl,rfl,(Nat.zero_le _),rfl⟩ ?_
 rintro nn ss ff ⟨k,rfl,rfl,hk,rfl⟩
 refine Zac (Zac (Zab (xq 4 [(12, .v (.bool (decide (((k:Nat):Int) < ((n:Nat):Int)))))] [] ?_)))
 refine xe (Zaa ?_)
 refine Zbc ((decide (((k:Nat):Int) < ((n:Nat):Int)))) (by kernel_rfl) (fun hb10=>?_) (fun hb10=>?_)
 ·have hlt:k < n:=by have:=of_decide_eq_true hb10; omega
  refine Zav (Zaa (Zac (ZaP ?_)))
  refine ZbJ 14 (by kernel_rfl) (by kernel_rfl) Zas ?_
  refine xqg 3 [(15, .v (.int .i64 (sumT zs k))),eS1 16 A n c,(17, .v (.int .i64 ((k:Nat):Int)))] ?_
  refine xqj 18 (atA A (k * 1)) (fun w Q=>ZaN (t:=22) (e:=3) (sz:=1) (x:=.tmp 16) (ix:=.tmp 17) (len:=n) (cap:=c) (i:=k) ((Q.1).ne (i:=k) (by omega)) (by omega)) ?_
  refine xqj 19 (.int .i64 (nth zs k)) (fun w Q=>Zbd (t:=3) (x:=.tmp 18) (zs:=zs) (j:=k) (Q.1) (by omega)) ?_
  refine xqg 1 [(20, .v (.int .i64 (IntKind.i64.wrap ((sumT zs k) + (nth zs k)))))] ?_
  rw [(Zln hz.2 (by omega):IntKind.i64.wrap (sumT zs k + nth zs k)=sumT zs (k + 1))]
  refine xqg 3 [(21, .v (.int .i64 (sumT ys k))),eS1 22 B n d,(23, .v (.int .i64 ((k:Nat):Int)))] ?_
  refine xqj 24 (atA B (k * 1)) (fun w Q=>ZaN (t:=22) (e:=3) (sz:=1) (x:=.tmp 22) (ix:=.tmp 23) (len:=n) (cap:=d) (i:=k) ((Q.2).ne (i:=k) (by omega)) (by omega)) ?_
  refine xqj 25 (.int .i64 (nth ys k)) (fun w Q=>Zbd (t:=3) (x:=.tmp 24) (zs:=ys) (j:=k) (Q.2) (by omega)) ?_
  refine xqg 1 [(26, .v (.int .i64 (IntKind.i64.wrap ((sumT ys k) + (nth ys k)))))] ?_
  rw [(Zln hy.2 (by omega):IntKind.i64.wrap (sumT ys k + nth ys k)=sumT ys (k + 1))]
  refine xqg 2 [(5, .v (.int .i64 (sumT zs (k + 1)))),(6, .v (.int .i64 (sumT ys (k + 1))))] ?_
  refine xz (xe (ZbP (Zaa (Zab (xq 2 [(14, .v (.int .i64 (IntKind.i64.wrap (((k:Nat):Int) + 1))))] [] ?_)))))
  rw [(show IntKind.i64.wrap (((k:Nat):Int) + 1)=((k + 1:Nat):Int) from by rw [IntKind.wrap_i64]; omega)]
  refine xq 1 [(7, .v (.int .i64 ((k + 1:Nat):Int)))] [] ?_
  refine xe ?_
  refine SXq.weak [(0, .v (.slice A n c)),(1, .v (.slice B n d)),(4, .v (.int .i64 0)),(5, .v (.int .i64 (sumT zs (k + 1)))),(6, .v (.int .i64 (sumT ys (k + 1)))),(7, .v (.int .i64 (((k + 1):Nat):Int)))] [] (Ψ:=fun w=>(IRow w A zs∧IRow w B ys)) (ZaM.of (by kernel_rfl)) (by kernel_rfl) (fun w Q=>⟨Q.1,Q.2⟩) ?_
  exact Zbm ((1 + (n - (k + 1)))) (by omega) ⟨(k + 1),rfl,rfl,hlt,rfl⟩
 ·have hge:n≤k:=by have:=of_decide_eq_false hb10; omega
  obtain rfl:n=k:=by omega
  refine ZbL (Zaw (Zaw (Zcb (Zaa (Zac (Zac ?_))))))
  by_cases hs:sumT zs n=sumT ys n
  ·refine Zab (xq 3 [(29, .v (.bool (((sumT zs n):Int) != (sumT ys n))))] [] ?_)
   rw [(show ((sumT zs n:Int) != sumT ys n)=false from by simp [hs])]
   refine xe (Zaa (xb (Zav (Zaa (Zac (Zac (Zab (xq 3 [(35, .v (.int .i64 (IntKind.i64.wrap (((n:Nat):Int) - 1))))] [] ?_))))))))
   rw [(show IntKind.i64.wrap (((n:Nat):Int) - 1)=((n:Nat):Int) - 1 from by rw [IntKind.wrap_i64]; omega)]
   refine xq 1 [(8, .v (.int .i64 (((n:Nat):Int) - 1)))] [] ?_
   refine xe (Zaa (ZaP ?_))
   refine SXc.weak [(0, .v (.slice A n c)),(1, .v (.slice B n d)),(4, .v (.int .i64 0)),(8, .v (.int .i64 (((n:Nat):Int) - 1)))] [] (Ψ:=fun w=>(IRow w A zs∧IRow w B ys)) (ZaM.of (by kernel_rfl)) (by kernel_rfl) (fun w Q=>⟨Q.1,Q.2⟩) ?_
   refine ZbU (fun nn ss ff=>∃ (k:Nat),ss=ofL [(0, .v (.slice A n c)),(1, .v (.slice B n d)),(4, .v (.int .i64 0)),(8, .v (.int .i64 (((k:Nat):Int) - 1)))] []∧ff=(fun w=>(IRow w A zs∧IRow w B ys))∧(k≤n)∧(ordL zs ys n=ordL zs ys k)∧nn=(1 + k)) ((1 + n)) ⟨n,rfl,rfl,(Nat.le_refl _),rfl,rfl⟩ ?_
   rintro nn ss ff ⟨k,rfl,rfl,hk,hord,rfl⟩
   refine Zac (Zac (Zab (xq 2 [(37, .v (.bool (decide ((((k:Nat):Int) - 1) ≥ 0))))] [] ?_)))
   refine xe (Zaa ?_)
   refine Zbc ((decide ((((k:Nat):Int) - 1) ≥ 0))) (by kernel_rfl) (fun hb11=>?_) (fun hb11=>?_)
   ·have hk0:0 < k:=by have:=of_decide_eq_true hb11; omega
    obtain ⟨m,rfl⟩:∃ m,k=m + 1:=⟨k - 1,by omega⟩
    rw [show ((m + 1:Nat):Int) - 1=((m:Nat):Int) from by omega]
    refine Zav (Zaa (Zac (ZaP (Zac ?_))))
    by_cases he:nth zs m=nth ys m
    ·refine ZbJ 9 (by kernel_rfl) (by kernel_rfl) Zas ?_
     refine xqg 2 [eS1 40 A n c,(41, .v (.int .i64 ((m:Nat):Int)))] ?_
     refine xqj 42 (atA A (m * 1)) (fun w Q=>ZaN (t:=22) (e:=3) (sz:=1) (x:=.tmp 40) (ix:=.tmp 41) (len:=n) (cap:=c) (i:=m) ((Q.1).ne (i:=m) (by omega)) (by omega)) ?_
     refine xqj 43 (.int .i64 (nth zs m)) (fun w Q=>Zbd (t:=3) (x:=.tmp 42) (zs:=zs) (j:=m) (Q.1) (by omega)) ?_
     refine xqg 2 [eS1 44 B n d,(45, .v (.int .i64 ((m:Nat):Int)))] ?_
     refine xqj 46 (atA B (m * 1)) (fun w Q=>ZaN (t:=22) (e:=3) (sz:=1) (x:=.tmp 44) (ix:=.tmp 45) (len:=n) (cap:=d) (i:=m) ((Q.2).ne (i:=m) (by omega)) (by omega)) ?_
     refine xqj 47 (.int .i64 (nth ys m)) (fun w Q=>Zbd (t:=3) (x:=.tmp 46) (zs:=ys) (j:=m) (Q.2) (by omega)) ?_
     refine xqg 1 [(48, .v (.bool (((nth zs m):Int) != (nth ys m))))] ?_
     rw [(show ((nth zs m:Int) != nth ys m)=false from by simp [he])]
     refine xz (xe (Zaa (xb (Zav (ZbP (Zaa (Zab (xq 2 [(39, .v (.int .i64 (IntKind.i64.wrap (((m:Nat):Int) - 1))))] [] ?_))))))))
     rw [(show IntKind.i64.wrap (((m:Nat):Int) - 1)=((m:Nat):Int) - 1 from by rw [IntKind.wrap_i64]; omega)]
     refine xq 1 [(8, .v (.int .i64 (((m:Nat):Int) - 1)))] [] ?_
     refine xe ?_
     refine SXq.weak [(0, .v (.slice A n c)),(1, .v (.slice B n d)),(4, .v (.int .i64 0)),(8, .v (.int .i64 (((m:Nat):Int) - 1)))] [] (Ψ:=fun w=>(IRow w A zs∧IRow w B ys)) (ZaM.of (by kernel_rfl)) (by kernel_rfl) (fun w Q=>⟨Q.1,Q.2⟩) ?_
     exact Zbm ((1 + m)) (by omega) ⟨m,rfl,rfl,(by omega),(by rw [hord]; show (if nth zs m=nth ys m then _ else _)=_; rw [if_pos he]),rfl⟩
    ·by_cases hgt:nth zs m > nth ys m
     ·refine ZbJ 9 (by kernel_rfl) (by kernel_rfl) Zas ?_
      refine xqg 2 [eS1 40 A n c,(41, .v (.int .i64 ((m:Nat):Int)))] ?_
      refine xqj 42 (atA A (m * 1)) (fun w Q=>ZaN (t:=22) (e:=3) (sz:=1) (x:=.tmp 40) (ix:=.tmp 41) (len:=n) (cap:=c) (i:=m) ((Q.1).ne (i:=m) (by omega)) (by omega)) ?_
      refine xqj 43 (.int .i64 (nth zs m)) (fun w Q=>Zbd (t:=3) (x:=.tmp 42) (zs:=zs) (j:=m) (Q.1) (by omega)) ?_
      refine xqg 2 [eS1 44 B n d,(45, .v (.int .i64 ((m:Nat):Int)))] ?_
      refine xqj 46 (atA B (m * 1)) (fun w Q=>ZaN (t:=22) (e:=3) (sz:=1) (x:=.tmp 44) (ix:=.tmp 45) (len:=n) (cap:=d) (i:=m) ((Q.2).ne (i:=m) (by omega)) (by omega)) ?_
      refine xqj 47 (.int .i64 (nth ys m)) (fun w Q=>Zbd (t:=3) (x:=.tmp 46) (zs:=ys) (j:=m) (Q.2) (by omega)) ?_
      refine xqg 1 [(48, .v (.bool (((nth zs m):Int) != (nth ys m))))] ?_
      rw [(show ((nth zs m:Int) != nth ys m)=true from by simp [he])]
      refine xz (xe (Zaa (xa (Zac (Zac ?_)))))
      refine ZbJ 9 (by kernel_rfl) (by kernel_rfl) Zas ?_
      refine xqg 2 [eS1 49 A n c,(50, .v (.int .i64 ((m:Nat):Int)))] ?_
      refine xqj 51 (atA A (m * 1)) (fun w Q=>ZaN (t:=22) (e:=3) (sz:=1) (x:=.tmp 49) (ix:=.tmp 50) (len:=n) (cap:=c) (i:=m) ((Q.1).ne (i:=m) (by omega)) (by omega)) ?_
      refine xqj 52 (.int .i64 (nth zs m)) (fun w Q=>Zbd (t:=3) (x:=.tmp 51) (zs:=zs) (j:=m) (Q.1) (by omega)) ?_
      refine xqg 2 [eS1 53 B n d,(54, .v (.int .i64 ((m:Nat):Int)))] ?_
      refine xqj 55 (atA B (m * 1)) (fun w Q=>ZaN (t:=22) (e:=3) (sz:=1) (x:=.tmp 53) (ix:=.tmp 54) (len:=n) (cap:=d) (i:=m) ((Q.2).ne (i:=m) (by omega)) (by omega)) ?_
      refine xqj 56 (.int .i64 (nth ys m)) (fun w Q=>Zbd (t:=3) (x:=.tmp 55) (zs:=ys) (j:=m) (Q.2) (by omega)) ?_
      refine xqg 1 [(57, .v (.bool (decide ((nth zs m) > (nth ys m)))))] ?_
      rw [(show decide (nth zs m > nth ys m)=true from decide_eq_true hgt)]
      refine xz (xe (Zaa (xa (Zac (Zab (xq 1 [(4, .v (.int .i64 (-1)))] [] ?_))))))
      refine xe (Zaa (Zau (Zae (ZaC (Zae (Zae (ZaC (Zae ?_))))))))
      refine Zai (v:=.int .i64 (-1)) (by kernel_rfl) (fun w' R Q=>?_)
      exact ⟨by rw [Zlo hnz hny hs,hord]; show Ending.returned (.int .i64 _)=.returned (.int .i64 (if nth zs m=nth ys m then _ else _)); rw [if_neg he,ZoJ (by omega)],R⟩
     ·refine ZbJ 9 (by kernel_rfl) (by kernel_rfl) Zas ?_
      refine xqg 2 [eS1 40 A n c,(41, .v (.int .i64 ((m:Nat):Int)))] ?_
      refine xqj 42 (atA A (m * 1)) (fun w Q=>ZaN (t:=22) (e:=3) (sz:=1) (x:=.tmp 40) (ix:=.tmp 41) (len:=n) (cap:=c) (i:=m) ((Q.1).ne (i:=m) (by omega)) (by omega)) ?_
      refine xqj 43 (.int .i64 (nth zs m)) (fun w Q=>Zbd (t:=3) (x:=.tmp 42) (zs:=zs) (j:=m) (Q.1) (by omega)) ?_
      refine xqg 2 [eS1 44 B n d,(45, .v (.int .i64 ((m:Nat):Int)))] ?_
      refine xqj 46 (atA B (m * 1)) (fun w Q=>ZaN (t:=22) (e:=3) (sz:=1) (x:=.tmp 44) (ix:=.tmp 45) (len:=n) (cap:=d) (i:=m) ((Q.2).ne (i:=m) (by omega)) (by omega)) ?_
      refine xqj 47 (.int .i64 (nth ys m)) (fun w Q=>Zbd (t:=3) (x:=.tmp 46) (zs:=ys) (j:=m) (Q.2) (by omega)) ?_
      refine xqg 1 [(48, .v (.bool (((nth zs m):Int) != (nth ys m))))] ?_
      rw [(show ((nth zs m:Int) != nth ys m)=true from by simp [he])]
      refine xz (xe (Zaa (xa (Zac (Zac ?_)))))
      refine ZbJ 9 (by kernel_rfl) (by kernel_rfl) Zas ?_
      refine xqg 2 [eS1 49 A n c,(50, .v (.int .i64 ((m:Nat):Int)))] ?_
      refine xqj 51 (atA A (m * 1)) (fun w Q=>ZaN (t:=22) (e:=3) (sz:=1) (x:=.tmp 49) (ix:=.tmp 50) (len:=n) (cap:=c) (i:=m) ((Q.1).ne (i:=m) (by omega)) (by omega)) ?_
      refine xqj 52 (.int .i64 (nth zs m)) (fun w Q=>Zbd (t:=3) (x:=.tmp 51) (zs:=zs) (j:=m) (Q.1) (by omega)) ?_
      refine xqg 2 [eS1 53 B n d,(54, .v (.int .i64 ((m:Nat):Int)))] ?_
      refine xqj 55 (atA B (m * 1)) (fun w Q=>ZaN (t:=22) (e:=3) (sz:=1) (x:=.tmp 53) (ix:=.tmp 54) (len:=n) (cap:=d) (i:=m) ((Q.2).ne (i:=m) (by omega)) (by omega)) ?_
      refine xqj 56 (.int .i64 (nth ys m)) (fun w Q=>Zbd (t:=3) (x:=.tmp 55) (zs:=ys) (j:=m) (Q.2) (by omega)) ?_
      refine xqg 1 [(57, .v (.bool (decide ((nth zs m) > (nth ys m)))))] ?_
      rw [(show decide (nth zs m > nth ys m)=false from decide_eq_false hgt)]
      refine xz (xe (Zaa (xb (Zav (Zaa (Zac (Zab (xq 1 [(4, .v (.int .i64 1))] [] ?_))))))))
      refine xe (Zaa (Zau (ZaC (Zae (Zae (ZaC (Zae ?_)))))))
      refine Zai (v:=.int .i64 1) (by kernel_rfl) (fun w' R Q=>?_)
      exact ⟨by rw [Zlo hnz hny hs,hord]; show Ending.returned (.int .i64 _)=.returned (.int .i64 (if nth zs m=nth ys m then _ else _)); rw [if_neg he,ZoK (by omega)],R⟩
   ·have hk0:k=0:=by have:=of_decide_eq_false hb11; omega
    refine ZbL (Zaw (Zaw (Zcb (Zaa (Zac (Zab (xq 1 [(4, .v (.int .i64 0))] [] ?_)))))))
    refine xe (Zaa (Zau ?_))
    refine Zai (v:=.int .i64 0) (by kernel_rfl) (fun w' R Q=>?_)
    exact ⟨by rw [Zlo hnz hny hs,hord,hk0]; rfl,R⟩
  ·by_cases hlt2:sumT zs n < sumT ys n
   ·refine Zab (xq 3 [(29, .v (.bool (((sumT zs n):Int) != (sumT ys n))))] [] ?_)
    rw [(show ((sumT zs n:Int) != sumT ys n)=true from by simp [hs])]
    refine xe (Zaa (xa (Zac (Zac (Zab (xq 3 [(32, .v (.bool (decide ((sumT zs n) < (sumT ys n)))))] [] ?_))))))
    rw [(show decide (sumT zs n < sumT ys n)=true from decide_eq_true hlt2)]
    refine xe (Zaa (xa (Zac (Zab (xq 1 [(4, .v (.int .i64 (-1)))] [] ?_)))))
    refine xe (Zaa (Zau (Zae (Zae ?_))))
    refine Zai (v:=.int .i64 (-1)) (by kernel_rfl) (fun w' R Q=>?_)
    exact ⟨by rw [ZoI hnz hny hs,ZoJ hlt2],R⟩
   ·refine Zab (xq 3 [(29, .v (.bool (((sumT zs n):Int) != (sumT ys n))))] [] ?_)
    rw [(show ((sumT zs n:Int) != sumT ys n)=true from by simp [hs])]
    refine xe (Zaa (xa (Zac (Zac (Zab (xq 3 [(32, .v (.bool (decide ((sumT zs n) < (sumT ys n)))))] [] ?_))))))
    rw [(show decide (sumT zs n < sumT ys n)=false from decide_eq_false hlt2)]
    refine xe (Zaa (xb (Zav (Zaa (Zac (Zab (xq 1 [(4, .v (.int .i64 1))] [] ?_)))))))
    refine xe (Zaa (Zau (Zae ?_)))
    refine Zai (v:=.int .i64 1) (by kernel_rfl) (fun w' R Q=>?_)
    exact ⟨by rw [ZoI hnz hny hs,ZoK (by omega)],R⟩
theorem Zj9 (A B:Option Addr) (c d:Nat) (zs ys:List Int) (w:World) (hl:ys.length=zs.length) (hA:IRow w A zs) (hB:IRow w B ys) (hz:Zel zs) (hy:Zel ys) :
 Calls Tryz.prog 291 #[.slice A zs.length c, .slice B ys.length d] w (RetV w (.int .i64 (ordF zs ys))):=by
 have h:=Zmb A B c d zs.length zs ys w hA hB rfl hl hz hy
 rw [hl]; exact h
end Go.Proofs.YtcpjeaaapocoeaaGreatDoor

namespace Go.Proofs.YtcpjeaaapocoeaaGreatDoor
open Go.RowKit
theorem ZdJ {w w':World} {e:Ending} {x y:Value} (h:e=.returned x∧w'=w) (hxy:x=y):Zbh (fun _:Unit=>y) (fun _ _=>True) w e w':=by
 obtain ⟨rfl,rfl⟩:=h
 subst hxy
 exact ⟨(),rfl,Fr.refl _ _,BoxN.pure trivial⟩
section
variable {v:Int} {ts:List TermR} {u:TermR}
theorem ZmT (h:4096 < ts.length):ZaG v ts=false:=by unfold ZaG; rw [decide_eq_false (by omega:¬ ts.length≤4096)]; rfl
theorem ZfX (a b c d:Bool):(a && (b && (c && d)))=((a && (b && c)) && d):=by cases a<;>cases b<;>cases c<;>rfl
theorem ZmU (h:(decide (0≤v) && (decide (v≤6) && wfT v ts ts.length))=false):ZaG v ts=false:=by
 unfold ZaG; rw [ZfX (decide (0≤v)),h,Bool.false_and,Bool.and_false]
theorem Zlv (h:(decide (0≤v) && (decide (v≤6) && wfT v ts ts.length))=true) (h0:ts.length=0):ZaG v ts=true:=by
 unfold ZaG; rw [ZfX (decide (0≤v)),h,decide_eq_true (by omega:ts.length≤4096),decide_eq_true h0]; rfl
theorem ZmV (hL:¬ 4096 < ts.length) (h:(decide (0≤v) && (decide (v≤6) && wfT v ts ts.length))=true) (hu:ts[0]! = u) (hd:0≤degF u.exps):ZaG v ts=true:=by
 unfold ZaG; rw [ZfX (decide (0≤v)),h,decide_eq_true (by omega:ts.length≤4096),hu,decide_eq_true hd,Bool.or_true]; rfl
theorem ZmW (h0:0 < ts.length) (hu:ts[0]! = u) (hd:¬ 0≤degF u.exps):ZaG v ts=false:=by
 unfold ZaG; rw [hu,decide_eq_false hd,decide_eq_false (by omega:¬ ts.length=0),Bool.or_false,Bool.and_false,Bool.and_false,Bool.and_false,Bool.and_false]
end
theorem ZoQ (A:Option Addr) (c:Nat) (ts:List TermR) (v:Int) (w:World) (hg:Glob w) (hT:TRow w A ts) (hc:∀ i,i < ts.length→(bytes ts[i]!.coef).length≤570) (hx:∀ i,i < ts.length→ts[i]!.exps.length≤9223372036854775807) :
 Calls Tryz.prog 137 #[.agg #[.int .i64 v, .slice A ts.length c]] w (ZcP w (ZaG v ts)):=by
 refine Za6 (Φ:=fun w=>(Glob w∧TRow w A ts)) Tryz.func137 rfl (by kernel_rfl) (fun w' hf=>⟨hg.ext hf,hT.ext hf⟩) ?_
 refine Zac (Zab (xq 3 [(1, .p 1 0),eS1 2 none 0 0,(3, .v (.bool false))] [(1,43,[.v (.int .i64 v), .v (.slice A ts.length c)])] ?_))
 refine xe (Zaa (Zac (Zac ?_)))
 by_cases hL:4096 < ts.length
 ·refine Zab (xq 4 [(9, .v (.bool (decide (((ts.length:Nat):Int) > 4096))))] [] ?_)
  rw [(show decide (((ts.length:Nat):Int) > 4096)=true from decide_eq_true (by omega))]
  refine xe (Zaa (xa (Zac (Zab (xq 2 [eS1 2 none 0 0,(3, .v (.bool false))] [] ?_)))))
  refine xe (Zaa (Zau (Zae ?_)))
  refine Zai (v:=.tuple #[.slice none 0 0, .bool false]) (by kernel_rfl) (fun w' R Q=>?_)
  exact ZcP.of (ZmT hL) R
 ·refine Zab (xq 4 [(9, .v (.bool (decide (((ts.length:Nat):Int) > 4096))))] [] ?_)
  rw [(show decide (((ts.length:Nat):Int) > 4096)=false from decide_eq_false (by omega))]
  refine xe (Zaa (xb (Zav (Zaa (Zac (Zab (xq 1 [(11, .v (.agg #[.int .i64 v, .slice A ts.length c]))] [] ?_)))))))
  cases hw:(decide (0≤v) && (decide (v≤6) && wfT v ts ts.length))
  ·refine xqc 245 [.agg #[.int .i64 v, .slice A ts.length c]] 12 (fun x:ShN=>.tuple #[.slice x.1 x.2.1 x.2.2, .bool false]) _ (fun w R Q=>(ZiX A c ts v _ Q.1 Q.2 (by omega) hc hx).mono (fun _ _ h=>Zjw (by rw [hw] at h; exact h))) (fun xx=>?_)
   obtain ⟨A10,l10,c10⟩:=xx
   refine xq 5 [eS1 4 A10 l10 c10,(5, .v (.bool false))] [] ?_
   refine xe (Zaa (Zac (Zac (Zab (xq 17 [(31, .v (.bool true))] [] ?_)))))
   refine xe (Zaa (xa (Zac (Zab (xq 2 [eS1 2 none 0 0,(3, .v (.bool false))] [] ?_)))))
   refine xe (Zaa (Zau (Zae ?_)))
   refine Zai (v:=.tuple #[.slice none 0 0, .bool false]) (by kernel_rfl) (fun w' R Q=>?_)
   exact ZcP.of (ZmU hw) R
  ·refine xqc 245 [.agg #[.int .i64 v, .slice A ts.length c]] 12 (fun x:ShN=>.tuple #[.slice x.1 x.2.1 x.2.2, .bool true]) _ (fun w R Q=>(ZiX A c ts v _ Q.1 Q.2 (by omega) hc hx).mono (fun _ _ h=>Zjw (by rw [hw] at h; exact h))) (fun xx=>?_)
   obtain ⟨A11,l11,c11⟩:=xx
   refine xq 5 [eS1 4 A11 l11 c11,(5, .v (.bool true))] [] ?_
   refine xe (Zaa (Zac (Zac ?_)))
   by_cases h0:0 < ts.length
   ·obtain ⟨u,hu⟩:∃ x,ts[0]! = x:=⟨_,rfl⟩
    refine SXc.know (p:=∃ tb tf,A=some ⟨tb,tf,none⟩) (fun w _ Q=>TRow.at_ Q.1.2 h0) (fun hAe=>?_)
    obtain ⟨tb,tf,hA⟩:=hAe
    refine Zab (xq 7 [(17, .v (.bool false)),(21, .v (.bool (decide (((ts.length:Nat):Int) > 0))))] [] ?_)
    rw [(show decide (((ts.length:Nat):Int) > 0)=true from decide_eq_true (by omega))]
    refine xq 3 [(22, .v (.bool true)),eS1 24 A ts.length c] [] ?_
    refine xqk 25 (.pointer (some ⟨tb,tf + 0 * 2,none⟩)) (fun w R Q=>ZaV hA (t:=41) (e:=53) (sz:=2) (x:=.tmp 24) (ix:=.const (.int .i64 0)) (len:=ts.length) (cap:=c) (i:=0) h0) ?_
    refine xq 1 [(26, .v (.pointer (some ⟨tb,tf + 0 * 2 + 1,none⟩)))] [] ?_
    refine xqk 27 (.slice u.A u.exps.length u.cap) (fun w R Q=>by rw [← hu]; exact Zbk hA (t:=22) (x:=.tmp 26) (ts:=ts) (j:=0) (Q.1.2) h0) ?_
    by_cases hd:0≤degF u.exps
    ·refine xqc 246 [.slice u.A u.exps.length u.cap] 28 (fun _:Unit=>.bool true) _ (fun w R Q=>(ZiI u.A u.cap u.exps _ (hu ▸ TRow.exps Q.1.2 h0) (hu ▸ hx 0 h0)).mono (fun _ _ h=>ZdJ h (by rw [decide_eq_true hd]))) (fun xx=>?_)
     refine xq 3 [(31, .v (.bool false))] [] ?_
     refine xe (Zaa (xb (Zav (Zaa (Zac (Zab (xq 3 [eS1 2 A11 l11 c11,(3, .v (.bool true))] [] ?_)))))))
     refine xe (Zaa (Zau ?_))
     refine Zai (v:=.tuple #[.slice A11 l11 c11, .bool true]) (by kernel_rfl) (fun w' R Q=>?_)
     exact ZcP.of (ZmV hL hw hu hd) R
    ·refine xqc 246 [.slice u.A u.exps.length u.cap] 28 (fun _:Unit=>.bool false) _ (fun w R Q=>(ZiI u.A u.cap u.exps _ (hu ▸ TRow.exps Q.1.2 h0) (hu ▸ hx 0 h0)).mono (fun _ _ h=>ZdJ h (by rw [decide_eq_false hd]))) (fun xx=>?_)
     refine xq 3 [(31, .v (.bool true))] [] ?_
     refine xe (Zaa (xa (Zac (Zab (xq 2 [eS1 2 none 0 0,(3, .v (.bool false))] [] ?_)))))
     refine xe (Zaa (Zau (Zae ?_)))
     refine Zai (v:=.tuple #[.slice none 0 0, .bool false]) (by kernel_rfl) (fun w' R Q=>?_)
     exact ZcP.of (ZmW h0 hu hd) R
   ·refine Zab (xq 7 [(17, .v (.bool false)),(21, .v (.bool (decide (((ts.length:Nat):Int) > 0))))] [] ?_)
    rw [(show decide (((ts.length:Nat):Int) > 0)=false from decide_eq_false (by omega))]
    refine xq 10 [(31, .v (.bool false))] [] ?_
    refine xe (Zaa (xb (Zav (Zaa (Zac (Zab (xq 3 [eS1 2 A11 l11 c11,(3, .v (.bool true))] [] ?_)))))))
    refine xe (Zaa (Zau ?_))
    refine Zai (v:=.tuple #[.slice A11 l11 c11, .bool true]) (by kernel_rfl) (fun w' R Q=>?_)
    exact ZcP.of (Zlv hw (by omega)) R
theorem ZfY (A:Option Addr) (c:Nat) (ts:List TermR) (v:Int) (w:World) (hg:Glob w) (hT:TRow w A ts) (hc:∀ i,i < ts.length→(bytes ts[i]!.coef).length≤570) (hx:∀ i,i < ts.length→ts[i]!.exps.length≤9223372036854775807) :
 Calls Tryz.prog 63 #[.agg #[.int .i64 v, .slice A ts.length c]] w (RetV w (.bool (ZaG v ts))):=by
 refine Za6 (Φ:=fun w=>(Glob w∧TRow w A ts)) Tryz.func63 rfl (by kernel_rfl) (fun w' hf=>⟨hg.ext hf,hT.ext hf⟩) ?_
 refine Zac (Zab (xq 2 [(1, .p 1 0),(2, .v (.bool false))] [(1,43,[.v (.int .i64 v), .v (.slice A ts.length c)])] ?_))
 refine xe (Zaa (Zac (Zab (xq 1 [(6, .v (.agg #[.int .i64 v, .slice A ts.length c]))] [] ?_))))
 refine xqc 137 [.agg #[.int .i64 v, .slice A ts.length c]] 7 (fun x:ShN=>.tuple #[.slice x.1 x.2.1 x.2.2, .bool (ZaG v ts)]) _ (fun w R Q=>(ZoQ A c ts v _ Q.1 Q.2 hc hx).mono (fun _ _=>Zjw)) (fun xx=>?_)
 obtain ⟨A10,l10,c10⟩:=xx
 refine xq 5 [(4, .v (.bool (ZaG v ts)))] [] ?_
 refine xe (Zaa (Zac (Zab (xq 2 [(2, .v (.bool (ZaG v ts)))] [] ?_))))
 refine xe (Zaa (Zau ?_))
 refine Zai (v:=.bool (ZaG v ts)) (by kernel_rfl) (fun w' R Q=>?_)
 exact ⟨rfl,R⟩
end Go.Proofs.YtcpjeaaapocoeaaGreatDoor
