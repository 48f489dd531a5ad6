/-
 My texts Nr, Ng, Nf, Nt, Nd, Len2, Nrd, RdK, Nm put together.
-/
import Derived.Test.YthlipnahcbcjkaaGreatDoorM14
import Derived.Test.YthlipnahcbcjkaaGreatDoorM18
import Derived.Test.YthlipnahcbcjkaaGreatDoorM12
import Derived.Test.YthlipnahcbcjkaaGreatDoorM16
import Derived.Test.YthlipnahcbcjkaaGreatDoorM11
set_option maxRecDepth 100000
namespace Go.Proofs.YthlipnahcbcjkaaGreatDoor
open Go.RowKit
theorem ZdV (neg:Bool) (u:Value) (n:Nat) (w:World) (hu:Zas w u n):Calls Tryz.prog 162 #[.bool neg,u] w (Za1 w (sg neg n)):=by
 refine (ZbL neg u n w hu).mono ?_
 rintro e w1 ⟨s,rfl,hs,hF⟩
 exact ⟨_,rfl,Zap.signed (hu.ext hF) hs.out,hF⟩
theorem Zap.opn {w:World} {s:Bool} {A:Option Addr} {l c:Nat} {z:Int} (h:Zap w (.agg #[.bool s, .slice A l c]) z):Zas w (.slice A l c) z.natAbs∧z=sg s z.natAbs∧(z=0→s=false):=by
 obtain ⟨s',A',l',c',he,h1,h2,h3⟩:=h.open
 injection he with he
 simp at he
 obtain ⟨rfl,rfl,rfl,rfl⟩:=he
 exact ⟨h1,h2,h3⟩
theorem Zap.mag {w:World} {s:Bool} {A:Option Addr} {l c:Nat} {z:Int} (h:Zap w (.agg #[.bool s, .slice A l c]) z):Zas w (.slice A l c) z.natAbs:=h.opn.1
theorem ZtS {w:World} {s:Bool} {A:Option Addr} {l c:Nat} {z:Int} (h:Zap w (.agg #[.bool s, .slice A l c]) z):sg (!s) z.natAbs = -z:=by
 obtain ⟨_,h2,h3⟩:=h.opn
 cases s<;>simp [sg] at *<;>omega
theorem ZaT.neg {x:Int} (h:ZaT x):ZaT (-x):=by
 unfold ZaT at *; rw [Int.natAbs_neg]; exact h
theorem ZfF {fn:Func} {t:Tmp} {tmps:Array Value} {w w':World} {r:Nat} {x y:Value} {z:Int} (hres:fn.results=#[.cell t 43]) (ht:tmps[t]? = some (.pointer (some ⟨r,0,none⟩)))
 (hB:Blk 43 w' r #[x,y]) (hI:Zap w' (.agg #[x,y]) z) (Q:Ext w w'):bodyPost Tryz.prog fn (Za1 w z) .ret ⟨tmps,[]⟩ w' :=
 bodyPost_ret (Zfb hres _ _ r _ _ ht hB) rfl ⟨_,rfl,hI,Q⟩
theorem Zap.sneg {w:World} {s:Bool} {A:Option Addr} {l c:Nat} {z:Int} (h:Zap w (.agg #[.bool s, .slice A l c]) z) (hz:z < 0):s=true:=by
 obtain ⟨_,h2,h3⟩:=h.opn
 cases s with
 | true=>rfl
 | false=>simp [sg] at h2; omega
theorem Zap.spos {w:World} {s:Bool} {A:Option Addr} {l c:Nat} {z:Int} (h:Zap w (.agg #[.bool s, .slice A l c]) z) (hz:0≤z):s=false:=by
 obtain ⟨_,h2,h3⟩:=h.opn
 cases s with
 | false=>rfl
 | true=>simp [sg] at h2; exact h3 (by omega)
theorem Zap.len0 {w:World} {s:Bool} {A:Option Addr} {l c:Nat} {z:Int} (h:Zap w (.agg #[.bool s, .slice A l c]) z) (hz:z=0):l=0:=by
 obtain ⟨h1,_,_⟩:=h.opn
 obtain ⟨A',xs,c',he,_,_,hd,ht,hv⟩:=h1
 injection he with _ he
 rw [hz] at hv
 have:=Zl9 ht Zax hv
 rw [this] at he
 simpa using he
theorem Zap.lenp {w:World} {s:Bool} {A:Option Addr} {l c:Nat} {z:Int} (h:Zap w (.agg #[.bool s, .slice A l c]) z) (hz:z≠0):0 < l:=by
 obtain ⟨h1,_,_⟩:=h.opn
 obtain ⟨A',xs,c',he,_,_,hd,ht,hv⟩:=h1
 injection he with _ he
 rcases Nat.eq_zero_or_pos l with e | e
 ·rw [e] at he
  have:xs=[]:=List.length_eq_zero_iff.1 he.symm
  rw [this] at hv
  simp at hv
  omega
 ·exact e
theorem Zap.quo {w:World} {s t:Bool} {A B:Option Addr} {l c l' c':Nat} {x y:Int} (h:Zap w (.agg #[.bool s, .slice A l c]) x) (k:Zap w (.agg #[.bool t, .slice B l' c']) y):sg (s != t) (x.natAbs / y.natAbs)=x.tdiv y∧sg s (x.natAbs % y.natAbs)=x.tmod y:=by
 obtain ⟨_,h2,h3⟩:=h.opn
 obtain ⟨_,k2,k3⟩:=k.opn
 generalize x.natAbs=m at *
 generalize y.natAbs=n at *
 subst h2 k2
 cases s<;>cases t<;>simp [sg,Int.neg_tdiv,Int.tdiv_neg,Int.neg_tmod,Int.tmod_neg]<;>exact (Int.tmod_eq_emod_of_nonneg (by omega)).symm
def ZiI (w:World) (q r:Int) (e:Ending) (w':World):Prop:=∃ u v,e=.returned (.tuple #[u,v])∧Zap w' u q∧Zap w' v r∧Ext w w'
theorem ZrT {fn:Func} {t t':Tmp} {tmps:Array Value} {w w':World} {r r':Nat} {x y x' y':Value} {z z':Int} (hres:fn.results=#[.cell t 43, .cell t' 43]) (ht:tmps[t]? = some (.pointer (some ⟨r,0,none⟩))) (ht':tmps[t']? = some (.pointer (some ⟨r',0,none⟩)))
 (hB:Blk 43 w' r #[x,y]) (hB':Blk 43 w' r' #[x',y']) (hI:Zap w' (.agg #[x,y]) z) (hI':Zap w' (.agg #[x',y']) z') (Q:Ext w w'):bodyPost Tryz.prog fn (ZiI w z z') .ret ⟨tmps,[]⟩ w':=by
 obtain ⟨h0,h1,_⟩:=hB.cell2
 obtain ⟨k0,k1,_⟩:=hB'.cell2
 exact bodyPost_ret (v:=.tuple #[.agg #[x,y], .agg #[x',y']]) (by simp [results,hres,ht,ht',go_sem,h0,h1,k0,k1]) rfl ⟨_,_,rfl,hI,hI',Q⟩
theorem ZiJ {q:Rat} (h:¬ q.den=1):denF q≠0:=by rw [ZbV h]; have:=q.den_nz; omega
set_option maxHeartbeats 2000000 in
theorem Zf2 (a:Value) (x:Int) (w:World) (ha:Zap w a x) :
 Calls Tryz.prog 87 #[a] w (Za1 w (-x)):=by
 obtain ⟨s1,A1,l1,c1,rfl⟩:=ha.shp
 have F2:Hid (Zap w (.agg #[.bool s1, .slice A1 l1 c1]) (x)):=ha
 clear ha
 have Hs:=zh (ZtS F2.out)
 go_enter Tryz.func87,Tryz.ntmps87
 go_wp2_with fail
 generalize hwb:World.alloc (World.alloc w _) _=w5
 obtain ⟨b_B3,b_B4,hE0⟩:=ZfE hwb
 clear hwb
 have B3:=zh b_B3
 have B4:=zh b_B4
 clear b_B3 b_B4
 replace F2:=zh (F2.out.ext hE0)
 have HE:=zh hE0
 clear hE0
 have F6:Hid (Zas w5 (.slice A1 l1 c1) ((x).natAbs)):=F2.out.mag
 refine (ZdV ((!s1)) _ _ _ F6.out).mono ?_
 rintro e w7 ⟨_,rfl,hI,hF⟩
 obtain ⟨s8,A8,l8,c8,rfl⟩:=hI.shp
 replace B3:=zh (B3.out.ext hF)
 replace B4:=zh (B4.out.ext hF)
 replace F2:=zh (F2.out.ext hF)
 replace F6:=zh (F6.out.ext hF)
 replace HE:=zh (HE.out.trans hF)
 have F9:Hid (Zap w7 (.agg #[.bool s8, .slice A8 l8 c8]) (sg ((!s1)) ((x).natAbs))):=hI
 clear hF hI
 obtain ⟨c10_0,c10_1,f10_0,f10_1⟩:=B3.out.cell2
 obtain ⟨c11_0,c11_1,f11_0,f11_1⟩:=B4.out.cell2
 go_wp2
 clear c10_0 c10_1 f10_0 f10_1 c11_0 c11_1 f11_0 f11_1
 have hFs:Fr (fun i=>i=(w.heap.size + 1)) w7 ((w7.setCell ⟨(w.heap.size + 1),0,none⟩ (.bool s8)).setCell ⟨(w.heap.size + 1),1,none⟩ (.slice A8 l8 c8)):=(((Fr.refl (fun i=>i=(w.heap.size + 1)) _).setCell (p:=⟨(w.heap.size + 1),0,none⟩) (Or.inl rfl) _).setCell (p:=⟨(w.heap.size + 1),1,none⟩) (Or.inl rfl) _)
 replace F2:=zh (F2.out.oth B4.out Zbi hFs)
 replace F6:=zh (F6.out.oth B4.out Zbi hFs)
 replace F9:=zh (F9.out.oth B4.out Zbi hFs)
 replace B3:=zh (B3.out.fr hFs (by first | omega | (have:=B3.out.lt; have:=B4.out.lt; omega)))
 replace HE:=zh (HE.out.next hFs (fun i hi e=>by first | omega | (have:=HE.out.size; have:=B4.out.lt; omega)))
 have b_new:Blk 43 ((w7.setCell ⟨(w.heap.size + 1),0,none⟩ (.bool s8)).setCell ⟨(w.heap.size + 1),1,none⟩ (.slice A8 l8 c8)) (w.heap.size + 1) #[.bool s8, .slice A8 l8 c8]:=((B4.out.set_ 0 _).set_ 1 _)
 generalize ((w7.setCell ⟨(w.heap.size + 1),0,none⟩ (.bool s8)).setCell ⟨(w.heap.size + 1),1,none⟩ (.slice A8 l8 c8))=w12 at *
 replace B4:=zh b_new; clear b_new hFs
 exact ZfF rfl rfl B4.out (by have:=F9.out; rw [Hs.out] at this; exact this) HE.out
set_option maxHeartbeats 2000000 in
theorem ZnB (a b:Value) (x y:Int) (w:World) (ha:Zap w a x) (hb:Zap w b y) (hx:ZaT x) (hy:ZaT y) :
 Calls Tryz.prog 161 #[a,b] w (Za1 w (x - y)):=by
 obtain ⟨s1,A1,l1,c1,rfl⟩:=ha.shp
 have F2:Hid (Zap w (.agg #[.bool s1, .slice A1 l1 c1]) (x)):=ha
 clear ha
 obtain ⟨s3,A3,l3,c3,rfl⟩:=hb.shp
 have F4:Hid (Zap w (.agg #[.bool s3, .slice A3 l3 c3]) (y)):=hb
 clear hb
 have Hx:=zh hx
 have Hy:=zh hy
 clear hx hy
 go_enter Tryz.func161,Tryz.ntmps161
 go_wp2_with fail
 generalize hwb:World.alloc (World.alloc (World.alloc w _) _) _=w8
 obtain ⟨b_B5,b_B6,b_B7,hE0⟩:=Zlq hwb
 clear hwb
 have B5:=zh b_B5
 have B6:=zh b_B6
 have B7:=zh b_B7
 clear b_B5 b_B6 b_B7
 replace F2:=zh (F2.out.ext hE0)
 replace F4:=zh (F4.out.ext hE0)
 have HE:=zh hE0
 clear hE0
 refine Zgs 4 (fun W'=>Blk 43 W' w.heap.size #[.bool s1, .slice A1 l1 c1]∧Blk 43 W' (w.heap.size + 1) #[.bool s3, .slice A3 l3 c3]∧Blk 43 W' (w.heap.size + 1 + 1) #[.bool false, .slice none 0 0]) Zaj ?_
 replace B5:=zh (B5.out.ext (Fr.refl _ _).drew)
 replace B6:=zh (B6.out.ext (Fr.refl _ _).drew)
 replace B7:=zh (B7.out.ext (Fr.refl _ _).drew)
 replace F2:=zh (F2.out.ext (Fr.refl _ _).drew)
 replace F4:=zh (F4.out.ext (Fr.refl _ _).drew)
 replace HE:=zh (HE.out.trans (Fr.refl _ _).drew)
 generalize w8.drew=w9 at *
 have hS:=(⟨B5.out,B6.out,B7.out⟩:(fun W'=>Blk 43 W' w.heap.size #[.bool s1, .slice A1 l1 c1]∧Blk 43 W' (w.heap.size + 1) #[.bool s3, .slice A3 l3 c3]∧Blk 43 W' (w.heap.size + 1 + 1) #[.bool false, .slice none 0 0]) w9)
 refine ZbZ 0 rfl (by kernel_rfl) (fun _ _ _ h=>h) hS (fun _=>ZlT (g:=w.heap.size) (off:=0) (x:=.bool s1) (y:=.slice A1 l1 c1) rfl rfl (by kernel_rfl) (fun _ h=>Blk.two (h.1) 0 rfl rfl)) (fun hS=>?_)
 refine ZbZ 1 rfl (by kernel_rfl) (fun _ _ _ h=>h) hS (fun _=>ZlT (g:=(w.heap.size + 1)) (off:=0) (x:=.bool s3) (y:=.slice A3 l3 c3) rfl rfl (by kernel_rfl) (fun _ h=>Blk.two (h.2.1) 0 rfl rfl)) (fun hS=>?_)
 refine Ze1 2 rfl (by kernel_rfl) rfl (fun K hK=>?_)
 go_simp
 clear hS
 refine (Zf2 _ (y) _ F4.out).mono ?_
 rintro e w10 ⟨_,rfl,hI,hF⟩
 obtain ⟨s11,A11,l11,c11,rfl⟩:=hI.shp
 replace B5:=zh (B5.out.ext hF)
 replace B6:=zh (B6.out.ext hF)
 replace B7:=zh (B7.out.ext hF)
 replace F2:=zh (F2.out.ext hF)
 replace F4:=zh (F4.out.ext hF)
 replace HE:=zh (HE.out.trans hF)
 have F12:Hid (Zap w10 (.agg #[.bool s11, .slice A11 l11 c11]) (-(y))):=hI
 clear hF hI
 have hS:=(⟨B5.out,B6.out,B7.out⟩:(fun W'=>Blk 43 W' w.heap.size #[.bool s1, .slice A1 l1 c1]∧Blk 43 W' (w.heap.size + 1) #[.bool s3, .slice A3 l3 c3]∧Blk 43 W' (w.heap.size + 1 + 1) #[.bool false, .slice none 0 0]) w10)
 refine hK _ _ hS ?_
 clear hK
 refine Ze1 3 rfl (by kernel_rfl) rfl (fun K hK=>?_)
 go_simp
 clear hS
 refine (Zne _ _ (x) (-(y)) _ F2.out F12.out (by first | exact Hx.out | exact Hy.out | exact ZaT.neg Hy.out | exact Hx'.out | exact Hy'.out) (by first | exact Hx.out | exact Hy.out | exact ZaT.neg Hy.out | exact Hx'.out | exact Hy'.out)).mono ?_
 rintro e w13 ⟨_,rfl,hI,hF⟩
 obtain ⟨s14,A14,l14,c14,rfl⟩:=hI.shp
 replace B5:=zh (B5.out.ext hF)
 replace B6:=zh (B6.out.ext hF)
 replace B7:=zh (B7.out.ext hF)
 replace F2:=zh (F2.out.ext hF)
 replace F4:=zh (F4.out.ext hF)
 replace F12:=zh (F12.out.ext hF)
 replace HE:=zh (HE.out.trans hF)
 have F15:Hid (Zap w13 (.agg #[.bool s14, .slice A14 l14 c14]) ((x) + (-(y)))):=hI
 clear hF hI
 have hS:=(⟨B5.out,B6.out,B7.out⟩:(fun W'=>Blk 43 W' w.heap.size #[.bool s1, .slice A1 l1 c1]∧Blk 43 W' (w.heap.size + 1) #[.bool s3, .slice A3 l3 c3]∧Blk 43 W' (w.heap.size + 1 + 1) #[.bool false, .slice none 0 0]) w13)
 refine hK _ _ hS ?_
 clear hK
 refine Zjz (l:=[_]) 4 rfl (by kernel_rfl) ?_
 clear hS
 obtain ⟨c16_0,c16_1,f16_0,f16_1⟩:=B5.out.cell2
 obtain ⟨c17_0,c17_1,f17_0,f17_1⟩:=B6.out.cell2
 obtain ⟨c18_0,c18_1,f18_0,f18_1⟩:=B7.out.cell2
 go_wp2
 clear c16_0 c16_1 f16_0 f16_1 c17_0 c17_1 f17_0 f17_1 c18_0 c18_1 f18_0 f18_1
 have hFs:Fr (fun i=>i=(w.heap.size + 1 + 1)) w13 ((w13.setCell ⟨(w.heap.size + 1 + 1),0,none⟩ (.bool s14)).setCell ⟨(w.heap.size + 1 + 1),1,none⟩ (.slice A14 l14 c14)):=(((Fr.refl (fun i=>i=(w.heap.size + 1 + 1)) _).setCell (p:=⟨(w.heap.size + 1 + 1),0,none⟩) (Or.inl rfl) _).setCell (p:=⟨(w.heap.size + 1 + 1),1,none⟩) (Or.inl rfl) _)
 replace F2:=zh (F2.out.oth B7.out Zbi hFs)
 replace F4:=zh (F4.out.oth B7.out Zbi hFs)
 replace F12:=zh (F12.out.oth B7.out Zbi hFs)
 replace F15:=zh (F15.out.oth B7.out Zbi hFs)
 replace B5:=zh (B5.out.fr hFs (by first | omega | (have:=B5.out.lt; have:=B7.out.lt; omega)))
 replace B6:=zh (B6.out.fr hFs (by first | omega | (have:=B6.out.lt; have:=B7.out.lt; omega)))
 replace HE:=zh (HE.out.next hFs (fun i hi e=>by first | omega | (have:=HE.out.size; have:=B7.out.lt; omega)))
 have b_new:Blk 43 ((w13.setCell ⟨(w.heap.size + 1 + 1),0,none⟩ (.bool s14)).setCell ⟨(w.heap.size + 1 + 1),1,none⟩ (.slice A14 l14 c14)) (w.heap.size + 1 + 1) #[.bool s14, .slice A14 l14 c14]:=((B7.out.set_ 0 _).set_ 1 _)
 generalize ((w13.setCell ⟨(w.heap.size + 1 + 1),0,none⟩ (.bool s14)).setCell ⟨(w.heap.size + 1 + 1),1,none⟩ (.slice A14 l14 c14))=w19 at *
 replace B7:=zh b_new; clear b_new hFs
 exact ZfF rfl rfl B7.out (by rw [Int.sub_eq_add_neg]; exact F15.out) HE.out
set_option maxHeartbeats 2000000 in
theorem ZqE (a:Value) (x:Int) (w:World) (ha:Zap w a x) (hx:x < 0) :
 Calls Tryz.prog 156 #[a] w (RetV w (.int .i64 (-1))):=by
 obtain ⟨s1,A1,l1,c1,rfl⟩:=ha.shp
 have F2:Hid (Zap w (.agg #[.bool s1, .slice A1 l1 c1]) (x)):=ha
 clear ha
 obtain rfl:s1=true:=F2.out.sneg hx
 clear hx
 go_enter Tryz.func156,Tryz.ntmps156
 go_wp2
 generalize hwb:World.alloc w _=w4
 obtain ⟨b_B3,hE0⟩:=ZcW hwb
 clear hwb
 have B3:=zh b_B3
 clear b_B3
 replace F2:=zh (F2.out.ext hE0)
 have HE:=zh hE0
 clear hE0
 go_ret
 exact ⟨rfl,HE.out⟩
set_option maxHeartbeats 2000000 in
theorem Zpz (a:Value) (x:Int) (w:World) (ha:Zap w a x) (hx:x=0) :
 Calls Tryz.prog 156 #[a] w (RetV w (.int .i64 (0))):=by
 obtain ⟨s1,A1,l1,c1,rfl⟩:=ha.shp
 have F2:Hid (Zap w (.agg #[.bool s1, .slice A1 l1 c1]) (x)):=ha
 clear ha
 obtain rfl:s1=false:=F2.out.spos (by omega)
 obtain rfl:l1=0:=F2.out.len0 hx
 clear hx
 go_enter Tryz.func156,Tryz.ntmps156
 go_wp2
 generalize hwb:World.alloc w _=w4
 obtain ⟨b_B3,hE0⟩:=ZcW hwb
 clear hwb
 have B3:=zh b_B3
 clear b_B3
 replace F2:=zh (F2.out.ext hE0)
 have HE:=zh hE0
 clear hE0
 go_ret
 exact ⟨rfl,HE.out⟩
set_option maxHeartbeats 2000000 in
theorem ZqF (a:Value) (x:Int) (w:World) (ha:Zap w a x) (hx:0 < x) :
 Calls Tryz.prog 156 #[a] w (RetV w (.int .i64 (1))):=by
 obtain ⟨s1,A1,l1,c1,rfl⟩:=ha.shp
 have F2:Hid (Zap w (.agg #[.bool s1, .slice A1 l1 c1]) (x)):=ha
 clear ha
 obtain rfl:s1=false:=F2.out.spos (by omega)
 have hl:((l1:Int) == 0)=false:=by have:=F2.out.lenp (by omega); simp; omega
 clear hx
 go_enter Tryz.func156,Tryz.ntmps156
 go_wp2
 generalize hwb:World.alloc w _=w4
 obtain ⟨b_B3,hE0⟩:=ZcW hwb
 clear hwb
 have B3:=zh b_B3
 clear b_B3
 replace F2:=zh (F2.out.ext hE0)
 have HE:=zh hE0
 clear hE0
 go_ret
 exact ⟨rfl,HE.out⟩
theorem Zgn (a:Value) (x:Int) (w:World) (ha:Zap w a x):Calls Tryz.prog 156 #[a] w (RetV w (.int .i64 x.sign)):=by
 rcases Int.lt_trichotomy x 0 with h | h | h
 ·rw [Int.sign_eq_neg_one_of_neg h]; exact ZqE a x w ha h
 ·rw [h,Int.sign_zero]; exact Zpz a x w ha h
 ·rw [Int.sign_eq_one_of_pos h]; exact ZqF a x w ha h
set_option maxHeartbeats 2000000 in
theorem Ze4 (a b:Value) (x y:Int) (w:World) (ha:Zap w a x) (hb:Zap w b y) (hx:ZaT x) (hy:ZaT y) :
 Calls Tryz.prog 80 #[a,b] w (RetV w (.int .i64 (x - y).sign)):=by
 obtain ⟨s1,A1,l1,c1,rfl⟩:=ha.shp
 have F2:Hid (Zap w (.agg #[.bool s1, .slice A1 l1 c1]) (x)):=ha
 clear ha
 obtain ⟨s3,A3,l3,c3,rfl⟩:=hb.shp
 have F4:Hid (Zap w (.agg #[.bool s3, .slice A3 l3 c3]) (y)):=hb
 clear hb
 have Hx:=zh hx
 have Hy:=zh hy
 clear hx hy
 obtain ⟨r,er⟩:∃ r,(x - y).sign=r:=⟨_,rfl⟩
 rw [er]
 have Hr:=zh er
 clear er
 go_enter Tryz.func80,Tryz.ntmps80
 go_wp2_with fail
 generalize hwb:World.alloc (World.alloc w _) _=w7
 obtain ⟨b_B5,b_B6,hE0⟩:=ZfE hwb
 clear hwb
 have B5:=zh b_B5
 have B6:=zh b_B6
 clear b_B5 b_B6
 replace F2:=zh (F2.out.ext hE0)
 replace F4:=zh (F4.out.ext hE0)
 have HE:=zh hE0
 clear hE0
 refine (ZnB _ _ (x) (y) _ F2.out F4.out (by first | exact Hx.out | exact Hy.out | exact ZaT.neg Hy.out | exact Hx'.out | exact Hy'.out) (by first | exact Hx.out | exact Hy.out | exact ZaT.neg Hy.out | exact Hx'.out | exact Hy'.out)).mono ?_
 rintro e w8 ⟨_,rfl,hI,hF⟩
 obtain ⟨s9,A9,l9,c9,rfl⟩:=hI.shp
 replace B5:=zh (B5.out.ext hF)
 replace B6:=zh (B6.out.ext hF)
 replace F2:=zh (F2.out.ext hF)
 replace F4:=zh (F4.out.ext hF)
 replace HE:=zh (HE.out.trans hF)
 have F10:Hid (Zap w8 (.agg #[.bool s9, .slice A9 l9 c9]) ((x) - (y))):=hI
 clear hF hI
 obtain ⟨c11_0,c11_1,f11_0,f11_1⟩:=B5.out.cell2
 obtain ⟨c12_0,c12_1,f12_0,f12_1⟩:=B6.out.cell2
 go_wp2_with fail
 clear c11_0 c11_1 f11_0 f11_1 c12_0 c12_1 f12_0 f12_1
 refine (Zgn _ ((x) - (y)) _ F10.out).mono ?_
 obtain ⟨sg14,esg14⟩:∃ s,((x) - (y)).sign=s:=⟨_,rfl⟩
 rw [esg14]; have Hsg14:=zh esg14; clear esg14
 rintro e w13 ⟨rfl,hF⟩
 replace B5:=zh (B5.out.ext hF)
 replace B6:=zh (B6.out.ext hF)
 replace F2:=zh (F2.out.ext hF)
 replace F4:=zh (F4.out.ext hF)
 replace F10:=zh (F10.out.ext hF)
 replace HE:=zh (HE.out.trans hF)
 clear hF
 obtain ⟨c15_0,c15_1,f15_0,f15_1⟩:=B5.out.cell2
 obtain ⟨c16_0,c16_1,f16_0,f16_1⟩:=B6.out.cell2
 go_wp2
 clear c15_0 c15_1 f15_0 f15_1 c16_0 c16_1 f16_0 f16_1
 go_ret
 exact ⟨by rw [← Hr.out,← Hsg14.out]; rfl,HE.out⟩
set_option maxHeartbeats 2000000 in
theorem ZdJ (a b:Value) (x y:Int) (w:World) (ha:Zap w a x) (hb:Zap w b y) (hx:ZaT x) (hy:ZaT y) (h0:y≠0) :
 Calls Tryz.prog 158 #[a,b] w (ZiI w (x.tdiv y) (x.tmod y)):=by
 obtain ⟨s1,A1,l1,c1,rfl⟩:=ha.shp
 have F2:Hid (Zap w (.agg #[.bool s1, .slice A1 l1 c1]) (x)):=ha
 clear ha
 obtain ⟨s3,A3,l3,c3,rfl⟩:=hb.shp
 have F4:Hid (Zap w (.agg #[.bool s3, .slice A3 l3 c3]) (y)):=hb
 clear hb
 have Hx:Hid (ml x.natAbs≤1048576):=hx
 have Hy:Hid (ml y.natAbs≤1048576):=hy
 have H0:Hid (0 < y.natAbs):=by unfold Hid; omega
 have HQ:=zh (F2.out.quo F4.out)
 clear hx hy h0
 go_enter Tryz.func158,Tryz.ntmps158
 go_wp2_with fail
 generalize hwb:World.alloc (World.alloc (World.alloc (World.alloc w _) _) _) _=w9
 obtain ⟨b_B5,b_B6,b_B7,b_B8,hE0⟩:=ZsQ hwb
 clear hwb
 have B5:=zh b_B5
 have B6:=zh b_B6
 have B7:=zh b_B7
 have B8:=zh b_B8
 clear b_B5 b_B6 b_B7 b_B8
 replace F2:=zh (F2.out.ext hE0)
 replace F4:=zh (F4.out.ext hE0)
 have HE:=zh hE0
 clear hE0
 have F10:Hid (Zas w9 (.slice A1 l1 c1) ((x).natAbs)):=F2.out.mag
 have F11:Hid (Zas w9 (.slice A3 l3 c3) ((y).natAbs)):=F4.out.mag
 refine (ZkP _ _ ((x).natAbs) ((y).natAbs) _ F10.out F11.out Hx.out Hy.out H0.out).mono ?_
 rintro e w12 ⟨_,_,rfl,hq,hr,hF⟩
 obtain ⟨Aq13,lq13,cq13,rfl⟩:=hq.slice
 obtain ⟨Ar13,lr13,cr13,rfl⟩:=hr.slice
 replace B5:=zh (B5.out.ext hF)
 replace B6:=zh (B6.out.ext hF)
 replace B7:=zh (B7.out.ext hF)
 replace B8:=zh (B8.out.ext hF)
 replace F2:=zh (F2.out.ext hF)
 replace F4:=zh (F4.out.ext hF)
 replace F10:=zh (F10.out.ext hF)
 replace F11:=zh (F11.out.ext hF)
 replace HE:=zh (HE.out.trans hF)
 have F14:Hid (Zas w12 (.slice Aq13 lq13 cq13) (((x).natAbs) / ((y).natAbs))):=hq
 have F15:Hid (Zas w12 (.slice Ar13 lr13 cr13) (((x).natAbs) % ((y).natAbs))):=hr
 clear hF hq hr
 obtain ⟨c16_0,c16_1,f16_0,f16_1⟩:=B5.out.cell2
 obtain ⟨c17_0,c17_1,f17_0,f17_1⟩:=B6.out.cell2
 obtain ⟨c18_0,c18_1,f18_0,f18_1⟩:=B7.out.cell2
 obtain ⟨c19_0,c19_1,f19_0,f19_1⟩:=B8.out.cell2
 go_wp2_with fail
 clear c16_0 c16_1 f16_0 f16_1 c17_0 c17_1 f17_0 f17_1 c18_0 c18_1 f18_0 f18_1 c19_0 c19_1 f19_0 f19_1
 refine Zgs 11 (fun W'=>Blk 43 W' w.heap.size #[.bool s1, .slice A1 l1 c1]∧Blk 43 W' (w.heap.size + 1) #[.bool s3, .slice A3 l3 c3]∧Blk 43 W' (w.heap.size + 1 + 1) #[.bool false, .slice none 0 0]∧Blk 43 W' (w.heap.size + 1 + 1 + 1) #[.bool false, .slice none 0 0]) Zaj ?_
 replace B5:=zh (B5.out.ext (Fr.refl _ _).drew)
 replace B6:=zh (B6.out.ext (Fr.refl _ _).drew)
 replace B7:=zh (B7.out.ext (Fr.refl _ _).drew)
 replace B8:=zh (B8.out.ext (Fr.refl _ _).drew)
 replace F2:=zh (F2.out.ext (Fr.refl _ _).drew)
 replace F4:=zh (F4.out.ext (Fr.refl _ _).drew)
 replace F10:=zh (F10.out.ext (Fr.refl _ _).drew)
 replace F11:=zh (F11.out.ext (Fr.refl _ _).drew)
 replace F14:=zh (F14.out.ext (Fr.refl _ _).drew)
 replace F15:=zh (F15.out.ext (Fr.refl _ _).drew)
 replace HE:=zh (HE.out.trans (Fr.refl _ _).drew)
 generalize w12.drew=w20 at *
 have hS:=(⟨B5.out,B6.out,B7.out,B8.out⟩:(fun W'=>Blk 43 W' w.heap.size #[.bool s1, .slice A1 l1 c1]∧Blk 43 W' (w.heap.size + 1) #[.bool s3, .slice A3 l3 c3]∧Blk 43 W' (w.heap.size + 1 + 1) #[.bool false, .slice none 0 0]∧Blk 43 W' (w.heap.size + 1 + 1 + 1) #[.bool false, .slice none 0 0]) w20)
 refine ZbZ 0 rfl (by kernel_rfl) (fun _ _ _ h=>h) hS (fun _=>Zfu (g:=w.heap.size) (off:=0) rfl rfl (by kernel_rfl)) (fun hS=>?_)
 refine ZbZ 1 rfl (by kernel_rfl) (fun _ _ _ h=>h) hS (fun _=>ZiG (g:=w.heap.size) (off:=0) (x:=.bool s1) rfl rfl (by kernel_rfl) (fun _ h=>Blk.one' (h.1) 0 rfl)) (fun hS=>?_)
 refine ZbZ 2 rfl (by kernel_rfl) (fun _ _ _ h=>h) hS (fun _=>Zfu (g:=(w.heap.size + 1)) (off:=0) rfl rfl (by kernel_rfl)) (fun hS=>?_)
 refine ZbZ 3 rfl (by kernel_rfl) (fun _ _ _ h=>h) hS (fun _=>ZiG (g:=(w.heap.size + 1)) (off:=0) (x:=.bool s3) rfl rfl (by kernel_rfl) (fun _ h=>Blk.one' (h.2.1) 0 rfl)) (fun hS=>?_)
 refine ZbZ 4 rfl (by kernel_rfl) (fun _ _ _ h=>h) hS (fun _=>ZrE (b:=s1) (c:=s3) rfl rfl (by kernel_rfl) (by kernel_rfl)) (fun hS=>?_)
 refine ZbZ 5 rfl (by kernel_rfl) (fun _ _ _ h=>h) hS (fun _=>ym (v:=.slice Aq13 lq13 cq13) rfl rfl (by kernel_rfl)) (fun hS=>?_)
 refine ZbZ 7 rfl (by kernel_rfl) (fun _ _ _ h=>h) hS (fun _=>Zfu (g:=w.heap.size) (off:=0) rfl rfl (by kernel_rfl)) (fun hS=>?_)
 refine ZbZ 8 rfl (by kernel_rfl) (fun _ _ _ h=>h) hS (fun _=>ZiG (g:=w.heap.size) (off:=0) (x:=.bool s1) rfl rfl (by kernel_rfl) (fun _ h=>Blk.one' (h.1) 0 rfl)) (fun hS=>?_)
 refine ZbZ 9 rfl (by kernel_rfl) (fun _ _ _ h=>h) hS (fun _=>ym (v:=.slice Ar13 lr13 cr13) rfl rfl (by kernel_rfl)) (fun hS=>?_)
 refine Ze1 6 rfl (by kernel_rfl) rfl (fun K hK=>?_)
 go_simp
 clear hS
 refine (ZdV ((s1 != s3)) _ _ _ F14.out).mono ?_
 rintro e w21 ⟨_,rfl,hI,hF⟩
 obtain ⟨s22,A22,l22,c22,rfl⟩:=hI.shp
 replace B5:=zh (B5.out.ext hF)
 replace B6:=zh (B6.out.ext hF)
 replace B7:=zh (B7.out.ext hF)
 replace B8:=zh (B8.out.ext hF)
 replace F2:=zh (F2.out.ext hF)
 replace F4:=zh (F4.out.ext hF)
 replace F10:=zh (F10.out.ext hF)
 replace F11:=zh (F11.out.ext hF)
 replace F14:=zh (F14.out.ext hF)
 replace F15:=zh (F15.out.ext hF)
 replace HE:=zh (HE.out.trans hF)
 have F23:Hid (Zap w21 (.agg #[.bool s22, .slice A22 l22 c22]) (sg ((s1 != s3)) (((x).natAbs) / ((y).natAbs)))):=hI
 clear hF hI
 have hS:=(⟨B5.out,B6.out,B7.out,B8.out⟩:(fun W'=>Blk 43 W' w.heap.size #[.bool s1, .slice A1 l1 c1]∧Blk 43 W' (w.heap.size + 1) #[.bool s3, .slice A3 l3 c3]∧Blk 43 W' (w.heap.size + 1 + 1) #[.bool false, .slice none 0 0]∧Blk 43 W' (w.heap.size + 1 + 1 + 1) #[.bool false, .slice none 0 0]) w21)
 refine hK _ _ hS ?_
 clear hK
 refine Ze1 10 rfl (by kernel_rfl) rfl (fun K hK=>?_)
 go_simp
 clear hS
 refine (ZdV (s1) _ _ _ F15.out).mono ?_
 rintro e w24 ⟨_,rfl,hI,hF⟩
 obtain ⟨s25,A25,l25,c25,rfl⟩:=hI.shp
 replace B5:=zh (B5.out.ext hF)
 replace B6:=zh (B6.out.ext hF)
 replace B7:=zh (B7.out.ext hF)
 replace B8:=zh (B8.out.ext hF)
 replace F2:=zh (F2.out.ext hF)
 replace F4:=zh (F4.out.ext hF)
 replace F10:=zh (F10.out.ext hF)
 replace F11:=zh (F11.out.ext hF)
 replace F14:=zh (F14.out.ext hF)
 replace F15:=zh (F15.out.ext hF)
 replace F23:=zh (F23.out.ext hF)
 replace HE:=zh (HE.out.trans hF)
 have F26:Hid (Zap w24 (.agg #[.bool s25, .slice A25 l25 c25]) (sg (s1) (((x).natAbs) % ((y).natAbs)))):=hI
 clear hF hI
 have hS:=(⟨B5.out,B6.out,B7.out,B8.out⟩:(fun W'=>Blk 43 W' w.heap.size #[.bool s1, .slice A1 l1 c1]∧Blk 43 W' (w.heap.size + 1) #[.bool s3, .slice A3 l3 c3]∧Blk 43 W' (w.heap.size + 1 + 1) #[.bool false, .slice none 0 0]∧Blk 43 W' (w.heap.size + 1 + 1 + 1) #[.bool false, .slice none 0 0]) w24)
 refine hK _ _ hS ?_
 clear hK
 refine Zjz (l:=[_,_]) 11 rfl (by kernel_rfl) ?_
 clear hS
 obtain ⟨c27_0,c27_1,f27_0,f27_1⟩:=B5.out.cell2
 obtain ⟨c28_0,c28_1,f28_0,f28_1⟩:=B6.out.cell2
 obtain ⟨c29_0,c29_1,f29_0,f29_1⟩:=B7.out.cell2
 obtain ⟨c30_0,c30_1,f30_0,f30_1⟩:=B8.out.cell2
 go_wp2
 clear c27_0 c27_1 f27_0 f27_1 c28_0 c28_1 f28_0 f28_1 c29_0 c29_1 f29_0 f29_1 c30_0 c30_1 f30_0 f30_1
 have hFs:Fr (fun i=>i=(w.heap.size + 1 + 1)) w24 ((w24.setCell ⟨(w.heap.size + 1 + 1),0,none⟩ (.bool s22)).setCell ⟨(w.heap.size + 1 + 1),1,none⟩ (.slice A22 l22 c22)):=(((Fr.refl (fun i=>i=(w.heap.size + 1 + 1)) _).setCell (p:=⟨(w.heap.size + 1 + 1),0,none⟩) (Or.inl rfl) _).setCell (p:=⟨(w.heap.size + 1 + 1),1,none⟩) (Or.inl rfl) _)
 replace F2:=zh (F2.out.oth B7.out Zbi hFs)
 replace F4:=zh (F4.out.oth B7.out Zbi hFs)
 replace F10:=zh (F10.out.oth B7.out Zbi hFs)
 replace F11:=zh (F11.out.oth B7.out Zbi hFs)
 replace F14:=zh (F14.out.oth B7.out Zbi hFs)
 replace F15:=zh (F15.out.oth B7.out Zbi hFs)
 replace F23:=zh (F23.out.oth B7.out Zbi hFs)
 replace F26:=zh (F26.out.oth B7.out Zbi hFs)
 replace B5:=zh (B5.out.fr hFs (by first | omega | (have:=B5.out.lt; have:=B7.out.lt; omega)))
 replace B6:=zh (B6.out.fr hFs (by first | omega | (have:=B6.out.lt; have:=B7.out.lt; omega)))
 replace B8:=zh (B8.out.fr hFs (by first | omega | (have:=B8.out.lt; have:=B7.out.lt; omega)))
 replace HE:=zh (HE.out.next hFs (fun i hi e=>by first | omega | (have:=HE.out.size; have:=B7.out.lt; omega)))
 have b_new:Blk 43 ((w24.setCell ⟨(w.heap.size + 1 + 1),0,none⟩ (.bool s22)).setCell ⟨(w.heap.size + 1 + 1),1,none⟩ (.slice A22 l22 c22)) (w.heap.size + 1 + 1) #[.bool s22, .slice A22 l22 c22]:=((B7.out.set_ 0 _).set_ 1 _)
 generalize ((w24.setCell ⟨(w.heap.size + 1 + 1),0,none⟩ (.bool s22)).setCell ⟨(w.heap.size + 1 + 1),1,none⟩ (.slice A22 l22 c22))=w31 at *
 replace B7:=zh b_new; clear b_new hFs
 have hFs:Fr (fun i=>i=(w.heap.size + 1 + 1 + 1)) w31 ((w31.setCell ⟨(w.heap.size + 1 + 1 + 1),0,none⟩ (.bool s25)).setCell ⟨(w.heap.size + 1 + 1 + 1),1,none⟩ (.slice A25 l25 c25)):=(((Fr.refl (fun i=>i=(w.heap.size + 1 + 1 + 1)) _).setCell (p:=⟨(w.heap.size + 1 + 1 + 1),0,none⟩) (Or.inl rfl) _).setCell (p:=⟨(w.heap.size + 1 + 1 + 1),1,none⟩) (Or.inl rfl) _)
 replace F2:=zh (F2.out.oth B8.out Zbi hFs)
 replace F4:=zh (F4.out.oth B8.out Zbi hFs)
 replace F10:=zh (F10.out.oth B8.out Zbi hFs)
 replace F11:=zh (F11.out.oth B8.out Zbi hFs)
 replace F14:=zh (F14.out.oth B8.out Zbi hFs)
 replace F15:=zh (F15.out.oth B8.out Zbi hFs)
 replace F23:=zh (F23.out.oth B8.out Zbi hFs)
 replace F26:=zh (F26.out.oth B8.out Zbi hFs)
 replace B5:=zh (B5.out.fr hFs (by first | omega | (have:=B5.out.lt; have:=B8.out.lt; omega)))
 replace B6:=zh (B6.out.fr hFs (by first | omega | (have:=B6.out.lt; have:=B8.out.lt; omega)))
 replace B7:=zh (B7.out.fr hFs (by first | omega | (have:=B7.out.lt; have:=B8.out.lt; omega)))
 replace HE:=zh (HE.out.next hFs (fun i hi e=>by first | omega | (have:=HE.out.size; have:=B8.out.lt; omega)))
 have b_new:Blk 43 ((w31.setCell ⟨(w.heap.size + 1 + 1 + 1),0,none⟩ (.bool s25)).setCell ⟨(w.heap.size + 1 + 1 + 1),1,none⟩ (.slice A25 l25 c25)) (w.heap.size + 1 + 1 + 1) #[.bool s25, .slice A25 l25 c25]:=((B8.out.set_ 0 _).set_ 1 _)
 generalize ((w31.setCell ⟨(w.heap.size + 1 + 1 + 1),0,none⟩ (.bool s25)).setCell ⟨(w.heap.size + 1 + 1 + 1),1,none⟩ (.slice A25 l25 c25))=w32 at *
 replace B8:=zh b_new; clear b_new hFs
 exact ZrT rfl rfl rfl B7.out B8.out (by rw [← HQ.out.1]; exact F23.out) (by rw [← HQ.out.2]; exact F26.out) HE.out
set_option maxHeartbeats 2000000 in
theorem ZrU (a:Value) (q:Rat) (w:World) (ha:Zaz w a q) (hq:q.den=1) :
 Calls Tryz.prog 160 #[a] w (Za1 w (q.den:Int)):=by
 obtain ⟨s1,A1,l1,c1,t1,B1,m1,d1,rfl⟩:=ha.shp
 have F2:Hid (Zaz w (.agg #[.bool s1, .slice A1 l1 c1, .bool t1, .slice B1 m1 d1]) (q)):=ha
 clear ha
 have Fd:=F2.out.den
 obtain rfl:m1=0:=Fd.len0 (ZbU hq)
 have Hq:Hid ((q.den:Int)=1):=by unfold Hid; omega
 clear Fd hq
 go_enter Tryz.func160,Tryz.ntmps160
 go_wp2_with fail
 generalize hwb:World.alloc (World.alloc w _) _=w5
 obtain ⟨b_B3,b_B4,hE0⟩:=ZfE hwb
 clear hwb
 have B3:=zh b_B3
 have B4:=zh b_B4
 clear b_B3 b_B4
 replace F2:=zh (F2.out.ext hE0)
 have HE:=zh hE0
 clear hE0
 refine (ZeN 1 _ (by omega) (by omega)).mono ?_
 rintro e w6 ⟨_,rfl,hI,hF⟩
 obtain ⟨s7,A7,l7,c7,rfl⟩:=hI.shp
 replace B3:=zh (B3.out.ext hF)
 replace B4:=zh (B4.out.ext hF)
 replace F2:=zh (F2.out.ext hF)
 replace HE:=zh (HE.out.trans hF)
 have F8:Hid (Zap w6 (.agg #[.bool s7, .slice A7 l7 c7]) (1)):=hI
 clear hF hI
 obtain ⟨c9_0,c9_1,c9_2,c9_3,f9_0,f9_1,f9_2,f9_3⟩:=B3.out.cell4
 obtain ⟨c10_0,c10_1,f10_0,f10_1⟩:=B4.out.cell2
 go_wp2
 clear c9_0 c9_1 c9_2 c9_3 f9_0 f9_1 f9_2 f9_3 c10_0 c10_1 f10_0 f10_1
 have hFs:Fr (fun i=>i=(w.heap.size + 1)) w6 ((w6.setCell ⟨(w.heap.size + 1),0,none⟩ (.bool s7)).setCell ⟨(w.heap.size + 1),1,none⟩ (.slice A7 l7 c7)):=(((Fr.refl (fun i=>i=(w.heap.size + 1)) _).setCell (p:=⟨(w.heap.size + 1),0,none⟩) (Or.inl rfl) _).setCell (p:=⟨(w.heap.size + 1),1,none⟩) (Or.inl rfl) _)
 replace F2:=zh (F2.out.oth B4.out Zbi hFs)
 replace F8:=zh (F8.out.oth B4.out Zbi hFs)
 replace B3:=zh (B3.out.fr hFs (by first | omega | (have:=B3.out.lt; have:=B4.out.lt; omega)))
 replace HE:=zh (HE.out.next hFs (fun i hi e=>by first | omega | (have:=HE.out.size; have:=B4.out.lt; omega)))
 have b_new:Blk 43 ((w6.setCell ⟨(w.heap.size + 1),0,none⟩ (.bool s7)).setCell ⟨(w.heap.size + 1),1,none⟩ (.slice A7 l7 c7)) (w.heap.size + 1) #[.bool s7, .slice A7 l7 c7]:=((B4.out.set_ 0 _).set_ 1 _)
 generalize ((w6.setCell ⟨(w.heap.size + 1),0,none⟩ (.bool s7)).setCell ⟨(w.heap.size + 1),1,none⟩ (.slice A7 l7 c7))=w11 at *
 replace B4:=zh b_new; clear b_new hFs
 exact ZfF rfl rfl B4.out (by rw [Hq.out]; exact F8.out) HE.out
set_option maxHeartbeats 2000000 in
theorem ZrV (a:Value) (q:Rat) (w:World) (ha:Zaz w a q) (hq:¬ q.den=1) :
 Calls Tryz.prog 160 #[a] w (Za1 w (q.den:Int)):=by
 obtain ⟨s1,A1,l1,c1,t1,B1,m1,d1,rfl⟩:=ha.shp
 have F2:Hid (Zaz w (.agg #[.bool s1, .slice A1 l1 c1, .bool t1, .slice B1 m1 d1]) (q)):=ha
 clear ha
 have Fd:=F2.out.den
 have hl:((m1:Int) == 0)=false:=by have:=Fd.lenp (ZiJ hq); simp; omega
 have Hq:=zh (ZbV hq)
 clear Fd hq
 go_enter Tryz.func160,Tryz.ntmps160
 go_wp2
 generalize hwb:World.alloc (World.alloc w _) _=w5
 obtain ⟨b_B3,b_B4,hE0⟩:=ZfE hwb
 clear hwb
 have B3:=zh b_B3
 have B4:=zh b_B4
 clear b_B3 b_B4
 replace F2:=zh (F2.out.ext hE0)
 have HE:=zh hE0
 clear hE0
 have F6:Hid (Zap w5 (.agg #[.bool t1, .slice B1 m1 d1]) (denF (q))):=F2.out.den
 exact ZfF rfl rfl B4.out (by rw [← Hq.out]; exact F6.out) HE.out
theorem ZnC (a:Value) (q:Rat) (w:World) (ha:Zaz w a q):Calls Tryz.prog 160 #[a] w (Za1 w (q.den:Int)):=by
 by_cases h:q.den=1
 ·exact ZrU a q w ha h
 ·exact ZrV a q w ha h
set_option maxHeartbeats 2000000 in
theorem Zdc (a:Value) (q:Rat) (w:World) (ha:Zaz w a q) :
 Calls Tryz.prog 79 #[a] w (Za1 w (q.den:Int)):=by
 obtain ⟨s1,A1,l1,c1,t1,B1,m1,d1,rfl⟩:=ha.shp
 have F2:Hid (Zaz w (.agg #[.bool s1, .slice A1 l1 c1, .bool t1, .slice B1 m1 d1]) (q)):=ha
 clear ha
 go_enter Tryz.func79,Tryz.ntmps79
 go_wp2_with fail
 generalize hwb:World.alloc (World.alloc w _) _=w5
 obtain ⟨b_B3,b_B4,hE0⟩:=ZfE hwb
 clear hwb
 have B3:=zh b_B3
 have B4:=zh b_B4
 clear b_B3 b_B4
 replace F2:=zh (F2.out.ext hE0)
 have HE:=zh hE0
 clear hE0
 refine (ZnC _ (q) _ F2.out).mono ?_
 rintro e w6 ⟨_,rfl,hI,hF⟩
 obtain ⟨s7,A7,l7,c7,rfl⟩:=hI.shp
 replace B3:=zh (B3.out.ext hF)
 replace B4:=zh (B4.out.ext hF)
 replace F2:=zh (F2.out.ext hF)
 replace HE:=zh (HE.out.trans hF)
 have F8:Hid (Zap w6 (.agg #[.bool s7, .slice A7 l7 c7]) (((q).den:Int))):=hI
 clear hF hI
 obtain ⟨c9_0,c9_1,c9_2,c9_3,f9_0,f9_1,f9_2,f9_3⟩:=B3.out.cell4
 obtain ⟨c10_0,c10_1,f10_0,f10_1⟩:=B4.out.cell2
 go_wp2
 clear c9_0 c9_1 c9_2 c9_3 f9_0 f9_1 f9_2 f9_3 c10_0 c10_1 f10_0 f10_1
 have hFs:Fr (fun i=>i=(w.heap.size + 1)) w6 ((w6.setCell ⟨(w.heap.size + 1),0,none⟩ (.bool s7)).setCell ⟨(w.heap.size + 1),1,none⟩ (.slice A7 l7 c7)):=(((Fr.refl (fun i=>i=(w.heap.size + 1)) _).setCell (p:=⟨(w.heap.size + 1),0,none⟩) (Or.inl rfl) _).setCell (p:=⟨(w.heap.size + 1),1,none⟩) (Or.inl rfl) _)
 replace F2:=zh (F2.out.oth B4.out Zbi hFs)
 replace F8:=zh (F8.out.oth B4.out Zbi hFs)
 replace B3:=zh (B3.out.fr hFs (by first | omega | (have:=B3.out.lt; have:=B4.out.lt; omega)))
 replace HE:=zh (HE.out.next hFs (fun i hi e=>by first | omega | (have:=HE.out.size; have:=B4.out.lt; omega)))
 have b_new:Blk 43 ((w6.setCell ⟨(w.heap.size + 1),0,none⟩ (.bool s7)).setCell ⟨(w.heap.size + 1),1,none⟩ (.slice A7 l7 c7)) (w.heap.size + 1) #[.bool s7, .slice A7 l7 c7]:=((B4.out.set_ 0 _).set_ 1 _)
 generalize ((w6.setCell ⟨(w.heap.size + 1),0,none⟩ (.bool s7)).setCell ⟨(w.heap.size + 1),1,none⟩ (.slice A7 l7 c7))=w11 at *
 replace B4:=zh b_new; clear b_new hFs
 exact ZfF rfl rfl B4.out (by exact F8.out) HE.out
end Go.Proofs.YthlipnahcbcjkaaGreatDoor

namespace Go.Proofs.YthlipnahcbcjkaaGreatDoor
open Go.RowKit
def blen (n:Nat):Nat:=if n=0 then 0 else n.log2 + 1
theorem Zl3:blen 0=0:=rfl
theorem ZfG (n:Nat):n < 2 ^ blen n:=by
 unfold blen
 split
 ·rename_i h; subst h; decide
 ·rename_i h; exact (Nat.log2_lt h).1 (Nat.lt_succ_self _)
theorem ZcX {n k:Nat}:blen n≤k ↔ n < 2 ^ k:=by
 unfold blen
 split
 ·rename_i h; subst h; simp [Nat.pow_pos]
 ·rename_i h; rw [← Nat.log2_lt h]; omega
theorem Zgo {n:Nat} (h:0 < n):blen n=blen (n / 2) + 1:=by
 have h1:blen (n / 2) + 1≤blen n:=by
  have:blen (n / 2)≤blen n - 1:=ZcX.2 (by
   have h2:=ZfG n
   have h3:0 < blen n:=by unfold blen; rw [if_neg (by omega)]; omega
   obtain ⟨k,hk⟩:∃ k,blen n=k + 1:=⟨blen n - 1,by omega⟩
   rw [hk] at h2 ⊢
   rw [Nat.pow_succ] at h2
   show n / 2 < 2 ^ (k + 1 - 1)
   rw [Nat.add_sub_cancel]
   omega)
  have h3:0 < blen n:=by unfold blen; rw [if_neg (by omega)]; omega
  omega
 have h2:blen n≤blen (n / 2) + 1:=ZcX.2 (by
  have:=ZfG (n / 2)
  rw [Nat.pow_succ]
  omega)
 omega
theorem ZcD {n:Nat}:blen n=1 ↔ n=1:=by
 constructor
 ·intro h
  have h1:=ZfG n
  rw [h] at h1
  rcases Nat.eq_zero_or_pos n with e | e
  ·subst e; rw [Zl3] at h; omega
  ·omega
 ·rintro rfl; decide
theorem Zfe {n:Nat}:1 < blen n ↔ 1 < n:=by
 rcases Nat.lt_or_ge 1 n with h | h
 ·have:¬ blen n≤1:=fun k=>by have:=ZcX.1 k; omega
  omega
 ·have:blen n≤1:=ZcX.2 (by omega)
  omega
theorem ZrW {B k t low:Nat} (hl:low < 2 ^ (B * k)) (ht:0 < t):blen (low + 2 ^ (B * k) * t)=B * k + blen t:=by
 have h1:=ZfG t
 have h2:blen (low + 2 ^ (B * k) * t)≤B * k + blen t:=ZcX.2 (by
  rw [Nat.pow_add]
  have:2 ^ (B * k) * (t + 1)≤2 ^ (B * k) * 2 ^ blen t:=Nat.mul_le_mul_left _ h1
  rw [Nat.mul_add] at this
  omega)
 have h3:¬ blen (low + 2 ^ (B * k) * t)≤B * k + blen t - 1:=fun h=>by
  have h4:=ZcX.1 h
  obtain ⟨j,hj⟩:∃ j,blen t=j + 1:=⟨blen t - 1,by have:=Zgo ht; omega⟩
  rw [hj,show B * k + (j + 1) - 1=B * k + j by omega,Nat.pow_add] at h4
  have h5:2 ^ j≤t:=by
   rcases Nat.lt_or_ge t (2 ^ j) with h | h
   ·have:=ZcX.2 h; omega
   ·exact h
  have:2 ^ (B * k) * 2 ^ j≤2 ^ (B * k) * t:=Nat.mul_le_mul_left _ h5
  omega
 have:0 < blen t:=by have:=Zgo ht; omega
 omega
set_option maxHeartbeats 1000000 in
theorem Zc6 (a:Value) (x:Int) (w:World) (ha:Zap w a x) (hx:ZaT x):Calls Tryz.prog 96 #[a] w (RetV w (.int .i64 (blen x.natAbs:Int))):=by
 obtain ⟨s,A,l,c,rfl⟩:=ha.shp
 have h1:=ha.mag
 have h0:=ha.len0
 obtain ⟨A',xs,c',he,hc,hX,hd,ht,hv⟩:=h1
 injection he with e1 e2 e3
 subst e1 e2 e3
 unfold ZaT at hx
 rw [← hv,← ZbI hd ht] at hx
 rw [← hv]
 clear ha h0 hv
 rcases Nat.eq_zero_or_pos xs.length with hl | hl
 ·obtain rfl:xs=[]:=List.length_eq_zero_iff.1 hl
  go_enter Tryz.func96,Tryz.ntmps96
  go_wp2
  go_ret
  exact ⟨rfl,(Fr.refl _ _).alloc _⟩
 ·obtain ⟨k,hk⟩:∃ k,xs.length=k + 1:=⟨xs.length - 1,by omega⟩
  obtain ⟨b,off,rfl,hb,hct⟩:=hX.at (i:=k) (by omega)
  obtain ⟨t,et⟩:∃ t,xs[k]?.getD 0=t:=⟨_,rfl⟩
  rw [et] at hct
  have ht0:0 < t:=by have:=ht k hk; omega
  have EV:val W32 xs=val W32 (xs.take k) + W32 ^ k * t:=by
   have:=Zau (B:=W32) (xs:=xs) k (by omega)
   rw [List.take_of_length_le (by omega),et] at this
   exact this
  have hlow:=ZaX (hd.take k)
  rw [List.length_take,Nat.min_eq_left (by omega),ZfD] at hlow
  have HB:Hid (blen (val W32 xs)=32 * k + blen t):=by
   unfold Hid
   rw [EV,ZfD]
   exact ZrW hlow ht0
  have htW:t < W32:=et ▸ hd.getD Zax k
  have hbt:blen t≤32:=ZcX.2 (by rw [Zaw] at htW; exact htW)
  obtain ⟨r,er⟩:∃ r,blen (val W32 xs)=r:=⟨_,rfl⟩
  rw [er] at HB ⊢
  have hne:b≠w.heap.size:=Nat.ne_of_lt hb
  rw [hk]
  clear hX hd ht EV hlow et er htW hc hl
  have g0:(((k:Int) + 1) == 0)=false:=by simp; omega
  go_enter Tryz.func96,Tryz.ntmps96
  go_wp2
  go_loop [3,4] (fun nv tv=>∃ n t':Nat,nv=.int .i64 (n:Int)∧tv=.int .u32 (t':Int)∧Hid (n + blen t'=r)∧n≤32 * k + 32) (fun _ tv=>(intOf tv).toNat)
  case atStart=>exact ⟨32 * k,t,by go_num,rfl,by have:=HB.out; unfold Hid; omega,by omega⟩
  case round =>
   obtain ⟨n,t',rfl,rfl,hR,hn⟩:=hrel
   by_cases hz:0 < t'
   ·have hR2:Hid (n + 1 + blen (t' / 2)=r):=by have h1:=hR.out; rw [Zgo hz] at h1; unfold Hid; omega
    have hle:n + 1≤32 * k + 32:=by
     have h1:=hR.out; have h2:=HB.out; rw [Zgo hz] at h1; omega
    have q1:(t':Int) / 2=((t' / 2:Nat):Int):=rfl
    have hlt:t' / 2 < t':=by omega
    obtain ⟨t2,et2⟩:∃ t2,t' / 2=t2:=⟨_,rfl⟩
    rw [et2] at hR2 q1 hlt
    clear et2
    go_wp2
    go_round
    case rel=>exact ⟨n + 1,t2,by go_num,rfl,hR2,hle⟩
    case measure=>simp [intOf]; omega
   ·obtain rfl:t'=0:=by omega
    have hR2:Hid (n=r):=by have h1:=hR.out; rw [Zl3] at h1; exact h1
    go_wp2
    go_ret
    exact ⟨by rw [hR2.out]; rfl,(Fr.refl _ _).alloc _⟩
theorem Zas.inj {w:World} {v:Value} {m n:Nat} (h:Zas w v m) (k:Zas w v n):m=n:=by
 obtain ⟨A,xs,c,rfl,_,hX,_,_,rfl⟩:=h
 obtain ⟨A',ys,c',he,_,hY,_,_,rfl⟩:=k
 injection he with e1 e2 e3
 subst e1
 have:xs=ys:=by
  apply List.ext_getElem e2
  intro i h1 h2
  obtain ⟨b,o,rfl,_,c1⟩:=hX.at h1
  obtain ⟨b',o',e',_,c2⟩:=hY.at h2
  injection e' with e'
  injection e' with e3 e4
  subst e3 e4
  rw [c1] at c2
  injection c2 with c2
  injection c2 with _ c2
  rw [List.getElem?_eq_getElem h1,List.getElem?_eq_getElem h2] at c2
  simp only [Option.getD_some] at c2
  omega
 rw [this]
open Classical in
noncomputable def Zio (w:World) (v:Value):Nat:=if h:∃ n,Zas w v n then Classical.choose h else 0
theorem Zl4 {w:World} {v:Value} {n:Nat} (h:Zas w v n):Zio w v=n:=by
 have hx:∃ n,Zas w v n:=⟨n,h⟩
 unfold Zio
 rw [dif_pos hx]
 exact (Classical.choose_spec hx).inj h
theorem Zas.len_zero {w:World} {A:Option Addr} {l c n:Nat} (h:Zas w (.slice A l c) n):(n=0 ↔ l=0)∧l=ml n:=by
 obtain ⟨A',xs,c',he,_,_,hd,ht,hv⟩:=h
 injection he with _ he
 have hl:=ZbI hd ht
 rw [hv] at hl
 refine ⟨⟨fun e=>?_,fun e=>?_⟩,by omega⟩
 ·rw [e,Zlm] at hl; omega
 ·rw [e] at he
  have:xs=[]:=List.length_eq_zero_iff.1 he.symm
  rw [this] at hv
  simpa using hv.symm
set_option maxHeartbeats 1000000 in
theorem ZjM (a b:Value) (x y:Int) (w:World) (ha:Zap w a x) (hb:Zap w b y) (hx:ZaT x) (hy:ZaT y):Calls Tryz.prog 93 #[a,b] w (Za1 w (Int.gcd x y:Int)):=by
 obtain ⟨s,A,l,c,rfl⟩:=ha.shp
 obtain ⟨t,B,m,d,rfl⟩:=hb.shp
 have HM:=zh ha.mag
 have HN:=zh hb.mag
 have HX:Hid (ml x.natAbs≤1048576):=hx
 have HY:Hid (ml y.natAbs≤1048576):=hy
 obtain ⟨r,er⟩:∃ r,Int.gcd x y=r:=⟨_,rfl⟩
 have HR:Hid (Nat.gcd x.natAbs y.natAbs=r):=er
 rw [er]
 clear ha hb hx hy er
 go_enter Tryz.func93,Tryz.ntmps93
 go_wp2_with fail
 generalize hwb:World.alloc (World.alloc (World.alloc w _) _) _=w1
 obtain ⟨b0,b1,b2,hE0⟩:=Zlq hwb
 clear hwb
 have HB2:=zh b2
 have HE:=zh hE0
 replace HM:=zh (HM.out.ext hE0)
 replace HN:=zh (HN.out.ext hE0)
 obtain ⟨c0,c1,f0,f1⟩:=b0.cell2
 obtain ⟨c2,c3,f2,f3⟩:=b1.cell2
 clear b0 b1 b2 hE0
 go_quiet (fail)
 clear c0 c1 f0 f1 c2 c3 f2 f3
 go_wp2_with fail
 go_loopw [5,6,7,8] (fun xv yv _ _ wr=>∃ (u v:Nat) (A' B':Option Addr) (l' c' m' d':Nat),xv=.slice A' l' c'∧yv=.slice B' m' d'∧Hid (Zas wr (.slice A' l' c') u)∧Hid (Zas wr (.slice B' m' d') v)∧Hid (ml u≤1048576)∧Hid (ml v≤1048576)∧Hid (Nat.gcd u v=r)∧Hid (Ext w1 wr)) (fun _ yv _ _ wr=>Zio wr yv)
 case atStart=>exact ⟨_,_,_,_,_,_,_,_,rfl,rfl,HM.out.ext ((Fr.refl _ _).drewN _),HN.out.ext ((Fr.refl _ _).drewN _),HX,HY,HR,(Fr.refl _ _).drewN _⟩
 case round =>
  obtain ⟨u,v,A',B',l',c',m',d',rfl,rfl,hU,hV,hu,hv,hG,hF⟩:=hrel
  obtain ⟨z1,z2⟩:=hV.out.len_zero
  have hm':m'≤1048576:=by have:=hv.out; omega
  by_cases hm:m'=0
  ·subst hm
   have hv0:v=0:=z1.2 rfl
   have HG:Hid (u=r):=by have:=hG.out; rw [hv0,Nat.gcd_zero_right] at this; exact this
   have HB:=zh (HB2.out.ext hF.out)
   have HEE:=zh (HE.out.trans hF.out)
   clear z1 z2 hv0
   go_wp2_with fail
   refine (ZdV false _ u _ hU.out).mono ?_
   rintro e w2 ⟨_,rfl,hI,hF2⟩
   obtain ⟨s2,A2,l2,c2,rfl⟩:=hI.shp
   have HI:=zh hI
   have HB':=zh (HB.out.ext hF2)
   have HE':=zh (HEE.out.trans hF2)
   obtain ⟨k0,k1,k2,k3⟩:=HB'.out.cell2
   clear hI hF2
   go_wp2
   have hFs:Fr (fun i=>i=(w.heap.size + 1 + 1)) w2 ((w2.setCell ⟨w.heap.size + 1 + 1,0,none⟩ (.bool s2)).setCell ⟨w.heap.size + 1 + 1,1,none⟩ (.slice A2 l2 c2)):=((Fr.refl (fun i=>i=(w.heap.size + 1 + 1)) _).setCell (p:=⟨w.heap.size + 1 + 1,0,none⟩) (Or.inl rfl) _).setCell (p:=⟨w.heap.size + 1 + 1,1,none⟩) (Or.inl rfl) _
   exact ZfF rfl rfl ((HB'.out.set_ 0 _).set_ 1 _) (by rw [← HG.out]; exact HI.out.oth HB'.out Zbi hFs) (HE'.out.next hFs (fun i hi e=>by omega))
  ·have hm0:0 < m':=by omega
   have hv0:0 < v:=by rcases Nat.eq_zero_or_pos v with e | e; · exact absurd (z1.1 e) hm
                      ·exact e
   have HG:Hid (Nat.gcd v (u % v)=r):=by have:=hG.out; rw [Nat.gcd_comm,Nat.gcd_rec,Nat.gcd_comm] at this; exact this
   have hml:=zh (Nat.le_trans (ZcG (Nat.le_of_lt (Nat.mod_lt u hv0))) hv.out)
   have hlt:=zh (Nat.mod_lt u hv0)
   have HC:=zh (ZkP _ _ u v wr hU.out hV.out hu.out hv.out hv0)
   clear z1 z2 hv0 hm hG
   go_wp2_with fail
   refine HC.out.mono ?_
   rintro e w2 ⟨_,_,rfl,hq,hr,hF2⟩
   obtain ⟨A2,l2,c2,rfl⟩:=hq.slice
   obtain ⟨A3,l3,c3,rfl⟩:=hr.slice
   have HQr:=zh hr
   have HV2:=zh (hV.out.ext hF2)
   have HF2:=zh (hF.out.trans hF2)
   have hme:Hid (Zio wr (.slice B' m' d')=v):=Zl4 hV.out
   have hme2:Hid (Zio w2 (.slice A3 l3 c3)=u % v):=Zl4 hr
   clear hq hr hF2 HC
   go_wp2
   go_roundw
   case rel=>exact ⟨v,u % v,_,_,_,_,_,_,rfl,rfl,HV2,HQr,hv,hml,HG,HF2⟩
   case measure=>rw [hme.out,hme2.out]; exact hlt.out
end Go.Proofs.YthlipnahcbcjkaaGreatDoor

namespace Go.Proofs.YthlipnahcbcjkaaGreatDoor
open Go.RowKit
theorem ZaT.le {x y:Int} (h:ZaT x) (hl:y.natAbs≤x.natAbs):ZaT y:=Nat.le_trans (ZcG hl) h
theorem ZaT.gcd {x y:Int} (h:ZaT y) (h0:y≠0):ZaT (Int.gcd x y:Int):=h.le (by
 have:Int.gcd x y≤y.natAbs:=Nat.gcd_le_right _ (by omega)
 omega)
theorem ZaT.tdiv {x y:Int} (h:ZaT x):ZaT (x.tdiv y):=h.le (by rw [Int.natAbs_tdiv]; exact Nat.div_le_self _ _)
theorem Zhr {x y:Int} (h:0 < y):0 < Int.gcd x y:=by
 rcases Nat.eq_zero_or_pos (Int.gcd x y) with e | e
 ·have:=(Int.gcd_eq_zero_iff.1 e).2; omega
 ·exact e
def ZmE (q:Rat):Prop:=ml q.num.natAbs≤100000∧ml q.den≤100000
theorem mlm {x y:Int} {a b:Nat} (hx:ml x.natAbs≤a) (hy:ml y.natAbs≤b):ml (x * y).natAbs≤a + b:=by
 have h:=Zqp x.natAbs y.natAbs
 rw [← Int.natAbs_mul] at h
 omega
theorem Zez {w w':World} {e:Ending} {a b:Int} (h:ZiI w a b e w'):Zby Zdp (fun x w=>Zap w (Zam x.1) a∧Zap w (Zam x.2) b) w e w':=by
 obtain ⟨u,v,rfl,hI,hJ,Q⟩:=h
 obtain ⟨s,A,l,c,rfl⟩:=hI.shp
 obtain ⟨s',A',l',c',rfl⟩:=hJ.shp
 exact ⟨((s,A,l,c),(s',A',l',c')),rfl,Q,boxn Q (fun S w'' hS hF=>⟨hI.nrb hS hF,hJ.nrb hS hF⟩)⟩
theorem nfit {z:Int} {k:Nat} (h:ml z.natAbs≤k) (hk:Nat.ble k 1048576=true):ZaT z:=Nat.le_trans h (Nat.le_of_ble_eq_true hk)
theorem mlc {n k:Nat} (h:ml n≤k):ml ((n:Nat):Int).natAbs≤k:=by rw [Int.natAbs_natCast]; exact h
theorem Zl5 {x y:Int} {q:Rat} (hq:Rat.divInt x y=q) (hy:0 < y) (_:1 < ((Int.gcd x y:Nat):Int).natAbs):q.num=x.tdiv ((Int.gcd x y:Nat):Int)∧(q.den:Int)=y.tdiv ((Int.gcd x y:Nat):Int):=by
 rw [← hq]; exact Zhh hy
theorem Zl6 {x y:Int} {q:Rat} (hq:Rat.divInt x y=q) (hy:0 < y) (h:¬ 1 < ((Int.gcd x y:Nat):Int).natAbs):q.num=x∧(q.den:Int)=y:=by
 have h1:=Zhr (x:=x) hy
 rw [← hq]; exact ZdT hy (by omega)
theorem Zff {n:Nat} (h:(((n:Nat):Int) == 1)=true):n=1:=by have:=eq_of_beq h; omega
theorem Zfg {n:Nat} (h:(((n:Nat):Int) == 1)=false):n≠1:=fun e=>by subst e; cases h
theorem ZqG (a b:Value) (x y:Int) (q:Rat) (w:World) (ha:Zap w a x) (hb:Zap w b y) (hx:ZaT x) (hy:ZaT y) (h0:y < 0) (hq:Rat.divInt x y=q) :
 Calls Tryz.prog 82 #[a,b] w (Zex w q):=by
 obtain ⟨s0,A0,l0,c0,rfl⟩:=ha.shp
 obtain ⟨s1,A1,l1,c1,rfl⟩:=hb.shp
 obtain rfl:s1=true:=hb.sneg h0
 have HFx:ZaT (-(x)):=hx.neg
 have HFy:ZaT (-(y)):=hy.neg
 have HY:0 < -(y):=by omega
 have HFg:ZaT ((Int.gcd (-(x)) (-(y)):Nat):Int):=ZaT.gcd HFy (by omega)
 have HG0:((Int.gcd (-(x)) (-(y)):Nat):Int)≠0:=by have:=Zhr (x := -(x)) HY; omega
 have Hq:Rat.divInt (-(x)) (-(y))=q:=by rw [Rat.neg_divInt_neg]; exact hq
 refine ZaB (Φ:=fun w=>(Zap w (.agg #[.bool s0, .slice A0 l0 c0]) (x)∧Zap w (.agg #[.bool true, .slice A1 l1 c1]) (y))) Tryz.func82 rfl (by kernel_rfl) (fun w' hf=>⟨ha.ext hf,hb.ext hf⟩) ?_
 refine Zac (Zab (xr 3 [(2, .p 2 0),(3, .p 3 0),(4, .p 4 0)] [bR4 4 45 false none 0 0 false none 0 0,bI2 3 43 true A1 l1 c1,bI2 2 43 s0 A0 l0 c0] ?_))
 refine xe (Zaa (Zac (Zac (Zab (xr 2 [(2, .p 2 0),(3, .p 3 0),(4, .p 4 0),(7, .v (.bool true))] [bR4 4 45 false none 0 0 false none 0 0,bI2 3 43 true A1 l1 c1,bI2 2 43 s0 A0 l0 c0] ?_)))))
 refine xe (Zaa (xa ?_))
 refine ZaE 6 (by kernel_rfl) (by kernel_rfl) Zaj ?_
 refine xf 1 [(2, .p 2 0),(3, .p 3 0),(4, .p 4 0),eI2 8 s0 A0 l0 c0] [bR4 4 45 false none 0 0 false none 0 0,bI2 3 43 true A1 l1 c1,bI2 2 43 s0 A0 l0 c0] ?_
 refine xd 87 [vI2 s0 A0 l0 c0] 9 Zam _ (fun w R Q=>(Zf2 _ (x) _ Q.1).mono (fun _ _=>ZaK)) (fun xx=>?_)
 obtain ⟨s10,A10,l10,c10⟩:=xx
 refine xf 1 [(2, .p 2 0),(3, .p 3 0),(4, .p 4 0),eI2 9 s10 A10 l10 c10,eI2 10 true A1 l1 c1] [bR4 4 45 false none 0 0 false none 0 0,bI2 3 43 true A1 l1 c1,bI2 2 43 s0 A0 l0 c0] ?_
 refine xd 87 [vI2 true A1 l1 c1] 11 Zam _ (fun w R Q=>(Zf2 _ (y) _ Q.1.2).mono (fun _ _=>ZaK)) (fun xx=>?_)
 obtain ⟨s11,A11,l11,c11⟩:=xx
 refine xf 2 [(2, .p 2 0),(3, .p 3 0),(4, .p 4 0)] [bI2 3 43 s11 A11 l11 c11,bI2 2 43 s10 A10 l10 c10,bR4 4 45 false none 0 0 false none 0 0,bI2 3 43 true A1 l1 c1,bI2 2 43 s0 A0 l0 c0] ?_
 refine xz (xe (Zaa (Zac (Zab (xr 2 [(2, .p 2 0),(3, .p 3 0),(4, .p 4 0),eI2 12 s10 A10 l10 c10,eI2 13 s11 A11 l11 c11] [bI2 3 43 s11 A11 l11 c11,bI2 2 43 s10 A10 l10 c10,bR4 4 45 false none 0 0 false none 0 0] ?_)))))
 refine xc 93 [vI2 s10 A10 l10 c10,vI2 s11 A11 l11 c11] 14 Zam _ (fun w R Q=>(ZjM _ _ (-(x)) (-(y)) _ Q.1.2 Q.2 HFx HFy).mono (fun _ _=>ZaK)) (fun xx=>?_)
 obtain ⟨s12,A12,l12,c12⟩:=xx
 refine xr 2 [(2, .p 2 0),(3, .p 3 0),(4, .p 4 0),(5, .p 5 0)] [bI2 5 43 s12 A12 l12 c12,bI2 3 43 s11 A11 l11 c11,bI2 2 43 s10 A10 l10 c10,bR4 4 45 false none 0 0 false none 0 0] ?_
 refine xe (Zaa (Zac (Zac (Zab (xr 1 [(2, .p 2 0),(3, .p 3 0),(4, .p 4 0),(5, .p 5 0),eI2 15 s12 A12 l12 c12] [bI2 5 43 s12 A12 l12 c12,bI2 3 43 s11 A11 l11 c11,bI2 2 43 s10 A10 l10 c10,bR4 4 45 false none 0 0 false none 0 0] ?_)))))
 refine xc 96 [vI2 s12 A12 l12 c12] 16 (fun _:Unit=>.int .i64 ((blen (((Int.gcd (-(x)) (-(y)):Nat):Int)).natAbs:Nat):Int)) _ (fun w R Q=>(Zc6 _ (((Int.gcd (-(x)) (-(y)):Nat):Int)) _ Q.2 HFg).mono (fun _ _ h=>Zae h rfl)) (fun xx=>?_)
 refine xr 1 [(2, .p 2 0),(3, .p 3 0),(4, .p 4 0),(5, .p 5 0),(17, .v (.bool (decide (((blen (((Int.gcd (-(x)) (-(y)):Nat):Int)).natAbs:Nat):Int) > 1))))] [bI2 5 43 s12 A12 l12 c12,bI2 3 43 s11 A11 l11 c11,bI2 2 43 s10 A10 l10 c10,bR4 4 45 false none 0 0 false none 0 0] ?_
 refine xe (Zaa ?_)
 refine ZcF ((decide (((blen (((Int.gcd (-(x)) (-(y)):Nat):Int)).natAbs:Nat):Int) > 1))) (by kernel_rfl) (fun hb13=>?_) (fun hb13=>?_)
 ·have HQ:=Zl5 Hq HY (Zfe.1 (by have:=of_decide_eq_true hb13; omega))
  refine Zac (Zab (xr 2 [(2, .p 2 0),(3, .p 3 0),(4, .p 4 0),(5, .p 5 0),eI2 19 s10 A10 l10 c10,eI2 20 s12 A12 l12 c12] [bI2 5 43 s12 A12 l12 c12,bI2 3 43 s11 A11 l11 c11,bI2 2 43 s10 A10 l10 c10,bR4 4 45 false none 0 0 false none 0 0] ?_))
  refine xc 158 [vI2 s10 A10 l10 c10,vI2 s12 A12 l12 c12] 21 Zdp _ (fun w R Q=>(ZdJ _ _ (-(x)) (((Int.gcd (-(x)) (-(y)):Nat):Int)) _ Q.1.1.1.2 Q.1.2 HFx HFg HG0).mono (fun _ _=>Zez)) (fun xx=>?_)
  obtain ⟨⟨s14,A14,l14,c14⟩,⟨s15,A15,l15,c15⟩⟩:=xx
  refine xr 4 [(2, .p 2 0),(3, .p 3 0),(4, .p 4 0),(5, .p 5 0)] [bI2 5 43 s12 A12 l12 c12,bI2 3 43 s11 A11 l11 c11,bI2 2 43 s14 A14 l14 c14,bR4 4 45 false none 0 0 false none 0 0] ?_
  refine xe (Zaa (Zab (xr 2 [(2, .p 2 0),(3, .p 3 0),(4, .p 4 0),eI2 25 s11 A11 l11 c11,eI2 26 s12 A12 l12 c12] [bI2 3 43 s11 A11 l11 c11,bI2 2 43 s14 A14 l14 c14,bR4 4 45 false none 0 0 false none 0 0] ?_)))
  refine xc 158 [vI2 s11 A11 l11 c11,vI2 s12 A12 l12 c12] 27 Zdp _ (fun w R Q=>(ZdJ _ _ (-(y)) (((Int.gcd (-(x)) (-(y)):Nat):Int)) _ Q.1.1.1.2 Q.1.1.2 HFy HFg HG0).mono (fun _ _=>Zez)) (fun xx=>?_)
  obtain ⟨⟨s16,A16,l16,c16⟩,⟨s17,A17,l17,c17⟩⟩:=xx
  refine xr 4 [(2, .p 2 0),(3, .p 3 0),(4, .p 4 0)] [bI2 3 43 s16 A16 l16 c16,bI2 2 43 s14 A14 l14 c14,bR4 4 45 false none 0 0 false none 0 0] ?_
  refine xe (Zaa (Zac (Zac (Zab (xr 1 [(2, .p 2 0),(3, .p 3 0),(4, .p 4 0),eI2 30 s16 A16 l16 c16] [bI2 3 43 s16 A16 l16 c16,bI2 2 43 s14 A14 l14 c14,bR4 4 45 false none 0 0 false none 0 0] ?_)))))
  refine xc 96 [vI2 s16 A16 l16 c16] 31 (fun _:Unit=>.int .i64 ((blen ((-(y)).tdiv (((Int.gcd (-(x)) (-(y)):Nat):Int))).natAbs:Nat):Int)) _ (fun w R Q=>(Zc6 _ ((-(y)).tdiv (((Int.gcd (-(x)) (-(y)):Nat):Int))) _ Q.2.1 (ZaT.tdiv HFy)).mono (fun _ _ h=>Zae h rfl)) (fun xx=>?_)
  refine xr 1 [(2, .p 2 0),(3, .p 3 0),(4, .p 4 0),(32, .v (.bool ((((blen ((-(y)).tdiv (((Int.gcd (-(x)) (-(y)):Nat):Int))).natAbs:Nat):Int):Int) == 1)))] [bI2 3 43 s16 A16 l16 c16,bI2 2 43 s14 A14 l14 c14,bR4 4 45 false none 0 0 false none 0 0] ?_
  refine xe (Zaa ?_)
  refine ZcF (((((blen ((-(y)).tdiv (((Int.gcd (-(x)) (-(y)):Nat):Int))).natAbs:Nat):Int):Int) == 1)) (by kernel_rfl) (fun hb18=>?_) (fun hb18=>?_)
  ·have hdhb18:=ZcD.1 (Zff hb18)
   refine Zab (xr 2 [(2, .p 2 0),(3, .p 3 0),(4, .p 4 0)] [bI2 3 43 false none 0 0,bI2 2 43 s14 A14 l14 c14,bR4 4 45 false none 0 0 false none 0 0] ?_)
   refine xe (Zaa (Zac (Zab (xr 4 [(4, .p 4 0)] [bR4 4 45 s14 A14 l14 c14 false none 0 0] ?_))))
   refine xe (Zaa (Zan ?_))
   refine Zag (v:=.agg #[.bool s14, .slice A14 l14 c14, .bool false, .slice none 0 0]) (by kernel_rfl) (fun w' R Q=>?_)
   exact ⟨_,rfl,Zaz.of (by rw [HQ.1]; exact Q.1.1.2.1) (by rw [ZbU (by have:=hdhb18; have:=HQ.2; have:=q.den_nz; omega)]; exact (Zap.nil _)),R⟩
  ·have hdhb18:=fun h=>Zfg hb18 (ZcD.2 h)
   refine ZaA (Zaa (Zac (Zab (xr 4 [(4, .p 4 0)] [bR4 4 45 s14 A14 l14 c14 s16 A16 l16 c16] ?_))))
   refine xe (Zaa (Zan ?_))
   refine Zag (v:=.agg #[.bool s14, .slice A14 l14 c14, .bool s16, .slice A16 l16 c16]) (by kernel_rfl) (fun w' R Q=>?_)
   exact ⟨_,rfl,Zaz.of (by rw [HQ.1]; exact Q.1.1.2.1) (by rw [ZbV (fun h=>hdhb18 (by have:=HQ.2; omega)),HQ.2]; exact Q.1.2.1),R⟩
 ·have HQ:=Zl6 Hq HY (fun h=>absurd (Zfe.2 h) (by have:=of_decide_eq_false hb13; omega))
  refine ZaA (Zaa (Zac (Zac (Zab (xr 1 [(2, .p 2 0),(3, .p 3 0),(4, .p 4 0),eI2 30 s11 A11 l11 c11] [bI2 3 43 s11 A11 l11 c11,bI2 2 43 s10 A10 l10 c10,bR4 4 45 false none 0 0 false none 0 0] ?_)))))
  refine xc 96 [vI2 s11 A11 l11 c11] 31 (fun _:Unit=>.int .i64 ((blen (-(y)).natAbs:Nat):Int)) _ (fun w R Q=>(Zc6 _ (-(y)) _ Q.1.1.2 HFy).mono (fun _ _ h=>Zae h rfl)) (fun xx=>?_)
  refine xr 1 [(2, .p 2 0),(3, .p 3 0),(4, .p 4 0),(32, .v (.bool ((((blen (-(y)).natAbs:Nat):Int):Int) == 1)))] [bI2 3 43 s11 A11 l11 c11,bI2 2 43 s10 A10 l10 c10,bR4 4 45 false none 0 0 false none 0 0] ?_
  refine xe (Zaa ?_)
  refine ZcF (((((blen (-(y)).natAbs:Nat):Int):Int) == 1)) (by kernel_rfl) (fun hb19=>?_) (fun hb19=>?_)
  ·have hdhb19:=ZcD.1 (Zff hb19)
   refine Zab (xr 2 [(2, .p 2 0),(3, .p 3 0),(4, .p 4 0)] [bI2 3 43 false none 0 0,bI2 2 43 s10 A10 l10 c10,bR4 4 45 false none 0 0 false none 0 0] ?_)
   refine xe (Zaa (Zac (Zab (xr 4 [(4, .p 4 0)] [bR4 4 45 s10 A10 l10 c10 false none 0 0] ?_))))
   refine xe (Zaa (Zan ?_))
   refine Zag (v:=.agg #[.bool s10, .slice A10 l10 c10, .bool false, .slice none 0 0]) (by kernel_rfl) (fun w' R Q=>?_)
   exact ⟨_,rfl,Zaz.of (by rw [HQ.1]; exact Q.1.1.1.1.2) (by rw [ZbU (by have:=hdhb19; have:=HQ.2; have:=q.den_nz; omega)]; exact (Zap.nil _)),R⟩
  ·have hdhb19:=fun h=>Zfg hb19 (ZcD.2 h)
   refine ZaA (Zaa (Zac (Zab (xr 4 [(4, .p 4 0)] [bR4 4 45 s10 A10 l10 c10 s11 A11 l11 c11] ?_))))
   refine xe (Zaa (Zan ?_))
   refine Zag (v:=.agg #[.bool s10, .slice A10 l10 c10, .bool s11, .slice A11 l11 c11]) (by kernel_rfl) (fun w' R Q=>?_)
   exact ⟨_,rfl,Zaz.of (by rw [HQ.1]; exact Q.1.1.1.1.2) (by rw [ZbV (fun h=>hdhb19 (by have:=HQ.2; omega)),HQ.2]; exact Q.1.1.1.2),R⟩
theorem ZqH (a b:Value) (x y:Int) (q:Rat) (w:World) (ha:Zap w a x) (hb:Zap w b y) (hx:ZaT x) (hy:ZaT y) (h0:0 < y) (hq:Rat.divInt x y=q) :
 Calls Tryz.prog 82 #[a,b] w (Zex w q):=by
 obtain ⟨s0,A0,l0,c0,rfl⟩:=ha.shp
 obtain ⟨s1,A1,l1,c1,rfl⟩:=hb.shp
 obtain rfl:s1=false:=hb.spos (by omega)
 have HFx:ZaT (x):=hx
 have HFy:ZaT (y):=hy
 have HY:0 < y:=by omega
 have HFg:ZaT ((Int.gcd (x) (y):Nat):Int):=ZaT.gcd HFy (by omega)
 have HG0:((Int.gcd (x) (y):Nat):Int)≠0:=by have:=Zhr (x:=x) HY; omega
 have Hq:Rat.divInt (x) (y)=q:=hq
 refine ZaB (Φ:=fun w=>(Zap w (.agg #[.bool s0, .slice A0 l0 c0]) (x)∧Zap w (.agg #[.bool false, .slice A1 l1 c1]) (y))) Tryz.func82 rfl (by kernel_rfl) (fun w' hf=>⟨ha.ext hf,hb.ext hf⟩) ?_
 refine Zac (Zab (xr 3 [(2, .p 2 0),(3, .p 3 0),(4, .p 4 0)] [bR4 4 45 false none 0 0 false none 0 0,bI2 3 43 false A1 l1 c1,bI2 2 43 s0 A0 l0 c0] ?_))
 refine xe (Zaa (Zac (Zac (Zab (xr 2 [(2, .p 2 0),(3, .p 3 0),(4, .p 4 0),(7, .v (.bool false))] [bR4 4 45 false none 0 0 false none 0 0,bI2 3 43 false A1 l1 c1,bI2 2 43 s0 A0 l0 c0] ?_)))))
 refine xe (Zaa (xb (ZaA (Zaa (Zac (Zab (xr 2 [(2, .p 2 0),(3, .p 3 0),(4, .p 4 0),eI2 12 s0 A0 l0 c0,eI2 13 false A1 l1 c1] [bR4 4 45 false none 0 0 false none 0 0,bI2 3 43 false A1 l1 c1,bI2 2 43 s0 A0 l0 c0] ?_)))))))
 refine xc 93 [vI2 s0 A0 l0 c0,vI2 false A1 l1 c1] 14 Zam _ (fun w R Q=>(ZjM _ _ (x) (y) _ Q.1 Q.2 HFx HFy).mono (fun _ _=>ZaK)) (fun xx=>?_)
 obtain ⟨s10,A10,l10,c10⟩:=xx
 refine xr 2 [(2, .p 2 0),(3, .p 3 0),(4, .p 4 0),(5, .p 5 0)] [bI2 5 43 s10 A10 l10 c10,bR4 4 45 false none 0 0 false none 0 0,bI2 3 43 false A1 l1 c1,bI2 2 43 s0 A0 l0 c0] ?_
 refine xe (Zaa (Zac (Zac (Zab (xr 1 [(2, .p 2 0),(3, .p 3 0),(4, .p 4 0),(5, .p 5 0),eI2 15 s10 A10 l10 c10] [bI2 5 43 s10 A10 l10 c10,bR4 4 45 false none 0 0 false none 0 0,bI2 3 43 false A1 l1 c1,bI2 2 43 s0 A0 l0 c0] ?_)))))
 refine xc 96 [vI2 s10 A10 l10 c10] 16 (fun _:Unit=>.int .i64 ((blen (((Int.gcd (x) (y):Nat):Int)).natAbs:Nat):Int)) _ (fun w R Q=>(Zc6 _ (((Int.gcd (x) (y):Nat):Int)) _ Q.2 HFg).mono (fun _ _ h=>Zae h rfl)) (fun xx=>?_)
 refine xr 1 [(2, .p 2 0),(3, .p 3 0),(4, .p 4 0),(5, .p 5 0),(17, .v (.bool (decide (((blen (((Int.gcd (x) (y):Nat):Int)).natAbs:Nat):Int) > 1))))] [bI2 5 43 s10 A10 l10 c10,bR4 4 45 false none 0 0 false none 0 0,bI2 3 43 false A1 l1 c1,bI2 2 43 s0 A0 l0 c0] ?_
 refine xe (Zaa ?_)
 refine ZcF ((decide (((blen (((Int.gcd (x) (y):Nat):Int)).natAbs:Nat):Int) > 1))) (by kernel_rfl) (fun hb11=>?_) (fun hb11=>?_)
 ·have HQ:=Zl5 Hq HY (Zfe.1 (by have:=of_decide_eq_true hb11; omega))
  refine Zac (Zab (xr 2 [(2, .p 2 0),(3, .p 3 0),(4, .p 4 0),(5, .p 5 0),eI2 19 s0 A0 l0 c0,eI2 20 s10 A10 l10 c10] [bI2 5 43 s10 A10 l10 c10,bR4 4 45 false none 0 0 false none 0 0,bI2 3 43 false A1 l1 c1,bI2 2 43 s0 A0 l0 c0] ?_))
  refine xc 158 [vI2 s0 A0 l0 c0,vI2 s10 A10 l10 c10] 21 Zdp _ (fun w R Q=>(ZdJ _ _ (x) (((Int.gcd (x) (y):Nat):Int)) _ Q.1.1.1 Q.1.2 HFx HFg HG0).mono (fun _ _=>Zez)) (fun xx=>?_)
  obtain ⟨⟨s12,A12,l12,c12⟩,⟨s13,A13,l13,c13⟩⟩:=xx
  refine xr 4 [(2, .p 2 0),(3, .p 3 0),(4, .p 4 0),(5, .p 5 0)] [bI2 5 43 s10 A10 l10 c10,bR4 4 45 false none 0 0 false none 0 0,bI2 3 43 false A1 l1 c1,bI2 2 43 s12 A12 l12 c12] ?_
  refine xe (Zaa (Zab (xr 2 [(2, .p 2 0),(3, .p 3 0),(4, .p 4 0),eI2 25 false A1 l1 c1,eI2 26 s10 A10 l10 c10] [bR4 4 45 false none 0 0 false none 0 0,bI2 3 43 false A1 l1 c1,bI2 2 43 s12 A12 l12 c12] ?_)))
  refine xc 158 [vI2 false A1 l1 c1,vI2 s10 A10 l10 c10] 27 Zdp _ (fun w R Q=>(ZdJ _ _ (y) (((Int.gcd (x) (y):Nat):Int)) _ Q.1.1.1.2 Q.1.1.2 HFy HFg HG0).mono (fun _ _=>Zez)) (fun xx=>?_)
  obtain ⟨⟨s14,A14,l14,c14⟩,⟨s15,A15,l15,c15⟩⟩:=xx
  refine xr 4 [(2, .p 2 0),(3, .p 3 0),(4, .p 4 0)] [bR4 4 45 false none 0 0 false none 0 0,bI2 3 43 s14 A14 l14 c14,bI2 2 43 s12 A12 l12 c12] ?_
  refine xe (Zaa (Zac (Zac (Zab (xr 1 [(2, .p 2 0),(3, .p 3 0),(4, .p 4 0),eI2 30 s14 A14 l14 c14] [bR4 4 45 false none 0 0 false none 0 0,bI2 3 43 s14 A14 l14 c14,bI2 2 43 s12 A12 l12 c12] ?_)))))
  refine xc 96 [vI2 s14 A14 l14 c14] 31 (fun _:Unit=>.int .i64 ((blen ((y).tdiv (((Int.gcd (x) (y):Nat):Int))).natAbs:Nat):Int)) _ (fun w R Q=>(Zc6 _ ((y).tdiv (((Int.gcd (x) (y):Nat):Int))) _ Q.2.1 (ZaT.tdiv HFy)).mono (fun _ _ h=>Zae h rfl)) (fun xx=>?_)
  refine xr 1 [(2, .p 2 0),(3, .p 3 0),(4, .p 4 0),(32, .v (.bool ((((blen ((y).tdiv (((Int.gcd (x) (y):Nat):Int))).natAbs:Nat):Int):Int) == 1)))] [bR4 4 45 false none 0 0 false none 0 0,bI2 3 43 s14 A14 l14 c14,bI2 2 43 s12 A12 l12 c12] ?_
  refine xe (Zaa ?_)
  refine ZcF (((((blen ((y).tdiv (((Int.gcd (x) (y):Nat):Int))).natAbs:Nat):Int):Int) == 1)) (by kernel_rfl) (fun hb16=>?_) (fun hb16=>?_)
  ·have hdhb16:=ZcD.1 (Zff hb16)
   refine Zab (xr 2 [(2, .p 2 0),(3, .p 3 0),(4, .p 4 0)] [bR4 4 45 false none 0 0 false none 0 0,bI2 3 43 false none 0 0,bI2 2 43 s12 A12 l12 c12] ?_)
   refine xe (Zaa (Zac (Zab (xr 4 [(4, .p 4 0)] [bR4 4 45 s12 A12 l12 c12 false none 0 0] ?_))))
   refine xe (Zaa (Zan ?_))
   refine Zag (v:=.agg #[.bool s12, .slice A12 l12 c12, .bool false, .slice none 0 0]) (by kernel_rfl) (fun w' R Q=>?_)
   exact ⟨_,rfl,Zaz.of (by rw [HQ.1]; exact Q.1.1.2.1) (by rw [ZbU (by have:=hdhb16; have:=HQ.2; have:=q.den_nz; omega)]; exact (Zap.nil _)),R⟩
  ·have hdhb16:=fun h=>Zfg hb16 (ZcD.2 h)
   refine ZaA (Zaa (Zac (Zab (xr 4 [(4, .p 4 0)] [bR4 4 45 s12 A12 l12 c12 s14 A14 l14 c14] ?_))))
   refine xe (Zaa (Zan ?_))
   refine Zag (v:=.agg #[.bool s12, .slice A12 l12 c12, .bool s14, .slice A14 l14 c14]) (by kernel_rfl) (fun w' R Q=>?_)
   exact ⟨_,rfl,Zaz.of (by rw [HQ.1]; exact Q.1.1.2.1) (by rw [ZbV (fun h=>hdhb16 (by have:=HQ.2; omega)),HQ.2]; exact Q.1.2.1),R⟩
 ·have HQ:=Zl6 Hq HY (fun h=>absurd (Zfe.2 h) (by have:=of_decide_eq_false hb11; omega))
  refine ZaA (Zaa (Zac (Zac (Zab (xr 1 [(2, .p 2 0),(3, .p 3 0),(4, .p 4 0),eI2 30 false A1 l1 c1] [bR4 4 45 false none 0 0 false none 0 0,bI2 3 43 false A1 l1 c1,bI2 2 43 s0 A0 l0 c0] ?_)))))
  refine xc 96 [vI2 false A1 l1 c1] 31 (fun _:Unit=>.int .i64 ((blen (y).natAbs:Nat):Int)) _ (fun w R Q=>(Zc6 _ (y) _ Q.1.1.2 HFy).mono (fun _ _ h=>Zae h rfl)) (fun xx=>?_)
  refine xr 1 [(2, .p 2 0),(3, .p 3 0),(4, .p 4 0),(32, .v (.bool ((((blen (y).natAbs:Nat):Int):Int) == 1)))] [bR4 4 45 false none 0 0 false none 0 0,bI2 3 43 false A1 l1 c1,bI2 2 43 s0 A0 l0 c0] ?_
  refine xe (Zaa ?_)
  refine ZcF (((((blen (y).natAbs:Nat):Int):Int) == 1)) (by kernel_rfl) (fun hb17=>?_) (fun hb17=>?_)
  ·have hdhb17:=ZcD.1 (Zff hb17)
   refine Zab (xr 2 [(2, .p 2 0),(3, .p 3 0),(4, .p 4 0)] [bR4 4 45 false none 0 0 false none 0 0,bI2 3 43 false none 0 0,bI2 2 43 s0 A0 l0 c0] ?_)
   refine xe (Zaa (Zac (Zab (xr 4 [(4, .p 4 0)] [bR4 4 45 s0 A0 l0 c0 false none 0 0] ?_))))
   refine xe (Zaa (Zan ?_))
   refine Zag (v:=.agg #[.bool s0, .slice A0 l0 c0, .bool false, .slice none 0 0]) (by kernel_rfl) (fun w' R Q=>?_)
   exact ⟨_,rfl,Zaz.of (by rw [HQ.1]; exact Q.1.1.1.1) (by rw [ZbU (by have:=hdhb17; have:=HQ.2; have:=q.den_nz; omega)]; exact (Zap.nil _)),R⟩
  ·have hdhb17:=fun h=>Zfg hb17 (ZcD.2 h)
   refine ZaA (Zaa (Zac (Zab (xr 4 [(4, .p 4 0)] [bR4 4 45 s0 A0 l0 c0 false A1 l1 c1] ?_))))
   refine xe (Zaa (Zan ?_))
   refine Zag (v:=.agg #[.bool s0, .slice A0 l0 c0, .bool false, .slice A1 l1 c1]) (by kernel_rfl) (fun w' R Q=>?_)
   exact ⟨_,rfl,Zaz.of (by rw [HQ.1]; exact Q.1.1.1.1) (by rw [ZbV (fun h=>hdhb17 (by have:=HQ.2; omega)),HQ.2]; exact Q.1.1.1.2),R⟩
theorem Zip (a b:Value) (x y:Int) (w:World) (ha:Zap w a x) (hb:Zap w b y) (hx:ZaT x) (hy:ZaT y) (h0:y≠0):Calls Tryz.prog 82 #[a,b] w (Zex w (Rat.divInt x y)):=by
 rcases Int.lt_or_gt_of_ne h0 with h | h
 ·exact ZqG a b x y _ w ha hb hx hy h rfl
 ·exact ZqH a b x y _ w ha hb hx hy h rfl
theorem ZqI (a:Value) (q:Rat) (w:World) (ha:Zaz w a q) :
 Calls Tryz.prog 88 #[a] w (Zex w (-q)):=by
 obtain ⟨s0,A0,l0,c0,t0,B0,m0,d0,rfl⟩:=ha.shp
 refine ZaB (Φ:=fun w=>Zaz w (.agg #[.bool s0, .slice A0 l0 c0, .bool t0, .slice B0 m0 d0]) (q)) Tryz.func88 rfl (by kernel_rfl) (fun w' hf=>ha.ext hf) ?_
 refine Zac (Zab (xr 2 [(1, .p 1 0),(2, .p 2 0)] [bR4 2 45 false none 0 0 false none 0 0,bR4 1 45 s0 A0 l0 c0 t0 B0 m0 d0] ?_))
 refine xe (Zaa (Zac ?_))
 refine ZaE 7 (by kernel_rfl) (by kernel_rfl) Zaj ?_
 refine xf 2 [(1, .p 1 0),(2, .p 2 0),eI2 4 s0 A0 l0 c0] [bR4 2 45 false none 0 0 false none 0 0,bR4 1 45 s0 A0 l0 c0 t0 B0 m0 d0] ?_
 refine xd 87 [vI2 s0 A0 l0 c0] 5 Zam _ (fun w R Q=>(Zf2 _ ((q).num) _ Q.num).mono (fun _ _=>ZaK)) (fun xx=>?_)
 obtain ⟨s10,A10,l10,c10⟩:=xx
 refine xf 4 [(2, .p 2 0)] [bR4 2 45 s10 A10 l10 c10 t0 B0 m0 d0,bR4 2 45 false none 0 0 false none 0 0,bR4 1 45 s0 A0 l0 c0 t0 B0 m0 d0] ?_
 refine xz (xe (Zaa (Zan ?_)))
 refine Zag (v:=.agg #[.bool s10, .slice A10 l10 c10, .bool t0, .slice B0 m0 d0]) (by kernel_rfl) (fun w' R Q=>?_)
 exact ⟨_,rfl,Zaz.of (by rw [Zf1]; exact Q.2) (by rw [Znl]; exact Q.1.den),R⟩
theorem Zfx (a:Value) (q:Rat) (w:World) (ha:Zaz w a q) :
 Calls Tryz.prog 77 #[a] w (RetV w (.int .i64 q.num.sign)):=by
 obtain ⟨s0,A0,l0,c0,t0,B0,m0,d0,rfl⟩:=ha.shp
 refine ZaB (Φ:=fun w=>Zaz w (.agg #[.bool s0, .slice A0 l0 c0, .bool t0, .slice B0 m0 d0]) (q)) Tryz.func77 rfl (by kernel_rfl) (fun w' hf=>ha.ext hf) ?_
 refine Zac (Zab (xr 2 [(1, .p 1 0),(2, .v (.int .i64 0))] [bR4 1 45 s0 A0 l0 c0 t0 B0 m0 d0] ?_))
 refine xe (Zaa (Zac (Zab (xr 2 [(2, .v (.int .i64 0)),eI2 4 s0 A0 l0 c0] [] ?_))))
 refine xc 156 [vI2 s0 A0 l0 c0] 5 (fun _:Unit=>.int .i64 ((q).num).sign) _ (fun w R Q=>(Zgn _ ((q).num) _ Q.num).mono (fun _ _ h=>Zae h rfl)) (fun xx=>?_)
 refine xr 1 [(2, .v (.int .i64 ((q).num).sign))] [] ?_
 refine xe (Zaa (Zan ?_))
 refine Zag (v:=.int .i64 ((q).num).sign) (by kernel_rfl) (fun w' R Q=>?_)
 exact ⟨rfl,R⟩
end Go.Proofs.YthlipnahcbcjkaaGreatDoor

namespace Go.Proofs.YthlipnahcbcjkaaGreatDoor
open Go.RowKit
theorem Zlu (a b:List UInt8):(⟨a.toArray⟩:ByteArray) ++ ⟨b.toArray⟩=⟨(a ++ b).toArray⟩:=by
 apply ByteArray.ext
 simp
theorem ZfH {n:Nat} (hn:ml n≤65536):(Lib.decDigits n).length≤655360:=by
 rcases Nat.eq_zero_or_pos n with e | e
 ·rw [e,Lib.decDigits_one (by omega)]; simp
 ·have h1:n < 10 ^ (10 * ml n):=by
   refine Nat.lt_of_lt_of_le (Zgh n) ?_
   rw [Nat.pow_mul]
   exact Nat.pow_le_pow_left (by rw [Zaw]; decide) _
  have:=ZeI _ _ h1
  rw [ZbN e] at this
  omega
set_option maxHeartbeats 2000000 in
theorem Zmq (a:Value) (q:Rat) (w:World) (ha:Zaz w a q) (h1:ml q.num.natAbs≤65536) (_:ml q.den≤65536) (hs:q.num < 0) (hd:q.den=1) :
 Calls Tryz.prog 29 #[a] w (RetV w (.string ⟨(Zaf q).toArray⟩)):=by
 obtain ⟨s1,A1,l1,c1,t1,B1,m1,d1,rfl⟩:=ha.shp
 have F2:Hid (Zaz w (.agg #[.bool s1, .slice A1 l1 c1, .bool t1, .slice B1 m1 d1]) (q)):=ha
 clear ha
 obtain rfl:s1=true:=F2.out.num.sneg hs
 have H1:Hid (ml q.num.natAbs≤65536):=h1
 obtain rfl:m1=0:=F2.out.den.len0 (ZbU hd)
 have HT:Hid (Zaf q=45 :: Lib.decDigits q.num.natAbs):=by unfold Hid Zaf Lib.itoa; rw [if_pos hd,if_pos hs]
 obtain ⟨rt,ert⟩:∃ rt,Zaf q=rt:=⟨_,rfl⟩
 rw [ert] at HT ⊢
 clear hs hd h1 ert
 go_enter Tryz.func29,Tryz.ntmps29
 go_wp2_with fail
 generalize hwb:World.alloc w _=w4
 obtain ⟨b_B3,hE0⟩:=ZcW hwb
 clear hwb
 have B3:=zh b_B3
 clear b_B3
 replace F2:=zh (F2.out.ext hE0)
 have HE:=zh hE0
 clear hE0
 have F5:Hid (Zap w4 (.agg #[.bool true, .slice A1 l1 c1]) ((q).num)):=F2.out.num
 have F8:Hid (Zas w4 (.slice A1 l1 c1) (((q).num).natAbs)):=F5.out.mag
 refine (Zd5 true A1 l1 c1 _ _ F8.out (by first | exact H1.out | exact H2.out)).mono ?_
 obtain ⟨t7,et7⟩:∃ t,Lib.decDigits (((q).num).natAbs)=t:=⟨_,rfl⟩
 rw [et7]; have hlen7:t7.length≤655360:=by rw [← et7]; exact ZfH (by first | exact H1.out | exact H2.out)
 have Ht7:=zh et7; clear et7
 rintro e w6 ⟨rfl,hF⟩
 replace B3:=zh (B3.out.ext hF)
 replace F2:=zh (F2.out.ext hF)
 replace F5:=zh (F5.out.ext hF)
 replace F8:=zh (F8.out.ext hF)
 replace HE:=zh (HE.out.trans hF)
 clear hF
 obtain ⟨c9_0,c9_1,c9_2,c9_3,f9_0,f9_1,f9_2,f9_3⟩:=B3.out.cell4
 go_wp2
 clear c9_0 c9_1 c9_2 c9_3 f9_0 f9_1 f9_2 f9_3
 go_ret
 refine ⟨?_,HE.out⟩
 rw [HT.out,Ht7.out]
 show Ending.returned (.string ((⟨#[45]⟩:ByteArray) ++ ⟨t7.toArray⟩))=_
 simp only [Zlu]
 rfl
set_option maxHeartbeats 2000000 in
theorem Zmr (a:Value) (q:Rat) (w:World) (ha:Zaz w a q) (h1:ml q.num.natAbs≤65536) (h2:ml q.den≤65536) (hs:q.num < 0) (hd:¬ q.den=1) :
 Calls Tryz.prog 29 #[a] w (RetV w (.string ⟨(Zaf q).toArray⟩)):=by
 obtain ⟨s1,A1,l1,c1,t1,B1,m1,d1,rfl⟩:=ha.shp
 have F2:Hid (Zaz w (.agg #[.bool s1, .slice A1 l1 c1, .bool t1, .slice B1 m1 d1]) (q)):=ha
 clear ha
 obtain rfl:s1=true:=F2.out.num.sneg hs
 have H1:Hid (ml q.num.natAbs≤65536):=h1
 have hl:0 < m1:=F2.out.den.lenp (ZiJ hd)
 have hlb:decide ((0:Int) < (m1:Int))=true:=by rw [decide_eq_true_eq]; omega
 have H2:Hid (ml (denF q).natAbs≤65536):=by unfold Hid; rw [ZbV hd,Int.natAbs_natCast]; exact h2
 have HT:Hid (Zaf q=(45 :: Lib.decDigits q.num.natAbs) ++ (47 :: Lib.decDigits (denF q).natAbs)):=by
  unfold Hid Zaf
  rw [if_neg hd,ZbV hd,Int.natAbs_natCast,Lib.itoa_nonneg]
  unfold Lib.itoa
  rw [if_pos (show q.num < 0 by omega)]
  simp
 obtain ⟨rt,ert⟩:∃ rt,Zaf q=rt:=⟨_,rfl⟩
 rw [ert] at HT ⊢
 clear hs hd h1 h2 ert
 go_enter Tryz.func29,Tryz.ntmps29
 go_wp2_with fail
 generalize hwb:World.alloc w _=w4
 obtain ⟨b_B3,hE0⟩:=ZcW hwb
 clear hwb
 have B3:=zh b_B3
 clear b_B3
 replace F2:=zh (F2.out.ext hE0)
 have HE:=zh hE0
 clear hE0
 have F5:Hid (Zap w4 (.agg #[.bool true, .slice A1 l1 c1]) ((q).num)):=F2.out.num
 have F8:Hid (Zas w4 (.slice A1 l1 c1) (((q).num).natAbs)):=F5.out.mag
 refine (Zd5 true A1 l1 c1 _ _ F8.out (by first | exact H1.out | exact H2.out)).mono ?_
 obtain ⟨t7,et7⟩:∃ t,Lib.decDigits (((q).num).natAbs)=t:=⟨_,rfl⟩
 rw [et7]; have hlen7:t7.length≤655360:=by rw [← et7]; exact ZfH (by first | exact H1.out | exact H2.out)
 have Ht7:=zh et7; clear et7
 rintro e w6 ⟨rfl,hF⟩
 replace B3:=zh (B3.out.ext hF)
 replace F2:=zh (F2.out.ext hF)
 replace F5:=zh (F5.out.ext hF)
 replace F8:=zh (F8.out.ext hF)
 replace HE:=zh (HE.out.trans hF)
 clear hF
 obtain ⟨c9_0,c9_1,c9_2,c9_3,f9_0,f9_1,f9_2,f9_3⟩:=B3.out.cell4
 go_wp2_with fail
 clear c9_0 c9_1 c9_2 c9_3 f9_0 f9_1 f9_2 f9_3
 have F10:Hid (Zap w6 (.agg #[.bool t1, .slice B1 m1 d1]) (denF (q))):=F2.out.den
 have F13:Hid (Zas w6 (.slice B1 m1 d1) ((denF (q)).natAbs)):=F10.out.mag
 refine (Zd5 t1 B1 m1 d1 _ _ F13.out (by first | exact H1.out | exact H2.out)).mono ?_
 obtain ⟨t12,et12⟩:∃ t,Lib.decDigits ((denF (q)).natAbs)=t:=⟨_,rfl⟩
 rw [et12]; have hlen12:t12.length≤655360:=by rw [← et12]; exact ZfH (by first | exact H1.out | exact H2.out)
 have Ht12:=zh et12; clear et12
 rintro e w11 ⟨rfl,hF⟩
 replace B3:=zh (B3.out.ext hF)
 replace F2:=zh (F2.out.ext hF)
 replace F5:=zh (F5.out.ext hF)
 replace F8:=zh (F8.out.ext hF)
 replace F10:=zh (F10.out.ext hF)
 replace F13:=zh (F13.out.ext hF)
 replace HE:=zh (HE.out.trans hF)
 clear hF
 obtain ⟨c14_0,c14_1,c14_2,c14_3,f14_0,f14_1,f14_2,f14_3⟩:=B3.out.cell4
 go_wp2
 clear c14_0 c14_1 c14_2 c14_3 f14_0 f14_1 f14_2 f14_3
 go_ret
 refine ⟨?_,HE.out⟩
 rw [HT.out,Ht7.out,Ht12.out]
 show Ending.returned (.string (((⟨#[45]⟩:ByteArray) ++ ⟨t7.toArray⟩) ++ ((⟨#[47]⟩:ByteArray) ++ ⟨t12.toArray⟩)))=_
 simp only [Zlu]
 rfl
set_option maxHeartbeats 2000000 in
theorem Zms (a:Value) (q:Rat) (w:World) (ha:Zaz w a q) (h1:ml q.num.natAbs≤65536) (_:ml q.den≤65536) (hs:0≤q.num) (hd:q.den=1) :
 Calls Tryz.prog 29 #[a] w (RetV w (.string ⟨(Zaf q).toArray⟩)):=by
 obtain ⟨s1,A1,l1,c1,t1,B1,m1,d1,rfl⟩:=ha.shp
 have F2:Hid (Zaz w (.agg #[.bool s1, .slice A1 l1 c1, .bool t1, .slice B1 m1 d1]) (q)):=ha
 clear ha
 obtain rfl:s1=false:=F2.out.num.spos hs
 have H1:Hid (ml q.num.natAbs≤65536):=h1
 obtain rfl:m1=0:=F2.out.den.len0 (ZbU hd)
 have HT:Hid (Zaf q=Lib.decDigits q.num.natAbs):=by unfold Hid Zaf Lib.itoa; rw [if_pos hd,if_neg (show ¬ q.num < 0 by omega)]; rw [show q.num.toNat=q.num.natAbs by omega]
 obtain ⟨rt,ert⟩:∃ rt,Zaf q=rt:=⟨_,rfl⟩
 rw [ert] at HT ⊢
 clear hs hd h1 ert
 go_enter Tryz.func29,Tryz.ntmps29
 go_wp2_with fail
 generalize hwb:World.alloc w _=w4
 obtain ⟨b_B3,hE0⟩:=ZcW hwb
 clear hwb
 have B3:=zh b_B3
 clear b_B3
 replace F2:=zh (F2.out.ext hE0)
 have HE:=zh hE0
 clear hE0
 have F5:Hid (Zap w4 (.agg #[.bool false, .slice A1 l1 c1]) ((q).num)):=F2.out.num
 have F8:Hid (Zas w4 (.slice A1 l1 c1) (((q).num).natAbs)):=F5.out.mag
 refine (Zd5 false A1 l1 c1 _ _ F8.out (by first | exact H1.out | exact H2.out)).mono ?_
 obtain ⟨t7,et7⟩:∃ t,Lib.decDigits (((q).num).natAbs)=t:=⟨_,rfl⟩
 rw [et7]; have hlen7:t7.length≤655360:=by rw [← et7]; exact ZfH (by first | exact H1.out | exact H2.out)
 have Ht7:=zh et7; clear et7
 rintro e w6 ⟨rfl,hF⟩
 replace B3:=zh (B3.out.ext hF)
 replace F2:=zh (F2.out.ext hF)
 replace F5:=zh (F5.out.ext hF)
 replace F8:=zh (F8.out.ext hF)
 replace HE:=zh (HE.out.trans hF)
 clear hF
 obtain ⟨c9_0,c9_1,c9_2,c9_3,f9_0,f9_1,f9_2,f9_3⟩:=B3.out.cell4
 go_wp2
 clear c9_0 c9_1 c9_2 c9_3 f9_0 f9_1 f9_2 f9_3
 go_ret
 refine ⟨?_,HE.out⟩
 rw [HT.out,Ht7.out]
 show Ending.returned (.string (⟨t7.toArray⟩:ByteArray))=_
 rfl
set_option maxHeartbeats 2000000 in
theorem Zmt (a:Value) (q:Rat) (w:World) (ha:Zaz w a q) (h1:ml q.num.natAbs≤65536) (h2:ml q.den≤65536) (hs:0≤q.num) (hd:¬ q.den=1) :
 Calls Tryz.prog 29 #[a] w (RetV w (.string ⟨(Zaf q).toArray⟩)):=by
 obtain ⟨s1,A1,l1,c1,t1,B1,m1,d1,rfl⟩:=ha.shp
 have F2:Hid (Zaz w (.agg #[.bool s1, .slice A1 l1 c1, .bool t1, .slice B1 m1 d1]) (q)):=ha
 clear ha
 obtain rfl:s1=false:=F2.out.num.spos hs
 have H1:Hid (ml q.num.natAbs≤65536):=h1
 have hl:0 < m1:=F2.out.den.lenp (ZiJ hd)
 have hlb:decide ((0:Int) < (m1:Int))=true:=by rw [decide_eq_true_eq]; omega
 have H2:Hid (ml (denF q).natAbs≤65536):=by unfold Hid; rw [ZbV hd,Int.natAbs_natCast]; exact h2
 have HT:Hid (Zaf q=(Lib.decDigits q.num.natAbs) ++ (47 :: Lib.decDigits (denF q).natAbs)):=by
  unfold Hid Zaf
  rw [if_neg hd,ZbV hd,Int.natAbs_natCast,Lib.itoa_nonneg]
  unfold Lib.itoa
  rw [if_neg (show ¬ q.num < 0 by omega)]
  rw [show q.num.toNat=q.num.natAbs by omega]
  simp
 obtain ⟨rt,ert⟩:∃ rt,Zaf q=rt:=⟨_,rfl⟩
 rw [ert] at HT ⊢
 clear hs hd h1 h2 ert
 go_enter Tryz.func29,Tryz.ntmps29
 go_wp2_with fail
 generalize hwb:World.alloc w _=w4
 obtain ⟨b_B3,hE0⟩:=ZcW hwb
 clear hwb
 have B3:=zh b_B3
 clear b_B3
 replace F2:=zh (F2.out.ext hE0)
 have HE:=zh hE0
 clear hE0
 have F5:Hid (Zap w4 (.agg #[.bool false, .slice A1 l1 c1]) ((q).num)):=F2.out.num
 have F8:Hid (Zas w4 (.slice A1 l1 c1) (((q).num).natAbs)):=F5.out.mag
 refine (Zd5 false A1 l1 c1 _ _ F8.out (by first | exact H1.out | exact H2.out)).mono ?_
 obtain ⟨t7,et7⟩:∃ t,Lib.decDigits (((q).num).natAbs)=t:=⟨_,rfl⟩
 rw [et7]; have hlen7:t7.length≤655360:=by rw [← et7]; exact ZfH (by first | exact H1.out | exact H2.out)
 have Ht7:=zh et7; clear et7
 rintro e w6 ⟨rfl,hF⟩
 replace B3:=zh (B3.out.ext hF)
 replace F2:=zh (F2.out.ext hF)
 replace F5:=zh (F5.out.ext hF)
 replace F8:=zh (F8.out.ext hF)
 replace HE:=zh (HE.out.trans hF)
 clear hF
 obtain ⟨c9_0,c9_1,c9_2,c9_3,f9_0,f9_1,f9_2,f9_3⟩:=B3.out.cell4
 go_wp2_with fail
 clear c9_0 c9_1 c9_2 c9_3 f9_0 f9_1 f9_2 f9_3
 have F10:Hid (Zap w6 (.agg #[.bool t1, .slice B1 m1 d1]) (denF (q))):=F2.out.den
 have F13:Hid (Zas w6 (.slice B1 m1 d1) ((denF (q)).natAbs)):=F10.out.mag
 refine (Zd5 t1 B1 m1 d1 _ _ F13.out (by first | exact H1.out | exact H2.out)).mono ?_
 obtain ⟨t12,et12⟩:∃ t,Lib.decDigits ((denF (q)).natAbs)=t:=⟨_,rfl⟩
 rw [et12]; have hlen12:t12.length≤655360:=by rw [← et12]; exact ZfH (by first | exact H1.out | exact H2.out)
 have Ht12:=zh et12; clear et12
 rintro e w11 ⟨rfl,hF⟩
 replace B3:=zh (B3.out.ext hF)
 replace F2:=zh (F2.out.ext hF)
 replace F5:=zh (F5.out.ext hF)
 replace F8:=zh (F8.out.ext hF)
 replace F10:=zh (F10.out.ext hF)
 replace F13:=zh (F13.out.ext hF)
 replace HE:=zh (HE.out.trans hF)
 clear hF
 obtain ⟨c14_0,c14_1,c14_2,c14_3,f14_0,f14_1,f14_2,f14_3⟩:=B3.out.cell4
 go_wp2
 clear c14_0 c14_1 c14_2 c14_3 f14_0 f14_1 f14_2 f14_3
 go_ret
 refine ⟨?_,HE.out⟩
 rw [HT.out,Ht7.out,Ht12.out]
 show Ending.returned (.string ((⟨t7.toArray⟩:ByteArray) ++ ((⟨#[47]⟩:ByteArray) ++ ⟨t12.toArray⟩)))=_
 simp only [Zlu]
 rfl
theorem Zgp (a:Value) (q:Rat) (w:World) (ha:Zaz w a q) (h1:ml q.num.natAbs≤65536) (h2:ml q.den≤65536):Calls Tryz.prog 29 #[a] w (RetV w (.string ⟨(Zaf q).toArray⟩)):=by
 by_cases hs:q.num < 0
 ·by_cases hd:q.den=1
  ·exact Zmq a q w ha h1 h2 hs hd
  ·exact Zmr a q w ha h1 h2 hs hd
 ·by_cases hd:q.den=1
  ·exact Zms a q w ha h1 h2 (by omega) hd
  ·exact Zmt a q w ha h1 h2 (by omega) hd
end Go.Proofs.YthlipnahcbcjkaaGreatDoor

namespace Go.Proofs.YthlipnahcbcjkaaGreatDoor
open Go.RowKit
def ZkQ (w:World) (l:List UInt8) (e:Ending) (w':World):Prop :=
 ∃ v b,e=.returned (.tuple #[v, .bool b])∧b=(l.all Zay && !l.isEmpty)∧Zap w' v (if l.all Zay then (Zad l:Int) else 0)∧Ext w w'
theorem ZnE {fn:Func} {t t':Tmp} {tmps:Array Value} {w w':World} {r:Nat} {x y:Value} {b:Bool} {l:List UInt8} (hres:fn.results=#[.cell t 43, .tmp t']) (ht:tmps[t]? = some (.pointer (some ⟨r,0,none⟩))) (ht':tmps[t']? = some (.bool b))
 (hB:Blk 43 w' r #[x,y]) (hI:Zap w' (.agg #[x,y]) (if l.all Zay then (Zad l:Int) else 0)) (hb:b=(l.all Zay && !l.isEmpty)) (Q:Ext w w'):bodyPost Tryz.prog fn (ZkQ w l) .ret ⟨tmps,[]⟩ w':=by
 obtain ⟨h0,h1,_⟩:=hB.cell2
 exact bodyPost_ret (v:=.tuple #[.agg #[x,y], .bool b]) (by simp [results,hres,ht,ht',go_sem,h0,h1]) rfl ⟨_,_,rfl,hb,hI,Q⟩
theorem Zas.one_pos {w:World} {b r:Nat} (h:Own .u32 166 w b [r]) (hr:r < W32) (h0:0 < r):Zas w (.slice (some ⟨b,0,none⟩) 1 1) r :=
 ⟨_,[r],1,rfl,Nat.le_refl _,h.shows0,Dig.cons hr Dig.nil,fun k hk=>by simp at hk; subst hk; simp; omega,by simp⟩
theorem Za8 {n k:Nat} (h:n < 10 ^ k):ml n≤k:=ZbK.2 (Nat.lt_of_lt_of_le h (Nat.pow_le_pow_left (by rw [Zaw]; omega) _))
theorem ZnF (s:ByteArray):s.toList.isEmpty=(bytes s).isEmpty:=by
 rw [Lib.toList_data]
def FdIn (l:List UInt8) (i k v f:Nat):Prop:=k≤9∧i + k≤l.length∧(l.take (i + k)).all Zay=true∧v=Zad ((l.drop i).take k)∧f=10 ^ k
theorem FdIn.bounds {l:List UInt8} {i k v f:Nat} (h:FdIn l i k v f):v < 10 ^ k∧v < 1000000000∧f≤1000000000∧0 < f:=by
 obtain ⟨h1,h2,h3,h4,h5⟩:=h
 have hall:((l.drop i).take k).all Zay=true:=by
  rw [List.all_eq_true] at h3 ⊢
  intro x hx
  refine h3 x ?_
  rw [List.take_add]
  exact List.mem_append_right _ hx
 have:=Zbw _ hall
 rw [List.length_take,List.length_drop,Nat.min_eq_left (by omega),← h4] at this
 have h6:10 ^ k≤10 ^ 9:=Nat.pow_le_pow_right (by omega) h1
 have h7:0 < 10 ^ k:=Nat.pow_pos (by omega)
 exact ⟨this,by omega,by omega,by omega⟩
theorem FdIn.step {l:List UInt8} {i k v f:Nat} {c:UInt8} (h:FdIn l i k v f) (hk:k < 9) (hlt:i + k < l.length) (hc:l[i + k]=c) (hd:Zay c=true):FdIn l i (k + 1) (v * 10 + (c.toNat - 48)) (f * 10):=by
 obtain ⟨h1,h2,h3,h4,h5⟩:=h
 refine ⟨by omega,by omega,?_,?_,by rw [h5,Nat.pow_succ]⟩
 ·rw [← Nat.add_assoc,List.take_succ_eq_append_getElem hlt,List.all_append,h3,hc]
  simp [hd]
 ·rw [List.take_succ_eq_append_getElem (by simp; omega),Zeb,← h4,List.getElem_drop,hc]
  omega
theorem FdIn.done {l:List UInt8} {i k v f:Nat} (h:FdIn l i k v f):Zad (l.take i) * f + v=Zad (l.take (i + k)):=by
 obtain ⟨h1,h2,h3,h4,h5⟩:=h
 have:l.take (i + k)=l.take i ++ (l.drop i).take k:=by rw [List.take_add]
 rw [this,Zfn,List.length_take,List.length_drop,Nat.min_eq_left (by omega),← h4,h5]
theorem Zs6 {l:List UInt8} {i:Nat} (h:i < l.length) (hd:Zay l[i]=false):l.all Zay=false:=by
 rw [List.all_eq_false]
 exact ⟨l[i],List.getElem_mem h,by simp [hd]⟩
set_option maxHeartbeats 2000000 in
theorem ZdO (s:ByteArray) (w:World) (hs:s.size≤65536):Calls Tryz.prog 172 #[.string s] w (ZkQ w (bytes s)):=by
 have hbl:=zh (Zah s)
 go_enter Tryz.func172,Tryz.ntmps172
 go_wp2_with fail
 generalize hwb:World.alloc w _=w1
 obtain ⟨b0,hE0⟩:=ZcW hwb
 have HB:=zh b0
 have HE:=zh hE0
 clear hwb b0 hE0
 go_loopw [4,5,6,7,8] (fun mv iv _ _ _ wr=>∃ (i:Nat) (A:Option Addr) (ln c:Nat),i≤s.size∧iv=.int .i64 (i:Int)∧mv=.slice A ln c∧Hid (((bytes s).take i).all Zay=true)∧Hid (Zas wr (.slice A ln c) (Zad ((bytes s).take i)))∧Hid (Ext w1 wr)) (fun _ iv _ _ _ _=>s.size - (intOf iv).toNat)
 case atStart=>exact ⟨0,none,0,0,by omega,rfl,rfl,by unfold Hid; simp,by unfold Hid; simpa [Zad] using Zas.zero _,Fr.refl _ _⟩
 case round =>
  obtain ⟨i,A,ln,c,hi,rfl,rfl,hall,hM,hF⟩:=hrel
  by_cases hlt:i < s.size
  ·go_wp2
   go_loop [5,6,7,8] (fun iv vv fv kv=>∃ (k v f:Nat),k≤9∧i + k≤s.size∧v < 1000000000∧f≤1000000000∧0 < f∧iv=.int .i64 ((i + k:Nat):Int)∧vv=.int .u32 (v:Int)∧fv=.int .u32 (f:Int)∧kv=.int .i64 (k:Int)∧Hid (FdIn (bytes s) i k v f)) (fun _ _ _ kv=>9 - (intOf kv).toNat)
   case atStart=>exact ⟨0,0,1,by omega,by omega,by omega,by omega,by omega,rfl,rfl,rfl,rfl,⟨by omega,by rw [hbl.out]; omega,hall.out,by simp [Zad],rfl⟩⟩
   case round =>
    obtain ⟨k,v,f,hk,hik,hv,hf,hf0,rfl,rfl,rfl,rfl,hI⟩:=hrel
    by_cases hgo:k < 9∧i + k < s.size
    ·obtain ⟨g1,g2⟩:=hgo
     have gd1:decide ((k:Int) < 9)=true:=by rw [decide_eq_true_eq]; omega
     have hbk:(bytes s)[i + k]'(by rw [hbl.out]; exact g2)=s[i + k]:=Zjx s g2
     by_cases hd:Zay s[i + k]=true
     ·have HI2:=zh (hI.out.step g1 (by rw [hbl.out]; exact g2) hbk hd)
      have hb:=Zih hd
      have hb2:=HI2.out.bounds
      have e1:IntKind.u8.wrap ((s[i + k].toNat:Int) - 48)=((s[i + k].toNat - 48:Nat):Int):=by rw [IntKind.wrap_u8]; omega
      have e1':((s[i + k].toNat:Int) - 48) % 256=((s[i + k].toNat - 48:Nat):Int):=by omega
      obtain ⟨d,ed⟩:∃ d,s[i + k].toNat - 48=d:=⟨_,rfl⟩
      have hd9:d≤9:=by omega
      rw [ed] at HI2 e1 e1' hb2
      have hv2:=hb2.2.1
      have hf2:=hb2.2.2.1
      have x1:(i:Int) + (k:Int) < (s.size:Int):=by omega
      have x2:(0:Int)≤(i:Int) + (k:Int):=by omega
      have x3:(48:Int)≤(s[i + k].toNat:Int):=by omega
      have x4:¬ ((s[i + k].toNat:Int) < 48):=by omega
      have x5:¬ ((57:Int) < (s[i + k].toNat:Int)):=by omega
      have x6:decide ((s[i + k].toNat:Int) < 48)=false:=by rw [decide_eq_false_iff_not]; omega
      have x7:decide ((57:Int) < (s[i + k].toNat:Int))=false:=by rw [decide_eq_false_iff_not]; omega
      have x8:((i:Int) + (k:Int)).toNat=i + k:=by omega
      clear hb2 hbk ed hd
      go_wp2
      go_round
      case rel=>exact ⟨k + 1,v * 10 + d,f * 10,by omega,by omega,hv2,hf2,by omega,by go_num,by go_num,by go_num,by go_num,HI2⟩
      case measure=>simp [intOf]; omega
     ·have hno:Hid ((bytes s).all Zay=false):=Zs6 (by rw [hbl.out]; exact g2) (by rw [hbk]; simpa using hd)
      have HBx:=zh (HB.out.ext hF.out)
      have HEx:=zh (HE.out.trans hF.out)
      obtain ⟨z0,z1,z2,z3⟩:=HBx.out.cell2
      have x1:(i:Int) + (k:Int) < (s.size:Int):=by omega
      have x2:(0:Int)≤(i:Int) + (k:Int):=by omega
      have x8:((i:Int) + (k:Int)).toNat=i + k:=by omega
      have hFin:Hid (∀ tmps:Array Value,tmps[2]? = some (.pointer (some ⟨w.heap.size,0,none⟩))→tmps[3]? = some (.bool false)→bodyPost Tryz.prog Tryz.f172 (ZkQ w (bytes s)) .ret ⟨tmps,[]⟩ ((wr.setCell ⟨w.heap.size,0,none⟩ (.bool false)).setCell ⟨w.heap.size,1,none⟩ (.slice none 0 0))):=by
       intro tmps h2 h3
       have hFs:Fr (fun i=>i=w.heap.size) wr ((wr.setCell ⟨w.heap.size,0,none⟩ (.bool false)).setCell ⟨w.heap.size,1,none⟩ (.slice none 0 0)):=((Fr.refl (fun i=>i=w.heap.size) _).setCell (p:=⟨w.heap.size,0,none⟩) (Or.inl rfl) _).setCell (p:=⟨w.heap.size,1,none⟩) (Or.inl rfl) _
       refine ZnE rfl h2 h3 ((HBx.out.set_ 0 _).set_ 1 _) ?_ (by rw [hno.out]; rfl) (HEx.out.next hFs (fun i hi e=>by omega))
       rw [hno.out]; exact Zap.nil _
      by_cases hlo:s[i + k].toNat < 48
      ·have x3:(s[i + k].toNat:Int) < 48:=by omega
       have x6:decide ((s[i + k].toNat:Int) < 48)=true:=by rw [decide_eq_true_eq]; omega
       clear hbk hd hno
       go_wp2
       exact hFin.out _ rfl rfl
      ·have hhi:57 < s[i + k].toNat:=by
        have:Zay s[i + k]=false:=by simpa using hd
        unfold Zay at this
        simp at this
        omega
       have x3:¬ ((s[i + k].toNat:Int) < 48):=by omega
       have x4:(57:Int) < (s[i + k].toNat:Int):=by omega
       have x6:decide ((s[i + k].toNat:Int) < 48)=false:=by rw [decide_eq_false_iff_not]; omega
       have x7:decide ((57:Int) < (s[i + k].toNat:Int))=true:=by rw [decide_eq_true_eq]; omega
       clear hbk hd hno
       go_wp2
       exact hFin.out _ rfl rfl
    ·have hk1:1≤k:=by
      rcases Nat.eq_zero_or_pos k with e | e
      ·subst e; exact absurd ⟨by omega,by omega⟩ hgo
      ·exact e
     have hfW:Hid (f < W32):=by unfold Hid; rw [Zaw]; omega
     have hvW:Hid (v < W32):=by unfold Hid; rw [Zaw]; omega
     have hml1:Hid (ml (Zad ((bytes s).take i))≤1048576):=by
      have h1:=Za8 (Zbw _ hall.out)
      rw [List.length_take,hbl.out] at h1
      unfold Hid; omega
     have hmlf:Hid (ml f≤1048576):=by
      have:=ZbK (n:=f) (k:=1)
      rw [Nat.pow_one] at this
      have:=this.2 hfW.out
      unfold Hid; omega
     have hmlv:Hid (ml v≤1048576):=by
      have:=ZbK (n:=v) (k:=1)
      rw [Nat.pow_one] at this
      have:=this.2 hvW.out
      unfold Hid; omega
     have hdone:=zh hI.out.done
     have hall2:Hid (((bytes s).take (i + k)).all Zay=true):=hI.out.2.2.1
     have hml2:Hid (ml (Zad ((bytes s).take i) * f)≤1048576):=by
      have h1:=Za8 (Zbw _ hall2.out)
      rw [List.length_take,hbl.out] at h1
      have h2:=ZcG (show Zad ((bytes s).take i) * f≤Zad ((bytes s).take (i + k)) by have:=hdone.out; omega)
      unfold Hid; omega
     have hF0:Hid (0 < f):=hf0
     by_cases h9:k < 9
     ·have g2:¬ ((i:Int) + (k:Int) < (s.size:Int)):=by omega
      have gd1:decide ((k:Int) < 9)=true:=by rw [decide_eq_true_eq]; omega
      have gd2:decide ((i:Int) + (k:Int) < (s.size:Int))=false:=by rw [decide_eq_false_iff_not]; omega
      clear hgo hI
      go_wp2_with fail
      generalize hwb:World.alloc wr _=w2
      have hO2:Own .u32 166 w2 wr.heap.size [f]:=hwb ▸ Own.new wr 166 .u32 [f] []
      have hF2:Ext wr w2:=hwb ▸ (Fr.refl _ _).alloc _
      clear hwb
      refine (Zd0 _ _ (Zad ((bytes s).take i)) f _ (hM.out.ext hF2) (Zas.one_pos hO2 hfW.out hF0.out) hml1.out hmlf.out).mono ?_
      rintro e w3 ⟨_,rfl,hN3,hF3⟩
      obtain ⟨A3,l3,c3,rfl⟩:=hN3.slice
      have HN3:=zh hN3
      have HF3:=zh ((hF.out.trans hF2).trans hF3)
      clear hN3 hF3 hF2 hO2
      go_wp2_with fail
      generalize hwb:World.alloc w3 _=w4
      have hO4:Own .u32 166 w4 w3.heap.size [v]:=hwb ▸ Own.new w3 166 .u32 [v] []
      have hF4:Ext w3 w4:=hwb ▸ (Fr.refl _ _).alloc _
      clear hwb
      refine (Zbl _ [v] 1 1 _ rfl hO4.shows0 (by simp) (by simp)).mono ?_
      rintro e w5 ⟨rfl,rfl⟩
      have HV4:=zh (Zas.one hO4 hvW.out)
      have HN4:=zh (HN3.out.ext hF4)
      have HF4:=zh (HF3.out.trans hF4)
      clear hO4 hF4 HN3 HF3
      go_wp2_with fail
      refine (Zfs _ _ _ _ _ HN4.out HV4.out hml2.out hmlv.out).mono ?_
      rintro e w6 ⟨_,rfl,hN6,hF6⟩
      rw [hdone.out] at hN6
      obtain ⟨A6,l6,c6,rfl⟩:=hN6.slice
      have HN6:=zh hN6
      have HF6:=zh (HF4.out.trans hF6)
      clear hN6 hF6
      go_wp2
      go_roundw
      case rel=>exact ⟨i + k,A6,l6,c6,by omega,by go_num,rfl,hall2,HN6,HF6⟩
      case measure=>simp [intOf]; omega
     ·have g2:¬ ((k:Int) < 9):=by omega
      have gd1:decide ((k:Int) < 9)=false:=by rw [decide_eq_false_iff_not]; omega
      clear hgo hI
      go_wp2_with fail
      generalize hwb:World.alloc wr _=w2
      have hO2:Own .u32 166 w2 wr.heap.size [f]:=hwb ▸ Own.new wr 166 .u32 [f] []
      have hF2:Ext wr w2:=hwb ▸ (Fr.refl _ _).alloc _
      clear hwb
      refine (Zd0 _ _ (Zad ((bytes s).take i)) f _ (hM.out.ext hF2) (Zas.one_pos hO2 hfW.out hF0.out) hml1.out hmlf.out).mono ?_
      rintro e w3 ⟨_,rfl,hN3,hF3⟩
      obtain ⟨A3,l3,c3,rfl⟩:=hN3.slice
      have HN3:=zh hN3
      have HF3:=zh ((hF.out.trans hF2).trans hF3)
      clear hN3 hF3 hF2 hO2
      go_wp2_with fail
      generalize hwb:World.alloc w3 _=w4
      have hO4:Own .u32 166 w4 w3.heap.size [v]:=hwb ▸ Own.new w3 166 .u32 [v] []
      have hF4:Ext w3 w4:=hwb ▸ (Fr.refl _ _).alloc _
      clear hwb
      refine (Zbl _ [v] 1 1 _ rfl hO4.shows0 (by simp) (by simp)).mono ?_
      rintro e w5 ⟨rfl,rfl⟩
      have HV4:=zh (Zas.one hO4 hvW.out)
      have HN4:=zh (HN3.out.ext hF4)
      have HF4:=zh (HF3.out.trans hF4)
      clear hO4 hF4 HN3 HF3
      go_wp2_with fail
      refine (Zfs _ _ _ _ _ HN4.out HV4.out hml2.out hmlv.out).mono ?_
      rintro e w6 ⟨_,rfl,hN6,hF6⟩
      rw [hdone.out] at hN6
      obtain ⟨A6,l6,c6,rfl⟩:=hN6.slice
      have HN6:=zh hN6
      have HF6:=zh (HF4.out.trans hF6)
      clear hN6 hF6
      go_wp2
      go_roundw
      case rel=>exact ⟨i + k,A6,l6,c6,by omega,by go_num,rfl,hall2,HN6,HF6⟩
      case measure=>simp [intOf]; omega
  ·obtain rfl:i=s.size:=by omega
   have e1:(bytes s).take s.size=bytes s:=List.take_of_length_le (by rw [hbl.out]; exact Nat.le_refl _)
   have HA:Hid ((bytes s).all Zay=true):=by have:=hall.out; rw [e1] at this; exact this
   have HM:Hid (Zas wr (.slice A ln c) (Zad (bytes s))):=by have:=hM.out; rw [e1] at this; exact this
   have HBx:=zh (HB.out.ext hF.out)
   have HEx:=zh (HE.out.trans hF.out)
   have hbe:=zh (ZnF s)
   clear e1 hall hM
   go_wp2_with fail
   refine (ZdV false _ _ _ HM.out).mono ?_
   rintro e w2 ⟨_,rfl,hI,hF2⟩
   obtain ⟨s2,A2,l2,c2,rfl⟩:=hI.shp
   have HI:=zh hI
   have HB':=zh (HBx.out.ext hF2)
   have HE':=zh (HEx.out.trans hF2)
   obtain ⟨k0,k1,k2,k3⟩:=HB'.out.cell2
   clear hI hF2
   go_wp2
   have hFs:Fr (fun i=>i=w.heap.size) w2 ((w2.setCell ⟨w.heap.size,0,none⟩ (.bool s2)).setCell ⟨w.heap.size,1,none⟩ (.slice A2 l2 c2)):=((Fr.refl (fun i=>i=w.heap.size) _).setCell (p:=⟨w.heap.size,0,none⟩) (Or.inl rfl) _).setCell (p:=⟨w.heap.size,1,none⟩) (Or.inl rfl) _
   refine ZnE (b := !s.toList.isEmpty) rfl rfl rfl ((HB'.out.set_ 0 _).set_ 1 _) ?_ (by rw [HA.out,hbe.out]; rfl) (HE'.out.next hFs (fun i hi e=>by omega))
   rw [HA.out]
   exact HI.out.oth HB'.out Zbi hFs
end Go.Proofs.YthlipnahcbcjkaaGreatDoor

namespace Go.Proofs.YthlipnahcbcjkaaGreatDoor
open Go.RowKit
theorem Zfz {q:Rat} {k:Nat} (h:q.num.natAbs < 10 ^ k∧q.den < 10 ^ k) (hk:k≤100000):ZmE q:=⟨Nat.le_trans (Za8 h.1) hk,Nat.le_trans (Za8 h.2) hk⟩
theorem ZmF {k:Nat} {a:Value} {q:Rat} {w:World} (ha:Zaz w a q) (h:q.num.natAbs < 10 ^ k∧q.den < 10 ^ k) (hk:k≤65536):Calls Tryz.prog 29 #[a] w (RetV w (.string ⟨(Zaf q).toArray⟩)) :=
 Zgp a q w ha (Nat.le_trans (Za8 h.1) hk) (Nat.le_trans (Za8 h.2) hk)
end Go.Proofs.YthlipnahcbcjkaaGreatDoor

namespace Go.Proofs.YthlipnahcbcjkaaGreatDoor
open Go.RowKit
def ZaD (c:UInt8):Bool:=c != 47
def Zck (l:List UInt8):Option Rat :=
 if (((ZaF l).2.takeWhile ZaD).all Zay && !((ZaF l).2.takeWhile ZaD).isEmpty)=false then none
 else if (ZaF l).2.drop ((ZaF l).2.takeWhile ZaD).length=[] then
  (if Zaf (((sg (ZaF l).1 (Zad ((ZaF l).2.takeWhile ZaD)):Int)):Rat)=l then some (((sg (ZaF l).1 (Zad ((ZaF l).2.takeWhile ZaD)):Int)):Rat) else none)
 else if (((ZaF l).2.drop (((ZaF l).2.takeWhile ZaD).length + 1)).all Zay && !((ZaF l).2.drop (((ZaF l).2.takeWhile ZaD).length + 1)).isEmpty)=false∨Zad ((ZaF l).2.drop (((ZaF l).2.takeWhile ZaD).length + 1))=0 then none
 else (if Zaf (Rat.divInt (sg (ZaF l).1 (Zad ((ZaF l).2.takeWhile ZaD))) (Zad ((ZaF l).2.drop (((ZaF l).2.takeWhile ZaD).length + 1)):Int))=l then some (Rat.divInt (sg (ZaF l).1 (Zad ((ZaF l).2.takeWhile ZaD))) (Zad ((ZaF l).2.drop (((ZaF l).2.takeWhile ZaD).length + 1)):Int)) else none)
theorem ZpB {l:List UInt8} {q:Rat} (h:Zck l=some q):Zaf q=l:=by
 unfold Zck at h
 split at h
 ·cases h
 split at h
 ·split at h
  ·rename_i e; injection h with h; rw [← h]; exact e
  ·cases h
 split at h
 ·cases h
 ·split at h
  ·rename_i e; injection h with h; rw [← h]; exact e
  ·cases h
theorem Zir {l:List UInt8} (h:l.all Zay=true):l.all ZaD=true:=by
 rw [List.all_eq_true] at *
 intro x hx
 have:=h x hx
 unfold ZaD
 simp
 rintro rfl
 exact absurd this (by decide)
theorem ZpC (q:Rat):Zck (Zaf q)=some q:=by
 by_cases h:q.den=1
 ·have ht:Zaf q=Lib.itoa q.num ++ []:=by unfold Zaf; rw [if_pos h,List.append_nil]
  have hu:=Zgt q.num []
  rw [← ht,List.append_nil] at hu
  obtain ⟨h1,h2⟩:=Zej (Zir (Zdn q.num.natAbs))
  unfold Zck
  rw [hu]
  simp only []
  rw [h1,Zdn,ZeZ,Znh,ZkB h]
  rw [if_neg (by simp [Zbm]),List.drop_of_length_le (Nat.le_refl _),if_pos rfl,if_pos rfl]
 ·have ht:Zaf q=Lib.itoa q.num ++ 47 :: Lib.decDigits q.den:=by unfold Zaf; rw [if_neg h,Zhj]; simp
  have hu:=Zgt q.num (47 :: Lib.decDigits q.den)
  rw [← ht] at hu
  obtain ⟨h1,h2⟩:=ZgL (p:=ZaD) (r:=Lib.decDigits q.den) (c:=47) (Zir (Zdn q.num.natAbs)) (by decide)
  have hd:=q.den_nz
  have hdr:(Lib.decDigits q.num.natAbs ++ 47 :: Lib.decDigits q.den).drop (Lib.decDigits q.num.natAbs).length=47 :: Lib.decDigits q.den:=by simp
  have hdr2:(Lib.decDigits q.num.natAbs ++ 47 :: Lib.decDigits q.den).drop ((Lib.decDigits q.num.natAbs).length + 1)=Lib.decDigits q.den:=by
   rw [← List.drop_drop,hdr]; rfl
  unfold Zck
  rw [hu]
  simp only []
  rw [h1,hdr,hdr2,Zdn,Zdn,ZeZ,ZeZ,Znh,Rat.num_divInt_den]
  rw [if_neg (by simp [Zbm]),if_neg (by simp),if_neg (by simp [Zbm]; exact hd),if_pos rfl]
theorem Zht (l:List UInt8):Zck l=ZaI l:=by
 cases h:Zck l with
 | some q=>rw [← ZpB h]; exact (ZlU q).symm
 | none =>
   cases k:ZaI l with
   | none=>rfl
   | some q =>
     have:=Zie k
     rw [← this,ZpC] at h
     cases h
def ZjN (w:World) (l:List UInt8) (e:Ending) (w':World):Prop :=
 ∃ v ok q,e=.returned (.tuple #[v, .bool ok])∧Ext w w'∧Zaz w' v q∧((ok=true∧ZaI l=some q)∨(ok=false∧ZaI l=none))
theorem ZnG {q:Rat} {s:ByteArray} {b:Bool} (hn:Zck (bytes s)=if Zaf q=bytes s then some q else none) (hb:b=decide (Zaf q=bytes s)):(b=true∧ZaI (bytes s)=some q)∨(b=false∧ZaI (bytes s)=none):=by
 rw [Zht] at hn
 by_cases h:Zaf q=bytes s
 ·rw [if_pos h] at hn; left; exact ⟨by rw [hb,decide_eq_true h],hn⟩
 ·rw [if_neg h] at hn; right; exact ⟨by rw [hb,decide_eq_false h],hn⟩
theorem ZkR (t:ByteArray) (a b:Nat):(t.extract a b).size≤t.size:=by
 rw [← Zah,ZbR,List.length_take,List.length_drop,Zah]; omega
theorem ZhE {l:List UInt8} {k:Nat} (h:(l.take k).all ZaD=true) (hs:∀ h:k < l.length,ZaD l[k]=false) (hk:k≤l.length):k=(l.takeWhile ZaD).length:=by
 rw [(ZfV h hs).1,List.length_take]; omega
theorem ZqL {t:ByteArray} {p:Nat} (hp:p=((bytes t).takeWhile ZaD).length):bytes (t.extract 0 p)=(bytes t).takeWhile ZaD∧bytes (t.extract (p + 1) t.size)=(bytes t).drop (p + 1):=by
 rw [ZbR,ZbR]
 refine ⟨?_,?_⟩
 ·rw [List.drop_zero,Nat.sub_zero,hp]
  have:=List.takeWhile_prefix ZaD (l:=bytes t)
  exact (List.prefix_iff_eq_take.1 this).symm
 ·rw [List.take_of_length_le (by rw [List.length_drop,Zah]; exact Nat.le_refl _)]
theorem ZpD {l t:List UInt8} {neg:Bool} (hu:ZaF l=(neg,t)) (hb:(((t.takeWhile ZaD)).all Zay && !(t.takeWhile ZaD).isEmpty)=false):Zck l=none:=by
 unfold Zck; rw [hu]; simp only []; rw [if_pos hb]
theorem Zot {l t:List UInt8} {neg:Bool} (hu:ZaF l=(neg,t)) (hb:(((t.takeWhile ZaD)).all Zay && !(t.takeWhile ZaD).isEmpty)=true) (hd:t.length≤(t.takeWhile ZaD).length) :
 Zck l=if Zaf ((sg neg (Zad (t.takeWhile ZaD)):Int):Rat)=l then some ((sg neg (Zad (t.takeWhile ZaD)):Int):Rat) else none:=by
 unfold Zck; rw [hu]; simp only []; rw [if_neg (by rw [hb]; simp),if_pos (List.drop_of_length_le hd)]
theorem ZkS {l t:List UInt8} {neg:Bool} (hu:ZaF l=(neg,t)) (hb:(((t.takeWhile ZaD)).all Zay && !(t.takeWhile ZaD).isEmpty)=true) (hd:(t.takeWhile ZaD).length < t.length)
 (h2:((t.drop ((t.takeWhile ZaD).length + 1)).all Zay && !(t.drop ((t.takeWhile ZaD).length + 1)).isEmpty)=false∨Zad (t.drop ((t.takeWhile ZaD).length + 1))=0):Zck l=none:=by
 unfold Zck; rw [hu]; simp only []; rw [if_neg (by rw [hb]; simp),if_neg (fun e=>by have:=congrArg List.length e; simp at this; omega),if_pos h2]
theorem ZpE {l t:List UInt8} {neg:Bool} (hu:ZaF l=(neg,t)) (hb:(((t.takeWhile ZaD)).all Zay && !(t.takeWhile ZaD).isEmpty)=true) (hd:(t.takeWhile ZaD).length < t.length)
 (h2:((t.drop ((t.takeWhile ZaD).length + 1)).all Zay && !(t.drop ((t.takeWhile ZaD).length + 1)).isEmpty)=true) (h3:Zad (t.drop ((t.takeWhile ZaD).length + 1))≠0) :
 Zck l=if Zaf (Rat.divInt (sg neg (Zad (t.takeWhile ZaD))) (Zad (t.drop ((t.takeWhile ZaD).length + 1)):Int))=l then some (Rat.divInt (sg neg (Zad (t.takeWhile ZaD))) (Zad (t.drop ((t.takeWhile ZaD).length + 1)):Int)) else none:=by
 unfold Zck; rw [hu]; simp only []; rw [if_neg (by rw [hb]; simp),if_neg (fun e=>by have:=congrArg List.length e; simp at this; omega),if_neg (fun e=>e.elim (fun e=>by rw [h2] at e; cases e) h3)]
theorem ZoT {x:List UInt8} {s:ByteArray}:((⟨x.toArray⟩:ByteArray).toList == s.toList)=decide (x=bytes s):=by
 rw [Lib.toList_data,Lib.toList_data]
 by_cases h:x=bytes s
 ·rw [decide_eq_true h]; simp [h]
 ·rw [decide_eq_false h]; simpa using h
theorem Zl7 {t:ByteArray} (h:(bytes t).all Zay=true) (hs:t.size≤65536):ml (Zad (bytes t))≤65536:=by
 have:=Za8 (Zbw _ h)
 rw [Zah] at this
 omega
theorem ZpF {neg:Bool} {n:Nat}:(sg neg n).natAbs=n:=by cases neg<;>simp [sg]
theorem ZoU {x y:Int} (hy:y≠0):ml (Rat.divInt x y).num.natAbs≤ml x.natAbs∧ml (Rat.divInt x y).den≤ml y.natAbs:=by
 constructor
 ·refine ZcG ?_
  rw [Rat.num_divInt,Int.natAbs_ediv_of_dvd]
  ·refine Nat.le_trans (Nat.div_le_self _ _) ?_
   rw [Int.natAbs_mul]
   rcases Int.lt_or_gt_of_ne hy with h | h
   ·rw [Int.sign_eq_neg_one_of_neg h]; simp
   ·rw [Int.sign_eq_one_of_pos h]; simp
  ·exact Int.dvd_mul_of_dvd_right (Int.gcd_dvd_right _ _)
 ·refine ZcG ?_
  rw [Rat.den_divInt,if_neg hy]
  exact Nat.div_le_self _ _
theorem ZrY {s:ByteArray} (h:¬ bytes s=[]):∃ c,(bytes s).head? = some c∧s[0]? = some c:=by
 obtain ⟨h1,_⟩:=Zet h
 exact ⟨s[0],Zge h1,by simp [h1]⟩
theorem ZnH {s:ByteArray} (h:¬ bytes s=[]):1≤s.size:=(Zet h).1
theorem ZnI {s:ByteArray} {c:UInt8} (h:(bytes s).head? = some c) (hc:c=45):ZaF (bytes s)=(true,bytes (s.extract 1 s.size)):=by
 unfold ZaF
 rw [h,hc,if_pos rfl,ZbR,List.take_of_length_le (by rw [List.length_drop,Zah]; exact Nat.le_refl _),List.drop_one]
theorem Zou {s:ByteArray} {c:UInt8} (h:(bytes s).head? = some c) (hc:¬ c=45):ZaF (bytes s)=(false,bytes s):=by
 unfold ZaF
 rw [h,if_neg (by simpa using hc)]
theorem Zsn {c b:UInt8} (h:c=b):((c.toNat:Int) == (b.toNat:Int))=true:=by subst h; simp
theorem Zso {c b:UInt8} (h:¬ c=b):((c.toNat:Int) == (b.toNat:Int))=false:=by
 have:c.toNat≠b.toNat:=fun e=>h (UInt8.toNat_inj.1 e)
 simp; omega
theorem ZtT {a b:Nat} (h:a < b):decide (((a:Nat):Int) < ((b:Nat):Int))=true:=decide_eq_true (by omega)
theorem Zs7 {a b:Nat} (h:¬ a < b):decide (((a:Nat):Int) < ((b:Nat):Int))=false:=decide_eq_false (by omega)
theorem Zis {a:Nat} (h:a≤1000000):IntKind.i64.wrap (((a:Nat):Int) + 1)=((a + 1:Nat):Int):=by rw [IntKind.wrap_i64]; omega
theorem ZrZ {n:Nat} (h:n=0):(((n:Int).sign:Int) == 0)=true:=by subst h; rfl
theorem ZqM {n:Nat} (h:¬ n=0):(((n:Int).sign:Int) == 0)=false:=by
 rw [beq_eq_false_iff_ne]; exact fun e=>h (by have:=Int.sign_eq_zero_iff_zero.1 e; omega)
theorem ZoV {w w':World} {e:Ending} {l:List UInt8} (h:ZkQ w l e w') (hd:l.all Zay=true) (hne:l≠[]):Zby (fun x:ShI=>.tuple #[Zam x, .bool true]) (fun x w=>Zap w (Zam x) (Zad l:Int)) w e w':=by
 obtain ⟨v,b,rfl,rfl,hI,Q⟩:=h
 rw [if_pos hd] at hI
 obtain ⟨s,A,l',c,rfl⟩:=hI.shp
 refine ⟨(s,A,l',c),?_,Q,boxn Q (fun S w'' hS hF=>hI.nrb hS hF)⟩
 rw [hd,show l.isEmpty=false by simpa using hne]; rfl
theorem ZfA {P:Program} {o:Oper} {ρ:Operand→Value} {w:World} {t:TypeId} {x i:Operand} {b:ByteArray} {k:Nat} {c:UInt8} (ho:o.op=Op.index t x i) (ht:P.underlying t=some .string) (hx:ρ x=.string b) (hi:ρ i=.int .i64 (k:Int)) (hc:b[k]? = some c):(execOp ρ o).run P w=.ok (.value (.int .u8 (c.toNat:Int))) w:=by
 simp [execOp,ho,Instr.index,asIntOf,underlying,ht,hx,hi,hc,Result.andThen]
theorem ZnJ {w w':World} {e:Ending} {l:List UInt8} (h:ZkQ w l e w') (hb:¬ (l.all Zay && !l.isEmpty)=true):Zby (fun x:ShI=>.tuple #[Zam x, .bool false]) (fun _ _=>True) w e w':=by
 obtain ⟨v,b,rfl,rfl,hI,Q⟩:=h
 obtain ⟨s,A,l',c,rfl⟩:=hI.shp
 exact ⟨(s,A,l',c),by rw [Bool.eq_false_iff.2 hb]; rfl,Q,BoxN.pure trivial⟩
theorem Zl8 {l:List UInt8} (h:(l.all Zay && !l.isEmpty)=true):l.all Zay=true∧l≠[]:=by
 rw [Bool.and_eq_true] at h
 exact ⟨h.1,fun e=>by rw [e] at h; simp at h⟩
theorem Zaz.whole {w:World} {s:Bool} {A:Option Addr} {l c:Nat} {z:Int} (h:Zap w (.agg #[.bool s, .slice A l c]) z):Zaz w (.agg #[.bool s, .slice A l c, .bool false, .slice none 0 0]) ((z:Int):Rat) :=
 Zaz.of h (by rw [ZbU (by rfl)]; exact Zap.nil _)
theorem ZqN {z:Int} (h:ml z.natAbs≤65536):ZaT z:=nfit h (by decide)
theorem ZpG {n:Nat} (h:¬ n=0):((n:Nat):Int)≠0:=by omega
theorem Zs8:ml (1:Nat)≤65536:=Nat.le_trans (ZbK.2 (by rw [Zaw]; decide):ml 1≤1) (by decide)
theorem Zs9 {t:ByteArray} {i:Nat} {c:UInt8} (hI:((bytes t).take i).all ZaD=true) (hc:t[i]? = some c) (h:¬ c=47):((bytes t).take (i + 1)).all ZaD=true:=by
 have hi:i < t.size:=by
  rcases Nat.lt_or_ge i t.size with h' | h'
  ·exact h'
  ·rw [getElem?_neg t i (by omega)] at hc; cases hc
 have hc':t[i]=c:=by
  rw [getElem?_pos t i hi] at hc; exact Option.some.inj hc
 rw [Zh1 t i hi,List.all_append,hI,hc']
 simp [ZaD,h]
theorem ZtU {t:ByteArray} {i:Nat} {c:UInt8} (hI:((bytes t).take i).all ZaD=true) (hc:t[i]? = some c) (h:c=47) (hi:i≤t.size):i=((bytes t).takeWhile ZaD).length:=by
 refine ZhE hI (fun hlt=>?_) (by rw [Zah]; exact hi)
 have hi':i < t.size:=by rw [← Zah]; exact hlt
 rw [getElem?_pos t i hi'] at hc
 have:(bytes t)[i]=47:=(Option.some.inj hc).trans h
 rw [this]; rfl
theorem ZtV {t:ByteArray} (hI:((bytes t).take t.size).all ZaD=true):t.size=((bytes t).takeWhile ZaD).length :=
 ZhE hI (fun h=>by rw [Zah] at h; omega) (by rw [Zah]; exact Nat.le_refl _)
theorem ZeA (s:ByteArray) (w:World) (hs:s.size≤65536) :
 Calls Tryz.prog 94 #[.string s] w (ZjN w (bytes s)):=by
 refine ZaB (Φ:=fun w=>True) Tryz.func94 rfl (by kernel_rfl) (fun w' hf=>trivial) ?_
 refine Zac (Zab (xr 2 [(0, .v (.string s)),(2, .p 2 0),(3, .v (.bool false))] [bR4 2 45 false none 0 0 false none 0 0] ?_))
 refine xe (Zaa (Zac (Zab (xr 2 [(0, .v (.string s)),(2, .p 2 0),(3, .v (.bool false)),(4, .v (.string s))] [bR4 2 45 false none 0 0 false none 0 0] ?_))))
 refine xe (Zaa ?_)
 refine Znu (fun ss ff=>∃ (b:Bool),ss=ofL [(0, .v (.string s)),(2, .p 2 0),(3, .v (.bool false)),(4, .v (.string s)),(5, .v (.bool b))] [(2,45,[.v (.bool false), .v (.slice none 0 0), .v (.bool false), .v (.slice none 0 0)])]∧ff=(fun w=>True)∧((b=true→ZaF (bytes s)=(true,bytes (s.extract 1 s.size))∧1≤s.size)∧(b=false→ZaF (bytes s)=(false,bytes s)))) ?_ ?_
 ·by_cases he:bytes s=[]
  ·have hs0:s.size=0:=by rw [← Zah,he]; rfl
   refine Zab (xr 3 [(0, .v (.string s)),(2, .p 2 0),(3, .v (.bool false)),(4, .v (.string s)),(16, .v (.bool (decide (((s).size:Int) > 0))))] [bR4 2 45 false none 0 0 false none 0 0] ?_)
   rw [(show decide (((s).size:Int) > 0)=false from decide_eq_false (by omega))]
   refine xr 6 [(0, .v (.string s)),(2, .p 2 0),(3, .v (.bool false)),(4, .v (.string s)),(5, .v (.bool false))] [bR4 2 45 false none 0 0 false none 0 0] ?_
   refine xe ?_
   refine SXq.weak [(0, .v (.string s)),(2, .p 2 0),(3, .v (.bool false)),(4, .v (.string s)),(5, .v (.bool false))] [(2,45,[.v (.bool false), .v (.slice none 0 0), .v (.bool false), .v (.slice none 0 0)])] (Ψ:=fun w=>True) (Zb8.of (by kernel_rfl)) (by kernel_rfl) (fun w Q=>trivial) ?_
   exact Ze2 ⟨false,rfl,rfl,⟨fun h=>(by cases h),fun _=>(by unfold ZaF; rw [he]; rfl)⟩⟩
  ·obtain ⟨c0,h0,hc0⟩:=ZrY he
   have hs0:=ZnH he
   by_cases hm:c0=45
   ·refine Zab (xr 3 [(0, .v (.string s)),(2, .p 2 0),(3, .v (.bool false)),(4, .v (.string s)),(16, .v (.bool (decide (((s).size:Int) > 0))))] [bR4 2 45 false none 0 0 false none 0 0] ?_)
    rw [(show decide (((s).size:Int) > 0)=true from decide_eq_true (by omega))]
    refine xr 2 [(0, .v (.string s)),(2, .p 2 0),(3, .v (.bool false)),(4, .v (.string s)),(17, .v (.bool true)),(18, .v (.string s))] [bR4 2 45 false none 0 0 false none 0 0] ?_
    refine Zb9 19 (.int .u8 (c0.toNat:Int)) (by kernel_rfl) (by kernel_rfl) (by kernel_rfl) (by kernel_rfl) (by kernel_rfl) (by kernel_rfl) (fun w R Q=>ZfA (t:=9) (x:=.tmp 18) (k:=0) (i:=.const (.int .i64 0)) (by kernel_rfl) (by kernel_rfl) (by kernel_rfl) (by rfl) hc0) ?_
    refine xr 1 [(0, .v (.string s)),(2, .p 2 0),(3, .v (.bool false)),(4, .v (.string s)),(17, .v (.bool true)),(20, .v (.bool (((c0.toNat:Int):Int) == 45)))] [bR4 2 45 false none 0 0 false none 0 0] ?_
    rw [(show ((c0.toNat:Int) == 45)=true from Zsn hm)]
    refine xr 2 [(0, .v (.string s)),(2, .p 2 0),(3, .v (.bool false)),(4, .v (.string s)),(5, .v (.bool true))] [bR4 2 45 false none 0 0 false none 0 0] ?_
    refine xe ?_
    refine SXq.weak [(0, .v (.string s)),(2, .p 2 0),(3, .v (.bool false)),(4, .v (.string s)),(5, .v (.bool true))] [(2,45,[.v (.bool false), .v (.slice none 0 0), .v (.bool false), .v (.slice none 0 0)])] (Ψ:=fun w=>True) (Zb8.of (by kernel_rfl)) (by kernel_rfl) (fun w Q=>trivial) ?_
    exact Ze2 ⟨true,rfl,rfl,⟨fun _=>⟨ZnI h0 hm,ZnH he⟩,fun h=>(by cases h)⟩⟩
   ·refine Zab (xr 3 [(0, .v (.string s)),(2, .p 2 0),(3, .v (.bool false)),(4, .v (.string s)),(16, .v (.bool (decide (((s).size:Int) > 0))))] [bR4 2 45 false none 0 0 false none 0 0] ?_)
    rw [(show decide (((s).size:Int) > 0)=true from decide_eq_true (by omega))]
    refine xr 2 [(0, .v (.string s)),(2, .p 2 0),(3, .v (.bool false)),(4, .v (.string s)),(17, .v (.bool true)),(18, .v (.string s))] [bR4 2 45 false none 0 0 false none 0 0] ?_
    refine Zb9 19 (.int .u8 (c0.toNat:Int)) (by kernel_rfl) (by kernel_rfl) (by kernel_rfl) (by kernel_rfl) (by kernel_rfl) (by kernel_rfl) (fun w R Q=>ZfA (t:=9) (x:=.tmp 18) (k:=0) (i:=.const (.int .i64 0)) (by kernel_rfl) (by kernel_rfl) (by kernel_rfl) (by rfl) hc0) ?_
    refine xr 1 [(0, .v (.string s)),(2, .p 2 0),(3, .v (.bool false)),(4, .v (.string s)),(17, .v (.bool true)),(20, .v (.bool (((c0.toNat:Int):Int) == 45)))] [bR4 2 45 false none 0 0 false none 0 0] ?_
    rw [(show ((c0.toNat:Int) == 45)=false from Zso (b:=45) hm)]
    refine xr 2 [(0, .v (.string s)),(2, .p 2 0),(3, .v (.bool false)),(4, .v (.string s)),(5, .v (.bool false))] [bR4 2 45 false none 0 0 false none 0 0] ?_
    refine xe ?_
    refine SXq.weak [(0, .v (.string s)),(2, .p 2 0),(3, .v (.bool false)),(4, .v (.string s)),(5, .v (.bool false))] [(2,45,[.v (.bool false), .v (.slice none 0 0), .v (.bool false), .v (.slice none 0 0)])] (Ψ:=fun w=>True) (Zb8.of (by kernel_rfl)) (by kernel_rfl) (fun w Q=>trivial) ?_
    exact Ze2 ⟨false,rfl,rfl,⟨fun h=>(by cases h),fun _=>Zou h0 hm⟩⟩
 ·rintro ss ff ⟨b,rfl,rfl,HB⟩
  refine Znu (fun ss ff=>∃ (t:ByteArray) (ng:Bool),ss=ofL [(0, .v (.string s)),(2, .p 2 0),(3, .v (.bool false)),(4, .v (.string t)),(5, .v (.bool ng))] [(2,45,[.v (.bool false), .v (.slice none 0 0), .v (.bool false), .v (.slice none 0 0)])]∧ff=(fun w=>True)∧(ZaF (bytes s)=(ng,bytes t))∧(t.size≤65536)) ?_ ?_
  ·refine Zac (Zab (xr 1 [(0, .v (.string s)),(2, .p 2 0),(3, .v (.bool false)),(4, .v (.string s)),(5, .v (.bool b)),(22, .v (.bool b))] [bR4 2 45 false none 0 0 false none 0 0] ?_))
   refine xe (Zaa ?_)
   refine ZcF (b) (by kernel_rfl) (fun hb10=>?_) (fun hb10=>?_)
   ·have hbb:=hb10
    obtain ⟨HM0,hsz⟩:=HB.1 hbb
    obtain ⟨t,ht⟩:∃ t,s.extract 1 s.size=t:=⟨_,rfl⟩
    rw [ht] at HM0
    have lt:t.size≤65536:=by rw [← ht,ByteArray.size_extract]; omega
    refine Zab (xr 1 [(0, .v (.string s)),(2, .p 2 0),(3, .v (.bool false)),(4, .v (.string s)),(5, .v (.bool b)),(23, .v (.string s))] [bR4 2 45 false none 0 0 false none 0 0] ?_)
    refine Zb9 24 (.string t) (by kernel_rfl) (by kernel_rfl) (by kernel_rfl) (by kernel_rfl) (by kernel_rfl) (by kernel_rfl) (fun w R Q=>ZcQ 1 _ (t:=9) (x:=(Operand.tmp 23)) (lo:=(some (Operand.const (Value.int IntKind.i64 1)))) (hi:=none) (by kernel_rfl) (by kernel_rfl) (by kernel_rfl) (Or.inr rfl) (Or.inl ⟨rfl,rfl⟩) hsz (Nat.le_refl _) ht) ?_
    refine xr 1 [(0, .v (.string s)),(2, .p 2 0),(3, .v (.bool false)),(4, .v (.string t)),(5, .v (.bool b))] [bR4 2 45 false none 0 0 false none 0 0] ?_
    refine xe ?_
    refine SXq.weak [(0, .v (.string s)),(2, .p 2 0),(3, .v (.bool false)),(4, .v (.string t)),(5, .v (.bool b))] [(2,45,[.v (.bool false), .v (.slice none 0 0), .v (.bool false), .v (.slice none 0 0)])] (Ψ:=fun w=>True) (Zb8.of (by kernel_rfl)) (by kernel_rfl) (fun w Q=>trivial) ?_
    exact Ze2 ⟨t,b,rfl,rfl,(by rw [hbb]; exact HM0),lt⟩
   ·have hbb:=hb10
    refine ZaA ?_
    refine SXq.weak [(0, .v (.string s)),(2, .p 2 0),(3, .v (.bool false)),(4, .v (.string s)),(5, .v (.bool b))] [(2,45,[.v (.bool false), .v (.slice none 0 0), .v (.bool false), .v (.slice none 0 0)])] (Ψ:=fun w=>True) (Zb8.of (by kernel_rfl)) (by kernel_rfl) (fun w Q=>trivial) ?_
    exact Ze2 ⟨s,b,rfl,rfl,(by rw [hbb]; exact HB.2 hbb),hs⟩
  ·rintro ss ff ⟨t,ng,rfl,rfl,HM,lt⟩
   refine Zac (Zab (xr 3 [(0, .v (.string s)),(2, .p 2 0),(3, .v (.bool false)),(4, .v (.string t)),(5, .v (.bool ng)),(6, .v (.int .i64 ((t).size:Int)))] [bR4 2 45 false none 0 0 false none 0 0] ?_))
   refine xe (Zaa ?_)
   refine Znu (fun ss ff=>∃ (p:Nat),ss=ofL [(0, .v (.string s)),(2, .p 2 0),(3, .v (.bool false)),(4, .v (.string t)),(5, .v (.bool ng)),(6, .v (.int .i64 ((p:Nat):Int)))] [(2,45,[.v (.bool false), .v (.slice none 0 0), .v (.bool false), .v (.slice none 0 0)])]∧ff=(fun w=>True)∧(p=((bytes t).takeWhile ZaD).length)∧(p≤t.size)) ?_ ?_
   ·refine Zac (Zab (xr 1 [(0, .v (.string s)),(2, .p 2 0),(3, .v (.bool false)),(4, .v (.string t)),(5, .v (.bool ng)),(6, .v (.int .i64 ((t).size:Int))),(7, .v (.int .i64 0))] [bR4 2 45 false none 0 0 false none 0 0] ?_))
    refine xe (Zaa (ZbD ?_))
    refine SXc.weak [(0, .v (.string s)),(2, .p 2 0),(3, .v (.bool false)),(4, .v (.string t)),(5, .v (.bool ng)),(6, .v (.int .i64 ((t).size:Int))),(7, .v (.int .i64 ((0:Nat):Int)))] [(2,45,[.v (.bool false), .v (.slice none 0 0), .v (.bool false), .v (.slice none 0 0)])] (Ψ:=fun w=>True) (Zb8.of (by kernel_rfl)) (by kernel_rfl) (fun w Q=>trivial) ?_
    refine ZiH (fun nn ss ff=>∃ (i:Nat),ss=ofL [(0, .v (.string s)),(2, .p 2 0),(3, .v (.bool false)),(4, .v (.string t)),(5, .v (.bool ng)),(6, .v (.int .i64 ((t).size:Int))),(7, .v (.int .i64 ((i:Nat):Int)))] [(2,45,[.v (.bool false), .v (.slice none 0 0), .v (.bool false), .v (.slice none 0 0)])]∧ff=(fun w=>True)∧(i≤t.size)∧(((bytes t).take i).all ZaD=true)∧nn=t.size - i) (t.size - 0) ⟨0,rfl,rfl,(Nat.zero_le _),rfl,rfl⟩ ?_
    rintro nn ss ff ⟨i,rfl,rfl,hi,hI,rfl⟩
    refine Zac (Zac (Zab (xr 4 [(0, .v (.string s)),(2, .p 2 0),(3, .v (.bool false)),(4, .v (.string t)),(5, .v (.bool ng)),(6, .v (.int .i64 ((t).size:Int))),(7, .v (.int .i64 ((i:Nat):Int))),(30, .v (.bool (decide (((i:Nat):Int) < ((t).size:Int)))))] [bR4 2 45 false none 0 0 false none 0 0] ?_)))
    refine xe (Zaa ?_)
    refine ZcF ((decide (((i:Nat):Int) < ((t).size:Int)))) (by kernel_rfl) (fun hb11=>?_) (fun hb11=>?_)
    ·have hlt:i < t.size:=by have:=of_decide_eq_true hb11; omega
     obtain ⟨c,hc⟩:∃ c,t[i]? = some c:=⟨t[i],by simp [hlt]⟩
     refine ZaA (Zaa (Zac (ZbD (Zac ?_))))
     by_cases h47:c=47
     ·refine Zab (xr 2 [(0, .v (.string s)),(2, .p 2 0),(3, .v (.bool false)),(4, .v (.string t)),(5, .v (.bool ng)),(6, .v (.int .i64 ((t).size:Int))),(7, .v (.int .i64 ((i:Nat):Int))),(33, .v (.string t)),(34, .v (.int .i64 ((i:Nat):Int)))] [bR4 2 45 false none 0 0 false none 0 0] ?_)
      refine Zb9 35 (.int .u8 (c.toNat:Int)) (by kernel_rfl) (by kernel_rfl) (by kernel_rfl) (by kernel_rfl) (by kernel_rfl) (by kernel_rfl) (fun w R Q=>ZfA (t:=9) (x:=.tmp 33) (k:=i) (i:=.tmp 34) (by kernel_rfl) (by kernel_rfl) (by kernel_rfl) (by kernel_rfl) hc) ?_
      refine xr 1 [(0, .v (.string s)),(2, .p 2 0),(3, .v (.bool false)),(4, .v (.string t)),(5, .v (.bool ng)),(6, .v (.int .i64 ((t).size:Int))),(7, .v (.int .i64 ((i:Nat):Int))),(36, .v (.bool (((c.toNat:Int):Int) == 47)))] [bR4 2 45 false none 0 0 false none 0 0] ?_
      rw [(show ((c.toNat:Int) == 47)=true from Zsn h47)]
      refine xr 0 [(0, .v (.string s)),(2, .p 2 0),(3, .v (.bool false)),(4, .v (.string t)),(5, .v (.bool ng)),(6, .v (.int .i64 ((t).size:Int))),(7, .v (.int .i64 ((i:Nat):Int))),(36, .v (.bool true))] [bR4 2 45 false none 0 0 false none 0 0] ?_
      refine xe (Zaa (xa (Zac (Zab (xr 2 [(0, .v (.string s)),(2, .p 2 0),(3, .v (.bool false)),(4, .v (.string t)),(5, .v (.bool ng)),(6, .v (.int .i64 ((i:Nat):Int))),(7, .v (.int .i64 ((i:Nat):Int)))] [bR4 2 45 false none 0 0 false none 0 0] ?_)))))
      refine xe (Zaa (Zlk ?_))
      refine ZsK (by kernel_rfl) ?_
      refine Zdo (Zdo (Znb ?_))
      refine SXq.weak [(0, .v (.string s)),(2, .p 2 0),(3, .v (.bool false)),(4, .v (.string t)),(5, .v (.bool ng)),(6, .v (.int .i64 ((i:Nat):Int)))] [(2,45,[.v (.bool false), .v (.slice none 0 0), .v (.bool false), .v (.slice none 0 0)])] (Ψ:=fun w=>True) (Zb8.of (by kernel_rfl)) (by kernel_rfl) (fun w Q=>trivial) ?_
      exact Ze2 ⟨i,rfl,rfl,ZtU hI hc h47 hi,hi⟩
     ·refine Zab (xr 2 [(0, .v (.string s)),(2, .p 2 0),(3, .v (.bool false)),(4, .v (.string t)),(5, .v (.bool ng)),(6, .v (.int .i64 ((t).size:Int))),(7, .v (.int .i64 ((i:Nat):Int))),(33, .v (.string t)),(34, .v (.int .i64 ((i:Nat):Int)))] [bR4 2 45 false none 0 0 false none 0 0] ?_)
      refine Zb9 35 (.int .u8 (c.toNat:Int)) (by kernel_rfl) (by kernel_rfl) (by kernel_rfl) (by kernel_rfl) (by kernel_rfl) (by kernel_rfl) (fun w R Q=>ZfA (t:=9) (x:=.tmp 33) (k:=i) (i:=.tmp 34) (by kernel_rfl) (by kernel_rfl) (by kernel_rfl) (by kernel_rfl) hc) ?_
      refine xr 1 [(0, .v (.string s)),(2, .p 2 0),(3, .v (.bool false)),(4, .v (.string t)),(5, .v (.bool ng)),(6, .v (.int .i64 ((t).size:Int))),(7, .v (.int .i64 ((i:Nat):Int))),(36, .v (.bool (((c.toNat:Int):Int) == 47)))] [bR4 2 45 false none 0 0 false none 0 0] ?_
      rw [(show ((c.toNat:Int) == 47)=false from Zso (b:=47) h47)]
      refine xr 0 [(0, .v (.string s)),(2, .p 2 0),(3, .v (.bool false)),(4, .v (.string t)),(5, .v (.bool ng)),(6, .v (.int .i64 ((t).size:Int))),(7, .v (.int .i64 ((i:Nat):Int))),(36, .v (.bool false))] [bR4 2 45 false none 0 0 false none 0 0] ?_
      refine xe (Zaa (xb (ZaA (ZeM (Zaa (Zab (xr 2 [(0, .v (.string s)),(2, .p 2 0),(3, .v (.bool false)),(4, .v (.string t)),(5, .v (.bool ng)),(6, .v (.int .i64 ((t).size:Int))),(7, .v (.int .i64 ((i:Nat):Int))),(32, .v (.int .i64 (IntKind.i64.wrap (((i:Nat):Int) + 1))))] [bR4 2 45 false none 0 0 false none 0 0] ?_)))))))
      rw [Zis (a:=i) (by omega)]
      refine xr 1 [(0, .v (.string s)),(2, .p 2 0),(3, .v (.bool false)),(4, .v (.string t)),(5, .v (.bool ng)),(6, .v (.int .i64 ((t).size:Int))),(7, .v (.int .i64 ((i + 1:Nat):Int)))] [bR4 2 45 false none 0 0 false none 0 0] ?_
      refine xe ?_
      refine SXq.weak [(0, .v (.string s)),(2, .p 2 0),(3, .v (.bool false)),(4, .v (.string t)),(5, .v (.bool ng)),(6, .v (.int .i64 ((t).size:Int))),(7, .v (.int .i64 (((i + 1):Nat):Int)))] [(2,45,[.v (.bool false), .v (.slice none 0 0), .v (.bool false), .v (.slice none 0 0)])] (Ψ:=fun w=>True) (Zb8.of (by kernel_rfl)) (by kernel_rfl) (fun w Q=>trivial) ?_
      exact Zhn (t.size - (i + 1)) (by omega) ⟨(i + 1),rfl,rfl,hlt,Zs9 hI hc h47,rfl⟩
    ·have hie:i=t.size:=by have:=of_decide_eq_false hb11; omega
     refine Zlk (Zdo (Zdo (Znb ?_)))
     refine SXq.weak [(0, .v (.string s)),(2, .p 2 0),(3, .v (.bool false)),(4, .v (.string t)),(5, .v (.bool ng)),(6, .v (.int .i64 ((t.size:Nat):Int)))] [(2,45,[.v (.bool false), .v (.slice none 0 0), .v (.bool false), .v (.slice none 0 0)])] (Ψ:=fun w=>True) (Zb8.of (by kernel_rfl)) (by kernel_rfl) (fun w Q=>trivial) ?_
     exact Ze2 ⟨t.size,rfl,rfl,ZtV (hie ▸ hI),(Nat.le_refl _)⟩
   ·rintro ss ff ⟨p,rfl,rfl,hp,hpt⟩
    refine Zac ?_
    obtain ⟨x,hx⟩:∃ x,t.extract 0 p=x:=⟨_,rfl⟩
    have HX:bytes x=(bytes t).takeWhile ZaD:=by rw [← hx]; exact (ZqL hp).1
    have lx:x.size≤65536:=Nat.le_trans (by rw [← hx]; exact ZkR _ _ _) lt
    by_cases hA:((bytes x).all Zay && !(bytes x).isEmpty)=true
    ·obtain ⟨dx,nx⟩:=Zl8 hA
     have MX:ml ((Zad (bytes x):Nat):Int).natAbs≤65536:=by rw [Int.natAbs_natCast]; exact Zl7 dx lx
     refine Zab (xr 2 [(0, .v (.string s)),(2, .p 2 0),(3, .v (.bool false)),(4, .v (.string t)),(5, .v (.bool ng)),(6, .v (.int .i64 ((p:Nat):Int))),(39, .v (.string t)),(40, .v (.int .i64 ((p:Nat):Int)))] [bR4 2 45 false none 0 0 false none 0 0] ?_)
     refine Zb9 41 (.string x) (by kernel_rfl) (by kernel_rfl) (by kernel_rfl) (by kernel_rfl) (by kernel_rfl) (by kernel_rfl) (fun w R Q=>ZcQ 0 p (t:=9) (x:=(Operand.tmp 39)) (lo:=none) (hi:=(some (Operand.tmp 40))) (by kernel_rfl) (by kernel_rfl) (by kernel_rfl) (Or.inl ⟨rfl,rfl⟩) (Or.inr (by kernel_rfl)) (by omega) hpt hx) ?_
     refine xr 0 [(0, .v (.string s)),(2, .p 2 0),(3, .v (.bool false)),(4, .v (.string t)),(5, .v (.bool ng)),(6, .v (.int .i64 ((p:Nat):Int))),(41, .v (.string x))] [bR4 2 45 false none 0 0 false none 0 0] ?_
     refine xc 172 [.string x] 42 (fun x:ShI=>.tuple #[Zam x, .bool true]) _ (fun w R Q=>(ZdO x _ (by omega)).mono (fun _ _ h=>ZoV h dx nx)) (fun xx=>?_)
     obtain ⟨s12,A12,l12,c12⟩:=xx
     refine xr 6 [(0, .v (.string s)),(2, .p 2 0),(3, .v (.bool false)),(4, .v (.string t)),(5, .v (.bool ng)),(6, .v (.int .i64 ((p:Nat):Int))),(8, .p 8 0),(9, .v (.bool true))] [bI2 8 43 s12 A12 l12 c12,bR4 2 45 false none 0 0 false none 0 0] ?_
     refine xe (Zaa (Zac (Zac (Zab (xr 2 [(0, .v (.string s)),(2, .p 2 0),(3, .v (.bool false)),(4, .v (.string t)),(5, .v (.bool ng)),(6, .v (.int .i64 ((p:Nat):Int))),(8, .p 8 0),(46, .v (.bool false))] [bI2 8 43 s12 A12 l12 c12,bR4 2 45 false none 0 0 false none 0 0] ?_)))))
     refine xe (Zaa (xb (ZaA (Zaa (Zac (Zab (xr 3 [(0, .v (.string s)),(2, .p 2 0),(3, .v (.bool false)),(4, .v (.string t)),(6, .v (.int .i64 ((p:Nat):Int))),(48, .v (.bool ng)),eS1 50 A12 l12 c12] [bR4 2 45 false none 0 0 false none 0 0] ?_)))))))
     refine xc 162 [.bool ng, .slice A12 l12 c12] 51 Zam _ (fun w R Q=>(ZdV _ _ _ _ Q.2.mag).mono (fun _ _ h=>ZaK (by rw [show sg ng ((Zad (bytes x):Int)).natAbs=sg ng (Zad (bytes x)) from by rw [Int.natAbs_natCast]] at h; exact h))) (fun xx=>?_)
     obtain ⟨s13,A13,l13,c13⟩:=xx
     refine xr 3 [(0, .v (.string s)),(2, .p 2 0),(3, .v (.bool false)),(4, .v (.string t)),(6, .v (.int .i64 ((p:Nat):Int))),(10, .p 10 0)] [bR4 10 45 s13 A13 l13 c13 false none 0 0,bR4 2 45 false none 0 0 false none 0 0] ?_
     refine xe (Zaa (Zac (Zac ?_)))
     by_cases hl:p < t.size
     ·obtain ⟨q,hq⟩:∃ q,t.extract (p + 1) t.size=q:=⟨_,rfl⟩
      have HQ:bytes q=(bytes t).drop (p + 1):=by rw [← hq]; exact (ZqL hp).2
      have lq:q.size≤65536:=Nat.le_trans (by rw [← hq]; exact ZkR _ _ _) lt
      refine Zab (xr 4 [(0, .v (.string s)),(2, .p 2 0),(3, .v (.bool false)),(4, .v (.string t)),(6, .v (.int .i64 ((p:Nat):Int))),(10, .p 10 0),(56, .v (.bool (decide (((p:Nat):Int) < ((t).size:Int)))))] [bR4 10 45 s13 A13 l13 c13 false none 0 0,bR4 2 45 false none 0 0 false none 0 0] ?_)
      rw [ZtT hl]
      refine xr 0 [(0, .v (.string s)),(2, .p 2 0),(3, .v (.bool false)),(4, .v (.string t)),(6, .v (.int .i64 ((p:Nat):Int))),(10, .p 10 0),(56, .v (.bool true))] [bR4 10 45 s13 A13 l13 c13 false none 0 0,bR4 2 45 false none 0 0 false none 0 0] ?_
      refine xe (Zaa (xa (Zac ?_)))
      by_cases hQ:((bytes q).all Zay && !(bytes q).isEmpty)=true
      ·obtain ⟨dq,nq⟩:=Zl8 hQ
       have MQ:ml ((Zad (bytes q):Nat):Int).natAbs≤65536:=by rw [Int.natAbs_natCast]; exact Zl7 dq lq
       refine Zab (xr 3 [(0, .v (.string s)),(2, .p 2 0),(3, .v (.bool false)),(10, .p 10 0),(58, .v (.string t)),(60, .v (.int .i64 (IntKind.i64.wrap (((p:Nat):Int) + 1))))] [bR4 10 45 s13 A13 l13 c13 false none 0 0,bR4 2 45 false none 0 0 false none 0 0] ?_)
       rw [Zis (a:=p) (by omega)]
       refine Zb9 61 (.string q) (by kernel_rfl) (by kernel_rfl) (by kernel_rfl) (by kernel_rfl) (by kernel_rfl) (by kernel_rfl) (fun w R Q=>ZcQ (p + 1) _ (t:=9) (x:=(Operand.tmp 58)) (lo:=(some (Operand.tmp 60))) (hi:=none) (by kernel_rfl) (by kernel_rfl) (by kernel_rfl) (Or.inr (by kernel_rfl)) (Or.inl ⟨rfl,rfl⟩) (by omega) (Nat.le_refl _) hq) ?_
       refine xr 0 [(0, .v (.string s)),(2, .p 2 0),(3, .v (.bool false)),(10, .p 10 0),(61, .v (.string q))] [bR4 10 45 s13 A13 l13 c13 false none 0 0,bR4 2 45 false none 0 0 false none 0 0] ?_
       refine xc 172 [.string q] 62 (fun x:ShI=>.tuple #[Zam x, .bool true]) _ (fun w R Q=>(ZdO q _ (by omega)).mono (fun _ _ h=>ZoV h dq nq)) (fun xx=>?_)
       obtain ⟨s14,A14,l14,c14⟩:=xx
       refine xr 6 [(0, .v (.string s)),(2, .p 2 0),(3, .v (.bool false)),(10, .p 10 0),(11, .p 11 0),(12, .v (.bool true))] [bI2 11 43 s14 A14 l14 c14,bR4 10 45 s13 A13 l13 c13 false none 0 0,bR4 2 45 false none 0 0 false none 0 0] ?_
       refine xe (Zaa (Zac (Zac ?_)))
       by_cases hz:Zad (bytes q)=0
       ·refine Zab (xr 4 [(0, .v (.string s)),(2, .p 2 0),(3, .v (.bool false)),(10, .p 10 0),(11, .p 11 0),(67, .v (.bool false)),eI2 68 s14 A14 l14 c14] [bI2 11 43 s14 A14 l14 c14,bR4 10 45 s13 A13 l13 c13 false none 0 0,bR4 2 45 false none 0 0 false none 0 0] ?_)
        refine xc 156 [vI2 s14 A14 l14 c14] 69 (fun _:Unit=>.int .i64 ((Zad (bytes q):Int)).sign) _ (fun w R Q=>(Zgn _ ((Zad (bytes q):Int)) _ Q.2).mono (fun _ _ h=>Zae h rfl)) (fun xx=>?_)
        refine xr 1 [(0, .v (.string s)),(2, .p 2 0),(3, .v (.bool false)),(10, .p 10 0),(11, .p 11 0),(67, .v (.bool false)),(70, .v (.bool ((((Zad (bytes q):Int)).sign:Int) == 0)))] [bI2 11 43 s14 A14 l14 c14,bR4 10 45 s13 A13 l13 c13 false none 0 0,bR4 2 45 false none 0 0 false none 0 0] ?_
        rw [ZrZ hz]
        refine xr 1 [(0, .v (.string s)),(2, .p 2 0),(3, .v (.bool false)),(10, .p 10 0),(11, .p 11 0),(71, .v (.bool true))] [bI2 11 43 s14 A14 l14 c14,bR4 10 45 s13 A13 l13 c13 false none 0 0,bR4 2 45 false none 0 0 false none 0 0] ?_
        refine xe (Zaa (xa (Zac (Zab (xr 3 [(0, .v (.string s)),(2, .p 2 0),(3, .v (.bool false)),(10, .p 10 0),(11, .p 11 0)] [bI2 11 43 s14 A14 l14 c14,bR4 10 45 s13 A13 l13 c13 false none 0 0,bR4 2 45 false none 0 0 false none 0 0] ?_)))))
        refine xe (Zaa (Zan (Zao (Zao ?_))))
        refine Zag (v:=.tuple #[.agg #[.bool false, .slice none 0 0, .bool false, .slice none 0 0], .bool false]) (by kernel_rfl) (fun w' R Q=>?_)
        exact ⟨_,false,0,rfl,R,Zaz.nil _,Or.inr ⟨rfl,by rw [← Zht]; exact ZkS HM (by rw [← HX]; exact hA) (by rw [← hp,Zah]; exact hl) (by rw [← hp,← HQ]; exact Or.inr hz)⟩⟩
       ·refine Zab (xr 4 [(0, .v (.string s)),(2, .p 2 0),(3, .v (.bool false)),(10, .p 10 0),(11, .p 11 0),(67, .v (.bool false)),eI2 68 s14 A14 l14 c14] [bI2 11 43 s14 A14 l14 c14,bR4 10 45 s13 A13 l13 c13 false none 0 0,bR4 2 45 false none 0 0 false none 0 0] ?_)
        refine xc 156 [vI2 s14 A14 l14 c14] 69 (fun _:Unit=>.int .i64 ((Zad (bytes q):Int)).sign) _ (fun w R Q=>(Zgn _ ((Zad (bytes q):Int)) _ Q.2).mono (fun _ _ h=>Zae h rfl)) (fun xx=>?_)
        refine xr 1 [(0, .v (.string s)),(2, .p 2 0),(3, .v (.bool false)),(10, .p 10 0),(11, .p 11 0),(67, .v (.bool false)),(70, .v (.bool ((((Zad (bytes q):Int)).sign:Int) == 0)))] [bI2 11 43 s14 A14 l14 c14,bR4 10 45 s13 A13 l13 c13 false none 0 0,bR4 2 45 false none 0 0 false none 0 0] ?_
        rw [ZqM hz]
        refine xr 1 [(0, .v (.string s)),(2, .p 2 0),(3, .v (.bool false)),(10, .p 10 0),(11, .p 11 0),(71, .v (.bool false))] [bI2 11 43 s14 A14 l14 c14,bR4 10 45 s13 A13 l13 c13 false none 0 0,bR4 2 45 false none 0 0 false none 0 0] ?_
        refine xe (Zaa (xb (ZaA (Zaa (Zab (xr 3 [(0, .v (.string s)),(2, .p 2 0),(3, .v (.bool false)),(10, .p 10 0),eI2 74 s13 A13 l13 c13,eI2 75 s14 A14 l14 c14] [bR4 10 45 s13 A13 l13 c13 false none 0 0,bR4 2 45 false none 0 0 false none 0 0] ?_))))))
        refine xc 82 [vI2 s13 A13 l13 c13,vI2 s14 A14 l14 c14] 76 ZaJ _ (fun w R Q=>(Zip _ _ (sg ng (Zad (bytes x))) ((Zad (bytes q):Int)) _ Q.1.1.2 Q.1.2 (ZqN (by rw [ZpF]; rw [Int.natAbs_natCast] at MX; exact MX)) (ZqN MQ) (ZpG hz)).mono (fun _ _=>ZbE)) (fun xx=>?_)
        obtain ⟨s15,A15,l15,c15,t15,B15,m15,d15⟩:=xx
        refine xr 1 [(0, .v (.string s)),(2, .p 2 0),(3, .v (.bool false)),(10, .p 10 0)] [bR4 10 45 s15 A15 l15 c15 t15 B15 m15 d15,bR4 2 45 false none 0 0 false none 0 0] ?_
        refine xe (Zaa (Zac ?_))
        refine ZaE 7 (by kernel_rfl) (by kernel_rfl) Zaj ?_
        refine xf 2 [(0, .v (.string s)),(2, .p 2 0),(3, .v (.bool false)),eR4 77 s15 A15 l15 c15 t15 B15 m15 d15,eR4 78 s15 A15 l15 c15 t15 B15 m15 d15] [bR4 10 45 s15 A15 l15 c15 t15 B15 m15 d15,bR4 2 45 false none 0 0 false none 0 0] ?_
        refine xd 29 [vR4 s15 A15 l15 c15 t15 B15 m15 d15] 79 (fun _:Unit=>.string ⟨(Zaf (Rat.divInt (sg ng (Zad (bytes x))) ((Zad (bytes q):Int)))).toArray⟩) _ (fun w R Q=>(Zgp _ (Rat.divInt (sg ng (Zad (bytes x))) ((Zad (bytes q):Int))) _ Q.2 (Nat.le_trans (ZoU (ZpG hz)).1 (by rw [ZpF]; rw [Int.natAbs_natCast] at MX; exact MX)) (Nat.le_trans (ZoU (ZpG hz)).2 MQ)).mono (fun _ _ h=>Zae h rfl)) (fun xx=>?_)
        refine xf 4 [(2, .p 2 0),(3, .v (.bool ((⟨(Zaf (Rat.divInt (sg ng (Zad (bytes x))) ((Zad (bytes q):Int)))).toArray⟩:ByteArray).toList == (s:ByteArray).toList)))] [bR4 2 45 s15 A15 l15 c15 t15 B15 m15 d15,bR4 10 45 s15 A15 l15 c15 t15 B15 m15 d15,bR4 2 45 false none 0 0 false none 0 0] ?_
        refine xz (xe (Zaa (Zan ?_)))
        refine Zag (v:=.tuple #[.agg #[.bool s15, .slice A15 l15 c15, .bool t15, .slice B15 m15 d15], .bool ((⟨(Zaf (Rat.divInt (sg ng (Zad (bytes x))) ((Zad (bytes q):Int)))).toArray⟩:ByteArray).toList == (s:ByteArray).toList)]) (by kernel_rfl) (fun w' R Q=>?_)
        exact ⟨_,_,_,rfl,R,Q.1.2,ZnG (by rw [ZpE HM (by rw [← HX]; exact hA) (by rw [← hp,Zah]; exact hl) (by rw [← hp,← HQ]; exact hQ) (by rw [← hp,← HQ]; exact hz),← hp,← HQ,← HX]) ZoT⟩
      ·refine Zab (xr 3 [(0, .v (.string s)),(2, .p 2 0),(3, .v (.bool false)),(10, .p 10 0),(58, .v (.string t)),(60, .v (.int .i64 (IntKind.i64.wrap (((p:Nat):Int) + 1))))] [bR4 10 45 s13 A13 l13 c13 false none 0 0,bR4 2 45 false none 0 0 false none 0 0] ?_)
       rw [Zis (a:=p) (by omega)]
       refine Zb9 61 (.string q) (by kernel_rfl) (by kernel_rfl) (by kernel_rfl) (by kernel_rfl) (by kernel_rfl) (by kernel_rfl) (fun w R Q=>ZcQ (p + 1) _ (t:=9) (x:=(Operand.tmp 58)) (lo:=(some (Operand.tmp 60))) (hi:=none) (by kernel_rfl) (by kernel_rfl) (by kernel_rfl) (Or.inr (by kernel_rfl)) (Or.inl ⟨rfl,rfl⟩) (by omega) (Nat.le_refl _) hq) ?_
       refine xr 0 [(0, .v (.string s)),(2, .p 2 0),(3, .v (.bool false)),(10, .p 10 0),(61, .v (.string q))] [bR4 10 45 s13 A13 l13 c13 false none 0 0,bR4 2 45 false none 0 0 false none 0 0] ?_
       refine xc 172 [.string q] 62 (fun x:ShI=>.tuple #[Zam x, .bool false]) _ (fun w R Q=>(ZdO q _ (by omega)).mono (fun _ _ h=>ZnJ h hQ)) (fun xx=>?_)
       obtain ⟨s16,A16,l16,c16⟩:=xx
       refine xr 6 [(0, .v (.string s)),(2, .p 2 0),(3, .v (.bool false)),(10, .p 10 0),(11, .p 11 0),(12, .v (.bool false))] [bI2 11 43 s16 A16 l16 c16,bR4 10 45 s13 A13 l13 c13 false none 0 0,bR4 2 45 false none 0 0 false none 0 0] ?_
       refine xe (Zaa (Zac (Zac (Zab (xr 7 [(0, .v (.string s)),(2, .p 2 0),(3, .v (.bool false)),(10, .p 10 0),(11, .p 11 0),(71, .v (.bool true))] [bI2 11 43 s16 A16 l16 c16,bR4 10 45 s13 A13 l13 c13 false none 0 0,bR4 2 45 false none 0 0 false none 0 0] ?_)))))
       refine xe (Zaa (xa (Zac (Zab (xr 3 [(0, .v (.string s)),(2, .p 2 0),(3, .v (.bool false)),(10, .p 10 0),(11, .p 11 0)] [bI2 11 43 s16 A16 l16 c16,bR4 10 45 s13 A13 l13 c13 false none 0 0,bR4 2 45 false none 0 0 false none 0 0] ?_)))))
       refine xe (Zaa (Zan (Zao (Zao ?_))))
       refine Zag (v:=.tuple #[.agg #[.bool false, .slice none 0 0, .bool false, .slice none 0 0], .bool false]) (by kernel_rfl) (fun w' R Q=>?_)
       exact ⟨_,false,0,rfl,R,Zaz.nil _,Or.inr ⟨rfl,by rw [← Zht]; exact ZkS HM (by rw [← HX]; exact hA) (by rw [← hp,Zah]; exact hl) (by rw [← hp,← HQ]; exact Or.inl (Bool.eq_false_iff.2 hQ))⟩⟩
     ·refine Zab (xr 4 [(0, .v (.string s)),(2, .p 2 0),(3, .v (.bool false)),(4, .v (.string t)),(6, .v (.int .i64 ((p:Nat):Int))),(10, .p 10 0),(56, .v (.bool (decide (((p:Nat):Int) < ((t).size:Int)))))] [bR4 10 45 s13 A13 l13 c13 false none 0 0,bR4 2 45 false none 0 0 false none 0 0] ?_)
      rw [Zs7 hl]
      refine xr 0 [(0, .v (.string s)),(2, .p 2 0),(3, .v (.bool false)),(4, .v (.string t)),(6, .v (.int .i64 ((p:Nat):Int))),(10, .p 10 0),(56, .v (.bool false))] [bR4 10 45 s13 A13 l13 c13 false none 0 0,bR4 2 45 false none 0 0 false none 0 0] ?_
      refine xe (Zaa (xb (ZaA (Zaa (Zac ?_)))))
      refine ZaE 7 (by kernel_rfl) (by kernel_rfl) Zaj ?_
      refine xf 2 [(0, .v (.string s)),(2, .p 2 0),(3, .v (.bool false)),eR4 77 s13 A13 l13 c13 false none 0 0,eR4 78 s13 A13 l13 c13 false none 0 0] [bR4 10 45 s13 A13 l13 c13 false none 0 0,bR4 2 45 false none 0 0 false none 0 0] ?_
      refine xd 29 [vR4 s13 A13 l13 c13 false none 0 0] 79 (fun _:Unit=>.string ⟨(Zaf (((sg ng (Zad (bytes x)):Int):Rat))).toArray⟩) _ (fun w R Q=>(Zgp _ (((sg ng (Zad (bytes x)):Int):Rat)) _ (Zaz.whole Q.2) (by show ml (sg ng (Zad (bytes x))).natAbs≤_; rw [ZpF]; rw [Int.natAbs_natCast] at MX; exact MX) Zs8).mono (fun _ _ h=>Zae h rfl)) (fun xx=>?_)
      refine xf 4 [(2, .p 2 0),(3, .v (.bool ((⟨(Zaf (((sg ng (Zad (bytes x)):Int):Rat))).toArray⟩:ByteArray).toList == (s:ByteArray).toList)))] [bR4 2 45 s13 A13 l13 c13 false none 0 0,bR4 10 45 s13 A13 l13 c13 false none 0 0,bR4 2 45 false none 0 0 false none 0 0] ?_
      refine xz (xe (Zaa (Zan ?_)))
      refine Zag (v:=.tuple #[.agg #[.bool s13, .slice A13 l13 c13, .bool false, .slice none 0 0], .bool ((⟨(Zaf (((sg ng (Zad (bytes x)):Int):Rat))).toArray⟩:ByteArray).toList == (s:ByteArray).toList)]) (by kernel_rfl) (fun w' R Q=>?_)
      exact ⟨_,_,_,rfl,R,(Zaz.whole Q.1.2),ZnG (by rw [Zot HM (by rw [← HX]; exact hA) (by rw [← hp,Zah]; omega),← HX]) ZoT⟩
    ·refine Zab (xr 2 [(0, .v (.string s)),(2, .p 2 0),(3, .v (.bool false)),(4, .v (.string t)),(5, .v (.bool ng)),(6, .v (.int .i64 ((p:Nat):Int))),(39, .v (.string t)),(40, .v (.int .i64 ((p:Nat):Int)))] [bR4 2 45 false none 0 0 false none 0 0] ?_)
     refine Zb9 41 (.string x) (by kernel_rfl) (by kernel_rfl) (by kernel_rfl) (by kernel_rfl) (by kernel_rfl) (by kernel_rfl) (fun w R Q=>ZcQ 0 p (t:=9) (x:=(Operand.tmp 39)) (lo:=none) (hi:=(some (Operand.tmp 40))) (by kernel_rfl) (by kernel_rfl) (by kernel_rfl) (Or.inl ⟨rfl,rfl⟩) (Or.inr (by kernel_rfl)) (by omega) hpt hx) ?_
     refine xr 0 [(0, .v (.string s)),(2, .p 2 0),(3, .v (.bool false)),(4, .v (.string t)),(5, .v (.bool ng)),(6, .v (.int .i64 ((p:Nat):Int))),(41, .v (.string x))] [bR4 2 45 false none 0 0 false none 0 0] ?_
     refine xc 172 [.string x] 42 (fun x:ShI=>.tuple #[Zam x, .bool false]) _ (fun w R Q=>(ZdO x _ (by omega)).mono (fun _ _ h=>ZnJ h hA)) (fun xx=>?_)
     obtain ⟨s17,A17,l17,c17⟩:=xx
     refine xr 6 [(0, .v (.string s)),(2, .p 2 0),(3, .v (.bool false)),(4, .v (.string t)),(5, .v (.bool ng)),(6, .v (.int .i64 ((p:Nat):Int))),(8, .p 8 0),(9, .v (.bool false))] [bI2 8 43 s17 A17 l17 c17,bR4 2 45 false none 0 0 false none 0 0] ?_
     refine xe (Zaa (Zac (Zac (Zab (xr 2 [(0, .v (.string s)),(2, .p 2 0),(3, .v (.bool false)),(4, .v (.string t)),(5, .v (.bool ng)),(6, .v (.int .i64 ((p:Nat):Int))),(8, .p 8 0),(46, .v (.bool true))] [bI2 8 43 s17 A17 l17 c17,bR4 2 45 false none 0 0 false none 0 0] ?_)))))
     refine xe (Zaa (xa (Zac (Zab (xr 3 [(0, .v (.string s)),(2, .p 2 0),(3, .v (.bool false)),(4, .v (.string t)),(5, .v (.bool ng)),(6, .v (.int .i64 ((p:Nat):Int))),(8, .p 8 0)] [bI2 8 43 s17 A17 l17 c17,bR4 2 45 false none 0 0 false none 0 0] ?_)))))
     refine xe (Zaa (Zan (Zao ?_)))
     refine Zag (v:=.tuple #[.agg #[.bool false, .slice none 0 0, .bool false, .slice none 0 0], .bool false]) (by kernel_rfl) (fun w' R Q=>?_)
     exact ⟨_,false,0,rfl,R,Zaz.nil _,Or.inr ⟨rfl,by rw [← Zht]; exact ZpD HM (by rw [← HX]; exact Bool.eq_false_iff.2 hA)⟩⟩
end Go.Proofs.YthlipnahcbcjkaaGreatDoor

namespace Go.Proofs.YthlipnahcbcjkaaGreatDoor
open Go.RowKit
theorem Zlv {α:Type} (o:Option α):o=none∨∃ x,o=some x:=by cases o; exact Or.inl rfl; exact Or.inr ⟨_,rfl⟩
section
variable {w w':World} {e:Ending} {l:List UInt8}
theorem ZeP (h:ZjN w l e w') (hr:ZaI l=none):Zby (fun x:ShQ=>.tuple #[ZaJ x, .bool false]) (fun x w=>∃ q,Zaz w (ZaJ x) q) w e w':=by
 obtain ⟨v,ok,q,rfl,Q,h2,⟨rfl,h1⟩ | ⟨rfl,h1⟩⟩:=h
 ·rw [hr] at h1; cases h1
 ·obtain ⟨s,A,l,c,t,B,m,d,rfl⟩:=h2.shp
  exact ⟨(s,A,l,c,t,B,m,d),rfl,Q,boxn Q (fun S w'' hS hF=>⟨q,h2.nrb hS hF⟩)⟩
theorem ZeQ {q:Rat} (h:ZjN w l e w') (hr:ZaI l=some q):Zby (fun x:ShQ=>.tuple #[ZaJ x, .bool true]) (fun x w=>Zaz w (ZaJ x) q) w e w':=by
 obtain ⟨v,ok,q',rfl,Q,h2,⟨rfl,h1⟩ | ⟨rfl,h1⟩⟩:=h
 ·rw [hr] at h1; injection h1 with h1; subst h1
  obtain ⟨s,A,l,c,t,B,m,d,rfl⟩:=h2.shp
  exact ⟨(s,A,l,c,t,B,m,d),rfl,Q,boxn Q (fun S w'' hS hF=>h2.nrb hS hF)⟩
 ·rw [hr] at h1; cases h1
theorem lenD {s t:Bool} {A B:Option Addr} {l c m d:Nat} {q:Rat} (h:Zaz w (.agg #[.bool s, .slice A l c, .bool t, .slice B m d]) q):(q.den=1→m=0)∧(¬ q.den=1→0 < m):=⟨fun h1=>h.den.len0 (ZbU h1),fun h1=>h.den.lenp (ZiJ h1)⟩
end
end Go.Proofs.YthlipnahcbcjkaaGreatDoor

namespace Go.Proofs.YthlipnahcbcjkaaGreatDoor
open Go.RowKit
theorem Zdw (s:ByteArray) (w:World) (hs:s.size≤65536) :
 Calls Tryz.prog 31 #[.string s] w (Zex w (valF (bytes s))):=by
 refine ZaB (Φ:=fun w=>True) Tryz.func31 rfl (by kernel_rfl) (fun w' hf=>trivial) ?_
 refine Zac (Zab (xr 1 [(0, .v (.string s)),(2, .p 2 0)] [bR4 2 45 false none 0 0 false none 0 0] ?_))
 refine xe (Zaa (Zac (Zab (xr 1 [(2, .p 2 0),(6, .v (.string s))] [bR4 2 45 false none 0 0 false none 0 0] ?_))))
 rcases Zlv (ZaI (bytes s)) with hr | ⟨q,hr⟩
 ·refine xc 94 [.string s] 7 (fun x:ShQ=>.tuple #[ZaJ x, .bool false]) _ (fun w R Q=>(ZeA s _ (by omega)).mono (fun _ _ h=>ZeP h hr)) (fun xx=>?_)
  obtain ⟨s10,A10,l10,c10,t10,B10,m10,d10⟩:=xx
  refine xr 6 [(2, .p 2 0),(3, .p 3 0),(4, .v (.bool false))] [bR4 3 45 s10 A10 l10 c10 t10 B10 m10 d10,bR4 2 45 false none 0 0 false none 0 0] ?_
  refine xe (Zaa (Zac (Zac (Zab (xr 2 [(2, .p 2 0),(3, .p 3 0),(11, .v (.bool true))] [bR4 3 45 s10 A10 l10 c10 t10 B10 m10 d10,bR4 2 45 false none 0 0 false none 0 0] ?_)))))
  refine xe (Zaa (xa (Zac (Zab (xr 2 [(2, .p 2 0),(3, .p 3 0)] [bR4 3 45 s10 A10 l10 c10 t10 B10 m10 d10,bR4 2 45 false none 0 0 false none 0 0] ?_)))))
  refine xe (Zaa (Zan (Zao ?_)))
  refine Zag (v:=.agg #[.bool false, .slice none 0 0, .bool false, .slice none 0 0]) (by kernel_rfl) (fun w' R Q=>?_)
  exact ⟨_,rfl,by rw [Zig hr]; exact Zaz.nil _,R⟩
 ·refine xc 94 [.string s] 7 (fun x:ShQ=>.tuple #[ZaJ x, .bool true]) _ (fun w R Q=>(ZeA s _ (by omega)).mono (fun _ _ h=>ZeQ h hr)) (fun xx=>?_)
  obtain ⟨s11,A11,l11,c11,t11,B11,m11,d11⟩:=xx
  refine xr 6 [(2, .p 2 0),(3, .p 3 0),(4, .v (.bool true))] [bR4 3 45 s11 A11 l11 c11 t11 B11 m11 d11,bR4 2 45 false none 0 0 false none 0 0] ?_
  refine xe (Zaa (Zac (Zac (Zab (xr 2 [(2, .p 2 0),(3, .p 3 0),(11, .v (.bool false))] [bR4 3 45 s11 A11 l11 c11 t11 B11 m11 d11,bR4 2 45 false none 0 0 false none 0 0] ?_)))))
  refine xe (Zaa (xb (ZaA (Zaa (Zac (Zab (xr 2 [(2, .p 2 0)] [bR4 2 45 s11 A11 l11 c11 t11 B11 m11 d11] ?_)))))))
  refine xe (Zaa (Zan ?_))
  refine Zag (v:=.agg #[.bool s11, .slice A11 l11 c11, .bool t11, .slice B11 m11 d11]) (by kernel_rfl) (fun w' R Q=>?_)
  exact ⟨_,rfl,by rw [Zey hr]; exact Q.2,R⟩
end Go.Proofs.YthlipnahcbcjkaaGreatDoor
