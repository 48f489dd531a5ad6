/-
 My texts Nr, Ng, Nf, Nt, Nd, Nrd, RdK, Po, Pw2, Pv, Wr, Wr2, Rpo, De, Len2, SdM, SdA, SdK, IdM, Tq, Tw put together.
-/
import Derived.Test.YtoanifijmlgcgaaGreatDoorD16
import Derived.Test.YtoanifijmlgcgaaGreatDoorD20
import Derived.Test.YtoanifijmlgcgaaGreatDoorD15
import Derived.Test.YtoanifijmlgcgaaGreatDoorD19
set_option maxRecDepth 100000
set_option maxHeartbeats 8000000
namespace Go.Proofs.YtoanifijmlgcgaaGreatDoor
open Go.RowKit
theorem ZaL (neg:Bool)(u:Value)(n:Nat)(w:World)(a:zP w u n):yA 203 #[.bool neg,u] w (lL w (sg neg n)):=by
 refine (kH neg u n w a).mono ?_
 rintro e d ⟨s,rfl,c,b⟩
 exact⟨_,rfl,zR.signed (a.ext b) c.out,b⟩
theorem zR.opn {w:World}{s:Bool}{A:Option Addr}{l c:Nat}{z:Int}(h:zR w (.agg #[.bool s,.slice A l c]) z):zP w (.slice A l c) z.natAbs∧z=sg s z.natAbs∧(z=0→s=false):=by
 obtain⟨f,g,i,j,a,b,d,e⟩:=h.open
 injection a with a
 simp at a
 obtain⟨rfl,rfl,rfl,rfl⟩:=a
 exact⟨b,d,e⟩
theorem zR.mag {w:World}{s:Bool}{A:Option Addr}{l c:Nat}{z:Int}(h:zR w (.agg #[.bool s,.slice A l c]) z):zP w (.slice A l c) z.natAbs:=h.opn.1
theorem Znw {w:World}{s:Bool}{A:Option Addr}{l c:Nat}{z:Int}(h:zR w (.agg #[.bool s,.slice A l c]) z):sg (!s) z.natAbs = -z:=by
 obtain⟨_,a,b⟩:=h.opn
 cases s<;>simp[sg] at *<;>omega
theorem xY.neg {x:Int}(h:xY x):xY (-x):=by
 unfold xY at *;rw[Int.natAbs_neg];exact h
theorem ZcM {fn:Func}{t:Tmp}{a:Array Value}{w w':World}{r:Nat}{x y:Value}{z:Int}(b:fn.results=#[.cell t 125])(c:a[t]? = some (.pointer (some ⟨r,0,none⟩)))(d:Blk 125 w' r #[x,y])(e:zR w' (.agg #[x,y]) z)(Q:Ext w w'):bodyPost Tryz.prog fn (lL w z) .ret ⟨a,[]⟩ w' :=
 bodyPost_ret (cW b _ _ r _ _ c d) rfl ⟨_,rfl,e,Q⟩
theorem zR.sneg {w:World}{s:Bool}{A:Option Addr}{l c:Nat}{z:Int}(h:zR w (.agg #[.bool s,.slice A l c]) z)(b:z<0):s=true:=by
 obtain⟨_,a,d⟩:=h.opn
 cases s with
 | true=>rfl
 | false=>simp[sg] at a;omega
theorem zR.spos {w:World}{s:Bool}{A:Option Addr}{l c:Nat}{z:Int}(h:zR w (.agg #[.bool s,.slice A l c]) z)(d:0≤z):s=false:=by
 obtain⟨_,a,b⟩:=h.opn
 cases s with
 | false=>rfl
 | true=>simp[sg] at a;exact b (by omega)
theorem zR.len0 {w:World}{s:Bool}{A:Option Addr}{l c:Nat}{z:Int}(h:zR w (.agg #[.bool s,.slice A l c]) z)(d:z=0):l=0:=by
 obtain⟨e,_,_⟩:=h.opn
 obtain⟨g,i,j,a,_,_,k,f,b⟩:=e
 injection a with _ a
 rw[d] at b
 have:=Zf1 f zQ b
 rw[this] at a
 simpa using a
theorem zR.lenp {w:World}{s:Bool}{A:Option Addr}{l c:Nat}{z:Int}(h:zR w (.agg #[.bool s,.slice A l c]) z)(g:z≠0):0<l:=by
 obtain⟨d,_,_⟩:=h.opn
 obtain⟨i,f,j,a,_,_,k,m,b⟩:=d
 injection a with _ a
 rcases uJ l with e|e
 ·rw[e] at a
  have:f=[]:=vZ.1 a.symm
  rw[this] at b
  simp at b
  omega
 exact e
theorem zR.quo {w:World}{s t:Bool}{A B:Option Addr}{l c l' a:Nat}{x y:Int}(h:zR w (.agg #[.bool s,.slice A l c]) x)(k:zR w (.agg #[.bool t,.slice B l' a]) y):sg (s != t) (x.natAbs/y.natAbs)=x.tdiv y∧sg s (x.natAbs%y.natAbs)=x.tmod y:=by
 obtain⟨_,b,e⟩:=h.opn
 obtain⟨_,d,f⟩:=k.opn
 generalize x.natAbs=m at *
 generalize y.natAbs=n at *
 subst b d
 cases s<;>cases t<;>simp[sg,Int.neg_tdiv,Int.tdiv_neg,Int.neg_tmod,Int.tmod_neg]<;>exact (tJ (by omega)).symm
def Zfb (w:World) (q r:Int) (e:Ending) (w':World):Prop:=∃ u v,e=.returned (.tuple #[u,v])∧zR w' u q∧zR w' v r∧Ext w w'
theorem Zlt {fn:Func}{t h:Tmp}{a:Array Value}{w w':World}{r i:Nat}{x y c d:Value}{z j:Int}(b:fn.results=#[.cell t 125,.cell h 125])(k:a[t]? = some (.pointer (some ⟨r,0,none⟩)))(e:a[h]? = some (.pointer (some ⟨i,0,none⟩)))(l:Blk 125 w' r #[x,y])(f:Blk 125 w' i #[c,d])(m:zR w' (.agg #[x,y]) z)(g:zR w' (.agg #[c,d]) j)(Q:Ext w w'):bodyPost Tryz.prog fn (Zfb w z j) .ret ⟨a,[]⟩ w':=by
 obtain⟨n,o,_⟩:=l.cell2
 obtain⟨p,q,_⟩:=f.cell2
 exact bodyPost_ret (v:=.tuple #[.agg #[x,y],.agg #[c,d]]) (by simp[results,b,k,e,go_sem,n,o,p,q]) rfl ⟨_,_,rfl,m,g,Q⟩
theorem cE {q:Rat}(h:¬ q.den=1):denF q≠0:=by rw[iT h];have:=q.den_nz;omega
theorem ZdC (a:Value)(x:Int)(w:World)(A:zR w a x) :
 yA 184 #[a] w (lL w (-x)):=by
 obtain⟨B,D,E,F,rfl⟩:=A.shp
 have F2:Hid (zR w (.agg #[.bool B,.slice D E F]) (x)):=A
 clear A
 have G:=zh (Znw F2.out)
 go_enter Tryz.func184,Tryz.ntmps184
 go_wp2_with fail
 generalize s:World.alloc (World.alloc w _) _=w5
 obtain⟨d,f,g⟩:=ZcL s
 clear s
 have B3:=zh d
 have B4:=zh f
 clear d f
 replace F2:=zh (F2.out.ext g)
 have HE:=zh g
 clear g
 have F6:Hid (zP w5 (.slice D E F) ((x).natAbs)):=F2.out.mag
 refine (ZaL ((!B)) _ _ _ F6.out).mono ?_
 rintro e t ⟨_,rfl,C,r⟩
 obtain⟨u,v,y,z,rfl⟩:=C.shp
 replace B3:=zh (B3.out.ext r)
 replace B4:=zh (B4.out.ext r)
 replace F2:=zh (F2.out.ext r)
 replace F6:=zh (F6.out.ext r)
 replace HE:=zh (HE.out.trans r)
 have F9:Hid (zR t (.agg #[.bool u,.slice v y z]) (sg ((!B)) ((x).natAbs))):=C
 clear r C
 obtain⟨h,j,k,l⟩:=B3.out.cell2
 obtain⟨m,n,o,q⟩:=B4.out.cell2
 go_wp2
 clear h j k l m n o q
 have b:Fr (fun i=>i=(w.heap.size+1)) t ((t.setCell ⟨(w.heap.size+1),0,none⟩ (.bool u)).setCell ⟨(w.heap.size+1),1,none⟩ (.slice v y z)):=(((Fr.refl (fun i=>i=(w.heap.size+1)) _).setCell (p:=⟨(w.heap.size+1),0,none⟩) (Or.inl rfl) _).setCell (p:=⟨(w.heap.size+1),1,none⟩) (Or.inl rfl) _)
 replace F2:=zh (F2.out.oth B4.out lU b)
 replace F6:=zh (F6.out.oth B4.out lU b)
 replace F9:=zh (F9.out.oth B4.out lU b)
 replace B3:=zh (B3.out.fr b (by first|omega | (have:=B3.out.lt;have:=B4.out.lt;omega)))
 replace HE:=zh (HE.out.next b (fun i H e=>by first|omega | (have:=HE.out.size;have:=B4.out.lt;omega)))
 have c:Blk 125 ((t.setCell ⟨(w.heap.size+1),0,none⟩ (.bool u)).setCell ⟨(w.heap.size+1),1,none⟩ (.slice v y z)) (w.heap.size+1) #[.bool u,.slice v y z]:=((B4.out.set_ 0 _).set_ 1 _)
 generalize ((t.setCell ⟨(w.heap.size+1),0,none⟩ (.bool u)).setCell ⟨(w.heap.size+1),1,none⟩ (.slice v y z))=w12 at *
 replace B4:=zh c;clear c b
 exact ZcM rfl rfl B4.out (by have:=F9.out;rw[G.out] at this;exact this) HE.out
theorem Zkh (a:Value)(x:Int)(w:World)(e:zR w a x)(f:x<0) :
 yA 185 #[a] w (RetV w (.int .i64 (-1))):=by
 obtain⟨g,h,i,j,rfl⟩:=e.shp
 have F2:Hid (zR w (.agg #[.bool g,.slice h i j]) (x)):=e
 clear e
 obtain rfl:g=true:=F2.out.sneg f
 clear f
 go_enter Tryz.func185,Tryz.ntmps185
 go_wp2
 generalize d:World.alloc w _=w4
 obtain⟨b,c⟩:=gB d
 clear d
 have l:=zh b
 clear b
 replace F2:=zh (F2.out.ext c)
 have k:=zh c
 clear c
 go_ret
 exact⟨rfl,k.out⟩
theorem Zje (a:Value)(x:Int)(w:World)(e:zR w a x)(f:x=0) :
 yA 185 #[a] w (RetV w (.int .i64 (0))):=by
 obtain⟨g,i,h,j,rfl⟩:=e.shp
 have F2:Hid (zR w (.agg #[.bool g,.slice i h j]) (x)):=e
 clear e
 obtain rfl:g=false:=F2.out.spos (by omega)
 obtain rfl:h=0:=F2.out.len0 f
 clear f
 go_enter Tryz.func185,Tryz.ntmps185
 go_wp2
 generalize d:World.alloc w _=w4
 obtain⟨b,c⟩:=gB d
 clear d
 have l:=zh b
 clear b
 replace F2:=zh (F2.out.ext c)
 have k:=zh c
 clear c
 go_ret
 exact⟨rfl,k.out⟩
theorem Zki (a:Value)(x:Int)(w:World)(e:zR w a x)(h:0<x) :
 yA 185 #[a] w (RetV w (.int .i64 (1))):=by
 obtain⟨f,i,g,j,rfl⟩:=e.shp
 have F2:Hid (zR w (.agg #[.bool f,.slice i g j]) (x)):=e
 clear e
 obtain rfl:f=false:=F2.out.spos (by omega)
 have l:((g:Int) == 0)=false:=by have:=F2.out.lenp (by omega);simp;omega
 clear h
 go_enter Tryz.func185,Tryz.ntmps185
 go_wp2
 generalize d:World.alloc w _=w4
 obtain⟨b,c⟩:=gB d
 clear d
 have m:=zh b
 clear b
 replace F2:=zh (F2.out.ext c)
 have k:=zh c
 clear c
 go_ret
 exact⟨rfl,k.out⟩
theorem Zkj (a:Value)(x:Int)(w:World)(b:zR w a x):yA 185 #[a] w (RetV w (.int .i64 x.sign)):=by
 rcases Int.lt_trichotomy x 0 with h|h|h
 ·rw[Int.sign_eq_neg_one_of_neg h];exact Zkh a x w b h
 ·rw[h,Int.sign_zero];exact Zje a x w b h
 rw[Int.sign_eq_one_of_pos h];exact Zki a x w b h
theorem bE (a b:Value)(x y:Int)(w:World)(ha:zR w a x)(hb:zR w b y)(hx:xY x)(hy:xY y)(h0:y≠0) :
 yA 202 #[a,b] w (Zfb w (x.tdiv y) (x.tmod y)):=by
 obtain⟨o,A1,l1,c1,rfl⟩:=ha.shp
 have F2:Hid (zR w (.agg #[.bool o,.slice A1 l1 c1]) (x)):=ha
 clear ha
 obtain⟨C,A3,l3,c3,rfl⟩:=hb.shp
 have F4:Hid (zR w (.agg #[.bool C,.slice A3 l3 c3]) (y)):=hb
 clear hb
 have Hx:Hid (ml x.natAbs≤17592186044416):=hx
 have Hy:Hid (ml y.natAbs≤17592186044416):=hy
 have H0:Hid (0<y.natAbs):=by unfold Hid;omega
 have HQ:=zh (F2.out.quo F4.out)
 clear hx hy h0
 go_enter Tryz.func202,Tryz.ntmps202
 go_wp2_with fail
 generalize x0:World.alloc (World.alloc (World.alloc (World.alloc w _) _) _) _=w9
 obtain⟨E,F,G,H,D⟩:=Zmr x0
 clear x0
 have B5:=zh E
 have B6:=zh F
 have B7:=zh G
 have B8:=zh H
 clear E F G H
 replace F2:=zh (F2.out.ext D)
 replace F4:=zh (F4.out.ext D)
 have HE:=zh D
 clear D
 have F10:Hid (zP w9 (.slice A1 l1 c1) ((x).natAbs)):=F2.out.mag
 have F11:Hid (zP w9 (.slice A3 l3 c3) ((y).natAbs)):=F4.out.mag
 refine (Zew _ _ ((x).natAbs) ((y).natAbs) _ F10.out F11.out Hx.out Hy.out H0.out).mono ?_
 rintro e P ⟨_,_,rfl,hq,hr,f⟩
 obtain⟨I,J,L,rfl⟩:=hq.slice
 obtain⟨M,N,O,rfl⟩:=hr.slice
 replace B5:=zh (B5.out.ext f)
 replace B6:=zh (B6.out.ext f)
 replace B7:=zh (B7.out.ext f)
 replace B8:=zh (B8.out.ext f)
 replace F2:=zh (F2.out.ext f)
 replace F4:=zh (F4.out.ext f)
 replace F10:=zh (F10.out.ext f)
 replace F11:=zh (F11.out.ext f)
 replace HE:=zh (HE.out.trans f)
 have F14:Hid (zP P (.slice I J L) (((x).natAbs)/((y).natAbs))):=hq
 have F15:Hid (zP P (.slice M N O) (((x).natAbs)%((y).natAbs))):=hr
 clear f hq hr
 obtain⟨Q,R,S,T⟩:=B5.out.cell2
 obtain⟨U,V,W,X⟩:=B6.out.cell2
 obtain⟨Y,Z,a0,b0⟩:=B7.out.cell2
 obtain⟨c0,d0,e0,f0⟩:=B8.out.cell2
 go_wp2_with fail
 clear Q R S T U V W X Y Z a0 b0 c0 d0 e0 f0
 refine Zhx 11 (fun m=>Blk 125 m w.heap.size #[.bool o,.slice A1 l1 c1]∧Blk 125 m (w.heap.size+1) #[.bool C,.slice A3 l3 c3]∧Blk 125 m (w.heap.size+1+1) #[.bool false,.slice none 0 0]∧Blk 125 m (w.heap.size+1+1+1) #[.bool false,.slice none 0 0]) zK ?_
 replace B5:=zh (B5.out.ext (Fr.refl _ _).drew)
 replace B6:=zh (B6.out.ext (Fr.refl _ _).drew)
 replace B7:=zh (B7.out.ext (Fr.refl _ _).drew)
 replace B8:=zh (B8.out.ext (Fr.refl _ _).drew)
 replace F2:=zh (F2.out.ext (Fr.refl _ _).drew)
 replace F4:=zh (F4.out.ext (Fr.refl _ _).drew)
 replace F10:=zh (F10.out.ext (Fr.refl _ _).drew)
 replace F11:=zh (F11.out.ext (Fr.refl _ _).drew)
 replace F14:=zh (F14.out.ext (Fr.refl _ _).drew)
 replace F15:=zh (F15.out.ext (Fr.refl _ _).drew)
 replace HE:=zh (HE.out.trans (Fr.refl _ _).drew)
 generalize P.drew=w20 at *
 have j:=(⟨B5.out,B6.out,B7.out,B8.out⟩:(fun m=>Blk 125 m w.heap.size #[.bool o,.slice A1 l1 c1]∧Blk 125 m (w.heap.size+1) #[.bool C,.slice A3 l3 c3]∧Blk 125 m (w.heap.size+1+1) #[.bool false,.slice none 0 0]∧Blk 125 m (w.heap.size+1+1+1) #[.bool false,.slice none 0 0]) w20)
 refine gM 0 rfl (by kernel_rfl) (fun _ _ _ h=>h) j (fun _=>Zbm (g:=w.heap.size) (off:=0) rfl rfl (by kernel_rfl)) (fun j=>?_)
 refine gM 1 rfl (by kernel_rfl) (fun _ _ _ h=>h) j (fun _=>Ze7 (g:=w.heap.size) (off:=0) (x:=.bool o) rfl rfl (by kernel_rfl) (fun _ h=>Blk.one' (h.1) 0 rfl)) (fun j=>?_)
 refine gM 2 rfl (by kernel_rfl) (fun _ _ _ h=>h) j (fun _=>Zbm (g:=(w.heap.size+1)) (off:=0) rfl rfl (by kernel_rfl)) (fun j=>?_)
 refine gM 3 rfl (by kernel_rfl) (fun _ _ _ h=>h) j (fun _=>Ze7 (g:=(w.heap.size+1)) (off:=0) (x:=.bool C) rfl rfl (by kernel_rfl) (fun _ h=>Blk.one' (h.2.1) 0 rfl)) (fun j=>?_)
 refine gM 4 rfl (by kernel_rfl) (fun _ _ _ h=>h) j (fun _=>Zlf (b:=o) (c:=C) rfl rfl (by kernel_rfl) (by kernel_rfl)) (fun j=>?_)
 refine gM 5 rfl (by kernel_rfl) (fun _ _ _ h=>h) j (fun _=>ym (v:=.slice I J L) rfl rfl (by kernel_rfl)) (fun j=>?_)
 refine gM 7 rfl (by kernel_rfl) (fun _ _ _ h=>h) j (fun _=>Zbm (g:=w.heap.size) (off:=0) rfl rfl (by kernel_rfl)) (fun j=>?_)
 refine gM 8 rfl (by kernel_rfl) (fun _ _ _ h=>h) j (fun _=>Ze7 (g:=w.heap.size) (off:=0) (x:=.bool o) rfl rfl (by kernel_rfl) (fun _ h=>Blk.one' (h.1) 0 rfl)) (fun j=>?_)
 refine gM 9 rfl (by kernel_rfl) (fun _ _ _ h=>h) j (fun _=>ym (v:=.slice M N O) rfl rfl (by kernel_rfl)) (fun j=>?_)
 refine ZgJ 6 rfl (by kernel_rfl) rfl (fun K hK=>?_)
 go_simp
 clear j
 refine (ZaL ((o != C)) _ _ _ F14.out).mono ?_
 rintro e y0 ⟨_,rfl,hI,f⟩
 obtain⟨q,r,s,t,rfl⟩:=hI.shp
 replace B5:=zh (B5.out.ext f)
 replace B6:=zh (B6.out.ext f)
 replace B7:=zh (B7.out.ext f)
 replace B8:=zh (B8.out.ext f)
 replace F2:=zh (F2.out.ext f)
 replace F4:=zh (F4.out.ext f)
 replace F10:=zh (F10.out.ext f)
 replace F11:=zh (F11.out.ext f)
 replace F14:=zh (F14.out.ext f)
 replace F15:=zh (F15.out.ext f)
 replace HE:=zh (HE.out.trans f)
 have F23:Hid (zR y0 (.agg #[.bool q,.slice r s t]) (sg ((o != C)) (((x).natAbs)/((y).natAbs)))):=hI
 clear f hI
 have j:=(⟨B5.out,B6.out,B7.out,B8.out⟩:(fun m=>Blk 125 m w.heap.size #[.bool o,.slice A1 l1 c1]∧Blk 125 m (w.heap.size+1) #[.bool C,.slice A3 l3 c3]∧Blk 125 m (w.heap.size+1+1) #[.bool false,.slice none 0 0]∧Blk 125 m (w.heap.size+1+1+1) #[.bool false,.slice none 0 0]) y0)
 refine hK _ _ j ?_
 clear hK
 refine ZgJ 10 rfl (by kernel_rfl) rfl (fun K hK=>?_)
 go_simp
 clear j
 refine (ZaL (o) _ _ _ F15.out).mono ?_
 rintro e n ⟨_,rfl,hI,f⟩
 obtain⟨u,z,A,B,rfl⟩:=hI.shp
 replace B5:=zh (B5.out.ext f)
 replace B6:=zh (B6.out.ext f)
 replace B7:=zh (B7.out.ext f)
 replace B8:=zh (B8.out.ext f)
 replace F2:=zh (F2.out.ext f)
 replace F4:=zh (F4.out.ext f)
 replace F10:=zh (F10.out.ext f)
 replace F11:=zh (F11.out.ext f)
 replace F14:=zh (F14.out.ext f)
 replace F15:=zh (F15.out.ext f)
 replace F23:=zh (F23.out.ext f)
 replace HE:=zh (HE.out.trans f)
 have F26:Hid (zR n (.agg #[.bool u,.slice z A B]) (sg (o) (((x).natAbs)%((y).natAbs)))):=hI
 clear f hI
 have j:=(⟨B5.out,B6.out,B7.out,B8.out⟩:(fun m=>Blk 125 m w.heap.size #[.bool o,.slice A1 l1 c1]∧Blk 125 m (w.heap.size+1) #[.bool C,.slice A3 l3 c3]∧Blk 125 m (w.heap.size+1+1) #[.bool false,.slice none 0 0]∧Blk 125 m (w.heap.size+1+1+1) #[.bool false,.slice none 0 0]) n)
 refine hK _ _ j ?_
 clear hK
 refine Zk8 (l:=[_,_]) 11 rfl (by kernel_rfl) ?_
 clear j
 obtain⟨g0,i0,j0,k0⟩:=B5.out.cell2
 obtain⟨l0,m0,n0,o0⟩:=B6.out.cell2
 obtain⟨p0,q0,r0,s0⟩:=B7.out.cell2
 obtain⟨t0,u0,v0,w0⟩:=B8.out.cell2
 go_wp2
 clear g0 i0 j0 k0 l0 m0 n0 o0 p0 q0 r0 s0 t0 u0 v0 w0
 have d:Fr (fun i=>i=(w.heap.size+1+1)) n ((n.setCell ⟨(w.heap.size+1+1),0,none⟩ (.bool q)).setCell ⟨(w.heap.size+1+1),1,none⟩ (.slice r s t)):=(((Fr.refl (fun i=>i=(w.heap.size+1+1)) _).setCell (p:=⟨(w.heap.size+1+1),0,none⟩) (Or.inl rfl) _).setCell (p:=⟨(w.heap.size+1+1),1,none⟩) (Or.inl rfl) _)
 replace F2:=zh (F2.out.oth B7.out lU d)
 replace F4:=zh (F4.out.oth B7.out lU d)
 replace F10:=zh (F10.out.oth B7.out lU d)
 replace F11:=zh (F11.out.oth B7.out lU d)
 replace F14:=zh (F14.out.oth B7.out lU d)
 replace F15:=zh (F15.out.oth B7.out lU d)
 replace F23:=zh (F23.out.oth B7.out lU d)
 replace F26:=zh (F26.out.oth B7.out lU d)
 replace B5:=zh (B5.out.fr d (by first|omega | (have:=B5.out.lt;have:=B7.out.lt;omega)))
 replace B6:=zh (B6.out.fr d (by first|omega | (have:=B6.out.lt;have:=B7.out.lt;omega)))
 replace B8:=zh (B8.out.fr d (by first|omega | (have:=B8.out.lt;have:=B7.out.lt;omega)))
 replace HE:=zh (HE.out.next d (fun i hi e=>by first|omega | (have:=HE.out.size;have:=B7.out.lt;omega)))
 have k:Blk 125 ((n.setCell ⟨(w.heap.size+1+1),0,none⟩ (.bool q)).setCell ⟨(w.heap.size+1+1),1,none⟩ (.slice r s t)) (w.heap.size+1+1) #[.bool q,.slice r s t]:=((B7.out.set_ 0 _).set_ 1 _)
 generalize ((n.setCell ⟨(w.heap.size+1+1),0,none⟩ (.bool q)).setCell ⟨(w.heap.size+1+1),1,none⟩ (.slice r s t))=w31 at *
 replace B7:=zh k;clear k d
 have d:Fr (fun i=>i=(w.heap.size+1+1+1)) w31 ((w31.setCell ⟨(w.heap.size+1+1+1),0,none⟩ (.bool u)).setCell ⟨(w.heap.size+1+1+1),1,none⟩ (.slice z A B)):=(((Fr.refl (fun i=>i=(w.heap.size+1+1+1)) _).setCell (p:=⟨(w.heap.size+1+1+1),0,none⟩) (Or.inl rfl) _).setCell (p:=⟨(w.heap.size+1+1+1),1,none⟩) (Or.inl rfl) _)
 replace F2:=zh (F2.out.oth B8.out lU d)
 replace F4:=zh (F4.out.oth B8.out lU d)
 replace F10:=zh (F10.out.oth B8.out lU d)
 replace F11:=zh (F11.out.oth B8.out lU d)
 replace F14:=zh (F14.out.oth B8.out lU d)
 replace F15:=zh (F15.out.oth B8.out lU d)
 replace F23:=zh (F23.out.oth B8.out lU d)
 replace F26:=zh (F26.out.oth B8.out lU d)
 replace B5:=zh (B5.out.fr d (by first|omega | (have:=B5.out.lt;have:=B8.out.lt;omega)))
 replace B6:=zh (B6.out.fr d (by first|omega | (have:=B6.out.lt;have:=B8.out.lt;omega)))
 replace B7:=zh (B7.out.fr d (by first|omega | (have:=B7.out.lt;have:=B8.out.lt;omega)))
 replace HE:=zh (HE.out.next d (fun i hi e=>by first|omega | (have:=HE.out.size;have:=B8.out.lt;omega)))
 have k:Blk 125 ((w31.setCell ⟨(w.heap.size+1+1+1),0,none⟩ (.bool u)).setCell ⟨(w.heap.size+1+1+1),1,none⟩ (.slice z A B)) (w.heap.size+1+1+1) #[.bool u,.slice z A B]:=((B8.out.set_ 0 _).set_ 1 _)
 generalize ((w31.setCell ⟨(w.heap.size+1+1+1),0,none⟩ (.bool u)).setCell ⟨(w.heap.size+1+1+1),1,none⟩ (.slice z A B))=w32 at *
 replace B8:=zh k;clear k d
 exact Zlt rfl rfl rfl B7.out B8.out (by rw[←HQ.out.1];exact F23.out) (by rw[←HQ.out.2];exact F26.out) HE.out
theorem Zlu (a:Value)(q:Rat)(w:World)(E:zF w a q)(G:q.den=1) :
 yA 188 #[a] w (lL w (q.den:Int)):=by
 obtain⟨J,K,L,M,N,O,H,P,rfl⟩:=E.shp
 have F2:Hid (zF w (.agg #[.bool J,.slice K L M,.bool N,.slice O H P]) (q)):=E
 clear E
 have I:=F2.out.den
 obtain rfl:H=0:=I.len0 (kF G)
 have Q:Hid ((q.den:Int)=1):=by unfold Hid;omega
 clear I G
 go_enter Tryz.func188,Tryz.ntmps188
 go_wp2_with fail
 generalize m:World.alloc (World.alloc w _) _=w5
 obtain⟨d,f,g⟩:=ZcL m
 clear m
 have B3:=zh d
 have B4:=zh f
 clear d f
 replace F2:=zh (F2.out.ext g)
 have HE:=zh g
 clear g
 refine (dR 1 _ (by omega) (by omega)).mono ?_
 rintro e n ⟨_,rfl,F,o⟩
 obtain⟨r,s,t,u,rfl⟩:=F.shp
 replace B3:=zh (B3.out.ext o)
 replace B4:=zh (B4.out.ext o)
 replace F2:=zh (F2.out.ext o)
 replace HE:=zh (HE.out.trans o)
 have F8:Hid (zR n (.agg #[.bool r,.slice s t u]) (1)):=F
 clear o F
 obtain⟨v,x,y,z,A,B,C,D⟩:=B3.out.cell4
 obtain⟨h,j,k,l⟩:=B4.out.cell2
 go_wp2
 clear v x y z A B C D h j k l
 have b:Fr (fun i=>i=(w.heap.size+1)) n ((n.setCell ⟨(w.heap.size+1),0,none⟩ (.bool r)).setCell ⟨(w.heap.size+1),1,none⟩ (.slice s t u)):=(((Fr.refl (fun i=>i=(w.heap.size+1)) _).setCell (p:=⟨(w.heap.size+1),0,none⟩) (Or.inl rfl) _).setCell (p:=⟨(w.heap.size+1),1,none⟩) (Or.inl rfl) _)
 replace F2:=zh (F2.out.oth B4.out lU b)
 replace F8:=zh (F8.out.oth B4.out lU b)
 replace B3:=zh (B3.out.fr b (by first|omega | (have:=B3.out.lt;have:=B4.out.lt;omega)))
 replace HE:=zh (HE.out.next b (fun i R e=>by first|omega | (have:=HE.out.size;have:=B4.out.lt;omega)))
 have c:Blk 125 ((n.setCell ⟨(w.heap.size+1),0,none⟩ (.bool r)).setCell ⟨(w.heap.size+1),1,none⟩ (.slice s t u)) (w.heap.size+1) #[.bool r,.slice s t u]:=((B4.out.set_ 0 _).set_ 1 _)
 generalize ((n.setCell ⟨(w.heap.size+1),0,none⟩ (.bool r)).setCell ⟨(w.heap.size+1),1,none⟩ (.slice s t u))=w11 at *
 replace B4:=zh c;clear c b
 exact ZcM rfl rfl B4.out (by rw[Q.out];exact F8.out) HE.out
theorem Zlv (a:Value)(q:Rat)(w:World)(f:zF w a q)(g:¬ q.den=1) :
 yA 188 #[a] w (lL w (q.den:Int)):=by
 obtain⟨m,n,o,p,i,j,h,k,rfl⟩:=f.shp
 have F2:Hid (zF w (.agg #[.bool m,.slice n o p,.bool i,.slice j h k]) (q)):=f
 clear f
 have l:=F2.out.den
 have v:((h:Int) == 0)=false:=by have:=l.lenp (cE g);simp;omega
 have r:=zh (iT g)
 clear l g
 go_enter Tryz.func188,Tryz.ntmps188
 go_wp2
 generalize e:World.alloc (World.alloc w _) _=w5
 obtain⟨b,c,d⟩:=ZcL e
 clear e
 have x:=zh b
 have s:=zh c
 clear b c
 replace F2:=zh (F2.out.ext d)
 have t:=zh d
 clear d
 have u:Hid (zR w5 (.agg #[.bool i,.slice j h k]) (denF (q))):=F2.out.den
 exact ZcM rfl rfl s.out (by rw[←r.out];exact u.out) t.out
theorem jM (a:Value)(q:Rat)(w:World)(b:zF w a q):yA 188 #[a] w (lL w (q.den:Int)):=by
 by_cases h:q.den=1
 ·exact Zlu a q w b h
 exact Zlv a q w b h
def blen (n:Nat):Nat:=if n=0 then 0 else n.log2+1
theorem ZfM:blen 0=0:=rfl
theorem ZcN (n:Nat):n<2^blen n:=by
 unfold blen
 split
 ·rename_i h;subst h;decide
 rename_i h;exact (Nat.log2_lt h).1 (Nat.lt_succ_self _)
theorem eZ {n k:Nat}:blen n≤k↔n<2^k:=by
 unfold blen
 split
 ·rename_i h;subst h;simp[uU]
 rename_i h;rw[←Nat.log2_lt h];omega
theorem ZaM {n:Nat}(h:0<n):blen n=blen (n/2)+1:=by
 have d:blen (n/2)+1≤blen n:=by
  have:blen (n/2)≤blen n-1:=eZ.2 (by
   have a:=ZcN n
   have b:0<blen n:=by unfold blen;rw[vP (by omega)];omega
   obtain⟨k,c⟩:∃ k,blen n=k+1:=⟨blen n-1,by omega⟩
   rw[c] at a ⊢
   rw[uW] at a
   show n/2<2^(k+1-1)
   rw[sY]
   omega)
  have b:0<blen n:=by unfold blen;rw[vP (by omega)];omega
  omega
 have a:blen n≤blen (n/2)+1:=eZ.2 (by
  have:=ZcN (n/2)
  rw[uW]
  omega)
 omega
theorem jV {n:Nat}:blen n=1↔n=1:=by
 constructor
 ·intro h
  have a:=ZcN n
  rw[h] at a
  rcases uJ n with e|e
  ·subst e;rw[ZfM] at h;omega
  omega
 rintro rfl;decide
theorem bF {n:Nat}:1<blen n↔1<n:=by
 rcases uZ 1 n with h|h
 ·have:¬ blen n≤1:=fun k=>by have:=eZ.1 k;omega
  omega
 have:blen n≤1:=eZ.2 (by omega)
 omega
theorem Zlw {B k t a:Nat}(g:a<2^(B*k))(b:0<t):blen (a+2^(B*k)*t)=B*k+blen t:=by
 have c:=ZcN t
 have i:blen (a+2^(B*k)*t)≤B*k+blen t:=eZ.2 (by
  rw[vV]
  have:2^(B*k)*(t+1)≤2^(B*k)*2^blen t:=uK _ c
  rw[uS] at this
  omega)
 have l:¬ blen (a+2^(B*k)*t)≤B*k+blen t-1:=fun h=>by
  have d:=eZ.1 h
  obtain⟨j,e⟩:∃ j,blen t=j+1:=⟨blen t-1,by have:=ZaM b;omega⟩
  rw[e,show B*k+(j+1)-1=B*k+j by omega,vV] at d
  have f:2^j≤t:=by
   rcases uZ t (2^j) with h|h
   ·have:=eZ.2 h;omega
   exact h
  have:2^(B*k)*2^j≤2^(B*k)*t:=uK _ f
  omega
 have:0<blen t:=by have:=ZaM b;omega
 omega
theorem dA (a:Value)(x:Int)(w:World)(j:zR w a x)(G:xY x):yA 201 #[a] w (RetV w (.int .i64 (blen x.natAbs:Int))):=by
 obtain⟨s,A,l,c,rfl⟩:=j.shp
 have f:=j.mag
 have M:=j.len0
 obtain⟨V,xs,W,N,O,H,m,p,q⟩:=f
 injection N with e1 e2 e3
 subst e1 e2 e3
 unfold xY at G
 rw[←q,← kG m p] at G
 rw[←q]
 clear j M q
 rcases uJ xs.length with u|u
 ·obtain rfl:xs=[]:=vZ.1 u
  go_enter Tryz.func201,Tryz.ntmps201
  go_wp2
  go_ret
  exact⟨rfl,(Fr.refl _ _).alloc _⟩
 obtain⟨k,I⟩:∃ k,xs.length=k+1:=⟨xs.length-1,by omega⟩
 obtain⟨b,P,rfl,Q,v⟩:=H.at (i:=k) (by omega)
 obtain⟨t,o⟩:=yE (xs[k]?.getD 0)
 rw[o] at v
 have y:0<t:=by have:=p k I;omega
 have J:val W32 xs=val W32 (xs.take k)+W32^k*t:=by
  have:=zT (B:=W32) (xs:=xs) k (by omega)
  rw[uB (by omega),o] at this
  exact this
 have d:=wH (m.take k)
 rw[uL,uY (by omega),ZcK] at d
 have z:Hid (blen (val W32 xs)=32*k+blen t):=by
  unfold Hid
  rw[J,ZcK]
  exact Zlw d y
 have g:t<W32:=o ▸ m.getD zQ k
 have R:blen t≤32:=eZ.2 (by rw[zU] at g;exact g)
 obtain⟨r,K⟩:=yE (blen (val W32 xs))
 rw[K] at z ⊢
 have S:b≠w.heap.size:=Nat.ne_of_lt Q
 rw[I]
 clear H m p J d o K g O u
 have X:(((k:Int)+1) == 0)=false:=by simp;omega
 go_enter Tryz.func201,Tryz.ntmps201
 go_wp2
 go_loop [3,4] (fun nv C=>∃ n t':Nat,nv=.int .i64 (n:Int)∧C=.int .u32 (t':Int)∧Hid (n+blen t'=r)∧n≤32*k+32) (fun _ C=>(intOf C).toNat)
 case atStart=>exact⟨32*k,t,by go_num,rfl,by have:=z.out;unfold Hid;omega,by omega⟩
 case round =>
  obtain⟨n,t',rfl,rfl,D,Y⟩:=hrel
  by_cases L:0<t'
  ·have e:Hid (n+1+blen (t'/2)=r):=by have f:=D.out;rw[ZaM L] at f;unfold Hid;omega
   have E:n+1≤32*k+32:=by
    have f:=D.out;have Z:=z.out;rw[ZaM L] at f;omega
   have T:(t':Int)/2=((t'/2:Nat):Int):=rfl
   have F:t'/2<t':=by omega
   obtain⟨U,h⟩:=yE (t'/2)
   rw[h] at e T F
   clear h
   go_wp2
   go_round
   case rel=>exact⟨n+1,U,by go_num,rfl,e,E⟩
   case measure=>simp[intOf];omega
  obtain rfl:t'=0:=by omega
  have e:Hid (n=r):=by have f:=D.out;rw[ZfM] at f;exact f
  go_wp2
  go_ret
  exact⟨by rw[e.out];rfl,(Fr.refl _ _).alloc _⟩
theorem zP.inj {w:World}{v:Value}{m n:Nat}(h:zP w v m)(k:zP w v n):m=n:=by
 obtain⟨A,g,c,rfl,_,j,_,_,rfl⟩:=h
 obtain⟨s,l,t,p,_,q,_,_,rfl⟩:=k
 injection p with e1 e2 e3
 subst e1
 have:g=l:=by
  apply List.ext_getElem e2
  intro i e f
  obtain⟨b,o,rfl,_,r⟩:=j.at e
  obtain⟨u,x,d,_,a⟩:=q.at f
  injection d with d
  injection d with e3 e4
  subst e3 e4
  rw[r] at a
  injection a with a
  injection a with _ a
  rw[List.getElem?_eq_getElem e,List.getElem?_eq_getElem f] at a
  simp only[qC] at a
  omega
 rw[this]
open Classical in
noncomputable def Zcl (w:World) (v:Value):Nat:=if h:∃ n,zP w v n then Classical.choose h else 0
theorem ZfN {w:World}{v:Value}{n:Nat}(h:zP w v n):Zcl w v=n:=by
 have a:∃ n,zP w v n:=⟨n,h⟩
 unfold Zcl
 rw[dif_pos a]
 exact (rY a).inj h
theorem zP.len_zero {w:World}{A:Option Addr}{l c n:Nat}(h:zP w (.slice A l c) n):(n=0↔l=0)∧l=ml n:=by
 obtain⟨j,f,k,a,_,_,g,i,b⟩:=h
 injection a with _ a
 have d:=kG g i
 rw[b] at d
 refine⟨⟨fun e=>?_,fun e=>?_⟩,by omega⟩
 ·rw[e,ZeY] at d;omega
 rw[e] at a
 have:f=[]:=vZ.1 a.symm
 rw[this] at b
 simpa using b.symm
theorem Zg2 (a b:Value)(x y:Int)(w:World)(I:zR w a x)(J:zR w b y)(hx:xY x)(hy:xY y):yA 200 #[a,b] w (lL w (Int.gcd x y:Int)):=by
 obtain⟨s,A,l,c,rfl⟩:=I.shp
 obtain⟨t,B,m,d,rfl⟩:=J.shp
 have HM:=zh I.mag
 have HN:=zh J.mag
 have HX:Hid (ml x.natAbs≤17592186044416):=hx
 have HY:Hid (ml y.natAbs≤17592186044416):=hy
 obtain⟨r,K⟩:=yE (Int.gcd x y)
 have HR:Hid (Nat.gcd x.natAbs y.natAbs=r):=K
 rw[K]
 clear I J hx hy K
 go_enter Tryz.func200,Tryz.ntmps200
 go_wp2_with fail
 generalize k:World.alloc (World.alloc (World.alloc w _) _) _=w1
 obtain⟨b0,b1,b2,h⟩:=Zif k
 clear k
 have L:=zh b2
 have HE:=zh h
 replace HM:=zh (HM.out.ext h)
 replace HN:=zh (HN.out.ext h)
 obtain⟨c0,c1,f0,f1⟩:=b0.cell2
 obtain⟨q,M,f2,f3⟩:=b1.cell2
 clear b0 b1 b2 h
 go_quiet (fail)
 clear c0 c1 f0 f1 q M f2 f3
 go_wp2_with fail
 go_loopw [5,6,7,8] (fun xv N _ _ wr=>∃ (u v:Nat) (O z:Option Addr) (P Q m' C:Nat),xv=.slice O P Q∧N=.slice z m' C∧Hid (zP wr (.slice O P Q) u)∧Hid (zP wr (.slice z m' C) v)∧Hid (ml u≤17592186044416)∧Hid (ml v≤17592186044416)∧Hid (Nat.gcd u v=r)∧Hid (Ext w1 wr)) (fun _ N _ _ wr=>Zcl wr N)
 case atStart=>exact⟨_,_,_,_,_,_,_,_,rfl,rfl,HM.out.ext ((Fr.refl _ _).drewN _),HN.out.ext ((Fr.refl _ _).drewN _),HX,HY,HR,(Fr.refl _ _).drewN _⟩
 case round =>
  obtain⟨u,v,O,z,P,Q,m',C,rfl,rfl,hU,D,hu,E,R,S⟩:=hrel
  obtain⟨F,z2⟩:=D.out.len_zero
  have h0:m'≤17592186044416:=by have:=E.out;omega
  by_cases T:m'=0
  ·subst T
   have f:v=0:=F.2 rfl
   have U:Hid (u=r):=by have:=R.out;rw[f,rD] at this;exact this
   have HB:=zh (L.out.ext S.out)
   have V:=zh (HE.out.trans S.out)
   clear F z2 f
   go_wp2_with fail
   refine (ZaL false _ u _ hU.out).mono ?_
   rintro e G ⟨_,rfl,W,g⟩
   obtain⟨s2,A2,l2,q,rfl⟩:=W.shp
   have HI:=zh W
   have j:=zh (HB.out.ext g)
   have X:=zh (V.out.trans g)
   obtain⟨k0,k1,k2,k3⟩:=j.out.cell2
   clear W g
   go_wp2
   have n:Fr (fun i=>i=(w.heap.size+1+1)) G ((G.setCell ⟨w.heap.size+1+1,0,none⟩ (.bool s2)).setCell ⟨w.heap.size+1+1,1,none⟩ (.slice A2 l2 q)):=((Fr.refl (fun i=>i=(w.heap.size+1+1)) _).setCell (p:=⟨w.heap.size+1+1,0,none⟩) (Or.inl rfl) _).setCell (p:=⟨w.heap.size+1+1,1,none⟩) (Or.inl rfl) _
   exact ZcM rfl rfl ((j.out.set_ 0 _).set_ 1 _) (by rw[←U.out];exact HI.out.oth j.out lU n) (X.out.next n (fun i hi e=>by omega))
  have i0:0<m':=by omega
  have f:0<v:=by
   rcases uJ v with e|e;· exact absurd (F.1 e) T
   ·exact e
  have U:Hid (Nat.gcd v (u%v)=r):=by have:=R.out;rw[tV,qJ,tV] at this;exact this
  have Y:=zh (uD (aN (qX (uP u f))) E.out)
  have Z:=zh (uP u f)
  have HC:=zh (Zew _ _ u v wr hU.out D.out hu.out E.out f)
  clear F z2 f T R
  go_wp2_with fail
  refine HC.out.mono ?_
  rintro e G ⟨_,_,rfl,hq,H,g⟩
  obtain⟨A2,l2,q,rfl⟩:=hq.slice
  obtain⟨A3,l3,M,rfl⟩:=H.slice
  have a0:=zh H
  have d0:=zh (D.out.ext g)
  have e0:=zh (S.out.trans g)
  have g0:Hid (Zcl wr (.slice z m' C)=v):=ZfN D.out
  have o:Hid (Zcl G (.slice A3 l3 M)=u%v):=ZfN H
  clear hq H g HC
  go_wp2
  go_roundw
  case rel=>exact⟨v,u%v,_,_,_,_,_,_,rfl,rfl,d0,a0,E,Y,U,e0⟩
  case measure=>rw[g0.out,o.out];exact Z.out
theorem xY.le {x y:Int}(h:xY x)(a:y.natAbs≤x.natAbs):xY y:=uD (aN a) h
theorem xY.gcd {x y:Int}(h:xY y)(a:y≠0):xY (Int.gcd x y:Int):=h.le (by
 have:Int.gcd x y≤y.natAbs:=qE _ (by omega)
 omega)
theorem xY.tdiv {x y:Int}(h:xY x):xY (x.tdiv y):=h.le (by rw[Int.natAbs_tdiv];exact vU _ _)
theorem Zbs {x y:Int}(h:0<y):0<Int.gcd x y:=by
 rcases uJ (Int.gcd x y) with e|e
 ·have:=(Int.gcd_eq_zero_iff.1 e).2;omega
 exact e
def lX (q:Rat):Prop:=ml q.num.natAbs≤100000∧ml q.den≤100000
theorem mlm {x y:Int}{a b:Nat}(c:ml x.natAbs≤a)(d:ml y.natAbs≤b):ml (x*y).natAbs≤a+b:=by
 have h:=Znp x.natAbs y.natAbs
 rw[←rF] at h
 omega
theorem mla {x y:Int}{a:Nat}(b:ml x.natAbs≤a)(c:ml y.natAbs≤a):ml (x+y).natAbs≤a+1 :=
 uD (aN (Int.natAbs_add_le x y)) (Znq b c)
theorem lX.neg {q:Rat}(h:lX q):lX (-q):=by
 unfold lX at *
 rw[ZdA,ZdB,Int.natAbs_neg]
 exact h
theorem ZaN {w w':World}{e:Ending}{a b:Int}(h:Zfb w a b e w'):wS Zce (fun x w=>zR w (wI x.1) a∧zR w (wI x.2) b) w e w':=by
 obtain⟨u,v,rfl,d,f,Q⟩:=h
 obtain⟨s,A,l,c,rfl⟩:=d.shp
 obtain⟨j,k,m,n,rfl⟩:=f.shp
 exact⟨((s,A,l,c),(j,k,m,n)),rfl,Q,boxn Q (fun S o g i=>⟨d.nrb g i,f.nrb g i⟩)⟩
theorem nfit {z:Int}{k:Nat}(h:ml z.natAbs≤k)(a:Nat.ble k 17592186044416=true):xY z:=uD h (vK a)
theorem mlc {n k:Nat}(h:ml n≤k):ml ((n:Nat):Int).natAbs≤k:=by rw[vT];exact h
theorem ZfO {x y:Int}{q:Rat}(a:Rat.divInt x y=q)(b:0<y)(_:1<((Int.gcd x y:Nat):Int).natAbs):q.num=x.tdiv ((Int.gcd x y:Nat):Int)∧(q.den:Int)=y.tdiv ((Int.gcd x y:Nat):Int):=by
 rw[←a];exact Zg0 b
theorem ZfP {x y:Int}{q:Rat}(b:Rat.divInt x y=q)(a:0<y)(h:¬ 1<((Int.gcd x y:Nat):Int).natAbs):q.num=x∧(q.den:Int)=y:=by
 have c:=Zbs (x:=x) a
 rw[←b];exact Zck a (by omega)
theorem bG {n:Nat}(h:(((n:Nat):Int) == 1)=true):n=1:=by have:=eq_of_beq h;omega
theorem bH {n:Nat}(h:(((n:Nat):Int) == 1)=false):n≠1:=fun e=>by subst e;cases h
theorem Zkk (a b:Value)(x y:Int)(q:Rat)(w:World)(Y:zR w a x)(W:zR w b y)(hx:xY x)(hy:xY y)(h0:y<0)(hq:Rat.divInt x y=q) :
 yA 113 #[a,b] w (kY w q):=by
 obtain⟨s0,K,L,M,rfl⟩:=Y.shp
 obtain⟨s1,N,O,P,rfl⟩:=W.shp
 obtain rfl:s1=true:=W.sneg h0
 have U:xY (-(x)):=hx.neg
 have F:xY (-(y)):=hy.neg
 have X:0 < -(y):=by omega
 have S:xY ((Int.gcd (-(x)) (-(y)):Nat):Int):=xY.gcd F (by omega)
 have V:((Int.gcd (-(x)) (-(y)):Nat):Int)≠0:=by have:=Zbs (x := -(x)) X;omega
 have Z:Rat.divInt (-(x)) (-(y))=q:=by rw[Rat.neg_divInt_neg];exact hq
 refine xB (Φ:=fun w=>(zR w (.agg #[.bool s0,.slice K L M]) (x)∧zR w (.agg #[.bool true,.slice N O P]) (y))) Tryz.func113 rfl (by kernel_rfl) (fun w' hf=>⟨Y.ext hf,W.ext hf⟩) ?_
 refine zD (zC (xr 3 [(2,.p 2 0),(3,.p 3 0),(4,.p 4 0)] [bR4 4 127 false none 0 0 false none 0 0,bI2 3 125 true N O P,bI2 2 125 s0 K L M] ?_))
 refine xe (zB (zD (zD (zC (xr 2 [(2,.p 2 0),(3,.p 3 0),(4,.p 4 0),yB 7 true] [bR4 4 127 false none 0 0 false none 0 0,bI2 3 125 true N O P,bI2 2 125 s0 K L M] ?_)))))
 refine xe (zB (xa ?_))
 refine wF 6 (by kernel_rfl) (by kernel_rfl) zK ?_
 refine xf 1 [(2,.p 2 0),(3,.p 3 0),(4,.p 4 0),eI2 8 s0 K L M] [bR4 4 127 false none 0 0 false none 0 0,bI2 3 125 true N O P,bI2 2 125 s0 K L M] ?_
 refine xd 184 [vI2 s0 K L M] 9 wI _ (fun w R Q=>yM xL (ZdC _ (x) _ Q.1)) fun⟨c,d,e,f⟩=>?_
 refine xf 1 [(2,.p 2 0),(3,.p 3 0),(4,.p 4 0),eI2 9 c d e f,eI2 10 true N O P] [bR4 4 127 false none 0 0 false none 0 0,bI2 3 125 true N O P,bI2 2 125 s0 K L M] ?_
 refine xd 184 [vI2 true N O P] 11 wI _ (fun w R Q=>yM xL (ZdC _ (y) _ Q.1.2)) fun⟨g,i,j,k⟩=>?_
 refine xf 2 [(2,.p 2 0),(3,.p 3 0),(4,.p 4 0)] [bI2 3 125 g i j k,bI2 2 125 c d e f,bR4 4 127 false none 0 0 false none 0 0,bI2 3 125 true N O P,bI2 2 125 s0 K L M] ?_
 refine xz (xe (zB (zD (zC (xr 2 [(2,.p 2 0),(3,.p 3 0),(4,.p 4 0),eI2 12 c d e f,eI2 13 g i j k] [bI2 3 125 g i j k,bI2 2 125 c d e f,bR4 4 127 false none 0 0 false none 0 0] ?_)))))
 refine xc 200 [vI2 c d e f,vI2 g i j k] 14 wI _ (fun w R Q=>yM xL (Zg2 _ _ (-(x)) (-(y)) _ Q.1.2 Q.2 U F)) fun⟨l,m,n,o⟩=>?_
 refine xr 2 [(2,.p 2 0),(3,.p 3 0),(4,.p 4 0),(5,.p 5 0)] [bI2 5 125 l m n o,bI2 3 125 g i j k,bI2 2 125 c d e f,bR4 4 127 false none 0 0 false none 0 0] ?_
 refine xe (zB (zD (zD (zC (xr 1 [(2,.p 2 0),(3,.p 3 0),(4,.p 4 0),(5,.p 5 0),eI2 15 l m n o] [bI2 5 125 l m n o,bI2 3 125 g i j k,bI2 2 125 c d e f,bR4 4 127 false none 0 0 false none 0 0] ?_)))))
 refine xc 201 [vI2 l m n o] 16 (fun _:Unit=>.int .i64 ((blen (((Int.gcd (-(x)) (-(y)):Nat):Int)).natAbs:Nat):Int)) _ (fun w R Q=>yN (dA _ (((Int.gcd (-(x)) (-(y)):Nat):Int)) _ Q.2 S)) fun T=>?_
 refine xr 1 [(2,.p 2 0),(3,.p 3 0),(4,.p 4 0),(5,.p 5 0),(17,.v (.bool (decide (((blen (((Int.gcd (-(x)) (-(y)):Nat):Int)).natAbs:Nat):Int)>1))))] [bI2 5 125 l m n o,bI2 3 125 g i j k,bI2 2 125 c d e f,bR4 4 127 false none 0 0 false none 0 0] ?_
 refine xe (zB ?_)
 refine zW ((decide (((blen (((Int.gcd (-(x)) (-(y)):Nat):Int)).natAbs:Nat):Int)>1))) (by kernel_rfl) (fun G=>?_) fun G=>?_
 ·have H:=ZfO Z X (bF.1 (by have:=uF G;omega))
  refine zD (zC (xr 2 [(2,.p 2 0),(3,.p 3 0),(4,.p 4 0),(5,.p 5 0),eI2 19 c d e f,eI2 20 l m n o] [bI2 5 125 l m n o,bI2 3 125 g i j k,bI2 2 125 c d e f,bR4 4 127 false none 0 0 false none 0 0] ?_))
  refine xc 202 [vI2 c d e f,vI2 l m n o] 21 Zce _ (fun w R Q=>yM ZaN (bE _ _ (-(x)) (((Int.gcd (-(x)) (-(y)):Nat):Int)) _ Q.1.1.1.2 Q.1.2 U S V)) fun T=>?_
  obtain⟨⟨r,s,t,u⟩,⟨a0,b0,d0,e0⟩⟩:=T
  refine xr 4 [(2,.p 2 0),(3,.p 3 0),(4,.p 4 0),(5,.p 5 0)] [bI2 5 125 l m n o,bI2 3 125 g i j k,bI2 2 125 r s t u,bR4 4 127 false none 0 0 false none 0 0] ?_
  refine xe (zB (zC (xr 2 [(2,.p 2 0),(3,.p 3 0),(4,.p 4 0),eI2 25 g i j k,eI2 26 l m n o] [bI2 3 125 g i j k,bI2 2 125 r s t u,bR4 4 127 false none 0 0 false none 0 0] ?_)))
  refine xc 202 [vI2 g i j k,vI2 l m n o] 27 Zce _ (fun w R Q=>yM ZaN (bE _ _ (-(y)) (((Int.gcd (-(x)) (-(y)):Nat):Int)) _ Q.1.1.1.2 Q.1.1.2 F S V)) fun T=>?_
  obtain⟨⟨B,C,D,E⟩,⟨f0,g0,i0,j0⟩⟩:=T
  refine xr 4 [(2,.p 2 0),(3,.p 3 0),(4,.p 4 0)] [bI2 3 125 B C D E,bI2 2 125 r s t u,bR4 4 127 false none 0 0 false none 0 0] ?_
  refine xe (zB (zD (zD (zC (xr 1 [(2,.p 2 0),(3,.p 3 0),(4,.p 4 0),eI2 30 B C D E] [bI2 3 125 B C D E,bI2 2 125 r s t u,bR4 4 127 false none 0 0 false none 0 0] ?_)))))
  refine xc 201 [vI2 B C D E] 31 (fun _:Unit=>.int .i64 ((blen ((-(y)).tdiv (((Int.gcd (-(x)) (-(y)):Nat):Int))).natAbs:Nat):Int)) _ (fun w R Q=>yN (dA _ ((-(y)).tdiv (((Int.gcd (-(x)) (-(y)):Nat):Int))) _ Q.2.1 (xY.tdiv F))) fun T=>?_
  refine xr 1 [(2,.p 2 0),(3,.p 3 0),(4,.p 4 0),(32,.v (.bool ((((blen ((-(y)).tdiv (((Int.gcd (-(x)) (-(y)):Nat):Int))).natAbs:Nat):Int):Int) == 1)))] [bI2 3 125 B C D E,bI2 2 125 r s t u,bR4 4 127 false none 0 0 false none 0 0] ?_
  refine xe (zB ?_)
  refine zW (((((blen ((-(y)).tdiv (((Int.gcd (-(x)) (-(y)):Nat):Int))).natAbs:Nat):Int):Int) == 1)) (by kernel_rfl) (fun I=>?_) fun I=>?_
  ·have z:=jV.1 (bG I)
   refine zC (xr 2 [(2,.p 2 0),(3,.p 3 0),(4,.p 4 0)] [bI2 3 125 false none 0 0,bI2 2 125 r s t u,bR4 4 127 false none 0 0 false none 0 0] ?_)
   refine xe (zB (zD (zC (xr 4 [(4,.p 4 0)] [bR4 4 127 r s t u false none 0 0] ?_))))
   refine xe (zB (zI ?_))
   refine zG (v:=.agg #[.bool r,.slice s t u,.bool false,.slice none 0 0]) (by kernel_rfl) fun w' R Q=>?_
   exact⟨_,rfl,zF.of (by rw[H.1];exact Q.1.1.2.1) (by rw[kF (by have:=z;have:=H.2;have:=q.den_nz;omega)];exact (zR.nil _)),R⟩
  have z:=fun h=>bH I (jV.2 h)
  refine zJ (zB (zD (zC (xr 4 [(4,.p 4 0)] [bR4 4 127 r s t u B C D E] ?_))))
  refine xe (zB (zI ?_))
  refine zG (v:=.agg #[.bool r,.slice s t u,.bool B,.slice C D E]) (by kernel_rfl) fun w' R Q=>?_
  exact⟨_,rfl,zF.of (by rw[H.1];exact Q.1.1.2.1) (by rw[iT (fun h=>z (by have:=H.2;omega)),H.2];exact Q.1.2.1),R⟩
 have H:=ZfP Z X (fun h=>absurd (bF.2 h) (by have:=uE G;omega))
 refine zJ (zB (zD (zD (zC (xr 1 [(2,.p 2 0),(3,.p 3 0),(4,.p 4 0),eI2 30 g i j k] [bI2 3 125 g i j k,bI2 2 125 c d e f,bR4 4 127 false none 0 0 false none 0 0] ?_)))))
 refine xc 201 [vI2 g i j k] 31 (fun _:Unit=>.int .i64 ((blen (-(y)).natAbs:Nat):Int)) _ (fun w R Q=>yN (dA _ (-(y)) _ Q.1.1.2 F)) fun T=>?_
 refine xr 1 [(2,.p 2 0),(3,.p 3 0),(4,.p 4 0),(32,.v (.bool ((((blen (-(y)).natAbs:Nat):Int):Int) == 1)))] [bI2 3 125 g i j k,bI2 2 125 c d e f,bR4 4 127 false none 0 0 false none 0 0] ?_
 refine xe (zB ?_)
 refine zW (((((blen (-(y)).natAbs:Nat):Int):Int) == 1)) (by kernel_rfl) (fun J=>?_) fun J=>?_
 ·have A:=jV.1 (bG J)
  refine zC (xr 2 [(2,.p 2 0),(3,.p 3 0),(4,.p 4 0)] [bI2 3 125 false none 0 0,bI2 2 125 c d e f,bR4 4 127 false none 0 0 false none 0 0] ?_)
  refine xe (zB (zD (zC (xr 4 [(4,.p 4 0)] [bR4 4 127 c d e f false none 0 0] ?_))))
  refine xe (zB (zI ?_))
  refine zG (v:=.agg #[.bool c,.slice d e f,.bool false,.slice none 0 0]) (by kernel_rfl) fun w' R Q=>?_
  exact⟨_,rfl,zF.of (by rw[H.1];exact Q.1.1.1.1.2) (by rw[kF (by have:=A;have:=H.2;have:=q.den_nz;omega)];exact (zR.nil _)),R⟩
 have A:=fun h=>bH J (jV.2 h)
 refine zJ (zB (zD (zC (xr 4 [(4,.p 4 0)] [bR4 4 127 c d e f g i j k] ?_))))
 refine xe (zB (zI ?_))
 refine zG (v:=.agg #[.bool c,.slice d e f,.bool g,.slice i j k]) (by kernel_rfl) fun w' R Q=>?_
 exact⟨_,rfl,zF.of (by rw[H.1];exact Q.1.1.1.1.2) (by rw[iT (fun h=>A (by have:=H.2;omega)),H.2];exact Q.1.1.1.2),R⟩
theorem Zkl (a b:Value)(x y:Int)(q:Rat)(w:World)(O:zR w a x)(M:zR w b y)(T:xY x)(U:xY y)(h0:0<y)(V:Rat.divInt x y=q) :
 yA 113 #[a,b] w (kY w q):=by
 obtain⟨s0,o,r,s,rfl⟩:=O.shp
 obtain⟨W,l,m,n,rfl⟩:=M.shp
 obtain rfl:W=false:=M.spos (by omega)
 have K:xY (x):=T
 have D:xY (y):=U
 have N:0<y:=by omega
 have I:xY ((Int.gcd (x) (y):Nat):Int):=xY.gcd D (by omega)
 have L:((Int.gcd (x) (y):Nat):Int)≠0:=by have:=Zbs (x:=x) N;omega
 have P:Rat.divInt (x) (y)=q:=V
 refine xB (Φ:=fun w=>(zR w (.agg #[.bool s0,.slice o r s]) (x)∧zR w (.agg #[.bool false,.slice l m n]) (y))) Tryz.func113 rfl (by kernel_rfl) (fun w' S=>⟨O.ext S,M.ext S⟩) ?_
 refine zD (zC (xr 3 [(2,.p 2 0),(3,.p 3 0),(4,.p 4 0)] [bR4 4 127 false none 0 0 false none 0 0,bI2 3 125 false l m n,bI2 2 125 s0 o r s] ?_))
 refine xe (zB (zD (zD (zC (xr 2 [(2,.p 2 0),(3,.p 3 0),(4,.p 4 0),yB 7 false] [bR4 4 127 false none 0 0 false none 0 0,bI2 3 125 false l m n,bI2 2 125 s0 o r s] ?_)))))
 refine xe (zB (xb (zJ (zB (zD (zC (xr 2 [(2,.p 2 0),(3,.p 3 0),(4,.p 4 0),eI2 12 s0 o r s,eI2 13 false l m n] [bR4 4 127 false none 0 0 false none 0 0,bI2 3 125 false l m n,bI2 2 125 s0 o r s] ?_)))))))
 refine xc 200 [vI2 s0 o r s,vI2 false l m n] 14 wI _ (fun w R Q=>yM xL (Zg2 _ _ (x) (y) _ Q.1 Q.2 K D)) fun⟨c,d,e,f⟩=>?_
 refine xr 2 [(2,.p 2 0),(3,.p 3 0),(4,.p 4 0),(5,.p 5 0)] [bI2 5 125 c d e f,bR4 4 127 false none 0 0 false none 0 0,bI2 3 125 false l m n,bI2 2 125 s0 o r s] ?_
 refine xe (zB (zD (zD (zC (xr 1 [(2,.p 2 0),(3,.p 3 0),(4,.p 4 0),(5,.p 5 0),eI2 15 c d e f] [bI2 5 125 c d e f,bR4 4 127 false none 0 0 false none 0 0,bI2 3 125 false l m n,bI2 2 125 s0 o r s] ?_)))))
 refine xc 201 [vI2 c d e f] 16 (fun _:Unit=>.int .i64 ((blen (((Int.gcd (x) (y):Nat):Int)).natAbs:Nat):Int)) _ (fun w R Q=>yN (dA _ (((Int.gcd (x) (y):Nat):Int)) _ Q.2 I)) fun J=>?_
 refine xr 1 [(2,.p 2 0),(3,.p 3 0),(4,.p 4 0),(5,.p 5 0),(17,.v (.bool (decide (((blen (((Int.gcd (x) (y):Nat):Int)).natAbs:Nat):Int)>1))))] [bI2 5 125 c d e f,bR4 4 127 false none 0 0 false none 0 0,bI2 3 125 false l m n,bI2 2 125 s0 o r s] ?_
 refine xe (zB ?_)
 refine zW ((decide (((blen (((Int.gcd (x) (y):Nat):Int)).natAbs:Nat):Int)>1))) (by kernel_rfl) (fun E=>?_) fun E=>?_
 ·have F:=ZfO P N (bF.1 (by have:=uF E;omega))
  refine zD (zC (xr 2 [(2,.p 2 0),(3,.p 3 0),(4,.p 4 0),(5,.p 5 0),eI2 19 s0 o r s,eI2 20 c d e f] [bI2 5 125 c d e f,bR4 4 127 false none 0 0 false none 0 0,bI2 3 125 false l m n,bI2 2 125 s0 o r s] ?_))
  refine xc 202 [vI2 s0 o r s,vI2 c d e f] 21 Zce _ (fun w R Q=>yM ZaN (bE _ _ (x) (((Int.gcd (x) (y):Nat):Int)) _ Q.1.1.1 Q.1.2 K I L)) fun J=>?_
  obtain⟨⟨g,i,j,k⟩,⟨X,Y,Z,a0⟩⟩:=J
  refine xr 4 [(2,.p 2 0),(3,.p 3 0),(4,.p 4 0),(5,.p 5 0)] [bI2 5 125 c d e f,bR4 4 127 false none 0 0 false none 0 0,bI2 3 125 false l m n,bI2 2 125 g i j k] ?_
  refine xe (zB (zC (xr 2 [(2,.p 2 0),(3,.p 3 0),(4,.p 4 0),eI2 25 false l m n,eI2 26 c d e f] [bR4 4 127 false none 0 0 false none 0 0,bI2 3 125 false l m n,bI2 2 125 g i j k] ?_)))
  refine xc 202 [vI2 false l m n,vI2 c d e f] 27 Zce _ (fun w R Q=>yM ZaN (bE _ _ (y) (((Int.gcd (x) (y):Nat):Int)) _ Q.1.1.1.2 Q.1.1.2 D I L)) fun J=>?_
  obtain⟨⟨z,A,B,C⟩,⟨b0,d0,e0,f0⟩⟩:=J
  refine xr 4 [(2,.p 2 0),(3,.p 3 0),(4,.p 4 0)] [bR4 4 127 false none 0 0 false none 0 0,bI2 3 125 z A B C,bI2 2 125 g i j k] ?_
  refine xe (zB (zD (zD (zC (xr 1 [(2,.p 2 0),(3,.p 3 0),(4,.p 4 0),eI2 30 z A B C] [bR4 4 127 false none 0 0 false none 0 0,bI2 3 125 z A B C,bI2 2 125 g i j k] ?_)))))
  refine xc 201 [vI2 z A B C] 31 (fun _:Unit=>.int .i64 ((blen ((y).tdiv (((Int.gcd (x) (y):Nat):Int))).natAbs:Nat):Int)) _ (fun w R Q=>yN (dA _ ((y).tdiv (((Int.gcd (x) (y):Nat):Int))) _ Q.2.1 (xY.tdiv D))) fun J=>?_
  refine xr 1 [(2,.p 2 0),(3,.p 3 0),(4,.p 4 0),(32,.v (.bool ((((blen ((y).tdiv (((Int.gcd (x) (y):Nat):Int))).natAbs:Nat):Int):Int) == 1)))] [bR4 4 127 false none 0 0 false none 0 0,bI2 3 125 z A B C,bI2 2 125 g i j k] ?_
  refine xe (zB ?_)
  refine zW (((((blen ((y).tdiv (((Int.gcd (x) (y):Nat):Int))).natAbs:Nat):Int):Int) == 1)) (by kernel_rfl) (fun G=>?_) fun G=>?_
  ·have t:=jV.1 (bG G)
   refine zC (xr 2 [(2,.p 2 0),(3,.p 3 0),(4,.p 4 0)] [bR4 4 127 false none 0 0 false none 0 0,bI2 3 125 false none 0 0,bI2 2 125 g i j k] ?_)
   refine xe (zB (zD (zC (xr 4 [(4,.p 4 0)] [bR4 4 127 g i j k false none 0 0] ?_))))
   refine xe (zB (zI ?_))
   refine zG (v:=.agg #[.bool g,.slice i j k,.bool false,.slice none 0 0]) (by kernel_rfl) fun w' R Q=>?_
   exact⟨_,rfl,zF.of (by rw[F.1];exact Q.1.1.2.1) (by rw[kF (by have:=t;have:=F.2;have:=q.den_nz;omega)];exact (zR.nil _)),R⟩
  have t:=fun h=>bH G (jV.2 h)
  refine zJ (zB (zD (zC (xr 4 [(4,.p 4 0)] [bR4 4 127 g i j k z A B C] ?_))))
  refine xe (zB (zI ?_))
  refine zG (v:=.agg #[.bool g,.slice i j k,.bool z,.slice A B C]) (by kernel_rfl) fun w' R Q=>?_
  exact⟨_,rfl,zF.of (by rw[F.1];exact Q.1.1.2.1) (by rw[iT (fun h=>t (by have:=F.2;omega)),F.2];exact Q.1.2.1),R⟩
 have F:=ZfP P N (fun h=>absurd (bF.2 h) (by have:=uE E;omega))
 refine zJ (zB (zD (zD (zC (xr 1 [(2,.p 2 0),(3,.p 3 0),(4,.p 4 0),eI2 30 false l m n] [bR4 4 127 false none 0 0 false none 0 0,bI2 3 125 false l m n,bI2 2 125 s0 o r s] ?_)))))
 refine xc 201 [vI2 false l m n] 31 (fun _:Unit=>.int .i64 ((blen (y).natAbs:Nat):Int)) _ (fun w R Q=>yN (dA _ (y) _ Q.1.1.2 D)) fun J=>?_
 refine xr 1 [(2,.p 2 0),(3,.p 3 0),(4,.p 4 0),(32,.v (.bool ((((blen (y).natAbs:Nat):Int):Int) == 1)))] [bR4 4 127 false none 0 0 false none 0 0,bI2 3 125 false l m n,bI2 2 125 s0 o r s] ?_
 refine xe (zB ?_)
 refine zW (((((blen (y).natAbs:Nat):Int):Int) == 1)) (by kernel_rfl) (fun H=>?_) fun H=>?_
 ·have u:=jV.1 (bG H)
  refine zC (xr 2 [(2,.p 2 0),(3,.p 3 0),(4,.p 4 0)] [bR4 4 127 false none 0 0 false none 0 0,bI2 3 125 false none 0 0,bI2 2 125 s0 o r s] ?_)
  refine xe (zB (zD (zC (xr 4 [(4,.p 4 0)] [bR4 4 127 s0 o r s false none 0 0] ?_))))
  refine xe (zB (zI ?_))
  refine zG (v:=.agg #[.bool s0,.slice o r s,.bool false,.slice none 0 0]) (by kernel_rfl) fun w' R Q=>?_
  exact⟨_,rfl,zF.of (by rw[F.1];exact Q.1.1.1.1) (by rw[kF (by have:=u;have:=F.2;have:=q.den_nz;omega)];exact (zR.nil _)),R⟩
 have u:=fun h=>bH H (jV.2 h)
 refine zJ (zB (zD (zC (xr 4 [(4,.p 4 0)] [bR4 4 127 s0 o r s false l m n] ?_))))
 refine xe (zB (zI ?_))
 refine zG (v:=.agg #[.bool s0,.slice o r s,.bool false,.slice l m n]) (by kernel_rfl) fun w' R Q=>?_
 exact⟨_,rfl,zF.of (by rw[F.1];exact Q.1.1.1.1) (by rw[iT (fun h=>u (by have:=F.2;omega)),F.2];exact Q.1.1.1.2),R⟩
theorem bO (a b:Value)(x y:Int)(w:World)(c:zR w a x)(d:zR w b y)(e:xY x)(f:xY y)(g:y≠0):yA 113 #[a,b] w (kY w (Rat.divInt x y)):=by
 rcases Int.lt_or_gt_of_ne g with h|h
 ·exact Zkk a b x y _ w c d e f h rfl
 exact Zkl a b x y _ w c d e f h rfl
theorem Zcm (a:Value)(q:Rat)(w:World)(m:zF w a q) :
 yA 102 #[a] w (kY w (-q)):=by
 obtain⟨s0,b,c,d,e,f,g,h,rfl⟩:=m.shp
 refine xB (Φ:=fun w=>zF w (.agg #[.bool s0,.slice b c d,.bool e,.slice f g h]) (q)) Tryz.func102 rfl (by kernel_rfl) (fun w' n=>m.ext n) ?_
 refine zD (zC (xr 2 [(1,.p 1 0),(2,.p 2 0)] [bR4 2 127 false none 0 0 false none 0 0,bR4 1 127 s0 b c d e f g h] ?_))
 refine xe (zB (zD ?_))
 refine wF 7 (by kernel_rfl) (by kernel_rfl) zK ?_
 refine xf 2 [(1,.p 1 0),(2,.p 2 0),eI2 4 s0 b c d] [bR4 2 127 false none 0 0 false none 0 0,bR4 1 127 s0 b c d e f g h] ?_
 refine xd 184 [vI2 s0 b c d] 5 wI _ (fun w R Q=>yM xL (ZdC _ ((q).num) _ Q.num)) fun⟨i,j,k,l⟩=>?_
 refine xf 4 [(2,.p 2 0)] [bR4 2 127 i j k l e f g h,bR4 2 127 false none 0 0 false none 0 0,bR4 1 127 s0 b c d e f g h] ?_
 refine xz (xe (zB (zI ?_)))
 refine zG (v:=.agg #[.bool i,.slice j k l,.bool e,.slice f g h]) (by kernel_rfl) fun w' R Q=>?_
 exact⟨_,rfl,zF.of (by rw[ZdA];exact Q.2) (by rw[Zlm];exact Q.1.den),R⟩
theorem fS (a:Value)(q:Rat)(w:World)(e:zF w a q) :
 yA 103 #[a] w (RetV w (.int .i64 q.num.sign)):=by
 obtain⟨s0,b,c,d,f,g,h,i,rfl⟩:=e.shp
 refine xB (Φ:=fun w=>zF w (.agg #[.bool s0,.slice b c d,.bool f,.slice g h i]) (q)) Tryz.func103 rfl (by kernel_rfl) (fun w' j=>e.ext j) ?_
 refine zD (zC (xr 2 [(1,.p 1 0),yJ 2 0] [bR4 1 127 s0 b c d f g h i] ?_))
 refine xe (zB (zD (zC (xr 2 [yJ 2 0,eI2 4 s0 b c d] [] ?_))))
 refine xc 185 [vI2 s0 b c d] 5 (fun _:Unit=>.int .i64 ((q).num).sign) _ (fun w R Q=>yN (Zkj _ ((q).num) _ Q.num)) fun k=>?_
 refine xr 1 [(2,.v (.int .i64 ((q).num).sign))] [] ?_
 refine xe (zB (zI ?_))
 refine zG (v:=.int .i64 ((q).num).sign) (by kernel_rfl) fun w' R Q=>?_
 exact⟨rfl,R⟩
theorem ZhJ (a b:Value)(p q:Rat)(w:World)(x:zF w a p)(y:zF w b q)(B:lX p)(C:lX q)(z:p.den=1)(A:q.den=1) :
 yA 104 #[a,b] w (kY w (p+q)):=by
 obtain⟨s0,c,d,e,j,k,E,l,rfl⟩:=x.shp
 obtain rfl:E=0:=x.den.len0 (kF z)
 obtain⟨f,g,h,i,m,n,F,o,rfl⟩:=y.shp
 obtain rfl:F=0:=y.den.len0 (kF A)
 have G:ml p.num.natAbs≤100000:=B.1
 have H:ml q.num.natAbs≤100000:=C.1
 have I:ml ((p.den:Nat):Int).natAbs≤100000:=mlc B.2
 have J:ml ((q.den:Nat):Int).natAbs≤100000:=mlc C.2
 refine xB (Φ:=fun w=>(zF w (.agg #[.bool s0,.slice c d e,.bool j,.slice k 0 l]) (p)∧zF w (.agg #[.bool f,.slice g h i,.bool m,.slice n 0 o]) (q))) Tryz.func104 rfl (by kernel_rfl) (fun w' D=>⟨x.ext D,y.ext D⟩) ?_
 refine zD (zC (xr 3 [(2,.p 2 0),(3,.p 3 0),(4,.p 4 0)] [bR4 4 127 false none 0 0 false none 0 0,bR4 3 127 f g h i m n 0 o,bR4 2 127 s0 c d e j k 0 l] ?_))
 refine xe (zB (zD (zD (zC (xr 12 [(2,.p 2 0),(3,.p 3 0),(4,.p 4 0),yB 16 true] [bR4 4 127 false none 0 0 false none 0 0,bR4 3 127 f g h i m n 0 o,bR4 2 127 s0 c d e j k 0 l] ?_)))))
 refine xe (zB (xa (zD (zC (xr 4 [(2,.p 2 0),(3,.p 3 0),(4,.p 4 0),eI2 18 s0 c d e,eI2 20 f g h i] [bR4 4 127 false none 0 0 false none 0 0,bR4 3 127 f g h i m n 0 o,bR4 2 127 s0 c d e j k 0 l] ?_)))))
 refine xc 186 [vI2 s0 c d e,vI2 f g h i] 21 wI _ (fun w R Q=>yM xL (Zdv _ _ ((p).num) ((q).num) _ Q.1.num Q.2.num (nfit G (by decide)) (nfit H (by decide)))) fun⟨r,s,t,u⟩=>?_
 refine xr 2 [(2,.p 2 0),(3,.p 3 0),(4,.p 4 0)] [bR4 4 127 r s t u false none 0 0,bR4 3 127 f g h i m n 0 o,bR4 2 127 s0 c d e j k 0 l] ?_
 refine xe (zB (zI (zE ?_)))
 refine zG (v:=.agg #[.bool r,.slice s t u,.bool false,.slice none 0 0]) (by kernel_rfl) fun w' R Q=>?_
 exact⟨_,rfl,zF.of (by rw[(ZbL z A).1];exact Q.2) (by rw[kF (ZbL z A).2];exact (zR.nil _)),R⟩
theorem ZhK (a b:Value)(p q:Rat)(w:World)(ha:zF w a p)(hb:zF w b q)(hp:lX p)(hq:lX q)(h1:¬ p.den=1) :
 yA 104 #[a,b] w (kY w (p+q)):=by
 obtain⟨s0,c,d,e,l,m,m0,n,rfl⟩:=ha.shp
 obtain⟨o,rfl⟩:∃ k,m0=k+1:=⟨m0-1,by have:=ha.den.lenp (cE h1);omega⟩
 obtain⟨f,g,i,j,r,s,t,u,rfl⟩:=hb.shp
 have S1:ml p.num.natAbs≤100000:=hp.1
 have S2:ml q.num.natAbs≤100000:=hq.1
 have J:ml ((p.den:Nat):Int).natAbs≤100000:=mlc hp.2
 have K:ml ((q.den:Nat):Int).natAbs≤100000:=mlc hq.2
 refine xB (Φ:=fun w=>(zF w (.agg #[.bool s0,.slice c d e,.bool l,.slice m (o+1) n]) (p)∧zF w (.agg #[.bool f,.slice g i j,.bool r,.slice s t u]) (q))) Tryz.func104 rfl (by kernel_rfl) (fun w' hf=>⟨ha.ext hf,hb.ext hf⟩) ?_
 refine zD (zC (xr 3 [(2,.p 2 0),(3,.p 3 0),(4,.p 4 0)] [bR4 4 127 false none 0 0 false none 0 0,bR4 3 127 f g i j r s t u,bR4 2 127 s0 c d e l m (o+1) n] ?_))
 refine xe (zB (zD (zD (zC (xr 12 [(2,.p 2 0),(3,.p 3 0),(4,.p 4 0),yB 16 false] [bR4 4 127 false none 0 0 false none 0 0,bR4 3 127 f g i j r s t u,bR4 2 127 s0 c d e l m (o+1) n] ?_)))))
 refine xe (zB (xb (zJ (zB (zD ?_)))))
 refine wF 18 (by kernel_rfl) (by kernel_rfl) zK ?_
 refine xf 3 [(2,.p 2 0),(3,.p 3 0),(4,.p 4 0),eI2 24 s0 c d e,eR4 25 f g i j r s t u] [bR4 4 127 false none 0 0 false none 0 0,bR4 3 127 f g i j r s t u,bR4 2 127 s0 c d e l m (o+1) n] ?_
 refine xd 188 [vR4 f g i j r s t u] 26 wI _ (fun w R Q=>yM xL (jM _ (q) _ Q.2)) fun⟨L,M,N,O⟩=>?_
 refine xf 0 [(2,.p 2 0),(3,.p 3 0),(4,.p 4 0),eI2 24 s0 c d e,eI2 26 L M N O] [bR4 4 127 false none 0 0 false none 0 0,bR4 3 127 f g i j r s t u,bR4 2 127 s0 c d e l m (o+1) n] ?_
 refine xd 187 [vI2 s0 c d e,vI2 L M N O] 27 wI _ (fun w R Q=>yM xL (iF _ _ ((p).num) (((q).den:Int)) _ Q.1.1.num Q.2 (nfit S1 (by decide)) (nfit K (by decide)))) fun⟨B,C,D,E⟩=>?_
 refine xf 3 [(2,.p 2 0),(3,.p 3 0),(4,.p 4 0),eI2 27 B C D E,eI2 29 f g i j,eR4 30 s0 c d e l m (o+1) n] [bR4 4 127 false none 0 0 false none 0 0,bR4 3 127 f g i j r s t u,bR4 2 127 s0 c d e l m (o+1) n] ?_
 refine xd 188 [vR4 s0 c d e l m (o+1) n] 31 wI _ (fun w R Q=>yM xL (jM _ (p) _ Q.1.1.1)) fun⟨P,S,T,U⟩=>?_
 refine xf 0 [(2,.p 2 0),(3,.p 3 0),(4,.p 4 0),eI2 27 B C D E,eI2 29 f g i j,eI2 31 P S T U] [bR4 4 127 false none 0 0 false none 0 0,bR4 3 127 f g i j r s t u,bR4 2 127 s0 c d e l m (o+1) n] ?_
 refine xd 187 [vI2 f g i j,vI2 P S T U] 32 wI _ (fun w R Q=>yM xL (iF _ _ ((q).num) (((p).den:Int)) _ Q.1.1.1.2.num Q.2 (nfit S2 (by decide)) (nfit J (by decide)))) fun⟨V,W,X,Y⟩=>?_
 refine xf 0 [(2,.p 2 0),(3,.p 3 0),(4,.p 4 0),eI2 27 B C D E,eI2 32 V W X Y] [bR4 4 127 false none 0 0 false none 0 0,bR4 3 127 f g i j r s t u,bR4 2 127 s0 c d e l m (o+1) n] ?_
 refine xd 186 [vI2 B C D E,vI2 V W X Y] 33 wI _ (fun w R Q=>yM xL (Zdv _ _ (((p).num)*(((q).den:Int))) (((q).num)*(((p).den:Int))) _ Q.1.1.2 Q.2 (nfit (mlm S1 K) (by decide)) (nfit (mlm S2 J) (by decide)))) fun⟨x,y,z,A⟩=>?_
 refine xf 1 [(3,.p 3 0),(4,.p 4 0),eI2 33 x y z A,eR4 34 s0 c d e l m (o+1) n] [bR4 4 127 false none 0 0 false none 0 0,bR4 3 127 f g i j r s t u,bR4 2 127 s0 c d e l m (o+1) n] ?_
 refine xd 188 [vR4 s0 c d e l m (o+1) n] 35 wI _ (fun w R Q=>yM xL (jM _ (p) _ Q.1.1.1.1.1.1)) fun⟨F,G,H,I⟩=>?_
 refine xf 1 [(4,.p 4 0),eI2 33 x y z A,eI2 35 F G H I,eR4 36 f g i j r s t u] [bR4 4 127 false none 0 0 false none 0 0,bR4 3 127 f g i j r s t u,bR4 2 127 s0 c d e l m (o+1) n] ?_
 refine xd 188 [vR4 f g i j r s t u] 37 wI _ (fun w R Q=>yM xL (jM _ (q) _ Q.1.1.1.1.1.1.2)) fun⟨Z,a0,b0,e0⟩=>?_
 refine xf 0 [(4,.p 4 0),eI2 33 x y z A,eI2 35 F G H I,eI2 37 Z a0 b0 e0] [bR4 4 127 false none 0 0 false none 0 0,bR4 3 127 f g i j r s t u,bR4 2 127 s0 c d e l m (o+1) n] ?_
 refine xd 187 [vI2 F G H I,vI2 Z a0 b0 e0] 38 wI _ (fun w R Q=>yM xL (iF _ _ (((p).den:Int)) (((q).den:Int)) _ Q.1.2 Q.2 (nfit J (by decide)) (nfit K (by decide)))) fun⟨f0,g0,h0,i0⟩=>?_
 refine xf 0 [(4,.p 4 0),eI2 33 x y z A,eI2 38 f0 g0 h0 i0] [bR4 4 127 false none 0 0 false none 0 0,bR4 3 127 f g i j r s t u,bR4 2 127 s0 c d e l m (o+1) n] ?_
 refine xd 113 [vI2 x y z A,vI2 f0 g0 h0 i0] 39 xC _ (fun w R Q=>(bO _ _ ((((p).num)*(((q).den:Int)))+(((q).num)*(((p).den:Int)))) ((((p).den:Int))*(((q).den:Int))) _ Q.1.1.1.2 Q.2 (nfit (mla (a:=200000) (mlm S1 K) (mlm S2 J)) (by decide)) (nfit (mlm J K) (by decide)) (rX (denI p) (denI q))).mono (fun _ _ h=>wW (by rw[Zao] at h;exact h))) fun⟨j0,n0,o0,p0,q0,r0,u0,v0⟩=>?_
 refine xf 1 [(4,.p 4 0)] [bR4 4 127 j0 n0 o0 p0 q0 r0 u0 v0,bR4 4 127 false none 0 0 false none 0 0,bR4 3 127 f g i j r s t u,bR4 2 127 s0 c d e l m (o+1) n] ?_
 refine xz (xe (zB (zI ?_)))
 refine zG (v:=.agg #[.bool j0,.slice n0 o0 p0,.bool q0,.slice r0 u0 v0]) (by kernel_rfl) fun w' R Q=>?_
 exact⟨_,rfl,Q.2,R⟩
theorem ZhL (a b:Value)(p q:Rat)(w:World)(ha:zF w a p)(hb:zF w b q)(hp:lX p)(hq:lX q)(h1:p.den=1)(h2:¬ q.den=1) :
 yA 104 #[a,b] w (kY w (p+q)):=by
 obtain⟨s0,c,d,e,l,m,m0,n,rfl⟩:=ha.shp
 obtain rfl:m0=0:=ha.den.len0 (kF h1)
 obtain⟨f,g,i,j,o,r,m1,s,rfl⟩:=hb.shp
 obtain⟨t,rfl⟩:∃ k,m1=k+1:=⟨m1-1,by have:=hb.den.lenp (cE h2);omega⟩
 have S1:ml p.num.natAbs≤100000:=hp.1
 have S2:ml q.num.natAbs≤100000:=hq.1
 have I:ml ((p.den:Nat):Int).natAbs≤100000:=mlc hp.2
 have J:ml ((q.den:Nat):Int).natAbs≤100000:=mlc hq.2
 refine xB (Φ:=fun w=>(zF w (.agg #[.bool s0,.slice c d e,.bool l,.slice m 0 n]) (p)∧zF w (.agg #[.bool f,.slice g i j,.bool o,.slice r (t+1) s]) (q))) Tryz.func104 rfl (by kernel_rfl) (fun w' hf=>⟨ha.ext hf,hb.ext hf⟩) ?_
 refine zD (zC (xr 3 [(2,.p 2 0),(3,.p 3 0),(4,.p 4 0)] [bR4 4 127 false none 0 0 false none 0 0,bR4 3 127 f g i j o r (t+1) s,bR4 2 127 s0 c d e l m 0 n] ?_))
 refine xe (zB (zD (zD (zC (xr 12 [(2,.p 2 0),(3,.p 3 0),(4,.p 4 0),yB 16 false] [bR4 4 127 false none 0 0 false none 0 0,bR4 3 127 f g i j o r (t+1) s,bR4 2 127 s0 c d e l m 0 n] ?_)))))
 refine xe (zB (xb (zJ (zB (zD ?_)))))
 refine wF 18 (by kernel_rfl) (by kernel_rfl) zK ?_
 refine xf 3 [(2,.p 2 0),(3,.p 3 0),(4,.p 4 0),eI2 24 s0 c d e,eR4 25 f g i j o r (t+1) s] [bR4 4 127 false none 0 0 false none 0 0,bR4 3 127 f g i j o r (t+1) s,bR4 2 127 s0 c d e l m 0 n] ?_
 refine xd 188 [vR4 f g i j o r (t+1) s] 26 wI _ (fun w R Q=>yM xL (jM _ (q) _ Q.2)) fun⟨K,L,M,N⟩=>?_
 refine xf 0 [(2,.p 2 0),(3,.p 3 0),(4,.p 4 0),eI2 24 s0 c d e,eI2 26 K L M N] [bR4 4 127 false none 0 0 false none 0 0,bR4 3 127 f g i j o r (t+1) s,bR4 2 127 s0 c d e l m 0 n] ?_
 refine xd 187 [vI2 s0 c d e,vI2 K L M N] 27 wI _ (fun w R Q=>yM xL (iF _ _ ((p).num) (((q).den:Int)) _ Q.1.1.num Q.2 (nfit S1 (by decide)) (nfit J (by decide)))) fun⟨A,B,C,D⟩=>?_
 refine xf 3 [(2,.p 2 0),(3,.p 3 0),(4,.p 4 0),eI2 27 A B C D,eI2 29 f g i j,eR4 30 s0 c d e l m 0 n] [bR4 4 127 false none 0 0 false none 0 0,bR4 3 127 f g i j o r (t+1) s,bR4 2 127 s0 c d e l m 0 n] ?_
 refine xd 188 [vR4 s0 c d e l m 0 n] 31 wI _ (fun w R Q=>yM xL (jM _ (p) _ Q.1.1.1)) fun⟨O,P,S,T⟩=>?_
 refine xf 0 [(2,.p 2 0),(3,.p 3 0),(4,.p 4 0),eI2 27 A B C D,eI2 29 f g i j,eI2 31 O P S T] [bR4 4 127 false none 0 0 false none 0 0,bR4 3 127 f g i j o r (t+1) s,bR4 2 127 s0 c d e l m 0 n] ?_
 refine xd 187 [vI2 f g i j,vI2 O P S T] 32 wI _ (fun w R Q=>yM xL (iF _ _ ((q).num) (((p).den:Int)) _ Q.1.1.1.2.num Q.2 (nfit S2 (by decide)) (nfit I (by decide)))) fun⟨U,V,W,X⟩=>?_
 refine xf 0 [(2,.p 2 0),(3,.p 3 0),(4,.p 4 0),eI2 27 A B C D,eI2 32 U V W X] [bR4 4 127 false none 0 0 false none 0 0,bR4 3 127 f g i j o r (t+1) s,bR4 2 127 s0 c d e l m 0 n] ?_
 refine xd 186 [vI2 A B C D,vI2 U V W X] 33 wI _ (fun w R Q=>yM xL (Zdv _ _ (((p).num)*(((q).den:Int))) (((q).num)*(((p).den:Int))) _ Q.1.1.2 Q.2 (nfit (mlm S1 J) (by decide)) (nfit (mlm S2 I) (by decide)))) fun⟨u,x,y,z⟩=>?_
 refine xf 1 [(3,.p 3 0),(4,.p 4 0),eI2 33 u x y z,eR4 34 s0 c d e l m 0 n] [bR4 4 127 false none 0 0 false none 0 0,bR4 3 127 f g i j o r (t+1) s,bR4 2 127 s0 c d e l m 0 n] ?_
 refine xd 188 [vR4 s0 c d e l m 0 n] 35 wI _ (fun w R Q=>yM xL (jM _ (p) _ Q.1.1.1.1.1.1)) fun⟨E,F,G,H⟩=>?_
 refine xf 1 [(4,.p 4 0),eI2 33 u x y z,eI2 35 E F G H,eR4 36 f g i j o r (t+1) s] [bR4 4 127 false none 0 0 false none 0 0,bR4 3 127 f g i j o r (t+1) s,bR4 2 127 s0 c d e l m 0 n] ?_
 refine xd 188 [vR4 f g i j o r (t+1) s] 37 wI _ (fun w R Q=>yM xL (jM _ (q) _ Q.1.1.1.1.1.1.2)) fun⟨Y,Z,a0,b0⟩=>?_
 refine xf 0 [(4,.p 4 0),eI2 33 u x y z,eI2 35 E F G H,eI2 37 Y Z a0 b0] [bR4 4 127 false none 0 0 false none 0 0,bR4 3 127 f g i j o r (t+1) s,bR4 2 127 s0 c d e l m 0 n] ?_
 refine xd 187 [vI2 E F G H,vI2 Y Z a0 b0] 38 wI _ (fun w R Q=>yM xL (iF _ _ (((p).den:Int)) (((q).den:Int)) _ Q.1.2 Q.2 (nfit I (by decide)) (nfit J (by decide)))) fun⟨e0,f0,g0,h0⟩=>?_
 refine xf 0 [(4,.p 4 0),eI2 33 u x y z,eI2 38 e0 f0 g0 h0] [bR4 4 127 false none 0 0 false none 0 0,bR4 3 127 f g i j o r (t+1) s,bR4 2 127 s0 c d e l m 0 n] ?_
 refine xd 113 [vI2 u x y z,vI2 e0 f0 g0 h0] 39 xC _ (fun w R Q=>(bO _ _ ((((p).num)*(((q).den:Int)))+(((q).num)*(((p).den:Int)))) ((((p).den:Int))*(((q).den:Int))) _ Q.1.1.1.2 Q.2 (nfit (mla (a:=200000) (mlm S1 J) (mlm S2 I)) (by decide)) (nfit (mlm I J) (by decide)) (rX (denI p) (denI q))).mono (fun _ _ h=>wW (by rw[Zao] at h;exact h))) fun⟨i0,j0,k0,n0,o0,p0,q0,r0⟩=>?_
 refine xf 1 [(4,.p 4 0)] [bR4 4 127 i0 j0 k0 n0 o0 p0 q0 r0,bR4 4 127 false none 0 0 false none 0 0,bR4 3 127 f g i j o r (t+1) s,bR4 2 127 s0 c d e l m 0 n] ?_
 refine xz (xe (zB (zI ?_)))
 refine zG (v:=.agg #[.bool i0,.slice j0 k0 n0,.bool o0,.slice p0 q0 r0]) (by kernel_rfl) fun w' R Q=>?_
 exact⟨_,rfl,Q.2,R⟩
theorem ZaO (a b:Value)(p q:Rat)(w:World)(c:zF w a p)(d:zF w b q)(e:lX p)(f:lX q):yA 104 #[a,b] w (kY w (p+q)):=by
 by_cases g:p.den=1
 ·by_cases h:q.den=1
  ·exact ZhJ a b p q w c d e f g h
  exact ZhL a b p q w c d e f g h
 exact ZhK a b p q w c d e f g
theorem ZhM (a b:Value)(p q:Rat)(w:World)(x:zF w a p)(y:zF w b q)(B:lX p)(C:lX q)(z:p.den=1)(A:q.den=1) :
 yA 183 #[a,b] w (kY w (p*q)):=by
 obtain⟨s0,c,d,e,j,k,E,l,rfl⟩:=x.shp
 obtain rfl:E=0:=x.den.len0 (kF z)
 obtain⟨f,g,h,i,m,n,F,o,rfl⟩:=y.shp
 obtain rfl:F=0:=y.den.len0 (kF A)
 have G:ml p.num.natAbs≤100000:=B.1
 have H:ml q.num.natAbs≤100000:=C.1
 have I:ml ((p.den:Nat):Int).natAbs≤100000:=mlc B.2
 have J:ml ((q.den:Nat):Int).natAbs≤100000:=mlc C.2
 refine xB (Φ:=fun w=>(zF w (.agg #[.bool s0,.slice c d e,.bool j,.slice k 0 l]) (p)∧zF w (.agg #[.bool f,.slice g h i,.bool m,.slice n 0 o]) (q))) Tryz.func183 rfl (by kernel_rfl) (fun w' D=>⟨x.ext D,y.ext D⟩) ?_
 refine zD (zC (xr 3 [(2,.p 2 0),(3,.p 3 0),(4,.p 4 0)] [bR4 4 127 false none 0 0 false none 0 0,bR4 3 127 f g h i m n 0 o,bR4 2 127 s0 c d e j k 0 l] ?_))
 refine xe (zB (zD (zD (zC (xr 12 [(2,.p 2 0),(3,.p 3 0),(4,.p 4 0),yB 16 true] [bR4 4 127 false none 0 0 false none 0 0,bR4 3 127 f g h i m n 0 o,bR4 2 127 s0 c d e j k 0 l] ?_)))))
 refine xe (zB (xa (zD (zC (xr 4 [(2,.p 2 0),(3,.p 3 0),(4,.p 4 0),eI2 18 s0 c d e,eI2 20 f g h i] [bR4 4 127 false none 0 0 false none 0 0,bR4 3 127 f g h i m n 0 o,bR4 2 127 s0 c d e j k 0 l] ?_)))))
 refine xc 187 [vI2 s0 c d e,vI2 f g h i] 21 wI _ (fun w R Q=>yM xL (iF _ _ ((p).num) ((q).num) _ Q.1.num Q.2.num (nfit G (by decide)) (nfit H (by decide)))) fun⟨r,s,t,u⟩=>?_
 refine xr 2 [(2,.p 2 0),(3,.p 3 0),(4,.p 4 0)] [bR4 4 127 r s t u false none 0 0,bR4 3 127 f g h i m n 0 o,bR4 2 127 s0 c d e j k 0 l] ?_
 refine xe (zB (zI (zE ?_)))
 refine zG (v:=.agg #[.bool r,.slice s t u,.bool false,.slice none 0 0]) (by kernel_rfl) fun w' R Q=>?_
 exact⟨_,rfl,zF.of (by rw[(ZbM z A).1];exact Q.2) (by rw[kF (ZbM z A).2];exact (zR.nil _)),R⟩
theorem ZhN (a b:Value)(p q:Rat)(w:World)(X:zF w a p)(Y:zF w b q)(Z:lX p)(hq:lX q)(h1:¬ p.den=1) :
 yA 183 #[a,b] w (kY w (p*q)):=by
 obtain⟨s0,c,d,e,l,m,m0,n,rfl⟩:=X.shp
 obtain⟨o,rfl⟩:∃ k,m0=k+1:=⟨m0-1,by have:=X.den.lenp (cE h1);omega⟩
 obtain⟨f,g,i,j,r,s,t,u,rfl⟩:=Y.shp
 have S1:ml p.num.natAbs≤100000:=Z.1
 have S2:ml q.num.natAbs≤100000:=hq.1
 have S3:ml ((p.den:Nat):Int).natAbs≤100000:=mlc Z.2
 have S4:ml ((q.den:Nat):Int).natAbs≤100000:=mlc hq.2
 refine xB (Φ:=fun w=>(zF w (.agg #[.bool s0,.slice c d e,.bool l,.slice m (o+1) n]) (p)∧zF w (.agg #[.bool f,.slice g i j,.bool r,.slice s t u]) (q))) Tryz.func183 rfl (by kernel_rfl) (fun w' hf=>⟨X.ext hf,Y.ext hf⟩) ?_
 refine zD (zC (xr 3 [(2,.p 2 0),(3,.p 3 0),(4,.p 4 0)] [bR4 4 127 false none 0 0 false none 0 0,bR4 3 127 f g i j r s t u,bR4 2 127 s0 c d e l m (o+1) n] ?_))
 refine xe (zB (zD (zD (zC (xr 12 [(2,.p 2 0),(3,.p 3 0),(4,.p 4 0),yB 16 false] [bR4 4 127 false none 0 0 false none 0 0,bR4 3 127 f g i j r s t u,bR4 2 127 s0 c d e l m (o+1) n] ?_)))))
 refine xe (zB (xb (zJ (zB (zD ?_)))))
 refine wF 12 (by kernel_rfl) (by kernel_rfl) zK ?_
 refine xf 4 [(2,.p 2 0),(3,.p 3 0),(4,.p 4 0),eI2 24 s0 c d e,eI2 26 f g i j] [bR4 4 127 false none 0 0 false none 0 0,bR4 3 127 f g i j r s t u,bR4 2 127 s0 c d e l m (o+1) n] ?_
 refine xd 187 [vI2 s0 c d e,vI2 f g i j] 27 wI _ (fun w R Q=>yM xL (iF _ _ ((p).num) ((q).num) _ Q.1.num Q.2.num (nfit S1 (by decide)) (nfit S2 (by decide)))) fun⟨x,y,z,A⟩=>?_
 refine xf 1 [(3,.p 3 0),(4,.p 4 0),eI2 27 x y z A,eR4 28 s0 c d e l m (o+1) n] [bR4 4 127 false none 0 0 false none 0 0,bR4 3 127 f g i j r s t u,bR4 2 127 s0 c d e l m (o+1) n] ?_
 refine xd 188 [vR4 s0 c d e l m (o+1) n] 29 wI _ (fun w R Q=>yM xL (jM _ (p) _ Q.1.1)) fun⟨B,C,D,E⟩=>?_
 refine xf 1 [(4,.p 4 0),eI2 27 x y z A,eI2 29 B C D E,eR4 30 f g i j r s t u] [bR4 4 127 false none 0 0 false none 0 0,bR4 3 127 f g i j r s t u,bR4 2 127 s0 c d e l m (o+1) n] ?_
 refine xd 188 [vR4 f g i j r s t u] 31 wI _ (fun w R Q=>yM xL (jM _ (q) _ Q.1.1.2)) fun⟨F,G,H,I⟩=>?_
 refine xf 0 [(4,.p 4 0),eI2 27 x y z A,eI2 29 B C D E,eI2 31 F G H I] [bR4 4 127 false none 0 0 false none 0 0,bR4 3 127 f g i j r s t u,bR4 2 127 s0 c d e l m (o+1) n] ?_
 refine xd 187 [vI2 B C D E,vI2 F G H I] 32 wI _ (fun w R Q=>yM xL (iF _ _ (((p).den:Int)) (((q).den:Int)) _ Q.1.2 Q.2 (nfit S3 (by decide)) (nfit S4 (by decide)))) fun⟨J,K,L,M⟩=>?_
 refine xf 0 [(4,.p 4 0),eI2 27 x y z A,eI2 32 J K L M] [bR4 4 127 false none 0 0 false none 0 0,bR4 3 127 f g i j r s t u,bR4 2 127 s0 c d e l m (o+1) n] ?_
 refine xd 113 [vI2 x y z A,vI2 J K L M] 33 xC _ (fun w R Q=>(bO _ _ (((p).num)*((q).num)) ((((p).den:Int))*(((q).den:Int))) _ Q.1.1.1.2 Q.2 (nfit (mlm S1 S2) (by decide)) (nfit (mlm S3 S4) (by decide)) (rX (denI p) (denI q))).mono (fun _ _ h=>wW (by rw[Zap] at h;exact h))) fun⟨N,O,P,S,T,U,V,W⟩=>?_
 refine xf 1 [(4,.p 4 0)] [bR4 4 127 N O P S T U V W,bR4 4 127 false none 0 0 false none 0 0,bR4 3 127 f g i j r s t u,bR4 2 127 s0 c d e l m (o+1) n] ?_
 refine xz (xe (zB (zI ?_)))
 refine zG (v:=.agg #[.bool N,.slice O P S,.bool T,.slice U V W]) (by kernel_rfl) fun w' R Q=>?_
 exact⟨_,rfl,Q.2,R⟩
theorem ZhO (a b:Value)(p q:Rat)(w:World)(W:zF w a p)(X:zF w b q)(Y:lX p)(Z:lX q)(h1:p.den=1)(h2:¬ q.den=1) :
 yA 183 #[a,b] w (kY w (p*q)):=by
 obtain⟨s0,c,d,e,l,m,m0,n,rfl⟩:=W.shp
 obtain rfl:m0=0:=W.den.len0 (kF h1)
 obtain⟨f,g,i,j,o,r,m1,s,rfl⟩:=X.shp
 obtain⟨t,rfl⟩:∃ k,m1=k+1:=⟨m1-1,by have:=X.den.lenp (cE h2);omega⟩
 have S1:ml p.num.natAbs≤100000:=Y.1
 have S2:ml q.num.natAbs≤100000:=Z.1
 have S3:ml ((p.den:Nat):Int).natAbs≤100000:=mlc Y.2
 have S4:ml ((q.den:Nat):Int).natAbs≤100000:=mlc Z.2
 refine xB (Φ:=fun w=>(zF w (.agg #[.bool s0,.slice c d e,.bool l,.slice m 0 n]) (p)∧zF w (.agg #[.bool f,.slice g i j,.bool o,.slice r (t+1) s]) (q))) Tryz.func183 rfl (by kernel_rfl) (fun w' hf=>⟨W.ext hf,X.ext hf⟩) ?_
 refine zD (zC (xr 3 [(2,.p 2 0),(3,.p 3 0),(4,.p 4 0)] [bR4 4 127 false none 0 0 false none 0 0,bR4 3 127 f g i j o r (t+1) s,bR4 2 127 s0 c d e l m 0 n] ?_))
 refine xe (zB (zD (zD (zC (xr 12 [(2,.p 2 0),(3,.p 3 0),(4,.p 4 0),yB 16 false] [bR4 4 127 false none 0 0 false none 0 0,bR4 3 127 f g i j o r (t+1) s,bR4 2 127 s0 c d e l m 0 n] ?_)))))
 refine xe (zB (xb (zJ (zB (zD ?_)))))
 refine wF 12 (by kernel_rfl) (by kernel_rfl) zK ?_
 refine xf 4 [(2,.p 2 0),(3,.p 3 0),(4,.p 4 0),eI2 24 s0 c d e,eI2 26 f g i j] [bR4 4 127 false none 0 0 false none 0 0,bR4 3 127 f g i j o r (t+1) s,bR4 2 127 s0 c d e l m 0 n] ?_
 refine xd 187 [vI2 s0 c d e,vI2 f g i j] 27 wI _ (fun w R Q=>yM xL (iF _ _ ((p).num) ((q).num) _ Q.1.num Q.2.num (nfit S1 (by decide)) (nfit S2 (by decide)))) fun⟨u,x,y,z⟩=>?_
 refine xf 1 [(3,.p 3 0),(4,.p 4 0),eI2 27 u x y z,eR4 28 s0 c d e l m 0 n] [bR4 4 127 false none 0 0 false none 0 0,bR4 3 127 f g i j o r (t+1) s,bR4 2 127 s0 c d e l m 0 n] ?_
 refine xd 188 [vR4 s0 c d e l m 0 n] 29 wI _ (fun w R Q=>yM xL (jM _ (p) _ Q.1.1)) fun⟨A,B,C,D⟩=>?_
 refine xf 1 [(4,.p 4 0),eI2 27 u x y z,eI2 29 A B C D,eR4 30 f g i j o r (t+1) s] [bR4 4 127 false none 0 0 false none 0 0,bR4 3 127 f g i j o r (t+1) s,bR4 2 127 s0 c d e l m 0 n] ?_
 refine xd 188 [vR4 f g i j o r (t+1) s] 31 wI _ (fun w R Q=>yM xL (jM _ (q) _ Q.1.1.2)) fun⟨E,F,G,H⟩=>?_
 refine xf 0 [(4,.p 4 0),eI2 27 u x y z,eI2 29 A B C D,eI2 31 E F G H] [bR4 4 127 false none 0 0 false none 0 0,bR4 3 127 f g i j o r (t+1) s,bR4 2 127 s0 c d e l m 0 n] ?_
 refine xd 187 [vI2 A B C D,vI2 E F G H] 32 wI _ (fun w R Q=>yM xL (iF _ _ (((p).den:Int)) (((q).den:Int)) _ Q.1.2 Q.2 (nfit S3 (by decide)) (nfit S4 (by decide)))) fun⟨I,J,K,L⟩=>?_
 refine xf 0 [(4,.p 4 0),eI2 27 u x y z,eI2 32 I J K L] [bR4 4 127 false none 0 0 false none 0 0,bR4 3 127 f g i j o r (t+1) s,bR4 2 127 s0 c d e l m 0 n] ?_
 refine xd 113 [vI2 u x y z,vI2 I J K L] 33 xC _ (fun w R Q=>(bO _ _ (((p).num)*((q).num)) ((((p).den:Int))*(((q).den:Int))) _ Q.1.1.1.2 Q.2 (nfit (mlm S1 S2) (by decide)) (nfit (mlm S3 S4) (by decide)) (rX (denI p) (denI q))).mono (fun _ _ h=>wW (by rw[Zap] at h;exact h))) fun⟨M,N,O,P,S,T,U,V⟩=>?_
 refine xf 1 [(4,.p 4 0)] [bR4 4 127 M N O P S T U V,bR4 4 127 false none 0 0 false none 0 0,bR4 3 127 f g i j o r (t+1) s,bR4 2 127 s0 c d e l m 0 n] ?_
 refine xz (xe (zB (zI ?_)))
 refine zG (v:=.agg #[.bool M,.slice N O P,.bool S,.slice T U V]) (by kernel_rfl) fun w' R Q=>?_
 exact⟨_,rfl,Q.2,R⟩
theorem Zcn (a b:Value)(p q:Rat)(w:World)(c:zF w a p)(d:zF w b q)(e:lX p)(f:lX q):yA 183 #[a,b] w (kY w (p*q)):=by
 by_cases g:p.den=1
 ·by_cases h:q.den=1
  ·exact ZhM a b p q w c d e f g h
  exact ZhO a b p q w c d e f g h
 exact ZhN a b p q w c d e f g
theorem Zkm (a b:Value)(p q:Rat)(w:World)(M:zF w a p)(N:zF w b q)(P:lX p)(S:lX q) :
 yA 240 #[a,b] w (kY w (p-q)):=by
 obtain⟨s0,c,d,e,f,g,i,j,rfl⟩:=M.shp
 obtain⟨k,l,m,n,o,r,s,t,rfl⟩:=N.shp
 refine xB (Φ:=fun w=>(zF w (.agg #[.bool s0,.slice c d e,.bool f,.slice g i j]) (p)∧zF w (.agg #[.bool k,.slice l m n,.bool o,.slice r s t]) (q))) Tryz.func240 rfl (by kernel_rfl) (fun w' O=>⟨M.ext O,N.ext O⟩) ?_
 refine zD (zC (xr 3 [(2,.p 2 0),(3,.p 3 0),(4,.p 4 0)] [bR4 4 127 false none 0 0 false none 0 0,bR4 3 127 k l m n o r s t,bR4 2 127 s0 c d e f g i j] ?_))
 refine xe (zB (zD ?_))
 refine wF 5 (by kernel_rfl) (by kernel_rfl) zK ?_
 refine xf 2 [(4,.p 4 0),eR4 5 s0 c d e f g i j,eR4 6 k l m n o r s t] [bR4 4 127 false none 0 0 false none 0 0,bR4 3 127 k l m n o r s t,bR4 2 127 s0 c d e f g i j] ?_
 refine xd 102 [vR4 k l m n o r s t] 7 xC _ (fun w R Q=>yM wW (Zcm _ (q) _ Q.2)) fun⟨u,x,y,z,A,B,C,D⟩=>?_
 refine xf 0 [(4,.p 4 0),eR4 5 s0 c d e f g i j,eR4 7 u x y z A B C D] [bR4 4 127 false none 0 0 false none 0 0,bR4 3 127 k l m n o r s t,bR4 2 127 s0 c d e f g i j] ?_
 refine xd 104 [vR4 s0 c d e f g i j,vR4 u x y z A B C D] 8 xC _ (fun w R Q=>(ZaO _ _ (p) (-(q)) _ Q.1.1 Q.2 P S.neg).mono (fun _ _ h=>wW (by rw[←Rat.sub_eq_add_neg] at h;exact h))) fun⟨E,F,G,H,I,J,K,L⟩=>?_
 refine xf 1 [(4,.p 4 0)] [bR4 4 127 E F G H I J K L,bR4 4 127 false none 0 0 false none 0 0,bR4 3 127 k l m n o r s t,bR4 2 127 s0 c d e f g i j] ?_
 refine xz (xe (zB (zI ?_)))
 refine zG (v:=.agg #[.bool E,.slice F G H,.bool I,.slice J K L]) (by kernel_rfl) fun w' R Q=>?_
 exact⟨_,rfl,Q.2,R⟩
theorem Zkn (a b:Value)(p q:Rat)(w:World)(D:zF w a p)(E:zF w b q)(G:lX p)(H:lX q) :
 yA 182 #[a,b] w (RetV w (.int .i64 (p-q).num.sign)):=by
 obtain⟨s0,k,l,m,n,o,r,s,rfl⟩:=D.shp
 obtain⟨t,u,x,y,z,A,B,C,rfl⟩:=E.shp
 refine xB (Φ:=fun w=>(zF w (.agg #[.bool s0,.slice k l m,.bool n,.slice o r s]) (p)∧zF w (.agg #[.bool t,.slice u x y,.bool z,.slice A B C]) (q))) Tryz.func182 rfl (by kernel_rfl) (fun w' F=>⟨D.ext F,E.ext F⟩) ?_
 refine zD (zC (xr 3 [(2,.p 2 0),(3,.p 3 0),yJ 4 0] [bR4 3 127 t u x y z A B C,bR4 2 127 s0 k l m n o r s] ?_))
 refine xe (zB (zD (zC (xr 2 [yJ 4 0,eR4 5 s0 k l m n o r s,eR4 6 t u x y z A B C] [] ?_))))
 refine xc 240 [vR4 s0 k l m n o r s,vR4 t u x y z A B C] 7 xC _ (fun w R Q=>yM wW (Zkm _ _ (p) (q) _ Q.1 Q.2 G H)) fun⟨c,d,e,f,g,h,i,j⟩=>?_
 refine xr 0 [yJ 4 0,eR4 7 c d e f g h i j] [] ?_
 refine xc 103 [vR4 c d e f g h i j] 8 (fun _:Unit=>.int .i64 (p-q).num.sign) _ (fun w R Q=>yN (fS _ (p-q) _ Q.2)) fun I=>?_
 refine xr 1 [(4,.v (.int .i64 (p-q).num.sign))] [] ?_
 refine xe (zB (zI ?_))
 refine zG (v:=.int .i64 (p-q).num.sign) (by kernel_rfl) fun w' R Q=>?_
 exact⟨rfl,R⟩
theorem Zfc (a b:List UInt8):(⟨a.toArray⟩:ByteArray) ++ ⟨b.toArray⟩=⟨(a ++ b).toArray⟩:=by
 apply ByteArray.ext
 simp
theorem aP {n j:Nat}(h:n<10^j∧j≤140737488355000):(Lib.decDigits n).length≤140737488355000:=by
 rcases uJ n with e|e
 ·rw[e,Lib.decDigits_one (by omega)];simp
 have:=ZiU _ _ h.1
 rw[iQ e] at this
 omega
theorem fT (s:Bool)(a:Option Addr)(b c0:Nat)(n:Nat)(w:World)(c:zP w (.slice a b c0) n){j:Nat}(h:n<10^j∧j≤140737488355000) :
 yA 112 #[.agg #[.bool s,.slice a b c0]] w (RetV w (.string ⟨(Lib.decDigits n).toArray⟩)):=by
 refine ZhQ s a b c0 n w c ((j+8)/9) ?_ (by have:=h.2;omega)
 refine uX h.1 ?_
 rw[show (1000000000:Nat)=10^9 by decide,← Nat.pow_mul]
 exact vS (by omega) (by omega)
theorem Zg4 {n k:Nat}(h:ml n≤k):n<10^(10*k):=by
 refine uX (Zee n) (uD (vS zQ h) ?_)
 rw[Nat.pow_mul]
 exact rM (by rw[zU];decide) _
theorem Zga (a:Value)(q:Rat)(w:World)(x:zF w a q)(j k:Nat)(C:q.num.natAbs<10^j∧j≤140737488355000)(_:q.den<10^k∧k≤140737488355000)(y:q.num<0)(z:q.den=1) :
 yA 48 #[a] w (RetV w (.string ⟨(xA q).toArray⟩)):=by
 obtain⟨D,t,u,v,I,J,E,K,rfl⟩:=x.shp
 have F2:Hid (zF w (.agg #[.bool D,.slice t u v,.bool I,.slice J E K]) (q)):=x
 clear x
 obtain rfl:D=true:=F2.out.num.sneg y
 have F:Hid (q.num.natAbs<10^j∧j≤140737488355000):=C
 obtain rfl:E=0:=F2.out.den.len0 (kF z)
 have G:Hid (xA q=45 :: Lib.decDigits q.num.natAbs):=by unfold Hid xA Lib.itoa;rw[tA z,tA y]
 obtain⟨L,g⟩:=yE (xA q)
 rw[g] at G ⊢
 clear y z C g
 go_enter Tryz.func48,Tryz.ntmps48
 go_wp2_with fail
 generalize h:World.alloc w _=w4
 obtain⟨c,d⟩:=gB h
 clear h
 have B3:=zh c
 clear c
 replace F2:=zh (F2.out.ext d)
 have HE:=zh d
 clear d
 have F5:Hid (zR w4 (.agg #[.bool true,.slice t u v]) ((q).num)):=F2.out.num
 have F8:Hid (zP w4 (.slice t u v) (((q).num).natAbs)):=F5.out.mag
 refine (fT true t u v _ _ F8.out F.out).mono ?_
 obtain⟨H,b⟩:=yE (Lib.decDigits (((q).num).natAbs))
 rw[b];have A:H.length≤140737488355000:=by rw[←b];exact aP F.out
 have B:=zh b;clear b
 rintro e M ⟨rfl,f⟩
 replace B3:=zh (B3.out.ext f)
 replace F2:=zh (F2.out.ext f)
 replace F5:=zh (F5.out.ext f)
 replace F8:=zh (F8.out.ext f)
 replace HE:=zh (HE.out.trans f)
 clear f
 obtain⟨i,l,m,n,o,p,r,s⟩:=B3.out.cell4
 go_wp2
 clear i l m n o p r s
 go_ret
 refine⟨?_,HE.out⟩
 rw[G.out,B.out]
 show Ending.returned (.string ((⟨#[45]⟩:ByteArray) ++ ⟨H.toArray⟩))=_
 simp only[Zfc]
 rfl
theorem Zgb (a:Value)(q:Rat)(w:World)(M:zF w a q)(j k:Nat)(Q:q.num.natAbs<10^j∧j≤140737488355000)(R:q.den<10^k∧k≤140737488355000)(S:q.num<0)(s:¬ q.den=1) :
 yA 48 #[a] w (RetV w (.string ⟨(xA q).toArray⟩)):=by
 obtain⟨T,G,H,I,N,J,m1,K,rfl⟩:=M.shp
 have F2:Hid (zF w (.agg #[.bool T,.slice G H I,.bool N,.slice J m1 K]) (q)):=M
 clear M
 obtain rfl:T=true:=F2.out.num.sneg S
 have U:Hid (q.num.natAbs<10^j∧j≤140737488355000):=Q
 have hl:0<m1:=F2.out.den.lenp (cE s)
 have Z:decide ((0:Int)<(m1:Int))=true:=by rw[vF];omega
 have V:Hid ((denF q).natAbs<10^k∧k≤140737488355000):=by unfold Hid;rw[iT s,vT];exact R
 have W:Hid (xA q=(45 :: Lib.decDigits q.num.natAbs) ++ (47 :: Lib.decDigits (denF q).natAbs)):=by
  unfold Hid xA
  rw[vP s,iT s,vT,Lib.itoa_nonneg]
  unfold Lib.itoa
  rw[tA (show q.num<0 by omega)]
  simp
 obtain⟨rt,t⟩:=yE (xA q)
 rw[t] at W ⊢
 clear S s Q R t
 go_enter Tryz.func48,Tryz.ntmps48
 go_wp2_with fail
 generalize u:World.alloc w _=w4
 obtain⟨f,g⟩:=gB u
 clear u
 have B3:=zh f
 clear f
 replace F2:=zh (F2.out.ext g)
 have HE:=zh g
 clear g
 have F5:Hid (zR w4 (.agg #[.bool true,.slice G H I]) ((q).num)):=F2.out.num
 have F8:Hid (zP w4 (.slice G H I) (((q).num).natAbs)):=F5.out.mag
 refine (fT true G H I _ _ F8.out U.out).mono ?_
 obtain⟨X,d⟩:=yE (Lib.decDigits (((q).num).natAbs))
 rw[d];have O:X.length≤140737488355000:=by rw[←d];exact aP U.out
 have P:=zh d;clear d
 rintro e Y ⟨rfl,b⟩
 replace B3:=zh (B3.out.ext b)
 replace F2:=zh (F2.out.ext b)
 replace F5:=zh (F5.out.ext b)
 replace F8:=zh (F8.out.ext b)
 replace HE:=zh (HE.out.trans b)
 clear b
 obtain⟨v,x,y,z,A,B,C,D⟩:=B3.out.cell4
 go_wp2_with fail
 clear v x y z A B C D
 have F10:Hid (zR Y (.agg #[.bool N,.slice J m1 K]) (denF (q))):=F2.out.den
 have F13:Hid (zP Y (.slice J m1 K) ((denF (q)).natAbs)):=F10.out.mag
 refine (fT N J m1 K _ _ F13.out V.out).mono ?_
 obtain⟨E,c⟩:=yE (Lib.decDigits ((denF (q)).natAbs))
 rw[c];have L:E.length≤140737488355000:=by rw[←c];exact aP V.out
 have F:=zh c;clear c
 rintro e a0 ⟨rfl,b⟩
 replace B3:=zh (B3.out.ext b)
 replace F2:=zh (F2.out.ext b)
 replace F5:=zh (F5.out.ext b)
 replace F8:=zh (F8.out.ext b)
 replace F10:=zh (F10.out.ext b)
 replace F13:=zh (F13.out.ext b)
 replace HE:=zh (HE.out.trans b)
 clear b
 obtain⟨h,i,l,m,n,o,p,r⟩:=B3.out.cell4
 go_wp2
 clear h i l m n o p r
 go_ret
 refine⟨?_,HE.out⟩
 rw[W.out,P.out,F.out]
 show Ending.returned (.string (((⟨#[45]⟩:ByteArray) ++ ⟨X.toArray⟩) ++ ((⟨#[47]⟩:ByteArray) ++ ⟨E.toArray⟩)))=_
 simp only[Zfc]
 rfl
theorem Zgc (a:Value)(q:Rat)(w:World)(x:zF w a q)(j k:Nat)(B:q.num.natAbs<10^j∧j≤140737488355000)(_:q.den<10^k∧k≤140737488355000)(C:0≤q.num)(y:q.den=1) :
 yA 48 #[a] w (RetV w (.string ⟨(xA q).toArray⟩)):=by
 obtain⟨D,t,u,v,I,J,E,K,rfl⟩:=x.shp
 have F2:Hid (zF w (.agg #[.bool D,.slice t u v,.bool I,.slice J E K]) (q)):=x
 clear x
 obtain rfl:D=false:=F2.out.num.spos C
 have F:Hid (q.num.natAbs<10^j∧j≤140737488355000):=B
 obtain rfl:E=0:=F2.out.den.len0 (kF y)
 have G:Hid (xA q=Lib.decDigits q.num.natAbs):=by unfold Hid xA Lib.itoa;rw[tA y,vP (show ¬ q.num<0 by omega)];rw[show q.num.toNat=q.num.natAbs by omega]
 obtain⟨L,g⟩:=yE (xA q)
 rw[g] at G ⊢
 clear C y B g
 go_enter Tryz.func48,Tryz.ntmps48
 go_wp2_with fail
 generalize h:World.alloc w _=w4
 obtain⟨c,d⟩:=gB h
 clear h
 have B3:=zh c
 clear c
 replace F2:=zh (F2.out.ext d)
 have HE:=zh d
 clear d
 have F5:Hid (zR w4 (.agg #[.bool false,.slice t u v]) ((q).num)):=F2.out.num
 have F8:Hid (zP w4 (.slice t u v) (((q).num).natAbs)):=F5.out.mag
 refine (fT false t u v _ _ F8.out F.out).mono ?_
 obtain⟨H,b⟩:=yE (Lib.decDigits (((q).num).natAbs))
 rw[b];have z:H.length≤140737488355000:=by rw[←b];exact aP F.out
 have A:=zh b;clear b
 rintro e M ⟨rfl,f⟩
 replace B3:=zh (B3.out.ext f)
 replace F2:=zh (F2.out.ext f)
 replace F5:=zh (F5.out.ext f)
 replace F8:=zh (F8.out.ext f)
 replace HE:=zh (HE.out.trans f)
 clear f
 obtain⟨i,l,m,n,o,p,r,s⟩:=B3.out.cell4
 go_wp2
 clear i l m n o p r s
 go_ret
 refine⟨?_,HE.out⟩
 rw[G.out,A.out]
 show Ending.returned (.string (⟨H.toArray⟩:ByteArray))=_
 rfl
theorem Zgd (a:Value)(q:Rat)(w:World)(M:zF w a q)(j k:Nat)(Q:q.num.natAbs<10^j∧j≤140737488355000)(R:q.den<10^k∧k≤140737488355000)(S:0≤q.num)(s:¬ q.den=1) :
 yA 48 #[a] w (RetV w (.string ⟨(xA q).toArray⟩)):=by
 obtain⟨T,G,H,I,N,J,m1,K,rfl⟩:=M.shp
 have F2:Hid (zF w (.agg #[.bool T,.slice G H I,.bool N,.slice J m1 K]) (q)):=M
 clear M
 obtain rfl:T=false:=F2.out.num.spos S
 have U:Hid (q.num.natAbs<10^j∧j≤140737488355000):=Q
 have hl:0<m1:=F2.out.den.lenp (cE s)
 have Z:decide ((0:Int)<(m1:Int))=true:=by rw[vF];omega
 have V:Hid ((denF q).natAbs<10^k∧k≤140737488355000):=by unfold Hid;rw[iT s,vT];exact R
 have W:Hid (xA q=(Lib.decDigits q.num.natAbs) ++ (47 :: Lib.decDigits (denF q).natAbs)):=by
  unfold Hid xA
  rw[vP s,iT s,vT,Lib.itoa_nonneg]
  unfold Lib.itoa
  rw[vP (show ¬ q.num<0 by omega)]
  rw[show q.num.toNat=q.num.natAbs by omega]
  simp
 obtain⟨rt,t⟩:=yE (xA q)
 rw[t] at W ⊢
 clear S s Q R t
 go_enter Tryz.func48,Tryz.ntmps48
 go_wp2_with fail
 generalize u:World.alloc w _=w4
 obtain⟨f,g⟩:=gB u
 clear u
 have B3:=zh f
 clear f
 replace F2:=zh (F2.out.ext g)
 have HE:=zh g
 clear g
 have F5:Hid (zR w4 (.agg #[.bool false,.slice G H I]) ((q).num)):=F2.out.num
 have F8:Hid (zP w4 (.slice G H I) (((q).num).natAbs)):=F5.out.mag
 refine (fT false G H I _ _ F8.out U.out).mono ?_
 obtain⟨X,d⟩:=yE (Lib.decDigits (((q).num).natAbs))
 rw[d];have O:X.length≤140737488355000:=by rw[←d];exact aP U.out
 have P:=zh d;clear d
 rintro e Y ⟨rfl,b⟩
 replace B3:=zh (B3.out.ext b)
 replace F2:=zh (F2.out.ext b)
 replace F5:=zh (F5.out.ext b)
 replace F8:=zh (F8.out.ext b)
 replace HE:=zh (HE.out.trans b)
 clear b
 obtain⟨v,x,y,z,A,B,C,D⟩:=B3.out.cell4
 go_wp2_with fail
 clear v x y z A B C D
 have F10:Hid (zR Y (.agg #[.bool N,.slice J m1 K]) (denF (q))):=F2.out.den
 have F13:Hid (zP Y (.slice J m1 K) ((denF (q)).natAbs)):=F10.out.mag
 refine (fT N J m1 K _ _ F13.out V.out).mono ?_
 obtain⟨E,c⟩:=yE (Lib.decDigits ((denF (q)).natAbs))
 rw[c];have L:E.length≤140737488355000:=by rw[←c];exact aP V.out
 have F:=zh c;clear c
 rintro e a0 ⟨rfl,b⟩
 replace B3:=zh (B3.out.ext b)
 replace F2:=zh (F2.out.ext b)
 replace F5:=zh (F5.out.ext b)
 replace F8:=zh (F8.out.ext b)
 replace F10:=zh (F10.out.ext b)
 replace F13:=zh (F13.out.ext b)
 replace HE:=zh (HE.out.trans b)
 clear b
 obtain⟨h,i,l,m,n,o,p,r⟩:=B3.out.cell4
 go_wp2
 clear h i l m n o p r
 go_ret
 refine⟨?_,HE.out⟩
 rw[W.out,P.out,F.out]
 show Ending.returned (.string ((⟨X.toArray⟩:ByteArray) ++ ((⟨#[47]⟩:ByteArray) ++ ⟨E.toArray⟩)))=_
 simp only[Zfc]
 rfl
theorem Zjg (a:Value)(q:Rat)(w:World)(c:zF w a q)(j k:Nat)(d:q.num.natAbs<10^j∧j≤140737488355000)(e:q.den<10^k∧k≤140737488355000):yA 48 #[a] w (RetV w (.string ⟨(xA q).toArray⟩)):=by
 by_cases f:q.num<0
 ·by_cases b:q.den=1
  ·exact Zga a q w c j k d e f b
  exact Zgb a q w c j k d e f b
 by_cases b:q.den=1
 ·exact Zgc a q w c j k d e (by omega) b
 exact Zgd a q w c j k d e (by omega) b
theorem Zkq (a:Value)(q:Rat)(w:World)(b:zF w a q)(c:ml q.num.natAbs≤65536)(d:ml q.den≤65536):yA 48 #[a] w (RetV w (.string ⟨(xA q).toArray⟩)) :=
 Zjg a q w b _ _ ⟨Zg4 c,by omega⟩ ⟨Zg4 d,by omega⟩
theorem Zcp {n k:Nat}(h:n<10^k):ml n≤k:=fI.2 (uX h (rM (by rw[zU];omega) _))
theorem ZcQ {α:Type}(o:Option α):o=none∨∃ x,o=some x:=by cases o;exact Or.inl rfl;exact Or.inr ⟨_,rfl⟩
section
variable {w w':World} {e:Ending} {l:List UInt8}
theorem cG (h:Za9 w l e w')(b:xI l=none):wS (fun x:ShQ=>.tuple #[xC x,.bool false]) (fun x w=>xO w (xC x) 0) w e w':=by
 obtain⟨v,j,rfl,Q,⟨rfl,q,h1,a⟩|⟨rfl,h1,a⟩⟩:=h
 ·rw[b] at h1;cases h1
 obtain⟨s,A,l,c,t,B,m,d,rfl⟩:=a.shp
 exact⟨(s,A,l,c,t,B,m,d),rfl,Q,boxn Q (fun S f g i=>a.nrb g i)⟩
theorem cH {q:Rat}(h:Za9 w l e w')(b:xI l=some q):wS (fun x:ShQ=>.tuple #[xC x,.bool true]) (fun x w=>xO w (xC x) q) w e w':=by
 obtain⟨v,j,rfl,Q,⟨rfl,q,h1,a⟩|⟨rfl,h1,a⟩⟩:=h
 ·rw[b] at h1;injection h1 with h1;subst h1
  obtain⟨s,A,l,c,t,B,m,d,rfl⟩:=a.shp
  exact⟨(s,A,l,c,t,B,m,d),rfl,Q,boxn Q (fun S f g i=>a.nrb g i)⟩
 rw[b] at h1;cases h1
end
def eF (w:World) (ok:Bool) (e:Ending) (w':World):Prop:=∃ (x0 x1 x2 x3 x4 x5:Int) (s:Bool) (A:Option Addr) (l c:Nat) (t:Bool) (B:Option Addr) (m d:Nat),
 e=.returned (.tuple #[.agg #[.int .i64 x0,.int .i64 x1,.int .i64 x2,.int .i64 x3,.int .i64 x4,.int .i64 x5,.bool s,.slice A l c,.bool t,.slice B m d],.bool ok])∧Ext w w'
theorem eF.of {w w':World}{a r:Bool}{b e f g i j:Int}{s:Bool}{A:Option Addr}{l c:Nat}{t:Bool}{B:Option Addr}{m d:Nat}(h:a=r)(Q:Ext w w') :
 eF w a (.returned (.tuple #[.agg #[.int .i64 b,.int .i64 e,.int .i64 f,.int .i64 g,.int .i64 i,.int .i64 j,.bool s,.slice A l c,.bool t,.slice B m d],.bool r])) w':=by
 subst h;exact⟨_,_,_,_,_,_,_,_,_,_,_,_,_,_,rfl,Q⟩
section
variable {v:Int} {t:TermR} {q:Rat}
theorem Zir (a:xI (bytes t.coef)=none):xM v t=false:=by simp[xM,bD,a]
theorem Zis (a:xI (bytes t.coef)=some q)(b:q.num=0):xM v t=false:=by
 have:q=0:=by rw[←rE q,b,Rat.zero_divInt]
 simp[xM,bD,a,this]
theorem ZmD (h:¬ (t.exps.length:Int)=v):xM v t=false:=by simp[xM,h]
theorem Zit (h:t.exps.all expB=false):xM v t=false:=by unfold xM;rw[h,tQ,tQ]
theorem ZmE (a:xI (bytes t.coef)=some q)(b:¬ q.num=0)(h:(t.exps.length:Int)=v)(c:t.exps.all expB=true):xM v t=true:=by
 have:q≠0:=by rintro rfl;exact b rfl
 simp only[xM,bD,a]
 rw[c,uI h,uI this];rfl
theorem Ziu {z:Int}(h:z<0∨1048576<z):expB z=false:=by
 unfold expB
 rcases h with h|h
 ·rw[uH (by omega:¬ 0≤z)];rfl
 rw[uH (by omega:¬ z≤1048576),tQ]
end
theorem Zcq (t:TermR)(v:Int)(w:World)(hg:Glob w)(hs:(bytes t.coef).length≤570)(hl:t.exps.length≤9223372036854775807)(hv:v≤6)(hI:IRow w t.A t.exps) :
 yA 279 #[.int .i64 v,.agg #[.string t.coef,.slice t.A t.exps.length t.cap]] w (eF w (xM v t)):=by
 refine xB (Φ:=fun w=>(Glob w∧IRow w t.A t.exps)) Tryz.func279 rfl (by kernel_rfl) (fun w' hf=>⟨hg.ext hf,hI.ext hf⟩) ?_
 refine zD (zC (xq 3 [(3,.p 3 0),(4,.p 4 0),yB 5 false] [(4,371,[.v (.int .i64 0),.v (.int .i64 0),.v (.int .i64 0),.v (.int .i64 0),.v (.int .i64 0),.v (.int .i64 0),.v (.bool false),.v (.slice none 0 0),.v (.bool false),.v (.slice none 0 0)]),(3,108,[.v (.string t.coef),.v (.slice t.A t.exps.length t.cap)])] ?_))
 refine xe (zB (zD (zC (xq 2 [yT 13 t.coef] [] ?_))))
 rcases ZcQ (xI (bytes t.coef)) with B|⟨q,B⟩
 ·refine xqc 231 [.string t.coef] 14 (fun x:ShQ=>.tuple #[xC x,.bool false]) _ (fun w R Q=>(eJ t.coef _ Q.1 (fY.of_len hs)).mono (fun _ _ h=>cG h B)) fun⟨N,O,P,S,T,U,V,W⟩=>?_
  refine xq 6 [(6,.p 6 0),yB 7 false] [bR4 6 259 N O P S T U V W] ?_
  refine xe (zB (zD (zD ?_)))
  by_cases u:(t.exps.length:Int)=v
  ·refine zC (xq 13 [yB 29 true] [] ?_)
   refine xe (zB (xa (zD (zC (xq 3 [yB 5 false] [] ?_)))))
   refine xe (zB (zI (zE ?_)))
   refine yR (.tuple #[.agg #[.int .i64 0,.int .i64 0,.int .i64 0,.int .i64 0,.int .i64 0,.int .i64 0,.bool false,.slice none 0 0,.bool false,.slice none 0 0],.bool false]) fun w' R Q=>?_
   exact eF.of (Zir B) R
  refine zC (xq 13 [yB 29 true] [] ?_)
  refine xe (zB (xa (zD (zC (xq 3 [yB 5 false] [] ?_)))))
  refine xe (zB (zI (zE ?_)))
  refine yR (.tuple #[.agg #[.int .i64 0,.int .i64 0,.int .i64 0,.int .i64 0,.int .i64 0,.int .i64 0,.bool false,.slice none 0 0,.bool false,.slice none 0 0],.bool false]) fun w' R Q=>?_
  exact eF.of (Zir B) R
 refine xqc 231 [.string t.coef] 14 (fun x:ShQ=>.tuple #[xC x,.bool true]) _ (fun w R Q=>(eJ t.coef _ Q.1 (fY.of_len hs)).mono (fun _ _ h=>cH h B)) fun⟨a,b,c,f,g,o,r,s⟩=>?_
 refine xq 6 [(6,.p 6 0),yB 7 true] [bR4 6 259 a b c f g o r s] ?_
 refine xe (zB (zD (zD ?_)))
 by_cases u:(t.exps.length:Int)=v
 ·refine zC (xq 4 [yB 19 false,eR4 20 a b c f g o r s] [] ?_)
  by_cases C:q.num=0
  ·refine xqc 233 [vR4 a b c f g o r s] 21 (fun _:Unit=>.bool true) _ (fun w R Q=>(jU _ q _ Q.2).mono (fun _ _ h=>zS h (by rw[uI C]))) fun X=>?_
   refine xq 8 [yB 29 true] [] ?_
   refine xe (zB (xa (zD (zC (xq 3 [yB 5 false] [] ?_)))))
   refine xe (zB (zI (zE ?_)))
   refine yR (.tuple #[.agg #[.int .i64 0,.int .i64 0,.int .i64 0,.int .i64 0,.int .i64 0,.int .i64 0,.bool false,.slice none 0 0,.bool false,.slice none 0 0],.bool false]) fun w' R Q=>?_
   exact eF.of (Zis B C) R
  refine xqc 233 [vR4 a b c f g o r s] 21 (fun _:Unit=>.bool false) _ (fun w R Q=>(jU _ q _ Q.2).mono (fun _ _ h=>zS h (by rw[uH C]))) fun X=>?_
  refine xq 7 [yB 23 false,yB 28 ((((t.exps.length:Nat):Int):Int) != v)] [] ?_
  rw[(show (((t.exps.length:Nat):Int) != v)=false by simp[u])]
  refine xq 1 [yB 29 false] [] ?_
  refine xe (zB (xb (zJ (zB (zD (zD (zC (xq 4 [eS1 32 t.A t.exps.length t.cap,yJ 33 ((t.exps.length:Nat):Int),yJ 34 0] [] ?_))))))))
  refine xe (zB (zN ?_))
  refine yC [(3,.p 3 0),(4,.p 4 0),yB 5 false,(6,.p 6 0),eS1 32 t.A t.exps.length t.cap,yJ 33 ((t.exps.length:Nat):Int),yJ 34 ((0:Nat):Int)] [(6,259,[.v (.bool a),.v (.slice b c f),.v (.bool g),.v (.slice o r s)]),(4,371,[.v (.int .i64 0),.v (.int .i64 0),.v (.int .i64 0),.v (.int .i64 0),.v (.int .i64 0),.v (.int .i64 0),.v (.bool false),.v (.slice none 0 0),.v (.bool false),.v (.slice none 0 0)]),(3,108,[.v (.string t.coef),.v (.slice t.A t.exps.length t.cap)])] (fun w=>(IRow w t.A t.exps∧xO w (.agg #[.bool a,.slice b c f,.bool g,.slice o r s]) (q))) (fun w Q=>⟨Q.1.1.2,Q.1.2⟩) ?_
  refine xS (fun nn ss ff=>∃ (k:Nat),ss=ofL [(3,.p 3 0),(4,.p 4 0),yB 5 false,(6,.p 6 0),eS1 32 t.A t.exps.length t.cap,yJ 33 ((t.exps.length:Nat):Int),yJ 34 (k:Int)] [(6,259,[.v (.bool a),.v (.slice b c f),.v (.bool g),.v (.slice o r s)]),(4,371,[.v (.int .i64 0),.v (.int .i64 0),.v (.int .i64 0),.v (.int .i64 0),.v (.int .i64 0),.v (.int .i64 0),.v (.bool false),.v (.slice none 0 0),.v (.bool false),.v (.slice none 0 0)]),(3,108,[.v (.string t.coef),.v (.slice t.A t.exps.length t.cap)])]∧ff=(fun w=>(IRow w t.A t.exps∧xO w (.agg #[.bool a,.slice b c f,.bool g,.slice o r s]) (q)))∧(k≤t.exps.length)∧(∀ i,i<k→expB (nth t.exps i)=true)∧nn=(1+(t.exps.length-k))) ((1+(t.exps.length-0))) ⟨0,rfl,rfl,(uM _),(fun i Y=>absurd Y (Nat.not_lt_zero i)),rfl⟩ ?_
  rintro nn ss ff ⟨k,rfl,rfl,hk,D,rfl⟩
  refine zD (zC (xq 1 [yB 35 (decide ((k:Int)<((t.exps.length:Nat):Int)))] [] ?_))
  refine xe (zB (zD ?_))
  refine yQ ((decide ((k:Int)<((t.exps.length:Nat):Int)))) (fun z=>?_) fun z=>?_
  ·have y:k<t.exps.length:=by have:=uF z;omega
   refine zJ (zB (zD (zN (zD (zC ?_)))))
   refine xqk 36 (atA t.A (k*1)) (fun w R Q=>wT (t:=22) (e:=3) (sz:=1) (x:=.tmp 32) (ix:=.tmp 34) (len:=t.exps.length) (cap:=t.cap) (i:=k) ((Q.1).ne y) y) ?_
   refine xqk 37 (.int .i64 (nth t.exps k)) (fun w R Q=>kI (t:=3) (x:=.tmp 36) (zs:=t.exps) (j:=k) (Q.1) y) ?_
   refine xq 1 [yJ 9 (nth t.exps k)] [] ?_
   refine xe (zB (zD ?_))
   by_cases F:nth t.exps k<0
   ·refine zC (xq 2 [yB 39 (decide ((nth t.exps k)<0))] [] ?_)
    rw[(show decide (nth t.exps k<0)=true from uI F)]
    refine xq 4 [yB 43 true] [] ?_
    refine xe (zB (xa (zD (zC (xq 3 [yB 5 false] [] ?_)))))
    refine xe (zB (zI (xP (zE (zE (xP (zE ?_)))))))
    refine yR (.tuple #[.agg #[.int .i64 0,.int .i64 0,.int .i64 0,.int .i64 0,.int .i64 0,.int .i64 0,.bool false,.slice none 0 0,.bool false,.slice none 0 0],.bool false]) fun w' R Q=>?_
    exact eF.of (Zit (ZgX y (Ziu (Or.inl F)))) R
   by_cases M:1048576<nth t.exps k
   ·refine zC (xq 2 [yB 39 (decide ((nth t.exps k)<0))] [] ?_)
    rw[(show decide (nth t.exps k<0)=false from uH F)]
    refine xq 3 [yB 40 false,yB 42 (decide ((nth t.exps k)>1048576))] [] ?_
    rw[(show decide (nth t.exps k>1048576)=true from uI M)]
    refine xq 1 [yB 43 true] [] ?_
    refine xe (zB (xa (zD (zC (xq 3 [yB 5 false] [] ?_)))))
    refine xe (zB (zI (xP (zE (zE (xP (zE ?_)))))))
    refine yR (.tuple #[.agg #[.int .i64 0,.int .i64 0,.int .i64 0,.int .i64 0,.int .i64 0,.int .i64 0,.bool false,.slice none 0 0,.bool false,.slice none 0 0],.bool false]) fun w' R Q=>?_
    exact eF.of (Zit (ZgX y (Ziu (Or.inr M)))) R
   refine zC (xq 2 [yB 39 (decide ((nth t.exps k)<0))] [] ?_)
   rw[(show decide (nth t.exps k<0)=false from uH F)]
   refine xq 3 [yB 40 false,yB 42 (decide ((nth t.exps k)>1048576))] [] ?_
   rw[(show decide (nth t.exps k>1048576)=false from uH M)]
   refine xq 1 [yB 43 false] [] ?_
   refine xe (zB (xb (zJ (xK (zB (zC (xq 1 [yJ 45 (IntKind.i64.wrap ((k:Int)+1))] [] ?_)))))))
   rw[yW ((k:Int)+1) (((k+1:Nat):Int)) (by omega)]
   refine xq 1 [yJ 34 ((k+1:Nat):Int)] [] ?_
   refine xe ?_
   refine yP [(3,.p 3 0),(4,.p 4 0),yB 5 false,(6,.p 6 0),eS1 32 t.A t.exps.length t.cap,yJ 33 ((t.exps.length:Nat):Int),yJ 34 (((k+1):Nat):Int)] [(6,259,[.v (.bool a),.v (.slice b c f),.v (.bool g),.v (.slice o r s)]),(4,371,[.v (.int .i64 0),.v (.int .i64 0),.v (.int .i64 0),.v (.int .i64 0),.v (.int .i64 0),.v (.int .i64 0),.v (.bool false),.v (.slice none 0 0),.v (.bool false),.v (.slice none 0 0)]),(3,108,[.v (.string t.coef),.v (.slice t.A t.exps.length t.cap)])] (fun w=>(IRow w t.A t.exps∧xO w (.agg #[.bool a,.slice b c f,.bool g,.slice o r s]) (q))) (fun w Q=>⟨Q.1,Q.2⟩) ?_
   exact xE ((1+(t.exps.length-(k+1)))) (by omega) ⟨(k+1),rfl,rfl,y,(fun i Y=>by rcases (by omega:i<k∨i=k) with h|rfl;exact D i h;exact Zij F M),rfl⟩
  have a0:t.exps.length≤k:=by have:=uE z;omega
  refine xN (zH (zH (xX (zB (zD (zC (xq 1 [(10,.p 10 0)] [(10,371,[.v (.int .i64 0),.v (.int .i64 0),.v (.int .i64 0),.v (.int .i64 0),.v (.int .i64 0),.v (.int .i64 0),.v (.bool false),.v (.slice none 0 0),.v (.bool false),.v (.slice none 0 0)])] ?_)))))))
  refine xe (zB (zD (zC (xq 3 [] [(10,371,[.v (.int .i64 0),.v (.int .i64 0),.v (.int .i64 0),.v (.int .i64 0),.v (.int .i64 0),.v (.int .i64 0),.v (.bool a),.v (.slice b c f),.v (.bool g),.v (.slice o r s)])] ?_))))
  refine xe (zB (zD ?_))
  refine SXc.freezeN 10 371 [.int .i64 0,.int .i64 0,.int .i64 0,.int .i64 0,.int .i64 0,.int .i64 0,.bool a,.slice b c f,.bool g,.slice o r s] (fun E=>[(3,.p 3 0),(4,.p 4 0),yB 5 false,(10,.v (.pointer (some ⟨E,0,none⟩)))]) [(4,371,[.v (.int .i64 0),.v (.int .i64 0),.v (.int .i64 0),.v (.int .i64 0),.v (.int .i64 0),.v (.int .i64 0),.v (.bool false),.v (.slice none 0 0),.v (.bool false),.v (.slice none 0 0)]),(3,108,[.v (.string t.coef),.v (.slice t.A t.exps.length t.cap)])] (by kernel_rfl) (fun _=>by kernel_rfl) (by kernel_rfl) (by kernel_rfl) (fun _=>by kernel_rfl) fun E Z=>?_
  refine yO 4 zK ?_
  refine xqg 4 [eS1 49 (some ⟨E,0,none⟩) 6 6,eS1 51 t.A t.exps.length t.cap] ?_
  refine xz ?_
  obtain⟨G,H,I,J,K,L,hx⟩:=Zlk (m:=t.exps.length) (zs:=t.exps) rfl (by omega) [.bool a,.slice b c f,.bool g,.slice o r s]
  refine Zlj (dT:=22) (sT:=22) (e:=3) (bt:=371) (dx:=.tmp 49) (sx:=.tmp 51) (d:=52) (n:=6) (m:=t.exps.length) (dc:=6) (sc:=t.cap) (cs:=[.int .i64 0,.int .i64 0,.int .i64 0,.int .i64 0,.int .i64 0,.int .i64 0,.bool a,.slice b c f,.bool g,.slice o r s]) (zs:=t.exps) E (fun w=>Blk 371 w E [.int .i64 G,.int .i64 H,.int .i64 I,.int .i64 J,.int .i64 K,.int .i64 L,.bool a,.slice b c f,.bool g,.slice o r s].toArray) rfl (by omega) (show 6≤10 by decide) (show 0<10 by decide) (fun w Q=>Q.2) (fun w Q=>Q.1.1) Z (fun w w' Q hF hB=>Eq.mp (tC (fun l:List Value=>Blk 371 w' E l.toArray) hx) hB) ?_
  refine xe (zB (zD (zC ?_)))
  refine xqk 53 (.agg #[.int .i64 G,.int .i64 H,.int .i64 I,.int .i64 J,.int .i64 K,.int .i64 L,.bool a,.slice b c f,.bool g,.slice o r s]) (fun w R Q=>Zmw (t:=371) (x:=.tmp 10) (cs:=[.int .i64 G,.int .i64 H,.int .i64 I,.int .i64 J,.int .i64 K,.int .i64 L,.bool a,.slice b c f,.bool g,.slice o r s]) Q) ?_
  refine xq 2 [yB 5 true] [(4,371,[.v (.int .i64 G),.v (.int .i64 H),.v (.int .i64 I),.v (.int .i64 J),.v (.int .i64 K),.v (.int .i64 L),.v (.bool a),.v (.slice b c f),.v (.bool g),.v (.slice o r s)])] ?_
  refine xe (zB (zI ?_))
  refine yR (.tuple #[.agg #[.int .i64 G,.int .i64 H,.int .i64 I,.int .i64 J,.int .i64 K,.int .i64 L,.bool a,.slice b c f,.bool g,.slice o r s],.bool true]) fun w' R Q=>?_
  exact eF.of (ZmE B C u (Zih (fun i Y=>D i (by omega)))) R
 refine zC (xq 4 [yB 19 false,eR4 20 a b c f g o r s] [] ?_)
 by_cases C:q.num=0
 ·refine xqc 233 [vR4 a b c f g o r s] 21 (fun _:Unit=>.bool true) _ (fun w R Q=>(jU _ q _ Q.2).mono (fun _ _ h=>zS h (by rw[uI C]))) fun X=>?_
  refine xq 8 [yB 29 true] [] ?_
  refine xe (zB (xa (zD (zC (xq 3 [yB 5 false] [] ?_)))))
  refine xe (zB (zI (zE ?_)))
  refine yR (.tuple #[.agg #[.int .i64 0,.int .i64 0,.int .i64 0,.int .i64 0,.int .i64 0,.int .i64 0,.bool false,.slice none 0 0,.bool false,.slice none 0 0],.bool false]) fun w' R Q=>?_
  exact eF.of (Zis B C) R
 refine xqc 233 [vR4 a b c f g o r s] 21 (fun _:Unit=>.bool false) _ (fun w R Q=>(jU _ q _ Q.2).mono (fun _ _ h=>zS h (by rw[uH C]))) fun X=>?_
 refine xq 7 [yB 23 false,yB 28 ((((t.exps.length:Nat):Int):Int) != v)] [] ?_
 rw[(show (((t.exps.length:Nat):Int) != v)=true by simp[u])]
 refine xq 1 [yB 29 true] [] ?_
 refine xe (zB (xa (zD (zC (xq 3 [yB 5 false] [] ?_)))))
 refine xe (zB (zI (zE ?_)))
 refine yR (.tuple #[.agg #[.int .i64 0,.int .i64 0,.int .i64 0,.int .i64 0,.int .i64 0,.int .i64 0,.bool false,.slice none 0 0,.bool false,.slice none 0 0],.bool false]) fun w' R Q=>?_
 exact eF.of (ZmD u) R
theorem TRow.at_ {w:World}{A:Option Addr}{ts:List TermR}(h:TRow w A ts){i:Nat}(hi:i<ts.length):∃ b off,A=some ⟨b,off,none⟩:=by
 obtain⟨b,off,e,_⟩:=h i hi;exact⟨b,off,e⟩
section
variable {P:Program} {o:Oper} {ρ:Operand→Value} {w:World} {t e:TypeId} {x ix:Operand} {A:Option Addr} {b off:Nat}
theorem xD (a:A=some ⟨b,off,none⟩){len cap i sz:Nat}(h:i<len)(c:o.op=Op.indexAddr t x ix:=by kernel_rfl)(d:P.underlying t=some (.slice e):=by kernel_rfl)(f:(P.info? e).map (fun i=>i.size)=some sz:=by kernel_rfl)(g:ρ x=.slice A len cap:=by kernel_rfl)(hi:ρ ix=.int .i64 (i:Int):=by kernel_rfl):(execOp ρ o).run P w=.ok (.value (.pointer (some ⟨b,off+i*sz,none⟩))) w:=by
 have:=wT (w:=w) (A:=A) (by rw[a];simp) h c d f g hi
 rw[this,a,atA,sH,iC]
theorem ZdF (a:A=some ⟨b,off,none⟩){ts:List TermR}{j:Nat}(c:TRow w A ts)(d:j<ts.length)(f:o.op=Op.load t x:=by kernel_rfl)(g:ρ x=.pointer (some ⟨b,off+j*2+1,none⟩):=by kernel_rfl)(h:(teOf P t).map (fun e=>e.agg)=some false:=by kernel_rfl) :
 (execOp ρ o).run P w=.ok (.value (.slice ts[j]!.A ts[j]!.exps.length ts[j]!.cap)) w:=by
 refine Zmx c d f ?_ h
 rw[g,a,atA,sH,iC,tR]
end
theorem TRow.exps {w:World}{A:Option Addr}{ts:List TermR}(h:TRow w A ts){i:Nat}(hi:i<ts.length):IRow w ts[i]!.A ts[i]!.exps:=by
 obtain⟨_,_,_,_,_,_,h⟩:=h i hi;exact h
abbrev ShTm:=Int×Int×Int×Int×Int×Int×Bool×Option Addr×Nat × Nat × Bool×Option Addr×Nat × Nat
def shTm (x:ShTm) (ok:Bool):Value:=match x with
 | (x0,x1,x2,x3,x4,x5,s,A,l,c,t,B,m,d)=>.tuple #[.agg #[.int .i64 x0,.int .i64 x1,.int .i64 x2,.int .i64 x3,.int .i64 x4,.int .i64 x5,.bool s,.slice A l c,.bool t,.slice B m d],.bool ok]
theorem Ziv {w w':World}{e:Ending}{a:Bool}(h:eF w a e w'):wS (fun x=>shTm x a) (fun _ _=>True) w e w':=by
 obtain⟨f,g,i,j,p,q,s,A,l,c,t,B,m,d,rfl,Q⟩:=h
 exact⟨(f,g,i,j,p,q,s,A,l,c,t,B,m,d),rfl,Q,BoxN.pure trivial⟩
def gQ (w:World) (ok:Bool) (e:Ending) (w':World):Prop:=∃ (A:Option Addr) (l c:Nat),e=.returned (.tuple #[.slice A l c,.bool ok])∧Ext w w'
theorem gQ.of {w w':World}{a r:Bool}{A:Option Addr}{l c:Nat}(h:a=r)(Q:Ext w w'):gQ w a (.returned (.tuple #[.slice A l c,.bool r])) w':=by
 subst h;exact⟨_,_,_,rfl,Q⟩
theorem Zfe {w w':World}{e:Ending}{a:Bool}(h:gQ w a e w'):wS (fun x:ShN=>.tuple #[.slice x.1 x.2.1 x.2.2,.bool a]) (fun _ _=>True) w e w':=by
 obtain⟨A,l,c,rfl,Q⟩:=h
 exact⟨(A,l,c),rfl,Q,BoxN.pure trivial⟩
section
variable {v:Int} {ts:List TermR} {k n:Nat} {t u:TermR}
theorem Zbv (h:wfT v ts k=true){i:Nat}(hi:i<k):xM v ts[i]! = true:=by
 induction k with
 | zero=>omega
 | succ k ih =>
  unfold wfT at h
  rw[vG,vG] at h
  rcases (by omega:i<k∨i=k) with a|rfl
  ·exact ih h.1 a
  exact h.2.1
theorem Zlz (c:wfT v ts k=true)(i:0<k)(h:ts[k-1]! = u)(d:xM v t=true)(a:v≤6):(cY u.exps∧cY t.exps)∧u.exps.length=t.exps.length:=by
 have f:=xM.exp (Zbv c (show k-1<k by omega)) a
 rw[h] at f
 have g:=xM.exp d a
 exact⟨⟨f.1,g.1⟩,by have:=f.2;have:=g.2;omega⟩
theorem ZdG (a:wfT v ts k=true)(d:ts[k]! = t)(c:xM v t=true)(h:k=0∨0<ordF ts[k-1]!.exps t.exps):wfT v ts (k+1)=true:=by
 unfold wfT
 rw[a,d,c]
 rcases h with h|h
 ·rw[uI h];rfl
 rw[uI h,Bool.or_true];rfl
theorem ZmF (c:ts[k]! = t)(a:xM v t=false):wfT v ts (k+1)=false:=by
 unfold wfT;rw[c,a,qM,tQ]
theorem ZmG (a:ts[k]! = t)(c:ts[k-1]! = u)(d:¬ k=0)(f:¬ 0<ordF u.exps t.exps):wfT v ts (k+1)=false:=by
 unfold wfT;rw[a,c,uH d,uH f,Bool.or_false,tQ,tQ]
theorem Zl5 (h:v<0∨6<v):(decide (0≤v) && (decide (v≤6) && wfT v ts n))=false:=by
 rcases h with h|h
 ·rw[uH (by omega:¬ 0≤v)];rfl
 rw[uH (by omega:¬ v≤6),qM,tQ]
theorem Zl6 (h:wfT v ts n=false):(decide (0≤v) && (decide (v≤6) && wfT v ts n))=false:=by rw[h,tQ,tQ]
theorem ZnX (a:¬ v<0)(c:¬ 6<v)(h:wfT v ts n=true):(decide (0≤v) && (decide (v≤6) && wfT v ts n))=true:=by
 rw[h,uI (by omega:0≤v),uI (by omega:v≤6)];rfl
end
theorem Zey (A:Option Addr)(c:Nat)(ts:List TermR)(v:Int)(w:World)(hg:Glob w)(hT:TRow w A ts)(y0:ts.length≤4096)(hc:∀ i,i<ts.length→(bytes ts[i]!.coef).length≤570)(hx:∀ i,i<ts.length→ts[i]!.exps.length≤9223372036854775807) :
 yA 237 #[.agg #[.int .i64 v,.slice A ts.length c]] w (gQ w (decide (0≤v) && (decide (v≤6) && wfT v ts ts.length))):=by
 refine xB (Φ:=fun w=>(Glob w∧TRow w A ts)) Tryz.func237 rfl (by kernel_rfl) (fun w' hf=>⟨hg.ext hf,hT.ext hf⟩) ?_
 refine zD (zC (xq 3 [(1,.p 1 0),eS1 2 none 0 0,yB 3 false] [(1,111,[.v (.int .i64 v),.v (.slice A ts.length c)])] ?_))
 refine xe (zB (zD (zD ?_)))
 by_cases W:v<0
 ·refine zC (xq 3 [yB 11 (decide (v<0))] [] ?_)
  rw[(show decide (v<0)=true from uI W)]
  refine xq 5 [yB 16 true] [] ?_
  refine xe (zB (xa (zD (zC (xq 2 [eS1 2 none 0 0,yB 3 false] [] ?_)))))
  refine xe (zB (zI (zE ?_)))
  refine yR (.tuple #[.slice none 0 0,.bool false]) fun w' R Q=>?_
  exact gQ.of (Zl5 (by omega)) R
 by_cases a0:6<v
 ·refine zC (xq 3 [yB 11 (decide (v<0))] [] ?_)
  rw[(show decide (v<0)=false from uH W)]
  refine xq 4 [yB 12 false,yB 15 (decide (v>6))] [] ?_
  rw[(show decide (v>6)=true from uI a0)]
  refine xq 1 [yB 16 true] [] ?_
  refine xe (zB (xa (zD (zC (xq 2 [eS1 2 none 0 0,yB 3 false] [] ?_)))))
  refine xe (zB (zI (zE ?_)))
  refine yR (.tuple #[.slice none 0 0,.bool false]) fun w' R Q=>?_
  exact gQ.of (Zl5 (by omega)) R
 have b0:v≤6:=by omega
 refine zC (xq 3 [yB 11 (decide (v<0))] [] ?_)
 rw[(show decide (v<0)=false from uH W)]
 refine xq 4 [yB 12 false,yB 15 (decide (v>6))] [] ?_
 rw[(show decide (v>6)=false from uH a0)]
 refine xq 1 [yB 16 false] [] ?_
 refine xe (zB (xb (zJ (zB (zD (zC (xq 3 [yJ 19 ((ts.length:Nat):Int)] [] ?_)))))))
 refine Znt (d:=20) (t:=271) (e:=371) (k:=10) (bytes:=112) (z:=(.agg #[.int .i64 0,.int .i64 0,.int .i64 0,.int .i64 0,.int .i64 0,.int .i64 0,.bool false,.slice none 0 0,.bool false,.slice none 0 0])) (kl:=.i64) (kc:=.i64) (l:=.const (.int .i64 0)) (c:=.tmp 19) (cap:=ts.length) (by simp only[maxLen];omega) (by omega) fun b cur hb N=>?_
 refine xr 1 [(1,.p 1 0),eS1 2 none 0 0,yB 3 false,eS1 4 (some ⟨b,0,none⟩) 0 ts.length] [(1,111,[.v (.int .i64 v),.v (.slice A ts.length c)])] ?_
 refine xe (zB (zD (zD (zC (xq 4 [eS1 22 A ts.length c,yJ 23 ((ts.length:Nat):Int),yJ 24 0] [] ?_)))))
 refine xe (zB (zN ?_))
 refine yC [(1,.p 1 0),eS1 2 none 0 0,yB 3 false,eS1 4 (some ⟨b,0,none⟩) 0 ts.length,eS1 22 A ts.length c,yJ 23 ((ts.length:Nat):Int),yJ 24 ((0:Nat):Int)] [(1,111,[.v (.int .i64 v),.v (.slice A ts.length c)])] (fun w=>((Glob w∧TRow w A ts)∧Blk 371 w b cur.toArray)) (fun w Q=>⟨⟨Q.1.1,Q.1.2⟩,Q.2⟩) ?_
 refine xS (fun nn ss ff=>∃ (k b cap:Nat) (cur:List Value),ss=ofL [(1,.p 1 0),eS1 2 none 0 0,yB 3 false,eS1 4 (some ⟨b,0,none⟩) k cap,eS1 22 A ts.length c,yJ 23 ((ts.length:Nat):Int),yJ 24 (k:Int)] [(1,111,[.v (.int .i64 v),.v (.slice A ts.length c)])]∧ff=(fun w=>((Glob w∧TRow w A ts)∧Blk 371 w b cur.toArray))∧(w.heap.size≤b)∧(cur.length=cap*10)∧(k≤cap)∧(cap≤maxLen)∧(0<ts.length→0<cur.length)∧(k≤ts.length)∧(wfT v ts k=true)∧nn=(1+(ts.length-k))) ((1+(ts.length-0))) ⟨0,b,ts.length,cur,rfl,rfl,hb,N,(uM _),(by simp only[maxLen];omega),(fun h=>by omega),(uM _),rfl,rfl⟩ ?_
 rintro nn ss ff ⟨k,b,cap,cur,rfl,rfl,hb,N,d0,e0,Z,hk,X,rfl⟩
 refine zD (zC (xq 1 [yB 25 (decide ((k:Int)<((ts.length:Nat):Int)))] [] ?_))
 refine xe (zB (zD ?_))
 refine yQ ((decide ((k:Int)<((ts.length:Nat):Int)))) (fun T=>?_) fun T=>?_
 ·have a:k<ts.length:=by have:=uF T;omega
  refine zJ (zB (zD (zN (zD (zC (xq 1 [yJ 26 (k:Int)] [] ?_))))))
  refine xqk 27 (atA A (k*2)) (fun w R Q=>wT (t:=109) (e:=108) (sz:=2) (x:=.tmp 22) (ix:=.tmp 24) (len:=ts.length) (cap:=c) (i:=k) ((Q.1.2).ne a) a) ?_
  obtain⟨t,O⟩:∃ x,ts[k]! = x:=⟨_,rfl⟩
  refine xqk 28 (.agg #[.string t.coef,.slice t.A t.exps.length t.cap]) (fun w R Q=>by rw[←O];exact Zii (t:=108) (x:=.tmp 27) (ts:=ts) (j:=k) (Q.1.2) a) ?_
  refine xq 3 [yJ 5 (k:Int),(6,.p 6 0)] [(6,108,[.v (.string t.coef),.v (.slice t.A t.exps.length t.cap)])] ?_
  refine xe (zB (zD (zC (xq 3 [yJ 31 v,(32,.v (.agg #[.string t.coef,.slice t.A t.exps.length t.cap]))] [] ?_))))
  cases hok:xM v t
  ·refine xqc 279 [.int .i64 v,.agg #[.string t.coef,.slice t.A t.exps.length t.cap]] 33 (fun x=>shTm x false) _ (fun w R Q=>(Zcq t v _ Q.1.1 (O ▸ hc k a) (O ▸ hx k a) b0 (O ▸ TRow.exps Q.1.2 a)).mono (fun _ _ h=>Ziv (by rw[hok] at h;exact h))) fun⟨f0,g0,h0,i0,j0,k0,p0,q0,r0,t0,u0,v0,w0,x0⟩=>?_
   refine xq 6 [(7,.p 7 0),yB 8 false] [(7,371,[.v (.int .i64 f0),.v (.int .i64 g0),.v (.int .i64 h0),.v (.int .i64 i0),.v (.int .i64 j0),.v (.int .i64 k0),.v (.bool p0),.v (.slice q0 r0 t0),.v (.bool u0),.v (.slice v0 w0 x0)])] ?_
   refine xe (zB (zD (zD ?_)))
   refine kN 19 [0,1,3,7,15,31,63,127,63,319,1023,2047,4095,63,8255,32767,65535,131071,262143] (by kernel_rfl) (by kernel_rfl) zK ?_
   refine xqg 19 [yB 54 true] ?_
   refine xz (xe (zB (xa (zD (zC (xq 2 [eS1 2 none 0 0,yB 3 false] [] ?_))))))
   refine xe (zB (zI (zE (xP (zE (zE (xP (zE ?_))))))))
   refine yR (.tuple #[.slice none 0 0,.bool false]) fun w' R Q=>?_
   exact gQ.of (Zl6 (ZgY (k:=k+1) (ZmF O hok) _ a)) R
  refine xqc 279 [.int .i64 v,.agg #[.string t.coef,.slice t.A t.exps.length t.cap]] 33 (fun x=>shTm x true) _ (fun w R Q=>(Zcq t v _ Q.1.1 (O ▸ hc k a) (O ▸ hx k a) b0 (O ▸ TRow.exps Q.1.2 a)).mono (fun _ _ h=>Ziv (by rw[hok] at h;exact h))) fun⟨f,g,q,r,s,y,D,E,F,G,H,I,J,K⟩=>?_
  refine xq 6 [(7,.p 7 0),yB 8 true] [(7,371,[.v (.int .i64 f),.v (.int .i64 g),.v (.int .i64 q),.v (.int .i64 r),.v (.int .i64 s),.v (.int .i64 y),.v (.bool D),.v (.slice E F G),.v (.bool H),.v (.slice I J K)])] ?_
  refine xe (zB (zD (zD ?_)))
  by_cases l0:k=0
  ·refine kN 19 [0,1,3,7,15,31,63,127,63,319,1023,2047,4095,63,8255,32767,65535,131071,262143] (by kernel_rfl) (by kernel_rfl) zK ?_
   refine xqg 5 [yB 38 false,yB 40 (decide ((k:Int)>0))] ?_
   rw[(show decide ((k:Int)>0)=false from uH (by omega))]
   refine xqg 14 [yB 54 false] ?_
   refine xz (xe (zB (xb (zJ (zB (zC (xq 2 [eS1 55 (some ⟨b,0,none⟩) k cap,(56,.v (.agg #[.int .i64 f,.int .i64 g,.int .i64 q,.int .i64 r,.int .i64 s,.int .i64 y,.bool D,.slice E F G,.bool H,.slice I J K]))] [] ?_)))))))
   refine yD (d:=57) (fun zb:Nat=>.slice (some ⟨zb,0,none⟩) 1 1) (fun zb zw=>Blk 371 zw zb #[.int .i64 f,.int .i64 g,.int .i64 q,.int .i64 r,.int .i64 s,.int .i64 y,.bool D,.slice E F G,.bool H,.slice I J K]) (fun w R Q=>gX (t:=271) (e:=371) (n:=1) (sz:=10) (z:=.agg #[.int .i64 0,.int .i64 0,.int .i64 0,.int .i64 0,.int .i64 0,.int .i64 0,.bool false,.slice none 0 0,.bool false,.slice none 0 0]) (parts:=#[(0,Operand.tmp 56)]) (by kernel_rfl) (by kernel_rfl) (by kernel_rfl) (by kernel_rfl) (by kernel_rfl) (by kernel_rfl)) fun m0=>?_
   refine xr 0 [(1,.p 1 0),eS1 2 none 0 0,yB 3 false,eS1 4 (some ⟨b,0,none⟩) k cap,eS1 22 A ts.length c,yJ 23 ((ts.length:Nat):Int),yJ 24 (k:Int),eS1 55 (some ⟨b,0,none⟩) k cap,eS1 57 (some ⟨m0,0,none⟩) 1 1] [(1,111,[.v (.int .i64 v),.v (.slice A ts.length c)])] ?_
   refine Zj8 (d:=58) (k:=10) (n:=k) (m:=1) (cap:=cap) (bytes:=112) (t:=271) (e:=371) (s0:=.tmp 55) (x:=.tmp 57) (cur:=cur) (news:=[.int .i64 f,.int .i64 g,.int .i64 q,.int .i64 r,.int .i64 s,.int .i64 y,.bool D,.slice E F G,.bool H,.slice I J K]) (z:=(.agg #[.int .i64 0,.int .i64 0,.int .i64 0,.int .i64 0,.int .i64 0,.int .i64 0,.bool false,.slice none 0 0,.bool false,.slice none 0 0])) b m0 1 (fun w=>Glob w∧TRow w A ts) (fun w Q=>Q.1.1.2) (fun w Q=>Q.2) rfl (by decide) rfl N d0 e0 (Z (by omega)) (by omega) hb (by simp[Value.oneCell']) (by simp only[maxLen];omega) (by omega) (fun w w' R Q hF=>⟨hg.ext R,hT.ext R⟩) fun Y B C c0 L U V n0 M=>?_
   refine xr 1 [(1,.p 1 0),eS1 2 none 0 0,yB 3 false,eS1 4 (some ⟨Y,0,none⟩) (k+1) B,eS1 22 A ts.length c,yJ 23 ((ts.length:Nat):Int),yJ 24 (k:Int)] [(1,111,[.v (.int .i64 v),.v (.slice A ts.length c)])] ?_
   refine xe (xK (zB (zC (xq 1 [yJ 59 (IntKind.i64.wrap ((k:Int)+1))] [] ?_))))
   rw[(show IntKind.i64.wrap ((k:Int)+1)=((k+1:Nat):Int) by rw[IntKind.wrap_i64];omega)]
   refine xq 1 [yJ 24 ((k+1:Nat):Int)] [] ?_
   refine xe ?_
   refine yP [(1,.p 1 0),eS1 2 none 0 0,yB 3 false,eS1 4 (some ⟨Y,0,none⟩) (k+1) B,eS1 22 A ts.length c,yJ 23 ((ts.length:Nat):Int),yJ 24 (((k+1):Nat):Int)] [(1,111,[.v (.int .i64 v),.v (.slice A ts.length c)])] (fun w=>((Glob w∧TRow w A ts)∧Blk 371 w Y C.toArray)) (fun w Q=>⟨⟨Q.1.1,Q.1.2⟩,Q.2⟩) ?_
   exact xE ((1+(ts.length-(k+1)))) (by omega) ⟨(k+1),Y,B,C,rfl,rfl,c0,L,U,V,(fun _=>M),a,(ZdG X O hok (Or.inl l0)),rfl⟩
  obtain⟨u,hu⟩:∃ x,ts[k-1]! = x:=⟨_,rfl⟩
  refine SXc.know (p:=∃ tb tf,A=some ⟨tb,tf,none⟩) (fun w _ Q=>TRow.at_ Q.1.1.2 a) fun⟨tb,tf,hA⟩=>?_
  have S:=Zlz X (by omega) hu hok b0
  by_cases ho:0<ordF u.exps t.exps
  ·refine kN 19 [0,1,3,7,15,31,63,127,63,319,1023,2047,4095,63,8255,32767,65535,131071,262143] (by kernel_rfl) (by kernel_rfl) zK ?_
   refine xqg 5 [yB 38 false,yB 40 (decide ((k:Int)>0))] ?_
   rw[(show decide ((k:Int)>0)=true from uI (by omega))]
   refine xqg 5 [yB 41 true,eS1 43 A ts.length c,yJ 45 (IntKind.i64.wrap ((k:Int)-1))] ?_
   rw[(show IntKind.i64.wrap ((k:Int)-1)=((k-1:Nat):Int) by rw[IntKind.wrap_i64];omega)]
   refine xqj 46 (.pointer (some ⟨tb,tf+(k-1)*2,none⟩)) (fun w Q=>xD hA (t:=109) (e:=108) (sz:=2) (x:=.tmp 43) (ix:=.tmp 45) (len:=ts.length) (cap:=c) (i:=k-1) (by omega)) ?_
   refine xqg 1 [(47,.v (.pointer (some ⟨tb,tf+(k-1)*2+1,none⟩)))] ?_
   refine xqj 48 (.slice u.A u.exps.length u.cap) (fun w Q=>by rw[←hu];exact ZdF hA (t:=22) (x:=.tmp 47) (ts:=ts) (j:=k-1) (Q.1.1.2) (by omega)) ?_
   refine xqg 2 [eS1 50 t.A t.exps.length t.cap] ?_
   refine xqd 280 [.slice u.A u.exps.length u.cap,.slice t.A t.exps.length t.cap] 51 (fun _:Unit=>.int .i64 (ordF u.exps t.exps)) _ (fun w R Q=>yN (ZfF u.A t.A u.cap t.cap u.exps t.exps _ (hu ▸ TRow.exps Q.1.1.2 (by omega)) (O ▸ TRow.exps Q.1.1.2 a) S.2 S.1.1 S.1.2)) fun xx=>?_
   refine xqg 1 [yB 52 (decide ((ordF u.exps t.exps)≤0))] ?_
   rw[(show decide (ordF u.exps t.exps≤0)=false from uH (by omega))]
   refine xqg 2 [yB 54 false] ?_
   refine xz (xe (zB (xb (zJ (zB (zC (xq 2 [eS1 55 (some ⟨b,0,none⟩) k cap,(56,.v (.agg #[.int .i64 f,.int .i64 g,.int .i64 q,.int .i64 r,.int .i64 s,.int .i64 y,.bool D,.slice E F G,.bool H,.slice I J K]))] [] ?_)))))))
   refine yD (d:=57) (fun zb:Nat=>.slice (some ⟨zb,0,none⟩) 1 1) (fun zb zw=>Blk 371 zw zb #[.int .i64 f,.int .i64 g,.int .i64 q,.int .i64 r,.int .i64 s,.int .i64 y,.bool D,.slice E F G,.bool H,.slice I J K]) (fun w R Q=>gX (t:=271) (e:=371) (n:=1) (sz:=10) (z:=.agg #[.int .i64 0,.int .i64 0,.int .i64 0,.int .i64 0,.int .i64 0,.int .i64 0,.bool false,.slice none 0 0,.bool false,.slice none 0 0]) (parts:=#[(0,Operand.tmp 56)]) (by kernel_rfl) (by kernel_rfl) (by kernel_rfl) (by kernel_rfl) (by kernel_rfl) (by kernel_rfl)) fun o0=>?_
   refine xr 0 [(1,.p 1 0),eS1 2 none 0 0,yB 3 false,eS1 4 (some ⟨b,0,none⟩) k cap,eS1 22 A ts.length c,yJ 23 ((ts.length:Nat):Int),yJ 24 (k:Int),eS1 55 (some ⟨b,0,none⟩) k cap,eS1 57 (some ⟨o0,0,none⟩) 1 1] [(1,111,[.v (.int .i64 v),.v (.slice A ts.length c)])] ?_
   refine Zj8 (d:=58) (k:=10) (n:=k) (m:=1) (cap:=cap) (bytes:=112) (t:=271) (e:=371) (s0:=.tmp 55) (x:=.tmp 57) (cur:=cur) (news:=[.int .i64 f,.int .i64 g,.int .i64 q,.int .i64 r,.int .i64 s,.int .i64 y,.bool D,.slice E F G,.bool H,.slice I J K]) (z:=(.agg #[.int .i64 0,.int .i64 0,.int .i64 0,.int .i64 0,.int .i64 0,.int .i64 0,.bool false,.slice none 0 0,.bool false,.slice none 0 0])) b o0 1 (fun w=>Glob w∧TRow w A ts) (fun w Q=>Q.1.1.1.2) (fun w Q=>Q.2) rfl (by decide) rfl N d0 e0 (Z (by omega)) (by omega) hb (by simp[Value.oneCell']) (by simp only[maxLen];omega) (by omega) (fun w w' R Q hF=>⟨hg.ext R,hT.ext R⟩) fun Y B C c0 L U V n0 M=>?_
   refine xr 1 [(1,.p 1 0),eS1 2 none 0 0,yB 3 false,eS1 4 (some ⟨Y,0,none⟩) (k+1) B,eS1 22 A ts.length c,yJ 23 ((ts.length:Nat):Int),yJ 24 (k:Int)] [(1,111,[.v (.int .i64 v),.v (.slice A ts.length c)])] ?_
   refine xe (xK (zB (zC (xq 1 [yJ 59 (IntKind.i64.wrap ((k:Int)+1))] [] ?_))))
   rw[(show IntKind.i64.wrap ((k:Int)+1)=((k+1:Nat):Int) by rw[IntKind.wrap_i64];omega)]
   refine xq 1 [yJ 24 ((k+1:Nat):Int)] [] ?_
   refine xe ?_
   refine yP [(1,.p 1 0),eS1 2 none 0 0,yB 3 false,eS1 4 (some ⟨Y,0,none⟩) (k+1) B,eS1 22 A ts.length c,yJ 23 ((ts.length:Nat):Int),yJ 24 (((k+1):Nat):Int)] [(1,111,[.v (.int .i64 v),.v (.slice A ts.length c)])] (fun w=>((Glob w∧TRow w A ts)∧Blk 371 w Y C.toArray)) (fun w Q=>⟨⟨Q.1.1,Q.1.2⟩,Q.2⟩) ?_
   exact xE ((1+(ts.length-(k+1)))) (by omega) ⟨(k+1),Y,B,C,rfl,rfl,c0,L,U,V,(fun _=>M),a,(ZdG X O hok (Or.inr (by rw[hu];exact ho))),rfl⟩
  refine kN 19 [0,1,3,7,15,31,63,127,63,319,1023,2047,4095,63,8255,32767,65535,131071,262143] (by kernel_rfl) (by kernel_rfl) zK ?_
  refine xqg 5 [yB 38 false,yB 40 (decide ((k:Int)>0))] ?_
  rw[(show decide ((k:Int)>0)=true from uI (by omega))]
  refine xqg 5 [yB 41 true,eS1 43 A ts.length c,yJ 45 (IntKind.i64.wrap ((k:Int)-1))] ?_
  rw[(show IntKind.i64.wrap ((k:Int)-1)=((k-1:Nat):Int) by rw[IntKind.wrap_i64];omega)]
  refine xqj 46 (.pointer (some ⟨tb,tf+(k-1)*2,none⟩)) (fun w Q=>xD hA (t:=109) (e:=108) (sz:=2) (x:=.tmp 43) (ix:=.tmp 45) (len:=ts.length) (cap:=c) (i:=k-1) (by omega)) ?_
  refine xqg 1 [(47,.v (.pointer (some ⟨tb,tf+(k-1)*2+1,none⟩)))] ?_
  refine xqj 48 (.slice u.A u.exps.length u.cap) (fun w Q=>by rw[←hu];exact ZdF hA (t:=22) (x:=.tmp 47) (ts:=ts) (j:=k-1) (Q.1.1.2) (by omega)) ?_
  refine xqg 2 [eS1 50 t.A t.exps.length t.cap] ?_
  refine xqd 280 [.slice u.A u.exps.length u.cap,.slice t.A t.exps.length t.cap] 51 (fun _:Unit=>.int .i64 (ordF u.exps t.exps)) _ (fun w R Q=>yN (ZfF u.A t.A u.cap t.cap u.exps t.exps _ (hu ▸ TRow.exps Q.1.1.2 (by omega)) (O ▸ TRow.exps Q.1.1.2 a) S.2 S.1.1 S.1.2)) fun xx=>?_
  refine xqg 1 [yB 52 (decide ((ordF u.exps t.exps)≤0))] ?_
  rw[(show decide (ordF u.exps t.exps≤0)=true from uI (by omega))]
  refine xqg 2 [yB 54 true] ?_
  refine xz (xe (zB (xa (zD (zC (xq 2 [eS1 2 none 0 0,yB 3 false] [] ?_))))))
  refine xe (zB (zI (zE (xP (zE (zE (xP (zE ?_))))))))
  refine yR (.tuple #[.slice none 0 0,.bool false]) fun w' R Q=>?_
  exact gQ.of (Zl6 (ZgY (k:=k+1) (ZmG O hu l0 ho) _ a)) R
 have z0:ts.length≤k:=by have:=uE T;omega
 refine xN (zH (zH (xX (zB (zD (zC (xq 3 [eS1 2 (some ⟨b,0,none⟩) k cap,yB 3 true] [] ?_)))))))
 refine xe (zB (zI ?_))
 refine yR (.tuple #[.slice (some ⟨b,0,none⟩) k cap,.bool true]) fun w' R Q=>?_
 exact gQ.of (ZnX W a0 (by rw[show ts.length=k by omega];exact X)) R
theorem Zcr {w w':World}{e:Ending}{x y:Value}(h:e=.returned x∧w'=w)(a:x=y):wS (fun _:Unit=>y) (fun _ _=>True) w e w':=by
 obtain⟨rfl,rfl⟩:=h
 subst a
 exact⟨(),rfl,Fr.refl _ _,BoxN.pure trivial⟩
section
variable {v:Int} {ts:List TermR} {u:TermR}
theorem ZmH (h:4096<ts.length):wP v ts=false:=by unfold wP;rw[uH (by omega:¬ ts.length≤4096)];rfl
theorem Zbw (a b c d:Bool):(a && (b && (c && d)))=((a && (b && c)) && d):=by cases a<;>cases b<;>cases c<;>rfl
theorem ZmI (h:(decide (0≤v) && (decide (v≤6) && wfT v ts ts.length))=false):wP v ts=false:=by
 unfold wP;rw[Zbw (decide (0≤v)),h,qM,tQ]
theorem ZlA (h:(decide (0≤v) && (decide (v≤6) && wfT v ts ts.length))=true)(a:ts.length=0):wP v ts=true:=by
 unfold wP;rw[Zbw (decide (0≤v)),h,uI (by omega:ts.length≤4096),uI a];rfl
theorem ZmJ (c:¬ 4096<ts.length)(h:(decide (0≤v) && (decide (v≤6) && wfT v ts ts.length))=true)(a:ts[0]! = u)(b:0≤degF u.exps):wP v ts=true:=by
 unfold wP;rw[Zbw (decide (0≤v)),h,uI (by omega:ts.length≤4096),a,uI b,Bool.or_true];rfl
theorem ZmK (c:0<ts.length)(a:ts[0]! = u)(b:¬ 0≤degF u.exps):wP v ts=false:=by
 unfold wP;rw[a,uH b,uH (by omega:¬ ts.length=0),Bool.or_false,tQ,tQ,tQ,tQ]
end
theorem Zkv (A:Option Addr)(c:Nat)(ts:List TermR)(v:Int)(w:World)(C:Glob w)(D:TRow w A ts)(s:∀ i,i<ts.length→(bytes ts[i]!.coef).length≤570)(k:∀ i,i<ts.length→ts[i]!.exps.length≤9223372036854775807) :
 yA 178 #[.agg #[.int .i64 v,.slice A ts.length c]] w (gQ w (wP v ts)):=by
 refine xB (Φ:=fun w=>(Glob w∧TRow w A ts)) Tryz.func178 rfl (by kernel_rfl) (fun w' y=>⟨C.ext y,D.ext y⟩) ?_
 refine zD (zC (xq 3 [(1,.p 1 0),eS1 2 none 0 0,yB 3 false] [(1,111,[.v (.int .i64 v),.v (.slice A ts.length c)])] ?_))
 refine xe (zB (zD (zD ?_)))
 by_cases z:4096<ts.length
 ·refine zC (xq 4 [yB 9 (decide (((ts.length:Nat):Int)>4096))] [] ?_)
  rw[(show decide (((ts.length:Nat):Int)>4096)=true from uI (by omega))]
  refine xe (zB (xa (zD (zC (xq 2 [eS1 2 none 0 0,yB 3 false] [] ?_)))))
  refine xe (zB (zI (zE ?_)))
  refine yR (.tuple #[.slice none 0 0,.bool false]) fun w' R Q=>?_
  exact gQ.of (ZmH z) R
 refine zC (xq 4 [yB 9 (decide (((ts.length:Nat):Int)>4096))] [] ?_)
 rw[(show decide (((ts.length:Nat):Int)>4096)=false from uH (by omega))]
 refine xe (zB (xb (zJ (zB (zD (zC (xq 1 [(11,.v (.agg #[.int .i64 v,.slice A ts.length c]))] [] ?_)))))))
 cases hw:(decide (0≤v) && (decide (v≤6) && wfT v ts ts.length))
 ·refine xqc 237 [.agg #[.int .i64 v,.slice A ts.length c]] 12 (fun x:ShN=>.tuple #[.slice x.1 x.2.1 x.2.2,.bool false]) _ (fun w R Q=>(Zey A c ts v _ Q.1 Q.2 (by omega) s k).mono (fun _ _ h=>Zfe (by rw[hw] at h;exact h))) fun⟨o,q,r⟩=>?_
  refine xq 5 [eS1 4 o q r,yB 5 false] [] ?_
  refine xe (zB (zD (zD (zC (xq 17 [yB 31 true] [] ?_)))))
  refine xe (zB (xa (zD (zC (xq 2 [eS1 2 none 0 0,yB 3 false] [] ?_)))))
  refine xe (zB (zI (zE ?_)))
  refine yR (.tuple #[.slice none 0 0,.bool false]) fun w' R Q=>?_
  exact gQ.of (ZmI hw) R
 refine xqc 237 [.agg #[.int .i64 v,.slice A ts.length c]] 12 (fun x:ShN=>.tuple #[.slice x.1 x.2.1 x.2.2,.bool true]) _ (fun w R Q=>(Zey A c ts v _ Q.1 Q.2 (by omega) s k).mono (fun _ _ h=>Zfe (by rw[hw] at h;exact h))) fun⟨a,b,d⟩=>?_
 refine xq 5 [eS1 4 a b d,yB 5 true] [] ?_
 refine xe (zB (zD (zD ?_)))
 by_cases f:0<ts.length
 ·obtain⟨u,g⟩:∃ x,ts[0]! = x:=⟨_,rfl⟩
  refine SXc.know (p:=∃ l m,A=some ⟨l,m,none⟩) (fun w _ Q=>TRow.at_ Q.1.2 f) fun⟨l,m,B⟩=>?_
  refine zC (xq 7 [yB 17 false,yB 21 (decide (((ts.length:Nat):Int)>0))] [] ?_)
  rw[(show decide (((ts.length:Nat):Int)>0)=true from uI (by omega))]
  refine xq 3 [yB 22 true,eS1 24 A ts.length c] [] ?_
  refine xqk 25 (.pointer (some ⟨l,m+0*2,none⟩)) (fun w R Q=>xD B (t:=109) (e:=108) (sz:=2) (x:=.tmp 24) (ix:=.const (.int .i64 0)) (len:=ts.length) (cap:=c) (i:=0) f) ?_
  refine xq 1 [(26,.v (.pointer (some ⟨l,m+0*2+1,none⟩)))] [] ?_
  refine xqk 27 (.slice u.A u.exps.length u.cap) (fun w R Q=>by rw[←g];exact ZdF B (t:=22) (x:=.tmp 26) (ts:=ts) (j:=0) (Q.1.2) f) ?_
  by_cases n:0≤degF u.exps
  ·refine xqc 238 [.slice u.A u.exps.length u.cap] 28 (fun _:Unit=>.bool true) _ (fun w R Q=>(Zeq u.A u.cap u.exps _ (g ▸ TRow.exps Q.1.2 f) (g ▸ k 0 f)).mono (fun _ _ h=>Zcr h (by rw[uI n]))) fun E=>?_
   refine xq 3 [yB 31 false] [] ?_
   refine xe (zB (xb (zJ (zB (zD (zC (xq 3 [eS1 2 a b d,yB 3 true] [] ?_)))))))
   refine xe (zB (zI ?_))
   refine yR (.tuple #[.slice a b d,.bool true]) fun w' R Q=>?_
   exact gQ.of (ZmJ z hw g n) R
  refine xqc 238 [.slice u.A u.exps.length u.cap] 28 (fun _:Unit=>.bool false) _ (fun w R Q=>(Zeq u.A u.cap u.exps _ (g ▸ TRow.exps Q.1.2 f) (g ▸ k 0 f)).mono (fun _ _ h=>Zcr h (by rw[uH n]))) fun E=>?_
  refine xq 3 [yB 31 true] [] ?_
  refine xe (zB (xa (zD (zC (xq 2 [eS1 2 none 0 0,yB 3 false] [] ?_)))))
  refine xe (zB (zI (zE ?_)))
  refine yR (.tuple #[.slice none 0 0,.bool false]) fun w' R Q=>?_
  exact gQ.of (ZmK f g n) R
 refine zC (xq 7 [yB 17 false,yB 21 (decide (((ts.length:Nat):Int)>0))] [] ?_)
 rw[(show decide (((ts.length:Nat):Int)>0)=false from uH (by omega))]
 refine xq 10 [yB 31 false] [] ?_
 refine xe (zB (xb (zJ (zB (zD (zC (xq 3 [eS1 2 a b d,yB 3 true] [] ?_)))))))
 refine xe (zB (zI ?_))
 refine yR (.tuple #[.slice a b d,.bool true]) fun w' R Q=>?_
 exact gQ.of (ZlA hw (by omega)) R
theorem aH (A:Option Addr)(c:Nat)(ts:List TermR)(v:Int)(w:World)(b:Glob w)(d:TRow w A ts)(e:∀ i,i<ts.length→(bytes ts[i]!.coef).length≤570)(f:∀ i,i<ts.length→ts[i]!.exps.length≤9223372036854775807) :
 yA 89 #[.agg #[.int .i64 v,.slice A ts.length c]] w (RetV w (.bool (wP v ts))):=by
 refine xB (Φ:=fun w=>(Glob w∧TRow w A ts)) Tryz.func89 rfl (by kernel_rfl) (fun w' a=>⟨b.ext a,d.ext a⟩) ?_
 refine zD (zC (xq 2 [(1,.p 1 0),yB 2 false] [(1,111,[.v (.int .i64 v),.v (.slice A ts.length c)])] ?_))
 refine xe (zB (zD (zC (xq 1 [(6,.v (.agg #[.int .i64 v,.slice A ts.length c]))] [] ?_))))
 refine xqc 178 [.agg #[.int .i64 v,.slice A ts.length c]] 7 (fun x:ShN=>.tuple #[.slice x.1 x.2.1 x.2.2,.bool (wP v ts)]) _ (fun w R Q=>yM Zfe (Zkv A c ts v _ Q.1 Q.2 e f)) fun⟨g,h,j⟩=>?_
 refine xq 5 [yB 4 (wP v ts)] [] ?_
 refine xe (zB (zD (zC (xq 2 [yB 2 (wP v ts)] [] ?_))))
 refine xe (zB (zI ?_))
 refine yR (.bool (wP v ts)) fun w' R Q=>?_
 exact⟨rfl,R⟩
theorem Zez (lo b:Nat)(l:List UInt8)(w:World)(h:WrIs lo b l w)(c:l≠[])(f:l.length≤1048576) :
 yA 34 #[.pointer (some ⟨b,0,none⟩)] w fun e w'=>e=.returned (.tuple #[.string ⟨l.toArray⟩,.int .i64 0])∧WrFr lo b w w':=by
 have H:=zh h
 have g:((l.length:Nat):Int)≤1048576:=by omega
 clear h
 go_enter Tryz.func34,Tryz.ntmps34
 go_wp2_with fail
 refine (Zig lo b l _ H.out).mono ?_
 rintro e i ⟨rfl,rfl⟩
 go_wp2_with fail
 refine (Zj9 lo b l _ H.out c).mono ?_
 rintro e j ⟨rfl,a⟩
 have d:=zh a
 clear a
 go_wp2
 go_ret2
 exact⟨rfl,d.out⟩
theorem ZlB (v:Int)(ts:List TermR):kZ v ts≠[]:=by
 unfold kZ wY
 simp
theorem xM.range {v:Int}{t:TermR}(h:xM v t=true)(b:v≤6):t.exps.length≤6∧∀ j,j<t.exps.length→wA (nth t.exps j):=by
 have a:=xM.exp h b
 exact⟨a.1.1,fun j _=>by have:=a.1.2 j;unfold wA;omega⟩
theorem wP.parts {v:Int}{ts:List TermR}(h:wP v ts=true):(0≤v∧v≤6)∧ts.length≤4096∧wfT v ts ts.length=true:=by
 unfold wP at h
 simp only[vG,vF] at h
 exact⟨⟨h.2.1,h.2.2.1⟩,h.1,h.2.2.2.1⟩
theorem WrIs.new {w:World}{lo b:Nat}(a:lo≤b)(h:Blk 103 w b #[.pointer none,.slice none 0 0]):WrIs lo b [] w :=
 ⟨.pointer none,Or.inl rfl,a,.slice none 0 0,h,World.ownsRow_nil w lo 5 1,fun e=>by cases e⟩
def fpV (v:Int) (ts:List TermR):Value:=if wP v ts then .tuple #[.string ⟨(kZ v ts).toArray⟩,.int .i64 0] else .tuple #[.string ⟨#[]⟩,.int .i64 1]
def kts (b1 b2:Nat):List TermR:=[⟨⟨#[50]⟩,some ⟨b1,0,none⟩,2,[1,1]⟩,⟨⟨#[45,49]⟩,some ⟨b2,0,none⟩,2,[0,0]⟩]
theorem Zcs {p:Nat→Prop}(a:p 0)(b:p 1){i:Nat}(h:i<2):p i:=by
 match i,h with
 | 0,_=>exact a
 | 1,_=>exact b
theorem ZmL {w:World}{a c f:Nat}(g:Blk 3 w a #[.int .i64 1,.int .i64 1])(h:Blk 3 w c #[.int .i64 0,.int .i64 0])(e:Blk 108 w f #[.string ⟨#[50]⟩,.slice (some ⟨a,0,none⟩) 2 2,.string ⟨#[45,49]⟩,.slice (some ⟨c,0,none⟩) 2 2]):TRow w (some ⟨f,0,none⟩) (kts a c):=fun i j=>by
 refine Zcs (p:=fun i=>∃ b d,some (⟨f,0,none⟩:Addr)=some ⟨b,d,none⟩∧b<w.heap.size∧w.cell? ⟨b,d+i*2,none⟩=some (.string (kts a c)[i]!.coef)∧w.cell? ⟨b,d+i*2+1,none⟩=some (.slice (kts a c)[i]!.A (kts a c)[i]!.exps.length (kts a c)[i]!.cap)∧IRow w (kts a c)[i]!.A (kts a c)[i]!.exps) ?_ ?_ j
 ·exact⟨f,0,rfl,e.lt,by rw[e.cell];rfl,by rw[e.cell];rfl,IRow.two g⟩
 exact⟨f,0,rfl,e.lt,by rw[e.cell];rfl,by rw[e.cell];rfl,IRow.two h⟩
theorem ZlC {a b i:Nat}(hi:i<(kts a b).length):(bytes (kts a b)[i]!.coef).length=if i=0 then 1 else 2:=Zcs (p:=fun i=>(bytes (kts a b)[i]!.coef).length=if i=0 then 1 else 2) rfl rfl hi
theorem ZmM {a b i:Nat}(hi:i<(kts a b).length):(kts a b)[i]!.exps.length=2:=Zcs (p:=fun i=>(kts a b)[i]!.exps.length=2) rfl rfl hi
theorem ZaQ {n:Nat}(h:n<10):zO (n:Int)=⟨#[UInt8.ofNat (48+n)]⟩:=by
 unfold zO;rw[Lib.itoa_nonneg,Lib.decDigits_one h]
theorem Zg6 (a b:Nat):kZ 2 (kts a b)=[112,111,108,121,32,50,32,50,10,116,101,114,109,32,50,32,49,32,49,10,116,101,114,109,32,45,49,32,48,32,48,10]:=by
 have d:zO 0=⟨#[48]⟩:=ZaQ (n:=0) (by decide)
 have e:zO 1=⟨#[49]⟩:=ZaQ (n:=1) (by decide)
 have c:zO 2=⟨#[50]⟩:=ZaQ (n:=2) (by decide)
 have f:zO (((kts a b).length:Nat):Int)=⟨#[50]⟩:=c
 unfold kZ lN
 rw[f,c]
 simp only[kts,sK,qF,List.map_cons,List.map_nil,d,e]
 rfl
theorem Znz (a b:Nat):wP 2 (kts a b)=true:=by
 have c:xI (bytes ⟨#[50]⟩)=some 2:=ZdE.2 (by
  unfold xA;rw[tA (by rfl)];exact (Lib.itoa_nonneg 2).trans (Lib.decDigits_one (by decide)))
 have d:xI (bytes ⟨#[45,49]⟩)=some (-1):=ZdE.2 (by
  unfold xA;rw[tA (by rfl)];exact (Lib.itoa_neg 1 (by decide)).trans (tC (fun l=>45 :: l) (Lib.decDigits_one (by decide))))
 have e:bD (bytes ⟨#[50]⟩)=true:=by unfold bD;rw[c];rfl
 have f:bD (bytes ⟨#[45,49]⟩)=true:=by unfold bD;rw[d];rfl
 have g:xM 2 (kts a b)[0]! = true:=by
  unfold xM
  rw[show (kts a b)[0]!.coef=⟨#[50]⟩ from rfl,e];rfl
 have h:xM 2 (kts a b)[1]! = true:=by
  unfold xM
  rw[show (kts a b)[1]!.coef=⟨#[45,49]⟩ from rfl,f];rfl
 unfold wP
 rw[show (kts a b).length=2 from rfl]
 unfold wfT wfT
 rw[g,h]
 rfl
theorem ZmN (a b:Nat):fpV 2 (kts a b)=.tuple #[.string ⟨#[112,111,108,121,32,50,32,50,10,116,101,114,109,32,50,32,49,32,49,10,116,101,114,109,32,45,49,32,48,32,48,10]⟩,.int .i64 0]:=by
 unfold fpV;rw[tA (Znz a b),Zg6]
theorem Zkw (A:Option Addr)(c:Nat)(ts:List TermR)(v:Int)(w:World)(o:Glob w)(q:TRow w A ts)(r:∀ i,i<ts.length→(bytes ts[i]!.coef).length≤570)(s:∀ i,i<ts.length→ts[i]!.exps.length≤9223372036854775807)(t:wP v ts=true→(kZ v ts).length≤1048576) :
 yA 35 #[.agg #[.int .i64 v,.slice A ts.length c]] w (RetV w (fpV v ts)):=by
 refine xB (Φ:=fun w=>(Glob w∧TRow w A ts)) Tryz.func35 rfl (by kernel_rfl) (fun w' m=>⟨o.ext m,q.ext m⟩) ?_
 refine zD (zC (xq 3 [(1,.p 1 0),yT 2 ⟨#[]⟩,yJ 3 0] [(1,111,[.v (.int .i64 v),.v (.slice A ts.length c)])] ?_))
 refine xe (zB (zD (zD (zC (xq 1 [(5,.v (.agg #[.int .i64 v,.slice A ts.length c]))] [] ?_)))))
 cases hok:wP v ts
 ·refine xqc 89 [.agg #[.int .i64 v,.slice A ts.length c]] 6 (fun _:Unit=>.bool false) _ (fun w R Q=>(aH A c ts v _ Q.1 Q.2 r s).mono (fun _ _ h=>zS h (by rw[hok]))) fun u=>?_
  refine xq 1 [yB 7 true] [] ?_
  refine xe (zB (xa (zD (zC (xq 2 [yT 2 ⟨#[]⟩,yJ 3 1] [] ?_)))))
  refine xe (zB (zI (zE ?_)))
  refine yR (.tuple #[.string ⟨#[]⟩,.int .i64 1]) fun w' R Q=>?_
  exact⟨by unfold fpV;rw[hok];rfl,R⟩
 refine xqc 89 [.agg #[.int .i64 v,.slice A ts.length c]] 6 (fun _:Unit=>.bool true) _ (fun w R Q=>(aH A c ts v _ Q.1 Q.2 r s).mono (fun _ _ h=>zS h (by rw[hok]))) fun u=>?_
 refine xq 1 [yB 7 false] [] ?_
 refine xe (zB (xb (zJ (zB (zD (zC (xq 3 [(4,.p 9 0)] [(9,103,[.v (.pointer none),.v (.slice none 0 0)])] ?_)))))))
 refine xe (zB (zD ?_))
 refine SXc.freezeN 9 103 [.pointer none,.slice none 0 0] (fun a=>[(1,.p 1 0),yT 2 ⟨#[]⟩,yJ 3 0,(4,.v (.pointer (some ⟨a,0,none⟩)))]) [(1,111,[.v (.int .i64 v),.v (.slice A ts.length c)])] (by kernel_rfl) (fun _=>by kernel_rfl) (by kernel_rfl) (by kernel_rfl) (fun _=>by kernel_rfl) fun a j=>?_
 have b:w.heap.size≤a:=j.resolve_right (fun f=>f)
 have n:=wP.parts hok
 refine zC (xq 2 [(10,.v (.pointer (some ⟨a,0,none⟩))),(11,.v (.agg #[.int .i64 v,.slice A ts.length c]))] [] ?_)
 refine Zak (d:=12) (lo:=w.heap.size) (g:=a) (l:=[]) (v:=.tuple #[]) (fun e=>WrIs w.heap.size a (kZ v ts) e) 86 [.pointer (some ⟨a,0,none⟩),.agg #[.int .i64 v,.slice A ts.length c]] (fun _ _ h k=>WrFr.old h b k) (by kernel_rfl) (fun e R Q=>bN w w.heap.size a [] A c ts v e rfl b o q R (WrIs.new b Q.2) (by unfold wA;omega) (fun i x=>xM.range (Zbv n.2.2 x) n.1.2) n.2.1 (t hok)) (fun e Q=>WrIs.new b Q.2) (fun _ _ _ y m z B=>y.fr m z B) ?_
 refine xr 0 [yT 2 ⟨#[]⟩,yJ 3 0,(4,.v (.pointer (some ⟨a,0,none⟩)))] [] ?_
 refine xe (zB (zD (zC (xq 1 [(13,.v (.pointer (some ⟨a,0,none⟩)))] [] ?_))))
 refine Zak (d:=14) (lo:=w.heap.size) (g:=a) (l:=kZ v ts) (v:=.tuple #[.string ⟨(kZ v ts).toArray⟩,.int .i64 0]) (fun _=>True) 34 [.pointer (some ⟨a,0,none⟩)] (fun _ _ h k=>WrFr.old h b k) (by kernel_rfl) (fun e R Q=>(Zez w.heap.size a (kZ v ts) e Q (ZlB v ts) (t hok)).mono (fun _ _ h=>⟨h.1,trivial,h.2⟩)) (fun e Q=>Q) (fun _ _ _ _ _ _ _=>trivial) ?_
 refine xr 4 [yT 2 ⟨(kZ v ts).toArray⟩,yJ 3 0] [] ?_
 refine xe (zB (zI ?_))
 refine yR (.tuple #[.string ⟨(kZ v ts).toArray⟩,.int .i64 0]) fun w' R Q=>?_
 exact⟨by unfold fpV;rw[hok];rfl,R⟩
theorem Zdg (w:World)(k:Glob w) :
 yA 11 #[] w (RetV w (.bool true)):=by
 refine xB (Φ:=fun w=>Glob w) Tryz.func11 rfl (by kernel_rfl) (fun w' l=>k.ext l) ?_
 refine zD (zC (xq 1 [yB 0 false] [] ?_))
 refine xe (zB (zD (zC ?_)))
 refine yD (d:=4) (fun a:Nat=>.slice (some ⟨a,0,none⟩) 2 2) (fun a g=>Blk 3 g a #[.int .i64 1,.int .i64 1]) (fun w R Q=>gX (t:=22) (e:=3) (n:=2) (sz:=1) (z:=.int .i64 0) (parts:=#[(0,Operand.const (Value.int IntKind.i64 1)),(1,Operand.const (Value.int IntKind.i64 1))]) (by kernel_rfl) (by kernel_rfl) (by kernel_rfl) (by kernel_rfl) (by kernel_rfl) (by kernel_rfl)) fun b=>?_
 refine xr 1 [yB 0 false,(5,.v (.agg #[.string ⟨#[50]⟩,.slice (some ⟨b,0,none⟩) 2 2]))] [] ?_
 refine yD (d:=6) (fun a:Nat=>.slice (some ⟨a,0,none⟩) 2 2) (fun a g=>Blk 3 g a #[.int .i64 0,.int .i64 0]) (fun w R Q=>gX (t:=22) (e:=3) (n:=2) (sz:=1) (z:=.int .i64 0) (parts:=#[(0,Operand.const (Value.int IntKind.i64 0)),(1,Operand.const (Value.int IntKind.i64 0))]) (by kernel_rfl) (by kernel_rfl) (by kernel_rfl) (by kernel_rfl) (by kernel_rfl) (by kernel_rfl)) fun c=>?_
 refine xr 1 [yB 0 false,(5,.v (.agg #[.string ⟨#[50]⟩,.slice (some ⟨b,0,none⟩) 2 2])),(7,.v (.agg #[.string ⟨#[45,49]⟩,.slice (some ⟨c,0,none⟩) 2 2]))] [] ?_
 refine yD (d:=8) (fun a:Nat=>.slice (some ⟨a,0,none⟩) 2 2) (fun a g=>Blk 108 g a #[.string ⟨#[50]⟩,.slice (some ⟨b,0,none⟩) 2 2,.string ⟨#[45,49]⟩,.slice (some ⟨c,0,none⟩) 2 2]) (fun w R Q=>gX (t:=109) (e:=108) (n:=2) (sz:=2) (z:=.agg #[.string ⟨#[]⟩,.slice none 0 0]) (parts:=#[(0,Operand.tmp 5),(1,Operand.tmp 7)]) (by kernel_rfl) (by kernel_rfl) (by kernel_rfl) (by kernel_rfl) (by kernel_rfl) (by kernel_rfl)) fun f=>?_
 refine xr 1 [yB 0 false,(9,.v (.agg #[.int .i64 2,.slice (some ⟨f,0,none⟩) 2 2]))] [] ?_
 refine xqc 35 [.agg #[.int .i64 2,.slice (some ⟨f,0,none⟩) 2 2]] 10 (fun _:Unit=>.tuple #[.string ⟨#[112,111,108,121,32,50,32,50,10,116,101,114,109,32,50,32,49,32,49,10,116,101,114,109,32,45,49,32,48,32,48,10]⟩,.int .i64 0]) _ (fun w R Q=>(Zkw (some ⟨f,0,none⟩) 2 (kts b c) 2 _ Q.1.1.1 (ZmL Q.1.1.2 Q.1.2 Q.2) (fun i j=>by rw[ZlC j];split<;>decide) (fun i j=>by rw[ZmM j];decide) (fun _=>by rw[Zg6];decide)).mono (fun _ _ h=>zS h (ZmN _ _))) fun m=>?_
 refine xq 5 [yT 1 ⟨#[112,111,108,121,32,50,32,50,10,116,101,114,109,32,50,32,49,32,49,10,116,101,114,109,32,45,49,32,48,32,48,10]⟩,yJ 2 0] [] ?_
 refine xe (zB (zD (zC (xq 5 [yB 15 true,yB 17 ((⟨#[112,111,108,121,32,50,32,50,10,116,101,114,109,32,50,32,49,32,49,10,116,101,114,109,32,45,49,32,48,32,48,10]⟩:ByteArray).toList == (⟨#[112,111,108,121,32,50,32,50,10,116,101,114,109,32,50,32,49,32,49,10,116,101,114,109,32,45,49,32,48,32,48,10]⟩:ByteArray).toList)] [] ?_))))
 rw[Zlg]
 refine xq 2 [yB 0 true] [] ?_
 refine xe (zB (zI ?_))
 refine yR (.bool true) fun w' R Q=>?_
 exact⟨rfl,R⟩
theorem ZeA {z:Int}(h:0≤z):∀ x∈bytes (zO z),48≤x.toNat∧x.toNat≤57:=fun x b=>by
 have a:x∈Lib.itoa z:=b
 rw[Zev h] at a
 exact Zci _ x a
theorem aI {l:List UInt8}{c:UInt8}(h:∀ x∈l,x.toNat≠c.toNat):c ∉ l:=fun a=>h c a rfl
theorem ZeB {s:ByteArray}{q:Rat}(h:xI (bytes s)=some q):∀ x∈bytes s,x.toNat=45∨x.toNat=47∨(48≤x.toNat∧x.toNat≤57):=by
 have e:=ZdE.1 h
 have b:∀ (z:Int),∀ x∈Lib.itoa z,x.toNat=45∨x.toNat=47∨(48≤x.toNat∧x.toNat≤57):=fun z x a=>by
  unfold Lib.itoa at a
  split at a
  ·rcases tX.1 a with rfl|a
   ·left;rfl
   right;right;exact Zci _ x a
  right;right;exact Zci _ x a
 intro x a
 rw[←e] at a
 unfold xA at a
 split at a
 ·exact b _ x a
 rcases vL.1 a with a|a
 ·rcases vL.1 a with a|a
  ·exact b _ x a
  obtain rfl:=vH.1 a
  right;left;rfl
 exact b _ x a
def wL (s:ByteArray):Prop:=(32:UInt8) ∉ bytes s∧(10:UInt8) ∉ bytes s
theorem wL.itoa {z:Int}(h:0≤z):wL (zO z) :=
 ⟨aI (fun x a=>by have:=ZeA h x a;have b:(32:UInt8).toNat=32:=rfl;omega),aI (fun x a=>by have:=ZeA h x a;have b:(10:UInt8).toNat=10:=rfl;omega)⟩
theorem wL.coef {s:ByteArray}{q:Rat}(h:xI (bytes s)=some q):wL s :=
 ⟨aI (fun x a=>by have:=ZeB h x a;have b:(32:UInt8).toNat=32:=rfl;omega),aI (fun x a=>by have:=ZeB h x a;have b:(10:UInt8).toNat=10:=rfl;omega)⟩
def keyT (t:TermR):ByteArray×List Int:=(t.coef,t.exps)
def gD (us:List TermR):List Value:=us.flatMap (fun t=>[.string t.coef,.slice t.A t.exps.length t.cap])
theorem ZhU (a:List TermR)(t:TermR):gD (a ++ [t])=gD a ++ [.string t.coef,.slice t.A t.exps.length t.cap]:=by unfold gD;simp
theorem ZfR:∀ (us:List TermR) (i:Nat),i<us.length→(gD us)[i*2]? = some (.string us[i]!.coef)∧(gD us)[i*2+1]? = some (.slice us[i]!.A us[i]!.exps.length us[i]!.cap)
 | [],i,h=>by cases h
 | t :: us,0,_=>⟨rfl,rfl⟩
 | t :: us,i+1,h=>by
  have:=ZfR us i (by simpa using h)
  have e:gD (t :: us)=.string t.coef :: .slice t.A t.exps.length t.cap :: gD us:=rfl
  rw[e,show (i+1)*2=i*2+1+1 by omega]
  simpa using this
theorem xM.coef {v:Int}{t:TermR}(h:xM v t=true):∃ q,xI (bytes t.coef)=some q:=by
 unfold xM bD at h
 split at h
 ·exact⟨_,by assumption⟩
 cases h
theorem xM.exps' {v:Int}{t:TermR}(h:xM v t=true)(b:v≤6):(t.exps.length≤6∧(t.exps.length:Int)=v)∧∀ i,i<t.exps.length→0≤nth t.exps i∧nth t.exps i≤1000000000:=by
 have a:=xM.exp h b
 exact⟨⟨a.1.1,a.2⟩,fun i _=>by have:=a.1.2 i;omega⟩
section
variable {P:Program} {o:Oper} {ρ:Operand→Value} {w:World} {t e:TypeId} {x:Operand}
end
def lv (T:TypeId):Nat:=if T=3 then 1 else if T=22 then 2 else if T=248 then 3 else if T=108 then 3 else if T=175 then 4 else if T=179 then 4 else if T=170 then 5 else if T=114 then 5 else if T=172 then 6 else if T=118 then 6 else 9
structure Dp (α:Type) where
 foot:α→Nat→Prop
 ok:Nat→World→α→Prop
 k:Nat
 fr:∀ {m:Nat} {w w':World} {x:α} {S:Nat→Prop},ok m w x→Fr S w w'→(∀ i,S i→NRB w i)→(∀ i,foot x i→¬ S i)→ok m w' x
 lo:∀ {m:Nat} {w:World} {x:α} {i:Nat},ok m w x→foot x i→m≤i
 mono:∀ {m m':Nat} {w:World} {x:α},ok m w x→m'≤m→ok m' w x
 ty:∀ {m:Nat} {w:World} {x:α} {i:Nat},ok m w x→foot x i→∃ T cs,Blk T w i cs∧lv T≤k
namespace Dp
variable {α β:Type}
def map (f:α→β) (D:Dp β):Dp α:=⟨fun x=>D.foot (f x),fun m w x=>D.ok m w (f x),D.k,fun h=>D.fr h,fun h=>D.lo h,fun h=>D.mono h,fun h=>D.ty h⟩
def and (D E:Dp α):Dp α:=⟨fun x i=>D.foot x i∨E.foot x i,fun m w x=>D.ok m w x∧E.ok m w x,max D.k E.k,
 fun h hF hN hf=>⟨D.fr h.1 hF hN (fun i hi=>hf i (Or.inl hi)),E.fr h.2 hF hN (fun i hi=>hf i (Or.inr hi))⟩,
 fun h hi=>hi.elim (D.lo h.1) (E.lo h.2),fun h hm=>⟨D.mono h.1 hm,E.mono h.2 hm⟩,
 fun h hi=>by
  rcases hi with hi|hi
  ·obtain⟨T,cs,h1,h2⟩:=D.ty h.1 hi;exact⟨T,cs,h1,by omega⟩
  obtain⟨T,cs,h1,h2⟩:=E.ty h.2 hi;exact⟨T,cs,h1,by omega⟩⟩
def all (f:α→List β) (D:Dp β):Dp α:=⟨fun x i=>∃ y∈f x,D.foot y i,fun m w x=>∀ y∈f x,D.ok m w y,D.k,
 fun h hF hN hf y hy=>D.fr (h y hy) hF hN (fun i hi=>hf i ⟨y,hy,hi⟩),
 fun h ⟨y,hy,hi⟩=>D.lo (h y hy) hi,fun h hm y hy=>D.mono (h y hy) hm,fun h ⟨y,hy,hi⟩=>D.ty (h y hy) hi⟩
def row (e:TypeId) (k:Nat) (A:α→Option Addr) (c n:α→Nat) (xs:α→List Value):Dp α:=⟨fun x i=>A x=some ⟨i,0,none⟩,fun m w x=>OwnD w m e k (A x) (c x) (n x) (xs x),lv e,
 fun h hF _ hf=>h.fr hF hf,fun h hi=>(h.blk hi).1,fun h hm=>h.mono hm,fun h hi=>by obtain⟨_,cur,h1,_⟩:=h.blk hi;exact⟨e,cur,h1,uR _⟩⟩
def rat (c:α→ShQ) (q:α→Rat):Dp α:=⟨fun _ _=>False,fun _ w x=>zF w (xC (c x)) (q x),0,fun h hF hN _=>h.nrb hN hF,fun _ f=>f.elim,fun h _=>h,fun _ f=>f.elim⟩
section
variable {D:Dp α} {m m1:Nat} {w w':World} {x:α}
theorem ext (h:D.ok m w x)(a:Ext w w'):D.ok m w' x:=D.fr h a (fun _ f=>f.elim) (fun _ _ f=>f)
theorem old {S:Nat→Prop}(h:D.ok m w x)(c:Fr S w w')(b:∀ i,S i→i<m∧NRB w i):D.ok m w' x:=D.fr h c (fun i a=>(b i a).2) (fun i a d=>by have:=D.lo h a;have:=(b i d).1;omega)
theorem blk_ne {T c:TypeId}{i:Nat}{cs a:Array Value}(h:Blk T w i cs)(d:Blk c w i a):T=c:=by
 have f:w.heap[i]? = some (.cells cs T (0,0)):=h
 have b:w.heap[i]? = some (.cells a c (0,0)):=d
 rw[f] at b
 injection b with b
 injection b with _ e _
theorem rowUp {j k c n:Nat}{e:TypeId}{A:Option Addr}{xs:List Value}(h:D.ok m w x)(g:OwnD w j e k A c n xs)(r:D.k<lv e)(l:Fr (fun i=>A=some ⟨i,0,none⟩) w w'):D.ok m w' x :=
 D.fr h l (fun i a=>by obtain⟨_,b,d,f⟩:=g.blk a;exact⟨_,_,d,f⟩) (fun i a p=>by
  obtain⟨T,s,d,f⟩:=D.ty h a
  obtain⟨_,b,q,_⟩:=g.blk p
  rw[blk_ne d q] at f
  omega)
def below (D:Dp α) (m1:Nat) (x:α):Prop:=∀ i,D.foot x i→i<m1
theorem lt (h:D.ok m w x):D.below w.heap.size x:=fun i a=>by obtain⟨T,c,b,_⟩:=D.ty h a;exact b.lt
theorem below.mono (h:D.below m x)(a:m≤m1):D.below m1 x:=fun i b=>uX (h i b) a
theorem rowB {k c n:Nat}{e:TypeId}{A:Option Addr}{xs:List Value}(h:D.ok m w x)(d:D.below m1 x)(b:OwnD w m1 e k A c n xs)(f:Fr (fun i=>A=some ⟨i,0,none⟩) w w'):D.ok m w' x :=
 D.fr h f (fun i a=>by obtain⟨_,g,j,l⟩:=b.blk a;exact⟨_,_,j,l⟩) (fun i a p=>by have:=d i a;have:=(b.blk p).1;omega)
theorem boxN (h:D.ok w.heap.size w' x)(Q:Ext w w'):BoxN w w' (fun v=>D.ok w.heap.size v x):=fun _ a _ c=>D.old h c (fun i b=>⟨(a i b).1,(a i b).2.ext Q⟩)
theorem boxT {b:Nat}(h:D.ok w.heap.size w' x)(Q:Fr (fun i=>i=b) w w'):BoxT b w w' (fun v=>D.ok w.heap.size v x):=fun _ _ a c=>D.old h c (fun i d=>by
 obtain⟨f,g,t,j,k,l⟩:=a i d
 exact⟨f,t,j,k.fr Q g,l⟩)
end
end Dp
-- the program's side
abbrev intV (zs:List Int):List Value:=zs.map (Value.int .i64)
def kP:Dp TermR:=.row 3 1 (·.A) (·.cap) (·.exps.length) (fun t=>intV t.exps)
structure PolyR where
 v:Int
 A:Option Addr
 c:Nat
 ts:List TermR
instance:Inhabited PolyR:=⟨⟨0,none,0,[]⟩⟩
def PolyR.cells (p:PolyR):List Value:=[.int .i64 p.v,.slice p.A p.ts.length p.c]
def kQ:Dp PolyR:=.and (.row 108 2 (·.A) (·.c) (·.ts.length) (fun p=>gD p.ts)) (.all (·.ts) kP)
structure MuR where
 a:PolyR
 b:PolyR
instance:Inhabited MuR:=⟨⟨default,default⟩⟩
def MuR.cells (m:MuR):List Value:=m.a.cells ++ m.b.cells
def dMu:Dp MuR:=.and (.map (·.a) kQ) (.map (·.b) kQ)
structure SqR where
 sa:ByteArray
 sb:ByteArray
 d:Int
 r:MuR
instance:Inhabited SqR:=⟨⟨⟨#[]⟩,⟨#[]⟩,0,default⟩⟩
def SqR.cells (s:SqR):List Value:=[.string s.sa,.string s.sb,.int .i64 s.d] ++ s.r.cells
def dSq:Dp SqR:=.map (·.r) dMu
structure PrR where
 zA:Option Addr
 zc:Nat
 zs:List Int
 sA:Option Addr
 sc:Nat
 sq:List SqR
instance:Inhabited PrR:=⟨⟨none,0,[],none,0,[]⟩⟩
def PrR.cells (p:PrR):List Value:=[.slice p.zA p.zs.length p.zc,.slice p.sA p.sq.length p.sc]
def dPr:Dp PrR:=.and (.row 3 1 (·.zA) (·.zc) (·.zs.length) (fun p=>intV p.zs)) (.and (.row 179 7 (·.sA) (·.sc) (·.sq.length) (fun p=>p.sq.flatMap SqR.cells)) (.all (·.sq) dSq))
structure IdR where
 d:Int
 pA:Option Addr
 pc:Nat
 ps:List PrR
 mA:Option Addr
 mc:Nat
 ms:List MuR
def dId:Dp IdR:=.and (.and (.row 114 2 (·.pA) (·.pc) (·.ps.length) (fun x=>x.ps.flatMap PrR.cells)) (.all (·.ps) dPr)) (.and (.row 118 4 (·.mA) (·.mc) (·.ms.length) (fun x=>x.ms.flatMap MuR.cells)) (.all (·.ms) dMu))
-- the reference's side
def Zaq (c:ShQ):List Value:=[.bool c.1,.slice c.2.1 c.2.2.1 c.2.2.2.1,.bool c.2.2.2.2.1,.slice c.2.2.2.2.2.1 c.2.2.2.2.2.2.1 c.2.2.2.2.2.2.2]
structure RT where
 c:ShQ
 q:Rat
 A:Option Addr
 cap:Nat
 ex:List Int
instance:Inhabited RT:=⟨⟨default,0,none,0,[]⟩⟩
def RT.cells (t:RT):List Value:=Zaq t.c ++ [.slice t.A t.ex.length t.cap]
def dRT:Dp RT:=.and (.rat (·.c) (·.q)) (.row 3 1 (·.A) (·.cap) (·.ex.length) (fun t=>intV t.ex))
structure RP where
 v:Int
 A:Option Addr
 c:Nat
 ts:List RT
instance:Inhabited RP:=⟨⟨0,none,0,[]⟩⟩
def RP.cells (p:RP):List Value:=[.int .i64 p.v,.slice p.A p.ts.length p.c]
def dRP:Dp RP:=.and (.row 248 5 (·.A) (·.c) (·.ts.length) (fun p=>p.ts.flatMap RT.cells)) (.all (·.ts) dRT)
structure RS where
 a:RP
 b:RP
instance:Inhabited RS:=⟨⟨default,default⟩⟩
def RS.cells (m:RS):List Value:=m.a.cells ++ m.b.cells
def dRS:Dp RS:=.and (.map (·.a) dRP) (.map (·.b) dRP)
structure RQ where
 ca:ShQ
 qa:Rat
 cb:ShQ
 qb:Rat
 r:RS
instance:Inhabited RQ:=⟨⟨default,0,default,0,default⟩⟩
def RQ.cells (s:RQ):List Value:=Zaq s.ca ++ Zaq s.cb ++ s.r.cells
def dRQ:Dp RQ:=.and (.and (.rat (·.ca) (·.qa)) (.rat (·.cb) (·.qb))) (.map (·.r) dRS)
structure RPart where
 zA:Option Addr
 zc:Nat
 zs:List Int
 sA:Option Addr
 sc:Nat
 sq:List RQ
instance:Inhabited RPart:=⟨⟨none,0,[],none,0,[]⟩⟩
def RPart.cells (p:RPart):List Value:=[.slice p.zA p.zs.length p.zc,.slice p.sA p.sq.length p.sc]
def kE:Dp RPart:=.and (.row 3 1 (·.zA) (·.zc) (·.zs.length) (fun p=>intV p.zs)) (.and (.row 175 12 (·.sA) (·.sc) (·.sq.length) (fun p=>p.sq.flatMap RQ.cells)) (.all (·.sq) dRQ))
structure RC where
 d:Int
 pA:Option Addr
 pc:Nat
 ps:List RPart
 mA:Option Addr
 mc:Nat
 ms:List RS
def dC:Dp RC:=.and (.and (.row 170 2 (·.pA) (·.pc) (·.ps.length) (fun x=>x.ps.flatMap RPart.cells)) (.all (·.ps) kE)) (.and (.row 172 4 (·.mA) (·.mc) (·.ms.length) (fun x=>x.ms.flatMap RS.cells)) (.all (·.ms) dRS))
-- reading rows
theorem aS {α:Type}[Inhabited α]{enc:α→List Value}{k:Nat}(b:∀ x,(enc x).length=k):∀ (a:List α) (i j:Nat),i<a.length→j<k→(a.flatMap enc)[i*k+j]? = (enc a[i]!)[j]?
 | [],i,j,h,_=>by cases h
 | x :: a,0,j,_,hj=>by
  rw[sK,sU,vO,List.getElem?_append_left (by rw[b];exact hj)];rfl
 | x :: a,i+1,j,h,hj=>by
  rw[sK,List.getElem?_append_right (by rw[b,Nat.succ_mul];omega),b,Nat.succ_mul,show i*k+k+j-k=i*k+j by omega,aS b a i j (by simpa using h) hj]
  simp
theorem OwnD.at {w:World}{m c n k:Nat}{e:TypeId}{A:Option Addr}{xs:List Value}(h:OwnD w m e k A c n xs){j:Nat}{v:Value}(hj:xs[j]? = some v):∃ b,A=some ⟨b,0,none⟩∧b<w.heap.size∧w.cell? ⟨b,0+j,none⟩=some v:=by
 rcases h.2 with ⟨_,_,a⟩|⟨g,f,rfl,a,d,_,_,_,_,i⟩
 ·have:=h.1
  rw[a,sU] at this
  rw[vZ.1 this] at hj
  simp at hj
 refine⟨g,rfl,d.lt,?_⟩
 rw[d.cell,vO]
 rw[←i,List.getElem?_take] at hj
 split at hj
 ·simpa using hj
 cases hj
theorem OwnD.ne {w:World}{m c n k i:Nat}{e:TypeId}{A:Option Addr}{xs:List Value}(h:OwnD w m e k A c n xs)(hi:i<n):A≠none:=fun e=>by
 rcases h.2 with ⟨_,_,b⟩|⟨g,a,rfl,_⟩
 ·omega
 cases e
theorem OwnD.irow {w:World}{m c n:Nat}{A:Option Addr}{zs:List Int}(h:OwnD w m 3 1 A c n (intV zs)):IRow w A zs:=fun i a=>by
 obtain⟨b,d,f,g⟩:=h.at (j:=i) (v:=.int .i64 (nth zs i)) (by unfold nth;rw[List.getElem?_map,List.getElem?_eq_getElem a];rfl)
 exact⟨b,0,d,f,g⟩
theorem kQ.trow {m:Nat}{w:World}{p:PolyR}(h:kQ.ok m w p):TRow w p.A p.ts:=fun i f=>by
 obtain⟨d,j⟩:=h
 have d:OwnD w m 108 2 p.A p.c p.ts.length (gD p.ts):=d
 obtain⟨k,l⟩:=ZfR p.ts i f
 obtain⟨b,g,n,q⟩:=d.at k
 obtain⟨v,a,_,r⟩:=d.at l
 rw[g] at a
 injection a with a
 injection a with a
 subst a
 have s:p.ts[i]! ∈ p.ts:=by rw[getElem!_pos p.ts i f];exact tY f
 have u:OwnD w m 3 1 p.ts[i]!.A p.ts[i]!.cap p.ts[i]!.exps.length (intV p.ts[i]!.exps):=j _ s
 exact⟨b,0,g,n,q,r,u.irow⟩
section
variable {P:Program} {o:Oper} {ρ:Operand→Value} {w:World} {t e:TypeId} {x:Operand}
end
theorem Zjm {q:Rat}{k:Nat}(h:q.num.natAbs<10^k∧q.den<10^k)(a:k≤100000):lX q:=⟨uD (Zcp h.1) a,uD (Zcp h.2) a⟩
theorem ZeD {k:Nat}{a:Value}{q:Rat}{w:World}(c:zF w a q)(h:q.num.natAbs<10^k∧q.den<10^k)(b:k≤65536):yA 48 #[a] w (RetV w (.string ⟨(xA q).toArray⟩)) :=
 Zkq a q w c (uD (Zcp h.1) b) (uD (Zcp h.2) b)
def Free (m:Nat):Prop:=∀ j,2≤j→¬ j*j∣m
structure SqF (d r m:Nat):Prop where
 mul:r*r*m=d
 pos:0<d
 free:Free m
theorem Zky {r m r' m':Nat}(o:0<r)(p:0<r')(h:r*r*m=r'*r'*m')(q:Free m)(f:Free m'):r=r':=by
 have c:0<Nat.gcd r r':=Nat.gcd_pos_of_pos_left _ o
 have d:=Nat.coprime_div_gcd_div_gcd (m:=r) (n:=r') c
 obtain⟨a,i⟩:=Nat.gcd_dvd_left r r'
 obtain⟨b,j⟩:=Nat.gcd_dvd_right r r'
 generalize Nat.gcd r r'=g at c d i j
 subst i j
 rw[sQ _ c,sQ _ c] at d
 have k:a*a*m=b*b*m':=by
  refine Nat.eq_of_mul_eq_mul_left (rQ c c) ?_
  grind
 have l:Nat.Coprime (a*a) (b*b):=(d.mul_right d).mul_left (d.mul_right d)
 have s:a*a∣m':=l.dvd_of_dvd_mul_left ⟨m,k.symm⟩
 have t:b*b∣m:=l.symm.dvd_of_dvd_mul_left ⟨m',k⟩
 have u:a≠0:=fun e=>by subst e;omega
 have v:b≠0:=fun e=>by subst e;omega
 have w:¬ 2≤a:=fun e=>f _ e s
 have x:¬ 2≤b:=fun e=>q _ e t
 have:a=b:=by omega
 rw[this]
theorem SqF.rpos {d r m:Nat}(h:SqF d r m):0<r∧0<m:=by
 have a:=h.mul;have b:=h.pos
 refine⟨rU fun e=>?_,rU fun e=>?_⟩<;>subst e<;>simp at a<;>omega
theorem SqF.eq {d r m b c:Nat}(h:SqF d r m)(a:SqF d b c):r=b∧m=c:=by
 have e:r=b:=Zky h.rpos.1 a.rpos.1 (h.mul.trans a.mul.symm) h.free a.free
 subst e
 exact⟨rfl,Nat.eq_of_mul_eq_mul_left (rQ h.rpos.1 h.rpos.1) (h.mul.trans a.mul.symm)⟩
theorem Zjn:∀ n d:Nat,d≤n→0<d→∃ r m,SqF d r m:=by
 intro n
 induction n with
 | zero=>intro d h b;omega
 | succ n ih =>
  intro d h b
  by_cases c:Free d
  ·exact⟨1,d,by omega,b,c⟩
  unfold Free at c
  have:∃ j,2≤j∧j*j∣d:=Classical.byContradiction fun i=>c fun j a k=>i ⟨j,a,k⟩
  obtain⟨j,a,q,f⟩:=this
  have l:0<q:=rU fun e=>by subst e;omega
  have o:2*2≤j*j:=sE a a
  have:q<d:=by rw[f];have:=uC q o;omega
  obtain⟨r,m,g⟩:=ih q (by omega) l
  exact⟨j*r,m,by rw[f,← g.mul];grind,b,g.free⟩
def gE (k m:Nat):Prop:=∀ j,2≤j→j<k→¬ j*j∣m
theorem gE.next {k m:Nat}(h:gE k m)(b:¬ k*k∣m):gE (k+1) m:=fun j c d a=>by
 by_cases e:j=k
 ·subst e;exact b a
 exact h j c (by omega) a
theorem gE.div {k m:Nat}(h:gE k m)(a:k*k∣m):gE k (m/(k*k)):=fun j b c d =>
 h j b c (Nat.dvd_trans d (Nat.div_dvd_of_dvd a))
theorem gE.free {k m:Nat}(h:gE k m)(b:0<m)(d:m<k*k):Free m:=fun j c a=>by
 by_cases e:j<k
 ·exact h j c e a
 have:=qU b a
 have:=sE (show k≤j by omega) (show k≤j by omega)
 omega
theorem gE.two (m:Nat):gE 2 m:=fun j a b=>by omega
structure Sd where
 a:Rat
 b:Rat
 d:Int
def nv (a b:Rat) (d:Int):Sd:=if b=0 then ⟨a,0,1⟩ else ⟨a,b,d⟩
namespace Sd
def neg (x:Sd):Sd:=⟨-x.a,-x.b,x.d⟩
def build (a b:Rat) (d:Int):Sd:=if d=1 then ⟨a+b,0,1⟩ else if b=0 then ⟨a,0,1⟩ else ⟨a,b,d⟩
def Ok (x:Sd):Prop:=(x.d=1∧x.b=0)∨(2≤x.d∧x.d≤1000000∧x.b≠0∧Free x.d.toNat)
end Sd
open Sd
structure Fld (D:Int):Prop where
 two:2≤D
 top:D≤1000000
 free:Free D.toNat
section
variable {D:Int} (h:Fld D) (a b a' b':Rat)
include h
end
end Go.Proofs.YtoanifijmlgcgaaGreatDoor
namespace Go.Proofs.YtoanifijmlgcgaaGreatDoor
open Go.RowKit
def Dq (q:Rat) (k:Nat):Prop:=q.num.natAbs<10^k∧q.den<10^k
theorem dV {x y j k:Nat}(f:x<10^j)(g:y<10^k):x*y<10^(j+k):=by
 have:=Nat.mul_lt_mul'' f g
 rwa [←vV] at this
theorem Dq.up {q:Rat}{j k:Nat}(h:Dq q j)(f:j≤k):Dq q k :=
 ⟨uX h.1 (vS (by omega) f),uX h.2 (vS (by omega) f)⟩
theorem Dq.neg {q:Rat}{k:Nat}(h:Dq q k):Dq (-q) k:=Zkx h
theorem Dq.mul {p q:Rat}{j k:Nat}(h:Dq p j)(f:Dq q k):Dq (p*q) (j+k) :=
 Zby (rX (denI p) (denI q)) (Zap p q) (by rw[rF];exact dV h.1 f.1) (by rw[rF,vT,vT];exact dV h.2 f.2)
theorem Dq.add {p q:Rat}{j k:Nat}(h:Dq p j)(f:Dq q k):Dq (p+q) (j+k+1):=by
 have i:=dV h.1 f.2
 have g:=dV f.1 h.2
 rw[vR k j] at g
 refine Zby (rX (denI p) (denI q)) (Zao p q) ?_ ?_
 ·have:=Int.natAbs_add_le (p.num*q.den) (q.num*p.den)
  rw[rF,rF,vT,vT] at this
  rw[uW];omega
 rw[rF,vT,vT]
 have:=dV h.2 f.2
 rw[uW];omega
theorem Dq.int {d:Int}{k:Nat}(h:d.natAbs<10^k)(f:1≤k):Dq (d:Rat) k:=⟨h,Nat.one_lt_pow (by omega) (by omega)⟩
theorem Dq.zero {k:Nat}(f:1≤k):Dq 0 k:=⟨uU (by omega),Nat.one_lt_pow (by omega) (by omega)⟩
theorem Dq.rfit {q:Rat}{k:Nat}(h:Dq q k)(f:k≤100000):lX q:=Zjm h f
structure Sz (x:Sd) (k:Nat):Prop where
 a:Dq x.a k
 b:Dq x.b k
 lo:1≤x.d
 hi:x.d≤1000000
theorem Sd.Ok.dle {x:Sd}(h:x.Ok):1≤x.d∧x.d≤1000000:=by
 rcases h with ⟨h,_⟩|⟨f,g,_⟩<;>omega
-- structs
abbrev vV9 (x:Bool) (A:Option Addr) (l c:Nat) (y:Bool) (B:Option Addr) (m d:Nat) (x':Bool) (A':Option Addr) (l' c':Nat) (y':Bool) (B':Option Addr) (m' d':Nat) (k:Int):Value:=.agg #[.bool x,.slice A l c,.bool y,.slice B m d,.bool x',.slice A' l' c',.bool y',.slice B' m' d',.int .i64 k]
abbrev bV9 (n:Nat) (t:TypeId) (x:Bool) (A:Option Addr) (l c:Nat) (y:Bool) (B:Option Addr) (m d:Nat) (x':Bool) (A':Option Addr) (l' c':Nat) (y':Bool) (B':Option Addr) (m' d':Nat) (k:Int):Nat × TypeId×List AV:=(n,t,[.v (.bool x),.v (.slice A l c),.v (.bool y),.v (.slice B m d),.v (.bool x'),.v (.slice A' l' c'),.v (.bool y'),.v (.slice B' m' d'),.v (.int .i64 k)])
theorem Zl7 (b:Bool):b=true∨b=false:=by cases b<;>simp
abbrev ShS:=ShQ×ShQ
def shSd (d:Int) (x:ShS):Value:=.agg #[.bool x.1.1,.slice x.1.2.1 x.1.2.2.1 x.1.2.2.2.1,.bool x.1.2.2.2.2.1,.slice x.1.2.2.2.2.2.1 x.1.2.2.2.2.2.2.1 x.1.2.2.2.2.2.2.2,
 .bool x.2.1,.slice x.2.2.1 x.2.2.2.1 x.2.2.2.2.1,.bool x.2.2.2.2.2.1,.slice x.2.2.2.2.2.2.1 x.2.2.2.2.2.2.2.1 x.2.2.2.2.2.2.2.2,.int .i64 d]
def SdIs (w:World) (v:Value) (x:Sd):Prop:=∃ y:ShS,v=shSd x.d y∧xO w (xC y.1) x.a∧xO w (xC y.2) x.b
def Zl8 (w:World) (x:Sd) (e:Ending) (w':World):Prop:=∃ v,e=.returned v∧SdIs w' v x∧Ext w w'
section
variable {s t s' t':Bool} {A B A' B':Option Addr} {l c m d l' c' m' d':Nat} {w w':World} {e:Ending} {v:Value} {x:Sd} {a b:Rat} {k:Int}
theorem SdIs.of (f:xO w (.agg #[.bool s,.slice A l c,.bool t,.slice B m d]) a)(g:xO w (.agg #[.bool s',.slice A' l' c',.bool t',.slice B' m' d']) b) :
 SdIs w (.agg #[.bool s,.slice A l c,.bool t,.slice B m d,.bool s',.slice A' l' c',.bool t',.slice B' m' d',.int .i64 k]) ⟨a,b,k⟩:=⟨((s,A,l,c,t,B,m,d),(s',A',l',c',t',B',m',d')),rfl,f,g⟩
theorem ZmO (h:Zl8 w x e w'):wS (shSd x.d) (fun y w=>xO w (xC y.1) x.a∧xO w (xC y.2) x.b) w e w':=by
 obtain⟨v,rfl,⟨y,rfl,i,j⟩,Q⟩:=h
 exact⟨y,rfl,Q,boxn Q (fun S n f g=>⟨i.nrb f g,j.nrb f g⟩)⟩
end
-- reading
noncomputable def rdS (a b:List UInt8) (d:Int):Option Sd :=
 match xI a,xI b with
 | some p,some q=>@ite _ (Sd.Ok ⟨p,q,d⟩) (Classical.propDecidable _) (some ⟨p,q,d⟩) none
 | _,_=>none
theorem Zg7 {a b:List UInt8}{d:Int}{p q:Rat}(f:xI a=some p)(g:xI b=some q)(h:Sd.Ok ⟨p,q,d⟩):rdS a b d=some ⟨p,q,d⟩:=by
 unfold rdS;rw[f,g];exact tA h
theorem Zkz {a b:List UInt8}{d:Int}{p q:Rat}(f:xI a=some p)(g:xI b=some q)(h:¬ Sd.Ok ⟨p,q,d⟩):rdS a b d=none:=by
 unfold rdS;rw[f,g];exact vP h
theorem ZmP {a b:List UInt8}{d:Int}(f:xI a=none):rdS a b d=none:=by
 unfold rdS;rw[f]
theorem ZmQ {a b:List UInt8}{d:Int}(f:xI b=none):rdS a b d=none:=by
 unfold rdS;rw[f];split<;>simp_all
theorem ZlD {a b:List UInt8}{d:Int}{x:Sd}(h:rdS a b d=some x):xI a=some x.a∧xI b=some x.b∧x.d=d∧x.Ok:=by
 unfold rdS at h
 split at h
 ·rename_i p q f g
  split at h
  ·rename_i i
   injection h with h;subst h
   exact⟨f,g,rfl,i⟩
  cases h
 cases h
def Zjo (w:World) (o:Option Sd) (e:Ending) (w':World):Prop:=∃ v ok x,e=.returned (.tuple #[v,.bool ok])∧SdIs w' v x∧Ext w w'∧((ok=true∧o=some x)∨(ok=false∧o=none))
section
variable {w w':World} {e:Ending} {o:Option Sd}
theorem Zg8 {x:Sd}(h:Zjo w o e w')(f:o=some x):wS (fun y:ShS=>.tuple #[shSd x.d y,.bool true]) (fun y w=>xO w (xC y.1) x.a∧xO w (xC y.2) x.b) w e w':=by
 obtain⟨v,q,r,rfl,⟨y,rfl,j,n⟩,Q,⟨rfl,h⟩|⟨rfl,h⟩⟩:=h
 ·rw[f] at h;injection h with h;subst h
  exact⟨y,rfl,Q,boxn Q (fun S p g i=>⟨j.nrb g i,n.nrb g i⟩)⟩
 rw[f] at h;cases h
theorem Zg9 (h:Zjo w o e w')(f:o=none):wS (fun y:Int×ShS=>.tuple #[shSd y.1 y.2,.bool false]) (fun _ _=>True) w e w':=by
 obtain⟨v,i,g,rfl,⟨y,rfl,j,n⟩,Q,⟨rfl,h⟩|⟨rfl,h⟩⟩:=h
 ·rw[f] at h;cases h
 exact⟨(g.d,y),rfl,Q,BoxN.pure trivial⟩
end
-- a rational number's parts as one variable
abbrev nQ:ShQ:=(false,none,0,0,false,none,0,0)
abbrev vQ (x:ShQ):Value:=.agg #[.bool x.1,.slice x.2.1 x.2.2.1 x.2.2.2.1,.bool x.2.2.2.2.1,.slice x.2.2.2.2.2.1 x.2.2.2.2.2.2.1 x.2.2.2.2.2.2.2]
abbrev eQ (n:Nat) (x:ShQ):Nat × AV:=(n,.v (vQ x))
abbrev bQ (n:Nat) (t:TypeId) (x:ShQ):Nat × TypeId×List AV:=(n,t,[.v (.bool x.1),.v (.slice x.2.1 x.2.2.1 x.2.2.2.1),.v (.bool x.2.2.2.2.1),.v (.slice x.2.2.2.2.2.1 x.2.2.2.2.2.2.1 x.2.2.2.2.2.2.2)])
abbrev vW (x y:ShQ) (k:Int):Value:=vV9 x.1 x.2.1 x.2.2.1 x.2.2.2.1 x.2.2.2.2.1 x.2.2.2.2.2.1 x.2.2.2.2.2.2.1 x.2.2.2.2.2.2.2 y.1 y.2.1 y.2.2.1 y.2.2.2.1 y.2.2.2.2.1 y.2.2.2.2.2.1 y.2.2.2.2.2.2.1 y.2.2.2.2.2.2.2 k
abbrev eW (n:Nat) (x y:ShQ) (k:Int):Nat × AV:=(n,.v (vW x y k))
abbrev bW (n:Nat) (t:TypeId) (x y:ShQ) (k:Int):Nat × TypeId×List AV:=bV9 n t x.1 x.2.1 x.2.2.1 x.2.2.2.1 x.2.2.2.2.1 x.2.2.2.2.2.1 x.2.2.2.2.2.2.1 x.2.2.2.2.2.2.2 y.1 y.2.1 y.2.2.1 y.2.2.2.1 y.2.2.2.2.1 y.2.2.2.2.2.1 y.2.2.2.2.2.2.1 y.2.2.2.2.2.2.2 k
def bR:ByteArray:=⟨#[105,100,101,110,116,105,116,121]⟩
def eK:ByteArray:=⟨#[112,114,111,100,117,99,116]⟩
def aT:ByteArray:=⟨#[115,113,117,97,114,101]⟩
def pyT (p:PolyR):List UInt8:=kZ p.v p.ts
def muT (m:MuR):List UInt8:=pyT m.a ++ pyT m.b
def sqT (s:SqR):List UInt8:=wY aT [s.sa,s.sb,zO s.d] ++ muT s.r
def prT (p:PrR):List UInt8:=wY eK (zO ((p.sq.length:Nat):Int) :: p.zs.map zO) ++ p.sq.flatMap sqT
def idH (x:IdR):List UInt8:=wY bR [zO x.d,zO ((x.ps.length:Nat):Int),zO ((x.ms.length:Nat):Int)]
def idT (x:IdR):List UInt8:=idH x ++ x.ps.flatMap prT ++ x.ms.flatMap muT
abbrev KP:=Int×List (ByteArray×List Int)
abbrev KM:=KP×KP
instance:DecidableEq KM:=inferInstance
abbrev KS:=ByteArray×ByteArray×Int×KM
instance:DecidableEq KS:=inferInstance
abbrev KR:=List Int×List KS
instance:DecidableEq KR:=inferInstance
abbrev KI:=Int×List KR×List KM
instance:DecidableEq KI:=inferInstance
def keyP (p:PolyR):KP:=(p.v,p.ts.map keyT)
def keyM (m:MuR):KM:=(keyP m.a,keyP m.b)
def keyS (s:SqR):KS:=(s.sa,s.sb,s.d,keyM s.r)
def keyR (p:PrR):KR:=(p.zs,p.sq.map keyS)
def keyI (x:IdR):KI:=(x.d,x.ps.map keyR,x.ms.map keyM)
-- plain certificates
def PolyR.good (p:PolyR):Prop:=wP p.v p.ts=true
def MuR.good (m:MuR):Prop:=m.a.good∧m.b.good
def SqR.good (s:SqR):Prop:=(rdS (bytes s.sa) (bytes s.sb) s.d).isSome=true∧s.r.good
def PrR.good (p:PrR):Prop:=(∀ z∈p.zs,0≤z)∧∀ s∈p.sq,s.good
def IdR.good (x:IdR):Prop:=0≤x.d∧(∀ p∈x.ps,p.good)∧∀ m∈x.ms,m.good
-- reading from the front
section
variable {α κ:Type}
theorem ZdH {P:UInt8→Prop}{x y:UInt8}{l m:List UInt8}(e:P x)(f:P y):∀ (a b:List UInt8),(∀ c∈a,¬ P c)→(∀ c∈b,¬ P c)→a ++ x :: l=b ++ y :: m→a=b∧x :: l=y :: m
 | [],[],_,_,h=>⟨rfl,h⟩
 | [],b :: bs,_,hb,h=>by
  injection h with h1 _
  exact absurd (h1 ▸ e) (hb b tB)
 | a :: aa,[],ha,_,h=>by
  injection h with h1 _
  exact absurd (h1.symm ▸ f) (ha a tB)
 | a :: aa,b :: bs,ha,hb,h=>by
  injection h with h1 h2
  obtain⟨g,i⟩:=ZdH e f aa bs (fun c d=>ha c (tD _ d)) (fun c d=>hb c (tD _ d)) h2
  exact⟨by rw[h1,g],i⟩
def Sep (c:UInt8):Prop:=c=32∨c=10
theorem wL.sep {s:ByteArray}(h:wL s):∀ c∈bytes s,¬ Sep c:=fun c a e=>by
 rcases e with rfl|rfl
 ·exact h.1 a
 exact h.2 a
theorem bT {a b:ByteArray}(h:bytes a=bytes b):a=b:=by
 cases a;cases b;simp only[bytes] at h
 rw[Array.toList_inj.1 h]
theorem aJ (ss:List ByteArray)(r:List UInt8):∃ x l,wX ss ++ 10 :: r=x :: l∧Sep x:=by
 cases ss with
 | nil=>exact⟨10,r,rfl,Or.inr rfl⟩
 | cons s ss=>exact⟨32,_,rfl,Or.inl rfl⟩
theorem ZfS {r d:List UInt8}:∀ (a b:List ByteArray),(∀ s∈a,wL s)→(∀ s∈b,wL s)→wX a ++ 10 :: r=wX b ++ 10 :: d→a=b∧r=d
 | [],[],_,_,h=>by
  injection h with _ h
  exact⟨rfl,h⟩
 | [],t :: b,_,_,h=>by
  injection h with h _
  exact absurd h (by decide)
 | s :: a,[],_,_,h=>by
  injection h with h _
  exact absurd h (by decide)
 | s :: a,t :: b,hs,ht,h=>by
  have e:∀ (u:ByteArray) (f:List ByteArray) (q:List UInt8),wX (u :: f) ++ 10 :: q=32 :: (bytes u ++ (wX f ++ 10 :: q)):=fun u f q=>by
   unfold wX;simp
  rw[e,e] at h
  injection h with _ h
  obtain⟨x,l,i,n⟩:=aJ a r
  obtain⟨y,m,j,o⟩:=aJ b d
  rw[i,j] at h
  obtain⟨p,k⟩:=ZdH n o _ _ (hs s tB).sep (ht t tB).sep h
  rw[←i,← j] at k
  obtain⟨v,w⟩:=ZfS a b (fun c g=>hs c (tD _ g)) (fun c g=>ht c (tD _ g)) k
  exact⟨by rw[bT p,v],w⟩
theorem Zar {k a:ByteArray}{ss ts:List ByteArray}{r b:List UInt8}(j:wL k)(c:wL a)(n:∀ s∈ss,wL s)(o:∀ s∈ts,wL s)(h:wY k ss ++ r=wY a ts ++ b):k=a∧ss=ts∧r=b:=by
 have e:∀ (k:ByteArray) (d:List ByteArray) (q:List UInt8),wY k d ++ q=bytes k ++ (wX d ++ 10 :: q):=fun k d q=>by
  unfold wY;simp
 rw[e,e] at h
 obtain⟨x,l,f,p⟩:=aJ ss r
 obtain⟨y,m,g,t⟩:=aJ ts b
 rw[f,g] at h
 obtain⟨u,i⟩:=ZdH p t _ _ j.sep c.sep h
 rw[←f,← g] at i
 obtain⟨v,w⟩:=ZfS ss ts n o i
 exact⟨bT u,v,w⟩
def Cuts (enc:α→List UInt8) (key:α→κ) (good:α→Prop):Prop:=∀ x y r r',good x→good y→enc x ++ r=enc y ++ r'→key x=key y∧r=r'
theorem Cuts.list {enc:α→List UInt8}{a:α→κ}{good:α→Prop}(h:Cuts enc a good){r g:List UInt8}:∀ (b d:List α),(∀ x∈b,good x)→(∀ x∈d,good x)→b.length=d.length→b.flatMap enc ++ r=d.flatMap enc ++ g→b.map a=d.map a∧r=g
 | [],[],_,_,_,e=>⟨rfl,e⟩
 | [],y :: d,_,_,hl,_=>by cases hl
 | x :: b,[],_,_,hl,_=>by cases hl
 | x :: b,y :: d,hx,hy,hl,e=>by
  rw[sK,sK,uO,uO] at e
  obtain⟨i,j⟩:=h x y _ _ (hx x tB) (hy y tB) e
  obtain⟨k,l⟩:=Cuts.list h b d (fun c f=>hx c (tD _ f)) (fun c f=>hy c (tD _ f)) (Nat.succ.inj hl) j
  exact⟨by rw[List.map_cons,List.map_cons,i,k],l⟩
end
theorem gG {a b:Int}(h:zO a=zO b):a=b:=by
 have d:Lib.itoa a=Lib.itoa b:=by
  have:=tC bytes h
  simpa [zO,bytes] using this
 have c:=ZaP a
 rw[d,ZaP b] at c
 injection c with c
 exact_mod_cast c.symm
theorem Zct:∀ {a b:List Int},a.map zO=b.map zO→a=b
 | [],[],_=>rfl
 | [],_ :: _,h=>by cases h
 | _ :: _,[],h=>by cases h
 | a :: aa,b :: bs,h=>by
  injection h with h1 h2
  rw[gG h1,Zct h2]
theorem iV {s:ByteArray}(h:s.data.toList.all (fun c => !(c == 32) && !(c == 10))=true):wL s:=by
 rw[vC] at h
 exact⟨fun a=>by have:=h _ a;simp at this,fun a=>by have:=h _ a;simp at this⟩
theorem bU {p:ByteArray→Prop}{a b c:ByteArray}(e:p a)(f:p b)(g:p c):∀ s ∈ [a,b,c],p s:=fun s d=>by
 rcases tX.1 d with rfl|d
 ·exact e
 rcases tX.1 d with rfl|d
 ·exact f
 obtain rfl:=vH.1 d;exact g
theorem ZkA (v:Int)(e:v≤6):Cuts lN keyT (fun t=>xM v t=true):=fun x y r n f g h=>by
 have b:∀ t:TermR,xM v t=true→∀ s∈t.coef :: t.exps.map zO,wL s:=fun t c s a=>by
  rcases tX.1 a with rfl|a
  ·obtain⟨q,j⟩:=xM.coef c;exact wL.coef j
  obtain⟨z,k,rfl⟩:=rH.1 a
  obtain⟨i,d,rfl⟩:=rO k
  have:=((xM.exps' c e).2 i d).1
  unfold nth at this
  rw[List.getElem?_eq_getElem d] at this
  exact wL.itoa this
 obtain⟨_,l,m⟩:=Zar (iV rfl) (iV rfl) (b x f) (b y g) h
 injection l with h4 h5
 exact⟨by unfold keyT;rw[h4,Zct h5],m⟩
theorem Zix {v:Int}{ts:List TermR}(h:wfT v ts ts.length=true):∀ t∈ts,xM v t=true:=fun t b=>by
 obtain⟨i,a,rfl⟩:=rO b
 have:=Zbv h a
 rwa [getElem!_pos ts i a] at this
theorem ZfT:Cuts pyT keyP PolyR.good:=fun x y r t i j h=>by
 obtain⟨⟨a,b⟩,_,c⟩:=wP.parts i
 obtain⟨⟨d,k⟩,_,e⟩:=wP.parts j
 unfold pyT kZ at h
 rw[uO,uO] at h
 have g:∀ (z:Int) (n:Nat),0≤z→∀ s ∈ [zO z,zO ((n:Nat):Int)],wL s:=fun z n l s f=>by
  rcases tX.1 f with rfl|f
  ·exact wL.itoa l
  obtain rfl:=vH.1 f;exact wL.itoa (by omega)
 obtain⟨_,m,o⟩:=Zar (iV rfl) (iV rfl) (g _ _ a) (g _ _ d) h
 injection m with h4 h5
 injection h5 with h5 _
 have h4:=gG h4
 have h5:=gG h5
 obtain⟨p,q⟩:=(ZkA x.v b).list _ _ (Zix c) (by rw[h4];exact Zix e) (by omega) o
 exact⟨by unfold keyP;rw[h4,p],q⟩
theorem Ziy:Cuts muT keyM MuR.good:=fun x y r g a b h=>by
 unfold muT at h
 rw[uO,uO] at h
 obtain⟨c,d⟩:=ZfT _ _ _ _ a.1 b.1 h
 obtain⟨e,f⟩:=ZfT _ _ _ _ a.2 b.2 d
 exact⟨by unfold keyM;rw[c,e],f⟩
theorem SqR.good.words {s:SqR}(h:s.good):∀ t ∈ [s.sa,s.sb,zO s.d],wL t:=by
 obtain⟨x,a⟩:=tS.1 h.1
 obtain⟨b,c,f,e⟩:=ZlD a
 exact bU (wL.coef b) (wL.coef c) (wL.itoa (by have:=(Sd.Ok.dle e).1;omega))
theorem ZmR:Cuts sqT keyS SqR.good:=fun x y r g b c h=>by
 unfold sqT at h
 rw[uO,uO] at h
 obtain⟨_,a,d⟩:=Zar (iV rfl) (iV rfl) b.words c.words h
 injection a with e1 a
 injection a with e2 a
 injection a with e3 _
 obtain⟨e,f⟩:=Ziy _ _ _ _ b.2 c.2 d
 exact⟨by unfold keyS;rw[e1,e2,gG e3,e],f⟩
theorem ZmS:Cuts prT keyR PrR.good:=fun x y r l c d h=>by
 unfold prT at h
 rw[uO,uO] at h
 have e:∀ p:PrR,p.good→∀ s∈zO ((p.sq.length:Nat):Int) :: p.zs.map zO,wL s:=fun p f s a=>by
  rcases tX.1 a with rfl|a
  ·exact wL.itoa (by omega)
  obtain⟨z,g,rfl⟩:=rH.1 a
  exact wL.itoa (f.1 z g)
 obtain⟨_,b,i⟩:=Zar (iV rfl) (iV rfl) (e x c) (e y d) h
 injection b with e1 b
 have e1:=gG e1
 obtain⟨j,k⟩:=ZmR.list _ _ c.2 d.2 (by omega) i
 exact⟨by unfold keyR;rw[Zct b,j],k⟩
theorem ZnA {x y:IdR}(i:x.good)(j:y.good)(h:idT x=idT y):keyI x=keyI y:=by
 unfold idT idH at h
 have e:∀ a b c d e f:List UInt8,a ++ b ++ c=d ++ e ++ f→a ++ (b ++ (c ++ []))=d ++ (e ++ (f ++ [])):=fun a b c d e f h=>by
  rw[tP,tP,← uO,← uO];exact h
 obtain⟨_,g,k⟩:=Zar (iV rfl) (iV rfl) (bU (wL.itoa i.1) (wL.itoa (by omega)) (wL.itoa (by omega))) (bU (wL.itoa j.1) (wL.itoa (by omega)) (wL.itoa (by omega))) (e _ _ _ _ _ _ h)
 injection g with e1 g
 injection g with e2 g
 injection g with e3 _
 have e2:=gG e2
 have e3:=gG e3
 obtain⟨l,m⟩:=ZmS.list _ _ i.2.1 j.2.1 (by omega) k
 obtain⟨n,_⟩:=Ziy.list _ _ i.2.2 j.2.2 (by omega) m
 unfold keyI
 rw[gG e1,l,n]
-- the text depends on the key alone
theorem Zas {α κ:Type}{enc:α→List UInt8}{a:α→κ}(h:∀ x y,a x=a y→enc x=enc y):∀ (b c:List α),b.map a=c.map a→b.flatMap enc=c.flatMap enc
 | [],[],_=>rfl
 | [],_ :: _,e=>by cases e
 | _ :: _,[],e=>by cases e
 | x :: b,y :: c,e=>by
  injection e with h1 h2
  rw[sK,sK,h x y h1,Zas h b c h2]
theorem dB {α κ:Type}{a:α→κ}{xs b:List α}(h:xs.map a=b.map a):xs.length=b.length:=by
 have:=tC List.length h
 simpa using this
theorem ZlE {x y:TermR}(h:keyT x=keyT y):lN x=lN y:=by
 unfold keyT at h
 injection h with h1 h2
 unfold lN
 rw[h1,h2]
theorem Zha {x y:PolyR}(h:keyP x=keyP y):pyT x=pyT y:=by
 unfold keyP at h
 injection h with h1 h2
 unfold pyT kZ
 rw[h1,dB h2,Zas (fun _ _=>ZlE) _ _ h2]
theorem ZkB {x y:MuR}(h:keyM x=keyM y):muT x=muT y:=by
 unfold keyM at h
 injection h with h1 h2
 unfold muT
 rw[Zha h1,Zha h2]
theorem ZnB {x y:SqR}(h:keyS x=keyS y):sqT x=sqT y:=by
 unfold keyS at h
 injection h with h1 h2
 injection h2 with h2 h3
 injection h3 with h3 h4
 unfold sqT
 rw[h1,h2,h3,ZkB h4]
theorem ZnC {x y:PrR}(h:keyR x=keyR y):prT x=prT y:=by
 unfold keyR at h
 injection h with h1 h2
 unfold prT
 rw[h1,dB h2,Zas (fun _ _=>ZnB) _ _ h2]
theorem ZnD {x y:IdR}(h:keyI x=keyI y):idT x=idT y:=by
 unfold keyI at h
 injection h with h1 h2
 injection h2 with h2 h3
 unfold idT idH
 rw[h1,dB h2,dB h3,Zas (fun _ _=>ZnC) _ _ h2,Zas (fun _ _=>ZkB) _ _ h3]
theorem ZmT {x y:IdR}(a:x.good)(b:y.good):(decide (idT x=idT y))=decide (keyI x=keyI y):=by
 rcases Decidable.em (keyI x=keyI y) with h|h
 ·rw[uI h,uI (ZnD h)]
 rw[uH h,uH (fun e=>h (ZnA a b e))]
section
variable {P:Program} {o:Oper} {ρ:Operand→Value} {w:World} {t e k:TypeId} {x y ix:Operand}
theorem ZlF {A:Option Addr}{zs:List Int}{l cap j:Nat}(h:lZ w A zs)(a:zs.length=l)(hj:j<l)(ho:o.op=Op.indexAddr t x ix:=by kernel_rfl)(ht:P.underlying t=some (.slice e):=by kernel_rfl)(hs:(P.info? e).map (fun i=>i.size)=some 1:=by kernel_rfl)(hx:ρ x=.slice A l cap:=by kernel_rfl)(hix:ρ ix=.int .i64 (j:Int):=by kernel_rfl):(execOp ρ o).run P w=.ok (.value (atA A j)) w:=by
 obtain⟨b,c,d,_⟩:=h (fun e=>by rw[e] at a;simp at a;omega)
 exact Zlh (by rw[d];exact fun e=>by cases e) hj ho ht hs hx hix
theorem ZlG {A:Option Addr}{zs:List Int}{z:Int}{j:Nat}(h:lZ w A zs)(a:j<zs.length)(c:zs.getD j 0=z)(d:o.op=Op.load t x:=by kernel_rfl)(f:ρ x=atA A j:=by kernel_rfl)(g:(teOf P t).map (fun e=>e.agg)=some false:=by kernel_rfl) :
 (execOp ρ o).run P w=.ok (.value (.int .i64 z)) w:=by
 obtain⟨b,i,l,_,m⟩:=h (fun e=>by rw[e] at a;simp at a)
 rw[←c]
 exact gT (m j a) d (by rw[f,l,atA,sH,iC]) g
theorem Zhb {v n:Int}(a:n≠0)(b:o.op=Op.binOp .rem t x y k:=by kernel_rfl)(c:ρ x=.int .i64 v:=by kernel_rfl)(d:ρ y=.int .i64 n:=by kernel_rfl):(execOp ρ o).run P w=.ok (.value (.int .i64 (v.tmod n))) w:=by
 simp only[execOp,b,c,d,eqGuard,binOp,Op.intDiv]
 simp[a]
end
theorem lZ.next {w w':World}{A:Option Addr}{zs:List Int}{g:Nat}(h:lZ w A zs)(f:Fr (fun i=>i=g) w w')(l:zs≠[]→∀ a,A=some a→a.block≠g):lZ w' A zs:=fun d=>by
 obtain⟨b,c,rfl,j,m⟩:=h d
 exact⟨b,c,rfl,uX j f.size,fun i n=>(f.cell (p:=⟨b,c+i,none⟩) j (l d ⟨b,c,none⟩ rfl)).trans (m i n)⟩
theorem ZkC (v:Int){n:Int}(b:0<n):0≤(v.tmod n+n).tmod n∧(v.tmod n+n).tmod n<n:=by
 have c:=Int.lt_tmod_of_pos v b
 rw[tJ (a:=v.tmod n+n) (by omega)]
 exact⟨Int.emod_nonneg _ (by omega),Int.emod_lt_of_pos _ b⟩
abbrev TB (w:World) (g:Nat) (A:Option Addr) (l c p:Nat):Prop:=Blk 95 w g #[.slice A l c,.int .i64 ((p:Nat):Int)]
theorem ZnE (A:Option Addr)(l c:Nat)(b:Int):wG #[.slice A l c,.int .i64 b]:=by
 intro i k z h;rcases i with _|_|i<;>simp at h
 exact h.1.symm
def RetN (w:World) (g:Nat) (A:Option Addr) (l c:Nat) (n:Int) (e:Ending) (w':World):Prop:=∃ (v p:Nat),e=.returned (.int .i64 ((v:Nat):Int))∧((v:Int)<n∧p≤l)∧Fr (fun i=>i=g) w w'∧TB w' g A l c p
theorem lZ.take {w:World}{A:Option Addr}{zs:List Int}(h:lZ w A zs)(k:Nat):lZ w A (zs.take k):=fun a=>by
 obtain⟨b,c,rfl,d,f⟩:=h (fun e=>a (by rw[e];simp))
 refine⟨b,c,rfl,d,fun i g=>?_⟩
 rw[uL] at g
 rw[f i (by omega),List.getD_eq_getElem?_getD,List.getD_eq_getElem?_getD,List.getElem?_take_of_lt (by omega)]
theorem lZ.apart {w:World}{A:Option Addr}{zs:List Int}{g:Nat}(h:lZ w A zs)(i:w.heap.size≤g):zs≠[]→∀ a,A=some a→a.block≠g:=fun c a e=>by
 obtain⟨b,d,f,j,_⟩:=h c
 rw[f] at e
 injection e with e
 subst e
 show b≠g
 omega
theorem ZmU (A:Option Addr)(l c:Nat)(w:World)(d:l≤c):yA 9 #[.slice A l c] w (fun e w'=>∃ g,e=.returned (.pointer (some ⟨g,0,none⟩))∧w.heap.size≤g∧Ext w w'∧TB w' g A (min l 400) c 0):=by
 obtain⟨k,a⟩:=yE (min l 400)
 have f:min (l:Int) 400=(k:Int):=by omega
 have b:k≤c:=by omega
 rw[a]
 go_enter Tryz.func9,Tryz.ntmps9
 go_wp2
 go_ret
 exact⟨_,rfl,uR _,(Fr.refl _ _).alloc _,Blk.new _ _ _⟩
theorem ZlH (g:Nat)(A:Option Addr)(l c p:Nat)(zs:List Int)(n:Int)(w:World)(r:TB w g A l c p)(s:p≤l)(u:lZ w A zs)(B:zs.length=l)(F:l≤1000000)(b:0<n)(G:n≤1048576) :
 yA 24 #[.pointer (some ⟨g,0,none⟩),.int .i64 n] w (RetN w g A l c n):=by
 refine lW (fun i=>i=g) (Φ:=fun w=>(TB w g A l c p∧lZ w A zs)) Tryz.func24 rfl (by kernel_rfl) (fun w' m=>⟨r.ext m,u.ext m⟩) ?_
 refine zD (zC (xq 1 [yJ 4 0] [] ?_))
 refine xe (zB (zD (zD ?_)))
 refine kN 10 [0,1,3,7,0,16,48,112,240,511] (by kernel_rfl) (by kernel_rfl) zK ?_
 refine xqg 3 [(8,.v (.pointer (some ⟨g,0+1,none⟩)))] ?_
 refine xqj 9 (.int .i64 (p:Int)) (fun w Q=>gT (t:=3) (x:=.tmp 8) (g:=g) (off:=0+1) (Blk.cell (Q.1) 1)) ?_
 refine xqg 3 [(12,.v (.pointer (some ⟨g,0,none⟩)))] ?_
 refine xqj 13 (.slice A l c) (fun w Q=>gT (t:=22) (x:=.tmp 12) (g:=g) (off:=0) (Blk.cell (Q.1) 0)) ?_
 refine xqg 2 [yB 15 (decide ((p:Int)≥(l:Int)))] ?_
 refine xz (xe (zB ?_))
 refine yQ ((decide ((p:Int)≥(l:Int)))) (fun a=>?_) fun a=>?_
 ·have d:=uF a
  refine zD (zC (xq 1 [yJ 4 0] [] ?_))
  refine xe (zB (zI (zE ?_)))
  refine yR (.int .i64 0) fun w' R Q=>?_
  exact⟨0,p,rfl,⟨by omega,s⟩,R,Q.1⟩
 have d:=uE a
 refine zJ (zB (zD ?_))
 have f:p<l:=by omega
 obtain⟨z,h⟩:=yE (zs.getD p 0)
 refine kN 11 [0,1,3,7,0,16,48,112,255,511,1023] (by kernel_rfl) (by kernel_rfl) zK ?_
 refine xqg 3 [(18,.v (.pointer (some ⟨g,0,none⟩)))] ?_
 refine xqj 19 (.slice A l c) (fun w Q=>gT (t:=22) (x:=.tmp 18) (g:=g) (off:=0) (Blk.cell (Q.1) 0)) ?_
 refine xqg 3 [(22,.v (.pointer (some ⟨g,0+1,none⟩)))] ?_
 refine xqj 23 (.int .i64 (p:Int)) (fun w Q=>gT (t:=3) (x:=.tmp 22) (g:=g) (off:=0+1) (Blk.cell (Q.1) 1)) ?_
 refine xqj 24 (atA A p) (fun w Q=>ZlF (t:=22) (e:=3) (x:=.tmp 19) (ix:=.tmp 23) (l:=l) (cap:=c) (j:=p) (Q.2) B f) ?_
 refine xqj 25 (.int .i64 z) (fun w Q=>ZlG (t:=3) (x:=.tmp 24) (j:=p) (Q.2) (by omega) h) ?_
 refine xqg 1 [yJ 5 z] ?_
 refine xz (xe (zB (zD (zC (xq 3 [(26,.v (.pointer (some ⟨g,0,none⟩))),(28,.v (.pointer (some ⟨g,0+1,none⟩)))] [] ?_)))))
 refine xqk 29 (.int .i64 (p:Int)) (fun w R Q=>gT (t:=3) (x:=.tmp 28) (g:=g) (off:=0+1) (Blk.cell (Q.1) 1)) ?_
 refine xq 1 [yJ 30 (IntKind.i64.wrap ((p:Int)+1))] [] ?_
 rw[yW ((p:Int)+1) (((p+1:Nat):Int)) (by omega)]
 refine xq 2 [(32,.v (.pointer (some ⟨g,0+1,none⟩)))] [] ?_
 refine Zms (t:=3) (bt:=95) (x:=.tmp 32) (y:=.tmp 30) (cs:=[.slice A l c,.int .i64 (p:Int)]) g (0+1) (.int .i64 ((p+1:Nat):Int)) (fun _=>True) (fun w Q=>Q.1) (Nat.lt_succ_self 1) (Or.inr rfl) rfl rfl (fun _ _ _ _=>trivial) ?_
 refine xr 0 [yJ 1 n,yJ 4 0,yJ 5 z] [] ?_
 refine xe (zB (zD ?_))
 obtain⟨v,C⟩:∃ v:Nat,(z.tmod n+n).tmod n=v:=rP (ZkC z b).1
 have D:=(ZkC z b).2
 have E:=Int.lt_tmod_of_pos z b
 have q:=Int.tmod_lt_of_pos z b
 refine zC (xq 2 [yJ 33 z,yJ 34 n] [] ?_)
 refine xqk 35 (.int .i64 (z.tmod n)) (fun w R Q=>Zhb (t:=3) (k:=3) (x:=.tmp 33) (y:=.tmp 34) (by omega)) ?_
 refine xq 2 [yJ 37 (IntKind.i64.wrap ((z.tmod n)+n))] [] ?_
 rw[yW (z.tmod n+n) (z.tmod n+n) (by omega)]
 refine xq 1 [yJ 38 n] [] ?_
 refine xqk 39 (.int .i64 (v:Int)) (fun w R Q=>by rw[←C];exact Zhb (t:=3) (k:=3) (x:=.tmp 37) (y:=.tmp 38) (by omega)) ?_
 refine xq 1 [yJ 4 (v:Int)] [] ?_
 refine xe (zB (zI ?_))
 refine yR (.int .i64 (v:Int)) fun w' R Q=>?_
 exact⟨v,p+1,rfl,⟨by omega,by omega⟩,R,Q.2⟩
structure Tap where
 g:Nat
 A:Option Addr
 l:Nat
 c:Nat
def TOld (wl:World) (τ:Tap):Prop:=∃ zs,lZ wl τ.A zs∧zs.length=τ.l∧τ.l≤1000000∧wl.heap.size≤τ.g
def TOk (τ:Tap) (w:World):Prop:=∃ p,p≤τ.l∧TB w τ.g τ.A τ.l τ.c p
theorem TOk.fr {τ:Tap}{w w':World}{S:Nat→Prop}(h:TOk τ w)(a:Fr S w w')(b:¬ S τ.g):TOk τ w':=by
 obtain⟨p,c,d⟩:=h
 exact⟨p,c,Blk.fr d a b⟩
theorem TOk.ext {τ:Tap}{w w':World}(h:TOk τ w)(a:Ext w w'):TOk τ w':=h.fr a (fun f=>f)
theorem TOk.lt {τ:Tap}{w:World}(h:TOk τ w):τ.g<w.heap.size:=by
 obtain⟨p,b,a⟩:=h
 exact Blk.lt a
theorem TOk.nrb {τ:Tap}{w:World}(h:TOk τ w):NRB w τ.g:=by
 obtain⟨p,b,a⟩:=h
 exact⟨_,_,a,ZnE _ _ _ _⟩
theorem TOk.cell {τ:Tap}{w:World}(h:TOk τ w):w.cell? ⟨τ.g,0,none⟩=some (.slice τ.A τ.l τ.c):=by
 obtain⟨p,b,a⟩:=h
 rw[Blk.cell a];rfl
theorem TOk.boxT {τ:Tap}{w w':World}(h:TOk τ w'):BoxT τ.g w w' (TOk τ):=fun _ _ a b=>h.fr b (fun c=>(a _ c).2.1 rfl)
theorem TOld.old {wl a w:World}{τ:Tap}(h:TOld wl τ)(b:Ext wl a)(Q:Fr (fun i=>i=τ.g) a w):Ext wl w:=by
 obtain⟨_,_,_,_,c⟩:=h
 exact b.next Q (fun i d e=>by have e:i=τ.g:=e;omega)
def RetT {α:Type} (τ:Tap) (sh:α→Value) (good:α→Prop) (φ:α→World→Prop) (w:World) (e:Ending) (w':World):Prop:=∃ x,good x∧e=.returned (sh x)∧Fr (fun i=>i=τ.g) w w'∧TOk τ w'∧φ x w'
theorem wQ {α:Type}{τ:Tap}{a:α→Value}{good:α→Prop}{φ ψ:α→World→Prop}{w:World}{e:Ending}{w':World}(h:RetT τ a good φ w e w')(c:∀ x,Fr (fun i=>i=τ.g) w w'→φ x w'→BoxT τ.g w w' (ψ x)) :
 ∃ x:{x:α // good x},e=.returned (a x.1)∧Fr (fun i=>i=τ.g) w w'∧BoxT τ.g w w' (fun w=>TOk τ w∧ψ x.1 w):=by
 obtain⟨x,d,rfl,b,f,h⟩:=h
 exact⟨⟨x,d⟩,rfl,b,f.boxT.and (c x b h)⟩
theorem lQ (τ:Tap)(wl:World)(n:Int)(w:World)(j:TOld wl τ)(m:Ext wl w)(q:TOk τ w)(a:0<n)(r:n≤1048576) :
 yA 24 #[.pointer (some ⟨τ.g,0,none⟩),.int .i64 n] w (RetT τ (fun v:Nat=>.int .i64 ((v:Nat):Int)) (fun v=>(v:Int)<n) (fun _ _=>True) w):=by
 obtain⟨s,d,u,z,B⟩:=j
 obtain⟨p,C,D⟩:=q
 refine (ZlH τ.g τ.A τ.l τ.c p s n w D C (lZ.next d (m.mono (fun _ _ f=>f.elim):Fr (fun i=>i=τ.g) wl w) (d.apart B)) u z a r).mono ?_
 rintro e w' ⟨v,E,rfl,h,F,b⟩
 exact⟨v,h.1,rfl,F,⟨E,h.2,b⟩,trivial⟩
theorem zF.boxT {w w':World}{v:Value}{q:Rat}{b:Nat}(h:zF w' v q)(c:Fr (fun i=>i=b) w w'):BoxT b w w' (fun w=>zF w v q):=fun _ _ d a=>h.nrb (fun i f=>by
 obtain⟨n,g,t,j,l,m⟩:=d i f
 exact⟨t,j,l.fr c g,m⟩) a
theorem OwnD.ext {w w':World}{m n c k:Nat}{e:TypeId}{A:Option Addr}{xs:List Value}(h:OwnD w m e k A c n xs)(a:Ext w w'):OwnD w' m e k A c n xs:=h.fr a (fun _ _ f=>f)
theorem OwnD.nrb {w:World}{m n c k i:Nat}{e:TypeId}{A:Option Addr}{xs:List Value}(h:OwnD w m e k A c n xs)(hi:A=some ⟨i,0,none⟩):NRB w i:=by
 obtain⟨_,a,b,d⟩:=h.blk hi
 exact⟨_,_,b,d⟩
theorem OwnD.tape {w w':World}{m n c k g:Nat}{e:TypeId}{A:Option Addr}{xs:List Value}(h:OwnD w m e k A c n xs)(a:Fr (fun i=>i=g) w w')(d:g<m):OwnD w' m e k A c n xs :=
 h.fr a (fun i b e=>by have:=(h.blk b).1;have e:i=g:=e;omega)
theorem Blk.rowUp {w w':World}{m n c k b:Nat}{e T:TypeId}{A:Option Addr}{xs:List Value}{cs:Array Value}(h:Blk T w b cs)(d:OwnD w m e k A c n xs)(a:T≠e)(f:Fr (fun i=>A=some ⟨i,0,none⟩) w w'):Blk T w' b cs :=
 h.fr f (fun g=>by
  obtain⟨_,_,j,_⟩:=d.blk g
  exact a (Dp.blk_ne h j))
theorem OwnD.other {w w':World}{m g n j c l k o:Nat}{e d:TypeId}{A f:Option Addr}{xs a:List Value}(h:OwnD w m e k A c n xs)(p:OwnD w g d o f l j a)(b:e≠d)(q:Fr (fun i=>f=some ⟨i,0,none⟩) w w'):OwnD w' m e k A c n xs :=
 h.fr q (fun i r s=>by
  obtain⟨_,_,t,_⟩:=h.blk r
  obtain⟨_,_,u,_⟩:=p.blk s
  exact b (Dp.blk_ne t u))
theorem TOk.row {w w':World}{τ:Tap}{m n c k:Nat}{e:TypeId}{A:Option Addr}{xs:List Value}(h:TOk τ w)(a:OwnD w m e k A c n xs)(f:τ.g<m)(b:Fr (fun i=>A=some ⟨i,0,none⟩) w w'):TOk τ w' :=
 h.fr b (fun d=>by have:=(a.blk d).1;omega)
theorem Dp.boxTm {α:Type}{D:Dp α}{m:Nat}{w w':World}{x:α}{b:Nat}(h:D.ok w.heap.size w' x)(Q:Fr (fun i=>i=b) w w')(c:m≤w.heap.size):BoxT b w w' (fun v=>D.ok m v x):=fun S a d e=>D.mono (Dp.boxT h Q S a d e) c
def Dp.list {α:Type} (D:Dp α):Dp (List α):=.all (fun l=>l) D
theorem Dp.snoc {α:Type}{D:Dp α}{m:Nat}{w:World}{xs:List α}{x:α}(h:D.list.ok m w xs)(b:D.ok m w x):D.list.ok m w (xs ++ [x]):=fun y a=>by
 rcases vL.1 a with a|a
 ·exact h y a
 obtain rfl:=vH.1 a;exact b
theorem Dp.none {α:Type}(D:Dp α)(m:Nat)(w:World):D.list.ok m w []:=fun y hy=>by cases hy
theorem Ziz {z:Int}(h:z.natAbs≤1000000):xY z:=by
 unfold xY
 exact uD (Zcp (k:=7) (uN h (by decide))) (by decide)
theorem ZnF {n d:Int}(a:d≠0)(b:n.natAbs<10)(c:d.natAbs<10):Dq (Rat.divInt n d) 1:=Zby (k:=1) a rfl b c
theorem ZnG {v:Nat}(h:v<4):nth [1,2,3,5] v=1∨nth [1,2,3,5] v=2∨nth [1,2,3,5] v=3∨nth [1,2,3,5] v=5:=by
 match v,h with
 | 0,_=>left;rfl
 | 1,_=>right;left;rfl
 | 2,_=>right;right;left;rfl
 | 3,_=>right;right;right;rfl
theorem ZkD {w:World}{s:Bool}{A:Option Addr}{l c:Nat}{z:Int}(h:zR w (.agg #[.bool s,.slice A l c]) z):zF w (.agg #[.bool s,.slice A l c,.bool false,.slice none 0 0]) ((z:Int):Rat):=⟨s,false,A,none,l,c,0,0,rfl,h,zR.nil w⟩
theorem TOk.nrb' {w:World}{τ:Tap}(h:TOk τ w):∀ i,i=τ.g→NRB w i:=fun i a=>by rw[a];exact h.nrb
theorem zR.tape {w w':World}{τ:Tap}{v:Value}{z:Int}(h:zR w v z)(a:TOk τ w)(b:Fr (fun i=>i=τ.g) w w'):zR w' v z:=h.nrb a.nrb' b
theorem zF.tape {w w':World}{τ:Tap}{v:Value}{z:Rat}(h:zF w v z)(a:TOk τ w)(b:Fr (fun i=>i=τ.g) w w'):zF w' v z:=h.nrb a.nrb' b
theorem Dp.tape {α:Type}{D:Dp α}{m:Nat}{x:α}{w w':World}{τ:Tap}(h:D.ok m w x)(b:TOk τ w)(d:τ.g<m)(c:Fr (fun i=>i=τ.g) w w'):D.ok m w' x:=Dp.old h c (fun i a=>⟨by have a:i=τ.g:=a;omega,b.nrb' i a⟩)
theorem zF.rowUp {w w':World}{m n c k:Nat}{e:TypeId}{A:Option Addr}{xs:List Value}{v:Value}{z:Rat}(h:zF w v z)(a:OwnD w m e k A c n xs)(b:Fr (fun i=>A=some ⟨i,0,none⟩) w w'):zF w' v z:=h.nrb (fun _ d=>a.nrb d) b
theorem ZnH {w w':World}{e:Ending}(h:∃ z:Int,e=.returned (.int .i64 z)∧Ext w w'):wS (fun z:Int=>.int .i64 z) (fun _ _=>True) w e w':=by
 obtain⟨z,rfl,Q⟩:=h
 exact⟨z,rfl,Q,BoxN.pure trivial⟩
theorem Zhc (n:Int)(w:World)(e : -9223372036854775808≤n)(f:n≤9223372036854775807) :
 yA 99 #[.int .i64 n] w (kY w ((n:Int):Rat)):=by
 refine xB (Φ:=fun w=>True) Tryz.func99 rfl (by kernel_rfl) (fun w' g=>trivial) ?_
 refine zD (zC (xq 1 [(2,.p 2 0)] [bR4 2 127 false none 0 0 false none 0 0] ?_))
 refine xe (zB (zD (zC (xq 1 [yJ 3 n] [] ?_))))
 refine xqc 114 [.int .i64 n] 4 wI _ (fun w R Q=>yM xL (dR n _ e f)) fun⟨a,b,c,d⟩=>?_
 refine xq 2 [] [bR4 2 127 a b c d false none 0 0] ?_
 refine xe (zB (zI ?_))
 refine yR (.agg #[.bool a,.slice b c d,.bool false,.slice none 0 0]) fun w' R Q=>?_
 exact⟨_,rfl,ZkD Q.2,R⟩
theorem Zjp (τ:Tap)(wl w:World)(t:TOld wl τ)(y:Ext wl w)(z:TOk τ w)(k:Int)(B:0≤k)(E:k≤1000) :
 yA 100 #[.pointer (some ⟨τ.g,0,none⟩),.int .i64 k] w (RetT τ (fun x:ShQ×Int=>xC x.1) (fun x => -k≤x.2∧x.2≤k) (fun x w=>zF w (xC x.1) ((x.2:Int):Rat)) w):=by
 refine lW (fun i=>i=τ.g) (Φ:=fun w=>TOk τ w) Tryz.func100 rfl (by kernel_rfl) (fun w' C=>z.ext C) ?_
 refine zD (zC (xq 1 [(4,.p 4 0)] [bR4 4 127 false none 0 0 false none 0 0] ?_))
 refine xe (zB (zD (zC (xq 3 [(5,.v (.pointer (some ⟨τ.g,0,none⟩))),yJ 7 (IntKind.i64.wrap (2*k))] [] ?_))))
 rw[(show IntKind.i64.wrap (2*k)=2*k by rw[IntKind.wrap_i64];omega)]
 refine xq 1 [yJ 8 (IntKind.i64.wrap ((2*k)+1))] [] ?_
 rw[(show IntKind.i64.wrap (2*k+1)=2*k+1 by rw[IntKind.wrap_i64];omega)]
 refine wJ (b:=τ.g) (d:=9) (j:=0) (c:=.slice τ.A τ.l τ.c) 24 [.pointer (some ⟨τ.g,0,none⟩),.int .i64 (2*k+1)] (fun x:{x:Nat // (fun v=>(v:Int)<(2*k+1)) x}=>(fun v=>.int .i64 (v:Int)) x.1) (fun w=>True) (fun x w=>TOk τ w∧(fun _ _=>True) x.1 w) (fun w Q=>TOk.cell Q) (Or.inr rfl) (fun w R Q=>(lQ τ wl ((2*k+1)) _ t (t.old y R) Q (by omega) (by omega)).mono (fun _ _ h=>wQ h (fun x D h=>fun _ _ _ _=>trivial))) (fun w F R Q D=>trivial) fun⟨a,u⟩=>?_
 refine xr 2 [(4,.p 4 0),yJ 11 (IntKind.i64.wrap ((a:Int)-k))] [bR4 4 127 false none 0 0 false none 0 0] ?_
 rw[(show IntKind.i64.wrap ((a:Int)-k)=(a:Int)-k by rw[IntKind.wrap_i64];omega)]
 refine xqc 99 [.int .i64 ((a:Int)-k)] 12 xC _ (fun w R Q=>yM wW (Zhc ((a:Int)-k) _ (by omega) (by omega))) fun⟨e,f,m,n,o,q,r,s⟩=>?_
 refine xq 1 [] [bR4 4 127 e f m n o q r s] ?_
 refine xe (zB (zI ?_))
 refine yR (.agg #[.bool e,.slice f m n,.bool o,.slice q r s]) fun w' R Q=>?_
 exact⟨(⟨e,f,m,n,o,q,r,s⟩,(a:Int)-k),⟨by show -k≤(a:Int)-k;omega,by show (a:Int)-k≤k;omega⟩,rfl,R,Q.1.2.1,Q.2⟩
theorem ZlI (τ:Tap)(wl w:World)(B:TOld wl τ)(H:Ext wl w)(K:TOk τ w) :
 yA 49 #[.pointer (some ⟨τ.g,0,none⟩)] w (RetT τ (fun x:ShQ×Rat=>xC x.1) (fun x=>Dq x.2 1) (fun x w=>zF w (xC x.1) x.2) w):=by
 refine lW (fun i=>i=τ.g) (Φ:=fun w=>TOk τ w) Tryz.func49 rfl (by kernel_rfl) (fun w' L=>K.ext L) ?_
 refine zD (zC (xq 1 [(2,.p 2 0)] [bR4 2 127 false none 0 0 false none 0 0] ?_))
 refine xe (zB (zD (zC (xq 1 [(4,.v (.pointer (some ⟨τ.g,0,none⟩)))] [] ?_))))
 refine wJ (b:=τ.g) (d:=5) (j:=0) (c:=.slice τ.A τ.l τ.c) 24 [.pointer (some ⟨τ.g,0,none⟩),.int .i64 19] (fun x:{x:Nat // (fun v=>(v:Int)<19) x}=>(fun v=>.int .i64 (v:Int)) x.1) (fun w=>True) (fun x w=>TOk τ w∧(fun _ _=>True) x.1 w) (fun w Q=>TOk.cell Q) (Or.inr rfl) (fun w R Q=>(lQ τ wl (19) _ B (B.old H R) Q (by decide) (by decide)).mono (fun _ _ h=>wQ h (fun x C h=>fun _ _ _ _=>trivial))) (fun w M R Q C=>trivial) fun⟨a,I⟩=>?_
 refine xr 1 [(0,.v (.pointer (some ⟨τ.g,0,none⟩))),(2,.p 2 0),yJ 6 (IntKind.i64.wrap ((a:Int)-9))] [bR4 2 127 false none 0 0 false none 0 0] ?_
 rw[(show IntKind.i64.wrap ((a:Int)-9)=(a:Int)-9 by rw[IntKind.wrap_i64];omega)]
 refine xq 1 [yJ 3 ((a:Int)-9)] [] ?_
 refine xe (zB (zD (zC (xq 1 [yJ 7 ((a:Int)-9)] [] ?_))))
 refine xqc 114 [.int .i64 ((a:Int)-9)] 8 wI _ (fun w R Q=>yM xL (dR (((a:Int)-9)) _ (by omega) (by omega))) fun⟨f,k,m,n⟩=>?_
 refine xq 1 [(9,.v (.pointer (some ⟨τ.g,0,none⟩)))] [] ?_
 refine wJ (b:=τ.g) (d:=10) (j:=0) (c:=.slice τ.A τ.l τ.c) 24 [.pointer (some ⟨τ.g,0,none⟩),.int .i64 4] (fun x:{x:Nat // (fun v=>(v:Int)<4) x}=>(fun v=>.int .i64 (v:Int)) x.1) (fun w=>zR w (.agg #[.bool f,.slice k m n]) (((a:Int)-9))) (fun x w=>TOk τ w∧(fun _ _=>True) x.1 w) (fun w Q=>TOk.cell Q.1.2.1) (Or.inr rfl) (fun w R Q=>(lQ τ wl (4) _ B (B.old H R) Q.1.2.1 (by decide) (by decide)).mono (fun _ _ h=>wQ h (fun x C h=>fun _ _ _ _=>trivial))) (fun w M R Q C=>zR.tape Q.2 Q.1.2.1 C) fun⟨e,J⟩=>?_
 refine xr 1 [(2,.p 2 0),eI2 8 f k m n,yJ 11 (IntKind.i64.wrap (1+(e:Int)))] [bR4 2 127 false none 0 0 false none 0 0] ?_
 rw[(show IntKind.i64.wrap (1+(e:Int))=1+(e:Int) by rw[IntKind.wrap_i64];omega)]
 refine xqc 114 [.int .i64 (1+(e:Int))] 12 wI _ (fun w R Q=>yM xL (dR ((1+(e:Int))) _ (by omega) (by omega))) fun⟨D,E,F,G⟩=>?_
 refine xqc 113 [vI2 f k m n,vI2 D E F G] 13 xC _ (fun w R Q=>yM wW (bO _ _ ((a:Int)-9) (1+(e:Int)) _ Q.1.1 Q.2 (Ziz (by omega)) (Ziz (by omega)) (by omega))) fun⟨o,q,r,s,t,u,y,z⟩=>?_
 refine xq 1 [] [bR4 2 127 o q r s t u y z] ?_
 refine xe (zB (zI ?_))
 refine yR (.agg #[.bool o,.slice q r s,.bool t,.slice u y z]) fun w' R Q=>?_
 exact⟨(⟨o,q,r,s,t,u,y,z⟩,Rat.divInt ((a:Int)-9) (1+(e:Int))),ZnF (by omega) (by omega) (by omega),rfl,R,Q.1.1.2.1,Q.2⟩
theorem Zge (τ:Tap)(wl w:World)(p:TOld wl τ)(u:Ext wl w)(q:TOk τ w) :
 yA 31 #[.pointer (some ⟨τ.g,0,none⟩)] w (RetT τ (fun d:Int=>.int .i64 d) (fun d=>d=1∨d=2∨d=3∨d=5) (fun _ _=>True) w):=by
 obtain⟨m0,f⟩:∃ m,m=w.heap.size:=⟨_,rfl⟩
 have y:τ.g<m0:=f ▸ q.lt
 refine lW (fun i=>i=τ.g) (Φ:=fun w=>TOk τ w) Tryz.func31 rfl (by kernel_rfl) (fun w' B=>q.ext B) ?_
 refine zD (zC (xq 1 [yJ 2 0] [] ?_))
 refine xe (zB (zD (zC ?_)))
 refine yD (d:=3) (fun o:{b:Nat // m0≤b}=>.slice (some ⟨o.1,0,none⟩) 4 4) (fun o C=>Blk 3 C o.1 (Zbp [1,2,3,5])) (fun w R Q=>xF (m0:=m0) (f ▸ R.size) (t:=22) (e:=3) (n:=4) (sz:=1) (z:=.int .i64 0) (parts:=#[(0,.const (.int .i64 1)),(1,.const (.int .i64 2)),(2,.const (.int .i64 3)),(3,.const (.int .i64 5))]) (by kernel_rfl) (by kernel_rfl) (by kernel_rfl) (by kernel_rfl) (by kernel_rfl) (by kernel_rfl)) fun⟨k,D⟩=>?_
 refine xr 1 [yJ 2 0,eS1 3 (some ⟨k,0,none⟩) 4 4,(4,.v (.pointer (some ⟨τ.g,0,none⟩)))] [] ?_
 refine wJ (b:=τ.g) (d:=5) (j:=0) (c:=.slice τ.A τ.l τ.c) 24 [.pointer (some ⟨τ.g,0,none⟩),.int .i64 4] (fun x:{x:Nat // (fun v=>(v:Int)<4) x}=>(fun v=>.int .i64 (v:Int)) x.1) (fun w=>Blk 3 w k (Zbp [1,2,3,5])) (fun x w=>TOk τ w∧(fun _ _=>True) x.1 w) (fun w Q=>TOk.cell Q.1) (Or.inr rfl) (fun w R Q=>(lQ τ wl (4) _ p (p.old u R) Q.1 (by decide) (by decide)).mono (fun _ _ h=>wQ h (fun x r h=>fun _ _ _ _=>trivial))) (fun w E R Q r=>Blk.fr Q.2 r (fun h=>by have h:k=τ.g:=h;omega)) fun⟨a,s⟩=>?_
 refine xr 0 [yJ 2 0,eS1 3 (some ⟨k,0,none⟩) 4 4,yJ 5 (a:Int)] [] ?_
 refine xqk 6 (atA (some ⟨k,0,none⟩) (a*1)) (fun w R Q=>wT (t:=22) (e:=3) (sz:=1) (x:=.tmp 3) (ix:=.tmp 5) (len:=4) (cap:=4) (i:=a) (by simp) (by omega)) ?_
 refine xqk 7 (.int .i64 (nth [1,2,3,5] a)) (fun w R Q=>kI (t:=3) (x:=.tmp 6) (zs:=[1,2,3,5]) (j:=a) (IRow.cells Q.1) (by show a<4;omega)) ?_
 refine xq 1 [yJ 2 (nth [1,2,3,5] a)] [] ?_
 refine xe (zB (zI ?_))
 refine yR (.int .i64 (nth [1,2,3,5] a)) fun w' R Q=>?_
 exact⟨_,ZnG (by omega),rfl,R,Q.2.1,trivial⟩
theorem ZkE (x y:ShQ)(p q:Rat)(d:Int)(w:World)(ha:zF w (xC x) p)(hb:zF w (xC y) q)(F:Dq p 1)(A:Dq q 1)(u0:1≤d)(v0:d≤9) :
 yA 101 #[xC x,xC y,.int .i64 d] w (fun e w'=>∃ z:Int,e=.returned (.int .i64 z)∧Ext w w'):=by
 obtain⟨s0,c,f,g,h,i,j,k⟩:=x
 obtain⟨l,m,n,o,r,s,t,u⟩:=y
 have hd:Dq ((d:Int):Rat) 1:=Dq.int (by omega) (by decide)
 refine xB (Φ:=fun w=>(zF w (.agg #[.bool s0,.slice c f g,.bool h,.slice i j k]) (p)∧zF w (.agg #[.bool l,.slice m n o,.bool r,.slice s t u]) (q))) Tryz.func101 rfl (by kernel_rfl) (fun w' hf=>⟨ha.ext hf,hb.ext hf⟩) ?_
 refine zD (zC (xq 3 [(3,.p 3 0),(4,.p 4 0),yJ 6 0] [bR4 4 127 l m n o r s t u,bR4 3 127 s0 c f g h i j k] ?_))
 refine xe (zB (zD ?_))
 refine yO 6 zK ?_
 refine xqg 1 [eR4 9 s0 c f g h i j k] ?_
 refine xqd 103 [vR4 s0 c f g h i j k] 10 (fun _:Unit=>.int .i64 p.num.sign) _ (fun w R Q=>yN (fS _ p _ Q.1)) fun xx=>?_
 refine xqg 1 [eR4 11 l m n o r s t u] ?_
 refine xqd 103 [vR4 l m n o r s t u] 12 (fun _:Unit=>.int .i64 q.num.sign) _ (fun w R Q=>yN (fS _ q _ Q.1.2)) fun xx=>?_
 refine xqg 2 [yJ 7 p.num.sign,yJ 8 q.num.sign] ?_
 refine xz (xe (zB (zD (zD (zC (xq 3 [yB 15 ((p.num.sign:Int) == 0)] [] ?_))))))
 rcases bl2 (((p.num.sign:Int) == 0)) with a|a
 ·rw[a]
  refine xq 8 [yB 23 true] [] ?_
  refine xe (zB (xa (zD (zD (zC (xq 2 [yB 25 ((p.num.sign:Int) != 0)] [] ?_))))))
  refine xe (zB ?_)
  refine yQ (((p.num.sign:Int) != 0)) (fun B=>?_) fun B=>?_
  ·refine zD (zC (xq 2 [yJ 6 p.num.sign] [] ?_))
   refine xe (zB (zI (zE (zE ?_))))
   refine yR (.int .i64 p.num.sign) fun w' R Q=>?_
   exact⟨_,rfl,R⟩
  refine zJ (zB (zD (zC (xq 2 [yJ 6 q.num.sign] [] ?_))))
  refine xe (zB (zI (zE ?_)))
  refine yR (.int .i64 q.num.sign) fun w' R Q=>?_
  exact⟨_,rfl,R⟩
 rw[a]
 refine xq 4 [yB 19 ((q.num.sign:Int) == 0)] [] ?_
 rcases bl2 (((q.num.sign:Int) == 0)) with b|b
 ·rw[b]
  refine xq 4 [yB 23 true] [] ?_
  refine xe (zB (xa (zD (zD (zC (xq 2 [yB 25 ((p.num.sign:Int) != 0)] [] ?_))))))
  refine xe (zB ?_)
  refine yQ (((p.num.sign:Int) != 0)) (fun C=>?_) fun C=>?_
  ·refine zD (zC (xq 2 [yJ 6 p.num.sign] [] ?_))
   refine xe (zB (zI (zE (zE ?_))))
   refine yR (.int .i64 p.num.sign) fun w' R Q=>?_
   exact⟨_,rfl,R⟩
  refine zJ (zB (zD (zC (xq 2 [yJ 6 q.num.sign] [] ?_))))
  refine xe (zB (zI (zE ?_)))
  refine yR (.int .i64 q.num.sign) fun w' R Q=>?_
  exact⟨_,rfl,R⟩
 rw[b]
 refine xq 4 [yB 23 ((p.num.sign:Int) == q.num.sign)] [] ?_
 refine xe (zB ?_)
 refine yQ (((p.num.sign:Int) == q.num.sign)) (fun D=>?_) fun D=>?_
 ·refine zD (zD (zC (xq 2 [yB 25 ((p.num.sign:Int) != 0)] [] ?_)))
  refine xe (zB ?_)
  refine yQ (((p.num.sign:Int) != 0)) (fun E=>?_) fun E=>?_
  ·refine zD (zC (xq 2 [yJ 6 p.num.sign] [] ?_))
   refine xe (zB (zI (zE (zE ?_))))
   refine yR (.int .i64 p.num.sign) fun w' R Q=>?_
   exact⟨_,rfl,R⟩
  refine zJ (zB (zD (zC (xq 2 [yJ 6 q.num.sign] [] ?_))))
  refine xe (zB (zI (zE ?_)))
  refine yR (.int .i64 q.num.sign) fun w' R Q=>?_
  exact⟨_,rfl,R⟩
 refine zJ (zB (zD ?_))
 refine yO 13 zK ?_
 refine xqg 3 [yJ 28 p.num.sign,eR4 29 s0 c f g h i j k,eR4 30 s0 c f g h i j k] ?_
 refine xqd 183 [vR4 s0 c f g h i j k,vR4 s0 c f g h i j k] 31 xC _ (fun w R Q=>yM wW (Zcn _ _ p p _ Q.1.1.1 Q.1.1.1 (Dq.rfit (F) (by decide)) (Dq.rfit (F) (by decide)))) fun⟨G,H,I,J,K,L,M,N⟩=>?_
 refine xqg 1 [yJ 32 d] ?_
 refine xqd 99 [.int .i64 d] 33 xC _ (fun w R Q=>yM wW (Zhc d _ (by omega) (by omega))) fun⟨O,P,S,T,U,V,W,X⟩=>?_
 refine xqg 2 [eR4 34 l m n o r s t u,eR4 35 l m n o r s t u] ?_
 refine xqd 183 [vR4 l m n o r s t u,vR4 l m n o r s t u] 36 xC _ (fun w R Q=>yM wW (Zcn _ _ q q _ Q.1.1.1.1.2 Q.1.1.1.1.2 (Dq.rfit (A) (by decide)) (Dq.rfit (A) (by decide)))) fun⟨Y,Z,a0,b0,e0,f0,g0,h0⟩=>?_
 refine xqd 183 [vR4 O P S T U V W X,vR4 Y Z a0 b0 e0 f0 g0 h0] 37 xC _ (fun w R Q=>yM wW (Zcn _ _ ((d:Int):Rat) (q*q) _ Q.1.2 Q.2 (Dq.rfit (hd) (by decide)) (Dq.rfit (A.mul A) (by decide)))) fun⟨i0,j0,k0,n0,o0,p0,q0,r0⟩=>?_
 refine xqd 182 [vR4 G H I J K L M N,vR4 i0 j0 k0 n0 o0 p0 q0 r0] 38 (fun _:Unit=>.int .i64 ((p*p)-(((d:Int):Rat)*(q*q))).num.sign) _ (fun w R Q=>yN (Zkn _ _ (p*p) (((d:Int):Rat)*(q*q)) _ Q.1.1.1.2 Q.2 (Dq.rfit (F.mul F) (by decide)) (Dq.rfit (hd.mul (A.mul A)) (by decide)))) fun xx=>?_
 refine xqg 2 [(6,.v (.int .i64 (IntKind.i64.wrap (p.num.sign*((p*p)-(((d:Int):Rat)*(q*q))).num.sign))))] ?_
 refine xz (xe (zB (zI ?_)))
 refine yR (.int .i64 (IntKind.i64.wrap (p.num.sign*((p*p)-(((d:Int):Rat)*(q*q))).num.sign))) fun w' R Q=>?_
 exact⟨_,rfl,R⟩
theorem ZhV (τ:Tap)(wl w:World)(hO:TOld wl τ)(h0:Ext wl w)(hT:TOk τ w)(d:Int)(i0:1≤d)(j0:d≤9) :
 yA 41 #[.pointer (some ⟨τ.g,0,none⟩),.int .i64 d] w (RetT τ (fun x:ShQ×Rat × ShQ×Rat=>.tuple #[xC x.1,xC x.2.2.1]) (fun x=>Dq x.2.1 1∧Dq x.2.2.2 1∧(x.2.2.2=0∨d≠1)) (fun x w=>zF w (xC x.1) x.2.1∧zF w (xC x.2.2.1) x.2.2.2) w):=by
 refine lW (fun i=>i=τ.g) (Φ:=fun w=>TOk τ w) Tryz.func41 rfl (by kernel_rfl) (fun w' hf=>hT.ext hf) ?_
 refine zD (zC (xq 2 [(4,.p 4 0),(5,.p 5 0)] [bR4 5 127 false none 0 0 false none 0 0,bR4 4 127 false none 0 0 false none 0 0] ?_))
 refine xe (zB (zD (zC (xq 1 [(8,.v (.pointer (some ⟨τ.g,0,none⟩)))] [] ?_))))
 refine wJ (b:=τ.g) (d:=9) (j:=0) (c:=.slice τ.A τ.l τ.c) 24 [.pointer (some ⟨τ.g,0,none⟩),.int .i64 5] (fun x:{x:Nat // (fun v=>(v:Int)<5) x}=>(fun v=>.int .i64 (v:Int)) x.1) (fun w=>True) (fun x w=>TOk τ w∧(fun _ _=>True) x.1 w) (fun w Q=>TOk.cell Q) (Or.inr rfl) (fun w R Q=>(lQ τ wl (5) _ hO (hO.old h0 R) Q (by decide) (by decide)).mono (fun _ _ h=>wQ h (fun x H h=>fun _ _ _ _=>trivial))) (fun w w2 R Q H=>trivial) fun⟨r,e0⟩=>?_
 refine xr 0 [(0,.v (.pointer (some ⟨τ.g,0,none⟩))),yJ 1 d,(4,.p 4 0),(5,.p 5 0),yJ 9 (r:Int)] [bR4 5 127 false none 0 0 false none 0 0,bR4 4 127 false none 0 0 false none 0 0] ?_
 refine xqc 99 [.int .i64 (r:Int)] 10 xC _ (fun w R Q=>yM wW (Zhc (r:Int) _ (by omega) (by omega))) fun⟨a,e,f,k,m,n,o,q⟩=>?_
 refine xq 2 [(6,.p 6 0)] [bR4 6 127 a e f k m n o q] ?_
 refine xe (zB (zD (zD (zC (xq 3 [yB 13 ((d:Int) == 1)] [] ?_)))))
 rcases bl2 (((d:Int) == 1)) with F|F
 ·rw[F]
  have a0:d=1:=by simpa using F
  refine xq 4 [yB 17 true] [] ?_
  refine xe (zB (xa (zD (zC (xq 4 [] [bR4 4 127 a e f k m n o q] ?_)))))
  refine xe (zB (zI (zE ?_)))
  refine yR (.tuple #[.agg #[.bool a,.slice e f k,.bool m,.slice n o q],.agg #[.bool false,.slice none 0 0,.bool false,.slice none 0 0]]) fun w' R Q=>?_
  exact⟨((a,e,f,k,m,n,o,q),(((r:Int):Int):Rat),(false,none,0,0,false,none,0,0),0),by refine⟨Dq.int (by omega) (by decide),Dq.zero (by decide),?_⟩;first|exact Or.inl rfl|exact Or.inr (by omega),rfl,R,Q.1.2.1,Q.2,(zF.nil _)⟩
 rw[F]
 have a0:d≠1:=by simpa using F
 refine xq 1 [(14,.v (.pointer (some ⟨τ.g,0,none⟩)))] [] ?_
 refine wJ (b:=τ.g) (d:=15) (j:=0) (c:=.slice τ.A τ.l τ.c) 24 [.pointer (some ⟨τ.g,0,none⟩),.int .i64 2] (fun x:{x:Nat // (fun v=>(v:Int)<2) x}=>(fun v=>.int .i64 (v:Int)) x.1) (fun w=>zF w (.agg #[.bool a,.slice e f k,.bool m,.slice n o q]) ((((r:Int):Int):Rat))) (fun x w=>TOk τ w∧(fun _ _=>True) x.1 w) (fun w Q=>TOk.cell Q.1.2.1) (Or.inr rfl) (fun w R Q=>(lQ τ wl (2) _ hO (hO.old h0 R) Q.1.2.1 (by decide) (by decide)).mono (fun _ _ h=>wQ h (fun x H h=>fun _ _ _ _=>trivial))) (fun w w2 R Q H=>zF.tape Q.2 Q.1.2.1 H) fun⟨b0,f0⟩=>?_
 refine xr 2 [(0,.v (.pointer (some ⟨τ.g,0,none⟩))),yJ 1 d,(4,.p 4 0),(5,.p 5 0),(6,.p 6 0),yB 17 (((b0:Int):Int) == 0)] [bR4 6 127 a e f k m n o q,bR4 5 127 false none 0 0 false none 0 0,bR4 4 127 false none 0 0 false none 0 0] ?_
 refine xe (zB ?_)
 refine yQ ((((b0:Int):Int) == 0)) (fun c0=>?_) fun c0=>?_
 ·refine zD (zC (xq 4 [] [bR4 4 127 a e f k m n o q] ?_))
  refine xe (zB (zI (zE ?_)))
  refine yR (.tuple #[.agg #[.bool a,.slice e f k,.bool m,.slice n o q],.agg #[.bool false,.slice none 0 0,.bool false,.slice none 0 0]]) fun w' R Q=>?_
  exact⟨((a,e,f,k,m,n,o,q),(((r:Int):Int):Rat),(false,none,0,0,false,none,0,0),0),by refine⟨Dq.int (by omega) (by decide),Dq.zero (by decide),?_⟩;first|exact Or.inl rfl|exact Or.inr (by omega),rfl,R,Q.2.1,Q.1,(zF.nil _)⟩
 refine zJ (zB (zD (zC (xq 1 [(20,.v (.pointer (some ⟨τ.g,0,none⟩)))] [] ?_))))
 refine wJ (b:=τ.g) (d:=21) (j:=0) (c:=.slice τ.A τ.l τ.c) 100 [.pointer (some ⟨τ.g,0,none⟩),.int .i64 2] (fun x:{x:ShQ×Int // (fun x => -2≤x.2∧x.2≤2) x}=>(fun x=>xC x.1) x.1) (fun w=>zF w (.agg #[.bool a,.slice e f k,.bool m,.slice n o q]) ((((r:Int):Int):Rat))) (fun x w=>TOk τ w∧(fun x w=>zF w (xC x.1) ((x.2:Int):Rat)) x.1 w) (fun w Q=>TOk.cell Q.2.1) (Or.inr rfl) (fun w R Q=>(Zjp τ wl _ hO (hO.old h0 R) Q.2.1 2 (by decide) (by decide)).mono (fun _ _ h=>wQ h (fun x H h=>h.boxT H))) (fun w w2 R Q H=>zF.tape Q.1 Q.2.1 H) fun xx=>?_
 obtain⟨⟨⟨s,t,u,y,B,C,D,E⟩,G⟩,g0⟩:=xx
 refine xr 2 [yJ 1 d,(4,.p 4 0),(5,.p 5 0),(6,.p 6 0),(7,.p 7 0)] [bR4 7 127 s t u y B C D E,bR4 6 127 a e f k m n o q,bR4 5 127 false none 0 0 false none 0 0,bR4 4 127 false none 0 0 false none 0 0] ?_
 refine xe (zB (zD (zD (zC (xq 3 [eR4 22 a e f k m n o q,eR4 23 s t u y B C D E,yJ 24 d] [] ?_)))))
 refine xqc 101 [vR4 a e f k m n o q,vR4 s t u y B C D E,.int .i64 d] 25 (fun z:Int=>.int .i64 z) _ (fun w R Q=>yM ZnH (ZkE (a,e,f,k,m,n,o,q) (s,t,u,y,B,C,D,E) (((r:Int):Int):Rat) ((G:Int):Rat) d _ Q.1 Q.2.2 (Dq.int (by omega) (by decide)) (Dq.int (by omega) (by decide)) (by omega) (by omega))) fun zs=>?_
 refine xq 1 [yB 26 (decide (zs<0))] [] ?_
 refine xe (zB ?_)
 refine yQ ((decide (zs<0))) (fun d0=>?_) fun d0=>?_
 ·refine zD ?_
  refine yO 6 zK ?_
  refine xqg 1 [eR4 27 a e f k m n o q] ?_
  refine xqd 102 [vR4 a e f k m n o q] 28 xC _ (fun w R Q=>yM wW (Zcm _ (((r:Int):Int):Rat) _ Q.1.1)) fun⟨I,J,K,L,M,N,O,P⟩=>?_
  refine xqg 1 [eR4 29 s t u y B C D E] ?_
  refine xqd 102 [vR4 s t u y B C D E] 30 xC _ (fun w R Q=>yM wW (Zcm _ ((G:Int):Rat) _ Q.1.1.2.2)) fun⟨S,T,U,V,W,X,Y,Z⟩=>?_
  refine xqf 2 [] [bR4 5 127 S T U V W X Y Z,bR4 4 127 I J K L M N O P,bR4 7 127 s t u y B C D E,bR4 6 127 a e f k m n o q,bR4 5 127 false none 0 0 false none 0 0,bR4 4 127 false none 0 0 false none 0 0] ?_
  refine xz (xe (zB (zI (zE ?_))))
  refine yR (.tuple #[.agg #[.bool I,.slice J K L,.bool M,.slice N O P],.agg #[.bool S,.slice T U V,.bool W,.slice X Y Z]]) fun w' R Q=>?_
  exact⟨((I,J,K,L,M,N,O,P),(-(((r:Int):Int):Rat)),(S,T,U,V,W,X,Y,Z),(-((G:Int):Rat))),by refine⟨(Dq.int (by omega) (by decide)).neg,(Dq.int (by omega) (by decide)).neg,?_⟩;first|exact Or.inl rfl|exact Or.inr (by omega),rfl,R,Q.1.1.1.2.1,Q.1.2,Q.2⟩
 refine zJ (zB (zD ?_))
 refine yO 4 zK ?_
 refine xqf 4 [] [bR4 5 127 s t u y B C D E,bR4 4 127 a e f k m n o q,bR4 7 127 s t u y B C D E,bR4 6 127 a e f k m n o q,bR4 5 127 false none 0 0 false none 0 0,bR4 4 127 false none 0 0 false none 0 0] ?_
 refine xz (xe (zB (zI ?_)))
 refine yR (.tuple #[.agg #[.bool a,.slice e f k,.bool m,.slice n o q],.agg #[.bool s,.slice t u y,.bool B,.slice C D E]]) fun w' R Q=>?_
 exact⟨((a,e,f,k,m,n,o,q),(((r:Int):Int):Rat),(s,t,u,y,B,C,D,E),((G:Int):Rat)),by refine⟨Dq.int (by omega) (by decide),Dq.int (by omega) (by decide),?_⟩;first|exact Or.inl rfl|exact Or.inr (by omega),rfl,R,Q.1.2.1,Q.1.1,Q.1.2.2⟩
end Go.Proofs.YtoanifijmlgcgaaGreatDoor
