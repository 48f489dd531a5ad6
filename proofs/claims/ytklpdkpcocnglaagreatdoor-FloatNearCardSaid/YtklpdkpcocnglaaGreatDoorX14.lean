/-
 My texts Gen, Nr, Ng, FlM, FlS, FlN, FlR, FlQ, Rn0, Small, Rat2 put together.
-/
import Derived.Test.YtklpdkpcocnglaaGreatDoorX13
import Derived.Test.YtklpdkpcocnglaaGreatDoorX10
import Derived.Test.YtklpdkpcocnglaaGreatDoorX11
import Derived.Test.YtklpdkpcocnglaaGreatDoorX07
import Derived.Outline
set_option maxRecDepth 100000
set_option maxHeartbeats 8000000
namespace Go.Proofs.YtklpdkpcocnglaaGreatDoor
open Go.RowKit
theorem zL:Tryz.prog.follows .mixedOrders=true:=by kernel_rfl
def Zgk (cs:Array Value):Prop:=∀ (i:Nat) (k:IntKind) (z:Int),cs[i]? = some (.int k z)→k=.i64
theorem kO {s:Bool}{A:Option Addr}{l c:Nat}:Zgk #[.bool s,.slice A l c]:=by
 intro i k z;rcases i with _|_|i<;>simp
theorem zF.other {k:IntKind}{t:TypeId}{w w':World}{r:Nat}{A:Option Addr}{xs:List Nat}{cs:Array Value}(h:zF k w A xs)(d:k≠.i64)(f:Blk t w r cs)(j:Zgk cs)(l:Fr (fun i=>i=r) w w'):zF k w' A xs:=by
 cases xs with
 | nil=>exact zF.nil
 | cons x xs =>
  refine h.fr l (fun q c m e=>?_)
  obtain⟨g,off,n,_,b⟩:=h.at (i:=0) (by simp)
  rw[n] at c
  injection c with c
  subst c
  simp at e
  subst e
  rw[f.cell] at b
  exact d (j _ _ _ b)
theorem zS.oth {t:TypeId}{w w':World}{r n:Nat}{u:Value}{cs:Array Value}(h:zS w u n)(b:Blk t w r cs)(c:Zgk cs)(d:Fr (fun i=>i=r) w w'):zS w' u n:=by
 obtain⟨e,f,j,k,l,m,q⟩:=h
 exact⟨e,f,j,k,l,m.other (by decide) b c d,q⟩
theorem zZ.oth {t:TypeId}{w w':World}{r:Nat}{v:Value}{z:Int}{cs:Array Value}(h:zZ w v z)(b:Blk t w r cs)(c:Zgk cs)(d:Fr (fun i=>i=r) w w'):zZ w' v z:=by
 obtain⟨e,u,n,f,j,k⟩:=h
 exact⟨e,u,n,f,j.oth b c d,k⟩
theorem zZ.shp {w:World}{v:Value}{z:Int}(h:zZ w v z):∃ (s:Bool) (A:Option Addr) (l c:Nat),v=.agg #[.bool s,.slice A l c]:=by
 obtain⟨s,A,l,c,h,_⟩:=h.open
 exact⟨s,A,l,c,h⟩
theorem fJ.shp {w:World}{v:Value}{z:Int}(h:fJ w v z):∃ (s:Bool) (A:Option Addr) (l c:Nat),v=.agg #[.bool s,.slice A l c]:=h.shape
theorem zZ.nil (w:World):zZ w (.agg #[.bool false,.slice none 0 0]) 0:=⟨false,_,0,rfl,zS.zero w,fun _=>rfl,rfl⟩
theorem Zjt {a b c d e f i d':Value}(h:Value.agg #[a,b,c,d]=.agg #[e,f,i,d']):a=e∧b=f∧c=i∧d=d':=by
 injection h with h
 simpa using h
def zT (w:World) (v:Value) (q:Rat):Prop:=∃ (s t:Bool) (A B:Option Addr) (l c l' c':Nat),v=.agg #[.bool s,.slice A l c,.bool t,.slice B l' c']∧zZ w (.agg #[.bool s,.slice A l c]) q.num∧zZ w (.agg #[.bool t,.slice B l' c']) (denF q)
theorem zT.ext {w w':World}{v:Value}{q:Rat}(h:zT w v q)(b:Ext w w'):zT w' v q:=by
 obtain⟨s,t,A,B,l,c,d,e,f,i,j⟩:=h
 exact⟨s,t,A,B,l,c,d,e,f,i.ext b,j.ext b⟩
theorem zT.oth {t:TypeId}{w w':World}{r:Nat}{v:Value}{q:Rat}{cs:Array Value}(h:zT w v q)(b:Blk t w r cs)(d:Zgk cs)(e:Fr (fun i=>i=r) w w'):zT w' v q:=by
 obtain⟨s,t,A,B,l,c,f,j,k,m,n⟩:=h
 exact⟨s,t,A,B,l,c,f,j,k,m.oth b d e,n.oth b d e⟩
theorem zT.shp {w:World}{v:Value}{q:Rat}(h:zT w v q):∃ (s:Bool) (A:Option Addr) (l c:Nat) (t:Bool) (B:Option Addr) (b d:Nat),v=.agg #[.bool s,.slice A l c,.bool t,.slice B b d]:=by
 obtain⟨s,t,A,B,l,c,b,d,h,_⟩:=h
 exact⟨s,A,l,c,t,B,b,d,h⟩
theorem zT.num {w:World}{a b c d:Value}{q:Rat}(h:zT w (.agg #[a,b,c,d]) q):zZ w (.agg #[a,b]) q.num:=by
 obtain⟨s,t,A,B,l,c,f,i,h,e,j⟩:=h
 obtain⟨rfl,rfl,rfl,rfl⟩:=Zjt h
 exact e
theorem zT.den {w:World}{a b c d:Value}{q:Rat}(h:zT w (.agg #[a,b,c,d]) q):zZ w (.agg #[c,d]) (denF q):=by
 obtain⟨s,t,A,B,l,c,f,i,h,j,e⟩:=h
 obtain⟨rfl,rfl,rfl,rfl⟩:=Zjt h
 exact e
theorem zT.of {w:World}{s t:Bool}{A B:Option Addr}{l c b d:Nat}{q:Rat}(e:zZ w (.agg #[.bool s,.slice A l c]) q.num)(f:zZ w (.agg #[.bool t,.slice B b d]) (denF q)):zT w (.agg #[.bool s,.slice A l c,.bool t,.slice B b d]) q :=
 ⟨_,_,_,_,_,_,_,_,rfl,e,f⟩
def wM (w:World) (q:Rat) (e:Ending) (w':World):Prop:=∃ v,e=.returned v∧zT w' v q∧Ext w w'
theorem zT.nil (w:World):zT w (.agg #[.bool false,.slice none 0 0,.bool false,.slice none 0 0]) 0:=⟨_,_,_,_,_,_,_,_,rfl,zZ.nil w,zZ.nil w⟩
theorem fC {t0:TypeId}{w wb:World}{c0:Array Value}(h:w.alloc (.cells c0 t0)=wb):Blk t0 wb w.heap.size c0∧Ext w wb:=by
 subst h;exact⟨Blk.new _ _ _,(Fr.refl _ _).alloc _⟩
theorem ZeK {t0 t1:TypeId}{w wb:World}{c0 c1:Array Value}(h:(w.alloc (.cells c0 t0)).alloc (.cells c1 t1)=wb):Blk t0 wb w.heap.size c0∧Blk t1 wb (w.heap.size+1) c1∧Ext w wb:=by
 obtain⟨d,f⟩:=fC (w:=w) (c0:=c0) (t0:=t0) rfl
 have e:(w.alloc (.cells c0 t0)).heap.size=w.heap.size+1:=by simp
 obtain⟨b,c⟩:=fC h
 rw[e] at b
 exact⟨d.ext c,b,f.trans c⟩
theorem Zlt {t0 t1 t2:TypeId}{w wb:World}{c0 c1 c2:Array Value}(h:((w.alloc (.cells c0 t0)).alloc (.cells c1 t1)).alloc (.cells c2 t2)=wb):Blk t0 wb w.heap.size c0∧Blk t1 wb (w.heap.size+1) c1∧Blk t2 wb (w.heap.size+1+1) c2∧Ext w wb:=by
 obtain⟨d,f,i⟩:=ZeK (w:=w) (c0:=c0) (t0:=t0) (c1:=c1) (t1:=t1) rfl
 have e:((w.alloc (.cells c0 t0)).alloc (.cells c1 t1)).heap.size=w.heap.size+1+1:=by simp
 obtain⟨c,b⟩:=fC h
 rw[e] at c
 exact⟨d.ext b,f.ext b,c,i.trans b⟩
theorem Zqo {t0 t1 t2 t3:TypeId}{w wb:World}{c0 c1 c2 c:Array Value}(h:(((w.alloc (.cells c0 t0)).alloc (.cells c1 t1)).alloc (.cells c2 t2)).alloc (.cells c t3)=wb):Blk t0 wb w.heap.size c0∧Blk t1 wb (w.heap.size+1) c1∧Blk t2 wb (w.heap.size+1+1) c2∧Blk t3 wb (w.heap.size+1+1+1) c∧Ext w wb:=by
 obtain⟨f,i,j,k⟩:=Zlt (w:=w) (c0:=c0) (t0:=t0) (c1:=c1) (t1:=t1) (c2:=c2) (t2:=t2) rfl
 have e:(((w.alloc (.cells c0 t0)).alloc (.cells c1 t1)).alloc (.cells c2 t2)).heap.size=w.heap.size+1+1+1:=by simp
 obtain⟨d,b⟩:=fC h
 rw[e] at d
 exact⟨f.ext b,i.ext b,j.ext b,d,k.trans b⟩
theorem Blk.one' {t:TypeId}{w:World}{g:Nat}{cs:Array Value}{x:Value}(h:Blk t w g cs)(o:Nat)(b:cs[o]? = some x):w.cell? ⟨g,o,none⟩=some x:=(h.cell o).trans b
section
variable {ops:Array Oper} {S:World→Prop} {o:Oper} {a:Act} {p:Operand} {g off:Nat} {x y z u v:Value}
theorem ym (b:Region.wanted o (yielded ops a.tmps)=true)(c:o.op=Op.move p)(d:a.eval p=v):YieldsIf Tryz.prog ops S o v a :=
 Or.inl ⟨b,fun w _=>by simp only[execOp,c,d];simp[go_sem]⟩
theorem Zho (b:Region.wanted o (yielded ops a.tmps)=true)(c:o.op=Op.load 4 p)(d:a.eval p=.pointer (some ⟨g,off,none⟩))(e:∀ w,S w→w.cell? ⟨g,off,none⟩=some x):YieldsIf Tryz.prog ops S o x a :=
 Or.inl ⟨b,fun w f=>by
  have h:=e w f
  simp only[execOp,c,d]
  simp[go_sem,h]⟩
theorem Zda (b:Region.wanted o (yielded ops a.tmps)=true)(c:o.op=Op.fieldAddr 32 p 0)(d:a.eval p=.pointer (some ⟨g,off,none⟩)):YieldsIf Tryz.prog ops S o (.pointer (some ⟨g,off,none⟩)) a :=
 Or.inl ⟨b,fun w _=>by simp only[execOp,c,d];simp[go_sem]⟩
theorem Zo2 {b c:Bool}{q:Operand}(d:Region.wanted o (yielded ops a.tmps)=true)(e:o.op=Op.binOp .neq 4 p q 4)(f:a.eval p=.bool b)(h:a.eval q=.bool c):YieldsIf Tryz.prog ops S o (.bool (b != c)) a :=
 Or.inl ⟨d,fun w _=>by simp only[execOp,e,f,h];simp[go_sem];cases b<;>cases c<;>rfl⟩
end
theorem cJ (neg:Bool)(u:Value)(n:Nat)(w:World)(a:zS w u n):yA 61 #[.bool neg,u] w (lW w (sg neg n)):=by
 refine (jH neg u n w a).mono ?_
 rintro e d ⟨s,rfl,c,b⟩
 exact⟨_,rfl,zZ.signed (a.ext b) c.out,b⟩
theorem zZ.opn {w:World}{s:Bool}{A:Option Addr}{l c:Nat}{z:Int}(h:zZ w (.agg #[.bool s,.slice A l c]) z):zS w (.slice A l c) z.natAbs∧z=sg s z.natAbs∧(z=0→s=false):=by
 obtain⟨f,g,i,j,a,b,d,e⟩:=h.open
 injection a with a
 simp at a
 obtain⟨rfl,rfl,rfl,rfl⟩:=a
 exact⟨b,d,e⟩
theorem zZ.mag {w:World}{s:Bool}{A:Option Addr}{l c:Nat}{z:Int}(h:zZ w (.agg #[.bool s,.slice A l c]) z):zS w (.slice A l c) z.natAbs:=h.opn.1
theorem Zrr {w:World}{s:Bool}{A:Option Addr}{l c:Nat}{z:Int}(h:zZ w (.agg #[.bool s,.slice A l c]) z):sg (!s) z.natAbs = -z:=by
 obtain⟨_,a,b⟩:=h.opn
 cases s<;>simp[sg] at *<;>omega
theorem wG.neg {x:Int}(h:wG x):wG (-x):=by
 unfold wG at *;rw[Int.natAbs_neg];exact h
theorem ZeL {fn:Func}{t:Tmp}{a:Array Value}{w w':World}{r:Nat}{x y:Value}{z:Int}(b:fn.results=#[.cell t 32])(c:a[t]? = some (.pointer (some ⟨r,0,none⟩)))(d:Blk 32 w' r #[x,y])(e:zZ w' (.agg #[x,y]) z)(Q:Ext w w'):bodyPost Tryz.prog fn (lW w z) .ret ⟨a,[]⟩ w' :=
 bodyPost_ret (ZaD b _ _ r _ _ c d) rfl ⟨_,rfl,e,Q⟩
theorem zZ.sneg {w:World}{s:Bool}{A:Option Addr}{l c:Nat}{z:Int}(h:zZ w (.agg #[.bool s,.slice A l c]) z)(b:z<0):s=true:=by
 obtain⟨_,a,d⟩:=h.opn
 cases s with
 | true=>rfl
 | false=>simp[sg] at a;omega
theorem zZ.spos {w:World}{s:Bool}{A:Option Addr}{l c:Nat}{z:Int}(h:zZ w (.agg #[.bool s,.slice A l c]) z)(d:0≤z):s=false:=by
 obtain⟨_,a,b⟩:=h.opn
 cases s with
 | false=>rfl
 | true=>simp[sg] at a;exact b (by omega)
theorem zZ.len0 {w:World}{s:Bool}{A:Option Addr}{l c:Nat}{z:Int}(h:zZ w (.agg #[.bool s,.slice A l c]) z)(d:z=0):l=0:=by
 obtain⟨e,_,_⟩:=h.opn
 obtain⟨g,i,j,a,_,_,k,f,b⟩:=e
 injection a with _ a
 rw[d] at b
 have:=Ziv f zY b
 rw[this] at a
 simpa using a
theorem zZ.lenp {w:World}{s:Bool}{A:Option Addr}{l c:Nat}{z:Int}(h:zZ w (.agg #[.bool s,.slice A l c]) z)(g:z≠0):0<l:=by
 obtain⟨d,_,_⟩:=h.opn
 obtain⟨i,f,j,a,_,_,k,m,b⟩:=d
 injection a with _ a
 rcases uI l with e|e
 ·rw[e] at a
  have:f=[]:=tI.1 a.symm
  rw[this] at b
  simp at b
  omega
 exact e
theorem zZ.quo {w:World}{s t:Bool}{A B:Option Addr}{l c a b:Nat}{x y:Int}(h:zZ w (.agg #[.bool s,.slice A l c]) x)(k:zZ w (.agg #[.bool t,.slice B a b]) y):sg (s != t) (x.natAbs/y.natAbs)=x.tdiv y∧sg s (x.natAbs%y.natAbs)=x.tmod y:=by
 obtain⟨_,d,f⟩:=h.opn
 obtain⟨_,e,g⟩:=k.opn
 generalize x.natAbs=m at *
 generalize y.natAbs=n at *
 subst d e
 cases s<;>cases t<;>simp[sg,Int.neg_tdiv,Int.tdiv_neg,Int.neg_tmod,Int.tmod_neg]<;>exact (tM (by omega)).symm
def Zhp (w:World) (q r:Int) (e:Ending) (w':World):Prop:=∃ u v,e=.returned (.tuple #[u,v])∧zZ w' u q∧zZ w' v r∧Ext w w'
theorem Zo9 {fn:Func}{t h:Tmp}{a:Array Value}{w w':World}{r i:Nat}{x y c d:Value}{z z':Int}(b:fn.results=#[.cell t 32,.cell h 32])(j:a[t]? = some (.pointer (some ⟨r,0,none⟩)))(e:a[h]? = some (.pointer (some ⟨i,0,none⟩)))(k:Blk 32 w' r #[x,y])(f:Blk 32 w' i #[c,d])(l:zZ w' (.agg #[x,y]) z)(g:zZ w' (.agg #[c,d]) z')(Q:Ext w w'):bodyPost Tryz.prog fn (Zhp w z z') .ret ⟨a,[]⟩ w':=by
 obtain⟨m,n,_⟩:=k.cell2
 obtain⟨o,p,_⟩:=f.cell2
 exact bodyPost_ret (v:=.tuple #[.agg #[x,y],.agg #[c,d]]) (by simp[results,b,j,e,go_sem,m,n,o,p]) rfl ⟨_,_,rfl,l,g,Q⟩
theorem Zar {q:Rat}(h:¬ q.den=1):denF q≠0:=by rw[fV h];have:=q.den_nz;omega
theorem ZfE (a:Value)(x:Int)(w:World)(ha:zZ w a x) :
 yA 68 #[a] w (lW w (-x)):=by
 obtain⟨A,C,D,E,rfl⟩:=ha.shp
 have F2:Hid (zZ w (.agg #[.bool A,.slice C D E]) (x)):=ha
 clear ha
 have F:=zh (Zrr F2.out)
 go_enter Tryz.func68,Tryz.ntmps68
 go_wp2_with fail
 generalize s:World.alloc (World.alloc w _) _=w5
 obtain⟨d,f,g⟩:=ZeK s
 clear s
 have B3:=zh d
 have B4:=zh f
 clear d f
 replace F2:=zh (F2.out.ext g)
 have HE:=zh g
 clear g
 have F6:Hid (zS w5 (.slice C D E) ((x).natAbs)):=F2.out.mag
 refine (cJ ((!A)) _ _ _ F6.out).mono ?_
 rintro e t ⟨_,rfl,B,r⟩
 obtain⟨u,v,y,z,rfl⟩:=B.shp
 replace B3:=zh (B3.out.ext r)
 replace B4:=zh (B4.out.ext r)
 replace F2:=zh (F2.out.ext r)
 replace F6:=zh (F6.out.ext r)
 replace HE:=zh (HE.out.trans r)
 have F9:Hid (zZ t (.agg #[.bool u,.slice v y z]) (sg ((!A)) ((x).natAbs))):=B
 clear r B
 obtain⟨h,j,k,l⟩:=B3.out.cell2
 obtain⟨m,n,o,q⟩:=B4.out.cell2
 go_wp2
 clear h j k l m n o q
 have b:Fr (fun i=>i=(w.heap.size+1)) t ((t.setCell ⟨(w.heap.size+1),0,none⟩ (.bool u)).setCell ⟨(w.heap.size+1),1,none⟩ (.slice v y z)):=(((Fr.refl (fun i=>i=(w.heap.size+1)) _).setCell (p:=⟨(w.heap.size+1),0,none⟩) (Or.inl rfl) _).setCell (p:=⟨(w.heap.size+1),1,none⟩) (Or.inl rfl) _)
 replace F2:=zh (F2.out.oth B4.out kO b)
 replace F6:=zh (F6.out.oth B4.out kO b)
 replace F9:=zh (F9.out.oth B4.out kO b)
 replace B3:=zh (B3.out.fr b (by first|omega | (have:=B3.out.lt;have:=B4.out.lt;omega)))
 replace HE:=zh (HE.out.next b (fun i G e=>by first|omega | (have:=HE.out.size;have:=B4.out.lt;omega)))
 have c:Blk 32 ((t.setCell ⟨(w.heap.size+1),0,none⟩ (.bool u)).setCell ⟨(w.heap.size+1),1,none⟩ (.slice v y z)) (w.heap.size+1) #[.bool u,.slice v y z]:=((B4.out.set_ 0 _).set_ 1 _)
 generalize ((t.setCell ⟨(w.heap.size+1),0,none⟩ (.bool u)).setCell ⟨(w.heap.size+1),1,none⟩ (.slice v y z))=w12 at *
 replace B4:=zh c;clear c b
 exact ZeL rfl rfl B4.out (by have:=F9.out;rw[F.out] at this;exact this) HE.out
theorem Znt (a:Value)(x:Int)(w:World)(ha:zZ w a x)(e:x<0) :
 yA 62 #[a] w (RetV w (.int .i64 (-1))):=by
 obtain⟨f,g,h,i,rfl⟩:=ha.shp
 have F2:Hid (zZ w (.agg #[.bool f,.slice g h i]) (x)):=ha
 clear ha
 obtain rfl:f=true:=F2.out.sneg e
 clear e
 go_enter Tryz.func62,Tryz.ntmps62
 go_wp2
 generalize d:World.alloc w _=w4
 obtain⟨b,c⟩:=fC d
 clear d
 have k:=zh b
 clear b
 replace F2:=zh (F2.out.ext c)
 have j:=zh c
 clear c
 go_ret
 exact⟨rfl,j.out⟩
theorem Zmm (a:Value)(x:Int)(w:World)(ha:zZ w a x)(e:x=0) :
 yA 62 #[a] w (RetV w (.int .i64 (0))):=by
 obtain⟨f,h,g,i,rfl⟩:=ha.shp
 have F2:Hid (zZ w (.agg #[.bool f,.slice h g i]) (x)):=ha
 clear ha
 obtain rfl:f=false:=F2.out.spos (by omega)
 obtain rfl:g=0:=F2.out.len0 e
 clear e
 go_enter Tryz.func62,Tryz.ntmps62
 go_wp2
 generalize d:World.alloc w _=w4
 obtain⟨b,c⟩:=fC d
 clear d
 have k:=zh b
 clear b
 replace F2:=zh (F2.out.ext c)
 have j:=zh c
 clear c
 go_ret
 exact⟨rfl,j.out⟩
theorem Znu (a:Value)(x:Int)(w:World)(ha:zZ w a x)(g:0<x) :
 yA 62 #[a] w (RetV w (.int .i64 (1))):=by
 obtain⟨e,h,f,i,rfl⟩:=ha.shp
 have F2:Hid (zZ w (.agg #[.bool e,.slice h f i]) (x)):=ha
 clear ha
 obtain rfl:e=false:=F2.out.spos (by omega)
 have k:((f:Int) == 0)=false:=by have:=F2.out.lenp (by omega);simp;omega
 clear g
 go_enter Tryz.func62,Tryz.ntmps62
 go_wp2
 generalize d:World.alloc w _=w4
 obtain⟨b,c⟩:=fC d
 clear d
 have l:=zh b
 clear b
 replace F2:=zh (F2.out.ext c)
 have j:=zh c
 clear c
 go_ret
 exact⟨rfl,j.out⟩
theorem Zd6 (a:Value)(x:Int)(w:World)(ha:zZ w a x):yA 62 #[a] w (RetV w (.int .i64 x.sign)):=by
 rcases qH x 0 with h|h|h
 ·rw[qC h];exact Znt a x w ha h
 ·rw[h,Int.sign_zero];exact Zmm a x w ha h
 rw[sR h];exact Znu a x w ha h
theorem ZaE (a b:Value)(x y:Int)(w:World)(ha:zZ w a x)(hb:zZ w b y)(hx:wG x)(hy:wG y)(h0:y≠0) :
 yA 70 #[a,b] w (Zhp w (x.tdiv y) (x.tmod y)):=by
 obtain⟨o,A1,l1,c1,rfl⟩:=ha.shp
 have F2:Hid (zZ w (.agg #[.bool o,.slice A1 l1 c1]) (x)):=ha
 clear ha
 obtain⟨C,A3,l3,c3,rfl⟩:=hb.shp
 have F4:Hid (zZ w (.agg #[.bool C,.slice A3 l3 c3]) (y)):=hb
 clear hb
 have Hx:Hid (ml x.natAbs≤17592186044416):=hx
 have Hy:Hid (ml y.natAbs≤17592186044416):=hy
 have H0:Hid (0<y.natAbs):=by unfold Hid;omega
 have HQ:=zh (F2.out.quo F4.out)
 clear hx hy h0
 go_enter Tryz.func70,Tryz.ntmps70
 go_wp2_with fail
 generalize x0:World.alloc (World.alloc (World.alloc (World.alloc w _) _) _) _=w9
 obtain⟨E,F,G,H,D⟩:=Zqo x0
 clear x0
 have B5:=zh E
 have B6:=zh F
 have B7:=zh G
 have B8:=zh H
 clear E F G H
 replace F2:=zh (F2.out.ext D)
 replace F4:=zh (F4.out.ext D)
 have HE:=zh D
 clear D
 have F10:Hid (zS w9 (.slice A1 l1 c1) ((x).natAbs)):=F2.out.mag
 have F11:Hid (zS w9 (.slice A3 l3 c3) ((y).natAbs)):=F4.out.mag
 refine (Zgl _ _ ((x).natAbs) ((y).natAbs) _ F10.out F11.out Hx.out Hy.out H0.out).mono ?_
 rintro e P ⟨_,_,rfl,hq,hr,f⟩
 obtain⟨I,J,L,rfl⟩:=hq.slice
 obtain⟨M,N,O,rfl⟩:=hr.slice
 replace B5:=zh (B5.out.ext f)
 replace B6:=zh (B6.out.ext f)
 replace B7:=zh (B7.out.ext f)
 replace B8:=zh (B8.out.ext f)
 replace F2:=zh (F2.out.ext f)
 replace F4:=zh (F4.out.ext f)
 replace F10:=zh (F10.out.ext f)
 replace F11:=zh (F11.out.ext f)
 replace HE:=zh (HE.out.trans f)
 have F14:Hid (zS P (.slice I J L) (((x).natAbs)/((y).natAbs))):=hq
 have F15:Hid (zS P (.slice M N O) (((x).natAbs)%((y).natAbs))):=hr
 clear f hq hr
 obtain⟨Q,R,S,T⟩:=B5.out.cell2
 obtain⟨U,V,W,X⟩:=B6.out.cell2
 obtain⟨Y,Z,a0,b0⟩:=B7.out.cell2
 obtain⟨c0,d0,e0,f0⟩:=B8.out.cell2
 go_wp2_with fail
 clear Q R S T U V W X Y Z a0 b0 c0 d0 e0 f0
 refine ZkI 11 (fun m=>Blk 32 m w.heap.size #[.bool o,.slice A1 l1 c1]∧Blk 32 m (w.heap.size+1) #[.bool C,.slice A3 l3 c3]∧Blk 32 m (w.heap.size+1+1) #[.bool false,.slice none 0 0]∧Blk 32 m (w.heap.size+1+1+1) #[.bool false,.slice none 0 0]) zL ?_
 replace B5:=zh (B5.out.ext (Fr.refl _ _).drew)
 replace B6:=zh (B6.out.ext (Fr.refl _ _).drew)
 replace B7:=zh (B7.out.ext (Fr.refl _ _).drew)
 replace B8:=zh (B8.out.ext (Fr.refl _ _).drew)
 replace F2:=zh (F2.out.ext (Fr.refl _ _).drew)
 replace F4:=zh (F4.out.ext (Fr.refl _ _).drew)
 replace F10:=zh (F10.out.ext (Fr.refl _ _).drew)
 replace F11:=zh (F11.out.ext (Fr.refl _ _).drew)
 replace F14:=zh (F14.out.ext (Fr.refl _ _).drew)
 replace F15:=zh (F15.out.ext (Fr.refl _ _).drew)
 replace HE:=zh (HE.out.trans (Fr.refl _ _).drew)
 generalize P.drew=w20 at *
 have j:=(⟨B5.out,B6.out,B7.out,B8.out⟩:(fun m=>Blk 32 m w.heap.size #[.bool o,.slice A1 l1 c1]∧Blk 32 m (w.heap.size+1) #[.bool C,.slice A3 l3 c3]∧Blk 32 m (w.heap.size+1+1) #[.bool false,.slice none 0 0]∧Blk 32 m (w.heap.size+1+1+1) #[.bool false,.slice none 0 0]) w20)
 refine eQ 0 rfl (by kernel_rfl) (fun _ _ _ h=>h) j (fun _=>Zda (g:=w.heap.size) (off:=0) rfl rfl (by kernel_rfl)) (fun j=>?_)
 refine eQ 1 rfl (by kernel_rfl) (fun _ _ _ h=>h) j (fun _=>Zho (g:=w.heap.size) (off:=0) (x:=.bool o) rfl rfl (by kernel_rfl) (fun _ h=>Blk.one' (h.1) 0 rfl)) (fun j=>?_)
 refine eQ 2 rfl (by kernel_rfl) (fun _ _ _ h=>h) j (fun _=>Zda (g:=(w.heap.size+1)) (off:=0) rfl rfl (by kernel_rfl)) (fun j=>?_)
 refine eQ 3 rfl (by kernel_rfl) (fun _ _ _ h=>h) j (fun _=>Zho (g:=(w.heap.size+1)) (off:=0) (x:=.bool C) rfl rfl (by kernel_rfl) (fun _ h=>Blk.one' (h.2.1) 0 rfl)) (fun j=>?_)
 refine eQ 4 rfl (by kernel_rfl) (fun _ _ _ h=>h) j (fun _=>Zo2 (b:=o) (c:=C) rfl rfl (by kernel_rfl) (by kernel_rfl)) (fun j=>?_)
 refine eQ 5 rfl (by kernel_rfl) (fun _ _ _ h=>h) j (fun _=>ym (v:=.slice I J L) rfl rfl (by kernel_rfl)) (fun j=>?_)
 refine eQ 7 rfl (by kernel_rfl) (fun _ _ _ h=>h) j (fun _=>Zda (g:=w.heap.size) (off:=0) rfl rfl (by kernel_rfl)) (fun j=>?_)
 refine eQ 8 rfl (by kernel_rfl) (fun _ _ _ h=>h) j (fun _=>Zho (g:=w.heap.size) (off:=0) (x:=.bool o) rfl rfl (by kernel_rfl) (fun _ h=>Blk.one' (h.1) 0 rfl)) (fun j=>?_)
 refine eQ 9 rfl (by kernel_rfl) (fun _ _ _ h=>h) j (fun _=>ym (v:=.slice M N O) rfl rfl (by kernel_rfl)) (fun j=>?_)
 refine Zjo 6 rfl (by kernel_rfl) rfl (fun K hK=>?_)
 go_simp
 clear j
 refine (cJ ((o != C)) _ _ _ F14.out).mono ?_
 rintro e y0 ⟨_,rfl,hI,f⟩
 obtain⟨q,r,s,t,rfl⟩:=hI.shp
 replace B5:=zh (B5.out.ext f)
 replace B6:=zh (B6.out.ext f)
 replace B7:=zh (B7.out.ext f)
 replace B8:=zh (B8.out.ext f)
 replace F2:=zh (F2.out.ext f)
 replace F4:=zh (F4.out.ext f)
 replace F10:=zh (F10.out.ext f)
 replace F11:=zh (F11.out.ext f)
 replace F14:=zh (F14.out.ext f)
 replace F15:=zh (F15.out.ext f)
 replace HE:=zh (HE.out.trans f)
 have F23:Hid (zZ y0 (.agg #[.bool q,.slice r s t]) (sg ((o != C)) (((x).natAbs)/((y).natAbs)))):=hI
 clear f hI
 have j:=(⟨B5.out,B6.out,B7.out,B8.out⟩:(fun m=>Blk 32 m w.heap.size #[.bool o,.slice A1 l1 c1]∧Blk 32 m (w.heap.size+1) #[.bool C,.slice A3 l3 c3]∧Blk 32 m (w.heap.size+1+1) #[.bool false,.slice none 0 0]∧Blk 32 m (w.heap.size+1+1+1) #[.bool false,.slice none 0 0]) y0)
 refine hK _ _ j ?_
 clear hK
 refine Zjo 10 rfl (by kernel_rfl) rfl (fun K hK=>?_)
 go_simp
 clear j
 refine (cJ (o) _ _ _ F15.out).mono ?_
 rintro e n ⟨_,rfl,hI,f⟩
 obtain⟨u,z,A,B,rfl⟩:=hI.shp
 replace B5:=zh (B5.out.ext f)
 replace B6:=zh (B6.out.ext f)
 replace B7:=zh (B7.out.ext f)
 replace B8:=zh (B8.out.ext f)
 replace F2:=zh (F2.out.ext f)
 replace F4:=zh (F4.out.ext f)
 replace F10:=zh (F10.out.ext f)
 replace F11:=zh (F11.out.ext f)
 replace F14:=zh (F14.out.ext f)
 replace F15:=zh (F15.out.ext f)
 replace F23:=zh (F23.out.ext f)
 replace HE:=zh (HE.out.trans f)
 have F26:Hid (zZ n (.agg #[.bool u,.slice z A B]) (sg (o) (((x).natAbs)%((y).natAbs)))):=hI
 clear f hI
 have j:=(⟨B5.out,B6.out,B7.out,B8.out⟩:(fun m=>Blk 32 m w.heap.size #[.bool o,.slice A1 l1 c1]∧Blk 32 m (w.heap.size+1) #[.bool C,.slice A3 l3 c3]∧Blk 32 m (w.heap.size+1+1) #[.bool false,.slice none 0 0]∧Blk 32 m (w.heap.size+1+1+1) #[.bool false,.slice none 0 0]) n)
 refine hK _ _ j ?_
 clear hK
 refine Zo0 (l:=[_,_]) 11 rfl (by kernel_rfl) ?_
 clear j
 obtain⟨g0,i0,j0,k0⟩:=B5.out.cell2
 obtain⟨l0,m0,n0,o0⟩:=B6.out.cell2
 obtain⟨p0,q0,r0,s0⟩:=B7.out.cell2
 obtain⟨t0,u0,v0,w0⟩:=B8.out.cell2
 go_wp2
 clear g0 i0 j0 k0 l0 m0 n0 o0 p0 q0 r0 s0 t0 u0 v0 w0
 have d:Fr (fun i=>i=(w.heap.size+1+1)) n ((n.setCell ⟨(w.heap.size+1+1),0,none⟩ (.bool q)).setCell ⟨(w.heap.size+1+1),1,none⟩ (.slice r s t)):=(((Fr.refl (fun i=>i=(w.heap.size+1+1)) _).setCell (p:=⟨(w.heap.size+1+1),0,none⟩) (Or.inl rfl) _).setCell (p:=⟨(w.heap.size+1+1),1,none⟩) (Or.inl rfl) _)
 replace F2:=zh (F2.out.oth B7.out kO d)
 replace F4:=zh (F4.out.oth B7.out kO d)
 replace F10:=zh (F10.out.oth B7.out kO d)
 replace F11:=zh (F11.out.oth B7.out kO d)
 replace F14:=zh (F14.out.oth B7.out kO d)
 replace F15:=zh (F15.out.oth B7.out kO d)
 replace F23:=zh (F23.out.oth B7.out kO d)
 replace F26:=zh (F26.out.oth B7.out kO d)
 replace B5:=zh (B5.out.fr d (by first|omega | (have:=B5.out.lt;have:=B7.out.lt;omega)))
 replace B6:=zh (B6.out.fr d (by first|omega | (have:=B6.out.lt;have:=B7.out.lt;omega)))
 replace B8:=zh (B8.out.fr d (by first|omega | (have:=B8.out.lt;have:=B7.out.lt;omega)))
 replace HE:=zh (HE.out.next d (fun i hi e=>by first|omega | (have:=HE.out.size;have:=B7.out.lt;omega)))
 have k:Blk 32 ((n.setCell ⟨(w.heap.size+1+1),0,none⟩ (.bool q)).setCell ⟨(w.heap.size+1+1),1,none⟩ (.slice r s t)) (w.heap.size+1+1) #[.bool q,.slice r s t]:=((B7.out.set_ 0 _).set_ 1 _)
 generalize ((n.setCell ⟨(w.heap.size+1+1),0,none⟩ (.bool q)).setCell ⟨(w.heap.size+1+1),1,none⟩ (.slice r s t))=w31 at *
 replace B7:=zh k;clear k d
 have d:Fr (fun i=>i=(w.heap.size+1+1+1)) w31 ((w31.setCell ⟨(w.heap.size+1+1+1),0,none⟩ (.bool u)).setCell ⟨(w.heap.size+1+1+1),1,none⟩ (.slice z A B)):=(((Fr.refl (fun i=>i=(w.heap.size+1+1+1)) _).setCell (p:=⟨(w.heap.size+1+1+1),0,none⟩) (Or.inl rfl) _).setCell (p:=⟨(w.heap.size+1+1+1),1,none⟩) (Or.inl rfl) _)
 replace F2:=zh (F2.out.oth B8.out kO d)
 replace F4:=zh (F4.out.oth B8.out kO d)
 replace F10:=zh (F10.out.oth B8.out kO d)
 replace F11:=zh (F11.out.oth B8.out kO d)
 replace F14:=zh (F14.out.oth B8.out kO d)
 replace F15:=zh (F15.out.oth B8.out kO d)
 replace F23:=zh (F23.out.oth B8.out kO d)
 replace F26:=zh (F26.out.oth B8.out kO d)
 replace B5:=zh (B5.out.fr d (by first|omega | (have:=B5.out.lt;have:=B8.out.lt;omega)))
 replace B6:=zh (B6.out.fr d (by first|omega | (have:=B6.out.lt;have:=B8.out.lt;omega)))
 replace B7:=zh (B7.out.fr d (by first|omega | (have:=B7.out.lt;have:=B8.out.lt;omega)))
 replace HE:=zh (HE.out.next d (fun i hi e=>by first|omega | (have:=HE.out.size;have:=B8.out.lt;omega)))
 have k:Blk 32 ((w31.setCell ⟨(w.heap.size+1+1+1),0,none⟩ (.bool u)).setCell ⟨(w.heap.size+1+1+1),1,none⟩ (.slice z A B)) (w.heap.size+1+1+1) #[.bool u,.slice z A B]:=((B8.out.set_ 0 _).set_ 1 _)
 generalize ((w31.setCell ⟨(w.heap.size+1+1+1),0,none⟩ (.bool u)).setCell ⟨(w.heap.size+1+1+1),1,none⟩ (.slice z A B))=w32 at *
 replace B8:=zh k;clear k d
 exact Zo9 rfl rfl rfl B7.out B8.out (by rw[←HQ.out.1];exact F23.out) (by rw[←HQ.out.2];exact F26.out) HE.out
theorem Zpa (a:Value)(q:Rat)(w:World)(ha:zT w a q)(F:q.den=1) :
 yA 75 #[a] w (lW w (q.den:Int)):=by
 obtain⟨I,J,K,L,t1,M,G,N,rfl⟩:=ha.shp
 have F2:Hid (zT w (.agg #[.bool I,.slice J K L,.bool t1,.slice M G N]) (q)):=ha
 clear ha
 have H:=F2.out.den
 obtain rfl:G=0:=H.len0 (kY F)
 have O:Hid ((q.den:Int)=1):=by unfold Hid;omega
 clear H F
 go_enter Tryz.func75,Tryz.ntmps75
 go_wp2_with fail
 generalize m:World.alloc (World.alloc w _) _=w5
 obtain⟨d,f,g⟩:=ZeK m
 clear m
 have B3:=zh d
 have B4:=zh f
 clear d f
 replace F2:=zh (F2.out.ext g)
 have HE:=zh g
 clear g
 refine (eE 1 _ (by omega) (by omega)).mono ?_
 rintro e n ⟨_,rfl,E,o⟩
 obtain⟨r,s,t,u,rfl⟩:=E.shp
 replace B3:=zh (B3.out.ext o)
 replace B4:=zh (B4.out.ext o)
 replace F2:=zh (F2.out.ext o)
 replace HE:=zh (HE.out.trans o)
 have F8:Hid (zZ n (.agg #[.bool r,.slice s t u]) (1)):=E
 clear o E
 obtain⟨v,x,y,z,A,B,C,D⟩:=B3.out.cell4
 obtain⟨h,j,k,l⟩:=B4.out.cell2
 go_wp2
 clear v x y z A B C D h j k l
 have b:Fr (fun i=>i=(w.heap.size+1)) n ((n.setCell ⟨(w.heap.size+1),0,none⟩ (.bool r)).setCell ⟨(w.heap.size+1),1,none⟩ (.slice s t u)):=(((Fr.refl (fun i=>i=(w.heap.size+1)) _).setCell (p:=⟨(w.heap.size+1),0,none⟩) (Or.inl rfl) _).setCell (p:=⟨(w.heap.size+1),1,none⟩) (Or.inl rfl) _)
 replace F2:=zh (F2.out.oth B4.out kO b)
 replace F8:=zh (F8.out.oth B4.out kO b)
 replace B3:=zh (B3.out.fr b (by first|omega | (have:=B3.out.lt;have:=B4.out.lt;omega)))
 replace HE:=zh (HE.out.next b (fun i P e=>by first|omega | (have:=HE.out.size;have:=B4.out.lt;omega)))
 have c:Blk 32 ((n.setCell ⟨(w.heap.size+1),0,none⟩ (.bool r)).setCell ⟨(w.heap.size+1),1,none⟩ (.slice s t u)) (w.heap.size+1) #[.bool r,.slice s t u]:=((B4.out.set_ 0 _).set_ 1 _)
 generalize ((n.setCell ⟨(w.heap.size+1),0,none⟩ (.bool r)).setCell ⟨(w.heap.size+1),1,none⟩ (.slice s t u))=w11 at *
 replace B4:=zh c;clear c b
 exact ZeL rfl rfl B4.out (by rw[O.out];exact F8.out) HE.out
theorem Zpb (a:Value)(q:Rat)(w:World)(ha:zT w a q)(f:¬ q.den=1) :
 yA 75 #[a] w (lW w (q.den:Int)):=by
 obtain⟨k,l,m,n,t1,h,g,i,rfl⟩:=ha.shp
 have F2:Hid (zT w (.agg #[.bool k,.slice l m n,.bool t1,.slice h g i]) (q)):=ha
 clear ha
 have j:=F2.out.den
 have t:((g:Int) == 0)=false:=by have:=j.lenp (Zar f);simp;omega
 have o:=zh (fV f)
 clear j f
 go_enter Tryz.func75,Tryz.ntmps75
 go_wp2
 generalize e:World.alloc (World.alloc w _) _=w5
 obtain⟨b,c,d⟩:=ZeK e
 clear e
 have u:=zh b
 have p:=zh c
 clear b c
 replace F2:=zh (F2.out.ext d)
 have r:=zh d
 clear d
 have s:Hid (zZ w5 (.agg #[.bool t1,.slice h g i]) (denF (q))):=F2.out.den
 exact ZeL rfl rfl p.out (by rw[←o.out];exact s.out) r.out
theorem iZ (a:Value)(q:Rat)(w:World)(ha:zT w a q):yA 75 #[a] w (lW w (q.den:Int)):=by
 by_cases h:q.den=1
 ·exact Zpa a q w ha h
 exact Zpb a q w ha h
def blen (n:Nat):Nat:=if n=0 then 0 else n.log2+1
theorem jI:blen 0=0:=rfl
theorem gL (n:Nat):n<2^blen n:=by
 unfold blen
 split
 ·rename_i h;subst h;decide
 rename_i h;exact (Nat.log2_lt h).1 (pE _)
theorem xF {n k:Nat}:blen n≤k↔n<2^k:=by
 unfold blen
 split
 ·rename_i h;subst h;simp[uT]
 rename_i h;rw[←Nat.log2_lt h];omega
theorem ZaU {n:Nat}(h:0<n):blen n=blen (n/2)+1:=by
 have d:blen (n/2)+1≤blen n:=by
  have:blen (n/2)≤blen n-1:=xF.2 (by
   have a:=gL n
   have b:0<blen n:=by unfold blen;rw[uJ (by omega)];omega
   obtain⟨k,c⟩:∃ k,blen n=k+1:=⟨blen n-1,by omega⟩
   rw[c] at a ⊢
   rw[uO] at a
   show n/2<2^(k+1-1)
   rw[vW]
   omega)
  have b:0<blen n:=by unfold blen;rw[uJ (by omega)];omega
  omega
 have a:blen n≤blen (n/2)+1:=xF.2 (by
  have:=gL (n/2)
  rw[uO]
  omega)
 omega
theorem gH {n:Nat}:blen n=1↔n=1:=by
 constructor
 ·intro h
  have a:=gL n
  rw[h] at a
  rcases uI n with e|e
  ·subst e;rw[jI] at h;omega
  omega
 rintro rfl;decide
theorem ZaF {n:Nat}:1<blen n↔1<n:=by
 rcases vJ 1 n with h|h
 ·have:¬ blen n≤1:=fun k=>by have:=xF.1 k;omega
  omega
 have:blen n≤1:=xF.2 (by omega)
 omega
theorem Zjw {B k t low:Nat}(f:low<2^(B*k))(a:0<t):blen (low+2^(B*k)*t)=B*k+blen t:=by
 have b:=gL t
 have g:blen (low+2^(B*k)*t)≤B*k+blen t:=xF.2 (by
  rw[uS]
  have:2^(B*k)*(t+1)≤2^(B*k)*2^blen t:=uK _ b
  rw[uN] at this
  omega)
 have i:¬ blen (low+2^(B*k)*t)≤B*k+blen t-1:=fun h=>by
  have c:=xF.1 h
  obtain⟨j,d⟩:∃ j,blen t=j+1:=⟨blen t-1,by have:=ZaU a;omega⟩
  rw[d,show B*k+(j+1)-1=B*k+j by omega,uS] at c
  have e:2^j≤t:=by
   rcases vJ t (2^j) with h|h
   ·have:=xF.2 h;omega
   exact h
  have:2^(B*k)*2^j≤2^(B*k)*t:=uK _ e
  omega
 have:0<blen t:=by have:=ZaU a;omega
 omega
theorem aL (a:Value)(x:Int)(w:World)(ha:zZ w a x)(F:wG x):yA 37 #[a] w (RetV w (.int .i64 (blen x.natAbs:Int))):=by
 obtain⟨s,A,l,c,rfl⟩:=ha.shp
 have f:=ha.mag
 have L:=ha.len0
 obtain⟨V,xs,W,M,N,G,j,o,p⟩:=f
 injection M with e1 e2 e3
 subst e1 e2 e3
 unfold wG at F
 rw[←p,← kX j o] at F
 rw[←p]
 clear ha L p
 rcases uI xs.length with q|q
 ·obtain rfl:xs=[]:=tI.1 q
  go_enter Tryz.func37,Tryz.ntmps37
  go_wp2
  go_ret
  exact⟨rfl,(Fr.refl _ _).alloc _⟩
 obtain⟨k,H⟩:∃ k,xs.length=k+1:=⟨xs.length-1,by omega⟩
 obtain⟨b,O,rfl,P,u⟩:=G.at (i:=k) (by omega)
 obtain⟨t,m⟩:=yE (xs[k]?.getD 0)
 rw[m] at u
 have v:0<t:=by have:=o k H;omega
 have I:val W32 xs=val W32 (xs.take k)+W32^k*t:=by
  have:=zR (B:=W32) (xs:=xs) k (by omega)
  rw[uA (by omega),m] at this
  exact this
 have d:=xZ (j.take k)
 rw[uY,uV (by omega),ZcB] at d
 have y:Hid (blen (val W32 xs)=32*k+blen t):=by
  unfold Hid
  rw[I,ZcB]
  exact Zjw d v
 have g:t<W32:=m ▸ j.getD zY k
 have Q:blen t≤32:=xF.2 (by rw[xB] at g;exact g)
 obtain⟨r,J⟩:=yE (blen (val W32 xs))
 rw[J] at y ⊢
 have R:b≠w.heap.size:=Nat.ne_of_lt P
 rw[H]
 clear G j o I d m J g N q
 have X:(((k:Int)+1) == 0)=false:=by simp;omega
 go_enter Tryz.func37,Tryz.ntmps37
 go_wp2
 go_loop [3,4] (fun S z=>∃ n t':Nat,S=.int .i64 (n:Int)∧z=.int .u32 (t':Int)∧Hid (n+blen t'=r)∧n≤32*k+32) (fun _ z=>(intOf z).toNat)
 case atStart=>exact⟨32*k,t,by go_num,rfl,by have:=y.out;unfold Hid;omega,by omega⟩
 case round =>
  obtain⟨n,t',rfl,rfl,C,Y⟩:=hrel
  by_cases K:0<t'
  ·have e:Hid (n+1+blen (t'/2)=r):=by have f:=C.out;rw[ZaU K] at f;unfold Hid;omega
   have D:n+1≤32*k+32:=by
    have f:=C.out;have Z:=y.out;rw[ZaU K] at f;omega
   have T:(t':Int)/2=((t'/2:Nat):Int):=rfl
   have E:t'/2<t':=by omega
   obtain⟨U,h⟩:=yE (t'/2)
   rw[h] at e T E
   clear h
   go_wp2
   go_round
   case rel=>exact⟨n+1,U,by go_num,rfl,e,D⟩
   case measure=>simp[intOf];omega
  obtain rfl:t'=0:=by omega
  have e:Hid (n=r):=by have f:=C.out;rw[jI] at f;exact f
  go_wp2
  go_ret
  exact⟨by rw[e.out];rfl,(Fr.refl _ _).alloc _⟩
theorem zS.inj {w:World}{v:Value}{m n:Nat}(h:zS w v m)(k:zS w v n):m=n:=by
 obtain⟨A,g,c,rfl,_,j,_,_,rfl⟩:=h
 obtain⟨s,l,t,p,_,q,_,_,rfl⟩:=k
 injection p with e1 e2 e3
 subst e1
 have:g=l:=by
  apply List.ext_getElem e2
  intro i e f
  obtain⟨b,o,rfl,_,r⟩:=j.at e
  obtain⟨u,x,d,_,a⟩:=q.at f
  injection d with d
  injection d with e3 e4
  subst e3 e4
  rw[r] at a
  injection a with a
  injection a with _ a
  rw[List.getElem?_eq_getElem e,List.getElem?_eq_getElem f] at a
  simp only[rP] at a
  omega
 rw[this]
open Classical in
noncomputable def Zd7 (w:World) (v:Value):Nat:=if h:∃ n,zS w v n then Classical.choose h else 0
theorem Zh2 {w:World}{v:Value}{n:Nat}(h:zS w v n):Zd7 w v=n:=by
 have a:∃ n,zS w v n:=⟨n,h⟩
 unfold Zd7
 rw[dif_pos a]
 exact (qX a).inj h
theorem zS.len_zero {w:World}{A:Option Addr}{l c n:Nat}(h:zS w (.slice A l c) n):(n=0↔l=0)∧l=ml n:=by
 obtain⟨j,f,k,a,_,_,g,i,b⟩:=h
 injection a with _ a
 have d:=kX g i
 rw[b] at d
 refine⟨⟨fun e=>?_,fun e=>?_⟩,by omega⟩
 ·rw[e,Zhg] at d;omega
 rw[e] at a
 have:f=[]:=tI.1 a.symm
 rw[this] at b
 simpa using b.symm
theorem Zjx (a b:Value)(x y:Int)(w:World)(ha:zZ w a x)(I:zZ w b y)(hx:wG x)(hy:wG y):yA 69 #[a,b] w (lW w (Int.gcd x y:Int)):=by
 obtain⟨s,A,l,c,rfl⟩:=ha.shp
 obtain⟨t,B,m,d,rfl⟩:=I.shp
 have HM:=zh ha.mag
 have HN:=zh I.mag
 have HX:Hid (ml x.natAbs≤17592186044416):=hx
 have HY:Hid (ml y.natAbs≤17592186044416):=hy
 obtain⟨r,J⟩:=yE (Int.gcd x y)
 have HR:Hid (Nat.gcd x.natAbs y.natAbs=r):=J
 rw[J]
 clear ha I hx hy J
 go_enter Tryz.func69,Tryz.ntmps69
 go_wp2_with fail
 generalize k:World.alloc (World.alloc (World.alloc w _) _) _=w1
 obtain⟨b0,b1,b2,h⟩:=Zlt k
 clear k
 have K:=zh b2
 have HE:=zh h
 replace HM:=zh (HM.out.ext h)
 replace HN:=zh (HN.out.ext h)
 obtain⟨c0,c1,f0,f1⟩:=b0.cell2
 obtain⟨q,L,f2,f3⟩:=b1.cell2
 clear b0 b1 b2 h
 go_quiet (fail)
 clear c0 c1 f0 f1 q L f2 f3
 go_wp2_with fail
 go_loopw [5,6,7,8] (fun xv M _ _ wr=>∃ (u v:Nat) (N z:Option Addr) (O P m' C:Nat),xv=.slice N O P∧M=.slice z m' C∧Hid (zS wr (.slice N O P) u)∧Hid (zS wr (.slice z m' C) v)∧Hid (ml u≤17592186044416)∧Hid (ml v≤17592186044416)∧Hid (Nat.gcd u v=r)∧Hid (Ext w1 wr)) (fun _ M _ _ wr=>Zd7 wr M)
 case atStart=>exact⟨_,_,_,_,_,_,_,_,rfl,rfl,HM.out.ext ((Fr.refl _ _).drewN _),HN.out.ext ((Fr.refl _ _).drewN _),HX,HY,HR,(Fr.refl _ _).drewN _⟩
 case round =>
  obtain⟨u,v,N,z,O,P,m',C,rfl,rfl,hU,D,hu,E,Q,R⟩:=hrel
  obtain⟨F,z2⟩:=D.out.len_zero
  have g0:m'≤17592186044416:=by have:=E.out;omega
  by_cases S:m'=0
  ·subst S
   have f:v=0:=F.2 rfl
   have T:Hid (u=r):=by have:=Q.out;rw[f,rQ] at this;exact this
   have HB:=zh (K.out.ext R.out)
   have U:=zh (HE.out.trans R.out)
   clear F z2 f
   go_wp2_with fail
   refine (cJ false _ u _ hU.out).mono ?_
   rintro e G ⟨_,rfl,V,g⟩
   obtain⟨s2,A2,l2,q,rfl⟩:=V.shp
   have HI:=zh V
   have j:=zh (HB.out.ext g)
   have W:=zh (U.out.trans g)
   obtain⟨k0,k1,k2,k3⟩:=j.out.cell2
   clear V g
   go_wp2
   have n:Fr (fun i=>i=(w.heap.size+1+1)) G ((G.setCell ⟨w.heap.size+1+1,0,none⟩ (.bool s2)).setCell ⟨w.heap.size+1+1,1,none⟩ (.slice A2 l2 q)):=((Fr.refl (fun i=>i=(w.heap.size+1+1)) _).setCell (p:=⟨w.heap.size+1+1,0,none⟩) (Or.inl rfl) _).setCell (p:=⟨w.heap.size+1+1,1,none⟩) (Or.inl rfl) _
   exact ZeL rfl rfl ((j.out.set_ 0 _).set_ 1 _) (by rw[←T.out];exact HI.out.oth j.out kO n) (W.out.next n (fun i hi e=>by omega))
  have h0:0<m':=by omega
  have f:0<v:=by
   rcases uI v with e|e;· exact absurd (F.1 e) S
   ·exact e
  have T:Hid (Nat.gcd v (u%v)=r):=by have:=Q.out;rw[tU,qN,tU] at this;exact this
  have X:=zh (uE (Zap (rT (uP u f))) E.out)
  have Y:=zh (uP u f)
  have HC:=zh (Zgl _ _ u v wr hU.out D.out hu.out E.out f)
  clear F z2 f S Q
  go_wp2_with fail
  refine HC.out.mono ?_
  rintro e G ⟨_,_,rfl,hq,H,g⟩
  obtain⟨A2,l2,q,rfl⟩:=hq.slice
  obtain⟨A3,l3,L,rfl⟩:=H.slice
  have Z:=zh H
  have a0:=zh (D.out.ext g)
  have d0:=zh (R.out.trans g)
  have e0:Hid (Zd7 wr (.slice z m' C)=v):=Zh2 D.out
  have o:Hid (Zd7 G (.slice A3 l3 L)=u%v):=Zh2 H
  clear hq H g HC
  go_wp2
  go_roundw
  case rel=>exact⟨v,u%v,_,_,_,_,_,_,rfl,rfl,a0,Z,E,X,T,d0⟩
  case measure=>rw[e0.out,o.out];exact Y.out
end Go.Proofs.YtklpdkpcocnglaaGreatDoor
namespace Go.Proofs.YtklpdkpcocnglaaGreatDoor
theorem iR {n k:Nat}:k<blen n↔2^k≤n:=by have:=@xF n k;omega
theorem jG {n:Nat}(h:0<n):0<blen n:=iR.2 (by rw[vT];exact h)
theorem ZeM {n k:Nat}(a:2^k≤n)(b:n<2^(k+1)):blen n=k+1:=by
 have:=iR.2 a;have:=xF.2 b;omega
theorem ZbK {n:Nat}(h:0<n):2^(blen n-1)≤n:=iR.1 (by have:=jG h;omega)
theorem p2 (k:Nat):0<2^k:=uT (by decide)
theorem cK {n:Nat}(h:0<n)(j:Nat):blen (n*2^j)=blen n+j:=by
 have a:=ZbK h
 have b:=gL n
 obtain⟨k,c⟩:∃ k,blen n=k+1:=⟨blen n-1,by have:=jG h;omega⟩
 rw[c] at a b ⊢
 rw[show k+1+j=k+j+1 by omega]
 refine ZeM ?_ ?_
 ·rw[uS];exact uC _ (by simpa using a)
 rw[show k+j+1=k+1+j by omega,uS];exact (qI (p2 j)).2 b
theorem aM (n j:Nat):blen (n/2^j)=blen n-j:=by
 rcases vJ j (blen n) with h|h
 ·have c:0<n:=by
   rcases uI n with e|e;· subst e;rw[jI] at h;omega
   ·exact e
  have a:=ZbK c
  have b:=gL n
  obtain⟨k,d⟩:∃ k,blen n=j+(k+1):=⟨blen n-j-1,by omega⟩
  rw[d] at a b ⊢
  rw[show j+(k+1)-j=k+1 by omega]
  refine ZeM ?_ ?_
  ·rw[rM (p2 j),← uS];rw[show j+(k+1)-1=k+j by omega] at a;exact a
  rw[vG (p2 j),← uS,vL];exact b
 rw[tG (xF.1 h),jI];omega
def jU (a b:Nat):Nat:=if b<2*(a%b)∨(2*(a%b)=b∧a/b%2=1) then a/b+1 else a/b
theorem Zmn {a b c:Nat}(d:0<c):jU (a*c) (b*c)=jU a b:=by
 unfold jU
 rw[sM,rL _ _ d,← uG]
 have e:b*c<2*(a%b)*c↔b<2*(a%b):=qI d
 have f:2*(a%b)*c=b*c↔2*(a%b)=b:=⟨fun h=>Nat.eq_of_mul_eq_mul_right d h,fun h=>by rw[h]⟩
 simp only[e,f]
theorem Zpc (a:Nat):jU a 1=a:=by unfold jU;rw[Nat.mod_one,rB,uJ (by omega)]
def iS (q j:Nat) (m:Bool):Nat:=if q/2^j%2=1∧(q%2^j≠0∨q/2^(j+1)%2=1∨m=true) then q/2^(j+1)+1 else q/2^(j+1)
theorem Zmo {a b j:Nat}(k:0<b):jU a (b*2^(j+1))=iS (a/b) j (decide (a%b≠0)):=by
 unfold jU iS
 have l:a/(b*2^(j+1))=a/b/2^(j+1):=(sA _ _ _).symm
 have m:=vO a b
 have G:=uP a k
 rw[l]
 generalize a/b=q at *
 generalize a%b=r at *
 obtain⟨h,f⟩:∃ h,h=2^j:=⟨_,rfl⟩
 have n:0<h:=by rw[f];exact p2 j
 have o:2^(j+1)=h*2:=by rw[uO,f]
 have t:=vO q h
 have H:=uP q n
 rw[o,← f,← sA]
 generalize q/h=p at *
 generalize q%h=z at *
 have v:=vO p 2
 have I:=uP p (show 0<2 by decide)
 generalize p/2=u at *
 generalize p%2=s at *
 have w:a%(b*(h*2))=b*(h*s+z)+r:=by
  have e:a=b*(h*2)*u+(b*(h*s+z)+r):=by
   rw[←m,← t,← v]
   simp only[uN,uG,tO]
  have g:b*(h*s+z)+r<b*(h*2):=by
   have x:h*s+z+1≤h*2:=by
    have:h*s≤h*1:=uK _ (by omega)
    omega
   have y:=uK b x
   rw[uN,sB] at y
   omega
  rw[e,rX,vC g]
 rw[w]
 have J:b*z+b≤b*h:=by
  have:=uK b (show z+1≤h by omega)
  rwa [uN,sB] at this
 have i:b*(h*2)=2*(b*h):=by rw[←uG,uF]
 have d:z=0∨b≤b*z:=by
  rcases uI z with e|e
  ·exact Or.inl e
  exact Or.inr (by have:=uK b e;simpa using this)
 rcases (by omega:s=0∨s=1) with rfl|rfl
 ·rw[uJ,uJ (by omega)]
  rw[tK,sC,i]
  omega
 rw[sB,uN b h z,i]
 have A:(2*(b*h)<2*(b*h+b*z+r))↔(z≠0∨r≠0):=by
  constructor
  ·intro c
   rcases uI z with e|e
   ·subst e;right;intro B;subst B;simp at c
   left;omega
  intro c
  rcases d with e|e
  ·subst e;rcases c with c|c;· exact absurd rfl c
   ·simp;omega
  omega
 have C:(2*(b*h+b*z+r)=2*(b*h))↔(z=0∧r=0):=by
  constructor
  ·intro c
   rcases d with e|e
   ·subst e;refine⟨rfl,?_⟩;rw[tK] at c;omega
   omega
  rintro⟨rfl,rfl⟩;simp
 simp only[A,C]
 by_cases D:z=0<;>by_cases E:r=0<;>by_cases F:u%2=1<;>simp[D,E,F]
def fa (n:Nat) (k:Int):Nat:=n*2^(-k).toNat
def fb (d:Nat) (k:Int):Nat:=d*2^k.toNat
def fq (n d:Nat) (k:Int):Nat:=fa n k/fb d k
theorem Zjy {d:Nat}(h:0<d)(k:Int):0<fb d k:=tV h (p2 _)
theorem Zly (n d:Nat)(k:Int)(j:Nat):∃ c,0<c∧fa n k=fa n (k+j)*c∧fb d k*2^j=fb d (k+j)*c:=by
 unfold fa fb
 rcases pT 0 k with h|h
 ·obtain⟨m,rfl⟩:=uB h
  refine⟨1,by decide,?_,?_⟩
  ·rw[show (-(m:Int)).toNat=0 by omega,show (-((m:Int)+j)).toNat=0 by omega];simp
  rw[show ((m:Int)).toNat=m by omega,show ((m:Int)+j).toNat=m+j by omega,uG,← uS,sB]
 obtain⟨m,b⟩:=uB (show 0 ≤ -k by omega)
 obtain rfl:k = -(m:Int):=by omega
 rcases Nat.le_total j m with a|a
 ·refine⟨2^j,p2 j,?_,?_⟩
  ·rw[show (- -(m:Int)).toNat=m by omega,show (-(-(m:Int)+j)).toNat=m-j by omega,uG,← uS,pJ a]
  rw[show (-(m:Int)).toNat=0 by omega,show (-(m:Int)+j).toNat=0 by omega]
 refine⟨2^m,p2 m,?_,?_⟩
 ·rw[show (- -(m:Int)).toNat=m by omega,show (-(-(m:Int)+j)).toNat=0 by omega];simp
 rw[show (-(m:Int)).toNat=0 by omega,show (-(m:Int)+j).toNat=j-m by omega,uG,uG,← uS,← uS,pJ a,sC]
theorem ZaV (n d:Nat)(k:Int)(j:Nat):fq n d (k+j)=fq n d k/2^j:=by
 obtain⟨c,a,b,e⟩:=Zly n d k j
 unfold fq
 rw[sA,b,e,rL _ _ a]
theorem Zpd {n d:Nat}(k:Int)(j:Nat)(a:0<d):jU (fa n (k+(j+1:Nat))) (fb d (k+(j+1:Nat)))=iS (fq n d k) j (decide (fa n k%fb d k≠0)):=by
 obtain⟨c,b,e,f⟩:=Zly n d k (j+1)
 unfold fq
 rw[←Zmo (Zjy a k),f,e,Zmn b]
def rk0 (n d bits:Nat):Int:=(blen n:Int)-blen d-bits
theorem Zjz {n d bits:Nat}(o:0<n)(i:0<d)(t:0<bits):bits≤blen (fq n d (rk0 n d bits))∧blen (fq n d (rk0 n d bits))≤bits+1:=by
 have f:=ZbK o
 have j:=gL n
 have g:=ZbK i
 have k:=gL d
 obtain⟨p,r⟩:∃ p,blen n=p+1:=⟨blen n-1,by have:=jG o;omega⟩
 obtain⟨q,s⟩:∃ q,blen d=q+1:=⟨blen d-1,by have:=jG i;omega⟩
 obtain⟨b,rfl⟩:∃ b,bits=b+1:=⟨bits-1,by omega⟩
 have c:fb d (rk0 n d (b+1))*2^b≤fa n (rk0 n d (b+1))∧fa n (rk0 n d (b+1))<fb d (rk0 n d (b+1))*2^(b+2):=by
  unfold fa fb rk0
  rw[r] at f j ⊢
  rw[s] at g k ⊢
  rw[vW] at f g
  rcases pT 0 ((p+1:Nat)-(q+1:Nat)-(b+1:Nat):Int) with h|h
  ·obtain⟨m,l⟩:=uB h
   have a:p=q+m+b+1:=by omega
   subst a
   rw[l,show ((m:Nat):Int).toNat=m by omega,show (-((m:Nat):Int)).toNat=0 by omega]
   simp only[vT,sB]
   constructor
   ·refine uE ?_ f
    rw[show q+m+b+1=(q+1)+(m+b) by omega,uS,uG,← uS]
    exact uC _ (rT k)
   refine uQ j ?_
   rw[show q+m+b+1+1=q+(m+(b+2)) by omega,uS 2 q,uG,← uS 2 m]
   exact uC _ g
  obtain⟨m,l⟩:=uB (show 0 ≤ -((p+1:Nat)-(q+1:Nat)-(b+1:Nat):Int) by omega)
  have a:p+m=q+b+1:=by omega
  rw[l,show ((m:Nat):Int).toNat=m by omega,show ((p+1:Nat)-(q+1:Nat)-(b+1:Nat):Int).toNat=0 by omega]
  simp only[vT,sB]
  constructor
  ·refine uE ?_ (uC _ f)
   rw[←uS,a,show q+b+1=(q+1)+b by omega,uS]
   exact uC _ (rT k)
  refine uQ ((qI (p2 m)).2 j) ?_
  rw[←uS,show p+1+m=q+(b+2) by omega,uS]
  exact uC _ g
 have e:=Zjy i (rk0 n d (b+1))
 constructor
 ·have:2^b≤fq n d (rk0 n d (b+1)):=by
   unfold fq
   rw[rM e,uF];exact c.1
  have:=iR.2 this
  omega
 refine xF.2 ?_
 unfold fq
 rw[vG e,uF];exact c.2
def rndK (n d bits:Nat):Int:=if blen (fq n d (rk0 n d bits))=bits then rk0 n d bits else rk0 n d bits+1
theorem Zd8 {n d bits:Nat}(a:0<n)(b:0<d)(c:0<bits):blen (fq n d (rndK n d bits))=bits:=by
 obtain⟨e,f⟩:=Zjz a b c
 unfold rndK
 split
 ·assumption
 have:=ZaV n d (rk0 n d bits) 1
 rw[show (rk0 n d bits+1:Int)=rk0 n d bits+(1:Nat) by simp,this,aM]
 omega
theorem Zhq {n d bits:Nat}(c:0<n)(e:0<d)(f:0<bits){k:Int}(h:blen (fq n d k)=bits):rndK n d bits=k:=by
 have b:=Zd8 c e f
 rcases qH (rndK n d bits) k with a|a|a
 ·obtain⟨j,g⟩:=uB (show 0≤k-rndK n d bits by omega)
  have:=ZaV n d (rndK n d bits) j
  rw[show rndK n d bits+(j:Int)=k by omega] at this
  rw[this,aM,b] at h
  omega
 ·exact a
 obtain⟨j,g⟩:=uB (show 0≤rndK n d bits-k by omega)
 have:=ZaV n d k j
 rw[show k+(j:Int)=rndK n d bits by omega] at this
 rw[this,aM,h] at b
 omega
def rndM (n d bits:Nat):Nat:=jU (fa n (rndK n d bits)) (fb d (rndK n d bits))
theorem Zlz (a b:Nat):a/b≤jU a b∧jU a b≤a/b+1:=by unfold jU;split<;>omega
theorem Zd9 {n d bits:Nat}(c:0<n)(a:0<d)(e:0<bits)(k:Int)(j:Nat)(h:blen (fq n d k)=bits+(j+1)) :
 rndK n d bits=k+(j+1:Nat)∧rndM n d bits=iS (fq n d k) j (decide (fa n k%fb d k≠0)):=by
 have b:rndK n d bits=k+(j+1:Nat):=Zhq c a e (by rw[ZaV,aM,h];omega)
 refine⟨b,?_⟩
 unfold rndM
 rw[b,Zpd k j a]
theorem Zqs {n bits:Nat}(a:0<n)(c:0<bits)(h:blen n≤bits):rndK n 1 bits=(blen n:Int)-bits∧rndM n 1 bits=n*2^(bits-blen n):=by
 have b:rndK n 1 bits=(blen n:Int)-bits:=Zhq a (by decide) c (by
  unfold fq fa fb
  rw[show (-((blen n:Int)-bits)).toNat=bits-blen n by omega,show ((blen n:Int)-bits).toNat=0 by omega]
  simp only[vT,sB,rB]
  rw[cK a];omega)
 refine⟨b,?_⟩
 unfold rndM
 rw[b]
 unfold fa fb
 rw[show (-((blen n:Int)-bits)).toNat=bits-blen n by omega,show ((blen n:Int)-bits).toNat=0 by omega]
 simp only[vT,sB,Zpc]
theorem Zqt {a s r bits:Nat}(g:0<bits)(ha:bits+1≤blen a)(h:0<r)(c:r<2^s) :
 rndK (a*2^s+r) 1 bits=(s:Int)+(blen a:Int)-bits∧rndM (a*2^s+r) 1 bits=iS a (blen a-bits-1) true:=by
 have i:0<a*2^s+r:=by omega
 obtain⟨j,b⟩:∃ j,blen a=bits+(j+1):=⟨blen a-bits-1,by omega⟩
 have e:fq (a*2^s+r) 1 (s:Int)=a:=by
  unfold fq fa fb
  rw[show (-(s:Int)).toNat=0 by omega,show ((s:Int)).toNat=s by omega]
  simp only[vT,sB,sV]
  rw[uF,sP (p2 s),tG c,tA]
 have k:fa (a*2^s+r) (s:Int)%fb 1 (s:Int)=r:=by
  unfold fa fb
  rw[show (-(s:Int)).toNat=0 by omega,show ((s:Int)).toNat=s by omega]
  simp only[vT,sB,sV]
  rw[uF,rX,vC c]
 obtain⟨l,f⟩:=Zd9 (n:=a*2^s+r) i (d:=1) (by decide) g (s:Int) j (by rw[e];exact b)
 rw[e,k] at f
 refine⟨by rw[l,b];omega,?_⟩
 rw[f,b,show bits+(j+1)-bits-1=j by omega,show decide (r≠0)=true from uW (by omega)]
def tzn (n:Nat):Nat:=if h:n=0∨n%2=1 then 0 else tzn (n/2)+1
termination_by n
decreasing_by omega
theorem ZcC {n:Nat}(h:n%2=1):tzn n=0:=by rw[tzn,dif_pos (Or.inr h)]
theorem ZlA {n:Nat}(h:0<n):tzn (n*2)=tzn n+1:=by
 rw[tzn,dif_neg (by omega),qS _ (by decide)]
theorem ZcD {n:Nat}(h:0<n):∀ j,tzn (n*2^j)=tzn n+j
 | 0=>by simp
 | j+1=>by rw[uO,← uG,ZlA (tV h (p2 j)),ZcD h j];omega
theorem Znv:∀ n:Nat,0<n→∃ o,o%2=1∧n=o*2^tzn n:=by
 intro n
 induction n using Nat.strongRecOn with
 | ind n ih =>
  intro h
  by_cases a:n%2=1
  ·exact⟨n,a,by rw[ZcC a];simp⟩
  obtain⟨m,rfl⟩:∃ m,n=m*2:=⟨n/2,by omega⟩
  obtain⟨o,b,c⟩:=ih m (by omega) (by omega)
  exact⟨o,b,by rw[ZlA (by omega),uO,← uG,← c]⟩
theorem Zgm {o:Nat}(h:o%2=1)(j:Nat):tzn (o*2^j)=j:=by rw[ZcD (by omega),ZcC h];omega
def oddM (n:Nat):Nat:=n/2^tzn n
theorem ZcE {o:Nat}(h:o%2=1)(j:Nat):oddM (o*2^j)=o:=by unfold oddM;rw[Zgm h,qS _ (p2 j)]
theorem kZ {n:Nat}(h:0<n):oddM n%2=1∧n=oddM n*2^tzn n:=by
 obtain⟨o,a,b⟩:=Znv n h
 have:oddM n=o:=by rw[b];exact ZcE a _
 rw[this];exact⟨a,b⟩
theorem Zpe {n:Nat}(h:0<n)(j:Nat):oddM (n*2^j)=oddM n:=by
 obtain⟨a,b⟩:=kZ h
 have:n*2^j=oddM n*2^(tzn n+j):=by rw[uS,← uG,← b]
 rw[this,ZcE a]
theorem Znw {n:Nat}(h:0<n)(j:Nat):tzn n<j↔n%2^j≠0:=by
 obtain⟨i,f⟩:=kZ h
 constructor
 ·intro g e
  obtain⟨d,b⟩:∃ d,j=tzn n+(d+1):=⟨j-tzn n-1,by omega⟩
  have a:=Nat.dvd_of_mod_eq_zero e
  rw[b,uS,uF] at a
  rw[f] at a
  rw[Zgm i] at a
  have:=Nat.dvd_of_mul_dvd_mul_right (p2 _) a
  rw[uO] at this
  have:2∣oddM n:=Nat.dvd_trans ⟨_,uF _ _⟩ this
  omega
 intro c
 refine qB fun g=>c ?_
 obtain⟨d,b⟩:=pM g
 rw[f,b,uS,← uG,uF (oddM n),uG,Nat.mul_mod_right]
end Go.Proofs.YtklpdkpcocnglaaGreatDoor
namespace Go.Proofs.YtklpdkpcocnglaaGreatDoor
def isq (n:Nat):Nat:=if h:n=0 then 0 else let r:=2*isq (n/4);if (r+1)*(r+1)≤n then r+1 else r
termination_by n
decreasing_by omega
theorem eW:∀ n,isq n*isq n≤n∧n<(isq n+1)*(isq n+1):=by
 intro n
 induction n using Nat.strongRecOn with
 | ind n ih =>
  by_cases h:n=0
  ·subst h;rw[isq];simp
  obtain⟨d,e⟩:=ih (n/4) (by omega)
  rw[isq,dif_neg h]
  generalize isq (n/4)=r at *
  simp only
  have b:2*r*(2*r)=4*(r*r):=by rw[rC]
  have c:(2*r+1+1)*(2*r+1+1)=4*((r+1)*(r+1)):=by
   rw[show 2*r+1+1=2*(r+1) by omega,rC]
  split
  ·rename_i a
   refine⟨a,?_⟩
   rw[c];omega
  rename_i a
  refine⟨?_,by omega⟩
  rw[b];omega
theorem ZjA {n r:Nat}(a:r*r≤n)(b:n<(r+1)*(r+1)):isq n=r:=by
 obtain⟨c,d⟩:=eW n
 rcases rW (isq n) r with h|h|h
 ·have:=vV (show isq n+1≤r by omega) (show isq n+1≤r by omega);omega
 ·exact h
 have:=vV (show r+1≤isq n by omega) (show r+1≤isq n by omega);omega
theorem pow4 (j:Nat):2^(2*j)=2^j*2^j:=by rw[←uS];congr 1;omega
theorem ZlB (n j:Nat):isq (n/2^(2*j))=isq n/2^j:=by
 obtain⟨a,b⟩:=eW n
 generalize isq n=r at *
 have c:=vO r (2^j)
 have d:=uP r (p2 j)
 refine ZjA ?_ ?_
 ·rw[rM (p2 _),pow4,rC]
  have:r/2^j*2^j≤r:=rZ _ _
  exact uE (vV this this) a
 rw[vG (p2 _),pow4,rC]
 have:r+1≤(r/2^j+1)*2^j:=by rw[uU,sV,uF];omega
 exact uQ b (vV this this)
theorem Zpf {n b:Nat}(d:2*b+2≤blen n)(c:blen n≤2*b+3):b+1≤blen (isq n)∧blen (isq n)≤b+2:=by
 obtain⟨e,f⟩:=eW n
 have l:=iR.1 (show 2*b+1<blen n by omega)
 have u:=xF.1 c
 generalize isq n=r at *
 have g:b<blen r:=by
  refine qB fun h=>?_
  have:=xF.1 h
  have a:=vV (show r+1≤2^b by omega) (show r+1≤2^b by omega)
  rw[←pow4] at a
  have:2^(2*b)≤2^(2*b+1):=uR (by decide) (by omega)
  omega
 refine⟨by omega,xF.2 (qB fun h=>?_)⟩
 have a:=vV h h
 rw[←pow4] at a
 have:2^(2*b+3)≤2^(2*(b+2)):=uR (by decide) (by omega)
 omega
theorem Znx (q j:Nat)(m:Bool):iS q j m=iS (q/2^j) 0 (decide (q%2^j≠0∨m=true)):=by
 unfold iS
 simp only[vT,rB,Nat.mod_one,sC,Nat.pow_one,ne_eq,not_true_eq_false,false_or,vN]
 rw[sA,← uO]
 have e:(¬ q%2^j=0∨q/2^(j+1)%2=1∨m=true)↔(q/2^(j+1)%2=1∨¬ q%2^j=0∨m=true):=by
  constructor
  ·rintro (h|h|h);exact Or.inr (Or.inl h);exact Or.inl h;exact Or.inr (Or.inr h)
  rintro (h|h|h);exact Or.inr (Or.inl h);exact Or.inl h;exact Or.inr (Or.inr h)
 simp only[pF,e]
def jJ (M:Nat) (s:Int):Bool:=decide (s<0∨isq (fq M 1 (-s))*isq (fq M 1 (-s))≠fq M 1 (-s))
theorem Zas (M:Nat)(s:Nat):fq M 1 (-(s:Int))=M*2^s:=by
 unfold fq fa fb
 rw[show (- -(s:Int)).toNat=s by omega,show (-(s:Int)).toNat=0 by omega];simp
theorem Zmp {M:Nat}(i:M%2=1)(s:Int)(j:Nat):jJ M (s-2*j)=decide (isq (fq M 1 (-s))%2^j≠0∨jJ M s=true):=by
 unfold jJ
 have k:fq M 1 (-(s-2*j))=fq M 1 (-s)/2^(2*j):=by rw[←ZaV];congr 1;omega
 rw[k,ZlB]
 simp only[vN]
 rw[qM]
 constructor
 ·intro h
  refine tX fun a=>?_
  have l:isq (fq M 1 (-s))%2^j=0:=tX fun h=>a (Or.inl h)
  have d:0≤s:=tX fun h=>a (Or.inr (Or.inl (by omega)))
  have b:isq (fq M 1 (-s))*isq (fq M 1 (-s))=fq M 1 (-s):=tX fun h=>a (Or.inr (Or.inr h))
  obtain⟨t,rfl⟩:=uB d
  rw[Zas] at *
  generalize isq (M*2^t)=r at *
  obtain⟨q,rfl⟩:=Nat.dvd_of_mod_eq_zero l
  rw[qL _ (p2 j)] at h
  have e:M*2^t=(q*q)*2^(2*j):=by rw[←b,pow4];simp only[uG,uF,vU]
  rcases h with h|h
  ·have c:0<q:=by
    rcases uI q with f|f
    ·subst f
     have:0<M*2^t:=tV (by omega) (p2 t)
     simp at b;omega
    exact f
   have m:=Zgm i t
   rw[e,ZcD (tV c c)] at m
   omega
  rw[e,qS _ (p2 _)] at h
  exact h rfl
 intro h
 refine tX fun a=>?_
 have d:0≤s-2*j:=tX fun h=>a (Or.inl (by omega))
 have b:isq (fq M 1 (-s))/2^j*(isq (fq M 1 (-s))/2^j)=fq M 1 (-s)/2^(2*j):=tX fun h=>a (Or.inr h)
 obtain⟨t,p⟩:=uB d
 obtain rfl:s=((t+2*j:Nat):Int):=by omega
 rw[Zas] at *
 have n:M*2^(t+2*j)/2^(2*j)=M*2^t:=by rw[uS,← uG,qS _ (p2 _)]
 rw[n] at b
 obtain⟨q,c⟩:=yE (isq (M*2^(t+2*j))/2^j)
 rw[c] at b
 have g:M*2^(t+2*j)=q*2^j*(q*2^j):=by
  rw[rC,b,← pow4,uS,uG]
 have o:isq (M*2^(t+2*j))=q*2^j:=ZjA (by rw[←g];exact uM _) (by
  rw[g];have:=qA (pE (q*2^j)) (pE (q*2^j));exact this)
 rw[o] at h
 rcases h with h|h|h
 ·exact h (Nat.mul_mod_left _ _)
 ·omega
 exact h g.symm
def sqK (M:Nat) (E:Int) (bits:Nat):Int:=((blen M:Int)+E-1)/2-((bits:Int)-1)
def sqM (M:Nat) (E:Int) (bits:Nat):Nat:=iS (isq (fq M 1 (-(E-2*sqK M E bits+2)))) 0 (jJ M (E-2*sqK M E bits+2))
theorem ZbL {M:Nat}(h:0<M)(s:Int)(c:0≤(blen M:Int)+s):(blen (fq M 1 (-s)):Int)=blen M+s:=by
 rcases pT 0 s with a|a
 ·obtain⟨t,rfl⟩:=uB a
  rw[Zas,cK h];omega
 obtain⟨t,b⟩:=uB (show 0 ≤ -s by omega)
 have:=ZaV M 1 0 t
 rw[Int.zero_add] at this
 rw[b,this,aM]
 have e:fq M 1 0=M:=by unfold fq fa fb;simp
 rw[e];omega
theorem Zpg {M:Nat}(k:M%2=1)(E:Int){bits:Nat}(u:0<bits)(s:Int)(v:(E-s)%2=0)(w:(2*bits+2:Int)≤blen M+s)(x:(blen M:Int)+s≤2*bits+3) :
 let r:=isq (fq M 1 (-s));let j:=blen r-bits-1
 blen r=bits+(j+1)∧(E-s)/2+(j+1:Nat)=sqK M E bits∧sqM M E bits=iS r j (jJ M s):=by
 intro r j
 have d:0<M:=by omega
 have e:=ZbL d s (by omega)
 obtain⟨y,z⟩:=Zpf (b:=bits) (n:=fq M 1 (-s)) (by omega) (by omega)
 have l:blen r=bits+(j+1):=by show blen (isq (fq M 1 (-s)))=bits+(blen (isq (fq M 1 (-s)))-bits-1+1);omega
 have f:j≤1:=by show blen (isq (fq M 1 (-s)))-bits-1≤1;omega
 -- the exponent
 obtain⟨g,h⟩:=eW (fq M 1 (-s))
 have m:isq (fq M 1 (-s))=r:=rfl
 rw[m] at g h
 have a:=iR.1 (show bits+j<blen r by omega)
 have c:=xF.1 (show blen r≤bits+j+1 by omega)
 have o:2^(2*(bits+j))≤fq M 1 (-s):=by rw[pow4];exact uE (vV a a) g
 have p:fq M 1 (-s)<2^(2*(bits+j+1)):=by rw[pow4];exact uQ h (vV c c)
 have A:=iR.2 o
 have B:=xF.2 p
 have i:(E-s)/2+(j+1:Nat)=sqK M E bits:=by unfold sqK;omega
 refine⟨l,i,?_⟩
 unfold sqM
 have q:E-2*sqK M E bits+2=s-2*(j:Int):=by rw[←i];omega
 have t:fq M 1 (-(s-2*(j:Int)))=fq M 1 (-s)/2^(2*j):=by rw[←ZaV];congr 1;omega
 rw[q,t,ZlB,Znx r j,Zmp k]
end Go.Proofs.YtklpdkpcocnglaaGreatDoor
namespace Go.Proofs.YtklpdkpcocnglaaGreatDoor
structure FR where
 s:Bool
 m:Nat
 e:Int
 err:Int
def Zgn:FR:=⟨false,0,0,0⟩
def errR (k:Int):FR:=⟨false,0,0,k⟩
def okE (e:Int):Prop := -1048576≤e∧e≤1048576
instance (e:Int):Decidable (okE e):=inferInstanceAs (Decidable (_∧_))
def wV (s:Bool) (n:Nat) (e:Int):FR:=if n=0 then Zgn else if okE (e+tzn n) then ⟨s,oddM n,e+tzn n,0⟩ else errR 2
theorem Zny {n:Nat}(s:Bool)(h:0<n)(j:Nat)(e:Int):wV s (n*2^j) e=wV s n (e+j):=by
 unfold wV
 have a:=tV h (p2 j)
 rw[uJ (show ¬ n*2^j=0 by omega),uJ (show ¬ n=0 by omega),ZcD h,Zpe h]
 have:e+((tzn n+j:Nat):Int)=e+j+tzn n:=by omega
 rw[this]
def lC (s:Bool) (n:Nat) (e:Int) (bits:Nat) (more:Bool):FR :=
 if blen n≤bits then wV s n e else wV s (iS n (blen n-bits-1) more) (e+(blen n-bits:Nat))
def wN (s:Bool) (n d:Nat) (e:Int) (bits:Nat):FR:=if n=0 then Zgn else wV s (rndM n d bits) (e+rndK n d bits)
theorem Zfh (s:Bool)(e:Int)(bits:Nat)(more:Bool):lC s 0 e bits more=Zgn:=by
 unfold lC;rw[uL (by rw[jI];omega)];rfl
theorem jQ (s:Bool)(d:Nat)(e:Int)(bits:Nat):wN s 0 d e bits=Zgn:=rfl
theorem kP (s:Bool)(n:Nat)(e:Int){bits:Nat}(f:0<bits):lC s n e bits false=wN s n 1 e bits:=by
 rcases uI n with rfl|b
 ·rw[Zfh,jQ]
 unfold lC wN
 rw[uJ (show ¬ n=0 by omega)]
 split
 ·rename_i h
  obtain⟨c,a⟩:=Zqs b f h
  rw[c,a,Zny s b]
  congr 1;omega
 rename_i h
 obtain⟨j,g⟩:∃ j,blen n=bits+(j+1):=⟨blen n-bits-1,by omega⟩
 have i:fq n 1 0=n:=by unfold fq fa fb;simp
 have k:fa n 0%fb 1 0=0:=by unfold fb;simp[Nat.mod_one]
 obtain⟨c,a⟩:=Zd9 b (d:=1) (by decide) f 0 j (by rw[i];exact g)
 rw[i,k] at a
 rw[c,a,g,show bits+(j+1)-bits-1=j by omega,show bits+(j+1)-bits=j+1 by omega,Int.zero_add]
 rfl
theorem ZkS (s:Bool){n d:Nat}(e:Int){bits:Nat}(a:0<n)(b:0<d)(c:0<bits) :
 lC s (fq n d (rk0 n d bits-1)) (e+(rk0 n d bits-1)) bits (decide (fa n (rk0 n d bits-1)%fb d (rk0 n d bits-1)≠0))=wN s n d e bits:=by
 obtain⟨h,i⟩:=Zjz a b c
 have f:=ZaV n d (rk0 n d bits-1) 1
 rw[show rk0 n d bits-1+(1:Nat)=rk0 n d bits by omega] at f
 rw[f,aM] at h i
 generalize o:rk0 n d bits-1=k at *
 obtain⟨j,g⟩:∃ j,blen (fq n d k)=bits+(j+1):=⟨blen (fq n d k)-bits-1,by omega⟩
 obtain⟨l,m⟩:=Zd9 a b c k j g
 unfold lC wN
 rw[uJ (by omega),uJ (by omega),l,m,g,show bits+(j+1)-bits-1=j by omega,show bits+(j+1)-bits=j+1 by omega,Int.add_assoc]
def addR (sx:Bool) (xm:Nat) (xe:Int) (sy:Bool) (ym:Nat) (ye:Int) (bits:Nat):FR :=
 wN (decide (sg sx (xm*2^(xe-min xe ye).toNat)+sg sy (ym*2^(ye-min xe ye).toNat)<0)) (sg sx (xm*2^(xe-min xe ye).toNat)+sg sy (ym*2^(ye-min xe ye).toNat)).natAbs 1 (min xe ye) bits
theorem Znz (sx:Bool)(b:Nat)(xe:Int)(c:Bool)(ym:Nat)(a:Int)(bits:Nat):addR sx b xe c ym a bits=addR c ym a sx b xe bits:=by
 unfold addR;rw[Int.min_comm a xe,Int.add_comm]
theorem Zh3 {a s r:Nat}(c:Bool)(e:Int){bits:Nat}(d:0<bits)(ha:bits+1≤blen a)(b:0<r)(f:r<2^s) :
 wN c (a*2^s+r) 1 e bits=wV c (iS a (blen a-bits-1) true) (e+s+(blen a:Int)-bits):=by
 obtain⟨g,h⟩:=Zqt d ha b f
 unfold wN
 rw[uJ (by omega),g,h]
 congr 1;omega
theorem ZnA {s t:Bool}{a b:Nat}(h:b<a):decide (sg s a+sg t b<0)=s∧(sg s a+sg t b).natAbs=(if s=t then a+b else a-b):=by
 cases s<;>cases t<;>simp[sg]<;>omega
theorem Zmq (sx:Bool){a:Nat}(xe:Int)(b:Bool){ym:Nat}(c:Int){bits:Nat}(k:0<bits)(m:0<a)(l:0<ym){f:Int}(C:f≤xe)(D:f≤blen a+xe-bits-2)(F:blen ym+c≤f) :
 addR sx a xe b ym c bits=addR sx a xe b 1 (f-1) bits:=by
 have n:=jG l
 have d:∀ (s r:Nat) (E:Int),E=f-s→0<r→r<2^s→wN (decide (sg sx (a*2^(xe-E).toNat)+sg b r<0)) (sg sx (a*2^(xe-E).toNat)+sg b r).natAbs 1 E bits =
  wV sx (iS (if sx=b then a*2^(xe-f).toNat else a*2^(xe-f).toNat-1) (blen (if sx=b then a*2^(xe-f).toNat else a*2^(xe-f).toNat-1)-bits-1) true) (f+(blen (if sx=b then a*2^(xe-f).toNat else a*2^(xe-f).toNat-1):Int)-bits):=by
  intro s r E Q h o
  have i:a*2^(xe-E).toNat=a*2^(xe-f).toNat*2^s:=by
   rw[uG,← uS];congr 2;omega
  have G:bits+2≤blen (a*2^(xe-f).toNat):=by rw[cK m];omega
  rw[i]
  generalize a*2^(xe-f).toNat=X at *
  have p:=iR.1 (show bits+1<blen X by omega)
  have H:2^bits*2=2^(bits+1):=(uO ..).symm
  have q:=p2 bits
  have u:=p2 s
  have j:1≤X:=by omega
  have v:2^s≤X*2^s:=by have:=uC (2^s) j;omega
  obtain⟨w,x⟩:=ZnA (s:=sx) (t:=b) (show r<X*2^s by omega)
  rw[w,x]
  by_cases e:sx=b
  ·rw[uL e,uL e,Zh3 sx E k (by omega) h o]
   congr 1;omega
  rw[uJ e,uJ e]
  have y:X*2^s-r=(X-1)*2^s+(2^s-r):=by rw[Nat.sub_mul,sV];omega
  have g:bits+1≤blen (X-1):=iR.2 (by omega)
  rw[y,Zh3 sx E k g (by omega) (by omega)]
  congr 1;omega
 have z:c<f:=by omega
 obtain⟨s,e⟩:=uB (show 0≤f-c by omega)
 have A:=d s ym c (by omega) l (uQ (gL ym) (uR (by decide) (by omega)))
 have B:=d 1 1 (f-1) (by omega) (by decide) (by decide)
 unfold addR
 rw[show min xe c=c by omega,show min xe (f-1)=f-1 by omega,show (c-c).toNat=0 by omega,show (f-1-(f-1)).toNat=0 by omega]
 simp only[vT,sB]
 rw[A,B]
def Zba (m:Nat) (e:Int) (bits:Nat):FR:=wV false (sqM m e bits) (sqK m e bits)
theorem bS {m:Nat}(a:m%2=1)(e:Int){bits:Nat}(b:0<bits)(s:Int)(c:(e-s)%2=0)(d:(2*bits+2:Int)≤blen m+s)(f:(blen m:Int)+s≤2*bits+3) :
 lC false (isq (fq m 1 (-s))) ((e-s)/2) bits (jJ m s)=Zba m e bits:=by
 obtain⟨i,g,h⟩:=Zpg a e b s c d f
 unfold lC Zba
 rw[uJ (by omega),h,← g]
 congr 1;omega
end Go.Proofs.YtklpdkpcocnglaaGreatDoor
namespace Go.Proofs.YtklpdkpcocnglaaGreatDoor
/-! ### powers of two as rational numbers -/
theorem iI (k:Int):(0:Rat)<2^k:=Rat.zpow_pos (by decide)
theorem cL (j k:Int):(2:Rat)^(j+k)=2^j*2^k:=Rat.zpow_add (by decide) j k
theorem eF (k:Nat):(2:Rat)^(k:Int)=((2^k:Nat):Rat):=by rw[Rat.zpow_natCast,Rat.natCast_pow];rfl
theorem ZnB (k:Int):(2:Rat)^(-k)*2^k=1:=by rw[←cL,Int.add_left_neg];rfl
theorem Zrs:(2:Rat)^(1:Int)=2:=by decide
def qv (z x:Int):Rat:=(z:Rat)*2^x
theorem ZbM (z x:Int)(j:Nat):qv (z*2^j) x=qv z (x+j):=by
 unfold qv
 rw[cL,eF,oD,show ((2:Int)^j:Int)=((2^j:Nat):Int) by rw[vI];rfl,pH,sE,pU (2^x)]
theorem Zqu (n d:Nat)(k:Int)(b:0<d):(fa n k:Rat)*2^k=(n:Rat)/(d:Rat)*(fb d k:Rat):=by
 have a:(d:Rat)≠0:=by intro h;have:=Rat.natCast_eq_zero_iff.1 h;omega
 have e:(n:Rat)/(d:Rat)*(d:Rat)=n:=Rat.div_mul_cancel a
 unfold fa fb
 rw[tH,tH,← eF,← eF]
 rw[sE,← cL,← sE,e]
 congr 2;omega
theorem ZnC {a b:Nat}(e:0<b):2*jU a b*b≤2*a+b∧2*a≤(2*jU a b+1)*b:=by
 have f:=vO a b
 have h:=uP a e
 unfold jU
 generalize a/b=q at *
 generalize a%b=r at *
 obtain⟨p,c⟩:=yE (b*q)
 rw[c] at f
 split
 ·have d:2*(q+1)*b=2*p+2*b:=by rw[←c,uG,uF (q+1),uN,uN];omega
  have g:(2*(q+1)+1)*b=2*p+2*b+b:=by rw[uU,d];omega
  omega
 have d:2*q*b=2*p:=by rw[←c,uG,uF q]
 have g:(2*q+1)*b=2*p+b:=by rw[uU,d];omega
 omega
structure Rnd (q:Rat) (bits:Nat) (m:Nat) (K:Int):Prop where
 lo:((2^(bits-1):Nat):Rat)*2^K≤q
 hi:q<((2^bits:Nat):Rat)*2^K
 dn:(2*(m:Rat)-1)*2^K≤2*q
 up:2*q≤(2*(m:Rat)+1)*2^K
 ml:2^(bits-1)≤m
 mh:m≤2^bits
theorem ZnD {q P A B U V M:Rat}(c:0<P)(c0:0<B)(d:A*P=q*B)(c1:U*B≤A)(c2:A<V*B)(j:2*M*B≤2*A+B)(k:2*A≤(2*M+1)*B):U*P≤q∧q<V*P∧(2*M-1)*P≤2*q∧2*q≤(2*M+1)*P:=by
 have a:∀ {x y:Rat},x*B≤y*B→x≤y:=fun {x y} h=>qZ h c0
 have b:∀ {x y:Rat},x*B<y*B→x<y:=fun {x y} h=>(pA c0).1 h
 have e:=tQ c1 (sJ c)
 have f:=(pA c).2 c2
 have g:=tQ j (sJ c)
 have i:=tQ k (sJ c)
 clear c1 c2 j k
 rw[d] at e f
 rw[Rat.add_mul,sE 2 A,d] at g
 rw[sE 2 A,d] at i
 clear d
 exact⟨a (by clear a b f g i;grind),b (by clear a b e g i;grind),a (by clear a b e f i;grind),a (by clear a b e f g;grind)⟩
theorem Zea {n d bits:Nat}(k:0<n)(c:0<d)(l:0<bits):Rnd ((n:Rat)/(d:Rat)) bits (rndM n d bits) (rndK n d bits):=by
 have o:=Zd8 k c l
 have r:=Zqu n d (rndK n d bits) c
 have b:=Zjy c (rndK n d bits)
 have g:=iR.1 (show bits-1<blen (fq n d (rndK n d bits)) by omega)
 have h:=xF.1 (Nat.le_of_eq o)
 have s:=iI (rndK n d bits)
 obtain⟨i,j⟩:=ZnC (a:=fa n (rndK n d bits)) b
 have t:=Zlz (fa n (rndK n d bits)) (fb d (rndK n d bits))
 unfold fq at g h
 have e:=(rM b).1 g
 have f:=(vG b).1 h
 have u:rndM n d bits=jU (fa n (rndK n d bits)) (fb d (rndK n d bits)):=rfl
 rw[←u] at i j t
 have v:2*(rndM n d bits:Rat)*(fb d (rndK n d bits):Rat)≤2*(fa n (rndK n d bits):Rat)+(fb d (rndK n d bits):Rat):=by
  have:=vQ.2 i
  simpa [tH,sG] using this
 have w:2*(fa n (rndK n d bits):Rat)≤(2*(rndM n d bits:Rat)+1)*(fb d (rndK n d bits):Rat):=by
  have:=vQ.2 j
  simpa [tH,sG] using this
 obtain⟨x,y,z,A⟩:=ZnD s (oE.2 b) r (by rw[←tH];exact vQ.2 e) (by rw[←tH];exact pV.2 f) v w
 exact⟨x,y,z,A,by omega,by omega⟩
theorem ZeN (k:Int):(2:Rat)^(k+1)=2*2^k:=by rw[cL,Zrs,pU]
theorem Zmr {j k:Int}(h:j≤k):(2:Rat)^j≤2^k:=by
 obtain⟨n,c⟩:=uB (show 0≤k-j by omega)
 have e:k=j+n:=by omega
 rw[e,cL,eF]
 have a:(1:Rat)≤((2^n:Nat):Rat):=by
  have:=vQ.2 (show 1≤2^n from p2 n)
  simpa using this
 have b:=vY a (sJ (iI j))
 rwa [Rat.mul_one] at b
theorem Zhr {bits:Nat}(a:0<bits):((2^bits:Nat):Rat)=2*((2^(bits-1):Nat):Rat):=by
 obtain⟨b,rfl⟩:∃ b,bits=b+1:=⟨bits-1,by omega⟩
 rw[vW,uO,uF,tH];rfl
theorem Zcb {P x y:Rat}(a:0<P)(h:x≤y):x*P≤y*P:=tQ h (sJ a)
section
variable {p q P:Rat} {bits m n:Nat} {J K:Int}
theorem Rnd.mono (v:0<bits)(h:Rnd p bits m J)(k:Rnd q bits n K)(w:p<q):(m:Rat)*2^J≤(n:Rat)*2^K:=by
 have e:=iI J
 have x:=iI K
 have r:(0:Rat)<((2^(bits-1):Nat):Rat):=oE.2 (p2 _)
 have a:(m:Rat)≤((2^bits:Nat):Rat):=vQ.2 h.mh
 have b:((2^(bits-1):Nat):Rat)≤(n:Rat):=vQ.2 k.ml
 have d:=Zhr v
 obtain⟨s,f,t,g,_,_⟩:=h
 obtain⟨i,j,l,u,_,_⟩:=k
 rcases qH J K with o|o|o
 ·have y:=Zcb e a
  have B:=Zcb x b
  have c:=Zmr (show J+1≤K by omega)
  rw[ZeN] at c
  rw[d] at y
  have e4:=vY c (sJ r)
  clear s f t g i j l u a b d c
  grind
 ·subst o
  have z:(2*(m:Rat)-1)<(2*(n:Rat)+1):=(pA e).1 (by
   clear s f g i j l a b d
   grind)
  have:(m:Rat)≤(n:Rat):=vQ.2 (by
   have A:((2*m:Nat):Rat)<((2*n+2:Nat):Rat):=by
    simp only[sG,tH]
    have:((2:Nat):Rat)=2:=rfl
    rw[this];grind
   have:=pV.1 A
   omega)
  exact Zcb e this
 exfalso
 have c:=Zmr (show K+1≤J by omega)
 rw[ZeN] at c
 have e4:=vY c (sJ r)
 rw[d] at j
 clear f t g i l u a b d c
 grind
theorem ZnE {m z:Nat}(c:2*(m:Rat)-1≤2*(z:Rat))(d:2*(z:Rat)≤2*(m:Rat)+1):m=z:=by
 have a:((2*m:Nat):Rat)≤((2*z+1:Nat):Rat):=by
  simp only[sG,tH]
  have:((2:Nat):Rat)=2:=rfl
  have:((1:Nat):Rat)=1:=rfl
  grind
 have b:((2*z:Nat):Rat)≤((2*m+1:Nat):Rat):=by
  simp only[sG,tH]
  have:((2:Nat):Rat)=2:=rfl
  have:((1:Nat):Rat)=1:=rfl
  grind
 have e:=vQ.1 a
 have f:=vQ.1 b
 omega
theorem Rnd.rep (r:0<bits)(h:Rnd q bits m K){z:Nat}{t:Int}(d:q=(z:Rat)*2^t)(s:z≤2^bits):(m:Rat)*2^K=q:=by
 have f:=iI K
 have u:=iI t
 have v:(0:Rat)<((2^(bits-1):Nat):Rat):=oE.2 (p2 _)
 have g:=Zhr r
 have a:∀ Z:Nat,q=(Z:Rat)*2^K→(m:Rat)*2^K=q:=fun Z e=>by
  obtain⟨b,i,k,l,_,_⟩:=h
  rw[e] at k l
  have:m=Z:=ZnE (qZ (by clear b i l;grind) f) (qZ (by clear b i k;grind) f)
  rw[this,e]
 rcases pT K t with w|w
 ·obtain⟨j,A⟩:=uB (show 0≤t-K by omega)
  refine a (z*2^j) ?_
  rw[d,show t=K+(j:Int) by omega,cL,eF,tH,sE,pU (2^K)]
 rcases (by omega:t=K∨t+1≤K) with e|e
 ·subst e;exact a z d
 have o:=Zmr e
 rw[ZeN] at o
 have c:(z:Rat)≤((2^bits:Nat):Rat):=vQ.2 s
 have e4:=vY o (sJ v)
 have x:=Zcb u c
 have b:=h.lo
 rw[g] at x
 -- all are equal
 have y:q=((2^(bits-1):Nat):Rat)*2^K:=by
  rw[d] at b ⊢
  clear g c a
  apply Rat.le_antisymm
  ·clear b;grind
  exact b
 exact a _ y
end
end Go.Proofs.YtklpdkpcocnglaaGreatDoor
namespace Go.Proofs.YtklpdkpcocnglaaGreatDoor
def RndS (bits:Nat) (q v:Rat):Prop:=(q=0∧v=0)∨(0<q∧∃ m K,Rnd q bits m K∧v=(m:Rat)*2^K)∨(q<0∧∃ m K,Rnd (-q) bits m K∧v = -((m:Rat)*2^K))
section
variable {bits:Nat} {p q v w:Rat}
theorem RndS.neg (h:RndS bits q v):RndS bits (-q) (-v):=by
 rcases h with ⟨rfl,rfl⟩|⟨b,m,K,a,rfl⟩|⟨b,m,K,a,rfl⟩
 ·exact Or.inl ⟨by grind,by grind⟩
 ·exact Or.inr (Or.inr ⟨by grind,m,K,by rw[Rat.neg_neg];exact a,rfl⟩)
 exact Or.inr (Or.inl ⟨by grind,m,K,a,by rw[Rat.neg_neg]⟩)
theorem Zi1 (m:Nat)(K:Int):(0:Rat)≤(m:Rat)*2^K:=Rat.mul_nonneg Rat.natCast_nonneg (sJ (iI K))
theorem RndS.nn (h:RndS bits q v)(c:0≤q):0≤v:=by
 rcases h with ⟨rfl,rfl⟩|⟨a,m,K,b,rfl⟩|⟨a,m,K,b,rfl⟩
 ·exact pN
 ·exact Zi1 m K
 exfalso;grind
theorem RndS.np (h:RndS bits q v)(a:q≤0):v≤0:=by
 have:=h.neg.nn (by grind)
 grind
theorem RndS.mono (f:0<bits)(h:RndS bits p v)(k:RndS bits q w)(d:p<q):v≤w:=by
 by_cases g:0<p
 ·rcases h with ⟨rfl,rfl⟩|⟨c,m,K,a,rfl⟩|⟨c,m,K,a,rfl⟩
  ·exfalso;grind
  ·rcases k with ⟨rfl,rfl⟩|⟨e,n,J,b,rfl⟩|⟨e,n,J,b,rfl⟩
   ·exfalso;grind
   ·exact a.mono f b d
   exfalso;grind
  exfalso;grind
 by_cases i:q<0
 ·rcases h with ⟨rfl,rfl⟩|⟨c,m,K,a,rfl⟩|⟨c,m,K,a,rfl⟩
  ·exfalso;grind
  ·exfalso;grind
  rcases k with ⟨rfl,rfl⟩|⟨e,n,J,b,rfl⟩|⟨e,n,J,b,rfl⟩
  ·exfalso;grind
  ·exfalso;grind
  have:=b.mono f a (by grind)
  grind
 have c:=h.np (by grind)
 have a:=k.nn (by grind)
 grind
def Rep (bits:Nat) (v:Rat):Prop:=∃ (s:Bool) (z:Nat) (t:Int),v=(if s then -((z:Rat)*2^t) else (z:Rat)*2^t)∧z≤2^bits
theorem Rep.neg (h:Rep bits v):Rep bits (-v):=by
 obtain⟨s,z,t,rfl,a⟩:=h
 refine⟨!s,z,t,?_,a⟩
 cases s
 ·rfl
 simp
theorem RndS.self_pos (b:0<bits)(h:RndS bits q v)(c:Rep bits q)(i:0<q):v=q:=by
 obtain⟨s,z,t,e,d⟩:=c
 have f:s=false:=by
  cases s
  ·rfl
  exfalso
  rw[uL rfl] at e
  have:=Zi1 z t
  grind
 subst f
 rw[uJ (by decide)] at e
 rcases h with ⟨rfl,rfl⟩|⟨g,m,K,a,rfl⟩|⟨g,m,K,a,rfl⟩
 ·rfl
 ·exact a.rep b e d
 exfalso;grind
theorem RndS.self (b:0<bits)(h:RndS bits q v)(c:Rep bits q):v=q:=by
 by_cases d:0<q
 ·exact h.self_pos b c d
 by_cases g:q<0
 ·have:=h.neg.self_pos b c.neg (by grind)
  grind
 have e:q=0:=by grind
 rcases h with ⟨a,f⟩|⟨a,_⟩|⟨a,_⟩
 ·rw[a,f]
 ·exfalso;grind
 exfalso;grind
theorem RndS.ge (b:0<bits)(h:RndS bits q v)(c:Rep bits w)(a:RndS bits w w)(d:w≤q):w≤v:=by
 by_cases e:w=q
 ·subst e;rw[h.self b c];exact pN
 exact a.mono b h (by grind)
theorem Zeb {bits:Nat}(a:0<bits):(2:Rat)^(-(bits:Int))*((2^(bits-1):Nat):Rat)*2=1:=by
 rw[sE,pU _ 2,← Zhr a,← eF,ZnB]
theorem Rnd.err {m:Nat}{K:Int}(d:0<bits)(h:Rnd q bits m K):(m:Rat)*2^K-q≤2^(-(bits:Int))*q∧q-(m:Rat)*2^K≤2^(-(bits:Int))*q∧2*((m:Rat)*2^K-q)≤2^K∧2*(q-(m:Rat)*2^K)≤2^K:=by
 obtain⟨a,e,i,j,f,g⟩:=h
 have b:=Zeb d
 have c:=iI (-(bits:Int))
 have k:=vY a (sJ c)
 have l:(2:Rat)^(-(bits:Int))*(((2^(bits-1):Nat):Rat)*2^K)*2=2^K:=by
  rw[←sE,sE _ (2^K) 2,pU (2^K) 2,← sE,b,pO]
 generalize (2:Rat)^(-(bits:Int))*(((2^(bits-1):Nat):Rat)*2^K)=H at *
 generalize (2:Rat)^(-(bits:Int))*q=E at *
 clear b c a e f g
 generalize (2:Rat)^K=P at *
 refine⟨?_,?_,?_,?_⟩<;>grind
theorem Zph {z:Nat}(a:0<bits)(b:0<z)(t:Int):∃ m K,Rnd ((z:Rat)*2^t) bits m K:=by
 rcases pT 0 t with h|h
 ·obtain⟨j,rfl⟩:=uB h
  refine⟨rndM (z*2^j) 1 bits,rndK (z*2^j) 1 bits,?_⟩
  ·have:=Zea (n:=z*2^j) (d:=1) (bits:=bits) (tV b (p2 j)) (by decide) a
   rwa [tH,← eF,show ((1:Nat):Rat)=1 from rfl,show ∀ x:Rat,x/1=x from fun x=>by grind] at this
 obtain⟨j,c⟩:=uB (show 0 ≤ -t by omega)
 refine⟨rndM z (2^j) bits,rndK z (2^j) bits,?_⟩
 ·have:=Zea (n:=z) (d:=2^j) (bits:=bits) b (p2 j) a
  rw[←eF,Rat.div_def,← c] at this
  have e:((2:Rat)^(-t))⁻¹=2^t:=by rw[←Rat.zpow_neg,Int.neg_neg]
  rwa [e] at this
theorem Rep.rnd (b:0<bits)(h:Rep bits v):RndS bits v v:=by
 obtain⟨s,z,t,rfl,e⟩:=h
 rcases uI z with rfl|c
 ·left
  have:((0:Nat):Rat)=0:=rfl
  cases s<;>simp
 obtain⟨m,K,a⟩:=Zph b c t
 have f:(0:Rat)<(z:Rat)*2^t:=Rat.mul_pos (oE.2 c) (iI t)
 have d:=a.rep b rfl e
 cases s
 ·exact Or.inr (Or.inl ⟨f,m,K,a,d.symm⟩)
 refine Or.inr (Or.inr ⟨?_,m,K,?_,?_⟩)
 ·simp only[pS];grind
 ·simp only[pS,Rat.neg_neg];exact a
 simp only[pS,d]
theorem RndS.ge' (b:0<bits)(h:RndS bits q v)(c:Rep bits w)(a:w≤q):w≤v:=h.ge b c (c.rnd b) a
theorem RndS.le' (a:0<bits)(h:RndS bits q v)(b:Rep bits w)(c:q≤w):v≤w:=by
 have:=h.neg.ge' a b.neg (by grind)
 grind
theorem ZeO {m:Nat}(h:m≤2^bits)(K:Int):Rep bits ((m:Rat)*2^K):=⟨false,m,K,rfl,h⟩
theorem Zqv {m:Nat}{K:Int}(d:0<bits)(h:2^(bits-1)≤m):(2:Rat)^K≤2*2^(-(bits:Int))*((m:Rat)*2^K):=by
 have a:=Zeb d
 have b:((2^(bits-1):Nat):Rat)≤(m:Rat):=vQ.2 h
 have c:=Zcb (iI K) b
 have e:=vY c (sJ (iI (-(bits:Int))))
 have f:(2:Rat)^(-(bits:Int))*(((2^(bits-1):Nat):Rat)*2^K)*2=2^K:=by
  rw[←sE,sE _ (2^K) 2,pU (2^K) 2,← sE,a,pO]
 generalize (2:Rat)^(-(bits:Int))*(((2^(bits-1):Nat):Rat)*2^K)=H at *
 rw[sE 2]
 generalize (2:Rat)^(-(bits:Int))*((m:Rat)*2^K)=E at *
 clear a b c
 grind
theorem Rnd.next {m:Nat}{K:Int}{y:Rat}(b:0<bits)(h:Rnd q bits m K)(c:(m:Rat)*2^K+2^K≤y)(a:RndS bits y w):(m:Rat)*2^K-q≤w-q∧q-(m:Rat)*2^K≤w-q:=by
 have i:=iI K
 obtain⟨_,_,j,k⟩:=h.err b
 have l:=a.ge' b (ZeO h.mh K) (by grind)
 by_cases d:m+1≤2^bits
 ·have e:=a.ge' (w:=((m+1:Nat):Rat)*2^K) b (ZeO d K) (by rw[sG,Rat.add_mul,show ((1:Nat):Rat)=1 from rfl,pO];exact c)
  rw[sG,Rat.add_mul,show ((1:Nat):Rat)=1 from rfl,pO] at e
  clear c a
  generalize (m:Rat)*2^K=V at *
  generalize (2:Rat)^K=P at *
  constructor<;>grind
 have f:m=2^bits:=by have:=h.mh;omega
 have g:=h.hi
 rw[←f] at g
 clear c a
 generalize (m:Rat)*2^K=V at *
 constructor<;>grind
theorem Rnd.last {m:Nat}{K:Int}{y:Rat}(a:0<bits)(h:Rnd q bits m K)(c:y≤(m:Rat)*2^K-2^K)(b:RndS bits y w):(m:Rat)*2^K-q≤q-w∧q-(m:Rat)*2^K≤q-w:=by
 have j:=iI K
 obtain⟨_,_,e,f⟩:=h.err a
 obtain⟨n,g⟩:∃ n,m=n+1:=⟨m-1,by have:=h.ml;have:=p2 (bits-1);omega⟩
 have i:=b.le' a (ZeO h.mh K) (by grind)
 have k:=h.mh
 clear h
 subst g
 have d:((n+1:Nat):Rat)*2^K=(n:Rat)*2^K+2^K:=by rw[sG,Rat.add_mul,show ((1:Nat):Rat)=1 from rfl,pO]
 rw[d] at c i e f ⊢
 have l:=b.le' (w:=((n:Nat):Rat)*2^K) a (ZeO (by omega) K) (by grind)
 clear c b d
 generalize (n:Rat)*2^K=V at *
 generalize (2:Rat)^K=P at *
 constructor<;>grind
def rabs (q:Rat):Rat:=if q<0 then -q else q
theorem Zdc (q:Rat):rabs (-q)=rabs q:=by unfold rabs;split<;>split<;>grind
theorem Zhs {x y:Rat}(a:x≤y)(b : -x≤y):rabs x≤y:=by unfold rabs;split<;>grind
theorem ZjB (b:0<bits)(k:0<q)(h:RndS bits q v){w1 w2:Rat}(c:RndS bits (v+2*2^(-(bits:Int))*rabs v) w1)(d:RndS bits (v-2*2^(-(bits:Int))*rabs v) w2) :
 rabs (v-q)≤2^(-(bits:Int))*rabs q∧rabs (v-q)≤rabs (w1-q)∧rabs (v-q)≤rabs (w2-q):=by
 rcases h with ⟨rfl,rfl⟩|⟨i,m,K,a,rfl⟩|⟨i,m,K,a,rfl⟩
 ·exfalso;grind
 ·have j:=Zqv (K:=K) b a.ml
  have l:=Zi1 m K
  have e:rabs ((m:Rat)*2^K)=(m:Rat)*2^K:=by unfold rabs;rw[uJ (by grind)]
  rw[e] at c d
  obtain⟨n,o⟩:=a.next b (by generalize 2*2^(-(bits:Int))*((m:Rat)*2^K)=S at *;grind) c
  obtain⟨r,s⟩:=a.last b (by generalize 2*2^(-(bits:Int))*((m:Rat)*2^K)=S at *;grind) d
  obtain⟨t,u,_,_⟩:=a.err b
  have f:rabs q=q:=by unfold rabs;rw[uJ (by grind)]
  rw[f]
  clear c d j a e f
  generalize (m:Rat)*2^K=V at *
  generalize (2:Rat)^(-(bits:Int))*q=E at *
  have g:∀ x:Rat,x≤rabs x ∧ -x≤rabs x:=fun x=>by unfold rabs;split<;>grind
  have y:=g (w1-q)
  have z:=g (w2-q)
  refine⟨Zhs (by grind) (by grind),Zhs (by grind) (by grind),Zhs (by grind) (by grind)⟩
 exfalso;grind
theorem Zpi (d:0<bits)(h:RndS bits q v){w1 w2:Rat}(f:RndS bits (v+2*2^(-(bits:Int))*rabs v) w1)(g:RndS bits (v-2*2^(-(bits:Int))*rabs v) w2) :
 rabs (v-q)≤2^(-(bits:Int))*rabs q∧rabs (v-q)≤rabs (w1-q)∧rabs (v-q)≤rabs (w2-q):=by
 by_cases l:0<q
 ·exact ZjB d l h f g
 by_cases o:q<0
 ·have i:=f.neg
  have j:=g.neg
  rw[show -(v+2*2^(-(bits:Int))*rabs v) = -v-2*2^(-(bits:Int))*rabs (-v) by rw[Zdc];grind] at i
  rw[show -(v-2*2^(-(bits:Int))*rabs v) = -v+2*2^(-(bits:Int))*rabs (-v) by rw[Zdc];grind] at j
  obtain⟨a,b,c⟩:=ZjB d (by grind) h.neg j i
  have e:∀ x y:Rat,rabs (-x - -y)=rabs (x-y):=fun x y=>by rw[←Zdc (x-y)];congr 1;grind
  rw[e,Zdc] at a
  rw[e,e] at b c
  exact⟨a,c,b⟩
 have e:q=0:=by grind
 rcases h with ⟨_,rfl⟩|⟨m,_⟩|⟨m,_⟩
 ·subst e
  have n:rabs 0=0:=by unfold rabs;rw[uJ (by decide)]
  have k:∀ x:Rat,0≤rabs x:=fun x=>by unfold rabs;split<;>grind
  rw[show (0:Rat)-0=0 by grind,n,Rat.mul_zero]
  exact⟨pN,k _,k _⟩
 ·exfalso;grind
 exfalso;grind
end
end Go.Proofs.YtklpdkpcocnglaaGreatDoor
namespace Go.Proofs.YtklpdkpcocnglaaGreatDoor
open Go.RowKit
/-! ### the search for the exponent -/
theorem Zqw (n d bits:Nat):rndK n d bits=rk0 n d bits∨rndK n d bits=rk0 n d bits+1:=by
 unfold rndK;split
 ·exact Or.inl rfl
 exact Or.inr rfl
theorem Zht {n d bits:Nat}{k:Int}(a:k=rk0 n d bits∨k=rndK n d bits):(blen n:Int)-blen d-bits≤k∧k≤(blen n:Int)-blen d-bits+1:=by
 have h:=Zqw n d bits
 unfold rk0 at *
 omega
/-! ### the nearest integer -/
/-! ### roots -/
end Go.Proofs.YtklpdkpcocnglaaGreatDoor
