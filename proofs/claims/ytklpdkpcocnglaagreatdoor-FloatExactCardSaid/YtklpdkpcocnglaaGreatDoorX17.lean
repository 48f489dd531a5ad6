/-
 My texts Nu, Nq, Nv, Nad, RStr, Frac, Rt, FlT, Reduce, Whole, Ra, Reduce2, Ts, Fs, Cmp, Tx, Dc, Len, Vl, PaM, Pa, Px, Gq, Nf, Nt, Nd, Len2, Nrd, RdK, Nm put together.
-/
import Derived.Test.YtklpdkpcocnglaaGreatDoorX16
import Derived.Test.YtklpdkpcocnglaaGreatDoorX14
import Derived.Test.YtklpdkpcocnglaaGreatDoorX11
import Derived.Test.YtklpdkpcocnglaaGreatDoorX02
set_option maxRecDepth 100000
set_option maxHeartbeats 8000000
namespace Go.Proofs.YtklpdkpcocnglaaGreatDoor
open Go.RowKit
def shNb (r:FR) (x:ShN):Value:=.tuple #[yV r.s x.1 x.2.1 x.2.2 r.e,.int .i64 r.err]
def wA (w:World) (r:FR) (e:Ending) (w':World):Prop:=∃ x:ShN,e=.returned (shNb r x)∧zK w' (xH x) r.m∧Ext w w'
theorem xX {w w':World}{e:Ending}{r:FR}(h:wA w r e w'):kM (shNb r) (fun x w=>zK w (xH x) r.m) w e w':=by
 obtain⟨x,rfl,a,Q⟩:=h
 exact⟨x,rfl,Q,boxn Q (fun S b c d=>a.nrb c d)⟩
theorem ZmG (s:Bool)(e:Int):wV s 0 e=⟨false,0,0,0⟩:=rfl
theorem ZjR {n:Nat}(s:Bool){e:Int}(a:0<n)(b:¬ e+tzn n < -1048576)(c:¬ e+tzn n>1048576):wV s n e=⟨s,oddM n,e+tzn n,0⟩:=by
 unfold wV
 rw[uJ (by omega),uL ⟨by omega,by omega⟩]
theorem Zid {n:Nat}(s:Bool){e:Int}(a:0<n)(h:e+tzn n < -1048576∨e+tzn n>1048576):wV s n e=⟨false,0,0,2⟩:=by
 unfold wV
 rw[uJ (by omega),uJ (by rintro⟨b,c⟩;omega)];rfl
theorem gM (n:Nat):blen n≤64*wl n:=by
 rw[xF,sZ]
 have:=ZeG n
 rwa [zO] at this
theorem ZrG {n:Nat}(h:wl n≤4294967296):tzn n≤274877906944:=by
 rcases uI n with rfl|a
 ·rw[tzn,dif_pos (Or.inl rfl)];omega
 obtain⟨c,b⟩:=kZ a
 have d:blen n=blen (oddM n)+tzn n:=by
  have:=cK (show 0<oddM n by omega) (tzn n)
  rwa [←b] at this
 have:=gM n
 omega
theorem ZgE {n:Nat}(h:wl n≤4294967296):blen n≤274877906944:=by have:=gM n;omega
theorem Zbf {s:Bool}{n bits:Nat}{e:Int}{m:Bool}(h:blen n≤bits):lC s n e bits m=wV s n e:=by unfold lC;rw[uL h]
theorem fK {s:Bool}{n bits j:Nat}{e:Int}{m:Bool}(h:blen n=bits+(j+1))(a:n/2^j%2=1)(b:tzn n<j∨n/2^(j+1)%2=1∨m=true)(c:0<n) :
 lC s n e bits m=wV s (n/2^(j+1)+1) (e+((j+1:Nat):Int)):=by
 unfold lC iS
 rw[uJ (by omega),h,show bits+(j+1)-bits-1=j by omega,show bits+(j+1)-bits=j+1 by omega,uL ⟨a,by rw[←Znw c];exact b⟩]
theorem dM {s:Bool}{n bits j:Nat}{e:Int}{m:Bool}(h:blen n=bits+(j+1))(a:0<n)(b:¬ (n/2^j%2=1∧(tzn n<j∨n/2^(j+1)%2=1∨m=true))) :
 lC s n e bits m=wV s (n/2^(j+1)) (e+((j+1:Nat):Int)):=by
 unfold lC iS
 rw[uJ (by omega),h,show bits+(j+1)-bits-1=j by omega,show bits+(j+1)-bits=j+1 by omega,uJ (by rw[←Znw a];exact b)]
theorem ZrH:Trim [1]:=by
 intro k a
 have:k=0:=by simp at a;omega
 subst this
 simp
theorem wl_1:wl 1≤4294967296:=uE (bL.2 (by rw[zO];decide)) (by decide)
theorem fE {w:World}{b:Nat}(h:Blk 94 w b #[.int .u64 1]):zK w (.slice (some ⟨b,0,none⟩) 1 1) 1 :=
 ⟨_,[1],1,rfl,uM _,(Blk.own1 (r:=1) h).shows0,Dig.nil.cons (by rw[zO];decide),ZrH,rfl⟩
def Zdj (w:World) (Q:Nat) (v:Value):Prop:=Q<w.heap.size∧w.cell? ⟨Q,0,none⟩=some v
theorem Zdj.ext {w w':World}{Q:Nat}{v:Value}(h:Zdj w Q v)(a:Ext w w'):Zdj w' Q v:=⟨uQ h.1 a.size,(a.cell (p:=⟨Q,0,none⟩) h.1 (fun f=>f)).trans h.2⟩
theorem ZnZ (Q:Nat)(A:Option Addr)(l c:Nat)(w:World)(h:Zdj w Q (.slice A l c)):yA 143 #[.pointer (some ⟨Q,0,none⟩)] w (RetV w (.bool (decide (0<l)))):=by
 have a:=h.2
 go_enter Tryz.func143,Tryz.ntmps143
 go_wp2
 go_ret
 exact⟨vP Ending.returned (vP Value.bool (qM.2 (by omega))),Fr.refl _ _⟩
theorem Zn0 (w:World):yA 125 #[] w (RetV w (.bool false)):=by
 go_enter Tryz.func125,Tryz.ntmps125
 go_wp2
 go_ret
 exact⟨rfl,Fr.refl _ _⟩
theorem kF (s:Bool)(A:Option Addr)(l c n:Nat)(e:Int)(w:World)(t:Glob w)(q:zK w (.slice A l c) n)(o:wl n≤4294967296)(u : -1152921504606846976≤e)(x:e≤1152921504606846976) :
 yA 118 #[.bool s,.slice A l c,.int .i64 e] w (wA w (wV s n e)):=by
 refine zV (Φ:=fun w=>(Glob w∧zK w (.slice A l c) (n))) Tryz.func118 rfl (by kernel_rfl) (fun w' r=>⟨t.ext r,q.ext r⟩) ?_
 refine zC ?_
 have y:=q.len0
 have z:=ZrG o
 have B:=@kT n
 refine zB (xq 2 [(6,.p 6 0),yJ 7 0] [yF 6 79 false none 0 0 0] ?_)
 refine xe (zA (zC (zC (zB (xq 3 [yB 11 (((l:Int):Int) == 0)] [] ?_)))))
 refine xe (zA ?_)
 refine yQ ((((l:Int):Int) == 0)) (fun b=>?_) fun b=>?_
 ·have f:=tY.1 b
  have m:n=0:=by omega
  refine zC (zB (xq 3 [yJ 7 0] [] ?_))
  refine xe (zA (zG (zI ?_)))
  refine yR (.tuple #[yV false none 0 0 0,.int .i64 0]) fun w' R Q=>?_
  rw[m,ZmG]
  exact⟨(none,0,0),rfl,zK.zero _,R⟩
 have f:=wY b
 have m:0<n:=by omega
 refine zN (zA (zC (zB (xq 1 [eS1 13 A l c] [] ?_))))
 refine xqc 157 [.slice A l c] 14 (fun _:Unit=>.int .i64 ((tzn n:Nat):Int)) _ (fun w R Q=>yN (Zbe Q.1 Q.2 o m)) fun C=>?_
 refine xq 1 [yJ 8 ((tzn n:Nat):Int)] [] ?_
 refine xe (zA (zC (zB (xq 3 [yJ 17 (IntKind.i64.wrap (e+((tzn n:Nat):Int)))] [] ?_))))
 rw[yW (e+((tzn n:Nat):Int)) (e+((tzn n:Nat):Int)) (by omega)]
 refine xq 1 [yJ 2 (e+((tzn n:Nat):Int))] [] ?_
 refine xe (zA (zC (zC (zB (xq 3 [(20,.v (.bool (decide ((e+((tzn n:Nat):Int))<(-1048576)))))] [] ?_)))))
 rcases bl2 ((decide ((e+((tzn n:Nat):Int))<(-1048576)))) with a|a
 ·rw[a]
  have g:=uD a
  refine xq 3 [yB 23 true] [] ?_
  refine xe (zA (xa (zC (zB (xq 3 [yJ 7 2] [] ?_)))))
  refine xe (zA (zG (zI ?_)))
  refine yR (.tuple #[yV false none 0 0 0,.int .i64 2]) fun w' R Q=>?_
  rw[Zid s m (by omega)]
  exact⟨(none,0,0),rfl,zK.zero _,R⟩
 rw[a]
 have g:=uH a
 refine xq 3 [(23,.v (.bool (decide ((e+((tzn n:Nat):Int))>1048576))))] [] ?_
 refine xe (zA ?_)
 refine yQ ((decide ((e+((tzn n:Nat):Int))>1048576))) (fun d=>?_) fun d=>?_
 ·have h:=uD d
  refine zC (zB (xq 3 [yJ 7 2] [] ?_))
  refine xe (zA (zG (zI ?_)))
  refine yR (.tuple #[yV false none 0 0 0,.int .i64 2]) fun w' R Q=>?_
  rw[Zid s m (by omega)]
  exact⟨(none,0,0),rfl,zK.zero _,R⟩
 have h:=uH d
 refine zN (zA (zC (zB (xq 3 [yB 25 s,eS1 26 A l c,yJ 27 ((tzn n:Nat):Int)] [] ?_))))
 refine xqc 128 [.slice A l c,.int .i64 ((tzn n:Nat):Int)] 28 xH _ (fun w R Q=>yM xD (gI (tzn n) Q.1.2 o (by omega))) fun⟨i,j,k⟩=>?_
 refine xq 4 [yJ 7 0] [yF 6 79 s i j k (e+((tzn n:Nat):Int))] ?_
 refine xe (zA (zG ?_))
 refine yR (.tuple #[yV s i j k (e+((tzn n:Nat):Int)),.int .i64 0]) fun w' R Q=>?_
 rw[ZjR s m (by omega) (by omega)]
 exact⟨(i,j,k),rfl,Q.2,R⟩
theorem gD (s:Bool)(A:Option Addr)(l c n:Nat)(e:Int)(bits:Nat)(w:World)(hg:Glob w)(hN:zK w (.slice A l c) n)(E:wl n≤4294967296)(y0 : -576460752303423488≤e)(z0:e≤576460752303423488)(hb:bits≤4294967296) :
 yA 123 #[.bool s,.slice A l c,.int .i64 e,.int .i64 ((bits:Nat):Int),.func (.func 125) #[] #[]] w (wA w (lC s n e bits false)):=by
 refine zV (Φ:=fun w=>(Glob w∧zK w (.slice A l c) (n))) Tryz.func123 rfl (by kernel_rfl) (fun w' hf=>⟨hg.ext hf,hN.ext hf⟩) ?_
 refine zC ?_
 have A0:=ZgE E
 by_cases F:blen n≤bits
 ·obtain⟨k,hk⟩:∃ k,bits=blen n+k:=⟨bits-blen n,by omega⟩
  refine zB (xq 2 [(10,.p 10 0),yJ 11 0] [yF 10 79 false none 0 0 0] ?_)
  refine xe (zA (zC (zB (xq 1 [eS1 14 A l c] [] ?_))))
  refine xqc 65 [.slice A l c] 15 (fun _:Unit=>.int .i64 ((blen n:Nat):Int)) _ (fun w R Q=>yN (kD Q.2 E)) fun xx=>?_
  refine xq 2 [yJ 17 (IntKind.i64.wrap (((blen n:Nat):Int)-(bits:Int)))] [] ?_
  rw[show IntKind.i64.wrap (((blen n:Nat):Int)-(bits:Int)) = -(k:Int) by rw[IntKind.wrap_i64];omega]
  refine xq 1 [yJ 12 (-(k:Int))] [] ?_
  refine xe (zA (zC (zC (zB (xq 2 [(19,.v (.bool (decide ((-(k:Int))≤0))))] [] ?_)))))
  rw[show decide (-(k:Int)≤0)=true from uW (by omega)]
  refine xe (zA (xa (zC (zB (xq 3 [yB 20 s,eS1 21 A l c,yJ 22 e] [] ?_)))))
  obtain⟨g,G⟩:=yE (wV s (n) (e))
  refine xqc 118 [.bool s,.slice A l c,.int .i64 e] 23 (shNb g) _ (fun w R Q=>yM xX ((show Calls _ _ _ _ (wA w g) by rw[←G];exact kF s _ _ _ _ _ _ Q.1.1 Q.1.2 E (by omega) (by omega)))) fun⟨L,M,N⟩=>?_
  refine xq 4 [yJ 11 g.err] [yF 10 79 g.s L M N g.e] ?_
  refine xe (zA (zG (zI ?_)))
  refine yR (.tuple #[yV g.s L M N g.e,.int .i64 g.err]) fun w' R Q=>?_
  rw[Zbf F,G]
  exact⟨(L,M,N),rfl,Q.2,R⟩
 obtain⟨j,hj⟩:∃ j,blen n=bits+(j+1):=⟨blen n-bits-1,by omega⟩
 have O:0<n:=sY (fun e=>by rw[e,jI] at F;omega)
 have B:wl (n/2^(j+1))≤4294967296:=uE (wR (uZ _ _)) E
 have P:wl (n/2^(j+1)+1)≤4294967296:=uE (wR (qV O (pK (by omega)))) E
 obtain⟨b1,S⟩:=yE (decide (n/2^j%2=1))
 obtain⟨b2,T⟩:=yE (decide (n/2^(j+1)/2^0%2=1))
 obtain⟨b3,U⟩:=yE false
 refine zB (xq 2 [(10,.p 10 0),yJ 11 0] [yF 10 79 false none 0 0 0] ?_)
 refine xe (zA (zC (zB (xq 1 [eS1 14 A l c] [] ?_))))
 refine xqc 65 [.slice A l c] 15 (fun _:Unit=>.int .i64 ((blen n:Nat):Int)) _ (fun w R Q=>yN (kD Q.2 E)) fun xx=>?_
 refine xq 2 [yJ 17 (IntKind.i64.wrap (((blen n:Nat):Int)-(bits:Int)))] [] ?_
 rw[yW (((blen n:Nat):Int)-(bits:Int)) (((j+1:Nat):Int)) (by omega)]
 refine xq 1 [yJ 12 ((j+1:Nat):Int)] [] ?_
 refine xe (zA (zC (zC (zB (xq 2 [yB 19 (decide (((j+1:Nat):Int)≤0))] [] ?_)))))
 rw[show decide (((j+1:Nat):Int)≤0)=false from vF (by omega)]
 refine xe (zA (xb (zN (zA (zC (zB (xq 2 [eS1 26 A l c,yJ 27 ((j+1:Nat):Int)] [] ?_)))))))
 refine xqc 128 [.slice A l c,.int .i64 ((j+1:Nat):Int)] 28 xH _ (fun w R Q=>yM xD (gI (j+1) Q.1.2 E (by omega))) fun⟨a,b,f⟩=>?_
 refine xq 1 [eS1 13 a b f] [] ?_
 refine xe (zA (zC (zC (zB (xq 3 [eS1 29 A l c,yJ 31 (IntKind.i64.wrap (((j+1:Nat):Int)-1))] [] ?_)))))
 rw[yW (((j+1:Nat):Int)-1) ((j:Int)) (by omega)]
 refine xqc 158 [.slice A l c,.int .i64 (j:Int)] 32 (fun _:Unit=>.bool b1) _ (fun w R Q=>yN ((show Calls _ _ _ _ (RetV w (.bool b1)) by rw[←S];exact Zav (j) Q.1.1.2 (by omega)))) fun xx=>?_
 refine xq 1 [yB 33 b1] [] ?_
 rcases bl2 (b1) with i|i
 ·rw[i]
  have k1:=uD (S.trans i)
  refine xq 1 [eS1 34 A l c] [] ?_
  refine xqc 157 [.slice A l c] 35 (fun _:Unit=>.int .i64 ((tzn n:Nat):Int)) _ (fun w R Q=>yN (Zbe Q.1.1.1.1 Q.1.1.1.2 E O)) fun xx=>?_
  refine xq 2 [yJ 37 (IntKind.i64.wrap (((j+1:Nat):Int)-1))] [] ?_
  rw[yW (((j+1:Nat):Int)-1) ((j:Int)) (by omega)]
  refine xq 2 [yB 39 (decide (((tzn n:Nat):Int)<(j:Int)))] [] ?_
  rcases bl2 ((decide (((tzn n:Nat):Int)<(j:Int)))) with m|m
  ·rw[m]
   have V:=uD m
   have k4:tzn n<j:=by omega
   refine xr 8 [yB 0 s,yJ 2 e,(10,.p 10 0),yJ 11 0,yJ 12 ((j+1:Nat):Int),eS1 13 a b f,yB 47 true] [yF 10 79 false none 0 0 0] ?_
   refine xe (zA (xa (zB (xq 1 [eS1 48 a b f] [] ?_))))
   refine yD (d:=49) (fun C:Nat=>.slice (some ⟨C,0,none⟩) 1 1) (fun C zw=>Blk 94 zw C #[.int .u64 1]) (fun w R Q=>kC (t:=77) (e:=94) (n:=1) (sz:=1) (z:=.int .u64 0) (parts:=#[(0,Operand.const (Value.int IntKind.u64 1))]) (by kernel_rfl) (by kernel_rfl) (by kernel_rfl) (by kernel_rfl) (by kernel_rfl) (by kernel_rfl)) fun v0=>?_
   refine xr 0 [yB 0 s,yJ 2 e,(10,.p 10 0),yJ 11 0,yJ 12 ((j+1:Nat):Int),eS1 13 a b f,eS1 48 a b f,eS1 49 (some ⟨v0,0,none⟩) 1 1] [yF 10 79 false none 0 0 0] ?_
   refine xqc 126 [.slice a b f,.slice (some ⟨v0,0,none⟩) 1 1] 50 xH _ (fun w R Q=>yM xD (jY Q.1.1.1.2 (fE Q.2) B wl_1)) fun⟨W,X,Y⟩=>?_
   refine xq 1 [eS1 13 W X Y] [] ?_
   refine xe (zA (zC (zB (xq 5 [yB 51 s,eS1 52 W X Y,yJ 55 (IntKind.i64.wrap (e+((j+1:Nat):Int)))] [] ?_))))
   rw[yW (e+((j+1:Nat):Int)) (e+((j+1:Nat):Int)) (by omega)]
   obtain⟨o,H⟩:=yE (wV s (n/2^(j+1)+1) ((e+((j+1:Nat):Int))))
   refine xqc 118 [.bool s,.slice W X Y,.int .i64 (e+((j+1:Nat):Int))] 56 (shNb o) _ (fun w R Q=>yM xX ((show Calls _ _ _ _ (wA w o) by rw[←H];exact kF s _ _ _ _ _ _ Q.1.1.1.1.1.1.1 Q.2 P (by omega) (by omega)))) fun⟨Z,a0,b0⟩=>?_
   refine xq 4 [yJ 11 o.err] [yF 10 79 o.s Z a0 b0 o.e] ?_
   refine xe (zA (zG ?_))
   refine yR (.tuple #[yV o.s Z a0 b0 o.e,.int .i64 o.err]) fun w' R Q=>?_
   rw[fK hj k1 (Or.inl k4) O,H]
   exact⟨(Z,a0,b0),rfl,Q.2,R⟩
  rw[m]
  have V:=uH m
  have k4:¬ tzn n<j:=by omega
  refine xr 1 [yB 0 s,yJ 2 e,(4,.v (.func (.func 125) #[] #[])),(10,.p 10 0),yJ 11 0,yJ 12 ((j+1:Nat):Int),eS1 13 a b f,yB 33 true,yB 39 false,eS1 40 a b f] [yF 10 79 false none 0 0 0] ?_
  refine xqc 158 [.slice a b f,.int .i64 0] 41 (fun _:Unit=>.bool b2) _ (fun w R Q=>yN ((show Calls _ _ _ _ (RetV w (.bool b2)) by rw[←T];exact Zav (0) Q.1.1.2 (by omega)))) fun xx=>?_
  refine xq 2 [yB 43 b2] [] ?_
  rcases bl2 (b2) with q|q
  ·rw[q]
   have k2:=uD (T.trans q)
   rw[vT,rB] at k2
   refine xq 4 [yB 47 true] [] ?_
   refine xe (zA (xa (zB (xq 1 [eS1 48 a b f] [] ?_))))
   refine yD (d:=49) (fun C:Nat=>.slice (some ⟨C,0,none⟩) 1 1) (fun C zw=>Blk 94 zw C #[.int .u64 1]) (fun w R Q=>kC (t:=77) (e:=94) (n:=1) (sz:=1) (z:=.int .u64 0) (parts:=#[(0,Operand.const (Value.int IntKind.u64 1))]) (by kernel_rfl) (by kernel_rfl) (by kernel_rfl) (by kernel_rfl) (by kernel_rfl) (by kernel_rfl)) fun w0=>?_
   refine xr 0 [yB 0 s,yJ 2 e,(10,.p 10 0),yJ 11 0,yJ 12 ((j+1:Nat):Int),eS1 13 a b f,eS1 48 a b f,eS1 49 (some ⟨w0,0,none⟩) 1 1] [yF 10 79 false none 0 0 0] ?_
   refine xqc 126 [.slice a b f,.slice (some ⟨w0,0,none⟩) 1 1] 50 xH _ (fun w R Q=>yM xD (jY Q.1.1.1.1.2 (fE Q.2) B wl_1)) fun⟨c0,d0,e0⟩=>?_
   refine xq 1 [eS1 13 c0 d0 e0] [] ?_
   refine xe (zA (zC (zB (xq 5 [yB 51 s,eS1 52 c0 d0 e0,yJ 55 (IntKind.i64.wrap (e+((j+1:Nat):Int)))] [] ?_))))
   rw[yW (e+((j+1:Nat):Int)) (e+((j+1:Nat):Int)) (by omega)]
   obtain⟨r,I⟩:=yE (wV s (n/2^(j+1)+1) ((e+((j+1:Nat):Int))))
   refine xqc 118 [.bool s,.slice c0 d0 e0,.int .i64 (e+((j+1:Nat):Int))] 56 (shNb r) _ (fun w R Q=>yM xX ((show Calls _ _ _ _ (wA w r) by rw[←I];exact kF s _ _ _ _ _ _ Q.1.1.1.1.1.1.1.1 Q.2 P (by omega) (by omega)))) fun⟨f0,g0,i0⟩=>?_
   refine xq 4 [yJ 11 r.err] [yF 10 79 r.s f0 g0 i0 r.e] ?_
   refine xe (zA (zG ?_))
   refine yR (.tuple #[yV r.s f0 g0 i0 r.e,.int .i64 r.err]) fun w' R Q=>?_
   rw[fK hj k1 (Or.inr (Or.inl k2)) O,I]
   exact⟨(f0,g0,i0),rfl,Q.2,R⟩
  rw[q]
  have k2:=uH (T.trans q)
  rw[vT,rB] at k2
  refine xq 1 [(44,.v (.func (.func 125) #[] #[]))] [] ?_
  refine xqc 125 [] 45 (fun _:Unit=>.bool b3) _ (fun w R Q=>yN ((show Calls _ _ _ _ (RetV w (.bool b3)) by rw[←U];exact Zn0 _))) fun xx=>?_
  refine xq 2 [yB 47 b3] [] ?_
  refine xe (zA ?_)
  refine yQ (b3) (fun D=>?_) fun D=>?_
  ·have k3:=U.trans D
   refine zB (xq 1 [eS1 48 a b f] [] ?_)
   refine yD (d:=49) (fun C:Nat=>.slice (some ⟨C,0,none⟩) 1 1) (fun C zw=>Blk 94 zw C #[.int .u64 1]) (fun w R Q=>kC (t:=77) (e:=94) (n:=1) (sz:=1) (z:=.int .u64 0) (parts:=#[(0,Operand.const (Value.int IntKind.u64 1))]) (by kernel_rfl) (by kernel_rfl) (by kernel_rfl) (by kernel_rfl) (by kernel_rfl) (by kernel_rfl)) fun x0=>?_
   refine xr 0 [yB 0 s,yJ 2 e,(10,.p 10 0),yJ 11 0,yJ 12 ((j+1:Nat):Int),eS1 13 a b f,eS1 48 a b f,eS1 49 (some ⟨x0,0,none⟩) 1 1] [yF 10 79 false none 0 0 0] ?_
   refine xqc 126 [.slice a b f,.slice (some ⟨x0,0,none⟩) 1 1] 50 xH _ (fun w R Q=>yM xD (jY Q.1.1.1.1.1.2 (fE Q.2) B wl_1)) fun⟨j0,k0,l0⟩=>?_
   refine xq 1 [eS1 13 j0 k0 l0] [] ?_
   refine xe (zA (zC (zB (xq 5 [yB 51 s,eS1 52 j0 k0 l0,yJ 55 (IntKind.i64.wrap (e+((j+1:Nat):Int)))] [] ?_))))
   rw[yW (e+((j+1:Nat):Int)) (e+((j+1:Nat):Int)) (by omega)]
   obtain⟨u,J⟩:=yE (wV s (n/2^(j+1)+1) ((e+((j+1:Nat):Int))))
   refine xqc 118 [.bool s,.slice j0 k0 l0,.int .i64 (e+((j+1:Nat):Int))] 56 (shNb u) _ (fun w R Q=>yM xX ((show Calls _ _ _ _ (wA w u) by rw[←J];exact kF s _ _ _ _ _ _ Q.1.1.1.1.1.1.1.1.1 Q.2 P (by omega) (by omega)))) fun⟨m0,n0,o0⟩=>?_
   refine xq 4 [yJ 11 u.err] [yF 10 79 u.s m0 n0 o0 u.e] ?_
   refine xe (zA (zG ?_))
   refine yR (.tuple #[yV u.s m0 n0 o0 u.e,.int .i64 u.err]) fun w' R Q=>?_
   rw[fK hj k1 (Or.inr (Or.inr k3)) O,J]
   exact⟨(m0,n0,o0),rfl,Q.2,R⟩
  have k3:=U.trans D
  refine zN (zA (zC (zB (xq 5 [yB 51 s,eS1 52 a b f,yJ 55 (IntKind.i64.wrap (e+((j+1:Nat):Int)))] [] ?_))))
  rw[yW (e+((j+1:Nat):Int)) (e+((j+1:Nat):Int)) (by omega)]
  obtain⟨x,hr25⟩:=yE (wV s (n/2^(j+1)) ((e+((j+1:Nat):Int))))
  refine xqc 118 [.bool s,.slice a b f,.int .i64 (e+((j+1:Nat):Int))] 56 (shNb x) _ (fun w R Q=>yM xX ((show Calls _ _ _ _ (wA w x) by rw[←hr25];exact kF s _ _ _ _ _ _ Q.1.1.1.1.1.1.1 Q.1.1.1.1.2 B (by omega) (by omega)))) fun⟨p0,q0,r0⟩=>?_
  refine xq 4 [yJ 11 x.err] [yF 10 79 x.s p0 q0 r0 x.e] ?_
  refine xe (zA (zG ?_))
  refine yR (.tuple #[yV x.s p0 q0 r0 x.e,.int .i64 x.err]) fun w' R Q=>?_
  rw[dM hj O (fun h=>by rcases h.2 with h|h|h;exact k4 h;exact k2 h;rw[k3] at h;cases h),hr25]
  exact⟨(p0,q0,r0),rfl,Q.2,R⟩
 rw[i]
 have k1:=uH (S.trans i)
 refine xq 14 [yB 47 false] [] ?_
 refine xe (zA (xb (zN (zA (zC (zB (xq 5 [yB 51 s,eS1 52 a b f,yJ 55 (IntKind.i64.wrap (e+((j+1:Nat):Int)))] [] ?_)))))))
 rw[yW (e+((j+1:Nat):Int)) (e+((j+1:Nat):Int)) (by omega)]
 obtain⟨y,K⟩:=yE (wV s (n/2^(j+1)) ((e+((j+1:Nat):Int))))
 refine xqc 118 [.bool s,.slice a b f,.int .i64 (e+((j+1:Nat):Int))] 56 (shNb y) _ (fun w R Q=>yM xX ((show Calls _ _ _ _ (wA w y) by rw[←K];exact kF s _ _ _ _ _ _ Q.1.1.1.1 Q.1.2 B (by omega) (by omega)))) fun⟨s0,t0,u0⟩=>?_
 refine xq 4 [yJ 11 y.err] [yF 10 79 y.s s0 t0 u0 y.e] ?_
 refine xe (zA (zG ?_))
 refine yR (.tuple #[yV y.s s0 t0 u0 y.e,.int .i64 y.err]) fun w' R Q=>?_
 rw[dM hj O (fun h=>k1 h.1),K]
 exact⟨(s0,t0,u0),rfl,Q.2,R⟩
theorem ZmH (s:Bool)(A:Option Addr)(l c n:Nat)(e:Int)(bits:Nat)(Q:Nat)(A2:Option Addr)(l2 c2:Nat)(w:World)(hg:Glob w)(hN:zK w (.slice A l c) n)(E:wl n≤4294967296)(z0 : -576460752303423488≤e)(A0:e≤576460752303423488)(hb:bits≤4294967296)(hQ:Zdj w Q (.slice A2 l2 c2)) :
 yA 123 #[.bool s,.slice A l c,.int .i64 e,.int .i64 ((bits:Nat):Int),.func (.func 143) #[] #[.pointer (some ⟨Q,0,none⟩)]] w (wA w (lC s n e bits (decide (0<l2)))):=by
 refine zV (Φ:=fun w=>((Glob w∧zK w (.slice A l c) (n))∧Zdj w Q (.slice A2 l2 c2))) Tryz.func123 rfl (by kernel_rfl) (fun w' hf=>⟨⟨hg.ext hf,hN.ext hf⟩,hQ.ext hf⟩) ?_
 refine zC ?_
 have B0:=ZgE E
 by_cases F:blen n≤bits
 ·obtain⟨k,hk⟩:∃ k,bits=blen n+k:=⟨bits-blen n,by omega⟩
  refine zB (xq 2 [(10,.p 10 0),yJ 11 0] [yF 10 79 false none 0 0 0] ?_)
  refine xe (zA (zC (zB (xq 1 [eS1 14 A l c] [] ?_))))
  refine xqc 65 [.slice A l c] 15 (fun _:Unit=>.int .i64 ((blen n:Nat):Int)) _ (fun w S R=>(kD R.1.2 E).mono (fun _ _ h=>zD h rfl)) fun xx=>?_
  refine xq 2 [yJ 17 (IntKind.i64.wrap (((blen n:Nat):Int)-(bits:Int)))] [] ?_
  rw[show IntKind.i64.wrap (((blen n:Nat):Int)-(bits:Int)) = -(k:Int) by rw[IntKind.wrap_i64];omega]
  refine xq 1 [yJ 12 (-(k:Int))] [] ?_
  refine xe (zA (zC (zC (zB (xq 2 [(19,.v (.bool (decide ((-(k:Int))≤0))))] [] ?_)))))
  rw[show decide (-(k:Int)≤0)=true from uW (by omega)]
  refine xe (zA (xa (zC (zB (xq 3 [yB 20 s,eS1 21 A l c,yJ 22 e] [] ?_)))))
  obtain⟨g,G⟩:=yE (wV s (n) (e))
  refine xqc 118 [.bool s,.slice A l c,.int .i64 e] 23 (shNb g) _ (fun w S R=>((show Calls _ _ _ _ (wA w g) by rw[←G];exact kF s _ _ _ _ _ _ R.1.1.1 R.1.1.2 E (by omega) (by omega))).mono (fun _ _=>xX)) fun⟨L,M,N⟩=>?_
  refine xq 4 [yJ 11 g.err] [yF 10 79 g.s L M N g.e] ?_
  refine xe (zA (zG (zI ?_)))
  refine yR (.tuple #[yV g.s L M N g.e,.int .i64 g.err]) fun w' S R=>?_
  rw[Zbf F,G]
  exact⟨(L,M,N),rfl,R.2,S⟩
 obtain⟨j,hj⟩:∃ j,blen n=bits+(j+1):=⟨blen n-bits-1,by omega⟩
 have O:0<n:=sY (fun e=>by rw[e,jI] at F;omega)
 have B:wl (n/2^(j+1))≤4294967296:=uE (wR (uZ _ _)) E
 have P:wl (n/2^(j+1)+1)≤4294967296:=uE (wR (qV O (pK (by omega)))) E
 obtain⟨b1,T⟩:=yE (decide (n/2^j%2=1))
 obtain⟨b2,U⟩:=yE (decide (n/2^(j+1)/2^0%2=1))
 obtain⟨b3,V⟩:=yE (decide (0<l2))
 refine zB (xq 2 [(10,.p 10 0),yJ 11 0] [yF 10 79 false none 0 0 0] ?_)
 refine xe (zA (zC (zB (xq 1 [eS1 14 A l c] [] ?_))))
 refine xqc 65 [.slice A l c] 15 (fun _:Unit=>.int .i64 ((blen n:Nat):Int)) _ (fun w S R=>(kD R.1.2 E).mono (fun _ _ h=>zD h rfl)) fun xx=>?_
 refine xq 2 [yJ 17 (IntKind.i64.wrap (((blen n:Nat):Int)-(bits:Int)))] [] ?_
 rw[yW (((blen n:Nat):Int)-(bits:Int)) (((j+1:Nat):Int)) (by omega)]
 refine xq 1 [yJ 12 ((j+1:Nat):Int)] [] ?_
 refine xe (zA (zC (zC (zB (xq 2 [yB 19 (decide (((j+1:Nat):Int)≤0))] [] ?_)))))
 rw[show decide (((j+1:Nat):Int)≤0)=false from vF (by omega)]
 refine xe (zA (xb (zN (zA (zC (zB (xq 2 [eS1 26 A l c,yJ 27 ((j+1:Nat):Int)] [] ?_)))))))
 refine xqc 128 [.slice A l c,.int .i64 ((j+1:Nat):Int)] 28 xH _ (fun w S R=>(gI (j+1) R.1.1.2 E (by omega)).mono (fun _ _=>xD)) fun⟨a,b,f⟩=>?_
 refine xq 1 [eS1 13 a b f] [] ?_
 refine xe (zA (zC (zC (zB (xq 3 [eS1 29 A l c,yJ 31 (IntKind.i64.wrap (((j+1:Nat):Int)-1))] [] ?_)))))
 rw[yW (((j+1:Nat):Int)-1) ((j:Int)) (by omega)]
 refine xqc 158 [.slice A l c,.int .i64 (j:Int)] 32 (fun _:Unit=>.bool b1) _ (fun w S R=>((show Calls _ _ _ _ (RetV w (.bool b1)) by rw[←T];exact Zav (j) R.1.1.1.2 (by omega))).mono (fun _ _ h=>zD h rfl)) fun xx=>?_
 refine xq 1 [yB 33 b1] [] ?_
 rcases bl2 (b1) with i|i
 ·rw[i]
  have k1:=uD (T.trans i)
  refine xq 1 [eS1 34 A l c] [] ?_
  refine xqc 157 [.slice A l c] 35 (fun _:Unit=>.int .i64 ((tzn n:Nat):Int)) _ (fun w S R=>(Zbe R.1.1.1.1.1 R.1.1.1.1.2 E O).mono (fun _ _ h=>zD h rfl)) fun xx=>?_
  refine xq 2 [yJ 37 (IntKind.i64.wrap (((j+1:Nat):Int)-1))] [] ?_
  rw[yW (((j+1:Nat):Int)-1) ((j:Int)) (by omega)]
  refine xq 2 [yB 39 (decide (((tzn n:Nat):Int)<(j:Int)))] [] ?_
  rcases bl2 ((decide (((tzn n:Nat):Int)<(j:Int)))) with m|m
  ·rw[m]
   have W:=uD m
   have k4:tzn n<j:=by omega
   refine xr 8 [yB 0 s,yJ 2 e,(10,.p 10 0),yJ 11 0,yJ 12 ((j+1:Nat):Int),eS1 13 a b f,yB 47 true] [yF 10 79 false none 0 0 0] ?_
   refine xe (zA (xa (zB (xq 1 [eS1 48 a b f] [] ?_))))
   refine yD (d:=49) (fun C:Nat=>.slice (some ⟨C,0,none⟩) 1 1) (fun C zw=>Blk 94 zw C #[.int .u64 1]) (fun w S R=>kC (t:=77) (e:=94) (n:=1) (sz:=1) (z:=.int .u64 0) (parts:=#[(0,Operand.const (Value.int IntKind.u64 1))]) (by kernel_rfl) (by kernel_rfl) (by kernel_rfl) (by kernel_rfl) (by kernel_rfl) (by kernel_rfl)) fun w0=>?_
   refine xr 0 [yB 0 s,yJ 2 e,(10,.p 10 0),yJ 11 0,yJ 12 ((j+1:Nat):Int),eS1 13 a b f,eS1 48 a b f,eS1 49 (some ⟨w0,0,none⟩) 1 1] [yF 10 79 false none 0 0 0] ?_
   refine xqc 126 [.slice a b f,.slice (some ⟨w0,0,none⟩) 1 1] 50 xH _ (fun w S R=>(jY R.1.1.1.2 (fE R.2) B wl_1).mono (fun _ _=>xD)) fun⟨X,Y,Z⟩=>?_
   refine xq 1 [eS1 13 X Y Z] [] ?_
   refine xe (zA (zC (zB (xq 5 [yB 51 s,eS1 52 X Y Z,yJ 55 (IntKind.i64.wrap (e+((j+1:Nat):Int)))] [] ?_))))
   rw[yW (e+((j+1:Nat):Int)) (e+((j+1:Nat):Int)) (by omega)]
   obtain⟨o,H⟩:=yE (wV s (n/2^(j+1)+1) ((e+((j+1:Nat):Int))))
   refine xqc 118 [.bool s,.slice X Y Z,.int .i64 (e+((j+1:Nat):Int))] 56 (shNb o) _ (fun w S R=>((show Calls _ _ _ _ (wA w o) by rw[←H];exact kF s _ _ _ _ _ _ R.1.1.1.1.1.1.1.1 R.2 P (by omega) (by omega))).mono (fun _ _=>xX)) fun⟨a0,b0,c0⟩=>?_
   refine xq 4 [yJ 11 o.err] [yF 10 79 o.s a0 b0 c0 o.e] ?_
   refine xe (zA (zG ?_))
   refine yR (.tuple #[yV o.s a0 b0 c0 o.e,.int .i64 o.err]) fun w' S R=>?_
   rw[fK hj k1 (Or.inl k4) O,H]
   exact⟨(a0,b0,c0),rfl,R.2,S⟩
  rw[m]
  have W:=uH m
  have k4:¬ tzn n<j:=by omega
  refine xr 1 [yB 0 s,yJ 2 e,(4,.v (.func (.func 143) #[] #[.pointer (some ⟨Q,0,none⟩)])),(10,.p 10 0),yJ 11 0,yJ 12 ((j+1:Nat):Int),eS1 13 a b f,yB 33 true,yB 39 false,eS1 40 a b f] [yF 10 79 false none 0 0 0] ?_
  refine xqc 158 [.slice a b f,.int .i64 0] 41 (fun _:Unit=>.bool b2) _ (fun w S R=>((show Calls _ _ _ _ (RetV w (.bool b2)) by rw[←U];exact Zav (0) R.1.1.2 (by omega))).mono (fun _ _ h=>zD h rfl)) fun xx=>?_
  refine xq 2 [yB 43 b2] [] ?_
  rcases bl2 (b2) with q|q
  ·rw[q]
   have k2:=uD (U.trans q)
   rw[vT,rB] at k2
   refine xq 4 [yB 47 true] [] ?_
   refine xe (zA (xa (zB (xq 1 [eS1 48 a b f] [] ?_))))
   refine yD (d:=49) (fun C:Nat=>.slice (some ⟨C,0,none⟩) 1 1) (fun C zw=>Blk 94 zw C #[.int .u64 1]) (fun w S R=>kC (t:=77) (e:=94) (n:=1) (sz:=1) (z:=.int .u64 0) (parts:=#[(0,Operand.const (Value.int IntKind.u64 1))]) (by kernel_rfl) (by kernel_rfl) (by kernel_rfl) (by kernel_rfl) (by kernel_rfl) (by kernel_rfl)) fun x0=>?_
   refine xr 0 [yB 0 s,yJ 2 e,(10,.p 10 0),yJ 11 0,yJ 12 ((j+1:Nat):Int),eS1 13 a b f,eS1 48 a b f,eS1 49 (some ⟨x0,0,none⟩) 1 1] [yF 10 79 false none 0 0 0] ?_
   refine xqc 126 [.slice a b f,.slice (some ⟨x0,0,none⟩) 1 1] 50 xH _ (fun w S R=>(jY R.1.1.1.1.2 (fE R.2) B wl_1).mono (fun _ _=>xD)) fun⟨d0,e0,f0⟩=>?_
   refine xq 1 [eS1 13 d0 e0 f0] [] ?_
   refine xe (zA (zC (zB (xq 5 [yB 51 s,eS1 52 d0 e0 f0,yJ 55 (IntKind.i64.wrap (e+((j+1:Nat):Int)))] [] ?_))))
   rw[yW (e+((j+1:Nat):Int)) (e+((j+1:Nat):Int)) (by omega)]
   obtain⟨r,I⟩:=yE (wV s (n/2^(j+1)+1) ((e+((j+1:Nat):Int))))
   refine xqc 118 [.bool s,.slice d0 e0 f0,.int .i64 (e+((j+1:Nat):Int))] 56 (shNb r) _ (fun w S R=>((show Calls _ _ _ _ (wA w r) by rw[←I];exact kF s _ _ _ _ _ _ R.1.1.1.1.1.1.1.1.1 R.2 P (by omega) (by omega))).mono (fun _ _=>xX)) fun⟨g0,i0,j0⟩=>?_
   refine xq 4 [yJ 11 r.err] [yF 10 79 r.s g0 i0 j0 r.e] ?_
   refine xe (zA (zG ?_))
   refine yR (.tuple #[yV r.s g0 i0 j0 r.e,.int .i64 r.err]) fun w' S R=>?_
   rw[fK hj k1 (Or.inr (Or.inl k2)) O,I]
   exact⟨(g0,i0,j0),rfl,R.2,S⟩
  rw[q]
  have k2:=uH (U.trans q)
  rw[vT,rB] at k2
  refine xq 1 [(44,.v (.func (.func 143) #[] #[.pointer (some ⟨Q,0,none⟩)]))] [] ?_
  refine xqc 143 [.pointer (some ⟨Q,0,none⟩)] 45 (fun _:Unit=>.bool b3) _ (fun w S R=>((show Calls _ _ _ _ (RetV w (.bool b3)) by rw[←V];exact ZnZ Q A2 l2 c2 _ R.1.1.1.1.1.2)).mono (fun _ _ h=>zD h rfl)) fun xx=>?_
  refine xq 2 [yB 47 b3] [] ?_
  refine xe (zA ?_)
  refine yQ (b3) (fun D=>?_) fun D=>?_
  ·have k3:=V.trans D
   refine zB (xq 1 [eS1 48 a b f] [] ?_)
   refine yD (d:=49) (fun C:Nat=>.slice (some ⟨C,0,none⟩) 1 1) (fun C zw=>Blk 94 zw C #[.int .u64 1]) (fun w S R=>kC (t:=77) (e:=94) (n:=1) (sz:=1) (z:=.int .u64 0) (parts:=#[(0,Operand.const (Value.int IntKind.u64 1))]) (by kernel_rfl) (by kernel_rfl) (by kernel_rfl) (by kernel_rfl) (by kernel_rfl) (by kernel_rfl)) fun y0=>?_
   refine xr 0 [yB 0 s,yJ 2 e,(10,.p 10 0),yJ 11 0,yJ 12 ((j+1:Nat):Int),eS1 13 a b f,eS1 48 a b f,eS1 49 (some ⟨y0,0,none⟩) 1 1] [yF 10 79 false none 0 0 0] ?_
   refine xqc 126 [.slice a b f,.slice (some ⟨y0,0,none⟩) 1 1] 50 xH _ (fun w S R=>(jY R.1.1.1.1.1.2 (fE R.2) B wl_1).mono (fun _ _=>xD)) fun⟨k0,l0,m0⟩=>?_
   refine xq 1 [eS1 13 k0 l0 m0] [] ?_
   refine xe (zA (zC (zB (xq 5 [yB 51 s,eS1 52 k0 l0 m0,yJ 55 (IntKind.i64.wrap (e+((j+1:Nat):Int)))] [] ?_))))
   rw[yW (e+((j+1:Nat):Int)) (e+((j+1:Nat):Int)) (by omega)]
   obtain⟨u,J⟩:=yE (wV s (n/2^(j+1)+1) ((e+((j+1:Nat):Int))))
   refine xqc 118 [.bool s,.slice k0 l0 m0,.int .i64 (e+((j+1:Nat):Int))] 56 (shNb u) _ (fun w S R=>((show Calls _ _ _ _ (wA w u) by rw[←J];exact kF s _ _ _ _ _ _ R.1.1.1.1.1.1.1.1.1.1 R.2 P (by omega) (by omega))).mono (fun _ _=>xX)) fun⟨n0,o0,p0⟩=>?_
   refine xq 4 [yJ 11 u.err] [yF 10 79 u.s n0 o0 p0 u.e] ?_
   refine xe (zA (zG ?_))
   refine yR (.tuple #[yV u.s n0 o0 p0 u.e,.int .i64 u.err]) fun w' S R=>?_
   rw[fK hj k1 (Or.inr (Or.inr k3)) O,J]
   exact⟨(n0,o0,p0),rfl,R.2,S⟩
  have k3:=V.trans D
  refine zN (zA (zC (zB (xq 5 [yB 51 s,eS1 52 a b f,yJ 55 (IntKind.i64.wrap (e+((j+1:Nat):Int)))] [] ?_))))
  rw[yW (e+((j+1:Nat):Int)) (e+((j+1:Nat):Int)) (by omega)]
  obtain⟨x,hr25⟩:=yE (wV s (n/2^(j+1)) ((e+((j+1:Nat):Int))))
  refine xqc 118 [.bool s,.slice a b f,.int .i64 (e+((j+1:Nat):Int))] 56 (shNb x) _ (fun w S R=>((show Calls _ _ _ _ (wA w x) by rw[←hr25];exact kF s _ _ _ _ _ _ R.1.1.1.1.1.1.1.1 R.1.1.1.1.2 B (by omega) (by omega))).mono (fun _ _=>xX)) fun⟨q0,r0,s0⟩=>?_
  refine xq 4 [yJ 11 x.err] [yF 10 79 x.s q0 r0 s0 x.e] ?_
  refine xe (zA (zG ?_))
  refine yR (.tuple #[yV x.s q0 r0 s0 x.e,.int .i64 x.err]) fun w' S R=>?_
  rw[dM hj O (fun h=>by rcases h.2 with h|h|h;exact k4 h;exact k2 h;rw[k3] at h;cases h),hr25]
  exact⟨(q0,r0,s0),rfl,R.2,S⟩
 rw[i]
 have k1:=uH (T.trans i)
 refine xq 14 [yB 47 false] [] ?_
 refine xe (zA (xb (zN (zA (zC (zB (xq 5 [yB 51 s,eS1 52 a b f,yJ 55 (IntKind.i64.wrap (e+((j+1:Nat):Int)))] [] ?_)))))))
 rw[yW (e+((j+1:Nat):Int)) (e+((j+1:Nat):Int)) (by omega)]
 obtain⟨y,K⟩:=yE (wV s (n/2^(j+1)) ((e+((j+1:Nat):Int))))
 refine xqc 118 [.bool s,.slice a b f,.int .i64 (e+((j+1:Nat):Int))] 56 (shNb y) _ (fun w S R=>((show Calls _ _ _ _ (wA w y) by rw[←K];exact kF s _ _ _ _ _ _ R.1.1.1.1.1 R.1.2 B (by omega) (by omega))).mono (fun _ _=>xX)) fun⟨t0,u0,v0⟩=>?_
 refine xq 4 [yJ 11 y.err] [yF 10 79 y.s t0 u0 v0 y.e] ?_
 refine xe (zA (zG ?_))
 refine yR (.tuple #[yV y.s t0 u0 v0 y.e,.int .i64 y.err]) fun w' S R=>?_
 rw[dM hj O (fun h=>k1 h.1),K]
 exact⟨(t0,u0,v0),rfl,R.2,S⟩
theorem Zie {u v:Value}{m n:Nat}{w:World}(d:zK w u m)(e:zK w v n)(f:wl m≤4294967295)(g:wl n≤4294967296)(l:0<n):yA 142 #[u,v] w (ZaR w (m/n) (m%n)):=by
 have a:=d
 have b:=e
 obtain⟨A,o,c,rfl,y,p,h,i,rfl⟩:=d
 obtain⟨q,r,s,rfl,t,x,j,k,rfl⟩:=e
 rw[←xR h i] at f
 rw[←xR j k] at g
 exact ZnY A q o r c s w p x f g h j a b i k l
theorem Zpv {s:Bool}{A:Option Addr}{l c:Nat}{e:Int}:Zls #[.bool s,.slice A l c,.int .i64 e]:=by
 intro i k;rcases i with _|_|_|i<;>simp
theorem Blk.cell3n {t:TypeId}{w:World}{g:Nat}{x y z:Value}(h:Blk t w g #[x,y,z]):w.cell? ⟨g,0,none⟩=some x∧w.cell? ⟨g,1,none⟩=some y∧w.cell? ⟨g,2,none⟩=some z∧w.frozen? ⟨g,0,none⟩=false∧w.frozen? ⟨g,1,none⟩=false∧w.frozen? ⟨g,2,none⟩=false :=
 ⟨h.cell 0,h.cell 1,h.cell 2,h.frozen 0,h.frozen 1,h.frozen 2⟩
theorem ZrI {fn:Func}{t t2:Tmp}{a:Array Value}{w f w2:World}{r:Nat}{x:FR}{A q:Option Addr}{l c u c0:Nat}{y:Bool}{z:Int}(b:fn.results=#[.cell t 79,.tmp t2])(B:a[t]? = some (.pointer (some ⟨r,0,none⟩)))(g:a[t2]? = some (.int .i64 x.err))(h:w.heap.size≤r)(C:Ext w f)(D:Blk 79 f r #[.bool y,.slice q u c0,.int .i64 z])(o:Ext f w2)(E:zK w2 (.slice A l c) x.m) :
 bodyPost Tryz.prog fn (wA w x) .ret ⟨a,[]⟩ (((w2.setCell ⟨r,0,none⟩ (.bool x.s)).setCell ⟨r,1,none⟩ (.slice A l c)).setCell ⟨r,2,none⟩ (.int .i64 x.e)):=by
 have d:=D.ext o
 have j:Blk 79 (((w2.setCell ⟨r,0,none⟩ (.bool x.s)).setCell ⟨r,1,none⟩ (.slice A l c)).setCell ⟨r,2,none⟩ (.int .i64 x.e)) r #[.bool x.s,.slice A l c,.int .i64 x.e]:=((d.set_ 0 _).set_ 1 _).set_ 2 _
 obtain⟨F,G,H,_⟩:=j.cell3n
 have I:Fr (fun i=>i=r) w2 (((w2.setCell ⟨r,0,none⟩ (.bool x.s)).setCell ⟨r,1,none⟩ (.slice A l c)).setCell ⟨r,2,none⟩ (.int .i64 x.e)):=(((show Fr (fun i=>i=r) w2 w2 from Fr.refl _ _).setCell (p:=⟨r,0,none⟩) (Or.inl rfl) _).setCell (p:=⟨r,1,none⟩) (Or.inl rfl) _).setCell (p:=⟨r,2,none⟩) (Or.inl rfl) _
 have k:=E.other d Zpv I
 have n:Ext w (((w2.setCell ⟨r,0,none⟩ (.bool x.s)).setCell ⟨r,1,none⟩ (.slice A l c)).setCell ⟨r,2,none⟩ (.int .i64 x.e)):=(((C.trans o).setCell (p:=⟨r,0,none⟩) (Or.inr h) _).setCell (p:=⟨r,1,none⟩) (Or.inr h) _).setCell (p:=⟨r,2,none⟩) (Or.inr h) _
 generalize ((w2.setCell ⟨r,0,none⟩ (.bool x.s)).setCell ⟨r,1,none⟩ (.slice A l c)).setCell ⟨r,2,none⟩ (.int .i64 x.e)=W at *
 exact bodyPost_ret (v:=shNb x (A,l,c)) (by simp[results,b,B,g,go_sem,F,G,H,shNb]) rfl ⟨(A,l,c),rfl,k,n⟩
theorem ZcM {a b:Nat}(h:a<64*b):wl (2^a)≤b:=kE.2 (by rw[show W64=2^64 by rw[zO],← sZ];exact Nat.pow_lt_pow_right (by decide) h)
theorem ZjS (s:Bool)(A:Option Addr)(l c n:Nat)(B:Option Addr)(m d k:Nat)(e:Int)(bits:Nat)(w:World)(hg:Glob w)(hN:zK w (.slice A l c) n)(hK:zK w (.slice B m d) k)(h0:wl n≤1000000)(i0:wl k≤1000000)(D:0<k)(j0 : -288230376151711744≤e)(k0:e≤288230376151711744)(P:0<bits)(hb:bits≤1000000) :
 yA 99 #[.bool s,.slice A l c,.slice B m d,.int .i64 e,.int .i64 ((bits:Nat):Int)] w (wA w (wN s n k e bits)):=by
 have l0:=gM n
 have m0:=gM k
 obtain⟨a1,E⟩:∃ a,a=(rk0 n k bits-1).toNat:=⟨_,rfl⟩
 obtain⟨a2,j⟩:∃ a,a=(-(rk0 n k bits-1)).toNat:=⟨_,rfl⟩
 obtain⟨b,Q⟩:∃ x:Int,x=(bits:Int)+1+(blen k:Nat)-(blen n:Nat):=⟨_,rfl⟩
 have f:rk0 n k bits-1 = -b:=by unfold rk0;omega
 rw[f] at E j
 rw[Int.neg_neg] at j
 have n0 : -100000000≤b:=by omega
 have o0:b≤100000000:=by omega
 have F:fa n (rk0 n k bits-1)=n*2^a2:=by unfold fa;rw[f,Int.neg_neg,← j]
 have G:fb k (rk0 n k bits-1)=k*2^a1:=by unfold fb;rw[f,← E]
 have p0:wl (n*2^a2)≤4000000:=by
  refine uE (ZaQ _ _) ?_
  have:wl (2^a2)≤2000001:=ZcM (by omega)
  omega
 have q0:wl (k*2^a1)≤4000000:=by
  refine uE (ZaQ _ _) ?_
  have:wl (2^a1)≤2000001:=ZcM (by omega)
  omega
 have r0:(if (0:Int)>b then (0:Int) else b)=(a2:Int):=by split<;>omega
 have s0:(if (0:Int) > -b then (0:Int) else -b)=(a1:Int):=by split<;>omega
 have HG:=zh hg
 have HN:=zh hN
 have HK:=zh hK
 clear hg hN hK
 obtain⟨x,R⟩:=yE (wN s n k e bits)
 rw[R]
 have HX:=zh R
 clear R
 go_enter Tryz.func99,Tryz.ntmps99
 go_wp2_with fail
 refine (kD (HK.out.ext ((Fr.refl _ _).alloc _)) (by omega)).mono ?_
 rintro H w1 ⟨rfl,o⟩
 have I:Hid (Ext w w1):=((Fr.refl _ _).alloc _).trans o
 have S:Hid (Blk 79 w1 w.heap.size #[.bool false,.slice none 0 0,.int .i64 0]):=(show Blk 79 (w.alloc (.cells #[.bool false,.slice none 0 0,.int .i64 0] 79)) w.heap.size #[.bool false,.slice none 0 0,.int .i64 0] from heap_alloc_new w _).ext o
 clear o
 go_wp2_with fail
 refine (kD (HN.out.ext I.out) (by omega)).mono ?_
 rintro H w2 ⟨rfl,p⟩
 have J:=zh (I.out.trans p)
 have T:=zh (S.out.ext p)
 clear p
 go_wp2_with fail
 rw[show max ((bits:Int)+1+(blen k:Nat)-(blen n:Nat)) 0=(a2:Int) by omega]
 refine (kL a2 (HN.out.ext J.out) (by omega) (by omega)).mono ?_
 rintro H w3 ⟨v3,rfl,q,r⟩
 obtain⟨A3,l3,c3,rfl⟩:=q.slice
 have K:=zh (J.out.trans r)
 have U:=zh (T.out.ext r)
 have V:=zh q
 clear q r
 go_wp2_with fail
 rw[show max (-((bits:Int)+1+(blen k:Nat)-(blen n:Nat))) 0=(a1:Int) by omega]
 refine (kL a1 (HK.out.ext K.out) (by omega) (by omega)).mono ?_
 rintro H w4 ⟨v4,rfl,t,g⟩
 obtain⟨A4,l4,c4,rfl⟩:=t.slice
 have W:=zh (K.out.trans g)
 have X:=zh (U.out.ext g)
 have L:=zh (V.out.ext g)
 have Y:=zh t
 clear t g
 go_wp2_with fail
 refine (Zie L.out Y.out (by omega) (by omega) (tV D (p2 a1))).mono ?_
 rintro H Z ⟨v5,v6,rfl,u,v,y⟩
 obtain⟨A5,l5,c5,rfl⟩:=u.slice
 obtain⟨A6,O,c6,rfl⟩:=v.slice
 have M:=zh (W.out.trans y)
 have a0:=zh (X.out.ext y)
 have b0:=zh u
 have c0:=zh v
 clear u v y
 go_wp2_with fail
 have i:Zdj (Z.alloc (.cells #[.slice A6 O c6] 77)) Z.heap.size (.slice A6 O c6):=⟨by simp,by rw[Lib.cell_of_heap (heap_alloc_new Z _)];rfl⟩
 have d0:wl (n*2^a2/(k*2^a1))≤4294967296:=uE (wR (uZ _ _)) (by omega)
 refine (ZmH s A5 l5 c5 _ _ bits _ A6 O c6 _ (HG.out.ext (M.out.alloc _)) (b0.out.ext ((Fr.refl _ _).alloc _)) d0 (by omega) (by omega) (by omega) i).mono ?_
 rintro H w6 ⟨⟨A7,l7,c7⟩,rfl,z,C⟩
 have hr:lC s (n*2^a2/(k*2^a1)) (e-((bits:Int)+1+(blen k:Nat)-(blen n:Nat))) bits (decide (0<O))=x:=by
  rw[←HX.out,← Q]
  rcases uI n with rfl|hn
  ·rw[sI,Nat.zero_div,Zfh,jQ]
  have h:=ZkS s (n:=n) (d:=k) e (bits:=bits) hn D P
  have hq:fq n k (rk0 n k bits-1)=n*2^a2/(k*2^a1):=by unfold fq;rw[F,G]
  rw[hq,F,G,f] at h
  rw[←h,show e + -b=e-b by omega]
  congr 1
  have e0:=c0.out.len0
  exact qM.2 (by rw[e0];have:=@kT (n*2^a2%(k*2^a1));omega)
 rw[hr] at z
 rw[hr]
 clear hr
 have f0:=zh z
 have g0:Hid (Ext w w6):=(M.out.alloc _).trans C
 have N:=zh ((a0.out.ext ((Fr.refl _ _).alloc _)).ext C)
 obtain⟨z0,z1,z2,z3,z4,z5⟩:=N.out.cell3n
 clear z C i
 simp only[shNb]
 go_wp2
 exact ZrI rfl rfl rfl (uM _) g0.out N.out (Fr.refl _ _) f0.out
theorem bH {a b:Int}:(if b<a then b else a)=min a b:=by omega
def sumR (sx:Bool) (xm:Nat) (xe:Int) (sy:Bool) (ym:Nat) (ye:Int) (bits:Nat):FR :=
 if xm=0 then wN sy ym 1 ye bits else if ym=0 then wN sx xm 1 xe bits else addR sx xm xe sy ym ye bits
theorem aB {n a:Nat}(c:wl n≤1000000)(ha:a≤100000000):wl (n*2^a)≤4000000:=by
 have:=ZaQ n (2^a)
 have:wl (2^a)≤2000001:=ZcM (by omega)
 omega
section
variable {s t:Bool} {a b bits:Nat} {low:Int}
theorem Zif (ha:0<a)(h:s=t):wN (decide (sg s a+sg t b<0)) (sg s a+sg t b).natAbs 1 low bits=wN s (a+b) 1 low bits:=by
 subst h
 have c:decide (sg s a+sg s b<0)=s:=by cases s<;>simp[sg]<;>omega
 have d:(sg s a+sg s b).natAbs=a+b:=by cases s<;>simp[sg]<;>omega
 rw[c,d]
theorem ZgF (h:¬ s=t)(f:b≤a):wN (decide (sg s a+sg t b<0)) (sg s a+sg t b).natAbs 1 low bits=wN s (a-b) 1 low bits:=by
 have c:(sg s a+sg t b).natAbs=a-b:=by cases s<;>cases t<;>simp[sg] at h ⊢<;>omega
 rw[c]
 by_cases e:a-b=0
 ·rw[e,jQ,jQ]
 have d:decide (sg s a+sg t b<0)=s:=by cases s<;>cases t<;>simp[sg] at h ⊢<;>omega
 rw[d]
theorem Zfn (h:¬ s=t)(e:a<b):wN (decide (sg s a+sg t b<0)) (sg s a+sg t b).natAbs 1 low bits=wN t (b-a) 1 low bits:=by
 have c:(sg s a+sg t b).natAbs=b-a:=by cases s<;>cases t<;>simp[sg] at h ⊢<;>omega
 rw[c]
 have d:decide (sg s a+sg t b<0)=t:=by cases s<;>cases t<;>simp[sg] at h ⊢<;>omega
 rw[d]
end
theorem ZjT {sx:Bool}{c:Nat}{xe:Int}{d:Bool}{ym:Nat}{e:Int}{bits u1 u2:Nat}{low:Int}(f:min xe e=low)(g:xe-low=u1)(h:e-low=u2) :
 addR sx c xe d ym e bits=wN (decide (sg sx (c*2^u1)+sg d (ym*2^u2)<0)) (sg sx (c*2^u1)+sg d (ym*2^u2)).natAbs 1 low bits:=by
 unfold addR
 rw[f,g,h]
 rfl
theorem Zbo {a b:Nat}:cmpI a b≥0↔b≤a:=by
 have:=@fT a b
 omega
theorem jZ (s:Bool)(A:Option Addr)(l c x:Nat)(e:Int)(w:World)(f:zK w (.slice A l c) x)(d:wl x≤4294967296)(g : -1152921504606846976≤e)(h:e≤1152921504606846976) :
 yA 121 #[yV s A l c e] w (RetV w (.int .i64 (((blen x:Nat):Int)+e))):=by
 refine zV (Φ:=fun w=>zK w (.slice A l c) (x)) Tryz.func121 rfl (by kernel_rfl) (fun w' i=>f.ext i) ?_
 refine zC ?_
 have j:=ZgE d
 refine zB (xq 2 [(1,.p 1 0),yJ 2 0] [yF 1 79 s A l c e] ?_)
 refine xe (zA (zC ?_))
 refine yO 7 zL ?_
 refine xqg 2 [eS1 4 A l c] ?_
 refine xqd 65 [.slice A l c] 5 (fun _:Unit=>.int .i64 ((blen x:Nat):Int)) _ (fun w R Q=>yN (kD Q d)) fun k=>?_
 refine xqg 3 [yJ 8 (IntKind.i64.wrap (((blen x:Nat):Int)+e))] ?_
 rw[yW (((blen x:Nat):Int)+e) (((blen x:Nat):Int)+e) (by omega)]
 refine xqg 1 [yJ 2 (((blen x:Nat):Int)+e)] ?_
 refine xz (xe (zA (zG ?_)))
 refine yR (.int .i64 (((blen x:Nat):Int)+e)) fun w' R Q=>?_
 exact⟨rfl,R⟩
theorem Zn1 (s:Bool)(A:Option Addr)(l c x:Nat)(e:Int)(t:Bool)(B:Option Addr)(m d y:Nat)(f:Int)(bits:Nat)(C:0<bits)(W:bits≤4096)(w:World)(J:Glob w)(H:zK w (.slice A l c) x)(K:wl x≤100000)(L : -1073741824≤e)(M:e≤1073741824)(I:zK w (.slice B m d) y)(N:wl y≤100000)(O : -1073741824≤f)(P:f≤1073741824) :
 yA 82 #[yV s A l c e, yV t B m d f,.int .i64 ((bits:Nat):Int)] w (wA w (wN (s != t) (x*y) 1 (e+f) bits)):=by
 refine zV (Φ:=fun w=>((Glob w∧zK w (.slice A l c) (x))∧zK w (.slice B m d) (y))) Tryz.func82 rfl (by kernel_rfl) (fun w' D=>⟨⟨J.ext D,H.ext D⟩,I.ext D⟩) ?_
 refine zC ?_
 have S:=H.len0
 have T:=I.len0
 have U:=@kT x
 have V:=@kT y
 refine zB (xq 4 [(3,.p 3 0),(4,.p 4 0),(6,.p 6 0),yJ 7 0] [yF 6 79 false none 0 0 0,yF 4 79 t B m d f,yF 3 79 s A l c e] ?_)
 refine xe (zA (zC (zC (zB (xq 5 [yB 12 (((l:Int):Int) == 0)] [] ?_)))))
 rcases bl2 ((((l:Int):Int) == 0)) with h|h
 ·rw[h]
  have q:=tY.1 h
  have u:x=0:=by omega
  refine xq 5 [yB 17 true] [] ?_
  refine xe (zA (xa (zC (zB (xq 3 [yJ 7 0] [] ?_)))))
  refine xe (zA (zG (zI ?_)))
  refine yR (.tuple #[yV false none 0 0 0,.int .i64 0]) fun w' R Q=>?_
  rw[u,sI,jQ]
  exact⟨(none,0,0),rfl,zK.zero _,R⟩
 rw[h]
 have q:=wY h
 have u:¬ x=0:=by omega
 refine xq 5 [yB 17 (((m:Int):Int) == 0)] [] ?_
 refine xe (zA ?_)
 refine yQ ((((m:Int):Int) == 0)) (fun i=>?_) fun i=>?_
 ·have r:=tY.1 i
  have z:y=0:=by omega
  refine zC (zB (xq 3 [yJ 7 0] [] ?_))
  refine xe (zA (zG (zI ?_)))
  refine yR (.tuple #[yV false none 0 0 0,.int .i64 0]) fun w' R Q=>?_
  rw[z,tK,jQ]
  exact⟨(none,0,0),rfl,zK.zero _,R⟩
 have r:=wY i
 have z:¬ y=0:=by omega
 refine zN (zA (zC ?_))
 refine yO 19 zL ?_
 refine xqg 9 [yB 23 (s != t),eS1 25 A l c,eS1 27 B m d] ?_
 refine xqd 124 [.slice A l c,.slice B m d] 28 xH _ (fun w R Q=>yM xD (Zdi Q.1.2 Q.2 (by omega) (by omega))) fun⟨E,F,G⟩=>?_
 refine xqg 5 [yJ 33 (IntKind.i64.wrap (e+f))] ?_
 rw[yW (e+f) (e+f) (by omega)]
 refine xqg 1 [yJ 34 (bits:Int)] ?_
 obtain⟨g,o⟩:=yE (lC ((s != t)) (x*y) ((e+f)) bits false)
 refine xqd 123 [.bool (s != t),.slice E F G,.int .i64 (e+f),.int .i64 (bits:Int),.func (.func 125) #[] #[]] 35 (shNb g) _ (fun w R Q=>yM xX ((show Calls _ _ _ _ (wA w g) by rw[←o];exact gD ((s != t)) _ _ _ _ ((e+f)) _ _ Q.1.1.1 Q.2 (by have:=ZaQ x y;omega) (by omega) (by omega) (by omega)))) fun⟨j,k,n⟩=>?_
 refine xqg 2 [(36,.v (yV g.s j k n g.e)),yJ 37 g.err] ?_
 refine xz (xq 2 [yJ 7 g.err] [yF 6 79 g.s j k n g.e] ?_)
 refine xe (zA (zG ?_))
 refine yR (.tuple #[yV g.s j k n g.e,.int .i64 g.err]) fun w' R Q=>?_
 rw[←kP _ _ _ C,o]
 exact⟨(j,k,n),rfl,Q.2,R⟩
theorem Zem (s:Bool)(A:Option Addr)(l c x:Nat)(e:Int)(t:Bool)(B:Option Addr)(m d y:Nat)(f:Int)(bits:Nat)(H:0<bits)(hb:bits≤4096)(w:World)(hg:Glob w)(hX:zK w (.slice A l c) x)(E1:wl x≤100000)(F1 : -1073741824≤e)(G1:e≤1073741824)(hY:zK w (.slice B m d) y)(H1:wl y≤100000)(I1 : -1073741824≤f)(J1:f≤1073741824) :
 yA 84 #[yV s A l c e, yV t B m d f,.int .i64 ((bits:Nat):Int)] w (wA w (sumR s x e t y f bits)):=by
 refine zV (Φ:=fun w=>((Glob w∧zK w (.slice A l c) (x))∧zK w (.slice B m d) (y))) Tryz.func84 rfl (by kernel_rfl) (fun w' hf=>⟨⟨hg.ext hf,hX.ext hf⟩,hY.ext hf⟩) ?_
 refine zC ?_
 have K1:=hX.len0
 have L1:=hY.len0
 have M1:=@kT x
 have N1:=@kT y
 have O1:=gM x
 have R1:=gM y
 refine zB (xq 4 [(3,.p 3 0),(4,.p 4 0),(6,.p 6 0),yJ 7 0] [yF 6 79 false none 0 0 0,yF 4 79 t B m d f,yF 3 79 s A l c e] ?_)
 refine xe (zA (zC (zC (zB (xq 4 [yB 15 (((l:Int):Int) == 0)] [] ?_)))))
 refine xe (zA ?_)
 refine yQ ((((l:Int):Int) == 0)) (fun b0=>?_) fun b0=>?_
 ·have N0:=tY.1 b0
  have O0:x=0:=by omega
  refine zB (xq 4 [] [yF 4 79 s A l c e,yF 3 79 t B m d f] ?_)
  refine xe (zA (zC (zC (zB (xq 4 [yB 21 (((l:Int):Int) == 0)] [] ?_)))))
  rw[b0]
  refine xe (zA (xa (zC (zB (xq 7 [yB 23 t,eS1 25 B m d,yJ 27 f,yJ 28 (bits:Int)] [] ?_)))))
  obtain⟨X,E0⟩:=yE (lC t (y) (f) bits false)
  refine xqc 123 [.bool t,.slice B m d,.int .i64 f,.int .i64 (bits:Int),.func (.func 125) #[] #[]] 29 (shNb X) _ (fun w R Q=>yM xX ((show Calls _ _ _ _ (wA w X) by rw[←E0];exact gD t _ _ _ _ f _ _ Q.1.1 Q.2 (by omega) (by omega) (by omega) (by omega)))) fun⟨P0,Q0,R0⟩=>?_
  refine xq 4 [yJ 7 X.err] [yF 6 79 X.s P0 Q0 R0 X.e] ?_
  refine xe (zA (zG (zI ?_)))
  refine yR (.tuple #[yV X.s P0 Q0 R0 X.e,.int .i64 X.err]) fun w' R Q=>?_
  rw[show sumR s x e t y f bits=wN t y 1 f bits from uL O0,← kP _ _ _ H,E0]
  exact⟨(P0,Q0,R0),rfl,Q.2,R⟩
 have N0:=wY b0
 have O0:¬ x=0:=by omega
 refine zN (zA (zC (zC (zB (xq 4 [yB 21 (((m:Int):Int) == 0)] [] ?_)))))
 refine xe (zA ?_)
 refine yQ ((((m:Int):Int) == 0)) (fun e0=>?_) fun e0=>?_
 ·have S0:=tY.1 e0
  have g1:y=0:=by omega
  refine zC (zB (xq 7 [yB 23 s,eS1 25 A l c,yJ 27 e,yJ 28 (bits:Int)] [] ?_))
  obtain⟨Y,F0⟩:=yE (lC s (x) (e) bits false)
  refine xqc 123 [.bool s,.slice A l c,.int .i64 e,.int .i64 (bits:Int),.func (.func 125) #[] #[]] 29 (shNb Y) _ (fun w R Q=>yM xX ((show Calls _ _ _ _ (wA w Y) by rw[←F0];exact gD s _ _ _ _ e _ _ Q.1.1 Q.1.2 (by omega) (by omega) (by omega) (by omega)))) fun⟨T0,U0,V0⟩=>?_
  refine xq 4 [yJ 7 Y.err] [yF 6 79 Y.s T0 U0 V0 Y.e] ?_
  refine xe (zA (zG (zI ?_)))
  refine yR (.tuple #[yV Y.s T0 U0 V0 Y.e,.int .i64 Y.err]) fun w' R Q=>?_
  rw[show sumR s x e t y f bits=wN s x 1 e bits by unfold sumR;rw[uJ O0,uL g1],← kP _ _ _ H,F0]
  exact⟨(T0,U0,V0),rfl,Q.2,R⟩
 have S0:=wY e0
 have g1:¬ y=0:=by omega
 refine zN (zA ?_)
 refine ZbQ (fun ss ff=>∃ (j:Bool) (P1:Option Addr) (pl pc p:Nat) (i:Int) (o:Bool) (Q1:Option Addr) (ql qc q:Nat) (k:Int),ss=ofL [yJ 2 (bits:Int),(3,.p 3 0),(4,.p 4 0),(6,.p 6 0),yJ 7 0] [yF 6 79 false none 0 0 0,yF 3 79 j P1 pl pc i,yF 4 79 o Q1 ql qc k]∧ff=(fun w=>((Glob w∧zK w (.slice P1 pl pc) (p))∧zK w (.slice Q1 ql qc) (q)))∧(0<p)∧(0<q)∧(wl p≤100000)∧(wl q≤100000)∧(-1073741824≤i)∧(i≤1073741824)∧(-1073741824≤k)∧(k≤1073741824)∧(((blen q:Nat):Int)+k≤((blen p:Nat):Int)+i)∧(addR s x e t y f bits=addR j p i o q k bits)) ?_ ?_
 ·refine zC ?_
  refine yO 5 zL ?_
  refine xqg 1 [(32,.v (yV s A l c e))] ?_
  refine xqd 121 [yV s A l c e] 33 (fun _:Unit=>.int .i64 (((blen x:Nat):Int)+e)) _ (fun w R Q=>yN (jZ _ _ _ _ _ _ _ Q.1.2 (by omega) (by omega) (by omega))) fun xx=>?_
  refine xqg 1 [(34,.v (yV t B m d f))] ?_
  refine xqd 121 [yV t B m d f] 35 (fun _:Unit=>.int .i64 (((blen y:Nat):Int)+f)) _ (fun w R Q=>yN (jZ _ _ _ _ _ _ _ Q.1.2 (by omega) (by omega) (by omega))) fun xx=>?_
  refine xqg 1 [(36,.v (.bool (decide ((((blen x:Nat):Int)+e)<(((blen y:Nat):Int)+f)))))] ?_
  refine xz (xe (zA ?_))
  refine yQ ((decide ((((blen x:Nat):Int)+e)<(((blen y:Nat):Int)+f)))) (fun f0=>?_) fun f0=>?_
  ·have W0:=uD f0
   refine zB (xq 4 [] [yF 4 79 s A l c e,yF 3 79 t B m d f] ?_)
   refine xe ?_
   refine yP [yJ 2 (bits:Int),(3,.p 3 0),(4,.p 4 0),(6,.p 6 0),yJ 7 0] [yF 6 79 false none 0 0 0,yF 3 79 t B m d f,yF 4 79 s A l c e] (fun w=>((Glob w∧zK w (.slice B m d) (y))∧zK w (.slice A l c) (x))) (fun w Q=>⟨⟨Q.1.1.1.1,Q.1.1.2⟩,Q.1.1.1.2⟩) ?_
   exact jB ⟨t,B,m,d,y,f,s,A,l,c,x,e,rfl,rfl,(by omega),(by omega),(by omega),(by omega),(by omega),(by omega),(by omega),(by omega),(by omega),(Znz _ _ _ _ _ _ _)⟩
  have W0:=uH f0
  refine zN ?_
  refine yP [yJ 2 (bits:Int),(3,.p 3 0),(4,.p 4 0),(6,.p 6 0),yJ 7 0] [yF 6 79 false none 0 0 0,yF 3 79 s A l c e,yF 4 79 t B m d f] (fun w=>((Glob w∧zK w (.slice A l c) (x))∧zK w (.slice B m d) (y))) (fun w Q=>⟨⟨Q.1.1.1.1,Q.1.1.1.2⟩,Q.1.1.2⟩) ?_
  exact jB ⟨s,A,l,c,x,e,t,B,m,d,y,f,rfl,rfl,(by omega),(by omega),(by omega),(by omega),(by omega),(by omega),(by omega),(by omega),(by omega),rfl⟩
 rintro ss ff ⟨j,P1,pl,pc,p,i,o,Q1,ql,qc,q,k,rfl,rfl,l0,h1,S1,T1,U1,V1,W1,X1,D1,G0⟩
 refine zC (zC ?_)
 have Y1:=gM p
 have Z1:=gM q
 have a2:=jG l0
 have b2:=jG h1
 obtain⟨z,hz⟩:=yE (min i (((blen p:Nat):Int)+i-(bits:Int)-2))
 refine yO 9 zL ?_
 refine xqg 3 [yJ 40 i,(41,.v (yV j P1 pl pc i))] ?_
 refine xqd 121 [yV j P1 pl pc i] 42 (fun _:Unit=>.int .i64 (((blen p:Nat):Int)+i)) _ (fun w R Q=>yN (jZ _ _ _ _ _ _ _ Q.1.2 (by omega) (by omega) (by omega))) fun xx=>?_
 refine xqg 2 [(44,.v (.int .i64 (IntKind.i64.wrap ((((blen p:Nat):Int)+i)-(bits:Int)))))] ?_
 rw[yW (((blen p:Nat):Int)+i-(bits:Int)) (((blen p:Nat):Int)+i-(bits:Int)) (by omega)]
 refine xqg 1 [(45,.v (.int .i64 (IntKind.i64.wrap ((((blen p:Nat):Int)+i-(bits:Int))-2))))] ?_
 rw[yW (((blen p:Nat):Int)+i-(bits:Int)-2) (((blen p:Nat):Int)+i-(bits:Int)-2) (by omega)]
 refine xqg 1 [yJ 46 (if (((blen p:Nat):Int)+i-(bits:Int)-2)<i then (((blen p:Nat):Int)+i-(bits:Int)-2) else i)] ?_
 rw[(show (if ((blen p:Nat):Int)+i-(bits:Int)-2<i then ((blen p:Nat):Int)+i-(bits:Int)-2 else i)=z from bH.trans hz)]
 refine xqg 1 [yJ 8 z] ?_
 refine xz (xe (zA (zC (zB (xq 1 [(47,.v (yV o Q1 ql qc k))] [] ?_)))))
 refine xqc 121 [yV o Q1 ql qc k] 48 (fun _:Unit=>.int .i64 (((blen q:Nat):Int)+k)) _ (fun w R Q=>yN (jZ _ _ _ _ _ _ _ Q.1.2 (by omega) (by omega) (by omega))) fun xx=>?_
 refine xq 2 [(50,.v (.bool (decide ((((blen q:Nat):Int)+k)≤z))))] [] ?_
 refine xe (zA ?_)
 refine yQ ((decide ((((blen q:Nat):Int)+k)≤z))) (fun g0=>?_) fun g0=>?_
 ·have X0:=uD g0
  refine zB (xq 2 [yB 52 o] [] ?_)
  refine yD (d:=53) (fun zb:Nat=>.slice (some ⟨zb,0,none⟩) 1 1) (fun zb zw=>Blk 94 zw zb #[.int .u64 1]) (fun w R Q=>kC (t:=77) (e:=94) (n:=1) (sz:=1) (z:=.int .u64 0) (parts:=#[(0,Operand.const (Value.int IntKind.u64 1))]) (by kernel_rfl) (by kernel_rfl) (by kernel_rfl) (by kernel_rfl) (by kernel_rfl) (by kernel_rfl)) fun h0=>?_
  refine xr 2 [yJ 2 (bits:Int),(3,.p 3 0),(4,.p 4 0),(6,.p 6 0),yJ 7 0,yB 52 o,eS1 53 (some ⟨h0,0,none⟩) 1 1,yJ 55 (IntKind.i64.wrap (z-1))] [yF 6 79 false none 0 0 0,yF 3 79 j P1 pl pc i,yF 4 79 o Q1 ql qc k] ?_
  rw[yW (z-1) (z-1) (by omega)]
  refine xq 2 [] [yF 4 79 o (some ⟨h0,0,none⟩) 1 1 (z-1)] ?_
  refine xe (zA (zC ?_))
  obtain⟨g,Z⟩:=yE (min i (z-1))
  obtain⟨u1,Y0⟩:∃ u:Nat,i-g=u:=uB (by omega)
  obtain⟨u2,Z0⟩:∃ u:Nat,(z-1)-g=u:=uB (by omega)
  have hS:addR s x e t y f bits=addR j p i o 1 (z-1) bits:=G0.trans (Zmq _ _ _ _ H l0 h1 (by omega) (by omega) (by omega))
  rw[ZjT Z Y0 Z0] at hS
  have a1:u1≤100000000:=by omega
  have b1:u2≤100000000:=by omega
  have i1 : -4294967296≤g:=by omega
  have j1:g≤4294967296:=by omega
  obtain⟨a,ha⟩:=yE (p*2^u1)
  obtain⟨b,a0⟩:=yE (1*2^u2)
  have c1:wl a≤4000000:=by rw[←ha];exact aB (by omega) a1
  have d1:wl b≤4000000:=by rw[←a0];exact aB (uE (bL.2 (by rw[zO];decide)) (by decide)) b1
  have e1:0<a:=by rw[←ha];exact tV l0 (p2 u1)
  rw[ha,a0] at hS
  refine zB (xq 5 [yJ 61 (if (z-1)<i then (z-1) else i)] [] ?_)
  rw[(show (if (z-1)<i then (z-1) else i)=g from bH.trans Z)]
  refine xq 1 [yJ 9 g] [] ?_
  refine xe (zA (zC ?_))
  refine SXc.weak [yJ 2 (bits:Int),(3,.p 3 0),(4,.p 4 0),(6,.p 6 0),yJ 7 0,yJ 9 g] [yF 4 79 o (some ⟨h0,0,none⟩) 1 1 (z-1),yF 6 79 false none 0 0 0,yF 3 79 j P1 pl pc i] (xK.of (by kernel_rfl)) (by kernel_rfl) (fun _ h=>h) ?_
  refine yO 16 zL ?_
  refine xqg 6 [eS1 63 P1 pl pc,yJ 67 (IntKind.i64.wrap (i-g))] ?_
  rw[yW (i-g) ((u1:Int)) (by omega)]
  refine xqd 66 [.slice P1 pl pc,.int .i64 (u1:Int)] 68 xH _ (fun w R Q=>(kL u1 Q.1.1.1.1.2 (by omega) (by omega)).mono (fun _ _ h=>xD (by rw[ha] at h;exact h))) fun⟨I,J,K⟩=>?_
  refine xqg 6 [eS1 70 (some ⟨h0,0,none⟩) 1 1,yJ 74 (IntKind.i64.wrap ((z-1)-g))] ?_
  rw[yW ((z-1)-g) ((u2:Int)) (by omega)]
  refine xqd 66 [.slice (some ⟨h0,0,none⟩) 1 1,.int .i64 (u2:Int)] 75 xH _ (fun w R Q=>(kL u2 (fE Q.1.2) wl_1 (by omega)).mono (fun _ _ h=>xD (by rw[a0] at h;exact h))) fun⟨L,M,N⟩=>?_
  refine xqg 2 [eS1 10 I J K,eS1 11 L M N] ?_
  refine xz (xe (zA (zC (xM (zC (zB (xq 6 [yB 76 (j == o)] [] ?_)))))))
  refine xe (zA ?_)
  refine yQ ((j == o)) (fun c0=>?_) fun c0=>?_
  ·have O:j=o:=eq_of_beq c0
   refine zC ?_
   refine yO 10 zL ?_
   refine xqg 4 [yB 83 j,eS1 84 I J K,eS1 85 L M N] ?_
   refine xqd 126 [.slice I J K,.slice L M N] 86 xH _ (fun w R Q=>yM xD (jY Q.1.2 Q.2 (by omega) (by omega))) fun⟨k1,l1,m1⟩=>?_
   refine xqg 2 [yJ 87 g,yJ 88 (bits:Int)] ?_
   obtain⟨r,H0⟩:=yE (lC j (a+b) (g) bits false)
   refine xqd 123 [.bool j,.slice k1 l1 m1,.int .i64 g,.int .i64 (bits:Int),.func (.func 125) #[] #[]] 89 (shNb r) _ (fun w R Q=>yM xX ((show Calls _ _ _ _ (wA w r) by rw[←H0];exact gD j _ _ _ _ g _ _ Q.1.1.1.1.1.1.1.1 Q.2 (by have:=Zf2 c1 d1;omega) (by omega) (by omega) (by omega)))) fun⟨m0,n0,o0⟩=>?_
   refine xqg 2 [(90,.v (yV r.s m0 n0 o0 r.e)),yJ 91 r.err] ?_
   refine xz (xq 2 [yJ 7 r.err] [yF 6 79 r.s m0 n0 o0 r.e] ?_)
   refine xe (zA (zG (wU (zI ?_))))
   refine yR (.tuple #[yV r.s m0 n0 o0 r.e,.int .i64 r.err]) fun w' R Q=>?_
   rw[show sumR s x e t y f bits=addR s x e t y f bits by unfold sumR;rw[uJ (by omega),uJ (by omega)],hS]
   rw[Zif e1 O,← kP _ _ _ H,H0]
   exact⟨(m0,n0,o0),rfl,Q.2,R⟩
  have O:¬ j=o:=fun e'=>by rw[e'] at c0;simp at c0
  refine zC (zB (xq 2 [eS1 93 I J K,eS1 94 L M N] [] ?_))
  refine xqc 122 [.slice I J K,.slice L M N] 95 (fun _:Unit=>.int .i64 (cmpI (a:Int) (b:Int))) _ (fun w R Q=>yN (iM Q.1.2 Q.2 (by omega))) fun xx=>?_
  refine xq 2 [(92,.v (.bool (decide ((cmpI (a:Int) (b:Int))≥0))))] [] ?_
  refine xe (zA ?_)
  refine yQ ((decide ((cmpI (a:Int) (b:Int))≥0))) (fun i0=>?_) fun i0=>?_
  ·have j0:b≤a:=by have:=Zbo.1 (uD i0);omega
   refine zC ?_
   refine yO 10 zL ?_
   refine xqg 4 [yB 98 j,eS1 99 I J K,eS1 100 L M N] ?_
   refine xqd 127 [.slice I J K,.slice L M N] 101 xH _ (fun w R Q=>yM xD (Zbd Q.1.1.2 Q.1.2 (by omega) j0)) fun⟨n1,o1,p1⟩=>?_
   refine xqg 2 [yJ 102 g,yJ 103 (bits:Int)] ?_
   obtain⟨C,I0⟩:=yE (lC j (a-b) (g) bits false)
   refine xqd 123 [.bool j,.slice n1 o1 p1,.int .i64 g,.int .i64 (bits:Int),.func (.func 125) #[] #[]] 104 (shNb C) _ (fun w R Q=>yM xX ((show Calls _ _ _ _ (wA w C) by rw[←I0];exact gD j _ _ _ _ g _ _ Q.1.1.1.1.1.1.1.1.1 Q.2 (uE (wR (Nat.sub_le _ _)) (by omega)) (by omega) (by omega) (by omega)))) fun⟨p0,q0,r0⟩=>?_
   refine xqg 2 [(105,.v (yV C.s p0 q0 r0 C.e)),yJ 106 C.err] ?_
   refine xz (xq 2 [yJ 7 C.err] [yF 6 79 C.s p0 q0 r0 C.e] ?_)
   refine xe (zA (zG (wU (zI ?_))))
   refine yR (.tuple #[yV C.s p0 q0 r0 C.e,.int .i64 C.err]) fun w' R Q=>?_
   rw[show sumR s x e t y f bits=addR s x e t y f bits by unfold sumR;rw[uJ (by omega),uJ (by omega)],hS]
   rw[ZgF O j0,← kP _ _ _ H,I0]
   exact⟨(p0,q0,r0),rfl,Q.2,R⟩
  have f1:a<b:=by have:=mt Zbo.2 (uH i0);omega
  refine zN (lN (zA (zC ?_)))
  refine yO 10 zL ?_
  refine xqg 4 [yB 108 o,eS1 109 L M N,eS1 110 I J K] ?_
  refine xqd 127 [.slice L M N,.slice I J K] 111 xH _ (fun w R Q=>yM xD (Zbd Q.1.2 Q.1.1.2 (by omega) (by omega))) fun⟨q1,r1,s1⟩=>?_
  refine xqg 2 [yJ 112 g,yJ 113 (bits:Int)] ?_
  obtain⟨D,J0⟩:=yE (lC o (b-a) (g) bits false)
  refine xqd 123 [.bool o,.slice q1 r1 s1,.int .i64 g,.int .i64 (bits:Int),.func (.func 125) #[] #[]] 114 (shNb D) _ (fun w R Q=>yM xX ((show Calls _ _ _ _ (wA w D) by rw[←J0];exact gD o _ _ _ _ g _ _ Q.1.1.1.1.1.1.1.1.1 Q.2 (uE (wR (Nat.sub_le _ _)) (by omega)) (by omega) (by omega) (by omega)))) fun⟨s0,t0,u0⟩=>?_
  refine xqg 2 [(115,.v (yV D.s s0 t0 u0 D.e)),yJ 116 D.err] ?_
  refine xz (xq 2 [yJ 7 D.err] [yF 6 79 D.s s0 t0 u0 D.e] ?_)
  refine xe (zA (zG ?_))
  refine yR (.tuple #[yV D.s s0 t0 u0 D.e,.int .i64 D.err]) fun w' R Q=>?_
  rw[show sumR s x e t y f bits=addR s x e t y f bits by unfold sumR;rw[uJ (by omega),uJ (by omega)],hS]
  rw[Zfn O f1,← kP _ _ _ H,J0]
  exact⟨(s0,t0,u0),rfl,Q.2,R⟩
 have X0:=uH g0
 refine zN (zA (zC ?_))
 obtain⟨g,Z⟩:=yE (min i k)
 obtain⟨u1,Y0⟩:∃ u:Nat,i-g=u:=uB (by omega)
 obtain⟨u2,Z0⟩:∃ u:Nat,k-g=u:=uB (by omega)
 have hS:=G0
 rw[ZjT Z Y0 Z0] at hS
 have a1:u1≤100000000:=by omega
 have b1:u2≤100000000:=by omega
 have i1 : -4294967296≤g:=by omega
 have j1:g≤4294967296:=by omega
 obtain⟨a,ha⟩:=yE (p*2^u1)
 obtain⟨b,a0⟩:=yE (q*2^u2)
 have c1:wl a≤4000000:=by rw[←ha];exact aB (by omega) a1
 have d1:wl b≤4000000:=by rw[←a0];exact aB (by omega) b1
 have e1:0<a:=by rw[←ha];exact tV l0 (p2 u1)
 rw[ha,a0] at hS
 refine zB (xq 5 [yJ 61 (if k<i then k else i)] [] ?_)
 rw[(show (if k<i then k else i)=g from bH.trans Z)]
 refine xq 1 [yJ 9 g] [] ?_
 refine xe (zA (zC ?_))
 refine SXc.weak [yJ 2 (bits:Int),(3,.p 3 0),(4,.p 4 0),(6,.p 6 0),yJ 7 0,yJ 9 g] [yF 6 79 false none 0 0 0,yF 3 79 j P1 pl pc i,yF 4 79 o Q1 ql qc k] (xK.of (by kernel_rfl)) (by kernel_rfl) (fun _ h=>h) ?_
 refine yO 16 zL ?_
 refine xqg 6 [eS1 63 P1 pl pc,yJ 67 (IntKind.i64.wrap (i-g))] ?_
 rw[yW (i-g) ((u1:Int)) (by omega)]
 refine xqd 66 [.slice P1 pl pc,.int .i64 (u1:Int)] 68 xH _ (fun w R Q=>(kL u1 Q.1.1.1.2 (by omega) (by omega)).mono (fun _ _ h=>xD (by rw[ha] at h;exact h))) fun⟨P,S,T⟩=>?_
 refine xqg 6 [eS1 70 Q1 ql qc,yJ 74 (IntKind.i64.wrap (k-g))] ?_
 rw[yW (k-g) ((u2:Int)) (by omega)]
 refine xqd 66 [.slice Q1 ql qc,.int .i64 (u2:Int)] 75 xH _ (fun w R Q=>(kL u2 Q.1.1.1.2 (by omega) (by omega)).mono (fun _ _ h=>xD (by rw[a0] at h;exact h))) fun⟨U,V,W⟩=>?_
 refine xqg 2 [eS1 10 P S T,eS1 11 U V W] ?_
 refine xz (xe (zA (zC (xM (zC (zB (xq 6 [yB 76 (j == o)] [] ?_)))))))
 refine xe (zA ?_)
 refine yQ ((j == o)) (fun d0=>?_) fun d0=>?_
 ·have O:j=o:=eq_of_beq d0
  refine zC ?_
  refine yO 10 zL ?_
  refine xqg 4 [yB 83 j,eS1 84 P S T,eS1 85 U V W] ?_
  refine xqd 126 [.slice P S T,.slice U V W] 86 xH _ (fun w R Q=>yM xD (jY Q.1.2 Q.2 (by omega) (by omega))) fun⟨t1,v1,w1⟩=>?_
  refine xqg 2 [yJ 87 g,yJ 88 (bits:Int)] ?_
  obtain⟨E,K0⟩:=yE (lC j (a+b) (g) bits false)
  refine xqd 123 [.bool j,.slice t1 v1 w1,.int .i64 g,.int .i64 (bits:Int),.func (.func 125) #[] #[]] 89 (shNb E) _ (fun w R Q=>yM xX ((show Calls _ _ _ _ (wA w E) by rw[←K0];exact gD j _ _ _ _ g _ _ Q.1.1.1.1.1.1.1 Q.2 (by have:=Zf2 c1 d1;omega) (by omega) (by omega) (by omega)))) fun⟨v0,w0,x0⟩=>?_
  refine xqg 2 [(90,.v (yV E.s v0 w0 x0 E.e)),yJ 91 E.err] ?_
  refine xz (xq 2 [yJ 7 E.err] [yF 6 79 E.s v0 w0 x0 E.e] ?_)
  refine xe (zA (zG (wU (zI ?_))))
  refine yR (.tuple #[yV E.s v0 w0 x0 E.e,.int .i64 E.err]) fun w' R Q=>?_
  rw[show sumR s x e t y f bits=addR s x e t y f bits by unfold sumR;rw[uJ (by omega),uJ (by omega)],hS]
  rw[Zif e1 O,← kP _ _ _ H,K0]
  exact⟨(v0,w0,x0),rfl,Q.2,R⟩
 have O:¬ j=o:=fun e'=>by rw[e'] at d0;simp at d0
 refine zC (zB (xq 2 [eS1 93 P S T,eS1 94 U V W] [] ?_))
 refine xqc 122 [.slice P S T,.slice U V W] 95 (fun _:Unit=>.int .i64 (cmpI (a:Int) (b:Int))) _ (fun w R Q=>yN (iM Q.1.2 Q.2 (by omega))) fun xx=>?_
 refine xq 2 [(92,.v (.bool (decide ((cmpI (a:Int) (b:Int))≥0))))] [] ?_
 refine xe (zA ?_)
 refine yQ ((decide ((cmpI (a:Int) (b:Int))≥0))) (fun k0=>?_) fun k0=>?_
 ·have j0:b≤a:=by have:=Zbo.1 (uD k0);omega
  refine zC ?_
  refine yO 10 zL ?_
  refine xqg 4 [yB 98 j,eS1 99 P S T,eS1 100 U V W] ?_
  refine xqd 127 [.slice P S T,.slice U V W] 101 xH _ (fun w R Q=>yM xD (Zbd Q.1.1.2 Q.1.2 (by omega) j0)) fun⟨x1,y1,z1⟩=>?_
  refine xqg 2 [yJ 102 g,yJ 103 (bits:Int)] ?_
  obtain⟨F,L0⟩:=yE (lC j (a-b) (g) bits false)
  refine xqd 123 [.bool j,.slice x1 y1 z1,.int .i64 g,.int .i64 (bits:Int),.func (.func 125) #[] #[]] 104 (shNb F) _ (fun w R Q=>yM xX ((show Calls _ _ _ _ (wA w F) by rw[←L0];exact gD j _ _ _ _ g _ _ Q.1.1.1.1.1.1.1.1 Q.2 (uE (wR (Nat.sub_le _ _)) (by omega)) (by omega) (by omega) (by omega)))) fun⟨y0,z0,A0⟩=>?_
  refine xqg 2 [(105,.v (yV F.s y0 z0 A0 F.e)),yJ 106 F.err] ?_
  refine xz (xq 2 [yJ 7 F.err] [yF 6 79 F.s y0 z0 A0 F.e] ?_)
  refine xe (zA (zG (wU (zI ?_))))
  refine yR (.tuple #[yV F.s y0 z0 A0 F.e,.int .i64 F.err]) fun w' R Q=>?_
  rw[show sumR s x e t y f bits=addR s x e t y f bits by unfold sumR;rw[uJ (by omega),uJ (by omega)],hS]
  rw[ZgF O j0,← kP _ _ _ H,L0]
  exact⟨(y0,z0,A0),rfl,Q.2,R⟩
 have f1:a<b:=by have:=mt Zbo.2 (uH k0);omega
 refine zN (lN (zA (zC ?_)))
 refine yO 10 zL ?_
 refine xqg 4 [yB 108 o,eS1 109 U V W,eS1 110 P S T] ?_
 refine xqd 127 [.slice U V W,.slice P S T] 111 xH _ (fun w R Q=>yM xD (Zbd Q.1.2 Q.1.1.2 (by omega) (by omega))) fun⟨A1,B1,C1⟩=>?_
 refine xqg 2 [yJ 112 g,yJ 113 (bits:Int)] ?_
 obtain⟨G,M0⟩:=yE (lC o (b-a) (g) bits false)
 refine xqd 123 [.bool o,.slice A1 B1 C1,.int .i64 g,.int .i64 (bits:Int),.func (.func 125) #[] #[]] 114 (shNb G) _ (fun w R Q=>yM xX ((show Calls _ _ _ _ (wA w G) by rw[←M0];exact gD o _ _ _ _ g _ _ Q.1.1.1.1.1.1.1.1 Q.2 (uE (wR (Nat.sub_le _ _)) (by omega)) (by omega) (by omega) (by omega)))) fun⟨B0,C0,D0⟩=>?_
 refine xqg 2 [(115,.v (yV G.s B0 C0 D0 G.e)),yJ 116 G.err] ?_
 refine xz (xq 2 [yJ 7 G.err] [yF 6 79 G.s B0 C0 D0 G.e] ?_)
 refine xe (zA (zG ?_))
 refine yR (.tuple #[yV G.s B0 C0 D0 G.e,.int .i64 G.err]) fun w' R Q=>?_
 rw[show sumR s x e t y f bits=addR s x e t y f bits by unfold sumR;rw[uJ (by omega),uJ (by omega)],hS]
 rw[Zfn O f1,← kP _ _ _ H,M0]
 exact⟨(B0,C0,D0),rfl,Q.2,R⟩
def xA (q:Rat):List UInt8:=if q.den=1 then Lib.itoa q.num else Lib.itoa q.num ++ [47] ++ Lib.itoa (q.den:Int)
theorem ZjU {x y:Int}(c:0<y):(Rat.divInt x y).num=x.tdiv (Int.gcd x y:Int)∧((Rat.divInt x y).den:Int)=y.tdiv (Int.gcd x y:Int):=by
 have a:(Int.gcd x y:Int)∣x:=Int.gcd_dvd_left _ _
 have b:(Int.gcd x y:Int)∣y:=Int.gcd_dvd_right _ _
 rw[Rat.num_divInt,Rat.den_divInt,uJ (by omega),sR c,pY,Int.gcd_comm y x,Int.tdiv_eq_ediv_of_dvd a,Int.tdiv_eq_ediv_of_dvd b]
 refine⟨rfl,?_⟩
 rw[tD]
 congr 1
 omega
theorem Zen {x y:Int}(a:0<y)(h:((Int.gcd x y:Nat):Int)=1):(Rat.divInt x y).num=x∧((Rat.divInt x y).den:Int)=y:=by
 have:=ZjU (x:=x) a
 rwa [h,Int.tdiv_one,Int.tdiv_one] at this
theorem ZgG {c:UInt8}(h:zU c=true):UInt8.ofNat (48+(c.toNat-48))=c:=by
 have:=cI h
 apply UInt8.toNat.inj
 rw[UInt8.toNat_ofNat']
 have:=c.toNat_lt
 omega
theorem ZgH:∀ (k:Nat) (l:List UInt8),l.length=k→l.all zU=true→l≠[]→l.head? ≠ some 48→Lib.decDigits (zH l)=l:=by
 intro k
 induction k with
 | zero=>intro l d _ g;exact absurd (tI.1 d) g
 | succ k ih =>
  intro l d f g b
  obtain⟨l',c,rfl⟩:∃ l' c,l=l' ++ [c]:=by
   rcases List.eq_nil_or_concat l with h|⟨l',c,h⟩
   ·exact absurd h g
   exact⟨l',c,by simpa using h⟩
  rw[rY,sL] at f
  have i:zU c=true:=by simpa using f.2
  have m:=cI i
  rw[dK]
  by_cases a:l'=[]
  ·subst a
   have e:zH []=0:=rfl
   rw[e,tK,sC,dN (by omega),ZgG i];rfl
  have j:l'.head? ≠ some 48:=by
   rw[List.head?_append] at b
   cases hx:l'.head? with
   | none=>exact absurd (List.head?_eq_none_iff.1 hx) a
   | some x=>rw[hx] at b;exact b
  have n:=ih l' (by simp at d;exact d) f.1 a j
  have o:=(Zc8 f.1 a j).1
  rw[Zdk (by omega),show (10*zH l'+(c.toNat-48))/10=zH l' by omega,show (10*zH l'+(c.toNat-48))%10=c.toNat-48 by omega,n,ZgG i]
theorem ZkY (n:Nat):(Lib.decDigits n).head? ≠ some 45:=by
 intro e
 cases h:Lib.decDigits n with
 | nil=>exact lI n h
 | cons x xs =>
  rw[h] at e
  simp only[List.head?_cons,Option.some.injEq] at e
  subst e
  have:=jK n
  rw[h] at this
  simp only[rD,sL] at this
  exact absurd this.1 (by decide)
theorem Zaw {p:UInt8→Bool}{l r:List UInt8}{c:UInt8}(h:l.all p=true)(a:p c=false):(l ++ c :: r).takeWhile p=l∧(l ++ c :: r).dropWhile p=c :: r:=by
 induction l with
 | nil=>simp[a]
 | cons x xs ih =>
  simp only[rD,sL] at h
  obtain⟨b,d⟩:=ih h.2
  rw[pX,pG,List.dropWhile_cons,h.1]
  simp[b,d]
theorem ZaK (z:Int)(r:List UInt8):zQ (Lib.itoa z ++ r)=(decide (z<0),Lib.decDigits z.natAbs ++ r):=by
 by_cases h:z<0
 ·rw[ZbR h,uW h]
  unfold zQ
  rw[uL (by simp)]
  rfl
 rw[ZcN (by omega),vF h]
 unfold zQ
 rw[uJ]
 intro e
 rw[List.head?_append] at e
 cases hx:(Lib.decDigits z.natAbs).head? with
 | none=>exact absurd (List.head?_eq_none_iff.1 hx) (lI _)
 | some c =>
  rw[hx] at e
  exact ZkY _ (hx.trans e)
theorem Zad (z:Int):sg (decide (z<0)) z.natAbs=z:=by
 unfold sg
 split
 ·rename_i h;have:=uD h;omega
 rename_i h;have:¬ z<0:=fun k=>h (uW k);omega
theorem ZgI {q:Rat}(h:q.den=1):((q.num:Int):Rat)=q:=by
 apply Rat.ext<;>simp[h]
theorem ZrJ {q:Rat}(h:q.den≠1):q.num≠0:=by
 intro e
 have:=q.reduced
 rw[e] at this
 simp[Nat.Coprime] at this
 exact h this
theorem jR (n:Nat):Lib.itoa (n:Int)=Lib.decDigits n:=by
 rw[ZcN (by omega),vS]
theorem ZmK {q:Rat}(h:q.den≠1):wQ (xA q)=(decide (q.num<0),Lib.decDigits q.num.natAbs,Lib.decDigits q.den,true):=by
 have l:=ZrJ h
 have m:=q.den_nz
 unfold xA
 rw[uJ h,jR,tC]
 unfold wQ
 rw[ZaK]
 simp only[]
 obtain⟨g,i⟩:=Zaw (p:=zU) (r:=Lib.decDigits q.den) (c:=47) (jK q.num.natAbs) (by decide)
 have e:Lib.decDigits q.num.natAbs ++ ([47] ++ Lib.decDigits q.den)=Lib.decDigits q.num.natAbs ++ 47 :: Lib.decDigits q.den:=rfl
 rw[e,g,i]
 have f:=aF q.num.natAbs (by omega)
 rw[uJ (fun e=>f (by rw[e];rfl)),uJ (fun e=>e.elim (lI _) f),uJ (by simp),uJ (by simp)]
 simp only[List.tail_cons]
 obtain⟨j,k⟩:=dF (jK q.den)
 rw[j,k]
 have a:=aF q.den (by omega)
 have b:Lib.decDigits q.den≠[49]:=fun e=>by
  have:=jL q.den
  rw[e] at this
  exact h (by rw[←this];rfl)
 have d:=lI q.den
 simp[a,b,d]
theorem Za0 (q:Rat):xS (xA q)=some q:=by
 by_cases h:q.den=1
 ·unfold xA
  rw[uL h,Zn4,ZgI h]
 unfold xS
 rw[ZmK h]
 simp only[]
 rw[uJ (lI _),jL,jL,uL q.reduced,Zad,Rat.mkRat_self]
theorem Zig {neg:Bool}{a:Nat}(h:a=0→neg=false):(sg neg a<0↔neg=true)∧(sg neg a).natAbs=a:=by
 cases neg with
 | false=>simp[sg]
 | true =>
  have:a≠0:=fun e=>by cases h e
  simp[sg];omega
theorem Zax {neg:Bool}{a:Nat}(h:a=0→neg=false):Lib.itoa (sg neg a)=(if neg then [45] else []) ++ Lib.decDigits a:=by
 obtain⟨c,b⟩:=Zig h
 cases neg with
 | false=>rw[ZcN (by simp[sg]),b];rfl
 | true=>rw[ZbR (c.2 rfl),b];rfl
theorem Zfp {l r:List UInt8}{neg:Bool}(h:zQ l=(neg,r)):l=(if neg then [45] else []) ++ r:=by
 unfold zQ at h
 split at h
 ·rename_i hh
  injection h with h1 h2
  subst h1 h2
  cases l with
  | nil=>cases hh
  | cons x xs=>simp at hh;subst hh;rfl
 injection h with h1 h2
 subst h1 h2
 rfl
theorem gV {l:List UInt8}{q:Rat}(h:xS l=some q):xA q=l:=by
 unfold xS at h
 cases hs:wQ l with
 | mk neg r =>
  obtain⟨num,den,ok⟩:=r
  rw[hs] at h
  cases ok with
  | false=>cases h
  | true =>
   simp only[] at h
   have k:=dE hs
   obtain⟨A,m⟩:=Zc9 hs
   cases hu:zQ l with
   | mk neg' t =>
    have j:=Zfp hu
    have a:t.takeWhile zU ++ t.dropWhile zU=t:=qK
    unfold wQ at hs
    rw[hu] at hs
    simp only[] at hs
    split at hs
    ·-- zero
     rename_i f
     injection hs with e1 hs;injection hs with e2 hs;injection hs with e3 e4
     subst e1 e2 e3
     simp at e4
     rw[uL rfl,f] at h
     have B:zH [48]=0:=rfl
     rw[B] at h
     injection h with h
     rw[e4.1] at h j
     rw[←h,j,← a,f,e4.2]
     simp only[sg]
     unfold xA
     rw[uL (by simp)]
     have:Lib.itoa ((0:Nat):Int)=[48]:=by rw[jR,dN (by omega)];rfl
     simpa using this
    split at hs
    ·injection hs with _ hs;injection hs with _ hs;injection hs with _ hs;cases hs
    rename_i z
    have n:t.takeWhile zU≠[]:=fun e=>z (Or.inl e)
    have o:(t.takeWhile zU).head? ≠ some 48:=fun e=>z (Or.inr e)
    have g:=ZgH _ _ rfl (jX (p:=zU) t) n o
    split at hs
    ·rename_i s
     injection hs with e1 hs;injection hs with e2 hs;injection hs with e3 _
     subst e1 e2 e3
     rw[uL rfl] at h
     injection h with h
     rw[←h]
     unfold xA
     rw[uL (by simp)]
     have i:(((sg neg' (zH (t.takeWhile zU)):Int)):Rat).num=sg neg' (zH (t.takeWhile zU)):=rfl
     rw[i,Zax (fun e=>(m e).1),g,j]
     rw[s,rI] at a
     rw[a]
    split at hs
    ·injection hs with _ hs;injection hs with _ hs;injection hs with _ hs;cases hs
    rename_i s b
    injection hs with e1 hs;injection hs with e2 hs;injection hs with e3 e4
    subst e1 e2
    rw[e3] at e4
    simp at e4
    obtain⟨⟨⟨u,v⟩,C⟩,E⟩:=e4
    rw[uJ v] at h
    split at h
    ·rename_i D
     injection h with h
     have F:=A v
     have w:q.num=sg neg' (zH (t.takeWhile zU))∧q.den=zH den:=by
      have:=Zen (x:=sg neg' (zH (t.takeWhile zU))) (y:=(zH den:Int)) (by omega) (by
       unfold Int.gcd
       rw[(Zig (fun e=>(m e).1)).2,vS,D];rfl)
      rw[Rat.divInt_ofNat,h] at this
      exact⟨this.1,by have:=this.2;omega⟩
     unfold xA
     rw[uJ (by rw[w.2];omega),w.1,w.2,Zax (fun e=>(m e).1),g,jR,ZgH _ _ rfl k.2.1 v C,j]
     have d:t.dropWhile zU=47 :: den:=by
      cases hx:t.dropWhile zU with
      | nil=>exact absurd hx s
      | cons c r =>
       rw[hx] at b u e3
       simp at b u e3
       subst b
       have:=qK (p:=zU) (l:=r)
       rw[e3,u,rI] at this
       rw[this]
     rw[d] at a
     rw[tC,tC]
     congr 1
    cases h
theorem Zpw {l:List UInt8}{q:Rat}:xS l=some q↔xA q=l :=
 ⟨gV,fun h=>by rw[←h];exact Za0 q⟩
def fvB (s:List UInt8) (e:Int):Bool :=
 if s=[48] then decide (e=0)
 else decide ((zQ s).2≠[]∧(zQ s).2.head? ≠ some 48∧okE e∧(zQ s).2.all zU=true∧zH (zQ s).2%2=1)
def flM (s:List UInt8):Int:=sg (zQ s).1 (zH (zQ s).2)
theorem fL:Lib.itoa 0=[48]:=by
 rw[show (0:Int)=((0:Nat):Int) from rfl,jR,dN (by omega)];rfl
theorem ZfI:flM [48]=0:=by decide
theorem ZcO {neg:Bool}{a:Nat}(h:a%2=1):sg neg a%2=1:=by unfold sg;split<;>omega
theorem ZlJ {s:List UInt8}{e:Int}(h:fvB s e=true):s=Lib.itoa (flM s)∧((flM s=0∧e=0)∨(flM s%2=1∧okE e)):=by
 unfold fvB at h
 by_cases a:s=[48]
 ·rw[uL a] at h
  subst a
  rw[ZfI]
  exact⟨fL.symm,Or.inl ⟨rfl,uD h⟩⟩
 rw[uJ a] at h
 obtain⟨b,c,d,f,g⟩:=uD h
 unfold flM
 refine⟨?_,Or.inr ⟨ZcO g,d⟩⟩
 rw[Zax (fun h=>by omega),ZgH _ _ rfl f b c]
 exact Zfp rfl
theorem jC (z:Int):zQ (Lib.itoa z)=(decide (z<0),Lib.decDigits z.natAbs):=by
 have:=ZaK z []
 rwa [rI,rI] at this
theorem lV (z:Int):flM (Lib.itoa z)=z:=by
 unfold flM;rw[jC,jL];exact Zad z
theorem ZcP (z e:Int):fvB (Lib.itoa z) e=decide ((z=0∧e=0)∨(z%2=1∧okE e)):=by
 unfold fvB
 by_cases a:z=0
 ·subst a
  rw[fL,uL rfl]
  by_cases b:e=0
  ·subst b;rfl
  rw[vF b]
  symm
  exact vF (fun h=>by rcases h with h|h<;>omega)
 have c:¬ Lib.itoa z=[48]:=fun h=>a (by rw[←lV z,h,ZfI])
 rw[uJ c,jC]
 refine qM.2 ⟨fun⟨_,_,d,_,f⟩=>Or.inr ⟨?_,d⟩,fun h=>?_⟩
 ·rw[jL] at f;omega
 rcases h with ⟨h,_⟩|⟨i,g⟩
 ·exact absurd h a
 exact⟨lI _,aF _ (by omega),g,jK _,by rw[jL];omega⟩
theorem Zpx {l:List UInt8}{c:UInt8}(h:(l ++ [c]).all zU=true):zH (l ++ [c])%2=c.toNat % 2:=by
 rw[dK]
 have a:zU c=true:=by rw[rY] at h;simp at h;exact h.2
 have:=cI a
 omega
noncomputable def valF (l:List UInt8):Rat:=(xS l).getD 0
theorem Zn5 {l:List UInt8}(b:l.all zU=true)(f:l.length≤570):wl (zH l)≤30:=by
 rw[kE]
 have c:=lR l b
 obtain⟨k,d⟩:∃ k,k=30:=⟨_,rfl⟩
 have a:10^l.length≤10^(19*k):=uR (by omega) (by omega)
 rw[←d]
 rw[sZ] at a
 have e:(10^19)^k≤W64^k:=sF (by rw[zO];decide) k
 exact uQ c (uE a e)
theorem Zih {l:List UInt8}(h:xS l=none):valF l=0:=by unfold valF;rw[h];rfl
theorem cU {l:List UInt8}{q:Rat}(h:xS l=some q):valF l=q:=by unfold valF;rw[h];rfl
end Go.Proofs.YtklpdkpcocnglaaGreatDoor
namespace Go.Proofs.YtklpdkpcocnglaaGreatDoor
open Go.RowKit Go.Sort
end Go.Proofs.YtklpdkpcocnglaaGreatDoor
namespace Go.Proofs.YtklpdkpcocnglaaGreatDoor
open Go.RowKit
theorem Za1 {l:List UInt8}{q:Rat}{k:Nat}(h:xS l=some q)(p:l.length≤k)(r:1≤k):q.num.natAbs<10^k∧q.den<10^k:=by
 unfold xS at h
 obtain⟨⟨neg,num,den,ok⟩,a⟩:∃ x,wQ l=x:=⟨_,rfl⟩
 rw[a] at h
 cases ok with
 | false=>cases h
 | true =>
  obtain⟨f,g,s⟩:=dE a
  have b:∀ z,(sg neg z).natAbs=z:=fun z=>by unfold sg;split<;>omega
  have d:zH num<10^k:=uQ (lR num f) (uR (by omega) (by omega))
  have i:zH den<10^k:=uQ (lR den g) (uR (by omega) (by omega))
  simp only[] at h
  split at h
  ·injection h with h
   subst h
   refine⟨?_,?_⟩
   ·show (sg neg (zH num)).natAbs<10^k
    rw[b];exact d
   show 1<10^k
   exact Nat.one_lt_pow (by omega) (by omega)
  split at h
  ·rename_i c j
   injection h with h
   subst h
   have m:=(Zc9 a).1 c
   obtain⟨n,e⟩:=Zfe (z:=sg neg (zH num)) m (by rw[b];exact j)
   refine⟨by rw[n,b];exact d,?_⟩
   have o:(mkRat (sg neg (zH num)) (zH den)).den=zH den:=by
    unfold denF at e
    split at e<;>omega
   rw[o];exact i
  cases h
theorem ZmM {q:Rat}{n d:Int}(a:d≠0)(h:Rat.divInt n d=q):q.num*d=n*q.den:=by
 have b:=(Rat.divInt_eq_divInt_iff (denI q) a (n₁:=q.num) (n₂:=n)).1 (by rw[sO,h])
 exact b
theorem Zdl {q:Rat}{n d:Int}{k:Nat}(j:d≠0)(h:Rat.divInt n d=q)(o:n.natAbs<10^k)(u:d.natAbs<10^k):q.num.natAbs<10^k∧q.den<10^k:=by
 have l:=ZmM j h
 have b:q.num.natAbs*d.natAbs=n.natAbs*q.den:=by
  have:=vP Int.natAbs l
  rwa [tE,tE,vS] at this
 have a:=q.reduced
 have c:q.den∣d.natAbs:=(Nat.Coprime.symm a).dvd_of_dvd_mul_left ⟨n.natAbs,by rw[b,uF]⟩
 have f:0<d.natAbs:=by omega
 have m:=Nat.le_of_dvd f c
 refine⟨?_,by omega⟩
 have g:q.num.natAbs∣n.natAbs:=a.dvd_of_dvd_mul_right ⟨d.natAbs,b.symm⟩
 rcases uI n.natAbs with e|e
 ·rw[e,sI] at b
  rcases Nat.mul_eq_zero.1 b with i|i
  ·rw[i];exact uT (by omega)
  omega
 have:=Nat.le_of_dvd e g;omega
theorem Zep {a b:Rat}{k:Nat}(ha:a.num.natAbs<10^k∧a.den<10^k)(c:b.num.natAbs<10^k∧b.den<10^k) :
 ((a+b).num.natAbs<10^(2*k+1)∧(a+b).den<10^(2*k+1))∧((a*b).num.natAbs<10^(2*k)∧(a*b).den<10^(2*k))∧(b.num≠0→(a/b).num.natAbs<10^(2*k)∧(a/b).den<10^(2*k)):=by
 have d:∀ x y:Nat,x<10^k→y<10^k→x*y<10^(2*k):=fun x y e h=>by
  have:=qA e h
  rwa [←uS,show k+k=2*k by omega] at this
 have i:∀ x:Nat,x<10^(2*k)→x<10^(2*k+1):=fun x e=>by
  rw[uO];omega
 have j:=d _ _ ha.1 c.2
 have v:=d _ _ c.1 ha.2
 have l:=d _ _ ha.2 c.2
 have m:=d _ _ ha.1 c.1
 have n:=d _ _ ha.2 c.1
 have o:(a.num*b.den+b.num*a.den).natAbs<10^(2*k+1):=by
  have:=Int.natAbs_add_le (a.num*b.den) (b.num*a.den)
  rw[tE,tE,vS,vS] at this
  rw[uO];omega
 have f:((a.den:Int)*b.den).natAbs<10^(2*k):=by rw[tE,vS,vS];exact l
 have g:=qW (denI a) (denI b)
 exact⟨Zdl g (ZbI a b) o (i _ f),Zdl g (ZbJ a b) (by rw[tE];exact m) f,
  fun u=>Zdl (qW (denI a) u) (Zjv a b) (by rw[tE,vS];exact j) (by rw[tE,vS];exact n)⟩
theorem Zij {b:Rat}{n:Nat}(a:b.num.natAbs<n∧b.den<n):(-b).num.natAbs<n∧(-b).den<n:=by
 rw[ZfC,ZfD,Int.natAbs_neg];exact a
theorem Zn7 {a b:Rat}{k:Nat}(ha:a.num.natAbs<10^k∧a.den<10^k)(c:b.num.natAbs<10^k∧b.den<10^k):(a-b).num.natAbs<10^(2*k+1)∧(a-b).den<10^(2*k+1):=by
 rw[Rat.sub_eq_add_neg];exact (Zep ha (Zij c)).1
section
variable {s t:ByteArray} {p q r:Rat} {w:World}
end
theorem ZmN {w w':World}{e:Ending}{l:List UInt8}(h:ZfJ w l e w'):kM (fun x:Int×Int×Bool=>.tuple #[.agg #[.int .i64 x.1,.int .i64 x.2.1],.bool x.2.2]) (fun x _=>Zbp l x.1 x.2.1 x.2.2) w e w':=by
 obtain⟨a,b,ok,rfl,c,Q⟩:=h
 exact⟨(a,b,ok),rfl,Q,BoxN.pure c⟩
abbrev ShSp:=Bool×ByteArray×ByteArray×Bool
theorem ZmO {w w':World}{e:Ending}{s:ByteArray}(h:ZfB s w e w'):kM (fun x:ShSp=>.tuple #[.agg #[.bool x.1,.string x.2.1,.string x.2.2.1],.bool x.2.2.2]) (fun x _=>wQ (bytes s)=(x.1,bytes x.2.1,bytes x.2.2.1,x.2.2.2)) w e w':=by
 obtain⟨neg,t,d,ok,rfl,a,Q⟩:=h
 exact⟨(neg,t,d,ok),rfl,Q,BoxN.pure a⟩
theorem ZlK {x:ByteArray}(h:bytes x=[]):(x.toList == (⟨#[]⟩:ByteArray).toList)=true:=by
 rw[Lib.toList_data,Lib.toList_data,show x.data.toList=[] from h];rfl
theorem ZlL {x:ByteArray}(h:¬ bytes x=[]):(x.toList == (⟨#[]⟩:ByteArray).toList)=false:=by
 rw[Lib.toList_data,Lib.toList_data]
 exact rH.2 h
theorem Zn8 {l:List UInt8}{neg:Bool}{t d:List UInt8}(h:wQ l=(neg,t,d,false)):xS l=none:=by unfold xS;rw[h]
theorem Zn9 {l:List UInt8}{neg:Bool}{t d:List UInt8}(h:wQ l=(neg,t,d,true))(a:d=[]):(xS l).isSome=true:=by unfold xS;rw[h];simp[a]
theorem Zoa {l:List UInt8}{neg:Bool}{t d:List UInt8}(h:wQ l=(neg,t,d,true))(b:¬ d=[]):(xS l).isSome=decide (((Int.gcd (zH t:Int) (zH d:Int):Nat):Int)=1):=by
 unfold xS
 rw[h]
 have e:Int.gcd (zH t:Int) (zH d:Int)=Nat.gcd (zH t) (zH d):=rfl
 rw[e]
 simp only[uJ b]
 by_cases a:Nat.gcd (zH t) (zH d)=1
 ·rw[uL a,a];rfl
 rw[uJ a];simp;omega
theorem ZmP {l:List UInt8}{a b:Int}(h:Zbp l a b true):(xS l).isSome=true:=by
 rcases h with ⟨_,q,h,_⟩|⟨h,_⟩
 ·rw[h];rfl
 cases h
theorem Zcj (s:ByteArray)(w:World)(H:Glob w)(I:(bytes s).length≤570) :
 yA 54 #[.string s] w (RetV w (.bool (xS (bytes s)).isSome)):=by
 have l:s.size≤1099511627776:=by rw[zP] at I;omega
 refine zV (Φ:=fun w=>Glob w) Tryz.func54 rfl (by kernel_rfl) (fun w' J=>H.ext J) ?_
 refine zC (zB (xr 1 [yT 0 s,yB 2 false] [] ?_))
 refine xe (zA (zC (zC (zB (xr 1 [yT 0 s,yB 2 false,yT 8 s] [] ?_)))))
 refine xc 92 [.string s] 9 (fun x:Int×Int×Bool=>.tuple #[.agg #[.int .i64 x.1,.int .i64 x.2.1],.bool x.2.2]) _ (fun w R Q=>yM ZmN (ZiE s _ l)) fun⟨L,M,B⟩=>?_
 rcases B with _|_
 ·refine xr 6 [yT 0 s,yB 2 false,yB 4 false] [] ?_
  refine xe (zA (zC (zB (xr 1 [yT 0 s,yB 2 false,yB 12 false] [] ?_))))
  refine xe (zA (xb (zN (zA (zC (zB (xr 1 [yB 2 false,yT 14 s] [] ?_)))))))
  refine xc 93 [.string s] 15 (fun x:ShSp=>.tuple #[.agg #[.bool x.1,.string x.2.1,.string x.2.2.1],.bool x.2.2.2]) _ (fun w R Q=>yM ZmO (ZhY s _ l)) fun⟨a,c,b,C⟩=>?_
  rcases C with _|_
  ·refine xr 6 [yB 2 false,(5,.p 5 0),yB 6 false] [(5,123,[.v (.bool a),.v (.string c),.v (.string b)])] ?_
   refine xe (zA (zC (zC ?_)))
   refine SXc.know (p:=wQ (bytes s)=(a,bytes c,bytes b,false)) (fun w _ Q=>Q.2) fun m=>?_
   refine zB (xr 7 [yB 2 false,(5,.p 5 0),yB 6 false,yB 24 true] [(5,123,[.v (.bool a),.v (.string c),.v (.string b)])] ?_)
   refine xe (zA (xa (zC (zB (xr 2 [yB 2 false,(5,.p 5 0)] [(5,123,[.v (.bool a),.v (.string c),.v (.string b)])] ?_)))))
   refine xe (zA (zG (zI ?_)))
   refine yR (.bool false) fun w' R Q=>?_
   exact⟨by rw[Zn8 m];rfl,R⟩
  refine xr 6 [yB 2 false,(5,.p 5 0),yB 6 true] [(5,123,[.v (.bool a),.v (.string c),.v (.string b)])] ?_
  refine xe (zA (zC (zC ?_)))
  refine SXc.know (p:=wQ (bytes s)=(a,bytes c,bytes b,true)) (fun w _ Q=>Q.2) fun m=>?_
  by_cases A:bytes b=[]
  ·refine zB (xr 6 [yB 2 false,(5,.p 5 0),yB 6 true,yB 20 false,yB 23 ((b:ByteArray).toList == (⟨#[]⟩:ByteArray).toList)] [(5,123,[.v (.bool a),.v (.string c),.v (.string b)])] ?_)
   rw[ZlK A]
   refine xr 1 [yB 2 false,(5,.p 5 0),yB 6 true,yB 24 true] [(5,123,[.v (.bool a),.v (.string c),.v (.string b)])] ?_
   refine xe (zA (xa (zC (zB (xr 2 [yB 2 true,(5,.p 5 0)] [(5,123,[.v (.bool a),.v (.string c),.v (.string b)])] ?_)))))
   refine xe (zA (zG (zI ?_)))
   refine yR (.bool true) fun w' R Q=>?_
   exact⟨by rw[Zn9 m A],R⟩
  refine zB (xr 6 [yB 2 false,(5,.p 5 0),yB 6 true,yB 20 false,yB 23 ((b:ByteArray).toList == (⟨#[]⟩:ByteArray).toList)] [(5,123,[.v (.bool a),.v (.string c),.v (.string b)])] ?_)
  rw[ZlL A]
  refine xr 1 [yB 2 false,(5,.p 5 0),yB 6 true,yB 24 false] [(5,123,[.v (.bool a),.v (.string c),.v (.string b)])] ?_
  refine xe (zA (xb (zN (zA (zC ?_)))))
  obtain⟨d,e,K⟩:=dE m
  have f:Zc7 c.size:=by unfold Zc7;rw[←zP];omega
  have g:Zc7 b.size:=by unfold Zc7;rw[←zP];omega
  have D:wl ((zH (bytes c):Nat):Int).natAbs≤79:=by rw[vS];exact uE (Zn5 d (by omega)) (by decide)
  have E:wl ((zH (bytes b):Nat):Int).natAbs≤79:=by rw[vS];exact uE (Zn5 e (by omega)) (by decide)
  have F:Fits ((zH (bytes c):Nat):Int):=by unfold Fits;omega
  have G:Fits ((zH (bytes b):Nat):Int):=by unfold Fits;omega
  refine yO 9 zL ?_
  refine xf 2 [yB 2 false,(5,.p 5 0),yT 27 c] [(5,123,[.v (.bool a),.v (.string c),.v (.string b)])] ?_
  refine xd 94 [.string c] 28 xW _ (fun w R Q=>yM ZfG (Zd4 c _ d f)) fun⟨h,i,j,k⟩=>?_
  refine xf 2 [yB 2 false,eI2 28 h i j k,yT 30 b] [(5,123,[.v (.bool a),.v (.string c),.v (.string b)])] ?_
  refine xd 94 [.string b] 31 xW _ (fun w R Q=>yM ZfG (Zd4 b _ e g)) fun⟨n,o,q,r⟩=>?_
  refine xf 0 [yB 2 false,eI2 28 h i j k,eI2 31 n o q r] [(5,123,[.v (.bool a),.v (.string c),.v (.string b)])] ?_
  refine xd 95 [vI2 h i j k,vI2 n o q r] 32 xW _ (fun w R Q=>yM ZfG (Zqi _ _ ((zH (bytes c):Int)) ((zH (bytes b):Int)) _ Q.1.1.1.1 Q.1.2 Q.2 F G (ZiZ.words D E))) fun⟨t,u,y,z⟩=>?_
  refine xf 0 [yB 2 false,eI2 32 t u y z] [(5,123,[.v (.bool a),.v (.string c),.v (.string b)])] ?_
  refine xd 96 [vI2 t u y z] 33 (fun _:Unit=>.bool (decide ((((Int.gcd ((zH (bytes c):Int)) ((zH (bytes b):Int)):Nat):Int))=1))) _ (fun w R Q=>yN (Znm _ (((Int.gcd ((zH (bytes c):Int)) ((zH (bytes b):Int)):Nat):Int)) _ Q.2)) fun N=>?_
  refine xf 1 [(2,.v (.bool (decide ((((Int.gcd ((zH (bytes c):Int)) ((zH (bytes b):Int)):Nat):Int))=1))))] [(5,123,[.v (.bool a),.v (.string c),.v (.string b)])] ?_
  refine xz (xe (zA (zG ?_)))
  refine zE (v:=.bool (decide ((((Int.gcd ((zH (bytes c):Int)) ((zH (bytes b):Int)):Nat):Int))=1))) (by kernel_rfl) fun w' R Q=>?_
  exact⟨by rw[Zoa m A],R⟩
 refine xr 6 [yT 0 s,yB 2 false,yB 4 true] [] ?_
 refine xe (zA (zC (zB (xr 1 [yT 0 s,yB 2 false,yB 12 true] [] ?_))))
 refine xe (zA (xa (zC (zB (xr 1 [yT 0 s,yB 2 true] [] ?_)))))
 refine xe (zA (zG (zI ?_)))
 refine yR (.bool true) fun w' R Q=>?_
 exact⟨by rw[ZmP Q.2],R⟩
section
variable {l r a t b:List UInt8} {neg:Bool} {c:UInt8}
end
/-! ### lB of small numbers -/
theorem Zay {n:Nat}(h:n<10):Lib.itoa (n:Int)=[UInt8.ofNat (48+n)]:=by
 unfold Lib.itoa
 rw[uJ (by omega),tN,Lib.decDigits,dif_pos h]
theorem ZfK {q:Rat}{n:Nat}(h:n<10)(d:q.num=(n:Int))(e:q.den=1):xA q=[UInt8.ofNat (48+n)]:=by
 unfold xA;rw[uL e,d,Zay h]
theorem ZlM {q:Rat}{n d:Nat}(h:n<10)(e:d<10)(f:q.num=(n:Int))(g:q.den=d)(i:d≠1):xA q=[UInt8.ofNat (48+n),47,UInt8.ofNat (48+d)]:=by
 unfold xA;rw[g,uJ i,f,Zay h,Zay e];rfl
theorem t1:xA (mkRat 1 1)=[49]:=ZfK (n:=1) (by decide) (by decide) (by decide)
theorem t3:xA (mkRat 3 1)=[51]:=ZfK (n:=3) (by decide) (by decide) (by decide)
theorem t13:xA (mkRat 1 3)=[49,47,51]:=ZlM (n:=1) (d:=3) (by decide) (by decide) (by decide) (by decide) (by decide)
theorem t12:xA (mkRat 1 2)=[49,47,50]:=ZlM (n:=1) (d:=2) (by decide) (by decide) (by decide) (by decide) (by decide)
section
variable {w w':World} {e:Ending} {s:ByteArray}
theorem ZmQ (h:Zjs s w e w'):kM (fun x:ByteArray×Bool=>.tuple #[.string x.1,.bool x.2]) (fun x _=>zQ (bytes s)=(x.2,bytes x.1)) w e w':=by
 obtain⟨r,neg,rfl,h,rfl⟩:=h
 exact⟨(r,neg),rfl,Fr.refl _ _,BoxN.pure h⟩
end
theorem ZcQ {a b:ByteArray}(h:bytes a=bytes b):a=b:=by
 cases a with|mk a=>cases b with|mk b=>simp only[bytes] at h;rw[Array.toList_inj.1 h]
def e4:Nat:=400
theorem Zhw {s:ByteArray}(h:bytes s=[48]):(s.toList == (⟨#[48]⟩:ByteArray).toList)=true:=by
 rw[Lib.toList_data,Lib.toList_data,show s.data.toList=[48] from h];rfl
theorem Zhx {s:ByteArray}(h:¬ bytes s=[48]):(s.toList == (⟨#[48]⟩:ByteArray).toList)=false:=by
 rw[Lib.toList_data,Lib.toList_data];exact rH.2 h
theorem zt:xA 0=[48]:=ZfK (n:=0) (by decide) (by decide) (by decide)
theorem bU {P:Program}{o:Oper}{ρ:Operand→Value}{w:World}{t:TypeId}{x i:Operand}{b:ByteArray}{k:Nat}{c:UInt8}(a:o.op=Op.index t x i)(d:P.underlying t=some .string)(e:ρ x=.string b)(hi:ρ i=.int .i64 (k:Int))(f:b[k]? = some c):(execOp ρ o).run P w=.ok (.value (.int .u8 (c.toNat:Int))) w:=by
 simp[execOp,a,Instr.index,asIntOf,underlying,d,e,hi,f,Result.andThen]
theorem wG.le {x y:Int}(h:wG x)(a:y.natAbs≤x.natAbs):wG y:=uE (Zap a) h
theorem wG.gcd {x y:Int}(h:wG y)(a:y≠0):wG (Int.gcd x y:Int):=h.le (by
 have:Int.gcd x y≤y.natAbs:=pD _ (by omega)
 omega)
theorem wG.tdiv {x y:Int}(h:wG x):wG (x.tdiv y):=h.le (by rw[Int.natAbs_tdiv];exact uZ _ _)
theorem Zdm {x y:Int}(h:0<y):0<Int.gcd x y:=by
 rcases uI (Int.gcd x y) with e|e
 ·have:=(Int.gcd_eq_zero_iff.1 e).2;omega
 exact e
def lA (q:Rat):Prop:=ml q.num.natAbs≤100000∧ml q.den≤100000
theorem mlm {x y:Int}{a b:Nat}(c:ml x.natAbs≤a)(d:ml y.natAbs≤b):ml (x*y).natAbs≤a+b:=by
 have h:=Zrm x.natAbs y.natAbs
 rw[←tE] at h
 omega
theorem mla {x y:Int}{a:Nat}(b:ml x.natAbs≤a)(c:ml y.natAbs≤a):ml (x+y).natAbs≤a+1 :=
 uE (Zap (Int.natAbs_add_le x y)) (Zrn b c)
theorem lA.neg {q:Rat}(h:lA q):lA (-q):=by
 unfold lA at *
 rw[ZfC,ZfD,Int.natAbs_neg]
 exact h
theorem Zck {w w':World}{e:Ending}{a b:Int}(h:Zhp w a b e w'):kM Zeh (fun x w=>zZ w (xW x.1) a∧zZ w (xW x.2) b) w e w':=by
 obtain⟨u,v,rfl,d,f,Q⟩:=h
 obtain⟨s,A,l,c,rfl⟩:=d.shp
 obtain⟨j,k,m,n,rfl⟩:=f.shp
 exact⟨((s,A,l,c),(j,k,m,n)),rfl,Q,boxn Q (fun S o g i=>⟨d.nrb g i,f.nrb g i⟩)⟩
theorem nfit {z:Int}{k:Nat}(h:ml z.natAbs≤k)(a:Nat.ble k 17592186044416=true):wG z:=uE h (rN a)
theorem mlc {n k:Nat}(h:ml n≤k):ml ((n:Nat):Int).natAbs≤k:=by rw[vS];exact h
theorem Zik {x y:Int}{q:Rat}(a:Rat.divInt x y=q)(b:0<y)(_:1<((Int.gcd x y:Nat):Int).natAbs):q.num=x.tdiv ((Int.gcd x y:Nat):Int)∧(q.den:Int)=y.tdiv ((Int.gcd x y:Nat):Int):=by
 rw[←a];exact ZjU b
theorem Zil {x y:Int}{q:Rat}(b:Rat.divInt x y=q)(a:0<y)(h:¬ 1<((Int.gcd x y:Nat):Int).natAbs):q.num=x∧(q.den:Int)=y:=by
 have c:=Zdm (x:=x) a
 rw[←b];exact Zen a (by omega)
theorem ZaL {n:Nat}(h:(((n:Nat):Int) == 1)=true):n=1:=by have:=eq_of_beq h;omega
theorem ZaM {n:Nat}(h:(((n:Nat):Int) == 1)=false):n≠1:=fun e=>by subst e;cases h
theorem Zob (a b:Value)(x y:Int)(q:Rat)(w:World)(ha:zZ w a x)(X:zZ w b y)(hx:wG x)(hy:wG y)(h0:y<0)(hq:Rat.divInt x y=q) :
 yA 23 #[a,b] w (wM w q):=by
 obtain⟨K,L,M,N,rfl⟩:=ha.shp
 obtain⟨s1,O,P,S,rfl⟩:=X.shp
 obtain rfl:s1=true:=X.sneg h0
 have V:wG (-(x)):=hx.neg
 have F:wG (-(y)):=hy.neg
 have Y:0 < -(y):=by omega
 have T:wG ((Int.gcd (-(x)) (-(y)):Nat):Int):=wG.gcd F (by omega)
 have W:((Int.gcd (-(x)) (-(y)):Nat):Int)≠0:=by have:=Zdm (x := -(x)) Y;omega
 have Z:Rat.divInt (-(x)) (-(y))=q:=by rw[Rat.neg_divInt_neg];exact hq
 refine zV (Φ:=fun w=>(zZ w (.agg #[.bool K,.slice L M N]) (x)∧zZ w (.agg #[.bool true,.slice O P S]) (y))) Tryz.func23 rfl (by kernel_rfl) (fun w' hf=>⟨ha.ext hf,X.ext hf⟩) ?_
 refine zC (zB (xr 3 [(2,.p 2 0),(3,.p 3 0),(4,.p 4 0)] [bR4 4 34 false none 0 0 false none 0 0,bI2 3 32 true O P S,bI2 2 32 K L M N] ?_))
 refine xe (zA (zC (zC (zB (xr 2 [(2,.p 2 0),(3,.p 3 0),(4,.p 4 0),yB 7 true] [bR4 4 34 false none 0 0 false none 0 0,bI2 3 32 true O P S,bI2 2 32 K L M N] ?_)))))
 refine xe (zA (xa ?_))
 refine xG 6 (by kernel_rfl) (by kernel_rfl) zL ?_
 refine xf 1 [(2,.p 2 0),(3,.p 3 0),(4,.p 4 0),eI2 8 K L M N] [bR4 4 34 false none 0 0 false none 0 0,bI2 3 32 true O P S,bI2 2 32 K L M N] ?_
 refine xd 68 [vI2 K L M N] 9 xW _ (fun w R Q=>yM xQ (ZfE _ (x) _ Q.1)) fun⟨c,d,e,f⟩=>?_
 refine xf 1 [(2,.p 2 0),(3,.p 3 0),(4,.p 4 0),eI2 9 c d e f,eI2 10 true O P S] [bR4 4 34 false none 0 0 false none 0 0,bI2 3 32 true O P S,bI2 2 32 K L M N] ?_
 refine xd 68 [vI2 true O P S] 11 xW _ (fun w R Q=>yM xQ (ZfE _ (y) _ Q.1.2)) fun⟨g,i,j,k⟩=>?_
 refine xf 2 [(2,.p 2 0),(3,.p 3 0),(4,.p 4 0)] [bI2 3 32 g i j k,bI2 2 32 c d e f,bR4 4 34 false none 0 0 false none 0 0,bI2 3 32 true O P S,bI2 2 32 K L M N] ?_
 refine xz (xe (zA (zC (zB (xr 2 [(2,.p 2 0),(3,.p 3 0),(4,.p 4 0),eI2 12 c d e f,eI2 13 g i j k] [bI2 3 32 g i j k,bI2 2 32 c d e f,bR4 4 34 false none 0 0 false none 0 0] ?_)))))
 refine xc 69 [vI2 c d e f,vI2 g i j k] 14 xW _ (fun w R Q=>yM xQ (Zjx _ _ (-(x)) (-(y)) _ Q.1.2 Q.2 V F)) fun⟨l,m,n,o⟩=>?_
 refine xr 2 [(2,.p 2 0),(3,.p 3 0),(4,.p 4 0),(5,.p 5 0)] [bI2 5 32 l m n o,bI2 3 32 g i j k,bI2 2 32 c d e f,bR4 4 34 false none 0 0 false none 0 0] ?_
 refine xe (zA (zC (zC (zB (xr 1 [(2,.p 2 0),(3,.p 3 0),(4,.p 4 0),(5,.p 5 0),eI2 15 l m n o] [bI2 5 32 l m n o,bI2 3 32 g i j k,bI2 2 32 c d e f,bR4 4 34 false none 0 0 false none 0 0] ?_)))))
 refine xc 37 [vI2 l m n o] 16 (fun _:Unit=>.int .i64 ((blen (((Int.gcd (-(x)) (-(y)):Nat):Int)).natAbs:Nat):Int)) _ (fun w R Q=>yN (aL _ (((Int.gcd (-(x)) (-(y)):Nat):Int)) _ Q.2 T)) fun U=>?_
 refine xr 1 [(2,.p 2 0),(3,.p 3 0),(4,.p 4 0),(5,.p 5 0),(17,.v (.bool (decide (((blen (((Int.gcd (-(x)) (-(y)):Nat):Int)).natAbs:Nat):Int)>1))))] [bI2 5 32 l m n o,bI2 3 32 g i j k,bI2 2 32 c d e f,bR4 4 34 false none 0 0 false none 0 0] ?_
 refine xe (zA ?_)
 refine zW ((decide (((blen (((Int.gcd (-(x)) (-(y)):Nat):Int)).natAbs:Nat):Int)>1))) (by kernel_rfl) (fun G=>?_) fun G=>?_
 ·have H:=Zik Z Y (ZaF.1 (by have:=uD G;omega))
  refine zC (zB (xr 2 [(2,.p 2 0),(3,.p 3 0),(4,.p 4 0),(5,.p 5 0),eI2 19 c d e f,eI2 20 l m n o] [bI2 5 32 l m n o,bI2 3 32 g i j k,bI2 2 32 c d e f,bR4 4 34 false none 0 0 false none 0 0] ?_))
  refine xc 70 [vI2 c d e f,vI2 l m n o] 21 Zeh _ (fun w R Q=>yM Zck (ZaE _ _ (-(x)) (((Int.gcd (-(x)) (-(y)):Nat):Int)) _ Q.1.1.1.2 Q.1.2 V T W)) fun U=>?_
  obtain⟨⟨r,s,t,u⟩,⟨a0,b0,d0,e0⟩⟩:=U
  refine xr 4 [(2,.p 2 0),(3,.p 3 0),(4,.p 4 0),(5,.p 5 0)] [bI2 5 32 l m n o,bI2 3 32 g i j k,bI2 2 32 r s t u,bR4 4 34 false none 0 0 false none 0 0] ?_
  refine xe (zA (zB (xr 2 [(2,.p 2 0),(3,.p 3 0),(4,.p 4 0),eI2 25 g i j k,eI2 26 l m n o] [bI2 3 32 g i j k,bI2 2 32 r s t u,bR4 4 34 false none 0 0 false none 0 0] ?_)))
  refine xc 70 [vI2 g i j k,vI2 l m n o] 27 Zeh _ (fun w R Q=>yM Zck (ZaE _ _ (-(y)) (((Int.gcd (-(x)) (-(y)):Nat):Int)) _ Q.1.1.1.2 Q.1.1.2 F T W)) fun U=>?_
  obtain⟨⟨B,C,D,E⟩,⟨f0,g0,i0,j0⟩⟩:=U
  refine xr 4 [(2,.p 2 0),(3,.p 3 0),(4,.p 4 0)] [bI2 3 32 B C D E,bI2 2 32 r s t u,bR4 4 34 false none 0 0 false none 0 0] ?_
  refine xe (zA (zC (zC (zB (xr 1 [(2,.p 2 0),(3,.p 3 0),(4,.p 4 0),eI2 30 B C D E] [bI2 3 32 B C D E,bI2 2 32 r s t u,bR4 4 34 false none 0 0 false none 0 0] ?_)))))
  refine xc 37 [vI2 B C D E] 31 (fun _:Unit=>.int .i64 ((blen ((-(y)).tdiv (((Int.gcd (-(x)) (-(y)):Nat):Int))).natAbs:Nat):Int)) _ (fun w R Q=>yN (aL _ ((-(y)).tdiv (((Int.gcd (-(x)) (-(y)):Nat):Int))) _ Q.2.1 (wG.tdiv F))) fun U=>?_
  refine xr 1 [(2,.p 2 0),(3,.p 3 0),(4,.p 4 0),(32,.v (.bool ((((blen ((-(y)).tdiv (((Int.gcd (-(x)) (-(y)):Nat):Int))).natAbs:Nat):Int):Int) == 1)))] [bI2 3 32 B C D E,bI2 2 32 r s t u,bR4 4 34 false none 0 0 false none 0 0] ?_
  refine xe (zA ?_)
  refine zW (((((blen ((-(y)).tdiv (((Int.gcd (-(x)) (-(y)):Nat):Int))).natAbs:Nat):Int):Int) == 1)) (by kernel_rfl) (fun I=>?_) fun I=>?_
  ·have z:=gH.1 (ZaL I)
   refine zB (xr 2 [(2,.p 2 0),(3,.p 3 0),(4,.p 4 0)] [bI2 3 32 false none 0 0,bI2 2 32 r s t u,bR4 4 34 false none 0 0 false none 0 0] ?_)
   refine xe (zA (zC (zB (xr 4 [(4,.p 4 0)] [bR4 4 34 r s t u false none 0 0] ?_))))
   refine xe (zA (zG ?_))
   refine zE (v:=.agg #[.bool r,.slice s t u,.bool false,.slice none 0 0]) (by kernel_rfl) fun w' R Q=>?_
   exact⟨_,rfl,zT.of (by rw[H.1];exact Q.1.1.2.1) (by rw[kY (by have:=z;have:=H.2;have:=q.den_nz;omega)];exact (zZ.nil _)),R⟩
  have z:=fun h=>ZaM I (gH.2 h)
  refine zN (zA (zC (zB (xr 4 [(4,.p 4 0)] [bR4 4 34 r s t u B C D E] ?_))))
  refine xe (zA (zG ?_))
  refine zE (v:=.agg #[.bool r,.slice s t u,.bool B,.slice C D E]) (by kernel_rfl) fun w' R Q=>?_
  exact⟨_,rfl,zT.of (by rw[H.1];exact Q.1.1.2.1) (by rw[fV (fun h=>z (by have:=H.2;omega)),H.2];exact Q.1.2.1),R⟩
 have H:=Zil Z Y (fun h=>absurd (ZaF.2 h) (by have:=uH G;omega))
 refine zN (zA (zC (zC (zB (xr 1 [(2,.p 2 0),(3,.p 3 0),(4,.p 4 0),eI2 30 g i j k] [bI2 3 32 g i j k,bI2 2 32 c d e f,bR4 4 34 false none 0 0 false none 0 0] ?_)))))
 refine xc 37 [vI2 g i j k] 31 (fun _:Unit=>.int .i64 ((blen (-(y)).natAbs:Nat):Int)) _ (fun w R Q=>yN (aL _ (-(y)) _ Q.1.1.2 F)) fun U=>?_
 refine xr 1 [(2,.p 2 0),(3,.p 3 0),(4,.p 4 0),(32,.v (.bool ((((blen (-(y)).natAbs:Nat):Int):Int) == 1)))] [bI2 3 32 g i j k,bI2 2 32 c d e f,bR4 4 34 false none 0 0 false none 0 0] ?_
 refine xe (zA ?_)
 refine zW (((((blen (-(y)).natAbs:Nat):Int):Int) == 1)) (by kernel_rfl) (fun J=>?_) fun J=>?_
 ·have A:=gH.1 (ZaL J)
  refine zB (xr 2 [(2,.p 2 0),(3,.p 3 0),(4,.p 4 0)] [bI2 3 32 false none 0 0,bI2 2 32 c d e f,bR4 4 34 false none 0 0 false none 0 0] ?_)
  refine xe (zA (zC (zB (xr 4 [(4,.p 4 0)] [bR4 4 34 c d e f false none 0 0] ?_))))
  refine xe (zA (zG ?_))
  refine zE (v:=.agg #[.bool c,.slice d e f,.bool false,.slice none 0 0]) (by kernel_rfl) fun w' R Q=>?_
  exact⟨_,rfl,zT.of (by rw[H.1];exact Q.1.1.1.1.2) (by rw[kY (by have:=A;have:=H.2;have:=q.den_nz;omega)];exact (zZ.nil _)),R⟩
 have A:=fun h=>ZaM J (gH.2 h)
 refine zN (zA (zC (zB (xr 4 [(4,.p 4 0)] [bR4 4 34 c d e f g i j k] ?_))))
 refine xe (zA (zG ?_))
 refine zE (v:=.agg #[.bool c,.slice d e f,.bool g,.slice i j k]) (by kernel_rfl) fun w' R Q=>?_
 exact⟨_,rfl,zT.of (by rw[H.1];exact Q.1.1.1.1.2) (by rw[fV (fun h=>A (by have:=H.2;omega)),H.2];exact Q.1.1.1.2),R⟩
theorem Zoc (a b:Value)(x y:Int)(q:Rat)(w:World)(ha:zZ w a x)(N:zZ w b y)(T:wG x)(U:wG y)(h0:0<y)(V:Rat.divInt x y=q) :
 yA 23 #[a,b] w (wM w q):=by
 obtain⟨o,r,s,t,rfl⟩:=ha.shp
 obtain⟨W,l,m,n,rfl⟩:=N.shp
 obtain rfl:W=false:=N.spos (by omega)
 have L:wG (x):=T
 have E:wG (y):=U
 have O:0<y:=by omega
 have J:wG ((Int.gcd (x) (y):Nat):Int):=wG.gcd E (by omega)
 have M:((Int.gcd (x) (y):Nat):Int)≠0:=by have:=Zdm (x:=x) O;omega
 have P:Rat.divInt (x) (y)=q:=V
 refine zV (Φ:=fun w=>(zZ w (.agg #[.bool o,.slice r s t]) (x)∧zZ w (.agg #[.bool false,.slice l m n]) (y))) Tryz.func23 rfl (by kernel_rfl) (fun w' S=>⟨ha.ext S,N.ext S⟩) ?_
 refine zC (zB (xr 3 [(2,.p 2 0),(3,.p 3 0),(4,.p 4 0)] [bR4 4 34 false none 0 0 false none 0 0,bI2 3 32 false l m n,bI2 2 32 o r s t] ?_))
 refine xe (zA (zC (zC (zB (xr 2 [(2,.p 2 0),(3,.p 3 0),(4,.p 4 0),yB 7 false] [bR4 4 34 false none 0 0 false none 0 0,bI2 3 32 false l m n,bI2 2 32 o r s t] ?_)))))
 refine xe (zA (xb (zN (zA (zC (zB (xr 2 [(2,.p 2 0),(3,.p 3 0),(4,.p 4 0),eI2 12 o r s t,eI2 13 false l m n] [bR4 4 34 false none 0 0 false none 0 0,bI2 3 32 false l m n,bI2 2 32 o r s t] ?_)))))))
 refine xc 69 [vI2 o r s t,vI2 false l m n] 14 xW _ (fun w R Q=>yM xQ (Zjx _ _ (x) (y) _ Q.1 Q.2 L E)) fun⟨c,d,e,f⟩=>?_
 refine xr 2 [(2,.p 2 0),(3,.p 3 0),(4,.p 4 0),(5,.p 5 0)] [bI2 5 32 c d e f,bR4 4 34 false none 0 0 false none 0 0,bI2 3 32 false l m n,bI2 2 32 o r s t] ?_
 refine xe (zA (zC (zC (zB (xr 1 [(2,.p 2 0),(3,.p 3 0),(4,.p 4 0),(5,.p 5 0),eI2 15 c d e f] [bI2 5 32 c d e f,bR4 4 34 false none 0 0 false none 0 0,bI2 3 32 false l m n,bI2 2 32 o r s t] ?_)))))
 refine xc 37 [vI2 c d e f] 16 (fun _:Unit=>.int .i64 ((blen (((Int.gcd (x) (y):Nat):Int)).natAbs:Nat):Int)) _ (fun w R Q=>yN (aL _ (((Int.gcd (x) (y):Nat):Int)) _ Q.2 J)) fun K=>?_
 refine xr 1 [(2,.p 2 0),(3,.p 3 0),(4,.p 4 0),(5,.p 5 0),(17,.v (.bool (decide (((blen (((Int.gcd (x) (y):Nat):Int)).natAbs:Nat):Int)>1))))] [bI2 5 32 c d e f,bR4 4 34 false none 0 0 false none 0 0,bI2 3 32 false l m n,bI2 2 32 o r s t] ?_
 refine xe (zA ?_)
 refine zW ((decide (((blen (((Int.gcd (x) (y):Nat):Int)).natAbs:Nat):Int)>1))) (by kernel_rfl) (fun F=>?_) fun F=>?_
 ·have G:=Zik P O (ZaF.1 (by have:=uD F;omega))
  refine zC (zB (xr 2 [(2,.p 2 0),(3,.p 3 0),(4,.p 4 0),(5,.p 5 0),eI2 19 o r s t,eI2 20 c d e f] [bI2 5 32 c d e f,bR4 4 34 false none 0 0 false none 0 0,bI2 3 32 false l m n,bI2 2 32 o r s t] ?_))
  refine xc 70 [vI2 o r s t,vI2 c d e f] 21 Zeh _ (fun w R Q=>yM Zck (ZaE _ _ (x) (((Int.gcd (x) (y):Nat):Int)) _ Q.1.1.1 Q.1.2 L J M)) fun K=>?_
  obtain⟨⟨g,i,j,k⟩,⟨X,Y,Z,a0⟩⟩:=K
  refine xr 4 [(2,.p 2 0),(3,.p 3 0),(4,.p 4 0),(5,.p 5 0)] [bI2 5 32 c d e f,bR4 4 34 false none 0 0 false none 0 0,bI2 3 32 false l m n,bI2 2 32 g i j k] ?_
  refine xe (zA (zB (xr 2 [(2,.p 2 0),(3,.p 3 0),(4,.p 4 0),eI2 25 false l m n,eI2 26 c d e f] [bR4 4 34 false none 0 0 false none 0 0,bI2 3 32 false l m n,bI2 2 32 g i j k] ?_)))
  refine xc 70 [vI2 false l m n,vI2 c d e f] 27 Zeh _ (fun w R Q=>yM Zck (ZaE _ _ (y) (((Int.gcd (x) (y):Nat):Int)) _ Q.1.1.1.2 Q.1.1.2 E J M)) fun K=>?_
  obtain⟨⟨A,B,C,D⟩,⟨b0,d0,e0,f0⟩⟩:=K
  refine xr 4 [(2,.p 2 0),(3,.p 3 0),(4,.p 4 0)] [bR4 4 34 false none 0 0 false none 0 0,bI2 3 32 A B C D,bI2 2 32 g i j k] ?_
  refine xe (zA (zC (zC (zB (xr 1 [(2,.p 2 0),(3,.p 3 0),(4,.p 4 0),eI2 30 A B C D] [bR4 4 34 false none 0 0 false none 0 0,bI2 3 32 A B C D,bI2 2 32 g i j k] ?_)))))
  refine xc 37 [vI2 A B C D] 31 (fun _:Unit=>.int .i64 ((blen ((y).tdiv (((Int.gcd (x) (y):Nat):Int))).natAbs:Nat):Int)) _ (fun w R Q=>yN (aL _ ((y).tdiv (((Int.gcd (x) (y):Nat):Int))) _ Q.2.1 (wG.tdiv E))) fun K=>?_
  refine xr 1 [(2,.p 2 0),(3,.p 3 0),(4,.p 4 0),(32,.v (.bool ((((blen ((y).tdiv (((Int.gcd (x) (y):Nat):Int))).natAbs:Nat):Int):Int) == 1)))] [bR4 4 34 false none 0 0 false none 0 0,bI2 3 32 A B C D,bI2 2 32 g i j k] ?_
  refine xe (zA ?_)
  refine zW (((((blen ((y).tdiv (((Int.gcd (x) (y):Nat):Int))).natAbs:Nat):Int):Int) == 1)) (by kernel_rfl) (fun H=>?_) fun H=>?_
  ·have u:=gH.1 (ZaL H)
   refine zB (xr 2 [(2,.p 2 0),(3,.p 3 0),(4,.p 4 0)] [bR4 4 34 false none 0 0 false none 0 0,bI2 3 32 false none 0 0,bI2 2 32 g i j k] ?_)
   refine xe (zA (zC (zB (xr 4 [(4,.p 4 0)] [bR4 4 34 g i j k false none 0 0] ?_))))
   refine xe (zA (zG ?_))
   refine zE (v:=.agg #[.bool g,.slice i j k,.bool false,.slice none 0 0]) (by kernel_rfl) fun w' R Q=>?_
   exact⟨_,rfl,zT.of (by rw[G.1];exact Q.1.1.2.1) (by rw[kY (by have:=u;have:=G.2;have:=q.den_nz;omega)];exact (zZ.nil _)),R⟩
  have u:=fun h=>ZaM H (gH.2 h)
  refine zN (zA (zC (zB (xr 4 [(4,.p 4 0)] [bR4 4 34 g i j k A B C D] ?_))))
  refine xe (zA (zG ?_))
  refine zE (v:=.agg #[.bool g,.slice i j k,.bool A,.slice B C D]) (by kernel_rfl) fun w' R Q=>?_
  exact⟨_,rfl,zT.of (by rw[G.1];exact Q.1.1.2.1) (by rw[fV (fun h=>u (by have:=G.2;omega)),G.2];exact Q.1.2.1),R⟩
 have G:=Zil P O (fun h=>absurd (ZaF.2 h) (by have:=uH F;omega))
 refine zN (zA (zC (zC (zB (xr 1 [(2,.p 2 0),(3,.p 3 0),(4,.p 4 0),eI2 30 false l m n] [bR4 4 34 false none 0 0 false none 0 0,bI2 3 32 false l m n,bI2 2 32 o r s t] ?_)))))
 refine xc 37 [vI2 false l m n] 31 (fun _:Unit=>.int .i64 ((blen (y).natAbs:Nat):Int)) _ (fun w R Q=>yN (aL _ (y) _ Q.1.1.2 E)) fun K=>?_
 refine xr 1 [(2,.p 2 0),(3,.p 3 0),(4,.p 4 0),(32,.v (.bool ((((blen (y).natAbs:Nat):Int):Int) == 1)))] [bR4 4 34 false none 0 0 false none 0 0,bI2 3 32 false l m n,bI2 2 32 o r s t] ?_
 refine xe (zA ?_)
 refine zW (((((blen (y).natAbs:Nat):Int):Int) == 1)) (by kernel_rfl) (fun I=>?_) fun I=>?_
 ·have z:=gH.1 (ZaL I)
  refine zB (xr 2 [(2,.p 2 0),(3,.p 3 0),(4,.p 4 0)] [bR4 4 34 false none 0 0 false none 0 0,bI2 3 32 false none 0 0,bI2 2 32 o r s t] ?_)
  refine xe (zA (zC (zB (xr 4 [(4,.p 4 0)] [bR4 4 34 o r s t false none 0 0] ?_))))
  refine xe (zA (zG ?_))
  refine zE (v:=.agg #[.bool o,.slice r s t,.bool false,.slice none 0 0]) (by kernel_rfl) fun w' R Q=>?_
  exact⟨_,rfl,zT.of (by rw[G.1];exact Q.1.1.1.1) (by rw[kY (by have:=z;have:=G.2;have:=q.den_nz;omega)];exact (zZ.nil _)),R⟩
 have z:=fun h=>ZaM I (gH.2 h)
 refine zN (zA (zC (zB (xr 4 [(4,.p 4 0)] [bR4 4 34 o r s t false l m n] ?_))))
 refine xe (zA (zG ?_))
 refine zE (v:=.agg #[.bool o,.slice r s t,.bool false,.slice l m n]) (by kernel_rfl) fun w' R Q=>?_
 exact⟨_,rfl,zT.of (by rw[G.1];exact Q.1.1.1.1) (by rw[fV (fun h=>z (by have:=G.2;omega)),G.2];exact Q.1.1.1.2),R⟩
theorem cW (a b:Value)(x y:Int)(w:World)(ha:zZ w a x)(c:zZ w b y)(d:wG x)(e:wG y)(f:y≠0):yA 23 #[a,b] w (wM w (Rat.divInt x y)):=by
 rcases Int.lt_or_gt_of_ne f with h|h
 ·exact Zob a b x y _ w ha c d e h rfl
 exact Zoc a b x y _ w ha c d e h rfl
theorem Zim (a:Value)(q:Rat)(w:World)(ha:zT w a q) :
 yA 73 #[a] w (wM w (-q)):=by
 obtain⟨b,c,d,e,f,g,h,i,rfl⟩:=ha.shp
 refine zV (Φ:=fun w=>zT w (.agg #[.bool b,.slice c d e,.bool f,.slice g h i]) (q)) Tryz.func73 rfl (by kernel_rfl) (fun w' n=>ha.ext n) ?_
 refine zC (zB (xr 2 [(1,.p 1 0),(2,.p 2 0)] [bR4 2 34 false none 0 0 false none 0 0,bR4 1 34 b c d e f g h i] ?_))
 refine xe (zA (zC ?_))
 refine xG 7 (by kernel_rfl) (by kernel_rfl) zL ?_
 refine xf 2 [(1,.p 1 0),(2,.p 2 0),eI2 4 b c d e] [bR4 2 34 false none 0 0 false none 0 0,bR4 1 34 b c d e f g h i] ?_
 refine xd 68 [vI2 b c d e] 5 xW _ (fun w R Q=>yM xQ (ZfE _ ((q).num) _ Q.num)) fun⟨j,k,l,m⟩=>?_
 refine xf 4 [(2,.p 2 0)] [bR4 2 34 j k l m f g h i,bR4 2 34 false none 0 0 false none 0 0,bR4 1 34 b c d e f g h i] ?_
 refine xz (xe (zA (zG ?_)))
 refine zE (v:=.agg #[.bool j,.slice k l m,.bool f,.slice g h i]) (by kernel_rfl) fun w' R Q=>?_
 exact⟨_,rfl,zT.of (by rw[ZfC];exact Q.2) (by rw[Zo8];exact Q.1.den),R⟩
theorem Zdn (a:Value)(q:Rat)(w:World)(ha:zT w a q) :
 yA 50 #[a] w (RetV w (.int .i64 q.num.sign)):=by
 obtain⟨b,c,d,e,f,g,h,i,rfl⟩:=ha.shp
 refine zV (Φ:=fun w=>zT w (.agg #[.bool b,.slice c d e,.bool f,.slice g h i]) (q)) Tryz.func50 rfl (by kernel_rfl) (fun w' j=>ha.ext j) ?_
 refine zC (zB (xr 2 [(1,.p 1 0),yJ 2 0] [bR4 1 34 b c d e f g h i] ?_))
 refine xe (zA (zC (zB (xr 2 [yJ 2 0,eI2 4 b c d e] [] ?_))))
 refine xc 62 [vI2 b c d e] 5 (fun _:Unit=>.int .i64 ((q).num).sign) _ (fun w R Q=>yN (Zd6 _ ((q).num) _ Q.num)) fun k=>?_
 refine xr 1 [(2,.v (.int .i64 ((q).num).sign))] [] ?_
 refine xe (zA (zG ?_))
 refine zE (v:=.int .i64 ((q).num).sign) (by kernel_rfl) fun w' R Q=>?_
 exact⟨rfl,R⟩
theorem Zk1 (a b:Value)(p q:Rat)(w:World)(ha:zT w a p)(x:zT w b q)(A:lA p)(B:lA q)(y:p.den=1)(z:q.den=1) :
 yA 32 #[a,b] w (wM w (p+q)):=by
 obtain⟨c,d,e,f,k,l,D,m,rfl⟩:=ha.shp
 obtain rfl:D=0:=ha.den.len0 (kY y)
 obtain⟨g,h,i,j,t1,n,E,o,rfl⟩:=x.shp
 obtain rfl:E=0:=x.den.len0 (kY z)
 have F:ml p.num.natAbs≤100000:=A.1
 have G:ml q.num.natAbs≤100000:=B.1
 have H:ml ((p.den:Nat):Int).natAbs≤100000:=mlc A.2
 have I:ml ((q.den:Nat):Int).natAbs≤100000:=mlc B.2
 refine zV (Φ:=fun w=>(zT w (.agg #[.bool c,.slice d e f,.bool k,.slice l 0 m]) (p)∧zT w (.agg #[.bool g,.slice h i j,.bool t1,.slice n 0 o]) (q))) Tryz.func32 rfl (by kernel_rfl) (fun w' C=>⟨ha.ext C,x.ext C⟩) ?_
 refine zC (zB (xr 3 [(2,.p 2 0),(3,.p 3 0),(4,.p 4 0)] [bR4 4 34 false none 0 0 false none 0 0,bR4 3 34 g h i j t1 n 0 o,bR4 2 34 c d e f k l 0 m] ?_))
 refine xe (zA (zC (zC (zB (xr 12 [(2,.p 2 0),(3,.p 3 0),(4,.p 4 0),yB 16 true] [bR4 4 34 false none 0 0 false none 0 0,bR4 3 34 g h i j t1 n 0 o,bR4 2 34 c d e f k l 0 m] ?_)))))
 refine xe (zA (xa (zC (zB (xr 4 [(2,.p 2 0),(3,.p 3 0),(4,.p 4 0),eI2 18 c d e f,eI2 20 g h i j] [bR4 4 34 false none 0 0 false none 0 0,bR4 3 34 g h i j t1 n 0 o,bR4 2 34 c d e f k l 0 m] ?_)))))
 refine xc 77 [vI2 c d e f,vI2 g h i j] 21 xW _ (fun w R Q=>yM xQ (ZfA _ _ ((p).num) ((q).num) _ Q.1.num Q.2.num (nfit F (by decide)) (nfit G (by decide)))) fun⟨r,s,t,u⟩=>?_
 refine xr 2 [(2,.p 2 0),(3,.p 3 0),(4,.p 4 0)] [bR4 4 34 r s t u false none 0 0,bR4 3 34 g h i j t1 n 0 o,bR4 2 34 c d e f k l 0 m] ?_
 refine xe (zA (zG (zI ?_)))
 refine zE (v:=.agg #[.bool r,.slice s t u,.bool false,.slice none 0 0]) (by kernel_rfl) fun w' R Q=>?_
 exact⟨_,rfl,zT.of (by rw[(ZdF y z).1];exact Q.2) (by rw[kY (ZdF y z).2];exact (zZ.nil _)),R⟩
theorem Zk2 (a b:Value)(p q:Rat)(w:World)(ha:zT w a p)(hb:zT w b q)(hp:lA p)(hq:lA q)(h1:¬ p.den=1) :
 yA 32 #[a,b] w (wM w (p+q)):=by
 obtain⟨c,d,e,f,m,n,m0,o,rfl⟩:=ha.shp
 obtain⟨r,rfl⟩:∃ k,m0=k+1:=⟨m0-1,by have:=ha.den.lenp (Zar h1);omega⟩
 obtain⟨g,i,j,l,t1,s,t,u,rfl⟩:=hb.shp
 have S1:ml p.num.natAbs≤100000:=hp.1
 have S2:ml q.num.natAbs≤100000:=hq.1
 have J:ml ((p.den:Nat):Int).natAbs≤100000:=mlc hp.2
 have K:ml ((q.den:Nat):Int).natAbs≤100000:=mlc hq.2
 refine zV (Φ:=fun w=>(zT w (.agg #[.bool c,.slice d e f,.bool m,.slice n (r+1) o]) (p)∧zT w (.agg #[.bool g,.slice i j l,.bool t1,.slice s t u]) (q))) Tryz.func32 rfl (by kernel_rfl) (fun w' hf=>⟨ha.ext hf,hb.ext hf⟩) ?_
 refine zC (zB (xr 3 [(2,.p 2 0),(3,.p 3 0),(4,.p 4 0)] [bR4 4 34 false none 0 0 false none 0 0,bR4 3 34 g i j l t1 s t u,bR4 2 34 c d e f m n (r+1) o] ?_))
 refine xe (zA (zC (zC (zB (xr 12 [(2,.p 2 0),(3,.p 3 0),(4,.p 4 0),yB 16 false] [bR4 4 34 false none 0 0 false none 0 0,bR4 3 34 g i j l t1 s t u,bR4 2 34 c d e f m n (r+1) o] ?_)))))
 refine xe (zA (xb (zN (zA (zC ?_)))))
 refine xG 18 (by kernel_rfl) (by kernel_rfl) zL ?_
 refine xf 3 [(2,.p 2 0),(3,.p 3 0),(4,.p 4 0),eI2 24 c d e f,eR4 25 g i j l t1 s t u] [bR4 4 34 false none 0 0 false none 0 0,bR4 3 34 g i j l t1 s t u,bR4 2 34 c d e f m n (r+1) o] ?_
 refine xd 75 [vR4 g i j l t1 s t u] 26 xW _ (fun w R Q=>yM xQ (iZ _ (q) _ Q.2)) fun⟨L,M,N,O⟩=>?_
 refine xf 0 [(2,.p 2 0),(3,.p 3 0),(4,.p 4 0),eI2 24 c d e f,eI2 26 L M N O] [bR4 4 34 false none 0 0 false none 0 0,bR4 3 34 g i j l t1 s t u,bR4 2 34 c d e f m n (r+1) o] ?_
 refine xd 74 [vI2 c d e f,vI2 L M N O] 27 xW _ (fun w R Q=>yM xQ (gS _ _ ((p).num) (((q).den:Int)) _ Q.1.1.num Q.2 (nfit S1 (by decide)) (nfit K (by decide)))) fun⟨B,C,D,E⟩=>?_
 refine xf 3 [(2,.p 2 0),(3,.p 3 0),(4,.p 4 0),eI2 27 B C D E,eI2 29 g i j l,eR4 30 c d e f m n (r+1) o] [bR4 4 34 false none 0 0 false none 0 0,bR4 3 34 g i j l t1 s t u,bR4 2 34 c d e f m n (r+1) o] ?_
 refine xd 75 [vR4 c d e f m n (r+1) o] 31 xW _ (fun w R Q=>yM xQ (iZ _ (p) _ Q.1.1.1)) fun⟨P,S,T,U⟩=>?_
 refine xf 0 [(2,.p 2 0),(3,.p 3 0),(4,.p 4 0),eI2 27 B C D E,eI2 29 g i j l,eI2 31 P S T U] [bR4 4 34 false none 0 0 false none 0 0,bR4 3 34 g i j l t1 s t u,bR4 2 34 c d e f m n (r+1) o] ?_
 refine xd 74 [vI2 g i j l,vI2 P S T U] 32 xW _ (fun w R Q=>yM xQ (gS _ _ ((q).num) (((p).den:Int)) _ Q.1.1.1.2.num Q.2 (nfit S2 (by decide)) (nfit J (by decide)))) fun⟨V,W,X,Y⟩=>?_
 refine xf 0 [(2,.p 2 0),(3,.p 3 0),(4,.p 4 0),eI2 27 B C D E,eI2 32 V W X Y] [bR4 4 34 false none 0 0 false none 0 0,bR4 3 34 g i j l t1 s t u,bR4 2 34 c d e f m n (r+1) o] ?_
 refine xd 77 [vI2 B C D E,vI2 V W X Y] 33 xW _ (fun w R Q=>yM xQ (ZfA _ _ (((p).num)*(((q).den:Int))) (((q).num)*(((p).den:Int))) _ Q.1.1.2 Q.2 (nfit (mlm S1 K) (by decide)) (nfit (mlm S2 J) (by decide)))) fun⟨x,y,z,A⟩=>?_
 refine xf 1 [(3,.p 3 0),(4,.p 4 0),eI2 33 x y z A,eR4 34 c d e f m n (r+1) o] [bR4 4 34 false none 0 0 false none 0 0,bR4 3 34 g i j l t1 s t u,bR4 2 34 c d e f m n (r+1) o] ?_
 refine xd 75 [vR4 c d e f m n (r+1) o] 35 xW _ (fun w R Q=>yM xQ (iZ _ (p) _ Q.1.1.1.1.1.1)) fun⟨F,G,H,I⟩=>?_
 refine xf 1 [(4,.p 4 0),eI2 33 x y z A,eI2 35 F G H I,eR4 36 g i j l t1 s t u] [bR4 4 34 false none 0 0 false none 0 0,bR4 3 34 g i j l t1 s t u,bR4 2 34 c d e f m n (r+1) o] ?_
 refine xd 75 [vR4 g i j l t1 s t u] 37 xW _ (fun w R Q=>yM xQ (iZ _ (q) _ Q.1.1.1.1.1.1.2)) fun⟨Z,a0,b0,e0⟩=>?_
 refine xf 0 [(4,.p 4 0),eI2 33 x y z A,eI2 35 F G H I,eI2 37 Z a0 b0 e0] [bR4 4 34 false none 0 0 false none 0 0,bR4 3 34 g i j l t1 s t u,bR4 2 34 c d e f m n (r+1) o] ?_
 refine xd 74 [vI2 F G H I,vI2 Z a0 b0 e0] 38 xW _ (fun w R Q=>yM xQ (gS _ _ (((p).den:Int)) (((q).den:Int)) _ Q.1.2 Q.2 (nfit J (by decide)) (nfit K (by decide)))) fun⟨f0,g0,h0,i0⟩=>?_
 refine xf 0 [(4,.p 4 0),eI2 33 x y z A,eI2 38 f0 g0 h0 i0] [bR4 4 34 false none 0 0 false none 0 0,bR4 3 34 g i j l t1 s t u,bR4 2 34 c d e f m n (r+1) o] ?_
 refine xd 23 [vI2 x y z A,vI2 f0 g0 h0 i0] 39 xT _ (fun w R Q=>(cW _ _ ((((p).num)*(((q).den:Int)))+(((q).num)*(((p).den:Int)))) ((((p).den:Int))*(((q).den:Int))) _ Q.1.1.1.2 Q.2 (nfit (mla (a:=200000) (mlm S1 K) (mlm S2 J)) (by decide)) (nfit (mlm J K) (by decide)) (qW (denI p) (denI q))).mono (fun _ _ h=>xJ (by rw[ZbI] at h;exact h))) fun⟨j0,n0,o0,p0,q0,r0,u0,v0⟩=>?_
 refine xf 1 [(4,.p 4 0)] [bR4 4 34 j0 n0 o0 p0 q0 r0 u0 v0,bR4 4 34 false none 0 0 false none 0 0,bR4 3 34 g i j l t1 s t u,bR4 2 34 c d e f m n (r+1) o] ?_
 refine xz (xe (zA (zG ?_)))
 refine zE (v:=.agg #[.bool j0,.slice n0 o0 p0,.bool q0,.slice r0 u0 v0]) (by kernel_rfl) fun w' R Q=>?_
 exact⟨_,rfl,Q.2,R⟩
theorem Zk3 (a b:Value)(p q:Rat)(w:World)(ha:zT w a p)(hb:zT w b q)(hp:lA p)(hq:lA q)(h1:p.den=1)(h2:¬ q.den=1) :
 yA 32 #[a,b] w (wM w (p+q)):=by
 obtain⟨c,d,e,f,m,n,m0,o,rfl⟩:=ha.shp
 obtain rfl:m0=0:=ha.den.len0 (kY h1)
 obtain⟨g,i,j,l,t1,r,m1,s,rfl⟩:=hb.shp
 obtain⟨t,rfl⟩:∃ k,m1=k+1:=⟨m1-1,by have:=hb.den.lenp (Zar h2);omega⟩
 have S1:ml p.num.natAbs≤100000:=hp.1
 have S2:ml q.num.natAbs≤100000:=hq.1
 have I:ml ((p.den:Nat):Int).natAbs≤100000:=mlc hp.2
 have J:ml ((q.den:Nat):Int).natAbs≤100000:=mlc hq.2
 refine zV (Φ:=fun w=>(zT w (.agg #[.bool c,.slice d e f,.bool m,.slice n 0 o]) (p)∧zT w (.agg #[.bool g,.slice i j l,.bool t1,.slice r (t+1) s]) (q))) Tryz.func32 rfl (by kernel_rfl) (fun w' hf=>⟨ha.ext hf,hb.ext hf⟩) ?_
 refine zC (zB (xr 3 [(2,.p 2 0),(3,.p 3 0),(4,.p 4 0)] [bR4 4 34 false none 0 0 false none 0 0,bR4 3 34 g i j l t1 r (t+1) s,bR4 2 34 c d e f m n 0 o] ?_))
 refine xe (zA (zC (zC (zB (xr 12 [(2,.p 2 0),(3,.p 3 0),(4,.p 4 0),yB 16 false] [bR4 4 34 false none 0 0 false none 0 0,bR4 3 34 g i j l t1 r (t+1) s,bR4 2 34 c d e f m n 0 o] ?_)))))
 refine xe (zA (xb (zN (zA (zC ?_)))))
 refine xG 18 (by kernel_rfl) (by kernel_rfl) zL ?_
 refine xf 3 [(2,.p 2 0),(3,.p 3 0),(4,.p 4 0),eI2 24 c d e f,eR4 25 g i j l t1 r (t+1) s] [bR4 4 34 false none 0 0 false none 0 0,bR4 3 34 g i j l t1 r (t+1) s,bR4 2 34 c d e f m n 0 o] ?_
 refine xd 75 [vR4 g i j l t1 r (t+1) s] 26 xW _ (fun w R Q=>yM xQ (iZ _ (q) _ Q.2)) fun⟨K,L,M,N⟩=>?_
 refine xf 0 [(2,.p 2 0),(3,.p 3 0),(4,.p 4 0),eI2 24 c d e f,eI2 26 K L M N] [bR4 4 34 false none 0 0 false none 0 0,bR4 3 34 g i j l t1 r (t+1) s,bR4 2 34 c d e f m n 0 o] ?_
 refine xd 74 [vI2 c d e f,vI2 K L M N] 27 xW _ (fun w R Q=>yM xQ (gS _ _ ((p).num) (((q).den:Int)) _ Q.1.1.num Q.2 (nfit S1 (by decide)) (nfit J (by decide)))) fun⟨A,B,C,D⟩=>?_
 refine xf 3 [(2,.p 2 0),(3,.p 3 0),(4,.p 4 0),eI2 27 A B C D,eI2 29 g i j l,eR4 30 c d e f m n 0 o] [bR4 4 34 false none 0 0 false none 0 0,bR4 3 34 g i j l t1 r (t+1) s,bR4 2 34 c d e f m n 0 o] ?_
 refine xd 75 [vR4 c d e f m n 0 o] 31 xW _ (fun w R Q=>yM xQ (iZ _ (p) _ Q.1.1.1)) fun⟨O,P,S,T⟩=>?_
 refine xf 0 [(2,.p 2 0),(3,.p 3 0),(4,.p 4 0),eI2 27 A B C D,eI2 29 g i j l,eI2 31 O P S T] [bR4 4 34 false none 0 0 false none 0 0,bR4 3 34 g i j l t1 r (t+1) s,bR4 2 34 c d e f m n 0 o] ?_
 refine xd 74 [vI2 g i j l,vI2 O P S T] 32 xW _ (fun w R Q=>yM xQ (gS _ _ ((q).num) (((p).den:Int)) _ Q.1.1.1.2.num Q.2 (nfit S2 (by decide)) (nfit I (by decide)))) fun⟨U,V,W,X⟩=>?_
 refine xf 0 [(2,.p 2 0),(3,.p 3 0),(4,.p 4 0),eI2 27 A B C D,eI2 32 U V W X] [bR4 4 34 false none 0 0 false none 0 0,bR4 3 34 g i j l t1 r (t+1) s,bR4 2 34 c d e f m n 0 o] ?_
 refine xd 77 [vI2 A B C D,vI2 U V W X] 33 xW _ (fun w R Q=>yM xQ (ZfA _ _ (((p).num)*(((q).den:Int))) (((q).num)*(((p).den:Int))) _ Q.1.1.2 Q.2 (nfit (mlm S1 J) (by decide)) (nfit (mlm S2 I) (by decide)))) fun⟨u,x,y,z⟩=>?_
 refine xf 1 [(3,.p 3 0),(4,.p 4 0),eI2 33 u x y z,eR4 34 c d e f m n 0 o] [bR4 4 34 false none 0 0 false none 0 0,bR4 3 34 g i j l t1 r (t+1) s,bR4 2 34 c d e f m n 0 o] ?_
 refine xd 75 [vR4 c d e f m n 0 o] 35 xW _ (fun w R Q=>yM xQ (iZ _ (p) _ Q.1.1.1.1.1.1)) fun⟨E,F,G,H⟩=>?_
 refine xf 1 [(4,.p 4 0),eI2 33 u x y z,eI2 35 E F G H,eR4 36 g i j l t1 r (t+1) s] [bR4 4 34 false none 0 0 false none 0 0,bR4 3 34 g i j l t1 r (t+1) s,bR4 2 34 c d e f m n 0 o] ?_
 refine xd 75 [vR4 g i j l t1 r (t+1) s] 37 xW _ (fun w R Q=>yM xQ (iZ _ (q) _ Q.1.1.1.1.1.1.2)) fun⟨Y,Z,a0,b0⟩=>?_
 refine xf 0 [(4,.p 4 0),eI2 33 u x y z,eI2 35 E F G H,eI2 37 Y Z a0 b0] [bR4 4 34 false none 0 0 false none 0 0,bR4 3 34 g i j l t1 r (t+1) s,bR4 2 34 c d e f m n 0 o] ?_
 refine xd 74 [vI2 E F G H,vI2 Y Z a0 b0] 38 xW _ (fun w R Q=>yM xQ (gS _ _ (((p).den:Int)) (((q).den:Int)) _ Q.1.2 Q.2 (nfit I (by decide)) (nfit J (by decide)))) fun⟨e0,f0,g0,h0⟩=>?_
 refine xf 0 [(4,.p 4 0),eI2 33 u x y z,eI2 38 e0 f0 g0 h0] [bR4 4 34 false none 0 0 false none 0 0,bR4 3 34 g i j l t1 r (t+1) s,bR4 2 34 c d e f m n 0 o] ?_
 refine xd 23 [vI2 u x y z,vI2 e0 f0 g0 h0] 39 xT _ (fun w R Q=>(cW _ _ ((((p).num)*(((q).den:Int)))+(((q).num)*(((p).den:Int)))) ((((p).den:Int))*(((q).den:Int))) _ Q.1.1.1.2 Q.2 (nfit (mla (a:=200000) (mlm S1 J) (mlm S2 I)) (by decide)) (nfit (mlm I J) (by decide)) (qW (denI p) (denI q))).mono (fun _ _ h=>xJ (by rw[ZbI] at h;exact h))) fun⟨i0,j0,k0,n0,o0,p0,q0,r0⟩=>?_
 refine xf 1 [(4,.p 4 0)] [bR4 4 34 i0 j0 k0 n0 o0 p0 q0 r0,bR4 4 34 false none 0 0 false none 0 0,bR4 3 34 g i j l t1 r (t+1) s,bR4 2 34 c d e f m n 0 o] ?_
 refine xz (xe (zA (zG ?_)))
 refine zE (v:=.agg #[.bool i0,.slice j0 k0 n0,.bool o0,.slice p0 q0 r0]) (by kernel_rfl) fun w' R Q=>?_
 exact⟨_,rfl,Q.2,R⟩
theorem Za2 (a b:Value)(p q:Rat)(w:World)(ha:zT w a p)(c:zT w b q)(d:lA p)(e:lA q):yA 32 #[a,b] w (wM w (p+q)):=by
 by_cases f:p.den=1
 ·by_cases g:q.den=1
  ·exact Zk1 a b p q w ha c d e f g
  exact Zk3 a b p q w ha c d e f g
 exact Zk2 a b p q w ha c d e f
theorem Zk4 (a b:Value)(p q:Rat)(w:World)(ha:zT w a p)(x:zT w b q)(A:lA p)(B:lA q)(y:p.den=1)(z:q.den=1) :
 yA 29 #[a,b] w (wM w (p*q)):=by
 obtain⟨c,d,e,f,k,l,D,m,rfl⟩:=ha.shp
 obtain rfl:D=0:=ha.den.len0 (kY y)
 obtain⟨g,h,i,j,t1,n,E,o,rfl⟩:=x.shp
 obtain rfl:E=0:=x.den.len0 (kY z)
 have F:ml p.num.natAbs≤100000:=A.1
 have G:ml q.num.natAbs≤100000:=B.1
 have H:ml ((p.den:Nat):Int).natAbs≤100000:=mlc A.2
 have I:ml ((q.den:Nat):Int).natAbs≤100000:=mlc B.2
 refine zV (Φ:=fun w=>(zT w (.agg #[.bool c,.slice d e f,.bool k,.slice l 0 m]) (p)∧zT w (.agg #[.bool g,.slice h i j,.bool t1,.slice n 0 o]) (q))) Tryz.func29 rfl (by kernel_rfl) (fun w' C=>⟨ha.ext C,x.ext C⟩) ?_
 refine zC (zB (xr 3 [(2,.p 2 0),(3,.p 3 0),(4,.p 4 0)] [bR4 4 34 false none 0 0 false none 0 0,bR4 3 34 g h i j t1 n 0 o,bR4 2 34 c d e f k l 0 m] ?_))
 refine xe (zA (zC (zC (zB (xr 12 [(2,.p 2 0),(3,.p 3 0),(4,.p 4 0),yB 16 true] [bR4 4 34 false none 0 0 false none 0 0,bR4 3 34 g h i j t1 n 0 o,bR4 2 34 c d e f k l 0 m] ?_)))))
 refine xe (zA (xa (zC (zB (xr 4 [(2,.p 2 0),(3,.p 3 0),(4,.p 4 0),eI2 18 c d e f,eI2 20 g h i j] [bR4 4 34 false none 0 0 false none 0 0,bR4 3 34 g h i j t1 n 0 o,bR4 2 34 c d e f k l 0 m] ?_)))))
 refine xc 74 [vI2 c d e f,vI2 g h i j] 21 xW _ (fun w R Q=>yM xQ (gS _ _ ((p).num) ((q).num) _ Q.1.num Q.2.num (nfit F (by decide)) (nfit G (by decide)))) fun⟨r,s,t,u⟩=>?_
 refine xr 2 [(2,.p 2 0),(3,.p 3 0),(4,.p 4 0)] [bR4 4 34 r s t u false none 0 0,bR4 3 34 g h i j t1 n 0 o,bR4 2 34 c d e f k l 0 m] ?_
 refine xe (zA (zG (zI ?_)))
 refine zE (v:=.agg #[.bool r,.slice s t u,.bool false,.slice none 0 0]) (by kernel_rfl) fun w' R Q=>?_
 exact⟨_,rfl,zT.of (by rw[(ZdG y z).1];exact Q.2) (by rw[kY (ZdG y z).2];exact (zZ.nil _)),R⟩
theorem Zk5 (a b:Value)(p q:Rat)(w:World)(ha:zT w a p)(X:zT w b q)(Y:lA p)(Z:lA q)(h1:¬ p.den=1) :
 yA 29 #[a,b] w (wM w (p*q)):=by
 obtain⟨c,d,e,f,m,n,m0,o,rfl⟩:=ha.shp
 obtain⟨r,rfl⟩:∃ k,m0=k+1:=⟨m0-1,by have:=ha.den.lenp (Zar h1);omega⟩
 obtain⟨g,i,j,l,t1,s,t,u,rfl⟩:=X.shp
 have S1:ml p.num.natAbs≤100000:=Y.1
 have S2:ml q.num.natAbs≤100000:=Z.1
 have S3:ml ((p.den:Nat):Int).natAbs≤100000:=mlc Y.2
 have S4:ml ((q.den:Nat):Int).natAbs≤100000:=mlc Z.2
 refine zV (Φ:=fun w=>(zT w (.agg #[.bool c,.slice d e f,.bool m,.slice n (r+1) o]) (p)∧zT w (.agg #[.bool g,.slice i j l,.bool t1,.slice s t u]) (q))) Tryz.func29 rfl (by kernel_rfl) (fun w' hf=>⟨ha.ext hf,X.ext hf⟩) ?_
 refine zC (zB (xr 3 [(2,.p 2 0),(3,.p 3 0),(4,.p 4 0)] [bR4 4 34 false none 0 0 false none 0 0,bR4 3 34 g i j l t1 s t u,bR4 2 34 c d e f m n (r+1) o] ?_))
 refine xe (zA (zC (zC (zB (xr 12 [(2,.p 2 0),(3,.p 3 0),(4,.p 4 0),yB 16 false] [bR4 4 34 false none 0 0 false none 0 0,bR4 3 34 g i j l t1 s t u,bR4 2 34 c d e f m n (r+1) o] ?_)))))
 refine xe (zA (xb (zN (zA (zC ?_)))))
 refine xG 12 (by kernel_rfl) (by kernel_rfl) zL ?_
 refine xf 4 [(2,.p 2 0),(3,.p 3 0),(4,.p 4 0),eI2 24 c d e f,eI2 26 g i j l] [bR4 4 34 false none 0 0 false none 0 0,bR4 3 34 g i j l t1 s t u,bR4 2 34 c d e f m n (r+1) o] ?_
 refine xd 74 [vI2 c d e f,vI2 g i j l] 27 xW _ (fun w R Q=>yM xQ (gS _ _ ((p).num) ((q).num) _ Q.1.num Q.2.num (nfit S1 (by decide)) (nfit S2 (by decide)))) fun⟨x,y,z,A⟩=>?_
 refine xf 1 [(3,.p 3 0),(4,.p 4 0),eI2 27 x y z A,eR4 28 c d e f m n (r+1) o] [bR4 4 34 false none 0 0 false none 0 0,bR4 3 34 g i j l t1 s t u,bR4 2 34 c d e f m n (r+1) o] ?_
 refine xd 75 [vR4 c d e f m n (r+1) o] 29 xW _ (fun w R Q=>yM xQ (iZ _ (p) _ Q.1.1)) fun⟨B,C,D,E⟩=>?_
 refine xf 1 [(4,.p 4 0),eI2 27 x y z A,eI2 29 B C D E,eR4 30 g i j l t1 s t u] [bR4 4 34 false none 0 0 false none 0 0,bR4 3 34 g i j l t1 s t u,bR4 2 34 c d e f m n (r+1) o] ?_
 refine xd 75 [vR4 g i j l t1 s t u] 31 xW _ (fun w R Q=>yM xQ (iZ _ (q) _ Q.1.1.2)) fun⟨F,G,H,I⟩=>?_
 refine xf 0 [(4,.p 4 0),eI2 27 x y z A,eI2 29 B C D E,eI2 31 F G H I] [bR4 4 34 false none 0 0 false none 0 0,bR4 3 34 g i j l t1 s t u,bR4 2 34 c d e f m n (r+1) o] ?_
 refine xd 74 [vI2 B C D E,vI2 F G H I] 32 xW _ (fun w R Q=>yM xQ (gS _ _ (((p).den:Int)) (((q).den:Int)) _ Q.1.2 Q.2 (nfit S3 (by decide)) (nfit S4 (by decide)))) fun⟨J,K,L,M⟩=>?_
 refine xf 0 [(4,.p 4 0),eI2 27 x y z A,eI2 32 J K L M] [bR4 4 34 false none 0 0 false none 0 0,bR4 3 34 g i j l t1 s t u,bR4 2 34 c d e f m n (r+1) o] ?_
 refine xd 23 [vI2 x y z A,vI2 J K L M] 33 xT _ (fun w R Q=>(cW _ _ (((p).num)*((q).num)) ((((p).den:Int))*(((q).den:Int))) _ Q.1.1.1.2 Q.2 (nfit (mlm S1 S2) (by decide)) (nfit (mlm S3 S4) (by decide)) (qW (denI p) (denI q))).mono (fun _ _ h=>xJ (by rw[ZbJ] at h;exact h))) fun⟨N,O,P,S,T,U,V,W⟩=>?_
 refine xf 1 [(4,.p 4 0)] [bR4 4 34 N O P S T U V W,bR4 4 34 false none 0 0 false none 0 0,bR4 3 34 g i j l t1 s t u,bR4 2 34 c d e f m n (r+1) o] ?_
 refine xz (xe (zA (zG ?_)))
 refine zE (v:=.agg #[.bool N,.slice O P S,.bool T,.slice U V W]) (by kernel_rfl) fun w' R Q=>?_
 exact⟨_,rfl,Q.2,R⟩
theorem Zk6 (a b:Value)(p q:Rat)(w:World)(ha:zT w a p)(W:zT w b q)(X:lA p)(Y:lA q)(h1:p.den=1)(h2:¬ q.den=1) :
 yA 29 #[a,b] w (wM w (p*q)):=by
 obtain⟨c,d,e,f,m,n,m0,o,rfl⟩:=ha.shp
 obtain rfl:m0=0:=ha.den.len0 (kY h1)
 obtain⟨g,i,j,l,t1,r,Z,s,rfl⟩:=W.shp
 obtain⟨t,rfl⟩:∃ k,Z=k+1:=⟨Z-1,by have:=W.den.lenp (Zar h2);omega⟩
 have S1:ml p.num.natAbs≤100000:=X.1
 have S2:ml q.num.natAbs≤100000:=Y.1
 have S3:ml ((p.den:Nat):Int).natAbs≤100000:=mlc X.2
 have S4:ml ((q.den:Nat):Int).natAbs≤100000:=mlc Y.2
 refine zV (Φ:=fun w=>(zT w (.agg #[.bool c,.slice d e f,.bool m,.slice n 0 o]) (p)∧zT w (.agg #[.bool g,.slice i j l,.bool t1,.slice r (t+1) s]) (q))) Tryz.func29 rfl (by kernel_rfl) (fun w' hf=>⟨ha.ext hf,W.ext hf⟩) ?_
 refine zC (zB (xr 3 [(2,.p 2 0),(3,.p 3 0),(4,.p 4 0)] [bR4 4 34 false none 0 0 false none 0 0,bR4 3 34 g i j l t1 r (t+1) s,bR4 2 34 c d e f m n 0 o] ?_))
 refine xe (zA (zC (zC (zB (xr 12 [(2,.p 2 0),(3,.p 3 0),(4,.p 4 0),yB 16 false] [bR4 4 34 false none 0 0 false none 0 0,bR4 3 34 g i j l t1 r (t+1) s,bR4 2 34 c d e f m n 0 o] ?_)))))
 refine xe (zA (xb (zN (zA (zC ?_)))))
 refine xG 12 (by kernel_rfl) (by kernel_rfl) zL ?_
 refine xf 4 [(2,.p 2 0),(3,.p 3 0),(4,.p 4 0),eI2 24 c d e f,eI2 26 g i j l] [bR4 4 34 false none 0 0 false none 0 0,bR4 3 34 g i j l t1 r (t+1) s,bR4 2 34 c d e f m n 0 o] ?_
 refine xd 74 [vI2 c d e f,vI2 g i j l] 27 xW _ (fun w R Q=>yM xQ (gS _ _ ((p).num) ((q).num) _ Q.1.num Q.2.num (nfit S1 (by decide)) (nfit S2 (by decide)))) fun⟨u,x,y,z⟩=>?_
 refine xf 1 [(3,.p 3 0),(4,.p 4 0),eI2 27 u x y z,eR4 28 c d e f m n 0 o] [bR4 4 34 false none 0 0 false none 0 0,bR4 3 34 g i j l t1 r (t+1) s,bR4 2 34 c d e f m n 0 o] ?_
 refine xd 75 [vR4 c d e f m n 0 o] 29 xW _ (fun w R Q=>yM xQ (iZ _ (p) _ Q.1.1)) fun⟨A,B,C,D⟩=>?_
 refine xf 1 [(4,.p 4 0),eI2 27 u x y z,eI2 29 A B C D,eR4 30 g i j l t1 r (t+1) s] [bR4 4 34 false none 0 0 false none 0 0,bR4 3 34 g i j l t1 r (t+1) s,bR4 2 34 c d e f m n 0 o] ?_
 refine xd 75 [vR4 g i j l t1 r (t+1) s] 31 xW _ (fun w R Q=>yM xQ (iZ _ (q) _ Q.1.1.2)) fun⟨E,F,G,H⟩=>?_
 refine xf 0 [(4,.p 4 0),eI2 27 u x y z,eI2 29 A B C D,eI2 31 E F G H] [bR4 4 34 false none 0 0 false none 0 0,bR4 3 34 g i j l t1 r (t+1) s,bR4 2 34 c d e f m n 0 o] ?_
 refine xd 74 [vI2 A B C D,vI2 E F G H] 32 xW _ (fun w R Q=>yM xQ (gS _ _ (((p).den:Int)) (((q).den:Int)) _ Q.1.2 Q.2 (nfit S3 (by decide)) (nfit S4 (by decide)))) fun⟨I,J,K,L⟩=>?_
 refine xf 0 [(4,.p 4 0),eI2 27 u x y z,eI2 32 I J K L] [bR4 4 34 false none 0 0 false none 0 0,bR4 3 34 g i j l t1 r (t+1) s,bR4 2 34 c d e f m n 0 o] ?_
 refine xd 23 [vI2 u x y z,vI2 I J K L] 33 xT _ (fun w R Q=>(cW _ _ (((p).num)*((q).num)) ((((p).den:Int))*(((q).den:Int))) _ Q.1.1.1.2 Q.2 (nfit (mlm S1 S2) (by decide)) (nfit (mlm S3 S4) (by decide)) (qW (denI p) (denI q))).mono (fun _ _ h=>xJ (by rw[ZbJ] at h;exact h))) fun⟨M,N,O,P,S,T,U,V⟩=>?_
 refine xf 1 [(4,.p 4 0)] [bR4 4 34 M N O P S T U V,bR4 4 34 false none 0 0 false none 0 0,bR4 3 34 g i j l t1 r (t+1) s,bR4 2 34 c d e f m n 0 o] ?_
 refine xz (xe (zA (zG ?_)))
 refine zE (v:=.agg #[.bool M,.slice N O P,.bool S,.slice T U V]) (by kernel_rfl) fun w' R Q=>?_
 exact⟨_,rfl,Q.2,R⟩
theorem eL (a b:Value)(p q:Rat)(w:World)(ha:zT w a p)(c:zT w b q)(d:lA p)(e:lA q):yA 29 #[a,b] w (wM w (p*q)):=by
 by_cases f:p.den=1
 ·by_cases g:q.den=1
  ·exact Zk4 a b p q w ha c d e f g
  exact Zk6 a b p q w ha c d e f g
 exact Zk5 a b p q w ha c d e f
theorem eN (a b:Value)(p q:Rat)(w:World)(ha:zT w a p)(M:zT w b q)(O:lA p)(P:lA q) :
 yA 27 #[a,b] w (wM w (p-q)):=by
 obtain⟨c,d,e,f,g,i,j,k,rfl⟩:=ha.shp
 obtain⟨l,m,n,o,t1,r,s,t,rfl⟩:=M.shp
 refine zV (Φ:=fun w=>(zT w (.agg #[.bool c,.slice d e f,.bool g,.slice i j k]) (p)∧zT w (.agg #[.bool l,.slice m n o,.bool t1,.slice r s t]) (q))) Tryz.func27 rfl (by kernel_rfl) (fun w' N=>⟨ha.ext N,M.ext N⟩) ?_
 refine zC (zB (xr 3 [(2,.p 2 0),(3,.p 3 0),(4,.p 4 0)] [bR4 4 34 false none 0 0 false none 0 0,bR4 3 34 l m n o t1 r s t,bR4 2 34 c d e f g i j k] ?_))
 refine xe (zA (zC ?_))
 refine xG 5 (by kernel_rfl) (by kernel_rfl) zL ?_
 refine xf 2 [(4,.p 4 0),eR4 5 c d e f g i j k,eR4 6 l m n o t1 r s t] [bR4 4 34 false none 0 0 false none 0 0,bR4 3 34 l m n o t1 r s t,bR4 2 34 c d e f g i j k] ?_
 refine xd 73 [vR4 l m n o t1 r s t] 7 xT _ (fun w R Q=>yM xJ (Zim _ (q) _ Q.2)) fun⟨u,x,y,z,A,B,C,D⟩=>?_
 refine xf 0 [(4,.p 4 0),eR4 5 c d e f g i j k,eR4 7 u x y z A B C D] [bR4 4 34 false none 0 0 false none 0 0,bR4 3 34 l m n o t1 r s t,bR4 2 34 c d e f g i j k] ?_
 refine xd 32 [vR4 c d e f g i j k,vR4 u x y z A B C D] 8 xT _ (fun w R Q=>(Za2 _ _ (p) (-(q)) _ Q.1.1 Q.2 O P.neg).mono (fun _ _ h=>xJ (by rw[←Rat.sub_eq_add_neg] at h;exact h))) fun⟨E,F,G,H,I,J,K,L⟩=>?_
 refine xf 1 [(4,.p 4 0)] [bR4 4 34 E F G H I J K L,bR4 4 34 false none 0 0 false none 0 0,bR4 3 34 l m n o t1 r s t,bR4 2 34 c d e f g i j k] ?_
 refine xz (xe (zA (zG ?_)))
 refine zE (v:=.agg #[.bool E,.slice F G H,.bool I,.slice J K L]) (by kernel_rfl) fun w' R Q=>?_
 exact⟨_,rfl,Q.2,R⟩
theorem aP (a b:Value)(p q:Rat)(w:World)(ha:zT w a p)(D:zT w b q)(F:lA p)(G:lA q) :
 yA 28 #[a,b] w (RetV w (.int .i64 (p-q).num.sign)):=by
 obtain⟨k,l,m,n,o,r,s,t,rfl⟩:=ha.shp
 obtain⟨u,x,y,z,t1,A,B,C,rfl⟩:=D.shp
 refine zV (Φ:=fun w=>(zT w (.agg #[.bool k,.slice l m n,.bool o,.slice r s t]) (p)∧zT w (.agg #[.bool u,.slice x y z,.bool t1,.slice A B C]) (q))) Tryz.func28 rfl (by kernel_rfl) (fun w' E=>⟨ha.ext E,D.ext E⟩) ?_
 refine zC (zB (xr 3 [(2,.p 2 0),(3,.p 3 0),yJ 4 0] [bR4 3 34 u x y z t1 A B C,bR4 2 34 k l m n o r s t] ?_))
 refine xe (zA (zC (zB (xr 2 [yJ 4 0,eR4 5 k l m n o r s t,eR4 6 u x y z t1 A B C] [] ?_))))
 refine xc 27 [vR4 k l m n o r s t,vR4 u x y z t1 A B C] 7 xT _ (fun w R Q=>yM xJ (eN _ _ (p) (q) _ Q.1 Q.2 F G)) fun⟨c,d,e,f,g,h,i,j⟩=>?_
 refine xr 0 [yJ 4 0,eR4 7 c d e f g h i j] [] ?_
 refine xc 50 [vR4 c d e f g h i j] 8 (fun _:Unit=>.int .i64 (p-q).num.sign) _ (fun w R Q=>yN (Zdn _ (p-q) _ Q.2)) fun H=>?_
 refine xr 1 [(4,.v (.int .i64 (p-q).num.sign))] [] ?_
 refine xe (zA (zG ?_))
 refine zE (v:=.int .i64 (p-q).num.sign) (by kernel_rfl) fun w' R Q=>?_
 exact⟨rfl,R⟩
theorem ZcR (a b:List UInt8):(⟨a.toArray⟩:ByteArray) ++ ⟨b.toArray⟩=⟨(a ++ b).toArray⟩:=by
 apply ByteArray.ext
 simp
theorem Zbq {n j:Nat}(h:n<10^j∧j≤140737488355000):(Lib.decDigits n).length≤140737488355000:=by
 rcases uI n with e|e
 ·rw[e,Lib.decDigits_one (by omega)];simp
 have:=Zme _ _ h.1
 rw[jM e] at this
 omega
theorem bI (s:Bool)(a:Option Addr)(b c0:Nat)(n:Nat)(w:World)(c:zS w (.slice a b c0) n){j:Nat}(h:n<10^j∧j≤140737488355000) :
 yA 76 #[.agg #[.bool s,.slice a b c0]] w (RetV w (.string ⟨(Lib.decDigits n).toArray⟩)):=by
 refine Zk8 s a b c0 n w c ((j+8)/9) ?_ (by have:=h.2;omega)
 refine uQ h.1 ?_
 rw[show (1000000000:Nat)=10^9 by decide,← sZ]
 exact uR (by omega) (by omega)
theorem ZjW {n k:Nat}(h:ml n≤k):n<10^(10*k):=by
 refine uQ (Zgc n) (uE (uR zY h) ?_)
 rw[sZ]
 exact sF (by rw[xB];decide) _
theorem ZiF (a:Value)(q:Rat)(w:World)(ha:zT w a q)(j k:Nat)(B:q.num.natAbs<10^j∧j≤140737488355000)(_:q.den<10^k∧k≤140737488355000)(x:q.num<0)(y:q.den=1) :
 yA 31 #[a] w (RetV w (.string ⟨(xA q).toArray⟩)):=by
 obtain⟨C,t,u,v,t1,H,D,I,rfl⟩:=ha.shp
 have F2:Hid (zT w (.agg #[.bool C,.slice t u v,.bool t1,.slice H D I]) (q)):=ha
 clear ha
 obtain rfl:C=true:=F2.out.num.sneg x
 have E:Hid (q.num.natAbs<10^j∧j≤140737488355000):=B
 obtain rfl:D=0:=F2.out.den.len0 (kY y)
 have F:Hid (xA q=45 :: Lib.decDigits q.num.natAbs):=by unfold Hid xA Lib.itoa;rw[uL y,uL x]
 obtain⟨J,g⟩:=yE (xA q)
 rw[g] at F ⊢
 clear x y B g
 go_enter Tryz.func31,Tryz.ntmps31
 go_wp2_with fail
 generalize h:World.alloc w _=w4
 obtain⟨c,d⟩:=fC h
 clear h
 have B3:=zh c
 clear c
 replace F2:=zh (F2.out.ext d)
 have HE:=zh d
 clear d
 have F5:Hid (zZ w4 (.agg #[.bool true,.slice t u v]) ((q).num)):=F2.out.num
 have F8:Hid (zS w4 (.slice t u v) (((q).num).natAbs)):=F5.out.mag
 refine (bI true t u v _ _ F8.out E.out).mono ?_
 obtain⟨G,b⟩:=yE (Lib.decDigits (((q).num).natAbs))
 rw[b];have z:G.length≤140737488355000:=by rw[←b];exact Zbq E.out
 have A:=zh b;clear b
 rintro e K ⟨rfl,f⟩
 replace B3:=zh (B3.out.ext f)
 replace F2:=zh (F2.out.ext f)
 replace F5:=zh (F5.out.ext f)
 replace F8:=zh (F8.out.ext f)
 replace HE:=zh (HE.out.trans f)
 clear f
 obtain⟨i,l,m,n,o,p,r,s⟩:=B3.out.cell4
 go_wp2
 clear i l m n o p r s
 go_ret
 refine⟨?_,HE.out⟩
 rw[F.out,A.out]
 show Ending.returned (.string ((⟨#[45]⟩:ByteArray) ++ ⟨G.toArray⟩))=_
 simp only[ZcR]
 rfl
theorem ZiG (a:Value)(q:Rat)(w:World)(ha:zT w a q)(j k:Nat)(N:q.num.natAbs<10^j∧j≤140737488355000)(O:q.den<10^k∧k≤140737488355000)(P:q.num<0)(s:¬ q.den=1) :
 yA 31 #[a] w (RetV w (.string ⟨(xA q).toArray⟩)):=by
 obtain⟨Q,F,G,H,t1,I,m1,J,rfl⟩:=ha.shp
 have F2:Hid (zT w (.agg #[.bool Q,.slice F G H,.bool t1,.slice I m1 J]) (q)):=ha
 clear ha
 obtain rfl:Q=true:=F2.out.num.sneg P
 have R:Hid (q.num.natAbs<10^j∧j≤140737488355000):=N
 have Y:0<m1:=F2.out.den.lenp (Zar s)
 have W:decide ((0:Int)<(m1:Int))=true:=by rw[vN];omega
 have S:Hid ((denF q).natAbs<10^k∧k≤140737488355000):=by unfold Hid;rw[fV s,vS];exact O
 have T:Hid (xA q=(45 :: Lib.decDigits q.num.natAbs) ++ (47 :: Lib.decDigits (denF q).natAbs)):=by
  unfold Hid xA
  rw[uJ s,fV s,vS,Lib.itoa_nonneg]
  unfold Lib.itoa
  rw[uL (show q.num<0 by omega)]
  simp
 obtain⟨Z,t⟩:=yE (xA q)
 rw[t] at T ⊢
 clear P s N O t
 go_enter Tryz.func31,Tryz.ntmps31
 go_wp2_with fail
 generalize u:World.alloc w _=w4
 obtain⟨f,g⟩:=fC u
 clear u
 have B3:=zh f
 clear f
 replace F2:=zh (F2.out.ext g)
 have HE:=zh g
 clear g
 have F5:Hid (zZ w4 (.agg #[.bool true,.slice F G H]) ((q).num)):=F2.out.num
 have F8:Hid (zS w4 (.slice F G H) (((q).num).natAbs)):=F5.out.mag
 refine (bI true F G H _ _ F8.out R.out).mono ?_
 obtain⟨U,d⟩:=yE (Lib.decDigits (((q).num).natAbs))
 rw[d];have L:U.length≤140737488355000:=by rw[←d];exact Zbq R.out
 have M:=zh d;clear d
 rintro e V ⟨rfl,b⟩
 replace B3:=zh (B3.out.ext b)
 replace F2:=zh (F2.out.ext b)
 replace F5:=zh (F5.out.ext b)
 replace F8:=zh (F8.out.ext b)
 replace HE:=zh (HE.out.trans b)
 clear b
 obtain⟨v,x,y,z,A,B,C,D⟩:=B3.out.cell4
 go_wp2_with fail
 clear v x y z A B C D
 have F10:Hid (zZ V (.agg #[.bool t1,.slice I m1 J]) (denF (q))):=F2.out.den
 have F13:Hid (zS V (.slice I m1 J) ((denF (q)).natAbs)):=F10.out.mag
 refine (bI t1 I m1 J _ _ F13.out S.out).mono ?_
 obtain⟨t12,c⟩:=yE (Lib.decDigits ((denF (q)).natAbs))
 rw[c];have K:t12.length≤140737488355000:=by rw[←c];exact Zbq S.out
 have E:=zh c;clear c
 rintro e X ⟨rfl,b⟩
 replace B3:=zh (B3.out.ext b)
 replace F2:=zh (F2.out.ext b)
 replace F5:=zh (F5.out.ext b)
 replace F8:=zh (F8.out.ext b)
 replace F10:=zh (F10.out.ext b)
 replace F13:=zh (F13.out.ext b)
 replace HE:=zh (HE.out.trans b)
 clear b
 obtain⟨h,i,l,m,n,o,p,r⟩:=B3.out.cell4
 go_wp2
 clear h i l m n o p r
 go_ret
 refine⟨?_,HE.out⟩
 rw[T.out,M.out,E.out]
 show Ending.returned (.string (((⟨#[45]⟩:ByteArray) ++ ⟨U.toArray⟩) ++ ((⟨#[47]⟩:ByteArray) ++ ⟨t12.toArray⟩)))=_
 simp only[ZcR]
 rfl
theorem ZiH (a:Value)(q:Rat)(w:World)(ha:zT w a q)(j k:Nat)(A:q.num.natAbs<10^j∧j≤140737488355000)(_:q.den<10^k∧k≤140737488355000)(B:0≤q.num)(x:q.den=1) :
 yA 31 #[a] w (RetV w (.string ⟨(xA q).toArray⟩)):=by
 obtain⟨C,t,u,v,t1,H,D,I,rfl⟩:=ha.shp
 have F2:Hid (zT w (.agg #[.bool C,.slice t u v,.bool t1,.slice H D I]) (q)):=ha
 clear ha
 obtain rfl:C=false:=F2.out.num.spos B
 have E:Hid (q.num.natAbs<10^j∧j≤140737488355000):=A
 obtain rfl:D=0:=F2.out.den.len0 (kY x)
 have F:Hid (xA q=Lib.decDigits q.num.natAbs):=by unfold Hid xA Lib.itoa;rw[uL x,uJ (show ¬ q.num<0 by omega)];rw[show q.num.toNat=q.num.natAbs by omega]
 obtain⟨J,g⟩:=yE (xA q)
 rw[g] at F ⊢
 clear B x A g
 go_enter Tryz.func31,Tryz.ntmps31
 go_wp2_with fail
 generalize h:World.alloc w _=w4
 obtain⟨c,d⟩:=fC h
 clear h
 have B3:=zh c
 clear c
 replace F2:=zh (F2.out.ext d)
 have HE:=zh d
 clear d
 have F5:Hid (zZ w4 (.agg #[.bool false,.slice t u v]) ((q).num)):=F2.out.num
 have F8:Hid (zS w4 (.slice t u v) (((q).num).natAbs)):=F5.out.mag
 refine (bI false t u v _ _ F8.out E.out).mono ?_
 obtain⟨G,b⟩:=yE (Lib.decDigits (((q).num).natAbs))
 rw[b];have y:G.length≤140737488355000:=by rw[←b];exact Zbq E.out
 have z:=zh b;clear b
 rintro e K ⟨rfl,f⟩
 replace B3:=zh (B3.out.ext f)
 replace F2:=zh (F2.out.ext f)
 replace F5:=zh (F5.out.ext f)
 replace F8:=zh (F8.out.ext f)
 replace HE:=zh (HE.out.trans f)
 clear f
 obtain⟨i,l,m,n,o,p,r,s⟩:=B3.out.cell4
 go_wp2
 clear i l m n o p r s
 go_ret
 refine⟨?_,HE.out⟩
 rw[F.out,z.out]
 show Ending.returned (.string (⟨G.toArray⟩:ByteArray))=_
 rfl
theorem ZiI (a:Value)(q:Rat)(w:World)(ha:zT w a q)(j k:Nat)(N:q.num.natAbs<10^j∧j≤140737488355000)(O:q.den<10^k∧k≤140737488355000)(P:0≤q.num)(s:¬ q.den=1) :
 yA 31 #[a] w (RetV w (.string ⟨(xA q).toArray⟩)):=by
 obtain⟨Q,F,G,H,t1,I,m1,J,rfl⟩:=ha.shp
 have F2:Hid (zT w (.agg #[.bool Q,.slice F G H,.bool t1,.slice I m1 J]) (q)):=ha
 clear ha
 obtain rfl:Q=false:=F2.out.num.spos P
 have R:Hid (q.num.natAbs<10^j∧j≤140737488355000):=N
 have Y:0<m1:=F2.out.den.lenp (Zar s)
 have W:decide ((0:Int)<(m1:Int))=true:=by rw[vN];omega
 have S:Hid ((denF q).natAbs<10^k∧k≤140737488355000):=by unfold Hid;rw[fV s,vS];exact O
 have T:Hid (xA q=(Lib.decDigits q.num.natAbs) ++ (47 :: Lib.decDigits (denF q).natAbs)):=by
  unfold Hid xA
  rw[uJ s,fV s,vS,Lib.itoa_nonneg]
  unfold Lib.itoa
  rw[uJ (show ¬ q.num<0 by omega)]
  rw[show q.num.toNat=q.num.natAbs by omega]
  simp
 obtain⟨Z,t⟩:=yE (xA q)
 rw[t] at T ⊢
 clear P s N O t
 go_enter Tryz.func31,Tryz.ntmps31
 go_wp2_with fail
 generalize u:World.alloc w _=w4
 obtain⟨f,g⟩:=fC u
 clear u
 have B3:=zh f
 clear f
 replace F2:=zh (F2.out.ext g)
 have HE:=zh g
 clear g
 have F5:Hid (zZ w4 (.agg #[.bool false,.slice F G H]) ((q).num)):=F2.out.num
 have F8:Hid (zS w4 (.slice F G H) (((q).num).natAbs)):=F5.out.mag
 refine (bI false F G H _ _ F8.out R.out).mono ?_
 obtain⟨U,d⟩:=yE (Lib.decDigits (((q).num).natAbs))
 rw[d];have L:U.length≤140737488355000:=by rw[←d];exact Zbq R.out
 have M:=zh d;clear d
 rintro e V ⟨rfl,b⟩
 replace B3:=zh (B3.out.ext b)
 replace F2:=zh (F2.out.ext b)
 replace F5:=zh (F5.out.ext b)
 replace F8:=zh (F8.out.ext b)
 replace HE:=zh (HE.out.trans b)
 clear b
 obtain⟨v,x,y,z,A,B,C,D⟩:=B3.out.cell4
 go_wp2_with fail
 clear v x y z A B C D
 have F10:Hid (zZ V (.agg #[.bool t1,.slice I m1 J]) (denF (q))):=F2.out.den
 have F13:Hid (zS V (.slice I m1 J) ((denF (q)).natAbs)):=F10.out.mag
 refine (bI t1 I m1 J _ _ F13.out S.out).mono ?_
 obtain⟨t12,c⟩:=yE (Lib.decDigits ((denF (q)).natAbs))
 rw[c];have K:t12.length≤140737488355000:=by rw[←c];exact Zbq S.out
 have E:=zh c;clear c
 rintro e X ⟨rfl,b⟩
 replace B3:=zh (B3.out.ext b)
 replace F2:=zh (F2.out.ext b)
 replace F5:=zh (F5.out.ext b)
 replace F8:=zh (F8.out.ext b)
 replace F10:=zh (F10.out.ext b)
 replace F13:=zh (F13.out.ext b)
 replace HE:=zh (HE.out.trans b)
 clear b
 obtain⟨h,i,l,m,n,o,p,r⟩:=B3.out.cell4
 go_wp2
 clear h i l m n o p r
 go_ret
 refine⟨?_,HE.out⟩
 rw[T.out,M.out,E.out]
 show Ending.returned (.string ((⟨U.toArray⟩:ByteArray) ++ ((⟨#[47]⟩:ByteArray) ++ ⟨t12.toArray⟩)))=_
 simp only[ZcR]
 rfl
theorem Zdp (a:Value)(q:Rat)(w:World)(ha:zT w a q)(j k:Nat)(c:q.num.natAbs<10^j∧j≤140737488355000)(d:q.den<10^k∧k≤140737488355000):yA 31 #[a] w (RetV w (.string ⟨(xA q).toArray⟩)):=by
 by_cases e:q.num<0
 ·by_cases b:q.den=1
  ·exact ZiF a q w ha j k c d e b
  exact ZiG a q w ha j k c d e b
 by_cases b:q.den=1
 ·exact ZiH a q w ha j k c d (by omega) b
 exact ZiI a q w ha j k c d (by omega) b
theorem gJ (a:Value)(q:Rat)(w:World)(ha:zT w a q)(b:ml q.num.natAbs≤65536)(c:ml q.den≤65536):yA 31 #[a] w (RetV w (.string ⟨(xA q).toArray⟩)) :=
 Zdp a q w ha _ _ ⟨ZjW b,by omega⟩ ⟨ZjW c,by omega⟩
def ZgJ (w:World) (l:List UInt8) (e:Ending) (w':World):Prop :=
 ∃ v b,e=.returned (.tuple #[v,.bool b])∧b=(l.all zU && !l.isEmpty)∧zZ w' v (if l.all zU then (zH l:Int) else 0)∧Ext w w'
theorem ZjX {fn:Func}{t e:Tmp}{a:Array Value}{w w':World}{r:Nat}{x y:Value}{b:Bool}{l:List UInt8}(c:fn.results=#[.cell t 32,.tmp e])(f:a[t]? = some (.pointer (some ⟨r,0,none⟩)))(d:a[e]? = some (.bool b))(g:Blk 32 w' r #[x,y])(h:zZ w' (.agg #[x,y]) (if l.all zU then (zH l:Int) else 0))(i:b=(l.all zU && !l.isEmpty))(Q:Ext w w'):bodyPost Tryz.prog fn (ZgJ w l) .ret ⟨a,[]⟩ w':=by
 obtain⟨j,k,_⟩:=g.cell2
 exact bodyPost_ret (v:=.tuple #[.agg #[x,y],.bool b]) (by simp[results,c,f,d,go_sem,j,k]) rfl ⟨_,_,rfl,i,h,Q⟩
theorem zS.one_pos {w:World}{b r:Nat}(h:Own .u32 102 w b [r])(c:r<W32)(d:0<r):zS w (.slice (some ⟨b,0,none⟩) 1 1) r :=
 ⟨_,[r],1,rfl,uM _,h.shows0,Dig.cons c Dig.nil,fun k a=>by simp at a;subst a;simp;omega,by simp⟩
theorem ZgK {n k:Nat}(h:n<10^k):ml n≤k:=lL.2 (uQ h (sF (by rw[xB];omega) _))
theorem Zof {n k:Nat}(h:n<10^k):n<1000000000^((k+8)/9):=by
 refine uQ h ?_
 rw[show (1000000000:Nat)=10^9 by decide,← sZ]
 exact uR (by omega) (by omega)
theorem ZeR {n k:Nat}(h:n<10^k):ml n≤(k+8)/9:=lL.2 (uQ (Zof h) (sF (by rw[xB];omega) _))
theorem ZjY (s:ByteArray):s.toList.isEmpty=(bytes s).isEmpty:=by
 rw[Lib.toList_data]
def FdIn (l:List UInt8) (i k v f:Nat):Prop:=k≤9∧i+k≤l.length∧(l.take (i+k)).all zU=true∧v=zH ((l.drop i).take k)∧f=10^k
theorem FdIn.bounds {l:List UInt8}{i k v f:Nat}(h:FdIn l i k v f):v<10^k∧v<1000000000∧f≤1000000000∧0<f:=by
 obtain⟨c,g,b,d,j⟩:=h
 have a:((l.drop i).take k).all zU=true:=by
  rw[vR] at b ⊢
  intro x e
  refine b x ?_
  rw[List.take_add]
  exact List.mem_append_right _ e
 have:=lR _ a
 rw[uY,vZ,uV (by omega),← d] at this
 have m:10^k≤10^9:=uR (by omega) c
 have n:0<10^k:=uT (by omega)
 exact⟨this,by omega,by omega,by omega⟩
theorem FdIn.step {l:List UInt8}{i k v f:Nat}{c:UInt8}(h:FdIn l i k v f)(m:k<9)(a:i+k<l.length)(b:l[i+k]=c)(d:zU c=true):FdIn l i (k+1) (v*10+(c.toNat-48)) (f*10):=by
 obtain⟨n,o,e,g,j⟩:=h
 refine⟨by omega,by omega,?_,?_,by rw[j,uO]⟩
 ·rw[←tO,tZ a,rY,e,b]
  simp[d]
 rw[tZ (by simp;omega),dK,← g,List.getElem_drop,b]
 omega
theorem FdIn.done {l:List UInt8}{i k v f:Nat}(h:FdIn l i k v f):zH (l.take i)*f+v=zH (l.take (i+k)):=by
 obtain⟨c,d,e,a,b⟩:=h
 have:l.take (i+k)=l.take i ++ (l.drop i).take k:=by rw[List.take_add]
 rw[this,bZ,uY,vZ,uV (by omega),← a,b]
theorem ZqN {l:List UInt8}{i:Nat}(h:i<l.length)(a:zU l[i]=false):l.all zU=false:=by
 rw[List.all_eq_false]
 exact⟨l[i],rO h,by simp[a]⟩
theorem dW (s:ByteArray)(w:World)(hs:s.size≤140737488351232):yA 60 #[.string s] w (ZgJ w (bytes s)):=by
 have j:=zh (zP s)
 go_enter Tryz.func60,Tryz.ntmps60
 go_wp2_with fail
 generalize a:World.alloc w _=w1
 obtain⟨b0,c0⟩:=fC a
 have HB:=zh b0
 have HE:=zh c0
 clear a b0 c0
 go_loopw [4,5,6,7,8] (fun mv iv _ _ _ wr=>∃ (i:Nat) (A:Option Addr) (ln c:Nat),i≤s.size∧iv=.int .i64 (i:Int)∧mv=.slice A ln c∧Hid (((bytes s).take i).all zU=true)∧Hid (zS wr (.slice A ln c) (zH ((bytes s).take i)))∧Hid (Ext w1 wr)) (fun _ iv _ _ _ _=>s.size-(intOf iv).toNat)
 case atStart=>exact⟨0,none,0,0,by omega,rfl,rfl,by unfold Hid;simp,by unfold Hid;simpa [zH] using zS.zero _,Fr.refl _ _⟩
 case round =>
  obtain⟨i,A,ln,c,hi,rfl,rfl,t,hM,hF⟩:=hrel
  by_cases m0:i<s.size
  ·go_wp2
   go_loop [5,6,7,8] (fun iv vv fv kv=>∃ (k v f:Nat),k≤9∧i+k≤s.size∧v<1000000000∧f≤1000000000∧0<f∧iv=.int .i64 ((i+k:Nat):Int)∧vv=.int .u32 (v:Int)∧fv=.int .u32 (f:Int)∧kv=.int .i64 (k:Int)∧Hid (FdIn (bytes s) i k v f)) (fun _ _ _ kv=>9-(intOf kv).toNat)
   case atStart=>exact⟨0,0,1,by omega,by omega,by omega,by omega,by omega,rfl,rfl,rfl,rfl,⟨by omega,by rw[j.out];omega,t.out,by simp[zH],rfl⟩⟩
   case round =>
    obtain⟨k,v,f,hk,n0,hv,hf,f0,rfl,rfl,rfl,rfl,E⟩:=hrel
    by_cases F:k<9∧i+k<s.size
    ·obtain⟨g1,g2⟩:=F
     have d0:decide ((k:Int)<9)=true:=by rw[vN];omega
     have x:(bytes s)[i+k]'(by rw[j.out];exact g2)=s[i+k]:=Zc6 s g2
     by_cases Q:zU s[i+k]=true
     ·have R:=zh (E.out.step g1 (by rw[j.out];exact g2) x Q)
      have hb:=Zeo Q
      have G:=R.out.bounds
      have e1:IntKind.u8.wrap ((s[i+k].toNat:Int)-48)=((s[i+k].toNat-48:Nat):Int):=by rw[IntKind.wrap_u8];omega
      have g0:((s[i+k].toNat:Int)-48)%256=((s[i+k].toNat-48:Nat):Int):=by omega
      obtain⟨d,ed⟩:=yE (s[i+k].toNat-48)
      have o0:d≤9:=by omega
      rw[ed] at R e1 g0 G
      have h0:=G.2.1
      have i0:=G.2.2.1
      have x1:(i:Int)+(k:Int)<(s.size:Int):=by omega
      have x2:(0:Int)≤(i:Int)+(k:Int):=by omega
      have x3:(48:Int)≤(s[i+k].toNat:Int):=by omega
      have x4:¬ ((s[i+k].toNat:Int)<48):=by omega
      have x5:¬ ((57:Int)<(s[i+k].toNat:Int)):=by omega
      have x6:decide ((s[i+k].toNat:Int)<48)=false:=by rw[vA];omega
      have x7:decide ((57:Int)<(s[i+k].toNat:Int))=false:=by rw[vA];omega
      have x8:((i:Int)+(k:Int)).toNat=i+k:=by omega
      clear G x ed Q
      go_wp2
      go_round
      case rel=>exact⟨k+1,v*10+d,f*10,by omega,by omega,h0,i0,by omega,by go_num,by go_num,by go_num,by go_num,R⟩
      case measure=>simp[intOf];omega
     have H:Hid ((bytes s).all zU=false):=ZqN (by rw[j.out];exact g2) (by rw[x];simpa using Q)
     have I:=zh (HB.out.ext hF.out)
     have S:=zh (HE.out.trans hF.out)
     obtain⟨z0,z1,z2,z3⟩:=I.out.cell2
     have x1:(i:Int)+(k:Int)<(s.size:Int):=by omega
     have x2:(0:Int)≤(i:Int)+(k:Int):=by omega
     have x8:((i:Int)+(k:Int)).toNat=i+k:=by omega
     have L:Hid (∀ u:Array Value,u[2]? = some (.pointer (some ⟨w.heap.size,0,none⟩))→u[3]? = some (.bool false)→bodyPost Tryz.prog Tryz.f60 (ZgJ w (bytes s)) .ret ⟨u,[]⟩ ((wr.setCell ⟨w.heap.size,0,none⟩ (.bool false)).setCell ⟨w.heap.size,1,none⟩ (.slice none 0 0))):=by
      intro u h2 h3
      have J:Fr (fun i=>i=w.heap.size) wr ((wr.setCell ⟨w.heap.size,0,none⟩ (.bool false)).setCell ⟨w.heap.size,1,none⟩ (.slice none 0 0)):=((Fr.refl (fun i=>i=w.heap.size) _).setCell (p:=⟨w.heap.size,0,none⟩) (Or.inl rfl) _).setCell (p:=⟨w.heap.size,1,none⟩) (Or.inl rfl) _
      refine ZjX rfl h2 h3 ((I.out.set_ 0 _).set_ 1 _) ?_ (by rw[H.out];rfl) (S.out.next J (fun i hi e=>by omega))
      rw[H.out];exact zZ.nil _
     by_cases p0:s[i+k].toNat < 48
     ·have x3:(s[i+k].toNat:Int)<48:=by omega
      have x6:decide ((s[i+k].toNat:Int)<48)=true:=by rw[vN];omega
      clear x Q H
      go_wp2
      exact L.out _ rfl rfl
     have q0:57<s[i+k].toNat:=by
      have:zU s[i+k]=false:=by simpa using Q
      unfold zU at this
      simp at this
      omega
     have x3:¬ ((s[i+k].toNat:Int)<48):=by omega
     have x4:(57:Int)<(s[i+k].toNat:Int):=by omega
     have x6:decide ((s[i+k].toNat:Int)<48)=false:=by rw[vA];omega
     have x7:decide ((57:Int)<(s[i+k].toNat:Int))=true:=by rw[vN];omega
     clear x Q H
     go_wp2
     exact L.out _ rfl rfl
    have r0:1≤k:=by
     rcases uI k with e|e
     ·subst e;exact absurd ⟨by omega,by omega⟩ F
     exact e
    have T:Hid (f<W32):=by unfold Hid;rw[xB];omega
    have U:Hid (v<W32):=by unfold Hid;rw[xB];omega
    have M:Hid (ml (zH ((bytes s).take i))≤17592186044416):=by
     have h1:=ZeR (lR _ t.out)
     rw[uY,j.out] at h1
     unfold Hid;omega
    have N:Hid (ml f≤17592186044416):=by
     have:=lL (n:=f) (k:=1)
     rw[Nat.pow_one] at this
     have:=this.2 T.out
     unfold Hid;omega
    have O:Hid (ml v≤17592186044416):=by
     have:=lL (n:=v) (k:=1)
     rw[Nat.pow_one] at this
     have:=this.2 U.out
     unfold Hid;omega
    have l:=zh E.out.done
    have m:Hid (((bytes s).take (i+k)).all zU=true):=E.out.2.2.1
    have P:Hid (ml (zH ((bytes s).take i)*f)≤17592186044416):=by
     have h1:=ZeR (lR _ m.out)
     rw[uY,j.out] at h1
     have h2:=Zap (show zH ((bytes s).take i)*f≤zH ((bytes s).take (i+k)) by have:=l.out;omega)
     unfold Hid;omega
    have e0:Hid (0<f):=f0
    by_cases h9:k<9
    ·have g2:¬ ((i:Int)+(k:Int)<(s.size:Int)):=by omega
     have d0:decide ((k:Int)<9)=true:=by rw[vN];omega
     have s0:decide ((i:Int)+(k:Int)<(s.size:Int))=false:=by rw[vA];omega
     clear F E
     go_wp2_with fail
     generalize a:World.alloc wr _=w2
     have y:Own .u32 102 w2 wr.heap.size [f]:=a ▸ Own.new wr 102 .u32 [f] []
     have g:Ext wr w2:=a ▸ (Fr.refl _ _).alloc _
     clear a
     refine (bF _ _ (zH ((bytes s).take i)) f _ (hM.out.ext g) (zS.one_pos y T.out e0.out) M.out N.out).mono ?_
     rintro e K ⟨_,rfl,o,z⟩
     obtain⟨A3,l3,c3,rfl⟩:=o.slice
     have B:=zh o
     have C:=zh ((hF.out.trans g).trans z)
     clear o z g y
     go_wp2_with fail
     generalize a:World.alloc K _=w4
     have q:Own .u32 102 w4 K.heap.size [v]:=a ▸ Own.new K 102 .u32 [v] []
     have r:Ext K w4:=a ▸ (Fr.refl _ _).alloc _
     clear a
     refine (lU _ [v] 1 1 _ rfl q.shows0 (by simp) (by simp)).mono ?_
     rintro e w5 ⟨rfl,rfl⟩
     have V:=zh (zS.one q U.out)
     have W:=zh (B.out.ext r)
     have X:=zh (C.out.trans r)
     clear q r B C
     go_wp2_with fail
     refine (Za8 _ _ _ _ _ W.out V.out P.out O.out).mono ?_
     rintro e w6 ⟨_,rfl,h,D⟩
     rw[l.out] at h
     obtain⟨A6,l6,c6,rfl⟩:=h.slice
     have Y:=zh h
     have Z:=zh (X.out.trans D)
     clear h D
     go_wp2
     go_roundw
     case rel=>exact⟨i+k,A6,l6,c6,by omega,by go_num,rfl,m,Y,Z⟩
     case measure=>simp[intOf];omega
    have g2:¬ ((k:Int)<9):=by omega
    have d0:decide ((k:Int)<9)=false:=by rw[vA];omega
    clear F E
    go_wp2_with fail
    generalize a:World.alloc wr _=w2
    have y:Own .u32 102 w2 wr.heap.size [f]:=a ▸ Own.new wr 102 .u32 [f] []
    have g:Ext wr w2:=a ▸ (Fr.refl _ _).alloc _
    clear a
    refine (bF _ _ (zH ((bytes s).take i)) f _ (hM.out.ext g) (zS.one_pos y T.out e0.out) M.out N.out).mono ?_
    rintro e K ⟨_,rfl,o,z⟩
    obtain⟨A3,l3,c3,rfl⟩:=o.slice
    have B:=zh o
    have C:=zh ((hF.out.trans g).trans z)
    clear o z g y
    go_wp2_with fail
    generalize a:World.alloc K _=w4
    have q:Own .u32 102 w4 K.heap.size [v]:=a ▸ Own.new K 102 .u32 [v] []
    have r:Ext K w4:=a ▸ (Fr.refl _ _).alloc _
    clear a
    refine (lU _ [v] 1 1 _ rfl q.shows0 (by simp) (by simp)).mono ?_
    rintro e w5 ⟨rfl,rfl⟩
    have V:=zh (zS.one q U.out)
    have W:=zh (B.out.ext r)
    have X:=zh (C.out.trans r)
    clear q r B C
    go_wp2_with fail
    refine (Za8 _ _ _ _ _ W.out V.out P.out O.out).mono ?_
    rintro e w6 ⟨_,rfl,h,D⟩
    rw[l.out] at h
    obtain⟨A6,l6,c6,rfl⟩:=h.slice
    have Y:=zh h
    have Z:=zh (X.out.trans D)
    clear h D
    go_wp2
    go_roundw
    case rel=>exact⟨i+k,A6,l6,c6,by omega,by go_num,rfl,m,Y,Z⟩
    case measure=>simp[intOf];omega
  obtain rfl:i=s.size:=by omega
  have e1:(bytes s).take s.size=bytes s:=uA (by rw[j.out];exact uM _)
  have HA:Hid ((bytes s).all zU=true):=by have:=t.out;rw[e1] at this;exact this
  have HM:Hid (zS wr (.slice A ln c) (zH (bytes s))):=by have:=hM.out;rw[e1] at this;exact this
  have I:=zh (HB.out.ext hF.out)
  have S:=zh (HE.out.trans hF.out)
  have j0:=zh (ZjY s)
  clear e1 t hM
  go_wp2_with fail
  refine (cJ false _ _ _ HM.out).mono ?_
  rintro e w2 ⟨_,rfl,E,g⟩
  obtain⟨s2,A2,l2,c2,rfl⟩:=E.shp
  have HI:=zh E
  have a0:=zh (I.out.ext g)
  have l0:=zh (S.out.trans g)
  obtain⟨k0,k1,k2,k3⟩:=a0.out.cell2
  clear E g
  go_wp2
  have J:Fr (fun i=>i=w.heap.size) w2 ((w2.setCell ⟨w.heap.size,0,none⟩ (.bool s2)).setCell ⟨w.heap.size,1,none⟩ (.slice A2 l2 c2)):=((Fr.refl (fun i=>i=w.heap.size) _).setCell (p:=⟨w.heap.size,0,none⟩) (Or.inl rfl) _).setCell (p:=⟨w.heap.size,1,none⟩) (Or.inl rfl) _
  refine ZjX (b := !s.toList.isEmpty) rfl rfl rfl ((a0.out.set_ 0 _).set_ 1 _) ?_ (by rw[HA.out,j0.out];rfl) (l0.out.next J (fun i hi e=>by omega))
  rw[HA.out]
  exact HI.out.oth a0.out kO J
theorem Zdq {q:Rat}{k:Nat}(h:q.num.natAbs<10^k∧q.den<10^k):ml q.num.natAbs≤k∧ml q.den≤k:=⟨ZgK h.1,ZgK h.2⟩
theorem Zdr {q:Rat}{k:Nat}(h:q.num.natAbs<10^k∧q.den<10^k)(a:k≤100000):lA q:=⟨uE (ZgK h.1) a,uE (ZgK h.2) a⟩
def zX (c:UInt8):Bool:=c != 47
def iN (l:List UInt8):Option Rat :=
 if (((zQ l).2.takeWhile zX).all zU && !((zQ l).2.takeWhile zX).isEmpty)=false then none
 else if (zQ l).2.drop ((zQ l).2.takeWhile zX).length=[] then
  (if xA (((sg (zQ l).1 (zH ((zQ l).2.takeWhile zX)):Int)):Rat)=l then some (((sg (zQ l).1 (zH ((zQ l).2.takeWhile zX)):Int)):Rat) else none)
 else if (((zQ l).2.drop (((zQ l).2.takeWhile zX).length+1)).all zU && !((zQ l).2.drop (((zQ l).2.takeWhile zX).length+1)).isEmpty)=false∨zH ((zQ l).2.drop (((zQ l).2.takeWhile zX).length+1))=0 then none
 else (if xA (Rat.divInt (sg (zQ l).1 (zH ((zQ l).2.takeWhile zX))) (zH ((zQ l).2.drop (((zQ l).2.takeWhile zX).length+1)):Int))=l then some (Rat.divInt (sg (zQ l).1 (zH ((zQ l).2.takeWhile zX))) (zH ((zQ l).2.drop (((zQ l).2.takeWhile zX).length+1)):Int)) else none)
theorem ZmS {l:List UInt8}{q:Rat}(h:iN l=some q):xA q=l:=by
 unfold iN at h
 split at h
 ·cases h
 split at h
 ·split at h
  ·rename_i e;injection h with h;rw[←h];exact e
  cases h
 split at h
 ·cases h
 split at h
 ·rename_i e;injection h with h;rw[←h];exact e
 cases h
theorem Zae {l:List UInt8}(h:l.all zU=true):l.all zX=true:=by
 rw[vR] at *
 intro x a
 have:=h x a
 unfold zX
 simp
 rintro rfl
 exact absurd this (by decide)
theorem ZmT (q:Rat):iN (xA q)=some q:=by
 by_cases h:q.den=1
 ·have e:xA q=Lib.itoa q.num ++ []:=by unfold xA;rw[uL h,rI]
  have a:=ZaK q.num []
  rw[←e,rI] at a
  obtain⟨f,g⟩:=dF (Zae (jK q.num.natAbs))
  unfold iN
  rw[a]
  simp only[]
  rw[f,jK,jL,Zad,ZgI h]
  rw[uJ (by simp[lI]),uX (uM _),uL rfl,uL rfl]
 have e:xA q=Lib.itoa q.num ++ 47 :: Lib.decDigits q.den:=by unfold xA;rw[uJ h,jR];simp
 have a:=ZaK q.num (47 :: Lib.decDigits q.den)
 rw[←e] at a
 obtain⟨f,g⟩:=Zaw (p:=zX) (r:=Lib.decDigits q.den) (c:=47) (Zae (jK q.num.natAbs)) (by decide)
 have i:=q.den_nz
 have b:(Lib.decDigits q.num.natAbs ++ 47 :: Lib.decDigits q.den).drop (Lib.decDigits q.num.natAbs).length=47 :: Lib.decDigits q.den:=by simp
 have d:(Lib.decDigits q.num.natAbs ++ 47 :: Lib.decDigits q.den).drop ((Lib.decDigits q.num.natAbs).length+1)=Lib.decDigits q.den:=by
  rw[←vM,b];rfl
 unfold iN
 rw[a]
 simp only[]
 rw[f,b,d,jK,jK,jL,jL,Zad,sO]
 rw[uJ (by simp[lI]),uJ (by simp),uJ (by simp[lI];exact i),uL rfl]
theorem Zds (l:List UInt8):iN l=xS l:=by
 cases h:iN l with
 | some q=>rw[←ZmS h];exact (Za0 q).symm
 | none =>
  cases k:xS l with
  | none=>rfl
  | some q =>
   have:=gV k
   rw[←this,ZmT] at h
   cases h
def ZfL (w:World) (l:List UInt8) (e:Ending) (w':World):Prop :=
 ∃ v ok q,e=.returned (.tuple #[v,.bool ok])∧Ext w w'∧zT w' v q∧((ok=true∧xS l=some q)∨(ok=false∧xS l=none))
theorem ZjZ {q:Rat}{s:ByteArray}{b:Bool}(a:iN (bytes s)=if xA q=bytes s then some q else none)(c:b=decide (xA q=bytes s)):(b=true∧xS (bytes s)=some q)∨(b=false∧xS (bytes s)=none):=by
 rw[Zds] at a
 by_cases h:xA q=bytes s
 ·rw[uL h] at a;left;exact⟨by rw[c,uW h],a⟩
 rw[uJ h] at a;right;exact⟨by rw[c,vF h],a⟩
theorem ZgL (t:ByteArray)(a b:Nat):(t.extract a b).size≤t.size:=by
 rw[←zP,lX,uY,vZ,zP];omega
theorem ZdI {l:List UInt8}{k:Nat}(h:(l.take k).all zX=true)(a:∀ h:k<l.length,zX l[k]=false)(b:k≤l.length):k=(l.takeWhile zX).length:=by
 rw[(ZbG h a).1,uY];omega
theorem ZgM {t:ByteArray}{p:Nat}(a:p=((bytes t).takeWhile zX).length):bytes (t.extract 0 p)=(bytes t).takeWhile zX∧bytes (t.extract (p+1) t.size)=(bytes t).drop (p+1):=by
 rw[lX,lX]
 refine⟨?_,?_⟩
 ·rw[tS,Nat.sub_zero,a]
  have:=List.takeWhile_prefix zX (l:=bytes t)
  exact (List.prefix_iff_eq_take.1 this).symm
 rw[uA (by rw[vZ,zP];exact uM _)]
theorem ZmU {l t:List UInt8}{neg:Bool}(a:zQ l=(neg,t))(b:(((t.takeWhile zX)).all zU && !(t.takeWhile zX).isEmpty)=false):iN l=none:=by
 unfold iN;rw[a];simp only[];rw[uL b]
theorem Zk9 {l t:List UInt8}{neg:Bool}(a:zQ l=(neg,t))(b:(((t.takeWhile zX)).all zU && !(t.takeWhile zX).isEmpty)=true)(c:t.length≤(t.takeWhile zX).length) :
 iN l=if xA ((sg neg (zH (t.takeWhile zX)):Int):Rat)=l then some ((sg neg (zH (t.takeWhile zX)):Int):Rat) else none:=by
 unfold iN;rw[a];simp only[];rw[uJ (by rw[b];simp),uL (uX c)]
theorem ZgN {l t:List UInt8}{neg:Bool}(a:zQ l=(neg,t))(b:(((t.takeWhile zX)).all zU && !(t.takeWhile zX).isEmpty)=true)(d:(t.takeWhile zX).length<t.length)(c:((t.drop ((t.takeWhile zX).length+1)).all zU && !(t.drop ((t.takeWhile zX).length+1)).isEmpty)=false∨zH (t.drop ((t.takeWhile zX).length+1))=0):iN l=none:=by
 unfold iN;rw[a];simp only[];rw[uJ (by rw[b];simp),uJ (fun e=>by have:=vP List.length e;simp at this;omega),uL c]
theorem ZmV {l t:List UInt8}{neg:Bool}(a:zQ l=(neg,t))(b:(((t.takeWhile zX)).all zU && !(t.takeWhile zX).isEmpty)=true)(d:(t.takeWhile zX).length<t.length)(c:((t.drop ((t.takeWhile zX).length+1)).all zU && !(t.drop ((t.takeWhile zX).length+1)).isEmpty)=true)(h3:zH (t.drop ((t.takeWhile zX).length+1))≠0) :
 iN l=if xA (Rat.divInt (sg neg (zH (t.takeWhile zX))) (zH (t.drop ((t.takeWhile zX).length+1)):Int))=l then some (Rat.divInt (sg neg (zH (t.takeWhile zX))) (zH (t.drop ((t.takeWhile zX).length+1)):Int)) else none:=by
 unfold iN;rw[a];simp only[];rw[uJ (by rw[b];simp),uJ (fun e=>by have:=vP List.length e;simp at this;omega),uJ (fun e=>e.elim (fun e=>by rw[c] at e;cases e) h3)]
theorem Zhy {x:List UInt8}{s:ByteArray}:((⟨x.toArray⟩:ByteArray).toList == s.toList)=decide (x=bytes s):=by
 rw[Lib.toList_data,Lib.toList_data]
 by_cases h:x=bytes s
 ·rw[uW h];simp[h]
 rw[vF h];simpa using h
theorem ZlP {t:ByteArray}(h:(bytes t).all zU=true):zH (bytes t)<10^t.size:=by
 have:=lR _ h
 rwa [zP] at this
theorem Zbh {neg:Bool}{n:Nat}:(sg neg n).natAbs=n:=by cases neg<;>simp[sg]
theorem Zj0 {s:ByteArray}(h:¬ bytes s=[]):∃ c,(bytes s).head? = some c∧s[0]? = some c:=by
 obtain⟨a,_⟩:=Zaq h
 exact⟨s[0],ZaT a,by simp[a]⟩
theorem ZfM {s:ByteArray}(h:¬ bytes s=[]):1≤s.size:=(Zaq h).1
theorem Zj1 {s:ByteArray}{c:UInt8}(h:(bytes s).head? = some c)(a:c=45):zQ (bytes s)=(true,bytes (s.extract 1 s.size)):=by
 unfold zQ
 rw[h,a,uL rfl,lX,uA (by rw[vZ,zP];exact uM _),List.drop_one]
theorem Zla {s:ByteArray}{c:UInt8}(h:(bytes s).head? = some c)(a:¬ c=45):zQ (bytes s)=(false,bytes s):=by
 unfold zQ
 rw[h,uJ (by simpa using a)]
theorem Zp4 {c b:UInt8}(h:c=b):((c.toNat:Int) == (b.toNat:Int))=true:=by subst h;simp
theorem Zp5 {c b:UInt8}(h:¬ c=b):((c.toNat:Int) == (b.toNat:Int))=false:=by
 have:c.toNat≠b.toNat:=fun e=>h (UInt8.toNat_inj.1 e)
 simp;omega
theorem ZrK {a b:Nat}(h:a<b):decide (((a:Nat):Int)<((b:Nat):Int))=true:=uW (by omega)
theorem ZqO {a b:Nat}(h:¬ a<b):decide (((a:Nat):Int)<((b:Nat):Int))=false:=vF (by omega)
theorem Zer {a:Nat}(h:a≤140737488351232):IntKind.i64.wrap (((a:Nat):Int)+1)=((a+1:Nat):Int):=by rw[IntKind.wrap_i64];omega
theorem ZpA {n:Nat}(h:n=0):(((n:Int).sign:Int) == 0)=true:=by subst h;rfl
theorem Zog {n:Nat}(h:¬ n=0):(((n:Int).sign:Int) == 0)=false:=by
 rw[rH];exact fun e=>h (by have:=Int.sign_eq_zero_iff_zero.1 e;omega)
theorem ZlQ {w w':World}{e:Ending}{l:List UInt8}(h:ZgJ w l e w')(f:l.all zU=true)(a:l≠[]):kM (fun x:ShI=>.tuple #[xW x,.bool true]) (fun x w=>zZ w (xW x) (zH l:Int)) w e w':=by
 obtain⟨v,b,rfl,rfl,d,Q⟩:=h
 rw[uL f] at d
 obtain⟨s,A,g,c,rfl⟩:=d.shp
 refine⟨(s,A,g,c),?_,Q,boxn Q (fun S i j k=>d.nrb j k)⟩
 rw[f,show l.isEmpty=false by simpa using a];rfl
theorem Zbi {P:Program}{o:Oper}{ρ:Operand→Value}{w:World}{t:TypeId}{x i:Operand}{b:ByteArray}{k:Nat}{c:UInt8}(a:o.op=Op.index t x i)(d:P.underlying t=some .string)(e:ρ x=.string b)(hi:ρ i=.int .i64 (k:Int))(f:b[k]? = some c):(execOp ρ o).run P w=.ok (.value (.int .u8 (c.toNat:Int))) w:=by
 simp[execOp,a,Instr.index,asIntOf,underlying,d,e,hi,f,Result.andThen]
theorem Zj2 {w w':World}{e:Ending}{l:List UInt8}(h:ZgJ w l e w')(a:¬ (l.all zU && !l.isEmpty)=true):kM (fun x:ShI=>.tuple #[xW x,.bool false]) (fun _ _=>True) w e w':=by
 obtain⟨v,b,rfl,rfl,d,Q⟩:=h
 obtain⟨s,A,f,c,rfl⟩:=d.shp
 exact⟨(s,A,f,c),by rw[vK.2 a];rfl,Q,BoxN.pure trivial⟩
theorem Zin {l:List UInt8}(h:(l.all zU && !l.isEmpty)=true):l.all zU=true∧l≠[]:=by
 rw[sL] at h
 exact⟨h.1,fun e=>by rw[e] at h;simp at h⟩
theorem zT.whole {w:World}{s:Bool}{A:Option Addr}{l c:Nat}{z:Int}(h:zZ w (.agg #[.bool s,.slice A l c]) z):zT w (.agg #[.bool s,.slice A l c,.bool false,.slice none 0 0]) ((z:Int):Rat) :=
 zT.of h (by rw[kY (by rfl)];exact zZ.nil _)
theorem ZrL {n k:Nat}(h:n<10^k)(a:k≤140737488351232):wG ((n:Nat):Int):=by
 have:=ZeR h
 unfold wG
 rw[vS];omega
theorem ZqP {s:Bool}{n k:Nat}(h:n<10^k)(a:k≤140737488351232):wG (sg s n):=by
 have:=ZeR h
 unfold wG
 rw[Zbh];omega
theorem ZlR {x y:Int}{a b j:Nat}(c:y≠0)(d:x.natAbs<a)(e:y.natAbs<b)(f:j≤140737488351232){k:Nat}(g:k≤140737488351232):((Rat.divInt x y).num.natAbs<a∧j≤140737488355000)∧((Rat.divInt x y).den<b∧k≤140737488355000):=by
 refine⟨⟨vE ?_ d,by omega⟩,vE ?_ e,by omega⟩
 ·rw[Rat.num_divInt,Int.natAbs_ediv_of_dvd]
  ·refine uE (uZ _ _) ?_
   rw[tE]
   rcases Int.lt_or_gt_of_ne c with h|h
   ·rw[qC h];simp
   rw[sR h];simp
  exact Int.dvd_mul_of_dvd_right (Int.gcd_dvd_right _ _)
 rw[Rat.den_divInt,uJ c]
 exact uZ _ _
theorem ZmW {n:Nat}(h:¬ n=0):((n:Nat):Int)≠0:=by omega
theorem ZqQ:(1:Nat)<10^1∧1≤140737488355000:=by decide
theorem ZqR {t:ByteArray}{i:Nat}{c:UInt8}(e:((bytes t).take i).all zX=true)(hc:t[i]? = some c)(h:¬ c=47):((bytes t).take (i+1)).all zX=true:=by
 have b:i<t.size:=by
  rcases vJ i t.size with d|d
  ·exact d
  rw[getElem?_neg t i (by omega)] at hc;cases hc
 have a:t[i]=c:=by
  rw[getElem?_pos t i b] at hc;exact qT hc
 rw[ZaS t i b,rY,e,a]
 simp[zX,h]
theorem ZrM {t:ByteArray}{i:Nat}{c:UInt8}(e:((bytes t).take i).all zX=true)(d:t[i]? = some c)(h:c=47)(hi:i≤t.size):i=((bytes t).takeWhile zX).length:=by
 refine ZdI e (fun a=>?_) (by rw[zP];exact hi)
 have b:i<t.size:=by rw[←zP];exact a
 rw[getElem?_pos t i b] at d
 have:(bytes t)[i]=47:=(qT d).trans h
 rw[this];rfl
theorem ZrN {t:ByteArray}(a:((bytes t).take t.size).all zX=true):t.size=((bytes t).takeWhile zX).length :=
 ZdI a (fun h=>by rw[zP] at h;omega) (by rw[zP];exact uM _)
theorem gK (s:ByteArray)(w:World)(hs:s.size≤140737488351232) :
 yA 18 #[.string s] w (ZfL w (bytes s)):=by
 refine zV (Φ:=fun w=>True) Tryz.func18 rfl (by kernel_rfl) (fun w' hf=>trivial) ?_
 refine zC (zB (xr 2 [yT 0 s,(2,.p 2 0),yB 3 false] [bR4 2 34 false none 0 0 false none 0 0] ?_))
 refine xe (zA (zC (zB (xr 2 [yT 0 s,(2,.p 2 0),yB 3 false,yT 4 s] [bR4 2 34 false none 0 0 false none 0 0] ?_))))
 refine xe (zA ?_)
 refine ZbQ (fun F G=>∃ (b:Bool),F=ofL [yT 0 s,(2,.p 2 0),yB 3 false,yT 4 s,yB 5 b] [(2,34,[.v (.bool false),.v (.slice none 0 0),.v (.bool false),.v (.slice none 0 0)])]∧G=(fun w=>True)∧((b=true→zQ (bytes s)=(true,bytes (s.extract 1 s.size))∧1≤s.size)∧(b=false→zQ (bytes s)=(false,bytes s)))) ?_ ?_
 ·by_cases he:bytes s=[]
  ·have k0:s.size=0:=by rw[←zP,he];rfl
   refine zB (xr 3 [yT 0 s,(2,.p 2 0),yB 3 false,yT 4 s,yB 16 (decide (((s).size:Int)>0))] [bR4 2 34 false none 0 0 false none 0 0] ?_)
   rw[(show decide (((s).size:Int)>0)=false from vF (by omega))]
   refine xr 6 [yT 0 s,(2,.p 2 0),yB 3 false,yT 4 s,yB 5 false] [bR4 2 34 false none 0 0 false none 0 0] ?_
   refine xe ?_
   refine yP [yT 0 s,(2,.p 2 0),yB 3 false,yT 4 s,yB 5 false] [(2,34,[.v (.bool false),.v (.slice none 0 0),.v (.bool false),.v (.slice none 0 0)])] (fun w=>True) (fun w Q=>trivial) ?_
   exact jB ⟨false,rfl,rfl,⟨fun h=>(by cases h),fun _=>(by unfold zQ;rw[he];rfl)⟩⟩
  obtain⟨P,h0,e0⟩:=Zj0 he
  have k0:=ZfM he
  by_cases hm:P=45
  ·refine zB (xr 3 [yT 0 s,(2,.p 2 0),yB 3 false,yT 4 s,yB 16 (decide (((s).size:Int)>0))] [bR4 2 34 false none 0 0 false none 0 0] ?_)
   rw[(show decide (((s).size:Int)>0)=true from uW (by omega))]
   refine xr 2 [yT 0 s,(2,.p 2 0),yB 3 false,yT 4 s,yB 17 true,yT 18 s] [bR4 2 34 false none 0 0 false none 0 0] ?_
   refine yK 19 (.int .u8 (P.toNat:Int)) (fun w R Q=>Zbi (t:=9) (x:=.tmp 18) (k:=0) (i:=.const (.int .i64 0)) (by kernel_rfl) (by kernel_rfl) (by kernel_rfl) (by rfl) e0) ?_
   refine xr 1 [yT 0 s,(2,.p 2 0),yB 3 false,yT 4 s,yB 17 true,yB 20 (((P.toNat:Int):Int) == 45)] [bR4 2 34 false none 0 0 false none 0 0] ?_
   rw[(show ((P.toNat:Int) == 45)=true from Zp4 hm)]
   refine xr 2 [yT 0 s,(2,.p 2 0),yB 3 false,yT 4 s,yB 5 true] [bR4 2 34 false none 0 0 false none 0 0] ?_
   refine xe ?_
   refine yP [yT 0 s,(2,.p 2 0),yB 3 false,yT 4 s,yB 5 true] [(2,34,[.v (.bool false),.v (.slice none 0 0),.v (.bool false),.v (.slice none 0 0)])] (fun w=>True) (fun w Q=>trivial) ?_
   exact jB ⟨true,rfl,rfl,⟨fun _=>⟨Zj1 h0 hm,ZfM he⟩,fun h=>(by cases h)⟩⟩
  refine zB (xr 3 [yT 0 s,(2,.p 2 0),yB 3 false,yT 4 s,yB 16 (decide (((s).size:Int)>0))] [bR4 2 34 false none 0 0 false none 0 0] ?_)
  rw[(show decide (((s).size:Int)>0)=true from uW (by omega))]
  refine xr 2 [yT 0 s,(2,.p 2 0),yB 3 false,yT 4 s,yB 17 true,yT 18 s] [bR4 2 34 false none 0 0 false none 0 0] ?_
  refine yK 19 (.int .u8 (P.toNat:Int)) (fun w R Q=>Zbi (t:=9) (x:=.tmp 18) (k:=0) (i:=.const (.int .i64 0)) (by kernel_rfl) (by kernel_rfl) (by kernel_rfl) (by rfl) e0) ?_
  refine xr 1 [yT 0 s,(2,.p 2 0),yB 3 false,yT 4 s,yB 17 true,yB 20 (((P.toNat:Int):Int) == 45)] [bR4 2 34 false none 0 0 false none 0 0] ?_
  rw[(show ((P.toNat:Int) == 45)=false from Zp5 (b:=45) hm)]
  refine xr 2 [yT 0 s,(2,.p 2 0),yB 3 false,yT 4 s,yB 5 false] [bR4 2 34 false none 0 0 false none 0 0] ?_
  refine xe ?_
  refine yP [yT 0 s,(2,.p 2 0),yB 3 false,yT 4 s,yB 5 false] [(2,34,[.v (.bool false),.v (.slice none 0 0),.v (.bool false),.v (.slice none 0 0)])] (fun w=>True) (fun w Q=>trivial) ?_
  exact jB ⟨false,rfl,rfl,⟨fun h=>(by cases h),fun _=>Zla h0 hm⟩⟩
 rintro F G ⟨b,rfl,rfl,HB⟩
 refine ZbQ (fun F G=>∃ (t:ByteArray) (l:Bool),F=ofL [yT 0 s,(2,.p 2 0),yB 3 false,yT 4 t,yB 5 l] [(2,34,[.v (.bool false),.v (.slice none 0 0),.v (.bool false),.v (.slice none 0 0)])]∧G=(fun w=>True)∧(zQ (bytes s)=(l,bytes t))∧(t.size≤140737488351232)) ?_ ?_
 ·refine zC (zB (xr 1 [yT 0 s,(2,.p 2 0),yB 3 false,yT 4 s,yB 5 b,yB 22 b] [bR4 2 34 false none 0 0 false none 0 0] ?_))
  refine xe (zA ?_)
  refine yQ (b) (fun H=>?_) fun H=>?_
  ·have I:=H
   obtain⟨f0,l0⟩:=HB.1 I
   obtain⟨t,ht⟩:=yE (s.extract 1 s.size)
   rw[ht] at f0
   have lt:t.size≤140737488351232:=by rw[←ht,rE];omega
   refine zB (xr 1 [yT 0 s,(2,.p 2 0),yB 3 false,yT 4 s,yB 5 b,yT 23 s] [bR4 2 34 false none 0 0 false none 0 0] ?_)
   refine yK 24 (.string t) (fun w R Q=>gU 1 _ (t:=9) (x:=.tmp 23) (lo:=(some (Operand.const (Value.int IntKind.i64 1)))) (hi:=none) (by kernel_rfl) (by kernel_rfl) (by kernel_rfl) (Or.inr rfl) (Or.inl ⟨rfl,rfl⟩) l0 (uM _) ht) ?_
   refine xr 1 [yT 0 s,(2,.p 2 0),yB 3 false,yT 4 t,yB 5 b] [bR4 2 34 false none 0 0 false none 0 0] ?_
   refine xe ?_
   refine yP [yT 0 s,(2,.p 2 0),yB 3 false,yT 4 t,yB 5 b] [(2,34,[.v (.bool false),.v (.slice none 0 0),.v (.bool false),.v (.slice none 0 0)])] (fun w=>True) (fun w Q=>trivial) ?_
   exact jB ⟨t,b,rfl,rfl,(by rw[I];exact f0),lt⟩
  have I:=H
  refine zN ?_
  refine yP [yT 0 s,(2,.p 2 0),yB 3 false,yT 4 s,yB 5 b] [(2,34,[.v (.bool false),.v (.slice none 0 0),.v (.bool false),.v (.slice none 0 0)])] (fun w=>True) (fun w Q=>trivial) ?_
  exact jB ⟨s,b,rfl,rfl,(by rw[I];exact HB.2 I),hs⟩
 rintro F G ⟨t,l,rfl,rfl,HM,lt⟩
 refine zC (zB (xr 3 [yT 0 s,(2,.p 2 0),yB 3 false,yT 4 t,yB 5 l,yJ 6 ((t).size:Int)] [bR4 2 34 false none 0 0 false none 0 0] ?_))
 refine xe (zA ?_)
 refine ZbQ (fun F G=>∃ (p:Nat),F=ofL [yT 0 s,(2,.p 2 0),yB 3 false,yT 4 t,yB 5 l,yJ 6 (p:Int)] [(2,34,[.v (.bool false),.v (.slice none 0 0),.v (.bool false),.v (.slice none 0 0)])]∧G=(fun w=>True)∧(p=((bytes t).takeWhile zX).length)∧(p≤t.size)) ?_ ?_
 ·refine zC (zB (xr 1 [yT 0 s,(2,.p 2 0),yB 3 false,yT 4 t,yB 5 l,yJ 6 ((t).size:Int),yJ 7 0] [bR4 2 34 false none 0 0 false none 0 0] ?_))
  refine xe (zA (xM ?_))
  refine yC [yT 0 s,(2,.p 2 0),yB 3 false,yT 4 t,yB 5 l,yJ 6 ((t).size:Int),yJ 7 ((0:Nat):Int)] [(2,34,[.v (.bool false),.v (.slice none 0 0),.v (.bool false),.v (.slice none 0 0)])] (fun w=>True) (fun w Q=>trivial) ?_
  refine kW (fun nn F G=>∃ (i:Nat),F=ofL [yT 0 s,(2,.p 2 0),yB 3 false,yT 4 t,yB 5 l,yJ 6 ((t).size:Int),yJ 7 (i:Int)] [(2,34,[.v (.bool false),.v (.slice none 0 0),.v (.bool false),.v (.slice none 0 0)])]∧G=(fun w=>True)∧(i≤t.size)∧(((bytes t).take i).all zX=true)∧nn=t.size-i) (t.size-0) ⟨0,rfl,rfl,(rV _),rfl,rfl⟩ ?_
  rintro nn F G ⟨i,rfl,rfl,hi,hI,rfl⟩
  refine zC (zC (zB (xr 4 [yT 0 s,(2,.p 2 0),yB 3 false,yT 4 t,yB 5 l,yJ 6 ((t).size:Int),yJ 7 (i:Int),yB 30 (decide ((i:Int)<((t).size:Int)))] [bR4 2 34 false none 0 0 false none 0 0] ?_)))
  refine xe (zA ?_)
  refine yQ ((decide ((i:Int)<((t).size:Int)))) (fun J=>?_) fun J=>?_
  ·have g0:i<t.size:=by have:=uD J;omega
   obtain⟨c,hc⟩:∃ c,t[i]? = some c:=⟨t[i],by simp[g0]⟩
   refine zN (zA (zC (xM (zC ?_))))
   by_cases L:c=47
   ·refine zB (xr 2 [yT 0 s,(2,.p 2 0),yB 3 false,yT 4 t,yB 5 l,yJ 6 ((t).size:Int),yJ 7 (i:Int),yT 33 t,yJ 34 (i:Int)] [bR4 2 34 false none 0 0 false none 0 0] ?_)
    refine yK 35 (.int .u8 (c.toNat:Int)) (fun w R Q=>Zbi (t:=9) (x:=.tmp 33) (k:=i) (i:=.tmp 34) (by kernel_rfl) (by kernel_rfl) (by kernel_rfl) (by kernel_rfl) hc) ?_
    refine xr 1 [yT 0 s,(2,.p 2 0),yB 3 false,yT 4 t,yB 5 l,yJ 6 ((t).size:Int),yJ 7 (i:Int),yB 36 (((c.toNat:Int):Int) == 47)] [bR4 2 34 false none 0 0 false none 0 0] ?_
    rw[(show ((c.toNat:Int) == 47)=true from Zp4 L)]
    refine xr 0 [yT 0 s,(2,.p 2 0),yB 3 false,yT 4 t,yB 5 l,yJ 6 ((t).size:Int),yJ 7 (i:Int),yB 36 true] [bR4 2 34 false none 0 0 false none 0 0] ?_
    refine xe (zA (xa (zC (zB (xr 2 [yT 0 s,(2,.p 2 0),yB 3 false,yT 4 t,yB 5 l,yJ 6 (i:Int),yJ 7 (i:Int)] [bR4 2 34 false none 0 0 false none 0 0] ?_)))))
    refine xe (zA (lO ?_))
    refine ZcL (by kernel_rfl) ?_
    refine xC (xC (kQ ?_))
    refine yP [yT 0 s,(2,.p 2 0),yB 3 false,yT 4 t,yB 5 l,yJ 6 (i:Int)] [(2,34,[.v (.bool false),.v (.slice none 0 0),.v (.bool false),.v (.slice none 0 0)])] (fun w=>True) (fun w Q=>trivial) ?_
    exact jB ⟨i,rfl,rfl,ZrM hI hc L hi,hi⟩
   refine zB (xr 2 [yT 0 s,(2,.p 2 0),yB 3 false,yT 4 t,yB 5 l,yJ 6 ((t).size:Int),yJ 7 (i:Int),yT 33 t,yJ 34 (i:Int)] [bR4 2 34 false none 0 0 false none 0 0] ?_)
   refine yK 35 (.int .u8 (c.toNat:Int)) (fun w R Q=>Zbi (t:=9) (x:=.tmp 33) (k:=i) (i:=.tmp 34) (by kernel_rfl) (by kernel_rfl) (by kernel_rfl) (by kernel_rfl) hc) ?_
   refine xr 1 [yT 0 s,(2,.p 2 0),yB 3 false,yT 4 t,yB 5 l,yJ 6 ((t).size:Int),yJ 7 (i:Int),yB 36 (((c.toNat:Int):Int) == 47)] [bR4 2 34 false none 0 0 false none 0 0] ?_
   rw[(show ((c.toNat:Int) == 47)=false from Zp5 (b:=47) L)]
   refine xr 0 [yT 0 s,(2,.p 2 0),yB 3 false,yT 4 t,yB 5 l,yJ 6 ((t).size:Int),yJ 7 (i:Int),yB 36 false] [bR4 2 34 false none 0 0 false none 0 0] ?_
   refine xe (zA (xb (zN (lN (zA (zB (xr 2 [yT 0 s,(2,.p 2 0),yB 3 false,yT 4 t,yB 5 l,yJ 6 ((t).size:Int),yJ 7 (i:Int),yJ 32 (IntKind.i64.wrap ((i:Int)+1))] [bR4 2 34 false none 0 0 false none 0 0] ?_)))))))
   rw[Zer (a:=i) (by omega)]
   refine xr 1 [yT 0 s,(2,.p 2 0),yB 3 false,yT 4 t,yB 5 l,yJ 6 ((t).size:Int),yJ 7 ((i+1:Nat):Int)] [bR4 2 34 false none 0 0 false none 0 0] ?_
   refine xe ?_
   refine yP [yT 0 s,(2,.p 2 0),yB 3 false,yT 4 t,yB 5 l,yJ 6 ((t).size:Int),yJ 7 (((i+1):Nat):Int)] [(2,34,[.v (.bool false),.v (.slice none 0 0),.v (.bool false),.v (.slice none 0 0)])] (fun w=>True) (fun w Q=>trivial) ?_
   exact lE (t.size-(i+1)) (by omega) ⟨(i+1),rfl,rfl,g0,ZqR hI hc L,rfl⟩
  have m0:i=t.size:=by have:=uH J;omega
  refine lO (xC (xC (kQ ?_)))
  refine yP [yT 0 s,(2,.p 2 0),yB 3 false,yT 4 t,yB 5 l,yJ 6 ((t.size:Nat):Int)] [(2,34,[.v (.bool false),.v (.slice none 0 0),.v (.bool false),.v (.slice none 0 0)])] (fun w=>True) (fun w Q=>trivial) ?_
  exact jB ⟨t.size,rfl,rfl,ZrN (m0 ▸ hI),(uM _)⟩
 rintro F G ⟨p,rfl,rfl,K,i0⟩
 refine zC ?_
 obtain⟨x,hx⟩:=yE (t.extract 0 p)
 have S:bytes x=(bytes t).takeWhile zX:=by rw[←hx];exact (ZgM K).1
 have lx:x.size≤140737488351232:=uE (by rw[←hx];exact ZgL _ _ _) lt
 by_cases T:((bytes x).all zU && !(bytes x).isEmpty)=true
 ·obtain⟨dx,nx⟩:=Zin T
  have MX:=ZlP dx
  refine zB (xr 2 [yT 0 s,(2,.p 2 0),yB 3 false,yT 4 t,yB 5 l,yJ 6 (p:Int),yT 39 t,yJ 40 (p:Int)] [bR4 2 34 false none 0 0 false none 0 0] ?_)
  refine yK 41 (.string x) (fun w R Q=>gU 0 p (t:=9) (x:=.tmp 39) (lo:=none) (hi:=(some (Operand.tmp 40))) (by kernel_rfl) (by kernel_rfl) (by kernel_rfl) (Or.inl ⟨rfl,rfl⟩) (Or.inr (by kernel_rfl)) (by omega) i0 hx) ?_
  refine xr 0 [yT 0 s,(2,.p 2 0),yB 3 false,yT 4 t,yB 5 l,yJ 6 (p:Int),yT 41 x] [bR4 2 34 false none 0 0 false none 0 0] ?_
  refine xc 60 [.string x] 42 (fun x:ShI=>.tuple #[xW x,.bool true]) _ (fun w R Q=>(dW x _ (by omega)).mono (fun _ _ h=>ZlQ h dx nx)) fun⟨j0,M,N,O⟩=>?_
  refine xr 6 [yT 0 s,(2,.p 2 0),yB 3 false,yT 4 t,yB 5 l,yJ 6 (p:Int),(8,.p 8 0),yB 9 true] [bI2 8 32 j0 M N O,bR4 2 34 false none 0 0 false none 0 0] ?_
  refine xe (zA (zC (zC (zB (xr 2 [yT 0 s,(2,.p 2 0),yB 3 false,yT 4 t,yB 5 l,yJ 6 (p:Int),(8,.p 8 0),yB 46 false] [bI2 8 32 j0 M N O,bR4 2 34 false none 0 0 false none 0 0] ?_)))))
  refine xe (zA (xb (zN (zA (zC (zB (xr 3 [yT 0 s,(2,.p 2 0),yB 3 false,yT 4 t,yJ 6 (p:Int),yB 48 l,eS1 50 M N O] [bR4 2 34 false none 0 0 false none 0 0] ?_)))))))
  refine xc 61 [.bool l,.slice M N O] 51 xW _ (fun w R Q=>(cJ _ _ _ _ Q.2.mag).mono (fun _ _ h=>xQ (by rw[show sg l ((zH (bytes x):Int)).natAbs=sg l (zH (bytes x)) by rw[vS]] at h;exact h))) fun⟨d,e,f,g⟩=>?_
  refine xr 3 [yT 0 s,(2,.p 2 0),yB 3 false,yT 4 t,yJ 6 (p:Int),(10,.p 10 0)] [bR4 10 34 d e f g false none 0 0,bR4 2 34 false none 0 0 false none 0 0] ?_
  refine xe (zA (zC (zC ?_)))
  by_cases hl:p<t.size
  ·obtain⟨q,hq⟩:=yE (t.extract (p+1) t.size)
   have HQ:bytes q=(bytes t).drop (p+1):=by rw[←hq];exact (ZgM K).2
   have lq:q.size≤140737488351232:=uE (by rw[←hq];exact ZgL _ _ _) lt
   refine zB (xr 4 [yT 0 s,(2,.p 2 0),yB 3 false,yT 4 t,yJ 6 (p:Int),(10,.p 10 0),yB 56 (decide ((p:Int)<((t).size:Int)))] [bR4 10 34 d e f g false none 0 0,bR4 2 34 false none 0 0 false none 0 0] ?_)
   rw[ZrK hl]
   refine xr 0 [yT 0 s,(2,.p 2 0),yB 3 false,yT 4 t,yJ 6 (p:Int),(10,.p 10 0),yB 56 true] [bR4 10 34 d e f g false none 0 0,bR4 2 34 false none 0 0 false none 0 0] ?_
   refine xe (zA (xa (zC ?_)))
   by_cases hQ:((bytes q).all zU && !(bytes q).isEmpty)=true
   ·obtain⟨dq,nq⟩:=Zin hQ
    have MQ:=ZlP dq
    refine zB (xr 3 [yT 0 s,(2,.p 2 0),yB 3 false,(10,.p 10 0),yT 58 t,yJ 60 (IntKind.i64.wrap ((p:Int)+1))] [bR4 10 34 d e f g false none 0 0,bR4 2 34 false none 0 0 false none 0 0] ?_)
    rw[Zer (a:=p) (by omega)]
    refine yK 61 (.string q) (fun w R Q=>gU (p+1) _ (t:=9) (x:=.tmp 58) (lo:=(some (Operand.tmp 60))) (hi:=none) (by kernel_rfl) (by kernel_rfl) (by kernel_rfl) (Or.inr (by kernel_rfl)) (Or.inl ⟨rfl,rfl⟩) (by omega) (uM _) hq) ?_
    refine xr 0 [yT 0 s,(2,.p 2 0),yB 3 false,(10,.p 10 0),yT 61 q] [bR4 10 34 d e f g false none 0 0,bR4 2 34 false none 0 0 false none 0 0] ?_
    refine xc 60 [.string q] 62 (fun x:ShI=>.tuple #[xW x,.bool true]) _ (fun w R Q=>(dW q _ (by omega)).mono (fun _ _ h=>ZlQ h dq nq)) fun⟨m,n,o,r⟩=>?_
    refine xr 6 [yT 0 s,(2,.p 2 0),yB 3 false,(10,.p 10 0),(11,.p 11 0),yB 12 true] [bI2 11 32 m n o r,bR4 10 34 d e f g false none 0 0,bR4 2 34 false none 0 0 false none 0 0] ?_
    refine xe (zA (zC (zC ?_)))
    by_cases U:zH (bytes q)=0
    ·refine zB (xr 4 [yT 0 s,(2,.p 2 0),yB 3 false,(10,.p 10 0),(11,.p 11 0),yB 67 false,eI2 68 m n o r] [bI2 11 32 m n o r,bR4 10 34 d e f g false none 0 0,bR4 2 34 false none 0 0 false none 0 0] ?_)
     refine xc 62 [vI2 m n o r] 69 (fun _:Unit=>.int .i64 ((zH (bytes q):Int)).sign) _ (fun w R Q=>yN (Zd6 _ ((zH (bytes q):Int)) _ Q.2)) fun xx=>?_
     refine xr 1 [yT 0 s,(2,.p 2 0),yB 3 false,(10,.p 10 0),(11,.p 11 0),yB 67 false,(70,.v (.bool ((((zH (bytes q):Int)).sign:Int) == 0)))] [bI2 11 32 m n o r,bR4 10 34 d e f g false none 0 0,bR4 2 34 false none 0 0 false none 0 0] ?_
     rw[ZpA U]
     refine xr 1 [yT 0 s,(2,.p 2 0),yB 3 false,(10,.p 10 0),(11,.p 11 0),yB 71 true] [bI2 11 32 m n o r,bR4 10 34 d e f g false none 0 0,bR4 2 34 false none 0 0 false none 0 0] ?_
     refine xe (zA (xa (zC (zB (xr 3 [yT 0 s,(2,.p 2 0),yB 3 false,(10,.p 10 0),(11,.p 11 0)] [bI2 11 32 m n o r,bR4 10 34 d e f g false none 0 0,bR4 2 34 false none 0 0 false none 0 0] ?_)))))
     refine xe (zA (zG (zI (zI ?_))))
     refine yR (.tuple #[.agg #[.bool false,.slice none 0 0,.bool false,.slice none 0 0],.bool false]) fun w' R Q=>?_
     exact⟨_,false,0,rfl,R,zT.nil _,Or.inr ⟨rfl,by rw[←Zds];exact ZgN HM (by rw[←S];exact T) (by rw[←K,zP];exact hl) (by rw[←K,← HQ];exact Or.inr U)⟩⟩
    refine zB (xr 4 [yT 0 s,(2,.p 2 0),yB 3 false,(10,.p 10 0),(11,.p 11 0),yB 67 false,eI2 68 m n o r] [bI2 11 32 m n o r,bR4 10 34 d e f g false none 0 0,bR4 2 34 false none 0 0 false none 0 0] ?_)
    refine xc 62 [vI2 m n o r] 69 (fun _:Unit=>.int .i64 ((zH (bytes q):Int)).sign) _ (fun w R Q=>yN (Zd6 _ ((zH (bytes q):Int)) _ Q.2)) fun xx=>?_
    refine xr 1 [yT 0 s,(2,.p 2 0),yB 3 false,(10,.p 10 0),(11,.p 11 0),yB 67 false,(70,.v (.bool ((((zH (bytes q):Int)).sign:Int) == 0)))] [bI2 11 32 m n o r,bR4 10 34 d e f g false none 0 0,bR4 2 34 false none 0 0 false none 0 0] ?_
    rw[Zog U]
    refine xr 1 [yT 0 s,(2,.p 2 0),yB 3 false,(10,.p 10 0),(11,.p 11 0),yB 71 false] [bI2 11 32 m n o r,bR4 10 34 d e f g false none 0 0,bR4 2 34 false none 0 0 false none 0 0] ?_
    refine xe (zA (xb (zN (zA (zB (xr 3 [yT 0 s,(2,.p 2 0),yB 3 false,(10,.p 10 0),eI2 74 d e f g,eI2 75 m n o r] [bR4 10 34 d e f g false none 0 0,bR4 2 34 false none 0 0 false none 0 0] ?_))))))
    refine xc 23 [vI2 d e f g,vI2 m n o r] 76 xT _ (fun w R Q=>yM xJ (cW _ _ (sg l (zH (bytes x))) ((zH (bytes q):Int)) _ Q.1.1.2 Q.1.2 (ZqP MX lx) (ZrL MQ lq) (ZmW U))) fun⟨u,y,z,A,B,C,D,E⟩=>?_
    refine xr 1 [yT 0 s,(2,.p 2 0),yB 3 false,(10,.p 10 0)] [bR4 10 34 u y z A B C D E,bR4 2 34 false none 0 0 false none 0 0] ?_
    refine xe (zA (zC ?_))
    refine yO 7 zL ?_
    refine xf 2 [yT 0 s,(2,.p 2 0),yB 3 false,eR4 77 u y z A B C D E,eR4 78 u y z A B C D E] [bR4 10 34 u y z A B C D E,bR4 2 34 false none 0 0 false none 0 0] ?_
    refine xd 31 [vR4 u y z A B C D E] 79 (fun _:Unit=>.string ⟨(xA (Rat.divInt (sg l (zH (bytes x))) ((zH (bytes q):Int)))).toArray⟩) _ (fun w R Q=>yN (Zdp _ (Rat.divInt (sg l (zH (bytes x))) ((zH (bytes q):Int))) _ Q.2 x.size q.size (ZlR (k:=q.size) (ZmW U) (by rw[Zbh];exact MX) MQ lx lq).1 (ZlR (j:=x.size) (ZmW U) (by rw[Zbh];exact MX) MQ lx lq).2)) fun xx=>?_
    refine xf 4 [(2,.p 2 0),(3,.v (.bool ((⟨(xA (Rat.divInt (sg l (zH (bytes x))) ((zH (bytes q):Int)))).toArray⟩:ByteArray).toList == (s:ByteArray).toList)))] [bR4 2 34 u y z A B C D E,bR4 10 34 u y z A B C D E,bR4 2 34 false none 0 0 false none 0 0] ?_
    refine xz (xe (zA (zG ?_)))
    refine yR (.tuple #[.agg #[.bool u,.slice y z A,.bool B,.slice C D E],.bool ((⟨(xA (Rat.divInt (sg l (zH (bytes x))) ((zH (bytes q):Int)))).toArray⟩:ByteArray).toList == (s:ByteArray).toList)]) fun w' R Q=>?_
    exact⟨_,_,_,rfl,R,Q.1.2,ZjZ (by rw[ZmV HM (by rw[←S];exact T) (by rw[←K,zP];exact hl) (by rw[←K,← HQ];exact hQ) (by rw[←K,← HQ];exact U),← K,← HQ,← S]) Zhy⟩
   refine zB (xr 3 [yT 0 s,(2,.p 2 0),yB 3 false,(10,.p 10 0),yT 58 t,yJ 60 (IntKind.i64.wrap ((p:Int)+1))] [bR4 10 34 d e f g false none 0 0,bR4 2 34 false none 0 0 false none 0 0] ?_)
   rw[Zer (a:=p) (by omega)]
   refine yK 61 (.string q) (fun w R Q=>gU (p+1) _ (t:=9) (x:=.tmp 58) (lo:=(some (Operand.tmp 60))) (hi:=none) (by kernel_rfl) (by kernel_rfl) (by kernel_rfl) (Or.inr (by kernel_rfl)) (Or.inl ⟨rfl,rfl⟩) (by omega) (uM _) hq) ?_
   refine xr 0 [yT 0 s,(2,.p 2 0),yB 3 false,(10,.p 10 0),yT 61 q] [bR4 10 34 d e f g false none 0 0,bR4 2 34 false none 0 0 false none 0 0] ?_
   refine xc 60 [.string q] 62 (fun x:ShI=>.tuple #[xW x,.bool false]) _ (fun w R Q=>(dW q _ (by omega)).mono (fun _ _ h=>Zj2 h hQ)) fun⟨V,W,X,Y⟩=>?_
   refine xr 6 [yT 0 s,(2,.p 2 0),yB 3 false,(10,.p 10 0),(11,.p 11 0),yB 12 false] [bI2 11 32 V W X Y,bR4 10 34 d e f g false none 0 0,bR4 2 34 false none 0 0 false none 0 0] ?_
   refine xe (zA (zC (zC (zB (xr 7 [yT 0 s,(2,.p 2 0),yB 3 false,(10,.p 10 0),(11,.p 11 0),yB 71 true] [bI2 11 32 V W X Y,bR4 10 34 d e f g false none 0 0,bR4 2 34 false none 0 0 false none 0 0] ?_)))))
   refine xe (zA (xa (zC (zB (xr 3 [yT 0 s,(2,.p 2 0),yB 3 false,(10,.p 10 0),(11,.p 11 0)] [bI2 11 32 V W X Y,bR4 10 34 d e f g false none 0 0,bR4 2 34 false none 0 0 false none 0 0] ?_)))))
   refine xe (zA (zG (zI (zI ?_))))
   refine yR (.tuple #[.agg #[.bool false,.slice none 0 0,.bool false,.slice none 0 0],.bool false]) fun w' R Q=>?_
   exact⟨_,false,0,rfl,R,zT.nil _,Or.inr ⟨rfl,by rw[←Zds];exact ZgN HM (by rw[←S];exact T) (by rw[←K,zP];exact hl) (by rw[←K,← HQ];exact Or.inl (vK.2 hQ))⟩⟩
  refine zB (xr 4 [yT 0 s,(2,.p 2 0),yB 3 false,yT 4 t,yJ 6 (p:Int),(10,.p 10 0),yB 56 (decide ((p:Int)<((t).size:Int)))] [bR4 10 34 d e f g false none 0 0,bR4 2 34 false none 0 0 false none 0 0] ?_)
  rw[ZqO hl]
  refine xr 0 [yT 0 s,(2,.p 2 0),yB 3 false,yT 4 t,yJ 6 (p:Int),(10,.p 10 0),yB 56 false] [bR4 10 34 d e f g false none 0 0,bR4 2 34 false none 0 0 false none 0 0] ?_
  refine xe (zA (xb (zN (zA (zC ?_)))))
  refine yO 7 zL ?_
  refine xf 2 [yT 0 s,(2,.p 2 0),yB 3 false,eR4 77 d e f g false none 0 0,eR4 78 d e f g false none 0 0] [bR4 10 34 d e f g false none 0 0,bR4 2 34 false none 0 0 false none 0 0] ?_
  refine xd 31 [vR4 d e f g false none 0 0] 79 (fun _:Unit=>.string ⟨(xA (((sg l (zH (bytes x)):Int):Rat))).toArray⟩) _ (fun w R Q=>yN (Zdp _ (((sg l (zH (bytes x)):Int):Rat)) _ (zT.whole Q.2) x.size 1 ⟨by show (sg l (zH (bytes x))).natAbs<_;rw[Zbh];exact MX,by omega⟩ ZqQ)) fun xx=>?_
  refine xf 4 [(2,.p 2 0),(3,.v (.bool ((⟨(xA (((sg l (zH (bytes x)):Int):Rat))).toArray⟩:ByteArray).toList == (s:ByteArray).toList)))] [bR4 2 34 d e f g false none 0 0,bR4 10 34 d e f g false none 0 0,bR4 2 34 false none 0 0 false none 0 0] ?_
  refine xz (xe (zA (zG ?_)))
  refine zE (v:=.tuple #[.agg #[.bool d,.slice e f g,.bool false,.slice none 0 0],.bool ((⟨(xA (((sg l (zH (bytes x)):Int):Rat))).toArray⟩:ByteArray).toList == (s:ByteArray).toList)]) (by kernel_rfl) fun w' R Q=>?_
  exact⟨_,_,_,rfl,R,(zT.whole Q.1.2),ZjZ (by rw[Zk9 HM (by rw[←S];exact T) (by rw[←K,zP];omega),← S]) Zhy⟩
 refine zB (xr 2 [yT 0 s,(2,.p 2 0),yB 3 false,yT 4 t,yB 5 l,yJ 6 (p:Int),yT 39 t,yJ 40 (p:Int)] [bR4 2 34 false none 0 0 false none 0 0] ?_)
 refine yK 41 (.string x) (fun w R Q=>gU 0 p (t:=9) (x:=.tmp 39) (lo:=none) (hi:=(some (Operand.tmp 40))) (by kernel_rfl) (by kernel_rfl) (by kernel_rfl) (Or.inl ⟨rfl,rfl⟩) (Or.inr (by kernel_rfl)) (by omega) i0 hx) ?_
 refine xr 0 [yT 0 s,(2,.p 2 0),yB 3 false,yT 4 t,yB 5 l,yJ 6 (p:Int),yT 41 x] [bR4 2 34 false none 0 0 false none 0 0] ?_
 refine xc 60 [.string x] 42 (fun x:ShI=>.tuple #[xW x,.bool false]) _ (fun w R Q=>(dW x _ (by omega)).mono (fun _ _ h=>Zj2 h T)) fun⟨Z,a0,b0,d0⟩=>?_
 refine xr 6 [yT 0 s,(2,.p 2 0),yB 3 false,yT 4 t,yB 5 l,yJ 6 (p:Int),(8,.p 8 0),yB 9 false] [bI2 8 32 Z a0 b0 d0,bR4 2 34 false none 0 0 false none 0 0] ?_
 refine xe (zA (zC (zC (zB (xr 2 [yT 0 s,(2,.p 2 0),yB 3 false,yT 4 t,yB 5 l,yJ 6 (p:Int),(8,.p 8 0),yB 46 true] [bI2 8 32 Z a0 b0 d0,bR4 2 34 false none 0 0 false none 0 0] ?_)))))
 refine xe (zA (xa (zC (zB (xr 3 [yT 0 s,(2,.p 2 0),yB 3 false,yT 4 t,yB 5 l,yJ 6 (p:Int),(8,.p 8 0)] [bI2 8 32 Z a0 b0 d0,bR4 2 34 false none 0 0 false none 0 0] ?_)))))
 refine xe (zA (zG (zI ?_)))
 refine yR (.tuple #[.agg #[.bool false,.slice none 0 0,.bool false,.slice none 0 0],.bool false]) fun w' R Q=>?_
 exact⟨_,false,0,rfl,R,zT.nil _,Or.inr ⟨rfl,by rw[←Zds];exact ZmU HM (by rw[←S];exact vK.2 T)⟩⟩
theorem ZqS {α:Type}(o:Option α):o=none∨∃ x,o=some x:=by cases o;exact Or.inl rfl;exact Or.inr ⟨_,rfl⟩
section
variable {w w':World} {e:Ending} {l:List UInt8}
theorem fN (h:ZfL w l e w')(b:xS l=none):kM (fun x:ShQ=>.tuple #[xT x,.bool false]) (fun x w=>∃ q,zT w (xT x) q) w e w':=by
 obtain⟨v,ok,q,rfl,Q,a,⟨rfl,h1⟩|⟨rfl,h1⟩⟩:=h
 ·rw[b] at h1;cases h1
 obtain⟨s,A,l,c,t,B,m,d,rfl⟩:=a.shp
 exact⟨(s,A,l,c,t,B,m,d),rfl,Q,boxn Q (fun S f g i=>⟨q,a.nrb g i⟩)⟩
theorem fO {q:Rat}(h:ZfL w l e w')(a:xS l=some q):kM (fun x:ShQ=>.tuple #[xT x,.bool true]) (fun x w=>zT w (xT x) q) w e w':=by
 obtain⟨v,ok,j,rfl,Q,b,⟨rfl,h1⟩|⟨rfl,h1⟩⟩:=h
 ·rw[a] at h1;injection h1 with h1;subst h1
  obtain⟨s,A,l,c,t,B,m,d,rfl⟩:=b.shp
  exact⟨(s,A,l,c,t,B,m,d),rfl,Q,boxn Q (fun S f g i=>b.nrb g i)⟩
 rw[a] at h1;cases h1
end
theorem aG (s:ByteArray)(w:World)(v:s.size≤65536) :
 yA 21 #[.string s] w (wM w (valF (bytes s))):=by
 refine zV (Φ:=fun w=>True) Tryz.func21 rfl (by kernel_rfl) (fun w' y=>trivial) ?_
 refine zC (zB (xr 1 [yT 0 s,(2,.p 2 0)] [bR4 2 34 false none 0 0 false none 0 0] ?_))
 refine xe (zA (zC (zB (xr 1 [(2,.p 2 0),yT 6 s] [bR4 2 34 false none 0 0 false none 0 0] ?_))))
 rcases ZqS (xS (bytes s)) with u|⟨q,u⟩
 ·refine xc 18 [.string s] 7 (fun x:ShQ=>.tuple #[xT x,.bool false]) _ (fun w R Q=>(gK s _ (by omega)).mono (fun _ _ h=>fN h u)) fun⟨j,k,l,m,n,o,r,t⟩=>?_
  refine xr 6 [(2,.p 2 0),(3,.p 3 0),yB 4 false] [bR4 3 34 j k l m n o r t,bR4 2 34 false none 0 0 false none 0 0] ?_
  refine xe (zA (zC (zC (zB (xr 2 [(2,.p 2 0),(3,.p 3 0),yB 11 true] [bR4 3 34 j k l m n o r t,bR4 2 34 false none 0 0 false none 0 0] ?_)))))
  refine xe (zA (xa (zC (zB (xr 2 [(2,.p 2 0),(3,.p 3 0)] [bR4 3 34 j k l m n o r t,bR4 2 34 false none 0 0 false none 0 0] ?_)))))
  refine xe (zA (zG (zI ?_)))
  refine yR (.agg #[.bool false,.slice none 0 0,.bool false,.slice none 0 0]) fun w' R Q=>?_
  exact⟨_,rfl,by rw[Zih u];exact zT.nil _,R⟩
 refine xc 18 [.string s] 7 (fun x:ShQ=>.tuple #[xT x,.bool true]) _ (fun w R Q=>(gK s _ (by omega)).mono (fun _ _ h=>fO h u)) fun⟨a,b,c,d,e,f,g,i⟩=>?_
 refine xr 6 [(2,.p 2 0),(3,.p 3 0),yB 4 true] [bR4 3 34 a b c d e f g i,bR4 2 34 false none 0 0 false none 0 0] ?_
 refine xe (zA (zC (zC (zB (xr 2 [(2,.p 2 0),(3,.p 3 0),yB 11 false] [bR4 3 34 a b c d e f g i,bR4 2 34 false none 0 0 false none 0 0] ?_)))))
 refine xe (zA (xb (zN (zA (zC (zB (xr 2 [(2,.p 2 0)] [bR4 2 34 a b c d e f g i] ?_)))))))
 refine xe (zA (zG ?_))
 refine yR (.agg #[.bool a,.slice b c d,.bool e,.slice f g i]) fun w' R Q=>?_
 exact⟨_,rfl,by rw[cU u];exact Q.2,R⟩
end Go.Proofs.YtklpdkpcocnglaaGreatDoor
