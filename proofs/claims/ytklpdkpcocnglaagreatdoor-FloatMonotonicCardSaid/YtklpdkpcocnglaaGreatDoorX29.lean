/-
 My texts FmoL put together.
-/
import Derived.Test.YtklpdkpcocnglaaGreatDoorX22
import Derived.Test.YtklpdkpcocnglaaGreatDoorX23
import Derived.Test.YtklpdkpcocnglaaGreatDoorX26
set_option maxRecDepth 100000
set_option maxHeartbeats 8000000
namespace Go.Proofs.YtklpdkpcocnglaaGreatDoor
open Go.RowKit
theorem ZeC {l:List UInt8}{v:Rat}{n a d:Nat}(b:xS l=some v)(ha:blen v.num.natAbs≤a)(i:blen v.den≤d)(c:a≤4000)(f:d≤4000)(j:8≤n)(k:n≤150) :
 ∃ z x,frT (kJ l n)=Lib.itoa z∧frE (kJ l n)=x∧(kJ l n).err=0∧RF v n z x ∧ -(d+n+2:Int)≤x∧x≤a+2:=by
 obtain⟨z,x,h,m,o,p,q⟩:=ZpL j k ha i c f
 have r:kJ l n=rndF v n:=by
  unfold kJ
  rw[uL (by rw[b];rfl),uL (by omega),cU b]
  rfl
 have g:(rndF v n).err=0:=by rw[h]
 have s:(rndF v n).e=x:=by rw[h]
 rw[r]
 exact⟨z,x,by rw[Zr2 g,m],by rw[Zr3 g,s],g,o,p,q⟩
theorem Zdz {l:List UInt8}{v:Rat}{n k:Nat}(a:xS l=some v)(d:l.length≤k)(b:1≤k)(j:k≤570)(e:8≤n)(f:n≤150) :
 ∃ z x,frT (kJ l n)=Lib.itoa z∧frE (kJ l n)=x∧(kJ l n).err=0∧RF v n z x ∧ -(4*k+160:Int)≤x∧x≤4*k+160:=by
 have c:=Za1 a d b
 obtain⟨z,x,g,h,i,e4,m,o⟩:=ZeC a (Zos c.1) (Zos c.2) (by omega) (by omega) e f
 exact⟨z,x,g,h,i,e4,by omega,by omega⟩
theorem Zlh {v:Rat}{n:Nat}{z x:Int}(h:RF v n z x)(g:8≤n)(c:n≤150)(a : -1000≤x)(b:x≤1000) :
 frT (kJ (exT (Lib.itoa z) x) n)=Lib.itoa z∧frE (kJ (exT (Lib.itoa z) x) n)=x∧(kJ (exT (Lib.itoa z) x) n).err=0:=by
 obtain⟨m,y,d,e,i,f,_⟩:=Zdz (k:=500) h.read (h.len c a b) (by decide) (by decide) g c
 rw[gW] at f
 obtain⟨j,l⟩:=RF.again (by omega) h f
 rw[j] at d
 rw[l] at e
 exact⟨d,e,i⟩
theorem Zr6 {p q:Rat}{n m:Nat}{z x z' y:Int}(h:RF p n z x)(k:RF q m z' y):cmpL (Lib.itoa z) (Lib.itoa z') x y=cmpZ z x z' y:=by
 rw[Zou,show zfl (Lib.itoa z) x=z by unfold zfl;rw[uL h.fv,lV],show efl (Lib.itoa z) x=x by unfold efl;rw[uL h.fv],
  show zfl (Lib.itoa z') y=z' by unfold zfl;rw[uL k.fv,lV],show efl (Lib.itoa z') y=y by unfold efl;rw[uL k.fv]]
theorem ZoK {l a:List UInt8}{p q:Rat}(h:xS l=some p)(b:xS a=some q)(e:p=q):l=a:=by
 rw[←gV h,← gV b,e]
theorem ZoL {z z':Int}(e:Lib.itoa z=Lib.itoa z'):z=z':=by rw[←lV z,e,lV]
theorem Zsk {l a:List UInt8}{p q:Rat}{n:Int}{z x z' y:Int}(h:xS l=some p)(b:xS a=some q)(c:frT (kJ l n)=Lib.itoa z)(d:frE (kJ l n)=x)(f:frT (kJ a n)=Lib.itoa z')(g:frE (kJ a n)=y)(e:p=q):z=z'∧x=y:=by
 have:=ZoK h b e
 subst this
 exact⟨ZoL (c.symm.trans f),d.symm.trans g⟩
theorem ZoM {v:Rat}{n:Nat}{z x:Int}(h:RF v n z x)(a:n≤64):(Lib.itoa z).length≤30:=by
 have c:=jA (z:=z) (k:=1) (uE h.b (by omega))
 omega
theorem ZeD (s t:ByteArray)(b:Int)(w:World)(hg:Glob w)(hs:s.size≤140737488351232)(ht:t.size≤140737488351232) :
 yA 8 #[.string s,.string t,.int .i64 b] w (RetV w (.bool true)):=by
 refine zV (Φ:=fun w=>Glob w) Tryz.func8 rfl (by kernel_rfl) (fun w' hf=>hg.ext hf) ?_
 refine zC (zB (xq 1 [yB 6 false] [] ?_))
 refine xe (zA (zC ?_))
 by_cases hv:(xS (bytes s)).isSome=true
 ·obtain⟨p,e⟩:=tP.1 hv
  refine zB (xq 1 [yT 19 s] [] ?_)
  refine xqc 18 [.string s] 20 (fun x:ShQ=>.tuple #[xT x,.bool true]) _ (fun w R Q=>(gK s _ hs).mono (fun _ _ h=>fO h e)) fun⟨z,A,B,C,D,E,F,G⟩=>?_
  refine xq 6 [(7,.p 7 0),yB 8 true] [bR4 7 34 z A B C D E F G] ?_
  refine xe (zA (zC ?_))
  by_cases j:(xS (bytes t)).isSome=true
  ·obtain⟨q,a⟩:=tP.1 j
   refine zB (xq 1 [yT 24 t] [] ?_)
   refine xqc 18 [.string t] 25 (fun x:ShQ=>.tuple #[xT x,.bool true]) _ (fun w R Q=>(gK t _ ht).mono (fun _ _ h=>fO h a)) fun⟨H,I,J,K,L,M,N,O⟩=>?_
   refine xq 6 [(9,.p 9 0),yB 10 true] [bR4 9 34 H I J K L M N O] ?_
   refine xe (zA (zC (zC (zB (xq 12 [yB 34 false,yJ 39 (IntKind.i64.wrap (((s).size:Int)+((t).size:Int)))] [] ?_)))))
   rw[yW (((s).size:Int)+((t).size:Int)) (((s.size+t.size:Nat):Int)) (by omega)]
   refine xq 2 [yB 41 (decide (((s.size+t.size:Nat):Int)>200))] [] ?_
   refine xe (zA ?_)
   refine yQ ((decide (((s.size+t.size:Nat):Int)>200))) (fun r=>?_) fun r=>?_
   ·have P:=uD r
    refine zC (zB ?_)
    refine xqc 14 [] 42 (fun _:Unit=>.bool true) _ (fun w R Q=>yN (jD _ Q.1.1)) fun l=>?_
    refine xq 1 [yB 6 true] [] ?_
    refine xe (zA (zG (zI ?_)))
    refine yR (.bool true) fun w' R Q=>?_
    exact⟨rfl,R⟩
   have P:=uH r
   refine zN (zA (zC ?_))
   obtain⟨v,d0⟩:∃ v:Nat,(b.tmod 50+50).tmod 50=v:=uB (dG b (by decide)).1
   have Q0:=(dG b (show (0:Int)<50 by decide)).2
   have R0:=rR b (show (0:Int)<50 by decide)
   have P0:=qD b (show (0:Int)<50 by decide)
   obtain⟨n,S0⟩:=yE (8+v)
   have S:8≤n:=by omega
   have T0:n≤57:=by omega
   have X:(bytes s).length≤200:=by rw[zP];omega
   have Y:(bytes t).length≤200:=by rw[zP];omega
   obtain⟨c,d,Z,a0,e0,u,U0,V0⟩:=Zdz (n:=n) e X (by decide) (by decide) S (by omega)
   obtain⟨m,o,b0,c0,f0,T,W0,X0⟩:=Zdz (n:=n) a Y (by decide) (by decide) S (by omega)
   obtain⟨g0,h0,i0⟩:=Zlh u S (by omega) (by omega) (by omega)
   have Y0:=ZoM u (by omega)
   have Z0:=ZoM T (by omega)
   have a1:=u.len (by omega) (by omega) (by omega)
   have hm:=RF.mono (by omega) u T (Zsk e a Z a0 b0 c0)
   rw[←Zr6 u T] at hm
   obtain⟨σ,hσ⟩:=yE ((p-q).num.sign)
   obtain⟨τ,hτ⟩:=yE (cmpL (Lib.itoa c) (Lib.itoa m) d o)
   rw[hσ,hτ] at hm
   refine zB (xq 1 [yJ 43 b] [] ?_)
   refine xqk 44 (.int .i64 (b.tmod 50)) (fun w R Q=>fG (t:=3) (k:=3) (x:=.tmp 43) (y:=.const (.int .i64 50)) (by decide)) ?_
   refine xq 1 [yJ 45 (IntKind.i64.wrap ((b.tmod 50)+50))] [] ?_
   rw[yW (b.tmod 50+50) (b.tmod 50+50) (by omega)]
   refine xqk 46 (.int .i64 (v:Int)) (fun w R Q=>by rw[←d0];exact fG (t:=3) (k:=3) (x:=.tmp 45) (y:=.const (.int .i64 50)) (by decide)) ?_
   refine xq 1 [yJ 47 (IntKind.i64.wrap (8+(v:Int)))] [] ?_
   rw[yW (8+(v:Int)) ((n:Int)) (by omega)]
   refine xq 1 [yJ 2 (n:Int)] [] ?_
   refine xe (zA (zC (zB (xq 2 [yT 49 s,yJ 50 (n:Int)] [] ?_))))
   refine xqc 15 [.string s,.int .i64 (n:Int)] 51 (fun _:Unit=>.tuple #[yS ⟨(Lib.itoa c).toArray⟩ d,.int .i64 0]) _ (fun w R Q=>(dA s (n:Int) _ Q.1.1 (by omega)).mono (fun _ _ h=>zD h (by rw[Z,a0,e0]))) fun l=>?_
   refine xr 6 [yT 1 t,yJ 2 (n:Int),yB 6 false,(7,.p 7 0),(9,.p 9 0),(11,.p 11 0),yJ 12 0] [yG 11 24 ⟨(Lib.itoa c).toArray⟩ d,bR4 9 34 H I J K L M N O,bR4 7 34 z A B C D E F G] ?_
   refine xe (zA (zC (zB (xq 2 [yT 55 t,yJ 56 (n:Int)] [] ?_))))
   refine xqc 15 [.string t,.int .i64 (n:Int)] 57 (fun _:Unit=>.tuple #[yS ⟨(Lib.itoa m).toArray⟩ o,.int .i64 0]) _ (fun w R Q=>(dA t (n:Int) _ Q.1.1.1 (by omega)).mono (fun _ _ h=>zD h (by rw[b0,c0,f0]))) fun l=>?_
   refine xq 6 [(13,.p 13 0),yJ 14 0] [yG 13 24 ⟨(Lib.itoa m).toArray⟩ o] ?_
   refine xe (zA (zC (zB (xq 1 [(61,.v (yS ⟨(Lib.itoa c).toArray⟩ d))] [] ?_))))
   refine xqc 22 [yS ⟨(Lib.itoa c).toArray⟩ d] 62 (fun _:Unit=>.string ⟨(exT (Lib.itoa c) d).toArray⟩) _ (fun w R Q=>(kK (⟨(Lib.itoa c).toArray⟩:ByteArray) d _ Q.1.1.1.1 (by rw[zJ];omega) (fun _=>by omega)).mono (fun _ _ h=>zD h (by rw[zJ]))) fun l=>?_
   refine xq 1 [yJ 63 (n:Int)] [] ?_
   refine xqc 15 [.string ⟨(exT (Lib.itoa c) d).toArray⟩,.int .i64 (n:Int)] 64 (fun _:Unit=>.tuple #[yS ⟨(Lib.itoa c).toArray⟩ d,.int .i64 0]) _ (fun w R Q=>(dA ⟨(exT (Lib.itoa c) d).toArray⟩ (n:Int) _ Q.1.1.1.1.1 (by rw[zJ];omega)).mono (fun _ _ h=>zD h (by rw[zJ,g0,h0,i0]))) fun l=>?_
   refine xq 6 [(15,.p 15 0),yJ 16 0] [yG 15 24 ⟨(Lib.itoa c).toArray⟩ d] ?_
   refine xe (zA (zC (zB (xq 2 [eR4 67 z A B C D E F G,eR4 68 H I J K L M N O] [] ?_))))
   refine xqc 28 [vR4 z A B C D E F G,vR4 H I J K L M N O] 69 (fun _:Unit=>.int .i64 σ) _ (fun w R Q=>(aP _ _ _ _ _ Q.1.1.1.1.1.2 Q.1.1.1.1.2 (Zdr (Za1 e X (by decide)) (by decide)) (Zdr (Za1 a Y (by decide)) (by decide))).mono (fun _ _ h=>zD h (by rw[hσ]))) fun l=>?_
   refine xq 1 [yJ 17 σ] [] ?_
   refine xe (zA (zC (zB ?_)))
   refine xqc 14 [] 70 (fun _:Unit=>.bool true) _ (fun w R Q=>yN (jD _ Q.1.1.1.1.1.1.1)) fun l=>?_
   refine xq 15 [yB 83 true,(84,.v (yS ⟨(Lib.itoa c).toArray⟩ d)),(85,.v (yS ⟨(Lib.itoa c).toArray⟩ d))] [] ?_
   refine xqk 86 (.bool true) (fun w R Q=>Zbr (.tmp 84) (.tmp 85) 24 (⟨(Lib.itoa c).toArray⟩:ByteArray) (⟨(Lib.itoa c).toArray⟩:ByteArray) d d true (by kernel_rfl) (by kernel_rfl) (by kernel_rfl) (Zl2 _ _ _ _ (uW ⟨rfl,rfl⟩))) ?_
   refine xq 5 [yB 88 true,yB 91 (decide (σ>0))] [] ?_
   rcases bl2 ((decide (σ>0))) with f|f
   ·rw[f]
    have U:=uD f
    refine xq 10 [yB 98 true,yB 101 (decide (σ<0))] [] ?_
    rcases bl2 ((decide (σ<0))) with g|g
    ·rw[g]
     have V:=uD g
     refine xq 7 [yB 6 true] [] ?_
     refine xe (zA (zG ?_))
     refine yR (.bool true) fun w' R Q=>?_
     exact⟨rfl,R⟩
    rw[g]
    have V:=uH g
    refine xq 2 [(102,.v (yS ⟨(Lib.itoa c).toArray⟩ d)),(103,.v (yS ⟨(Lib.itoa m).toArray⟩ o))] [] ?_
    refine xqc 43 [yS ⟨(Lib.itoa c).toArray⟩ d, yS ⟨(Lib.itoa m).toArray⟩ o] 104 (fun _:Unit=>.int .i64 τ) _ (fun w R Q=>(gN (⟨(Lib.itoa c).toArray⟩:ByteArray) (⟨(Lib.itoa m).toArray⟩:ByteArray) d o _ (by rw[zJ];omega) (by rw[zJ];omega)).mono (fun _ _ h=>zD h (by rw[zJ,zJ,hτ]))) fun l=>?_
    refine xq 1 [yB 105 (decide (τ≥0))] [] ?_
    rw[show decide (τ≥(0:Int))=true from uW (hm.2 (by omega))]
    refine xr 3 [yB 6 true] [] ?_
    refine xe (zA (zG ?_))
    refine yR (.bool true) fun w' R Q=>?_
    exact⟨rfl,R⟩
   rw[f]
   have U:=uH f
   refine xq 2 [(92,.v (yS ⟨(Lib.itoa c).toArray⟩ d)),(93,.v (yS ⟨(Lib.itoa m).toArray⟩ o))] [] ?_
   refine xqc 43 [yS ⟨(Lib.itoa c).toArray⟩ d, yS ⟨(Lib.itoa m).toArray⟩ o] 94 (fun _:Unit=>.int .i64 τ) _ (fun w R Q=>(gN (⟨(Lib.itoa c).toArray⟩:ByteArray) (⟨(Lib.itoa m).toArray⟩:ByteArray) d o _ (by rw[zJ];omega) (by rw[zJ];omega)).mono (fun _ _ h=>zD h (by rw[zJ,zJ,hτ]))) fun l=>?_
   refine xq 1 [yB 95 (decide (τ≤0))] [] ?_
   rw[show decide (τ≤(0:Int))=true from uW (hm.1 (by omega))]
   refine xq 6 [yB 98 true,yB 101 (decide (σ<0))] [] ?_
   rcases bl2 ((decide (σ<0))) with i|i
   ·rw[i]
    have W:=uD i
    refine xr 7 [yB 6 true] [] ?_
    refine xe (zA (zG ?_))
    refine yR (.bool true) fun w' R Q=>?_
    exact⟨rfl,R⟩
   rw[i]
   have W:=uH i
   refine xr 2 [yB 6 false,yB 98 true,yB 101 false,(102,.v (yS ⟨(Lib.itoa c).toArray⟩ d)),(103,.v (yS ⟨(Lib.itoa m).toArray⟩ o))] [] ?_
   refine xqc 43 [yS ⟨(Lib.itoa c).toArray⟩ d, yS ⟨(Lib.itoa m).toArray⟩ o] 104 (fun _:Unit=>.int .i64 τ) _ (fun w R Q=>(gN (⟨(Lib.itoa c).toArray⟩:ByteArray) (⟨(Lib.itoa m).toArray⟩:ByteArray) d o _ (by rw[zJ];omega) (by rw[zJ];omega)).mono (fun _ _ h=>zD h (by rw[zJ,zJ,hτ]))) fun l=>?_
   refine xq 1 [yB 105 (decide (τ≥0))] [] ?_
   rw[show decide (τ≥(0:Int))=true from uW (hm.2 (by omega))]
   refine xq 3 [yB 6 true] [] ?_
   refine xe (zA (zG ?_))
   refine yR (.bool true) fun w' R Q=>?_
   exact⟨rfl,R⟩
  have a:xS (bytes t)=none:=by cases h:xS (bytes t) with|none=>rfl|some q=>rw[h] at j;exact absurd rfl j
  refine zB (xq 1 [yT 24 t] [] ?_)
  refine xqc 18 [.string t] 25 (fun x:ShQ=>.tuple #[xT x,.bool false]) _ (fun w R Q=>(gK t _ ht).mono (fun _ _ h=>fN h a)) fun⟨j0,k0,l0,m0,n0,o0,p0,q0⟩=>?_
  refine xq 6 [(9,.p 9 0),yB 10 false] [bR4 9 34 j0 k0 l0 m0 n0 o0 p0 q0] ?_
  refine xe (zA (zC (zC (zB (xq 14 [yB 41 true] [] ?_)))))
  refine xe (zA (xa (zC (zB ?_))))
  refine xqc 14 [] 42 (fun _:Unit=>.bool true) _ (fun w R Q=>yN (jD _ Q.1.1)) fun l=>?_
  refine xq 1 [yB 6 true] [] ?_
  refine xe (zA (zG (zI ?_)))
  refine yR (.bool true) fun w' R Q=>?_
  exact⟨rfl,R⟩
 have e:xS (bytes s)=none:=by cases h:xS (bytes s) with|none=>rfl|some q=>rw[h] at hv;exact absurd rfl hv
 refine zB (xq 1 [yT 19 s] [] ?_)
 refine xqc 18 [.string s] 20 (fun x:ShQ=>.tuple #[xT x,.bool false]) _ (fun w R Q=>(gK s _ hs).mono (fun _ _ h=>fN h e)) fun⟨r0,s0,t0,u0,v0,w0,x0,y0⟩=>?_
 refine xq 6 [(7,.p 7 0),yB 8 false] [bR4 7 34 r0 s0 t0 u0 v0 w0 x0 y0] ?_
 refine xe (zA (zC ?_))
 by_cases j:(xS (bytes t)).isSome=true
 ·obtain⟨q,a⟩:=tP.1 j
  refine zB (xq 1 [yT 24 t] [] ?_)
  refine xqc 18 [.string t] 25 (fun x:ShQ=>.tuple #[xT x,.bool true]) _ (fun w R Q=>(gK t _ ht).mono (fun _ _ h=>fO h a)) fun⟨z0,A0,B0,C0,D0,E0,F0,G0⟩=>?_
  refine xq 6 [(9,.p 9 0),yB 10 true] [bR4 9 34 z0 A0 B0 C0 D0 E0 F0 G0] ?_
  refine xe (zA (zC (zC (zB (xq 14 [yB 41 true] [] ?_)))))
  refine xe (zA (xa (zC (zB ?_))))
  refine xqc 14 [] 42 (fun _:Unit=>.bool true) _ (fun w R Q=>yN (jD _ Q.1.1)) fun l=>?_
  refine xq 1 [yB 6 true] [] ?_
  refine xe (zA (zG (zI ?_)))
  refine yR (.bool true) fun w' R Q=>?_
  exact⟨rfl,R⟩
 have a:xS (bytes t)=none:=by cases h:xS (bytes t) with|none=>rfl|some q=>rw[h] at j;exact absurd rfl j
 refine zB (xq 1 [yT 24 t] [] ?_)
 refine xqc 18 [.string t] 25 (fun x:ShQ=>.tuple #[xT x,.bool false]) _ (fun w R Q=>(gK t _ ht).mono (fun _ _ h=>fN h a)) fun⟨H0,I0,J0,K0,L0,M0,N0,O0⟩=>?_
 refine xq 6 [(9,.p 9 0),yB 10 false] [bR4 9 34 H0 I0 J0 K0 L0 M0 N0 O0] ?_
 refine xe (zA (zC (zC (zB (xq 14 [yB 41 true] [] ?_)))))
 refine xe (zA (xa (zC (zB ?_))))
 refine xqc 14 [] 42 (fun _:Unit=>.bool true) _ (fun w R Q=>yN (jD _ Q.1.1)) fun l=>?_
 refine xq 1 [yB 6 true] [] ?_
 refine xe (zA (zG (zI ?_)))
 refine yR (.bool true) fun w' R Q=>?_
 exact⟨rfl,R⟩
end Go.Proofs.YtklpdkpcocnglaaGreatDoor
