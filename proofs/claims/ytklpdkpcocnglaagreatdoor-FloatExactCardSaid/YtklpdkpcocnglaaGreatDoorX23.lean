/-
 My texts Nss2 put together.
-/
import Derived.Test.YtklpdkpcocnglaaGreatDoorX22
set_option maxRecDepth 100000
set_option maxHeartbeats 8000000
namespace Go.Proofs.YtklpdkpcocnglaaGreatDoor
open Go.RowKit
theorem Zm6 {s:Bool}{m bits:Nat}{e:Int}(h:8≤bits)(b:bits≤4096):Fine (gE s m e bits):=by
 unfold gE
 split
 ·exact ZbT 3
 split
 ·exact ZbT 0
 rename_i i
 refine Ziq ?_
 unfold sqM
 have c:sqK m e bits=((blen m:Int)+e-1)/2-((bits:Int)-1):=rfl
 obtain⟨k,a⟩:=yE (sqK m e bits)
 rw[a] at c ⊢
 have j:=ZbL (show 0<m by omega) (e-2*k+2) (by omega)
 have d:wl (fq m 1 (-(e-2*k+2)))≤200:=ZhF (by omega)
 have f:=Zkm d
 have g:=ZpR (isq (fq m 1 (-(e-2*k+2)))) (jJ m (e-2*k+2))
 have l:=Zf2 f (show wl 1≤200 from uE (bL.2 (by rw[zO];decide)) (by decide))
 exact uE (wR g) (by omega)
theorem Zm7 (s:Bool)(A:Option Addr)(l c:Nat)(e:Int)(w:World)(a:zK w (.slice A l c) 0) :
 yA 120 #[yV s A l c e] w (RetV w (yV s A l c e)):=by
 refine zV (Φ:=fun w=>zK w (.slice A l c) (0)) Tryz.func120 rfl (by kernel_rfl) (fun w' b=>a.ext b) ?_
 refine zC ?_
 have d:=a.len0
 have f:=@kT 0
 refine zB (xq 2 [(1,.p 1 0),(2,.p 2 0)] [yF 2 79 false none 0 0 0,yF 1 79 s A l c e] ?_)
 refine xe (zA (zC (zC (zB (xq 4 [yB 6 (decide ((l:Int)>0))] [] ?_)))))
 rw[show decide ((l:Int)>0)=false from vF (by omega)]
 refine xe (zA (xb (zN (zA (zC (zB (xq 2 [] [yF 2 79 s A l c e] ?_)))))))
 refine xe (zA (zG ?_))
 refine yR (yV s A l c e) fun w' R Q=>?_
 exact⟨rfl,R⟩
theorem ZoE (s:Bool)(A:Option Addr)(l c x:Nat)(e:Int)(t:Bool)(B:Option Addr)(m d y:Nat)(f:Int)(bits:Nat)(z:0<bits)(J:bits≤4096)(w:World)(K:Glob w)(L:zK w (.slice A l c) x)(C:wl x≤100000)(D : -1073741824≤e)(E:e≤1073741824)(M:zK w (.slice B m d) y)(F:wl y≤100000)(G : -1073741824≤f)(H:f≤1073741824) :
 yA 91 #[yV s A l c e, yV t B m d f,.int .i64 ((bits:Nat):Int)] w (wA w (sumR s x e (if y=0 then t else !t) y f bits)):=by
 refine zV (Φ:=fun w=>((Glob w∧zK w (.slice A l c) (x))∧zK w (.slice B m d) (y))) Tryz.func91 rfl (by kernel_rfl) (fun w' I=>⟨⟨K.ext I,L.ext I⟩,M.ext I⟩) ?_
 refine zC (zB (xq 4 [(3,.p 3 0),(4,.p 4 0),(6,.p 6 0),yJ 7 0] [yF 6 79 false none 0 0 0,yF 4 79 t B m d f,yF 3 79 s A l c e] ?_))
 refine xe (zA (zC ?_))
 by_cases j:y=0
 ·refine yO 9 zL ?_
  refine xqg 2 [(8,.v (yV s A l c e)),(9,.v (yV t B m d f))] ?_
  refine xqd 120 [yV t B m d f] 10 (fun _:Unit=>.agg #[.bool t,.slice B m d,.int .i64 f]) _ (fun w R Q=>yN (Zm7 t B m d f _ (by have h:=Q.2;rw[j] at h;exact h))) fun N=>?_
  refine xqg 1 [yJ 11 (bits:Int)] ?_
  obtain⟨a,g⟩:=yE (sumR s x e t y f bits)
  refine xqd 84 [yV s A l c e, yV t B m d f,.int .i64 (bits:Int)] 12 (shNb a) _ (fun w R Q=>yM xX ((show Calls _ _ _ _ (wA w a) by rw[←g];exact Zem s A l c x e t B m d y f bits z J _ Q.1.1.1 Q.1.1.2 C D E Q.1.2 F G H))) fun⟨k,n,o⟩=>?_
  refine xqf 4 [yJ 7 a.err] [yF 6 79 a.s k n o a.e,yF 6 79 false none 0 0 0,yF 4 79 t B m d f,yF 3 79 s A l c e] ?_
  refine xz (xe (zA (zG ?_)))
  refine yR (.tuple #[yV a.s k n o a.e,.int .i64 a.err]) fun w' R Q=>?_
  rw[show (if y=0 then t else !t)=t from uL j,g]
  exact⟨(k,n,o),rfl,Q.2,R⟩
 refine yO 9 zL ?_
 refine xqg 2 [(8,.v (yV s A l c e)),(9,.v (yV t B m d f))] ?_
 refine xqd 120 [yV t B m d f] 10 (fun _:Unit=>.agg #[.bool (!t),.slice B m d,.int .i64 f]) _ (fun w R Q=>yN (Zev t B m d y f _ Q.2 (by omega))) fun N=>?_
 refine xqg 1 [yJ 11 (bits:Int)] ?_
 obtain⟨b,i⟩:=yE (sumR s x e ((!t)) y f bits)
 refine xqd 84 [yV s A l c e, yV (!t) B m d f,.int .i64 (bits:Int)] 12 (shNb b) _ (fun w R Q=>yM xX ((show Calls _ _ _ _ (wA w b) by rw[←i];exact Zem s A l c x e ((!t)) B m d y f bits z J _ Q.1.1.1 Q.1.1.2 C D E Q.1.2 F G H))) fun⟨q,r,u⟩=>?_
 refine xqf 4 [yJ 7 b.err] [yF 6 79 b.s q r u b.e,yF 6 79 false none 0 0 0,yF 4 79 t B m d f,yF 3 79 s A l c e] ?_
 refine xz (xe (zA (zG ?_)))
 refine yR (.tuple #[yV b.s q r u b.e,.int .i64 b.err]) fun w' R Q=>?_
 rw[show (if y=0 then t else !t)=(!t) from uJ j,i]
 exact⟨(q,r,u),rfl,Q.2,R⟩
theorem ZiM (s t:ByteArray)(x y b:Int)(w:World)(hg:Glob w)(T:(bytes s).length≤100000)(l:(bytes t).length≤100000) :
 yA 81 #[yS s x, yS t y,.int .i64 b,.func (.func 91) #[] #[]] w (bJ w (binR bK (bytes s) (bytes t) x y b)):=by
 refine zV (Φ:=fun w=>Glob w) Tryz.func81 rfl (by kernel_rfl) (fun w' hf=>hg.ext hf) ?_
 refine zC (zB (xq 4 [(4,.p 4 0),(5,.p 5 0),(8,.p 8 0),yJ 9 0] [yG 8 24 ⟨#[]⟩ 0,yG 5 24 t y,yG 4 24 s x] ?_))
 refine xe (zA (zC (zB (xq 1 [(15,.v (yS s x))] [] ?_))))
 by_cases r:fvB (bytes s) x=true
 ·obtain⟨d,g⟩:=yE (ldR (bytes s) x)
  have U:=kG r
  have h0:wl d.m≤100000:=by rw[←g];exact fZ T
  have i0:d.e=x:=by rw[←g,show ldR (bytes s) x=_ from uL r]
  have j0:d.s=true→0<d.m:=by rw[←g,show ldR (bytes s) x=_ from uL r];exact U.2.2.2
  refine xqc 64 [yS s x] 16 (shLd true d) _ (fun w R Q=>yM wP ((show Calls _ _ _ _ (lQ w true d) by rw[←g,← r];exact xY s x _ T))) fun⟨B,C,D⟩=>?_
  refine xq 6 [(10,.p 10 0),yB 11 true] [yF 10 79 d.s B C D d.e] ?_
  refine xe (zA (zC (zB (xq 1 [(20,.v (yS t y))] [] ?_))))
  by_cases c:fvB (bytes t) y=true
  ·obtain⟨f,i⟩:=yE (ldR (bytes t) y)
   have o:=kG c
   have K:wl f.m≤100000:=by rw[←i];exact fZ l
   have L:f.e=y:=by rw[←i,show ldR (bytes t) y=_ from uL c]
   have M:f.s=true→0<f.m:=by rw[←i,show ldR (bytes t) y=_ from uL c];exact o.2.2.2
   refine xqc 64 [yS t y] 21 (shLd true f) _ (fun w R Q=>yM wP ((show Calls _ _ _ _ (lQ w true f) by rw[←i,← c];exact xY t y _ l))) fun⟨E,F,G⟩=>?_
   refine xq 6 [(12,.p 12 0),yB 13 true] [yF 12 79 f.s E F G f.e] ?_
   refine xe (zA (zC (zC (zB (xq 6 [yB 29 false] [] ?_)))))
   refine xe (zA (xb (zN (zA (zC (zC ?_))))))
   by_cases S:8≤b∧b≤1024
   ·obtain⟨n,hn⟩:∃ n:Nat,b=n:=⟨b.toNat,by omega⟩
    subst hn
    refine zB (xq 1 [yJ 31 (n:Int)] [] ?_)
    refine xqc 55 [.int .i64 (n:Int)] 32 (fun _:Unit=>.bool true) _ (fun w R Q=>(jN _ _).mono (fun _ _ h=>zD h (by rw[uW S]))) fun xx=>?_
    refine xq 1 [yB 33 false] [] ?_
    refine xe (zA (xb (zN (zA (zC (zB (xq 4 [(35,.v (.func (.func 91) #[] #[])),(36,.v (yV d.s B C D d.e)),(37,.v (yV f.s E F G f.e)),yJ 38 (n:Int)] [] ?_)))))))
    obtain⟨a,q⟩:=yE (bK d f n)
    refine xqc 91 [yV d.s B C D d.e, yV f.s E F G f.e,.int .i64 (n:Int)] 39 (shNb a) _ (fun w R Q=>yM xX ((show Calls _ _ _ _ (wA w a) by rw[←q];exact ZoE _ _ _ _ _ _ _ _ _ _ _ _ n (by omega) (by omega) _ Q.1.1.1 Q.1.1.2 (by omega) (by omega) (by omega) Q.1.2 (by omega) (by omega) (by omega)))) fun⟨H,I,J⟩=>?_
    refine xq 2 [(40,.v (yV a.s H I J a.e)),yJ 41 a.err] [] ?_
    refine xqc 56 [yV a.s H I J a.e,.int .i64 a.err] 42 (fun _:Unit=>.tuple #[yS ⟨(frT a).toArray⟩ (frE a),.int .i64 a.err]) _ (fun w R Q=>yN (bV a H I J _ Q.1.1.1.1 Q.2 (by rw[←q];exact Zkb (by omega) (by omega)))) fun xx=>?_
    refine xq 4 [yJ 9 a.err] [yG 8 24 ⟨(frT a).toArray⟩ (frE a)] ?_
    refine xe (zA (zG ?_))
    refine yR (.tuple #[yS ⟨(frT a).toArray⟩ (frE a),.int .i64 a.err]) fun w' R Q=>?_
    rw[show binR bK (bytes s) (bytes t) x y (n:Int)=bK (ldR (bytes s) x) (ldR (bytes t) y) n by unfold binR;rw[uL ⟨r,c⟩,uL S];rfl,g,i,q]
    exact⟨rfl,R⟩
   refine zB (xq 1 [yJ 31 b] [] ?_)
   refine xqc 55 [.int .i64 b] 32 (fun _:Unit=>.bool false) _ (fun w R Q=>(jN _ _).mono (fun _ _ h=>zD h (by rw[vF S]))) fun xx=>?_
   refine xq 1 [yB 33 true] [] ?_
   refine xe (zA (xa (zC (zB (xq 3 [yJ 9 3] [] ?_)))))
   refine xe (zA (zG (zI ?_)))
   refine yR (.tuple #[yS ⟨#[]⟩ 0,.int .i64 3]) fun w' R Q=>?_
   rw[show binR bK (bytes s) (bytes t) x y b=⟨false,0,0,3⟩ by unfold binR;rw[uL ⟨r,c⟩,uJ S]]
   exact⟨rfl,R⟩
  obtain⟨u,N⟩:=yE (ldR (bytes t) y)
  refine xqc 64 [yS t y] 21 (shLd false u) _ (fun w R Q=>yM wP ((show Calls _ _ _ _ (lQ w false u) by rw[←N,← vK.2 c];exact xY t y _ l))) fun⟨V,W,X⟩=>?_
  refine xq 6 [(12,.p 12 0),yB 13 false] [yF 12 79 u.s V W X u.e] ?_
  refine xe (zA (zC (zC (zB (xq 6 [yB 29 true] [] ?_)))))
  refine xe (zA (xa (zC (zB (xq 3 [yJ 9 1] [] ?_)))))
  refine xe (zA (zG (zI ?_)))
  refine yR (.tuple #[yS ⟨#[]⟩ 0,.int .i64 1]) fun w' R Q=>?_
  rw[show binR bK (bytes s) (bytes t) x y b=⟨false,0,0,1⟩ from uJ (fun h=>c h.2)]
  exact⟨rfl,R⟩
 obtain⟨z,O⟩:=yE (ldR (bytes s) x)
 refine xqc 64 [yS s x] 16 (shLd false z) _ (fun w R Q=>yM wP ((show Calls _ _ _ _ (lQ w false z) by rw[←O,← vK.2 r];exact xY s x _ T))) fun⟨Y,Z,a0⟩=>?_
 refine xq 6 [(10,.p 10 0),yB 11 false] [yF 10 79 z.s Y Z a0 z.e] ?_
 refine xe (zA (zC (zB (xq 1 [(20,.v (yS t y))] [] ?_))))
 by_cases c:fvB (bytes t) y=true
 ·obtain⟨j,k⟩:=yE (ldR (bytes t) y)
  have o:=kG c
  have K:wl j.m≤100000:=by rw[←k];exact fZ l
  have L:j.e=y:=by rw[←k,show ldR (bytes t) y=_ from uL c]
  have M:j.s=true→0<j.m:=by rw[←k,show ldR (bytes t) y=_ from uL c];exact o.2.2.2
  refine xqc 64 [yS t y] 21 (shLd true j) _ (fun w R Q=>yM wP ((show Calls _ _ _ _ (lQ w true j) by rw[←k,← c];exact xY t y _ l))) fun⟨b0,c0,d0⟩=>?_
  refine xq 6 [(12,.p 12 0),yB 13 true] [yF 12 79 j.s b0 c0 d0 j.e] ?_
  refine xe (zA (zC (zC (zB (xq 6 [yB 29 true] [] ?_)))))
  refine xe (zA (xa (zC (zB (xq 3 [yJ 9 1] [] ?_)))))
  refine xe (zA (zG (zI ?_)))
  refine yR (.tuple #[yS ⟨#[]⟩ 0,.int .i64 1]) fun w' R Q=>?_
  rw[show binR bK (bytes s) (bytes t) x y b=⟨false,0,0,1⟩ from uJ (fun h=>r h.1)]
  exact⟨rfl,R⟩
 obtain⟨A,P⟩:=yE (ldR (bytes t) y)
 refine xqc 64 [yS t y] 21 (shLd false A) _ (fun w R Q=>yM wP ((show Calls _ _ _ _ (lQ w false A) by rw[←P,← vK.2 c];exact xY t y _ l))) fun⟨e0,f0,g0⟩=>?_
 refine xq 6 [(12,.p 12 0),yB 13 false] [yF 12 79 A.s e0 f0 g0 A.e] ?_
 refine xe (zA (zC (zC (zB (xq 6 [yB 29 true] [] ?_)))))
 refine xe (zA (xa (zC (zB (xq 3 [yJ 9 1] [] ?_)))))
 refine xe (zA (zG (zI ?_)))
 refine yR (.tuple #[yS ⟨#[]⟩ 0,.int .i64 1]) fun w' R Q=>?_
 rw[show binR bK (bytes s) (bytes t) x y b=⟨false,0,0,1⟩ from uJ (fun h=>r h.1)]
 exact⟨rfl,R⟩
theorem ZpS (s t:ByteArray)(x y b:Int)(w:World)(d:Glob w)(e:(bytes s).length≤100000)(a:(bytes t).length≤100000) :
 yA 53 #[yS s x, yS t y,.int .i64 b] w (bJ w (binR bK (bytes s) (bytes t) x y b)):=by
 obtain⟨r,c⟩:=yE (binR bK (bytes s) (bytes t) x y b)
 rw[c]
 refine zV (Φ:=fun w=>Glob w) Tryz.func53 rfl (by kernel_rfl) (fun w' f=>d.ext f) ?_
 refine zC (zB (xq 4 [(3,.p 3 0),(4,.p 4 0),(6,.p 6 0),yJ 7 0] [yG 6 24 ⟨#[]⟩ 0,yG 4 24 t y,yG 3 24 s x] ?_))
 refine xe (zA (zC (zB (xq 3 [(8,.v (yS s x)),(9,.v (yS t y)),yJ 10 b] [] ?_))))
 refine xqc 81 [yS s x, yS t y,.int .i64 b,.func (.func 91) #[] #[]] 11 (fun _:Unit=>.tuple #[yS ⟨(frT r).toArray⟩ (frE r),.int .i64 r.err]) _ (fun w R Q=>yN ((show Calls _ _ _ _ (bJ w r) by rw[←c];exact ZiM s t x y b _ Q e a))) fun g=>?_
 refine xq 4 [yJ 7 r.err] [yG 6 24 ⟨(frT r).toArray⟩ (frE r)] ?_
 refine xe (zA (zG ?_))
 refine yR (.tuple #[yS ⟨(frT r).toArray⟩ (frE r),.int .i64 r.err]) fun w' R Q=>?_
 exact⟨rfl,R⟩
theorem Zez (s:ByteArray)(x b:Int)(w:World)(E:Glob w)(y:(bytes s).length≤100000) :
 yA 49 #[yS s x,.int .i64 b] w (bJ w (sqF (bytes s) x b)):=by
 refine zV (Φ:=fun w=>Glob w) Tryz.func49 rfl (by kernel_rfl) (fun w' F=>E.ext F) ?_
 refine zC (zB (xq 3 [(2,.p 2 0),(4,.p 4 0),yJ 5 0] [yG 4 24 ⟨#[]⟩ 0,yG 2 24 s x] ?_))
 refine xe (zA (zC (zB (xq 1 [(9,.v (yS s x))] [] ?_))))
 by_cases i:fvB (bytes s) x=true
 ·obtain⟨c,d⟩:=yE (ldR (bytes s) x)
  have z:=kG i
  have G:wl c.m≤100000:=by rw[←d];exact fZ y
  have H:c.e=x:=by rw[←d,show ldR (bytes s) x=_ from uL i]
  have I:c.s=true→0<c.m:=by rw[←d,show ldR (bytes s) x=_ from uL i];exact z.2.2.2
  refine xqc 64 [yS s x] 10 (shLd true c) _ (fun w R Q=>yM wP ((show Calls _ _ _ _ (lQ w true c) by rw[←d,← i];exact xY s x _ y))) fun⟨j,k,l⟩=>?_
  refine xq 6 [(6,.p 6 0),yB 7 true] [yF 6 79 c.s j k l c.e] ?_
  refine xe (zA (zC (zC (zB (xq 2 [yB 14 false] [] ?_)))))
  refine xe (zA (xb (zN (zA (zC (zC ?_))))))
  by_cases u:8≤b∧b≤1024
  ·obtain⟨n,J⟩:∃ n:Nat,b=n:=⟨b.toNat,by omega⟩
   subst J
   refine zB (xq 1 [yJ 16 (n:Int)] [] ?_)
   refine xqc 55 [.int .i64 (n:Int)] 17 (fun _:Unit=>.bool true) _ (fun w R Q=>(jN _ _).mono (fun _ _ h=>zD h (by rw[uW u]))) fun D=>?_
   refine xq 1 [yB 18 false] [] ?_
   refine xe (zA (xb (zN (zA (zC (zB (xq 2 [(20,.v (yV c.s j k l c.e)),yJ 21 (n:Int)] [] ?_)))))))
   obtain⟨a,f⟩:=yE (Zex c n)
   refine xqc 86 [yV c.s j k l c.e,.int .i64 (n:Int)] 22 (shNb a) _ (fun w R Q=>yM xX ((show Calls _ _ _ _ (wA w a) by rw[←f];exact Zm5 _ _ _ _ _ _ n (by omega) (by omega) _ Q.1.1 Q.1.2 (by omega) (by omega) (by omega) (by rw[←d];exact Zr0)))) fun⟨o,q,r⟩=>?_
   refine xq 2 [(23,.v (yV a.s o q r a.e)),yJ 24 a.err] [] ?_
   refine xqc 56 [yV a.s o q r a.e,.int .i64 a.err] 25 (fun _:Unit=>.tuple #[yS ⟨(frT a).toArray⟩ (frE a),.int .i64 a.err]) _ (fun w R Q=>yN (bV a o q r _ Q.1.1.1 Q.2 (by rw[←f];exact Zm6 (by omega) (by omega)))) fun D=>?_
   refine xq 4 [yJ 5 a.err] [yG 4 24 ⟨(frT a).toArray⟩ (frE a)] ?_
   refine xe (zA (zG ?_))
   refine yR (.tuple #[yS ⟨(frT a).toArray⟩ (frE a),.int .i64 a.err]) fun w' R Q=>?_
   rw[show sqF (bytes s) x (n:Int)=Zex (ldR (bytes s) x) n by unfold sqF;rw[uL i,uL u];rfl,d,f]
   exact⟨rfl,R⟩
  refine zB (xq 1 [yJ 16 b] [] ?_)
  refine xqc 55 [.int .i64 b] 17 (fun _:Unit=>.bool false) _ (fun w R Q=>(jN _ _).mono (fun _ _ h=>zD h (by rw[vF u]))) fun D=>?_
  refine xq 1 [yB 18 true] [] ?_
  refine xe (zA (xa (zC (zB (xq 3 [yJ 5 3] [] ?_)))))
  refine xe (zA (zG (zI ?_)))
  refine yR (.tuple #[yS ⟨#[]⟩ 0,.int .i64 3]) fun w' R Q=>?_
  rw[show sqF (bytes s) x b=⟨false,0,0,3⟩ by unfold sqF;rw[uL i,uJ u]]
  exact⟨rfl,R⟩
 obtain⟨g,t⟩:=yE (ldR (bytes s) x)
 refine xqc 64 [yS s x] 10 (shLd false g) _ (fun w R Q=>yM wP ((show Calls _ _ _ _ (lQ w false g) by rw[←t,← vK.2 i];exact xY s x _ y))) fun⟨A,B,C⟩=>?_
 refine xq 6 [(6,.p 6 0),yB 7 false] [yF 6 79 g.s A B C g.e] ?_
 refine xe (zA (zC (zC (zB (xq 2 [yB 14 true] [] ?_)))))
 refine xe (zA (xa (zC (zB (xq 3 [yJ 5 1] [] ?_)))))
 refine xe (zA (zG (zI ?_)))
 refine yR (.tuple #[yS ⟨#[]⟩ 0,.int .i64 1]) fun w' R Q=>?_
 rw[show sqF (bytes s) x b=⟨false,0,0,1⟩ from uJ i]
 exact⟨rfl,R⟩
end Go.Proofs.YtklpdkpcocnglaaGreatDoor
