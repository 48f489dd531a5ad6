/-
 My texts Rn3, Rn4, Nc, Nsq, Nss2, Rn5, Sh2 put together.
-/
import Derived.Test.YtklpdkpcocnglaaGreatDoorU19
import Derived.Test.YtklpdkpcocnglaaGreatDoorU18
set_option maxRecDepth 100000
set_option maxHeartbeats 8000000
namespace Go.Proofs.YtklpdkpcocnglaaGreatDoor
open Go.RowKit
theorem ml_1:ml 1≤1:=ZaY.2 (by rw[Zap];decide)
theorem Zua {z1 a:Int}{d bits:Nat}{e:Int}(h:a<0):ZaK (decide (-z1<0)) (-z1).natAbs d e bits=ZaK (decide (z1<0) != decide (a<0)) z1.natAbs d e bits:=by
 rw[qA,uQ h]
 by_cases b:z1=0
 ·rw[b];rfl
 congr 1
 rcases Int.lt_or_gt_of_ne b with c|c
 ·rw[uQ c,uJ (by omega)];rfl
 rw[uJ (p:=z1<0) (by omega),uQ (by omega)];rfl
theorem ZsY {z1 a:Int}{d bits:Nat}{e:Int}(h:¬ a<0):ZaK (decide (z1<0)) z1.natAbs d e bits=ZaK (decide (z1<0) != decide (a<0)) z1.natAbs d e bits:=by
 rw[uJ h];congr 1;simp
def rsum (z1 e1 z2 e2:Int) (bits:Nat):FR:=if z1=0 then ZaK (decide (z2<0)) z2.natAbs 1 e2 bits else if z2=0 then ZaK (decide (z1<0)) z1.natAbs 1 e1 bits else
 ZaK (decide (z1*2^(e1-min e1 e2).toNat + z2*2^(e2-min e1 e2).toNat < 0)) (z1*2^(e1-min e1 e2).toNat + z2*2^(e2-min e1 e2).toNat).natAbs 1 (min e1 e2) bits
theorem Zoz {z1 c b d a:Int}{bits u v:Nat}(e:z1≠0)(f:b≠0)(g:min c d=a)(h:c-a=u)(i:d-a=v):rsum z1 c b d bits=ZaK (decide (z1*2^u+b*2^v<0)) (z1*2^u+b*2^v).natAbs 1 a bits:=by
 unfold rsum
 rw[uN e,uN f,g,h,i];rfl
theorem Zhb {z:Int}{u:Nat}(h:ml z.natAbs≤1000)(a:u≤4000):ml (z*2^u).natAbs≤1200:=by
 rw[Int.natAbs_mul,Int.natAbs_pow]
 exact ZlY (j:=200) h (by omega)
theorem ZsZ {x y:Int}{k:Nat}(a:ml x.natAbs≤k)(b:ml y.natAbs≤k):ml (x+y).natAbs≤k+1:=mla a b
theorem ZoA {m bits:Nat}{e k s:Int}(a:sqK m e bits=k)(b:e-2*k+2=s):(blen m:Int)+s=2*bits+1∨(blen m:Int)+s=2*bits+2:=by
 unfold sqK at a
 omega
theorem Zs0 {m bits Y:Nat}{s:Int}(a:0<m)(d:8≤bits)(h:(blen m:Int)+s=2*bits+1∨(blen m:Int)+s=2*bits+2)(b:fq m 1 (-s)=Y):2≤isq Y∧blen Y≤2*bits+2:=by
 have c:=ZgE a s (by omega)
 rw[b] at c
 refine⟨?_,by omega⟩
 have e:=Zdq.1 (show 2<blen Y by omega)
 have f:=(ZdV Y).2
 refine Nat.le_of_not_lt fun h=>?_
 have g:=tJ (show isq Y+1≤2 by omega) (show isq Y+1≤2 by omega)
 omega
theorem Zey {m bits Y:Nat}{e k s:Int}{b:Bool}(a:sqK m e bits=k)(c:e-2*k+2=s)(d:fq m 1 (-s)=Y)(f:Zcb m s=b){X:Nat}(g:ZcA (isq Y) 0 b=X)(h:0<X):Zdw m e bits=limR false (oddM X) (k+((tzn X:Nat):Int)):=by
 unfold Zdw sqM
 rw[a,c,d,f,g,Zkq h]
theorem Zs1 {m Y:Nat}{s:Int}(a:fq m 1 (-s)=Y)(h:s<0∨isq Y*isq Y≠Y):Zcb m s=true:=by
 unfold Zcb;rw[a];exact uQ h
theorem Zwl {m Y:Nat}{s:Int}(a:fq m 1 (-s)=Y)(b:¬ s<0)(c:isq Y*isq Y=Y):Zcb m s=false:=by
 unfold Zcb;rw[a];exact uJ (by rintro (h|h);exact b h;exact h c)
theorem Zvz {m j:Nat}:fq m 1 (-(-(j:Int)))=m/2^j:=by
 unfold fq fa fb
 rw[show (- -(-(j:Int))).toNat=0 by omega,show (- -(j:Int)).toNat=j by omega];simp
theorem Zs2 {Y k:Nat}(h:ml Y≤k):ml (isq Y)≤k:=uA (Za4 (by
 have:=(ZdV Y).1
 rcases uH (isq Y) with e|e
 ·omega
 exact uA (Nat.le_mul_of_pos_left _ e) this)) h
theorem ZjE {Y k:Nat}(h:blen Y≤32*k):ml Y≤k:=ZaY.2 (by rw[ZeB];exact Zbg.1 h)
theorem Zs3 (g bits:Nat)(s:Bool)(A:Option Addr)(l c:Nat)(z1 x:Int)(t:Bool)(B:Option Addr)(m d:Nat)(b y:Int)(w:World)(J:CB w g ((bits:Nat):Int) 0)(K:Zai w (.agg #[.bool s,.slice A l c]) z1)(L:Zai w (.agg #[.bool t,.slice B m d]) b)(o:ml z1.natAbs≤1000)(q:ml b.natAbs≤1000)(M : -100000000≤x)(N:x≤100000000)(O : -100000000≤y)(P:y≤100000000)(S:0<bits)(T:bits≤4096) :
 yA 88 #[.pointer (some ⟨g,0,none⟩), yV s A l c x, yV t B m d y] w (RetC w g ((bits:Nat):Int) (ZaK (decide (z1*b<0)) (z1*b).natAbs 1 (x+y) bits)):=by
 refine Zch (fun i=>i=g) (Φ:=fun w=>((CB w g (bits:Int) 0∧Zai w (.agg #[.bool s,.slice A l c]) (z1))∧Zai w (.agg #[.bool t,.slice B m d]) (b))) Tryz.func88 rfl (by kernel_rfl) (fun w' I=>⟨⟨J.ext I,K.ext I⟩,L.ext I⟩) ?_
 refine Zac (Zab (xq 3 [(4,.p 4 0),(5,.p 5 0),(6,.p 6 0)] [yF 6 52 false none 0 0 0,yF 5 52 t B m d y,yF 4 52 s A l c x] ?_))
 refine xe (Zaa (Zac ?_))
 refine yO 12 Zam ?_
 refine xqg 5 [(7,.v (.pointer (some ⟨g,0,none⟩))),eI2 9 s A l c,eI2 11 t B m d] ?_
 refine xqd 74 [vI2 s A l c,vI2 t B m d] 12 Zaz _ (fun w R Q=>yM ZaC (ZnE _ _ z1 b _ Q.1.2 Q.2 (nfit o (by decide)) (nfit q (by decide)))) fun r=>?_
 obtain⟨u,z,C,D⟩:=r
 refine xqd 24 [.int .i64 1] 13 Zaz _ (fun w R Q=>yM ZaC (Zbu 1 _ (by decide) (by decide))) fun r=>?_
 obtain⟨E,F,G,H⟩:=r
 refine xqg 5 [yJ 18 (IntKind.i64.wrap (x+y))] ?_
 rw[yW (x+y) (x+y) (by omega)]
 refine xz ?_
 obtain⟨a,f⟩:=yE (ZaK (decide ((z1*b)<0)) (z1*b).natAbs (1) ((x+y)) bits)
 refine Zbe 101 [.pointer (some ⟨g,0,none⟩),.agg #[.bool u,.slice z C D],.agg #[.bool E,.slice F G H],.int .i64 (x+y)] (d:=19) (shF a.e) (fun _=>#[.int .i64 (bits:Int),.int .i64 a.err]) (fun y w=>Zai w (Zaz y) (sg a.s a.m)) (fun _=>True) (fun w Q=>Q.1.1.1.1) (vJ _) (Or.inr rfl) (fun w R Q=>yM Zcr (show Calls _ _ _ _ (RetC w g (bits:Int) a) by rw[←f];exact Zcd g bits u z C D (z1*b) E F G H (1) ((x+y)) _ Q.1.1.1.1 Q.1.2 Q.2 (uA (mlm o q) (by decide)) (uA ml_1 (by decide)) (by decide) (by omega) (by omega) (by omega) (by omega))) (fun _ _ _ _=>trivial) fun r=>?_
 obtain⟨h,j,k,n⟩:=r
 refine xr 1 [(6,.p 6 0)] [yF 6 52 h j k n a.e] ?_
 refine xe (Zaa (Zaf ?_))
 refine yR (yV h j k n a.e) fun w' R Q=>?_
 rw[f]
 exact⟨(h,j,k,n),rfl,Q.2,R,Q.1.2⟩
theorem Zs4 (g bits:Nat)(s:Bool)(A:Option Addr)(l c:Nat)(z1 x:Int)(t:Bool)(B:Option Addr)(m d:Nat)(a y:Int)(w:World)(V:CB w g ((bits:Nat):Int) 0)(W:Zai w (.agg #[.bool s,.slice A l c]) z1)(U:Zai w (.agg #[.bool t,.slice B m d]) a)(O:ml z1.natAbs≤1000)(P:ml a.natAbs≤1000)(X : -100000000≤x)(Y:x≤100000000)(Z : -100000000≤y)(a0:y≤100000000)(b0:0<bits)(hb:bits≤4096)(c0:a≠0) :
 yA 89 #[.pointer (some ⟨g,0,none⟩), yV s A l c x, yV t B m d y] w (RetC w g ((bits:Nat):Int) (ZaK (decide (z1<0) != decide (a<0)) z1.natAbs a.natAbs (x-y) bits)):=by
 refine Zch (fun i=>i=g) (Φ:=fun w=>((CB w g (bits:Int) 0∧Zai w (.agg #[.bool s,.slice A l c]) (z1))∧Zai w (.agg #[.bool t,.slice B m d]) (a))) Tryz.func89 rfl (by kernel_rfl) (fun w' T=>⟨⟨V.ext T,W.ext T⟩,U.ext T⟩) ?_
 refine Zac (Zab (xq 3 [(4,.p 4 0),(5,.p 5 0),(6,.p 6 0)] [yF 6 52 false none 0 0 0,yF 5 52 t B m d y,yF 4 52 s A l c x] ?_))
 refine xe (Zaa (Zac ?_))
 refine yO 8 Zam ?_
 refine xqf 8 [(7,.p 7 0),(8,.p 8 0)] [bI2 8 32 t B m d,bI2 7 32 s A l c,bI2 8 32 false none 0 0,bI2 7 32 false none 0 0,yF 6 52 false none 0 0 0,yF 5 52 t B m d y,yF 4 52 s A l c x] ?_
 refine xz (xe (Zaa (Zac (Zac ?_))))
 have S:=U.signb
 refine Zab (xq 2 [yB 14 t] [bI2 8 32 t B m d,bI2 7 32 s A l c] ?_)
 refine xe (Zaa ?_)
 refine yQ (t) (fun h=>?_) fun h=>?_
 ·have E:a<0:=uC (S.symm.trans h)
  refine yO 6 Zam ?_
  refine xqg 1 [eI2 15 s A l c] ?_
  refine xqd 68 [vI2 s A l c] 16 Zaz _ (fun w R Q=>yM ZaC (Zfx _ z1 _ Q.1.2)) fun F=>?_
  obtain⟨j,k,n,o⟩:=F
  refine xqg 1 [eI2 17 t B m d] ?_
  refine xqd 68 [vI2 t B m d] 18 Zaz _ (fun w R Q=>yM ZaC (Zfx _ a _ Q.1.2)) fun F=>?_
  obtain⟨q,r,u,z⟩:=F
  refine xqf 2 [] [bI2 8 32 q r u z,bI2 7 32 j k n o,bI2 8 32 t B m d,bI2 7 32 s A l c,yF 6 52 false none 0 0 0,yF 5 52 t B m d y,yF 4 52 s A l c x] ?_
  refine xz (xe (Zaa (Zac (Zab (xq 8 [(19,.v (.pointer (some ⟨g,0,none⟩))),eI2 20 j k n o,eI2 21 q r u z,yJ 26 (IntKind.i64.wrap (x-y))] [bI2 8 32 q r u z,bI2 7 32 j k n o] ?_)))))
  rw[yW (x-y) (x-y) (by omega)]
  obtain⟨b,C⟩:=yE (ZaK (decide ((-(z1))<0)) (-(z1)).natAbs (a.natAbs) ((x-y)) bits)
  refine Zbe 101 [.pointer (some ⟨g,0,none⟩),.agg #[.bool j,.slice k n o],.agg #[.bool q,.slice r u z],.int .i64 (x-y)] (d:=27) (shF b.e) (fun _=>#[.int .i64 (bits:Int),.int .i64 b.err]) (fun y w=>Zai w (Zaz y) (sg b.s b.m)) (fun _=>True) (fun w Q=>Q.1.1.1.1) (vJ _) (Or.inr rfl) (fun w R Q=>yM Zcr (show Calls _ _ _ _ (RetC w g (bits:Int) b) by rw[←C];exact Zcd g bits j k n o (-(z1)) q r u z (a.natAbs) ((x-y)) _ Q.1.1.1.1 Q.1.2 (by rw[show ((a.natAbs:Nat):Int) = -(a) by omega];exact Q.2) (by rw[qA];exact uA O (by decide)) (uA P (by decide)) (by omega) (by omega) (by omega) (by omega) (by omega))) (fun _ _ _ _=>trivial) fun F=>?_
  obtain⟨G,H,I,J⟩:=F
  refine xr 1 [(6,.p 6 0)] [yF 6 52 G H I J b.e] ?_
  refine xe (Zaa (Zaf ?_))
  refine yR (yV G H I J b.e) fun w' R Q=>?_
  rw[←Zua (z1:=z1) E,C]
  exact⟨(G,H,I,J),rfl,Q.2,R,Q.1.2⟩
 have E:¬ a<0:=uD (S.symm.trans h)
 refine Zal (Zaa (Zac (Zab (xq 8 [(19,.v (.pointer (some ⟨g,0,none⟩))),eI2 20 s A l c,eI2 21 t B m d,yJ 26 (IntKind.i64.wrap (x-y))] [] ?_))))
 rw[yW (x-y) (x-y) (by omega)]
 obtain⟨f,D⟩:=yE (ZaK (decide (z1<0)) (z1).natAbs (a.natAbs) ((x-y)) bits)
 refine Zbe 101 [.pointer (some ⟨g,0,none⟩),.agg #[.bool s,.slice A l c],.agg #[.bool t,.slice B m d],.int .i64 (x-y)] (d:=27) (shF f.e) (fun _=>#[.int .i64 (bits:Int),.int .i64 f.err]) (fun y w=>Zai w (Zaz y) (sg f.s f.m)) (fun _=>True) (fun w Q=>Q.1.1) (vJ _) (Or.inr rfl) (fun w R Q=>yM Zcr (show Calls _ _ _ _ (RetC w g (bits:Int) f) by rw[←D];exact Zcd g bits s A l c (z1) t B m d (a.natAbs) ((x-y)) _ Q.1.1 Q.1.2 (by rw[show ((a.natAbs:Nat):Int)=a by omega];exact Q.2) (uA O (by decide)) (uA P (by decide)) (by omega) (by omega) (by omega) (by omega) (by omega))) (fun _ _ _ _=>trivial) fun F=>?_
 obtain⟨K,L,M,N⟩:=F
 refine xr 1 [(6,.p 6 0)] [yF 6 52 K L M N f.e] ?_
 refine xe (Zaa (Zaf ?_))
 refine yR (yV K L M N f.e) fun w' R Q=>?_
 rw[←ZsY (z1:=z1) E,D]
 exact⟨(K,L,M,N),rfl,Q.2,R,Q.1.2⟩
theorem Zs5 (g bits:Nat)(s:Bool)(A:Option Addr)(l c:Nat)(z1 x:Int)(t:Bool)(B:Option Addr)(m d:Nat)(b y:Int)(w:World)(hC:CB w g ((bits:Nat):Int) 0)(hX:Zai w (.agg #[.bool s,.slice A l c]) z1)(hY:Zai w (.agg #[.bool t,.slice B m d]) b)(r:ml z1.natAbs≤1000)(z:ml b.natAbs≤1000)(t0 : -100000000≤x)(u0:x≤100000000)(v0 : -100000000≤y)(w0:y≤100000000)(x0:0<bits)(hb:bits≤4096)(y0:x-y≤4000)(z0:y-x≤4000) :
 yA 87 #[.pointer (some ⟨g,0,none⟩), yV s A l c x,.int .i64 1, yV t B m d y] w (RetC w g ((bits:Nat):Int) (rsum z1 x b y bits)):=by
 refine Zch (fun i=>i=g) (Φ:=fun w=>((CB w g (bits:Int) 0∧Zai w (.agg #[.bool s,.slice A l c]) (z1))∧Zai w (.agg #[.bool t,.slice B m d]) (b))) Tryz.func87 rfl (by kernel_rfl) (fun w' hf=>⟨⟨hC.ext hf,hX.ext hf⟩,hY.ext hf⟩) ?_
 refine Zac (Zab (xq 3 [(5,.p 5 0),(7,.p 7 0),(8,.p 8 0)] [yF 8 52 false none 0 0 0,yF 7 52 t B m d y,yF 5 52 s A l c x] ?_))
 refine xe (Zaa (Zac (Zac (Zab (xq 2 [yB 11 false] [] ?_)))))
 refine xe (Zaa (xb (Zal (Zaa (Zac (Zac (Zab (xq 2 [eI2 15 s A l c] [] ?_))))))))
 by_cases q:z1=0
 ·refine xqc 62 [vI2 s A l c] 16 (fun _:Unit=>.int .i64 0) _ (fun w R Q=>(Zbh _ z1 _ Q.1.2).mono (fun _ _ h=>Zag h (by rw[q];rfl))) fun f=>?_
  refine xq 1 [yB 17 true] [] ?_
  refine xe (Zaa (xa (Zac ?_)))
  refine yO 6 Zam ?_
  refine xqg 3 [(18,.v (.pointer (some ⟨g,0,none⟩))),eI2 20 t B m d] ?_
  refine xqd 24 [.int .i64 1] 21 Zaz _ (fun w R Q=>yM ZaC (Zbu 1 _ (by decide) (by decide))) fun f=>?_
  obtain⟨V,W,X,Y⟩:=f
  refine xqg 2 [yJ 23 y] ?_
  refine xz ?_
  obtain⟨j,D⟩:=yE (ZaK (decide (b<0)) (b).natAbs (1) (y) bits)
  refine Zbe 101 [.pointer (some ⟨g,0,none⟩),.agg #[.bool t,.slice B m d],.agg #[.bool V,.slice W X Y],.int .i64 y] (d:=24) (shF j.e) (fun _=>#[.int .i64 (bits:Int),.int .i64 j.err]) (fun y w=>Zai w (Zaz y) (sg j.s j.m)) (fun _=>True) (fun w Q=>Q.1.1.1.1) (vJ _) (Or.inr rfl) (fun w R Q=>yM Zcr (show Calls _ _ _ _ (RetC w g (bits:Int) j) by rw[←D];exact Zcd g bits t B m d (b) V W X Y (1) (y) _ Q.1.1.1.1 Q.1.1.2 Q.2 (uA z (by decide)) (uA ml_1 (by decide)) (by decide) (by omega) (by omega) (by omega) (by omega))) (fun _ _ _ _=>trivial) fun f=>?_
  obtain⟨H,I,J,K⟩:=f
  refine xr 1 [(0,.v (.pointer (some ⟨g,0,none⟩))),(5,.p 5 0),(7,.p 7 0),(8,.p 8 0)] [yF 8 52 H I J K j.e,yF 7 52 t B m d y,yF 5 52 s A l c x] ?_
  refine xe (Zaa (Zaf (Zae ?_)))
  refine yR (yV H I J K j.e) fun w' R Q=>?_
  rw[show rsum z1 x b y bits=ZaK (decide (b<0)) (b).natAbs 1 y bits from uP q,D]
  exact⟨(H,I,J,K),rfl,Q.2,R,Q.1.2⟩
 refine xqc 62 [vI2 s A l c] 16 (fun _:Unit=>.int .i64 (Int.sign z1)) _ (fun w R Q=>yN (Zbh _ z1 _ Q.1.2)) fun f=>?_
 refine xq 1 [yB 17 (((Int.sign z1):Int) == 0)] [] ?_
 rw[(show (((Int.sign z1):Int) == 0)=false by have:=mt vM.1 q;simpa using this)]
 refine xe (Zaa (xb (Zal (Zaa (Zac (Zac (Zab (xq 2 [eI2 26 t B m d] [] ?_))))))))
 by_cases C:b=0
 ·refine xqc 62 [vI2 t B m d] 27 (fun _:Unit=>.int .i64 0) _ (fun w R Q=>(Zbh _ b _ Q.1.2).mono (fun _ _ h=>Zag h (by rw[C];rfl))) fun f=>?_
  refine xq 1 [yB 28 true] [] ?_
  refine xe (Zaa (xa (Zac ?_)))
  refine yO 6 Zam ?_
  refine xqg 3 [(29,.v (.pointer (some ⟨g,0,none⟩))),eI2 31 s A l c] ?_
  refine xqd 24 [.int .i64 1] 32 Zaz _ (fun w R Q=>yM ZaC (Zbu 1 _ (by decide) (by decide))) fun f=>?_
  obtain⟨Z,a0,b0,c0⟩:=f
  refine xqg 2 [yJ 34 x] ?_
  refine xz ?_
  obtain⟨n,E⟩:=yE (ZaK (decide (z1<0)) (z1).natAbs (1) (x) bits)
  refine Zbe 101 [.pointer (some ⟨g,0,none⟩),.agg #[.bool s,.slice A l c],.agg #[.bool Z,.slice a0 b0 c0],.int .i64 x] (d:=35) (shF n.e) (fun _=>#[.int .i64 (bits:Int),.int .i64 n.err]) (fun y w=>Zai w (Zaz y) (sg n.s n.m)) (fun _=>True) (fun w Q=>Q.1.1.1.1.1) (vJ _) (Or.inr rfl) (fun w R Q=>yM Zcr (show Calls _ _ _ _ (RetC w g (bits:Int) n) by rw[←E];exact Zcd g bits s A l c (z1) Z a0 b0 c0 (1) (x) _ Q.1.1.1.1.1 Q.1.1.1.1.2 Q.2 (uA r (by decide)) (uA ml_1 (by decide)) (by decide) (by omega) (by omega) (by omega) (by omega))) (fun _ _ _ _=>trivial) fun f=>?_
  obtain⟨L,M,N,O⟩:=f
  refine xr 1 [(0,.v (.pointer (some ⟨g,0,none⟩))),(5,.p 5 0),(7,.p 7 0),(8,.p 8 0)] [yF 8 52 L M N O n.e,yF 7 52 t B m d y,yF 5 52 s A l c x] ?_
  refine xe (Zaa (Zaf (Zae ?_)))
  refine yR (yV L M N O n.e) fun w' R Q=>?_
  rw[show rsum z1 x b y bits=ZaK (decide (z1<0)) z1.natAbs 1 x bits by unfold rsum;rw[uN q,uP C],E]
  exact⟨(L,M,N,O),rfl,Q.2,R,Q.1.2⟩
 refine xqc 62 [vI2 t B m d] 27 (fun _:Unit=>.int .i64 (Int.sign b)) _ (fun w R Q=>yN (Zbh _ b _ Q.1.2)) fun f=>?_
 refine xq 1 [yB 28 (((Int.sign b):Int) == 0)] [] ?_
 rw[(show (((Int.sign b):Int) == 0)=false by have:=mt vM.1 C;simpa using this)]
 refine xe (Zaa (xb (Zal (Zaa (Zac ?_)))))
 obtain⟨a,F⟩:=yE (min x y)
 obtain⟨u,hu⟩:∃ u:Nat,x-a=u:=uV (by omega)
 obtain⟨v,hv⟩:∃ v:Nat,y-a=v:=uV (by omega)
 refine Zab (xq 5 [yJ 40 (if y<x then y else x)] [] ?_)
 rw[(show (if y<x then y else x)=a from Zhy.trans F)]
 refine xq 1 [yJ 9 a] [] ?_
 refine xe (Zaa (Zac ?_))
 refine ZeW 18 [0,0,2,0,8,0,56,126,0,256,0,1024,0,7168,16382,32766,65534,0] (by kernel_rfl) (by kernel_rfl) Zam ?_
 refine xqg 7 [(41,.v (.pointer (some ⟨g,0,none⟩))),eI2 43 s A l c,yJ 47 (IntKind.i64.wrap (x-a))] ?_
 rw[yW (x-a) ((u:Int)) (by omega)]
 refine xqd 25 [vI2 s A l c,.int .i64 (u:Int)] 48 Zaz _ (fun w R Q=>yM ZaC (Zdb _ z1 u _ Q.1.1.1.2 (nfit (k:=1000) r (by decide)) (by omega))) fun f=>?_
 obtain⟨l0,m0,n0,o0⟩:=f
 refine xqg 6 [eI2 50 t B m d,yJ 54 (IntKind.i64.wrap (y-a))] ?_
 rw[yW (y-a) ((v:Int)) (by omega)]
 refine xqd 25 [vI2 t B m d,.int .i64 (v:Int)] 55 Zaz _ (fun w R Q=>yM ZaC (Zdb _ b v _ Q.1.1.1.2 (nfit (k:=1000) z (by decide)) (by omega))) fun f=>?_
 obtain⟨p0,q0,r0,s0⟩:=f
 refine xqd 77 [vI2 l0 m0 n0 o0,vI2 p0 q0 r0 s0] 56 Zaz _ (fun w R Q=>yM ZaC (ZhR _ _ (z1*2^u) (b*2^v) _ Q.1.2 Q.2 (nfit (Zhb r (by omega)) (by decide)) (nfit (Zhb z (by omega)) (by decide)))) fun f=>?_
 obtain⟨d0,e0,f0,g0⟩:=f
 refine xqd 24 [.int .i64 1] 57 Zaz _ (fun w R Q=>yM ZaC (Zbu 1 _ (by decide) (by decide))) fun f=>?_
 obtain⟨h0,i0,j0,k0⟩:=f
 refine xqg 1 [yJ 58 a] ?_
 refine xz ?_
 obtain⟨o,G⟩:=yE (ZaK (decide ((z1*2^u+b*2^v)<0)) (z1*2^u+b*2^v).natAbs (1) (a) bits)
 refine Zbe 101 [.pointer (some ⟨g,0,none⟩),.agg #[.bool d0,.slice e0 f0 g0],.agg #[.bool h0,.slice i0 j0 k0],.int .i64 a] (d:=59) (shF o.e) (fun _=>#[.int .i64 (bits:Int),.int .i64 o.err]) (fun y w=>Zai w (Zaz y) (sg o.s o.m)) (fun _=>True) (fun w Q=>Q.1.1.1.1.1.1.1.1) (vJ _) (Or.inr rfl) (fun w R Q=>yM Zcr (show Calls _ _ _ _ (RetC w g (bits:Int) o) by rw[←G];exact Zcd g bits d0 e0 f0 g0 (z1*2^u+b*2^v) h0 i0 j0 k0 (1) (a) _ Q.1.1.1.1.1.1.1.1 Q.1.2 Q.2 (uA (ZsZ (Zhb r (by omega)) (Zhb z (by omega))) (by decide)) (uA ml_1 (by decide)) (by decide) (by omega) (by omega) (by omega) (by omega))) (fun _ _ _ _=>trivial) fun f=>?_
 obtain⟨P,S,T,U⟩:=f
 refine xr 1 [(8,.p 8 0)] [yF 8 52 P S T U o.e] ?_
 refine xe (Zaa (Zaf ?_))
 refine yR (yV P S T U o.e) fun w' R Q=>?_
 rw[Zoz q C F hu hv,G]
 exact⟨(P,S,T,U),rfl,Q.2,R,Q.1.2⟩
theorem Zs6 (g bits:Nat)(s:Bool)(A:Option Addr)(l c:Nat)(z1 x:Int)(t:Bool)(B:Option Addr)(m d:Nat)(q y:Int)(w:World)(hC:CB w g ((bits:Nat):Int) 0)(hX:Zai w (.agg #[.bool s,.slice A l c]) z1)(hY:Zai w (.agg #[.bool t,.slice B m d]) q)(E:ml z1.natAbs≤1000)(F:ml q.natAbs≤1000)(x0 : -100000000≤x)(y0:x≤100000000)(z0 : -100000000≤y)(A0:y≤100000000)(B0:0<bits)(hb:bits≤4096)(C0:x-y≤4000)(D0:y-x≤4000) :
 yA 87 #[.pointer (some ⟨g,0,none⟩), yV s A l c x,.int .i64 (-1), yV t B m d y] w (RetC w g ((bits:Nat):Int) (rsum z1 x (-q) y bits)):=by
 refine Zch (fun i=>i=g) (Φ:=fun w=>((CB w g (bits:Int) 0∧Zai w (.agg #[.bool s,.slice A l c]) (z1))∧Zai w (.agg #[.bool t,.slice B m d]) (q))) Tryz.func87 rfl (by kernel_rfl) (fun w' hf=>⟨⟨hC.ext hf,hX.ext hf⟩,hY.ext hf⟩) ?_
 refine Zac (Zab (xq 3 [(5,.p 5 0),(7,.p 7 0),(8,.p 8 0)] [yF 8 52 false none 0 0 0,yF 7 52 t B m d y,yF 5 52 s A l c x] ?_))
 refine xe (Zaa (Zac (Zac (Zab (xq 2 [yB 11 true] [] ?_)))))
 refine xe (Zaa (xa (Zab (xq 1 [(12,.v (yV t B m d y))] [] ?_))))
 refine xqc 39 [yV t B m d y] 13 (shF y) _ (fun w R Q=>yM Zvv (Zri t B m d _ y _ Q.2)) fun b=>?_
 obtain⟨f,j,n,o⟩:=b
 refine xq 1 [] [yF 7 52 f j n o y] ?_
 refine xe (Zaa (Zac (Zac (Zab (xq 2 [eI2 15 s A l c] [] ?_)))))
 by_cases D:z1=0
 ·refine xqc 62 [vI2 s A l c] 16 (fun _:Unit=>.int .i64 0) _ (fun w R Q=>(Zbh _ z1 _ Q.1.1.2).mono (fun _ _ h=>Zag h (by rw[D];rfl))) fun b=>?_
  refine xq 1 [yB 17 true] [] ?_
  refine xe (Zaa (xa (Zac ?_)))
  refine yO 6 Zam ?_
  refine xqg 3 [(18,.v (.pointer (some ⟨g,0,none⟩))),eI2 20 f j n o] ?_
  refine xqd 24 [.int .i64 1] 21 Zaz _ (fun w R Q=>yM ZaC (Zbu 1 _ (by decide) (by decide))) fun b=>?_
  obtain⟨Z,a0,b0,c0⟩:=b
  refine xqg 2 [yJ 23 y] ?_
  refine xz ?_
  obtain⟨r,H⟩:=yE (ZaK (decide (((-q))<0)) ((-q)).natAbs (1) (y) bits)
  refine Zbe 101 [.pointer (some ⟨g,0,none⟩),.agg #[.bool f,.slice j n o],.agg #[.bool Z,.slice a0 b0 c0],.int .i64 y] (d:=24) (shF r.e) (fun _=>#[.int .i64 (bits:Int),.int .i64 r.err]) (fun y w=>Zai w (Zaz y) (sg r.s r.m)) (fun _=>True) (fun w Q=>Q.1.1.1.1.1) (vJ _) (Or.inr rfl) (fun w R Q=>yM Zcr (show Calls _ _ _ _ (RetC w g (bits:Int) r) by rw[←H];exact Zcd g bits f j n o ((-q)) Z a0 b0 c0 (1) (y) _ Q.1.1.1.1.1 Q.1.1.2 Q.2 (uA (by rw[qA];exact F) (by decide)) (uA ml_1 (by decide)) (by decide) (by omega) (by omega) (by omega) (by omega))) (fun _ _ _ _=>trivial) fun b=>?_
  obtain⟨L,M,N,O⟩:=b
  refine xr 1 [(0,.v (.pointer (some ⟨g,0,none⟩))),(5,.p 5 0),(7,.p 7 0),(8,.p 8 0)] [yF 7 52 f j n o y,yF 8 52 L M N O r.e,yF 5 52 s A l c x] ?_
  refine xe (Zaa (Zaf (Zae ?_)))
  refine yR (yV L M N O r.e) fun w' R Q=>?_
  rw[show rsum z1 x (-q) y bits=ZaK (decide ((-q)<0)) ((-q)).natAbs 1 y bits from uP D,H]
  exact⟨(L,M,N,O),rfl,Q.2,R,Q.1.2⟩
 refine xqc 62 [vI2 s A l c] 16 (fun _:Unit=>.int .i64 (Int.sign z1)) _ (fun w R Q=>yN (Zbh _ z1 _ Q.1.1.2)) fun b=>?_
 refine xq 1 [yB 17 (((Int.sign z1):Int) == 0)] [] ?_
 rw[(show (((Int.sign z1):Int) == 0)=false by have:=mt vM.1 D;simpa using this)]
 refine xe (Zaa (xb (Zal (Zaa (Zac (Zac (Zab (xq 2 [eI2 26 f j n o] [] ?_))))))))
 by_cases G:(-q)=0
 ·refine xqc 62 [vI2 f j n o] 27 (fun _:Unit=>.int .i64 0) _ (fun w R Q=>(Zbh _ (-q) _ Q.1.2).mono (fun _ _ h=>Zag h (by rw[G];rfl))) fun b=>?_
  refine xq 1 [yB 28 true] [] ?_
  refine xe (Zaa (xa (Zac ?_)))
  refine yO 6 Zam ?_
  refine xqg 3 [(29,.v (.pointer (some ⟨g,0,none⟩))),eI2 31 s A l c] ?_
  refine xqd 24 [.int .i64 1] 32 Zaz _ (fun w R Q=>yM ZaC (Zbu 1 _ (by decide) (by decide))) fun b=>?_
  obtain⟨d0,e0,f0,g0⟩:=b
  refine xqg 2 [yJ 34 x] ?_
  refine xz ?_
  obtain⟨z,I⟩:=yE (ZaK (decide (z1<0)) (z1).natAbs (1) (x) bits)
  refine Zbe 101 [.pointer (some ⟨g,0,none⟩),.agg #[.bool s,.slice A l c],.agg #[.bool d0,.slice e0 f0 g0],.int .i64 x] (d:=35) (shF z.e) (fun _=>#[.int .i64 (bits:Int),.int .i64 z.err]) (fun y w=>Zai w (Zaz y) (sg z.s z.m)) (fun _=>True) (fun w Q=>Q.1.1.1.1.1.1) (vJ _) (Or.inr rfl) (fun w R Q=>yM Zcr (show Calls _ _ _ _ (RetC w g (bits:Int) z) by rw[←I];exact Zcd g bits s A l c (z1) d0 e0 f0 g0 (1) (x) _ Q.1.1.1.1.1.1 Q.1.1.1.1.1.2 Q.2 (uA E (by decide)) (uA ml_1 (by decide)) (by decide) (by omega) (by omega) (by omega) (by omega))) (fun _ _ _ _=>trivial) fun b=>?_
  obtain⟨P,S,T,U⟩:=b
  refine xr 1 [(0,.v (.pointer (some ⟨g,0,none⟩))),(5,.p 5 0),(7,.p 7 0),(8,.p 8 0)] [yF 7 52 f j n o y,yF 8 52 P S T U z.e,yF 5 52 s A l c x] ?_
  refine xe (Zaa (Zaf (Zae ?_)))
  refine yR (yV P S T U z.e) fun w' R Q=>?_
  rw[show rsum z1 x (-q) y bits=ZaK (decide (z1<0)) z1.natAbs 1 x bits by unfold rsum;rw[uN D,uP G],I]
  exact⟨(P,S,T,U),rfl,Q.2,R,Q.1.2⟩
 refine xqc 62 [vI2 f j n o] 27 (fun _:Unit=>.int .i64 (Int.sign (-q))) _ (fun w R Q=>yN (Zbh _ (-q) _ Q.1.2)) fun b=>?_
 refine xq 1 [yB 28 (((Int.sign (-q)):Int) == 0)] [] ?_
 rw[(show (((Int.sign (-q)):Int) == 0)=false by have:=mt vM.1 G;simpa using this)]
 refine xe (Zaa (xb (Zal (Zaa (Zac ?_)))))
 obtain⟨a,J⟩:=yE (min x y)
 obtain⟨u,hu⟩:∃ u:Nat,x-a=u:=uV (by omega)
 obtain⟨v,hv⟩:∃ v:Nat,y-a=v:=uV (by omega)
 refine Zab (xq 5 [yJ 40 (if y<x then y else x)] [] ?_)
 rw[(show (if y<x then y else x)=a from Zhy.trans J)]
 refine xq 1 [yJ 9 a] [] ?_
 refine xe (Zaa (Zac ?_))
 refine ZeW 18 [0,0,2,0,8,0,56,126,0,256,0,1024,0,7168,16382,32766,65534,0] (by kernel_rfl) (by kernel_rfl) Zam ?_
 refine xqg 7 [(41,.v (.pointer (some ⟨g,0,none⟩))),eI2 43 s A l c,yJ 47 (IntKind.i64.wrap (x-a))] ?_
 rw[yW (x-a) ((u:Int)) (by omega)]
 refine xqd 25 [vI2 s A l c,.int .i64 (u:Int)] 48 Zaz _ (fun w R Q=>yM ZaC (Zdb _ z1 u _ Q.1.1.1.1.2 (nfit (k:=1000) E (by decide)) (by omega))) fun b=>?_
 obtain⟨p0,q0,r0,s0⟩:=b
 refine xqg 6 [eI2 50 f j n o,yJ 54 (IntKind.i64.wrap (y-a))] ?_
 rw[yW (y-a) ((v:Int)) (by omega)]
 refine xqd 25 [vI2 f j n o,.int .i64 (v:Int)] 55 Zaz _ (fun w R Q=>yM ZaC (Zdb _ (-q) v _ Q.1.1.1.2 (nfit (k:=1000) (by rw[qA];exact F) (by decide)) (by omega))) fun b=>?_
 obtain⟨t0,u0,v0,w0⟩:=b
 refine xqd 77 [vI2 p0 q0 r0 s0,vI2 t0 u0 v0 w0] 56 Zaz _ (fun w R Q=>yM ZaC (ZhR _ _ (z1*2^u) ((-q)*2^v) _ Q.1.2 Q.2 (nfit (Zhb E (by omega)) (by decide)) (nfit (Zhb (by rw[qA];exact F) (by omega)) (by decide)))) fun b=>?_
 obtain⟨h0,i0,j0,k0⟩:=b
 refine xqd 24 [.int .i64 1] 57 Zaz _ (fun w R Q=>yM ZaC (Zbu 1 _ (by decide) (by decide))) fun b=>?_
 obtain⟨l0,m0,n0,o0⟩:=b
 refine xqg 1 [yJ 58 a] ?_
 refine xz ?_
 obtain⟨C,K⟩:=yE (ZaK (decide ((z1*2^u+(-q)*2^v)<0)) (z1*2^u+(-q)*2^v).natAbs (1) (a) bits)
 refine Zbe 101 [.pointer (some ⟨g,0,none⟩),.agg #[.bool h0,.slice i0 j0 k0],.agg #[.bool l0,.slice m0 n0 o0],.int .i64 a] (d:=59) (shF C.e) (fun _=>#[.int .i64 (bits:Int),.int .i64 C.err]) (fun y w=>Zai w (Zaz y) (sg C.s C.m)) (fun _=>True) (fun w Q=>Q.1.1.1.1.1.1.1.1.1) (vJ _) (Or.inr rfl) (fun w R Q=>yM Zcr (show Calls _ _ _ _ (RetC w g (bits:Int) C) by rw[←K];exact Zcd g bits h0 i0 j0 k0 (z1*2^u+(-q)*2^v) l0 m0 n0 o0 (1) (a) _ Q.1.1.1.1.1.1.1.1.1 Q.1.2 Q.2 (uA (ZsZ (Zhb E (by omega)) (Zhb (by rw[qA];exact F) (by omega))) (by decide)) (uA ml_1 (by decide)) (by decide) (by omega) (by omega) (by omega) (by omega))) (fun _ _ _ _=>trivial) fun b=>?_
 obtain⟨V,W,X,Y⟩:=b
 refine xr 1 [(8,.p 8 0)] [yF 8 52 V W X Y C.e] ?_
 refine xe (Zaa (Zaf ?_))
 refine yR (yV V W X Y C.e) fun w' R Q=>?_
 rw[Zoz D G J hu hv,K]
 exact⟨(V,W,X,Y),rfl,Q.2,R,Q.1.2⟩
theorem Zs7 (n:Int)(w:World)(c : -1000000000≤n)(d:n≤1000000000) :
 yA 131 #[.int .i64 n] w (RetV w (.int .i64 (n/2))):=by
 refine Zax (Φ:=fun w=>True) Tryz.func131 rfl (by kernel_rfl) (fun w' e=>trivial) ?_
 refine Zac (Zab (xq 1 [yJ 2 0] [] ?_))
 refine xe (Zaa (Zac (Zac (Zab (xq 2 [yB 4 (decide (n<0))] [] ?_)))))
 refine xe (Zaa ?_)
 refine yQ ((decide (n<0))) (fun a=>?_) fun a=>?_
 ·have b:=uC a
  refine Zac (Zab (xq 2 [yJ 6 (IntKind.i64.wrap (1-n))] [] ?_))
  rw[yW (1-n) (1-n) (by omega)]
  refine xq 1 [yJ 7 (IntKind.i64.wrap (((1-n)).tdiv 2))] [] ?_
  rw[show IntKind.i64.wrap ((1-n).tdiv 2)=(1-n).tdiv 2 by rw[tF (by omega),IntKind.wrap_i64];omega]
  refine xq 1 [(8,.v (.int .i64 (IntKind.i64.wrap (0-(((1-n).tdiv 2))))))] [] ?_
  rw[show IntKind.i64.wrap (0-((1-n).tdiv 2))=n/2 by rw[tF (by omega),IntKind.wrap_i64];omega]
  refine xq 1 [yJ 2 (n/2)] [] ?_
  refine xe (Zaa (Zaf (Zae ?_)))
  refine yR (.int .i64 (n/2)) fun w' R Q=>?_
  exact⟨rfl,R⟩
 have b:=uD a
 refine Zal (Zaa (Zac (Zab (xq 2 [yJ 10 (IntKind.i64.wrap ((n).tdiv 2))] [] ?_))))
 rw[show IntKind.i64.wrap ((n).tdiv 2)=n/2 by rw[tF (by omega),IntKind.wrap_i64];omega]
 refine xq 1 [yJ 2 (n/2)] [] ?_
 refine xe (Zaa (Zaf ?_))
 refine yR (.int .i64 (n/2)) fun w' R Q=>?_
 exact⟨rfl,R⟩
def sqR (m:Nat) (e:Int) (bits:Nat):FR:=if m=0 then Zjy else Zdw m e bits
theorem Zrk (g bits:Nat)(b:Bool)(A:Option Addr)(l c m:Nat)(e:Int)(w:World)(hC:CB w g ((bits:Nat):Int) 0)(hN:Zai w (.agg #[.bool b,.slice A l c]) ((m:Nat):Int))(hm:ml m≤1000)(J2 : -1000000≤e)(K2:e≤1000000)(g2:8≤bits)(hb:bits≤4096) :
 yA 90 #[.pointer (some ⟨g,0,none⟩), yV b A l c e] w (RetC w g ((bits:Nat):Int) (sqR m e bits)):=by
 refine Zch (fun i=>i=g) (Φ:=fun w=>(CB w g (bits:Int) 0∧Zai w (.agg #[.bool b,.slice A l c]) ((m:Int)))) Tryz.func90 rfl (by kernel_rfl) (fun w' hf=>⟨hC.ext hf,hN.ext hf⟩) ?_
 refine Zac ?_
 by_cases K:m=0
 ·refine Zab (xq 2 [(3,.p 3 0),(4,.p 4 0)] [yF 4 52 false none 0 0 0,yF 3 52 b A l c e] ?_)
  refine xe (Zaa (Zac (Zac (Zab (xq 2 [eI2 13 b A l c] [] ?_)))))
  refine xqc 62 [vI2 b A l c] 14 (fun _:Unit=>.int .i64 0) _ (fun w R Q=>(Zbh _ (m:Int) _ Q.2).mono (fun _ _ h=>Zag h (by rw[K];rfl))) fun o=>?_
  refine xq 1 [yB 15 true] [] ?_
  refine xe (Zaa (xa (Zac (Zab (xq 2 [] [] ?_)))))
  refine xe (Zaa (Zaf (Zae ?_)))
  refine yR (yV false none 0 0 0) fun w' R Q=>?_
  rw[show sqR m e bits=Zjy from uP K]
  exact⟨(false,none,0,0),rfl,Zai.nil _,R,Q.1.1⟩
 refine Zab (xq 2 [(3,.p 3 0),(4,.p 4 0)] [yF 4 52 false none 0 0 0,yF 3 52 b A l c e] ?_)
 refine xe (Zaa (Zac (Zac (Zab (xq 2 [eI2 13 b A l c] [] ?_)))))
 refine xqc 62 [vI2 b A l c] 14 (fun _:Unit=>.int .i64 1) _ (fun w R Q=>(Zbh _ (m:Int) _ Q.2).mono (fun _ _ h=>Zag h (by rw[rN (by omega)]))) fun o=>?_
 refine xq 1 [yB 15 false] [] ?_
 refine xe (Zaa (xb (Zal (Zaa (Zac ?_)))))
 obtain⟨k,hk⟩:=yE (sqK m e bits)
 obtain⟨s,hs⟩:=yE (e-2*k+2)
 have i2:=ZoA hk hs
 have L2:=Zkr hm
 have j2:sqK m e bits=(((blen m:Nat):Int)+e-1)/2-((bits:Int)-1):=rfl
 rw[hk] at j2
 refine yO 9 Zam ?_
 refine xqg 2 [eI2 18 b A l c] ?_
 refine xqd 37 [vI2 b A l c] 19 (fun _:Unit=>.int .i64 ((blen m:Nat):Int)) _ (fun w R Q=>yN (Zb1 _ _ _ Q.1.2 (nfit (mlc hm) (by decide)))) fun o=>?_
 refine xqg 3 [yJ 22 (IntKind.i64.wrap (((blen m:Nat):Int)+e))] ?_
 rw[yW (((blen m:Nat):Int)+e) (((blen m:Nat):Int)+e) (by omega)]
 refine xqg 1 [(23,.v (.int .i64 (IntKind.i64.wrap ((((blen m:Nat):Int)+e)-1))))] ?_
 rw[yW (((blen m:Nat):Int)+e-1) (((blen m:Nat):Int)+e-1) (by omega)]
 refine xqd 131 [.int .i64 (((blen m:Nat):Int)+e-1)] 24 (fun _:Unit=>.int .i64 ((((blen m:Nat):Int)+e-1)/2)) _ (fun w R Q=>yN (Zs7 (((blen m:Nat):Int)+e-1) _ (by omega) (by omega))) fun o=>?_
 refine xqg 1 [yJ 5 ((((blen m:Nat):Int)+e-1)/2)] ?_
 refine xz (xe (Zaa (Zac (Zab (xq 4 [yJ 25 ((((blen m:Nat):Int)+e-1)/2),(28,.v (.pointer (some ⟨g,0,none⟩)))] [] ?_)))))
 refine xqk 29 (.int .i64 (bits:Int)) (fun w R Q=>ZbA (t:=3) (x:=.tmp 28) (g:=g) (off:=0) (Blk.cell (Q.1.1.1.1) 0)) ?_
 refine xq 1 [yJ 30 (IntKind.i64.wrap ((bits:Int)-1))] [] ?_
 rw[yW ((bits:Int)-1) ((bits:Int)-1) (by omega)]
 refine xq 1 [(31,.v (.int .i64 (IntKind.i64.wrap (((((blen m:Nat):Int)+e-1)/2)-((bits:Int)-1)))))] [] ?_
 rw[show IntKind.i64.wrap (((((blen m:Nat):Int)+e-1)/2)-((bits:Int)-1))=k by rw[←hk];unfold sqK;rw[IntKind.wrap_i64];omega]
 refine xq 1 [yJ 6 k] [] ?_
 refine xe (Zaa (Zac (Zab (xq 4 [yJ 33 e,yJ 35 (IntKind.i64.wrap (2*k))] [] ?_))))
 rw[yW (2*k) (2*k) (by omega)]
 refine xr 1 [(0,.v (.pointer (some ⟨g,0,none⟩))),(3,.p 3 0),(4,.p 4 0),yJ 6 k,yJ 36 (IntKind.i64.wrap (e-(2*k)))] [yF 4 52 false none 0 0 0,yF 3 52 b A l c e] ?_
 rw[yW (e-(2*k)) (e-2*k) (by omega)]
 refine xq 1 [yJ 37 (IntKind.i64.wrap ((e-2*k)+2))] [] ?_
 rw[yW ((e-2*k)+2) (s) (by omega)]
 refine xq 1 [yJ 7 s] [] ?_
 refine xe (Zaa (Zac ?_))
 obtain⟨Y,hY⟩:=yE (fq m 1 (-s))
 obtain⟨k2,M2⟩:=Zs0 (by omega) g2 i2 hY
 have l2:ml Y≤300:=ZjE (by omega)
 obtain⟨r,hr⟩:=yE (isq Y)
 obtain⟨M0,N0⟩:=ZdV Y
 have m2:=Zs2 l2
 rw[hr] at M0 N0 k2 m2
 by_cases n2:0≤s
 ·obtain⟨j,rfl⟩:=uV n2
  refine Zab (xq 3 [eI2 39 b A l c,yJ 40 (j:Int)] [] ?_)
  refine xqc 25 [vI2 b A l c,.int .i64 (j:Int)] 41 Zaz _ (fun w R Q=>(Zdb _ (m:Int) j _ Q.1.1.1.2 (nfit (mlc hm) (by decide)) (by omega)).mono (fun _ _ h=>ZaC (by rw[show (m:Int)*2^j=(Y:Int) by rw[←hY,Zgm,tD,vT];rfl] at h;exact h))) fun o=>?_
  obtain⟨L,M,N,O⟩:=o
  refine xq 2 [(8,.p 8 0)] [bI2 8 32 L M N O] ?_
  refine xe (Zaa (Zac (Zab (xq 1 [eI2 42 L M N O] [] ?_))))
  refine xqc 132 [vI2 L M N O] 43 Zaz _ (fun w R Q=>yM ZaC (ZmM _ (Y:Int) r _ Q.2 (by omega) (by rw[uR];omega) (by rw[uR];exact M0) (by rw[uR];exact N0))) fun o=>?_
  obtain⟨q,f,a,n⟩:=o
  refine xq 2 [(9,.p 9 0)] [bI2 9 32 q f a n] ?_
  refine xe (Zaa (Zac ?_))
  by_cases r1:r*r=Y
  ·refine SXc.weak [(0,.v (.pointer (some ⟨g,0,none⟩))),(4,.p 4 0),yJ 6 k,yJ 7 (j:Int),(8,.p 8 0),(9,.p 9 0)] [(9,32,[.v (.bool q),.v (.slice f a n)]),(8,32,[.v (.bool L),.v (.slice M N O)]),yF 4 52 false none 0 0 0] (ZaE.of (by kernel_rfl)) (by kernel_rfl) (fun _ h=>h) ?_
   refine yO 11 Zam ?_
   refine xqg 2 [yB 45 (decide ((j:Int)≥0))] ?_
   rw[show decide ((j:Int)≥0)=true from uQ (by omega)]
   refine xqg 3 [yB 46 true,eI2 47 q f a n,eI2 48 q f a n] ?_
   refine xqd 74 [vI2 q f a n,vI2 q f a n] 49 Zaz _ (fun w R Q=>yM ZaC (Zov (x:=r) (r:=r) Q.2 Q.2 (by omega) (by omega))) fun o=>?_
   obtain⟨o2,p2,q2,r2⟩:=o
   refine xqg 1 [eI2 50 L M N O] ?_
   refine xqd 133 [vI2 o2 p2 q2 r2,vI2 L M N O] 51 (fun _:Unit=>.int .i64 (((r*r:Nat):Int)-(Y:Int)).sign) _ (fun w R Q=>yN (Zif (x:=r*r) (r:=Y) Q.2 Q.1.1.2 (uA (ZkS _ _) (by omega)) (by omega))) fun o=>?_
   refine xqg 1 [(52,.v (.bool (((((r*r:Nat):Int)-(Y:Int)).sign:Int) == 0)))] ?_
   rw[show ((((r*r:Nat):Int)-(Y:Int)).sign == 0)=true from tA.2 (vM.2 (by omega))]
   refine xqg 2 [yB 10 true] ?_
   refine xz (xe (Zaa (Zac (Zac ?_))))
   have P:=Zwl hY (by omega) (by rw[hr];exact r1)
   by_cases G0:r%2=1
   ·by_cases N2:r/2%2=1
    ·refine Zab (xq 2 [eS1 55 f a n] [] ?_)
     refine xqk 56 (atA f 0) (fun w R Q=>(by obtain⟨E,F,B,h2,G,H⟩:=ZbK (Q.1.1.2) (z:=(r:Int)) (by omega);exact ZaO (t:=30) (e:=102) (x:=.tmp 55) (ix:=.const (.int .i64 0)) (len:=a) (cap:=n) (i:=0) H (by have h5:a=E.length:=G;omega))) ?_
     refine xqk 57 (.int .u32 (((r)%W32:Nat):Int)) (fun w R Q=>(by obtain⟨E,F,B,h2,G,H⟩:=ZbK (Q.1.1.2) (z:=(r:Int)) (by omega);rw[uR] at h2;rw[←h2];exact ZaW (t:=102) (x:=.tmp 56) F (j:=0) B)) ?_
     refine xqk 58 (.int .u32 (((r)%W32%2:Nat):Int)) (fun w R Q=>Zcy (t:=102) (k:=102) (x:=.tmp 57) (y:=.const (.int .u32 1)) (by kernel_rfl) (by kernel_rfl) (by kernel_rfl) (by have:=uM (r) (show 0<W32 by rw[Zap];decide);rw[Zap] at this ⊢;exact this)) ?_
     refine xq 1 [(59,.v (.bool (((((r)%W32%2:Nat):Int):Int) == 1)))] [] ?_
     rw[(show ((((r)%W32%2:Nat):Int) == 1)=true from tA.2 (by rw[Zap];omega))]
     refine xe (Zaa (xa (Zac (Zab (xq 1 [eI2 60 q f a n] [] ?_)))))
     refine xqc 25 [vI2 q f a n,.int .i64 (-1)] 61 Zaz _ (fun w R Q=>yM ZaC (Zex (x:=r) Q.1.1.2 (by omega) (by omega))) fun o=>?_
     obtain⟨g0,T,I,U⟩:=o
     refine xq 2 [(11,.p 11 0)] [bI2 11 32 g0 T I U] ?_
     refine xe (Zaa (Zac (Zac ?_)))
     refine SXc.know (p:=0<I) (fun w _ Q=>(Q.2).lenp (by omega)) fun s2=>?_
     refine Zab (xq 7 [yB 64 false,yB 68 (decide ((I:Int)>0))] [] ?_)
     rw[show decide ((I:Int)>0)=true from uQ (by omega)]
     refine xq 3 [yB 69 true,eS1 71 T I U] [] ?_
     refine xqk 72 (atA T 0) (fun w R Q=>(by obtain⟨E,F,B,h2,G,H⟩:=ZbK (Q.2) (z:=((r/2^1:Nat):Int)) (by omega);exact ZaO (t:=30) (e:=102) (x:=.tmp 71) (ix:=.const (.int .i64 0)) (len:=I) (cap:=U) (i:=0) H (by have h5:I=E.length:=G;omega))) ?_
     refine xqk 73 (.int .u32 (((r/2^1)%W32:Nat):Int)) (fun w R Q=>(by obtain⟨E,F,B,h2,G,H⟩:=ZbK (Q.2) (z:=((r/2^1:Nat):Int)) (by omega);rw[uR] at h2;rw[←h2];exact ZaW (t:=102) (x:=.tmp 72) F (j:=0) B)) ?_
     refine xqk 74 (.int .u32 (((r/2^1)%W32%2:Nat):Int)) (fun w R Q=>Zcy (t:=102) (k:=102) (x:=.tmp 73) (y:=.const (.int .u32 1)) (by kernel_rfl) (by kernel_rfl) (by kernel_rfl) (by have:=uM (r/2^1) (show 0<W32 by rw[Zap];decide);rw[Zap] at this ⊢;exact this)) ?_
     refine xq 1 [(75,.v (.bool (((((r/2^1)%W32%2:Nat):Int):Int) == 1)))] [] ?_
     rw[(show ((((r/2^1)%W32%2:Nat):Int) == 1)=true from tA.2 (by rw[Zap];omega))]
     refine xr 2 [(0,.v (.pointer (some ⟨g,0,none⟩))),(4,.p 4 0),yJ 6 k,(9,.p 9 0),(11,.p 11 0),yB 77 true] [bI2 11 32 g0 T I U,bI2 9 32 q f a n,yF 4 52 false none 0 0 0] ?_
     refine xe (Zaa (xa ?_))
     refine yO 4 Zam ?_
     refine xqg 1 [eI2 78 g0 T I U] ?_
     refine xqd 24 [.int .i64 1] 79 Zaz _ (fun w R Q=>yM ZaC (Zbu 1 _ (by decide) (by decide))) fun o=>?_
     obtain⟨t2,u2,v2,w2⟩:=o
     refine xqd 77 [vI2 g0 T I U,vI2 t2 u2 v2 w2] 80 Zaz _ (fun w R Q=>yM ZaC (ZfD (x:=r/2^1) (r:=1) Q.1.2 Q.2 (uA (Za4 (uO _ _)) (by omega)) (uA ml_1 (by decide)))) fun o=>?_
     obtain⟨h0,i0,j0,k0⟩:=o
     refine xqf 1 [] [bI2 11 32 h0 i0 j0 k0,bI2 11 32 g0 T I U,bI2 9 32 q f a n,yF 4 52 false none 0 0 0] ?_
     refine xz (xe (Zaa (Zac (Zab (xq 3 [(81,.v (.pointer (some ⟨g,0,none⟩))),eI2 82 h0 i0 j0 k0,yJ 83 k] [bI2 11 32 h0 i0 j0 k0] ?_)))))
     refine xqc 135 [vI2 h0 i0 j0 k0,.int .i64 k] 84 (shF (k+((tzn (r/2^1+1):Nat):Int))) _ (fun w R Q=>(ZcO h0 i0 j0 k0 ((r/2^1+1:Nat):Int) k _ Q.2 (by omega) (nfit (mlc (show ml (r/2^1+1)≤2000 from uA (Zgy (k:=1000) (uA (Za4 (uO _ _)) (by omega)) (uA ml_1 (by decide))) (by decide))) (by decide)) (by omega) (by omega)).mono (fun _ _ h=>ZdY (by rw[uR,show decide (((r/2^1+1:Nat):Int)<0)=false from uJ (by omega)] at h;exact h))) fun o=>?_
     obtain⟨s1,t1,u1,v1⟩:=o
     obtain⟨V,H0⟩:=yE (limR false (oddM (r/2^1+1)) ((k+((tzn (r/2^1+1):Nat):Int))))
     refine Zbe 134 [.pointer (some ⟨g,0,none⟩), yV s1 t1 u1 v1 (k+((tzn (r/2^1+1):Nat):Int))] (d:=85) (shF V.e) (fun _=>#[.int .i64 (bits:Int),.int .i64 V.err]) (fun y w=>Zai w (Zaz y) (sg V.s V.m)) (fun _=>True) (fun w Q=>Q.1.1.1.1.1.1.1.1.1.1.1.1) (vJ _) (Or.inr rfl) (fun w R Q=>yM Zcr (show Calls _ _ _ _ (RetC w g (bits:Int) V) by rw[←H0];exact Zcs g bits s1 t1 u1 v1 false (oddM (r/2^1+1)) ((k+((tzn (r/2^1+1):Nat):Int))) _ Q.1.1.1.1.1.1.1.1.1.1.1.1 Q.2)) (fun _ _ _ _=>trivial) fun o=>?_
     obtain⟨O0,P0,Q0,R0⟩:=o
     refine xr 1 [(0,.v (.pointer (some ⟨g,0,none⟩))),(4,.p 4 0),yJ 6 k,(9,.p 9 0)] [bI2 9 32 q f a n,yF 4 52 O0 P0 Q0 R0 V.e] ?_
     refine xe (Zaa (Zaf (Zae ?_)))
     refine yR (yV O0 P0 Q0 R0 V.e) fun w' R Q=>?_
     rw[show sqR m e bits=Zdw m e bits from uN K,Zey hk hs hY P (X:=r/2^1+1) (by rw[hr,Zkh (by omega) (by first|exact Or.inr rfl | (left;omega))]) (by omega),H0]
     exact⟨(O0,P0,Q0,R0),rfl,Q.2,R,Q.1.2⟩
    refine Zab (xq 2 [eS1 55 f a n] [] ?_)
    refine xqk 56 (atA f 0) (fun w R Q=>(by obtain⟨E,F,B,h2,G,H⟩:=ZbK (Q.1.1.2) (z:=(r:Int)) (by omega);exact ZaO (t:=30) (e:=102) (x:=.tmp 55) (ix:=.const (.int .i64 0)) (len:=a) (cap:=n) (i:=0) H (by have h5:a=E.length:=G;omega))) ?_
    refine xqk 57 (.int .u32 (((r)%W32:Nat):Int)) (fun w R Q=>(by obtain⟨E,F,B,h2,G,H⟩:=ZbK (Q.1.1.2) (z:=(r:Int)) (by omega);rw[uR] at h2;rw[←h2];exact ZaW (t:=102) (x:=.tmp 56) F (j:=0) B)) ?_
    refine xqk 58 (.int .u32 (((r)%W32%2:Nat):Int)) (fun w R Q=>Zcy (t:=102) (k:=102) (x:=.tmp 57) (y:=.const (.int .u32 1)) (by kernel_rfl) (by kernel_rfl) (by kernel_rfl) (by have:=uM (r) (show 0<W32 by rw[Zap];decide);rw[Zap] at this ⊢;exact this)) ?_
    refine xq 1 [(59,.v (.bool (((((r)%W32%2:Nat):Int):Int) == 1)))] [] ?_
    rw[(show ((((r)%W32%2:Nat):Int) == 1)=true from tA.2 (by rw[Zap];omega))]
    refine xe (Zaa (xa (Zac (Zab (xq 1 [eI2 60 q f a n] [] ?_)))))
    refine xqc 25 [vI2 q f a n,.int .i64 (-1)] 61 Zaz _ (fun w R Q=>yM ZaC (Zex (x:=r) Q.1.1.2 (by omega) (by omega))) fun o=>?_
    obtain⟨l0,W,J,Z⟩:=o
    refine xq 2 [(11,.p 11 0)] [bI2 11 32 l0 W J Z] ?_
    refine xe (Zaa (Zac (Zac ?_)))
    refine SXc.know (p:=0<J) (fun w _ Q=>(Q.2).lenp (by omega)) fun s2=>?_
    refine Zab (xq 7 [yB 64 false,yB 68 (decide ((J:Int)>0))] [] ?_)
    rw[show decide ((J:Int)>0)=true from uQ (by omega)]
    refine xq 3 [yB 69 true,eS1 71 W J Z] [] ?_
    refine xqk 72 (atA W 0) (fun w R Q=>(by obtain⟨E,F,B,h2,G,H⟩:=ZbK (Q.2) (z:=((r/2^1:Nat):Int)) (by omega);exact ZaO (t:=30) (e:=102) (x:=.tmp 71) (ix:=.const (.int .i64 0)) (len:=J) (cap:=Z) (i:=0) H (by have h5:J=E.length:=G;omega))) ?_
    refine xqk 73 (.int .u32 (((r/2^1)%W32:Nat):Int)) (fun w R Q=>(by obtain⟨E,F,B,h2,G,H⟩:=ZbK (Q.2) (z:=((r/2^1:Nat):Int)) (by omega);rw[uR] at h2;rw[←h2];exact ZaW (t:=102) (x:=.tmp 72) F (j:=0) B)) ?_
    refine xqk 74 (.int .u32 (((r/2^1)%W32%2:Nat):Int)) (fun w R Q=>Zcy (t:=102) (k:=102) (x:=.tmp 73) (y:=.const (.int .u32 1)) (by kernel_rfl) (by kernel_rfl) (by kernel_rfl) (by have:=uM (r/2^1) (show 0<W32 by rw[Zap];decide);rw[Zap] at this ⊢;exact this)) ?_
    refine xq 1 [(75,.v (.bool (((((r/2^1)%W32%2:Nat):Int):Int) == 1)))] [] ?_
    rw[(show ((((r/2^1)%W32%2:Nat):Int) == 1)=false from tG.2 (by rw[Zap];omega))]
    refine xr 2 [(0,.v (.pointer (some ⟨g,0,none⟩))),(4,.p 4 0),yJ 6 k,(9,.p 9 0),(11,.p 11 0),yB 77 false] [bI2 11 32 l0 W J Z,bI2 9 32 q f a n,yF 4 52 false none 0 0 0] ?_
    refine xe (Zaa (xb (Zal (Zaa (Zac (Zab (xq 3 [(81,.v (.pointer (some ⟨g,0,none⟩))),eI2 82 l0 W J Z,yJ 83 k] [] ?_)))))))
    refine xqc 135 [vI2 l0 W J Z,.int .i64 k] 84 (shF (k+((tzn (r/2^1):Nat):Int))) _ (fun w R Q=>(ZcO l0 W J Z ((r/2^1:Nat):Int) k _ Q.2 (by omega) (nfit (mlc (show ml (r/2^1)≤2000 from uA (Za4 (uO _ _)) (by omega))) (by decide)) (by omega) (by omega)).mono (fun _ _ h=>ZdY (by rw[uR,show decide (((r/2^1:Nat):Int)<0)=false from uJ (by omega)] at h;exact h))) fun o=>?_
    obtain⟨w1,x1,y1,z1⟩:=o
    obtain⟨a0,hr20⟩:=yE (limR false (oddM (r/2^1)) ((k+((tzn (r/2^1):Nat):Int))))
    refine Zbe 134 [.pointer (some ⟨g,0,none⟩), yV w1 x1 y1 z1 (k+((tzn (r/2^1):Nat):Int))] (d:=85) (shF a0.e) (fun _=>#[.int .i64 (bits:Int),.int .i64 a0.err]) (fun y w=>Zai w (Zaz y) (sg a0.s a0.m)) (fun _=>True) (fun w Q=>Q.1.1.1.1.1.1.1.1.1.1) (vJ _) (Or.inr rfl) (fun w R Q=>yM Zcr (show Calls _ _ _ _ (RetC w g (bits:Int) a0) by rw[←hr20];exact Zcs g bits w1 x1 y1 z1 false (oddM (r/2^1)) ((k+((tzn (r/2^1):Nat):Int))) _ Q.1.1.1.1.1.1.1.1.1.1 Q.2)) (fun _ _ _ _=>trivial) fun o=>?_
    obtain⟨S0,T0,U0,V0⟩:=o
    refine xr 1 [(0,.v (.pointer (some ⟨g,0,none⟩))),(4,.p 4 0),yJ 6 k,(9,.p 9 0)] [bI2 9 32 q f a n,yF 4 52 S0 T0 U0 V0 a0.e] ?_
    refine xe (Zaa (Zaf (Zae ?_)))
    refine yR (yV S0 T0 U0 V0 a0.e) fun w' R Q=>?_
    rw[show sqR m e bits=Zdw m e bits from uN K,Zey hk hs hY P (X:=r/2^1) (by rw[hr,ZhZ (by rintro⟨B,h2|h2⟩;omega;cases h2)]) (by omega),hr20]
    exact⟨(S0,T0,U0,V0),rfl,Q.2,R,Q.1.2⟩
   refine Zab (xq 2 [eS1 55 f a n] [] ?_)
   refine xqk 56 (atA f 0) (fun w R Q=>(by obtain⟨E,F,B,h2,G,H⟩:=ZbK (Q.1.1.2) (z:=(r:Int)) (by omega);exact ZaO (t:=30) (e:=102) (x:=.tmp 55) (ix:=.const (.int .i64 0)) (len:=a) (cap:=n) (i:=0) H (by have h5:a=E.length:=G;omega))) ?_
   refine xqk 57 (.int .u32 (((r)%W32:Nat):Int)) (fun w R Q=>(by obtain⟨E,F,B,h2,G,H⟩:=ZbK (Q.1.1.2) (z:=(r:Int)) (by omega);rw[uR] at h2;rw[←h2];exact ZaW (t:=102) (x:=.tmp 56) F (j:=0) B)) ?_
   refine xqk 58 (.int .u32 (((r)%W32%2:Nat):Int)) (fun w R Q=>Zcy (t:=102) (k:=102) (x:=.tmp 57) (y:=.const (.int .u32 1)) (by kernel_rfl) (by kernel_rfl) (by kernel_rfl) (by have:=uM (r) (show 0<W32 by rw[Zap];decide);rw[Zap] at this ⊢;exact this)) ?_
   refine xq 1 [(59,.v (.bool (((((r)%W32%2:Nat):Int):Int) == 1)))] [] ?_
   rw[(show ((((r)%W32%2:Nat):Int) == 1)=false from tG.2 (by rw[Zap];omega))]
   refine xe (Zaa (xb (Zal (Zaa (Zac (Zab (xq 2 [(86,.v (.pointer (some ⟨g,0,none⟩))),eI2 87 q f a n] [] ?_)))))))
   refine xqc 25 [vI2 q f a n,.int .i64 (-1)] 88 Zaz _ (fun w R Q=>yM ZaC (Zex (x:=r) Q.1.1.2 (by omega) (by omega))) fun o=>?_
   obtain⟨A1,B1,C1,D1⟩:=o
   refine xq 1 [yJ 89 k] [] ?_
   refine xqc 135 [vI2 A1 B1 C1 D1,.int .i64 k] 90 (shF (k+((tzn (r/2^1):Nat):Int))) _ (fun w R Q=>(ZcO A1 B1 C1 D1 ((r/2^1:Nat):Int) k _ Q.2 (by omega) (nfit (mlc (show ml (r/2^1)≤2000 from uA (Za4 (uO _ _)) (by omega))) (by decide)) (by omega) (by omega)).mono (fun _ _ h=>ZdY (by rw[uR,show decide (((r/2^1:Nat):Int)<0)=false from uJ (by omega)] at h;exact h))) fun o=>?_
   obtain⟨E1,F1,G1,H1⟩:=o
   obtain⟨b0,hr23⟩:=yE (limR false (oddM (r/2^1)) ((k+((tzn (r/2^1):Nat):Int))))
   refine Zbe 134 [.pointer (some ⟨g,0,none⟩), yV E1 F1 G1 H1 (k+((tzn (r/2^1):Nat):Int))] (d:=91) (shF b0.e) (fun _=>#[.int .i64 (bits:Int),.int .i64 b0.err]) (fun y w=>Zai w (Zaz y) (sg b0.s b0.m)) (fun _=>True) (fun w Q=>Q.1.1.1.1.1.1.1.1.1.1) (vJ _) (Or.inr rfl) (fun w R Q=>yM Zcr (show Calls _ _ _ _ (RetC w g (bits:Int) b0) by rw[←hr23];exact Zcs g bits E1 F1 G1 H1 false (oddM (r/2^1)) ((k+((tzn (r/2^1):Nat):Int))) _ Q.1.1.1.1.1.1.1.1.1.1 Q.2)) (fun _ _ _ _=>trivial) fun o=>?_
   obtain⟨W0,X0,Y0,Z0⟩:=o
   refine xr 1 [(4,.p 4 0)] [yF 4 52 W0 X0 Y0 Z0 b0.e] ?_
   refine xe (Zaa (Zaf ?_))
   refine yR (yV W0 X0 Y0 Z0 b0.e) fun w' R Q=>?_
   rw[show sqR m e bits=Zdw m e bits from uN K,Zey hk hs hY P (X:=r/2^1) (by rw[hr,ZhZ (by rintro⟨B,h2|h2⟩;omega;cases h2)]) (by omega),hr23]
   exact⟨(W0,X0,Y0,Z0),rfl,Q.2,R,Q.1.2⟩
  refine SXc.weak [(0,.v (.pointer (some ⟨g,0,none⟩))),(4,.p 4 0),yJ 6 k,yJ 7 (j:Int),(8,.p 8 0),(9,.p 9 0)] [(9,32,[.v (.bool q),.v (.slice f a n)]),(8,32,[.v (.bool L),.v (.slice M N O)]),yF 4 52 false none 0 0 0] (ZaE.of (by kernel_rfl)) (by kernel_rfl) (fun _ h=>h) ?_
  refine yO 11 Zam ?_
  refine xqg 2 [yB 45 (decide ((j:Int)≥0))] ?_
  rw[show decide ((j:Int)≥0)=true from uQ (by omega)]
  refine xqg 3 [yB 46 true,eI2 47 q f a n,eI2 48 q f a n] ?_
  refine xqd 74 [vI2 q f a n,vI2 q f a n] 49 Zaz _ (fun w R Q=>yM ZaC (Zov (x:=r) (r:=r) Q.2 Q.2 (by omega) (by omega))) fun o=>?_
  obtain⟨x2,y2,z2,A2⟩:=o
  refine xqg 1 [eI2 50 L M N O] ?_
  refine xqd 133 [vI2 x2 y2 z2 A2,vI2 L M N O] 51 (fun _:Unit=>.int .i64 (((r*r:Nat):Int)-(Y:Int)).sign) _ (fun w R Q=>yN (Zif (x:=r*r) (r:=Y) Q.2 Q.1.1.2 (uA (ZkS _ _) (by omega)) (by omega))) fun o=>?_
  refine xqg 1 [(52,.v (.bool (((((r*r:Nat):Int)-(Y:Int)).sign:Int) == 0)))] ?_
  rw[show ((((r*r:Nat):Int)-(Y:Int)).sign == 0)=false from tG.2 (fun e'=>by have:=vM.1 e';omega)]
  refine xqg 2 [yB 10 false] ?_
  refine xz (xe (Zaa (Zac (Zac ?_))))
  have P:=Zs1 hY (Or.inr (by rw[hr];exact r1))
  by_cases G0:r%2=1
  ·refine Zab (xq 2 [eS1 55 f a n] [] ?_)
   refine xqk 56 (atA f 0) (fun w R Q=>(by obtain⟨E,F,B,h2,G,H⟩:=ZbK (Q.1.1.2) (z:=(r:Int)) (by omega);exact ZaO (t:=30) (e:=102) (x:=.tmp 55) (ix:=.const (.int .i64 0)) (len:=a) (cap:=n) (i:=0) H (by have h5:a=E.length:=G;omega))) ?_
   refine xqk 57 (.int .u32 (((r)%W32:Nat):Int)) (fun w R Q=>(by obtain⟨E,F,B,h2,G,H⟩:=ZbK (Q.1.1.2) (z:=(r:Int)) (by omega);rw[uR] at h2;rw[←h2];exact ZaW (t:=102) (x:=.tmp 56) F (j:=0) B)) ?_
   refine xqk 58 (.int .u32 (((r)%W32%2:Nat):Int)) (fun w R Q=>Zcy (t:=102) (k:=102) (x:=.tmp 57) (y:=.const (.int .u32 1)) (by kernel_rfl) (by kernel_rfl) (by kernel_rfl) (by have:=uM (r) (show 0<W32 by rw[Zap];decide);rw[Zap] at this ⊢;exact this)) ?_
   refine xq 1 [(59,.v (.bool (((((r)%W32%2:Nat):Int):Int) == 1)))] [] ?_
   rw[(show ((((r)%W32%2:Nat):Int) == 1)=true from tA.2 (by rw[Zap];omega))]
   refine xe (Zaa (xa (Zac (Zab (xq 1 [eI2 60 q f a n] [] ?_)))))
   refine xqc 25 [vI2 q f a n,.int .i64 (-1)] 61 Zaz _ (fun w R Q=>yM ZaC (Zex (x:=r) Q.1.1.2 (by omega) (by omega))) fun o=>?_
   obtain⟨m0,n0,o0,p0⟩:=o
   refine xq 2 [(11,.p 11 0)] [bI2 11 32 m0 n0 o0 p0] ?_
   refine xe (Zaa (Zac (Zac (Zab (xq 16 [yB 77 true] [] ?_)))))
   refine xe (Zaa (xa ?_))
   refine SXc.weak [(0,.v (.pointer (some ⟨g,0,none⟩))),(4,.p 4 0),yJ 6 k,(9,.p 9 0),(11,.p 11 0)] [(11,32,[.v (.bool m0),.v (.slice n0 o0 p0)]),(9,32,[.v (.bool q),.v (.slice f a n)]),yF 4 52 false none 0 0 0] (ZaE.of (by kernel_rfl)) (by kernel_rfl) (fun _ h=>h) ?_
   refine yO 4 Zam ?_
   refine xqg 1 [eI2 78 m0 n0 o0 p0] ?_
   refine xqd 24 [.int .i64 1] 79 Zaz _ (fun w R Q=>yM ZaC (Zbu 1 _ (by decide) (by decide))) fun o=>?_
   obtain⟨B2,C2,D2,E2⟩:=o
   refine xqd 77 [vI2 m0 n0 o0 p0,vI2 B2 C2 D2 E2] 80 Zaz _ (fun w R Q=>yM ZaC (ZfD (x:=r/2^1) (r:=1) Q.1.2 Q.2 (uA (Za4 (uO _ _)) (by omega)) (uA ml_1 (by decide)))) fun o=>?_
   obtain⟨q0,r0,s0,t0⟩:=o
   refine xqf 1 [] [bI2 11 32 q0 r0 s0 t0,bI2 11 32 m0 n0 o0 p0,bI2 9 32 q f a n,yF 4 52 false none 0 0 0] ?_
   refine xz (xe (Zaa (Zac (Zab (xq 3 [(81,.v (.pointer (some ⟨g,0,none⟩))),eI2 82 q0 r0 s0 t0,yJ 83 k] [bI2 11 32 q0 r0 s0 t0] ?_)))))
   refine xqc 135 [vI2 q0 r0 s0 t0,.int .i64 k] 84 (shF (k+((tzn (r/2^1+1):Nat):Int))) _ (fun w R Q=>(ZcO q0 r0 s0 t0 ((r/2^1+1:Nat):Int) k _ Q.2 (by omega) (nfit (mlc (show ml (r/2^1+1)≤2000 from uA (Zgy (k:=1000) (uA (Za4 (uO _ _)) (by omega)) (uA ml_1 (by decide))) (by decide))) (by decide)) (by omega) (by omega)).mono (fun _ _ h=>ZdY (by rw[uR,show decide (((r/2^1+1:Nat):Int)<0)=false from uJ (by omega)] at h;exact h))) fun o=>?_
   obtain⟨I1,J1,K1,L1⟩:=o
   obtain⟨c0,I0⟩:=yE (limR false (oddM (r/2^1+1)) ((k+((tzn (r/2^1+1):Nat):Int))))
   refine Zbe 134 [.pointer (some ⟨g,0,none⟩), yV I1 J1 K1 L1 (k+((tzn (r/2^1+1):Nat):Int))] (d:=85) (shF c0.e) (fun _=>#[.int .i64 (bits:Int),.int .i64 c0.err]) (fun y w=>Zai w (Zaz y) (sg c0.s c0.m)) (fun _=>True) (fun w Q=>Q.1.1.1.1.1.1.1.1.1.1.1.1) (vJ _) (Or.inr rfl) (fun w R Q=>yM Zcr (show Calls _ _ _ _ (RetC w g (bits:Int) c0) by rw[←I0];exact Zcs g bits I1 J1 K1 L1 false (oddM (r/2^1+1)) ((k+((tzn (r/2^1+1):Nat):Int))) _ Q.1.1.1.1.1.1.1.1.1.1.1.1 Q.2)) (fun _ _ _ _=>trivial) fun o=>?_
   obtain⟨a1,b1,c1,d1⟩:=o
   refine xr 1 [(0,.v (.pointer (some ⟨g,0,none⟩))),(4,.p 4 0),yJ 6 k,(9,.p 9 0)] [bI2 9 32 q f a n,yF 4 52 a1 b1 c1 d1 c0.e] ?_
   refine xe (Zaa (Zaf (Zae ?_)))
   refine yR (yV a1 b1 c1 d1 c0.e) fun w' R Q=>?_
   rw[show sqR m e bits=Zdw m e bits from uN K,Zey hk hs hY P (X:=r/2^1+1) (by rw[hr,Zkh (by omega) (by first|exact Or.inr rfl | (left;omega))]) (by omega),I0]
   exact⟨(a1,b1,c1,d1),rfl,Q.2,R,Q.1.2⟩
  refine Zab (xq 2 [eS1 55 f a n] [] ?_)
  refine xqk 56 (atA f 0) (fun w R Q=>(by obtain⟨E,F,B,h2,G,H⟩:=ZbK (Q.1.1.2) (z:=(r:Int)) (by omega);exact ZaO (t:=30) (e:=102) (x:=.tmp 55) (ix:=.const (.int .i64 0)) (len:=a) (cap:=n) (i:=0) H (by have h5:a=E.length:=G;omega))) ?_
  refine xqk 57 (.int .u32 (((r)%W32:Nat):Int)) (fun w R Q=>(by obtain⟨E,F,B,h2,G,H⟩:=ZbK (Q.1.1.2) (z:=(r:Int)) (by omega);rw[uR] at h2;rw[←h2];exact ZaW (t:=102) (x:=.tmp 56) F (j:=0) B)) ?_
  refine xqk 58 (.int .u32 (((r)%W32%2:Nat):Int)) (fun w R Q=>Zcy (t:=102) (k:=102) (x:=.tmp 57) (y:=.const (.int .u32 1)) (by kernel_rfl) (by kernel_rfl) (by kernel_rfl) (by have:=uM (r) (show 0<W32 by rw[Zap];decide);rw[Zap] at this ⊢;exact this)) ?_
  refine xq 1 [(59,.v (.bool (((((r)%W32%2:Nat):Int):Int) == 1)))] [] ?_
  rw[(show ((((r)%W32%2:Nat):Int) == 1)=false from tG.2 (by rw[Zap];omega))]
  refine xe (Zaa (xb (Zal (Zaa (Zac (Zab (xq 2 [(86,.v (.pointer (some ⟨g,0,none⟩))),eI2 87 q f a n] [] ?_)))))))
  refine xqc 25 [vI2 q f a n,.int .i64 (-1)] 88 Zaz _ (fun w R Q=>yM ZaC (Zex (x:=r) Q.1.1.2 (by omega) (by omega))) fun o=>?_
  obtain⟨M1,N1,O1,P1⟩:=o
  refine xq 1 [yJ 89 k] [] ?_
  refine xqc 135 [vI2 M1 N1 O1 P1,.int .i64 k] 90 (shF (k+((tzn (r/2^1):Nat):Int))) _ (fun w R Q=>(ZcO M1 N1 O1 P1 ((r/2^1:Nat):Int) k _ Q.2 (by omega) (nfit (mlc (show ml (r/2^1)≤2000 from uA (Za4 (uO _ _)) (by omega))) (by decide)) (by omega) (by omega)).mono (fun _ _ h=>ZdY (by rw[uR,show decide (((r/2^1:Nat):Int)<0)=false from uJ (by omega)] at h;exact h))) fun o=>?_
  obtain⟨Q1,R1,S1,T1⟩:=o
  obtain⟨d0,J0⟩:=yE (limR false (oddM (r/2^1)) ((k+((tzn (r/2^1):Nat):Int))))
  refine Zbe 134 [.pointer (some ⟨g,0,none⟩), yV Q1 R1 S1 T1 (k+((tzn (r/2^1):Nat):Int))] (d:=91) (shF d0.e) (fun _=>#[.int .i64 (bits:Int),.int .i64 d0.err]) (fun y w=>Zai w (Zaz y) (sg d0.s d0.m)) (fun _=>True) (fun w Q=>Q.1.1.1.1.1.1.1.1.1.1) (vJ _) (Or.inr rfl) (fun w R Q=>yM Zcr (show Calls _ _ _ _ (RetC w g (bits:Int) d0) by rw[←J0];exact Zcs g bits Q1 R1 S1 T1 false (oddM (r/2^1)) ((k+((tzn (r/2^1):Nat):Int))) _ Q.1.1.1.1.1.1.1.1.1.1 Q.2)) (fun _ _ _ _=>trivial) fun o=>?_
  obtain⟨e1,f1,g1,i1⟩:=o
  refine xr 1 [(4,.p 4 0)] [yF 4 52 e1 f1 g1 i1 d0.e] ?_
  refine xe (Zaa (Zaf ?_))
  refine yR (yV e1 f1 g1 i1 d0.e) fun w' R Q=>?_
  rw[show sqR m e bits=Zdw m e bits from uN K,Zey hk hs hY P (X:=r/2^1) (by rw[hr,ZhZ (by rintro⟨B,h2|h2⟩;omega;omega)]) (by omega),J0]
  exact⟨(e1,f1,g1,i1),rfl,Q.2,R,Q.1.2⟩
 obtain⟨j,hj⟩:∃ j:Nat,s = -(j:Int):=⟨(-s).toNat,by omega⟩
 subst hj
 refine Zab (xq 3 [eI2 39 b A l c,yJ 40 (-(j:Int))] [] ?_)
 refine xqc 25 [vI2 b A l c,.int .i64 (-(j:Int))] 41 Zaz _ (fun w R Q=>(Zox _ (m:Int) j _ Q.1.1.1.2 (nfit (mlc hm) (by decide)) (by omega)).mono (fun _ _ h=>ZaC (by rw[show sg (decide ((m:Int)<0)) (((m:Int)).natAbs/2^j)=(Y:Int) by rw[←hY,Zvz,uJ (by omega),uR];rfl] at h;exact h))) fun o=>?_
 obtain⟨C0,D0,E0,F0⟩:=o
 refine xq 2 [(8,.p 8 0)] [bI2 8 32 C0 D0 E0 F0] ?_
 refine xe (Zaa (Zac (Zab (xq 1 [eI2 42 C0 D0 E0 F0] [] ?_))))
 refine xqc 132 [vI2 C0 D0 E0 F0] 43 Zaz _ (fun w R Q=>yM ZaC (ZmM _ (Y:Int) r _ Q.2 (by omega) (by rw[uR];omega) (by rw[uR];exact M0) (by rw[uR];exact N0))) fun o=>?_
 obtain⟨S,C,u,D⟩:=o
 refine xq 2 [(9,.p 9 0)] [bI2 9 32 S C u D] ?_
 refine xe (Zaa (Zac ?_))
 refine SXc.weak [(0,.v (.pointer (some ⟨g,0,none⟩))),(4,.p 4 0),yJ 6 k,yJ 7 (-(j:Int)),(8,.p 8 0),(9,.p 9 0)] [(9,32,[.v (.bool S),.v (.slice C u D)]),(8,32,[.v (.bool C0),.v (.slice D0 E0 F0)]),yF 4 52 false none 0 0 0] (ZaE.of (by kernel_rfl)) (by kernel_rfl) (fun _ h=>h) ?_
 refine yO 11 Zam ?_
 refine xqg 2 [(45,.v (.bool (decide ((-(j:Int))≥0))))] ?_
 rw[show decide ((-(j:Int))≥0)=false from uJ (by omega)]
 refine xqg 9 [yB 10 false] ?_
 refine xz (xe (Zaa (Zac (Zac ?_))))
 have P:=Zs1 hY (Or.inl (by omega))
 by_cases G0:r%2=1
 ·refine Zab (xq 2 [eS1 55 C u D] [] ?_)
  refine xqk 56 (atA C 0) (fun w R Q=>(by obtain⟨E,F,B,h2,G,H⟩:=ZbK (Q.2) (z:=(r:Int)) (by omega);exact ZaO (t:=30) (e:=102) (x:=.tmp 55) (ix:=.const (.int .i64 0)) (len:=u) (cap:=D) (i:=0) H (by have h5:u=E.length:=G;omega))) ?_
  refine xqk 57 (.int .u32 (((r)%W32:Nat):Int)) (fun w R Q=>(by obtain⟨E,F,B,h2,G,H⟩:=ZbK (Q.2) (z:=(r:Int)) (by omega);rw[uR] at h2;rw[←h2];exact ZaW (t:=102) (x:=.tmp 56) F (j:=0) B)) ?_
  refine xqk 58 (.int .u32 (((r)%W32%2:Nat):Int)) (fun w R Q=>Zcy (t:=102) (k:=102) (x:=.tmp 57) (y:=.const (.int .u32 1)) (by kernel_rfl) (by kernel_rfl) (by kernel_rfl) (by have:=uM (r) (show 0<W32 by rw[Zap];decide);rw[Zap] at this ⊢;exact this)) ?_
  refine xq 1 [(59,.v (.bool (((((r)%W32%2:Nat):Int):Int) == 1)))] [] ?_
  rw[(show ((((r)%W32%2:Nat):Int) == 1)=true from tA.2 (by rw[Zap];omega))]
  refine xe (Zaa (xa (Zac (Zab (xq 1 [eI2 60 S C u D] [] ?_)))))
  refine xqc 25 [vI2 S C u D,.int .i64 (-1)] 61 Zaz _ (fun w R Q=>yM ZaC (Zex (x:=r) Q.2 (by omega) (by omega))) fun o=>?_
  obtain⟨u0,v0,w0,x0⟩:=o
  refine xq 2 [(11,.p 11 0)] [bI2 11 32 u0 v0 w0 x0] ?_
  refine xe (Zaa (Zac (Zac (Zab (xq 16 [yB 77 true] [] ?_)))))
  refine xe (Zaa (xa ?_))
  refine SXc.weak [(0,.v (.pointer (some ⟨g,0,none⟩))),(4,.p 4 0),yJ 6 k,(9,.p 9 0),(11,.p 11 0)] [(11,32,[.v (.bool u0),.v (.slice v0 w0 x0)]),(9,32,[.v (.bool S),.v (.slice C u D)]),yF 4 52 false none 0 0 0] (ZaE.of (by kernel_rfl)) (by kernel_rfl) (fun _ h=>h) ?_
  refine yO 4 Zam ?_
  refine xqg 1 [eI2 78 u0 v0 w0 x0] ?_
  refine xqd 24 [.int .i64 1] 79 Zaz _ (fun w R Q=>yM ZaC (Zbu 1 _ (by decide) (by decide))) fun o=>?_
  obtain⟨F2,G2,H2,I2⟩:=o
  refine xqd 77 [vI2 u0 v0 w0 x0,vI2 F2 G2 H2 I2] 80 Zaz _ (fun w R Q=>yM ZaC (ZfD (x:=r/2^1) (r:=1) Q.1.2 Q.2 (uA (Za4 (uO _ _)) (by omega)) (uA ml_1 (by decide)))) fun o=>?_
  obtain⟨y0,z0,A0,B0⟩:=o
  refine xqf 1 [] [bI2 11 32 y0 z0 A0 B0,bI2 11 32 u0 v0 w0 x0,bI2 9 32 S C u D,yF 4 52 false none 0 0 0] ?_
  refine xz (xe (Zaa (Zac (Zab (xq 3 [(81,.v (.pointer (some ⟨g,0,none⟩))),eI2 82 y0 z0 A0 B0,yJ 83 k] [bI2 11 32 y0 z0 A0 B0] ?_)))))
  refine xqc 135 [vI2 y0 z0 A0 B0,.int .i64 k] 84 (shF (k+((tzn (r/2^1+1):Nat):Int))) _ (fun w R Q=>(ZcO y0 z0 A0 B0 ((r/2^1+1:Nat):Int) k _ Q.2 (by omega) (nfit (mlc (show ml (r/2^1+1)≤2000 from uA (Zgy (k:=1000) (uA (Za4 (uO _ _)) (by omega)) (uA ml_1 (by decide))) (by decide))) (by decide)) (by omega) (by omega)).mono (fun _ _ h=>ZdY (by rw[uR,show decide (((r/2^1+1:Nat):Int)<0)=false from uJ (by omega)] at h;exact h))) fun o=>?_
  obtain⟨U1,V1,W1,X1⟩:=o
  obtain⟨e0,K0⟩:=yE (limR false (oddM (r/2^1+1)) ((k+((tzn (r/2^1+1):Nat):Int))))
  refine Zbe 134 [.pointer (some ⟨g,0,none⟩), yV U1 V1 W1 X1 (k+((tzn (r/2^1+1):Nat):Int))] (d:=85) (shF e0.e) (fun _=>#[.int .i64 (bits:Int),.int .i64 e0.err]) (fun y w=>Zai w (Zaz y) (sg e0.s e0.m)) (fun _=>True) (fun w Q=>Q.1.1.1.1.1.1.1.1.1.1) (vJ _) (Or.inr rfl) (fun w R Q=>yM Zcr (show Calls _ _ _ _ (RetC w g (bits:Int) e0) by rw[←K0];exact Zcs g bits U1 V1 W1 X1 false (oddM (r/2^1+1)) ((k+((tzn (r/2^1+1):Nat):Int))) _ Q.1.1.1.1.1.1.1.1.1.1 Q.2)) (fun _ _ _ _=>trivial) fun o=>?_
  obtain⟨j1,k1,l1,m1⟩:=o
  refine xr 1 [(0,.v (.pointer (some ⟨g,0,none⟩))),(4,.p 4 0),yJ 6 k,(9,.p 9 0)] [bI2 9 32 S C u D,yF 4 52 j1 k1 l1 m1 e0.e] ?_
  refine xe (Zaa (Zaf (Zae ?_)))
  refine yR (yV j1 k1 l1 m1 e0.e) fun w' R Q=>?_
  rw[show sqR m e bits=Zdw m e bits from uN K,Zey hk hs hY P (X:=r/2^1+1) (by rw[hr,Zkh (by omega) (by first|exact Or.inr rfl | (left;omega))]) (by omega),K0]
  exact⟨(j1,k1,l1,m1),rfl,Q.2,R,Q.1.2⟩
 refine Zab (xq 2 [eS1 55 C u D] [] ?_)
 refine xqk 56 (atA C 0) (fun w R Q=>(by obtain⟨E,F,B,h2,G,H⟩:=ZbK (Q.2) (z:=(r:Int)) (by omega);exact ZaO (t:=30) (e:=102) (x:=.tmp 55) (ix:=.const (.int .i64 0)) (len:=u) (cap:=D) (i:=0) H (by have h5:u=E.length:=G;omega))) ?_
 refine xqk 57 (.int .u32 (((r)%W32:Nat):Int)) (fun w R Q=>(by obtain⟨E,F,B,h2,G,H⟩:=ZbK (Q.2) (z:=(r:Int)) (by omega);rw[uR] at h2;rw[←h2];exact ZaW (t:=102) (x:=.tmp 56) F (j:=0) B)) ?_
 refine xqk 58 (.int .u32 (((r)%W32%2:Nat):Int)) (fun w R Q=>Zcy (t:=102) (k:=102) (x:=.tmp 57) (y:=.const (.int .u32 1)) (by kernel_rfl) (by kernel_rfl) (by kernel_rfl) (by have:=uM (r) (show 0<W32 by rw[Zap];decide);rw[Zap] at this ⊢;exact this)) ?_
 refine xq 1 [(59,.v (.bool (((((r)%W32%2:Nat):Int):Int) == 1)))] [] ?_
 rw[(show ((((r)%W32%2:Nat):Int) == 1)=false from tG.2 (by rw[Zap];omega))]
 refine xe (Zaa (xb (Zal (Zaa (Zac (Zab (xq 2 [(86,.v (.pointer (some ⟨g,0,none⟩))),eI2 87 S C u D] [] ?_)))))))
 refine xqc 25 [vI2 S C u D,.int .i64 (-1)] 88 Zaz _ (fun w R Q=>yM ZaC (Zex (x:=r) Q.2 (by omega) (by omega))) fun o=>?_
 obtain⟨Y1,Z1,a2,b2⟩:=o
 refine xq 1 [yJ 89 k] [] ?_
 refine xqc 135 [vI2 Y1 Z1 a2 b2,.int .i64 k] 90 (shF (k+((tzn (r/2^1):Nat):Int))) _ (fun w R Q=>(ZcO Y1 Z1 a2 b2 ((r/2^1:Nat):Int) k _ Q.2 (by omega) (nfit (mlc (show ml (r/2^1)≤2000 from uA (Za4 (uO _ _)) (by omega))) (by decide)) (by omega) (by omega)).mono (fun _ _ h=>ZdY (by rw[uR,show decide (((r/2^1:Nat):Int)<0)=false from uJ (by omega)] at h;exact h))) fun o=>?_
 obtain⟨c2,d2,e2,f2⟩:=o
 obtain⟨f0,L0⟩:=yE (limR false (oddM (r/2^1)) ((k+((tzn (r/2^1):Nat):Int))))
 refine Zbe 134 [.pointer (some ⟨g,0,none⟩), yV c2 d2 e2 f2 (k+((tzn (r/2^1):Nat):Int))] (d:=91) (shF f0.e) (fun _=>#[.int .i64 (bits:Int),.int .i64 f0.err]) (fun y w=>Zai w (Zaz y) (sg f0.s f0.m)) (fun _=>True) (fun w Q=>Q.1.1.1.1.1.1.1.1) (vJ _) (Or.inr rfl) (fun w R Q=>yM Zcr (show Calls _ _ _ _ (RetC w g (bits:Int) f0) by rw[←L0];exact Zcs g bits c2 d2 e2 f2 false (oddM (r/2^1)) ((k+((tzn (r/2^1):Nat):Int))) _ Q.1.1.1.1.1.1.1.1 Q.2)) (fun _ _ _ _=>trivial) fun o=>?_
 obtain⟨n1,o1,p1,q1⟩:=o
 refine xr 1 [(4,.p 4 0)] [yF 4 52 n1 o1 p1 q1 f0.e] ?_
 refine xe (Zaa (Zaf ?_))
 refine yR (yV n1 o1 p1 q1 f0.e) fun w' R Q=>?_
 rw[show sqR m e bits=Zdw m e bits from uN K,Zey hk hs hY P (X:=r/2^1) (by rw[hr,ZhZ (by rintro⟨B,h2|h2⟩;omega;omega)]) (by omega),L0]
 exact⟨(n1,o1,p1,q1),rfl,Q.2,R,Q.1.2⟩
theorem Zja {w w':World}{g:Nat}{bits:Int}{r:FR}{e:Ending}(h:RetC w g bits r e w'):∃ y:ShI,e=.returned (shF r.e y)∧Fr (fun i=>i=g) w w'∧Blk 84 w' g [Value.int .i64 bits,.int .i64 r.err].toArray∧(∀ c,c ∈ [Value.int .i64 bits,.int .i64 r.err]→Zcz (.v c)=true)∧BoxN w w' (fun w=>Zai w (Zaz y) (sg r.s r.m)):=by
 obtain⟨y,b,d,f,j⟩:=Zcr h
 refine⟨y,b,d,f,fun c a=>?_,j⟩
 simp at a
 rcases a with rfl|rfl<;>rfl
theorem Zqf {s:Bool}{n k:Nat}{e:Int}(h:ml n≤k):ml (Zbi s n e).m≤k:=by
 unfold Zbi
 split
 ·exact ZaY.2 (uU Zau)
 split
 ·exact uA (Za4 (uO _ _)) h
 exact ZaY.2 (uU Zau)
theorem ZvA {n d bits:Nat}(b:0<n)(c:0<d)(e:0<bits):rndM n d bits≤2^bits:=by
 have f:=Zf1 b c e
 have g:=(Zjx (fa n (rndK n d bits)) (fb d (rndK n d bits))).2
 have a:=ZcF (fq n d (rndK n d bits))
 rw[f] at a
 unfold rndM
 unfold fq at a
 omega
theorem ZhD {s:Bool}{n d bits:Nat}{e:Int}(a:0<d)(b:0<bits)(c:bits≤4096):ml (ZaK s n d e bits).m≤129:=by
 unfold ZaK
 split
 ·exact ZaY.2 (uU Zau)
 exact Zqf (uA (Za4 (ZvA (by omega) a b)) (ZsO (by omega)))
theorem Zjb {r:FR}(h:r.err=0):frT r=Lib.itoa (sg r.s r.m):=uP h
theorem Zjc {r:FR}(h:r.err=0):frE r=r.e:=uP h
theorem Zjd {r:FR}(h:r.err≠0):frT r=[]:=uN h
theorem Zje {r:FR}(h:r.err≠0):frE r=0:=uN h
theorem ZbT (b:Int)(w:World) :
 yA 58 #[.int .i64 b] w (RetV w (.bool (decide (8≤b∧b≤1024)))):=by
 refine Zax (Φ:=fun w=>True) Tryz.func58 rfl (by kernel_rfl) (fun w' d=>trivial) ?_
 refine Zac (Zab (xq 1 [yB 2 false] [] ?_))
 refine xe (Zaa (Zac (Zab (xq 3 [yB 5 (decide (b≥8))] [] ?_))))
 rcases bl2 ((decide (b≥8))) with a|a
 ·rw[a]
  have c:=uC a
  refine xq 4 [yB 2 (decide (b≤1024))] [] ?_
  refine xe (Zaa (Zaf ?_))
  refine yR (.bool (decide (b≤1024))) fun w' R Q=>?_
  exact⟨vG (fun b=>Ending.returned (Value.bool b)) (rP.2 ⟨fun h=>⟨by omega,h⟩,fun h=>h.2⟩),R⟩
 rw[a]
 have c:=uD a
 refine xq 4 [yB 2 false] [] ?_
 refine xe (Zaa (Zaf ?_))
 refine yR (.bool false) fun w' R Q=>?_
 exact⟨by rw[uJ (p:=8≤b∧b≤1024) (by omega)],R⟩
theorem Zs8 (s:Bool)(m i:Nat):sg s m*2^i=sg s (m*2^i):=by
 unfold sg
 split
 ·rw[tD,vT,Int.neg_mul];rfl
 rw[tD,vT];rfl
theorem Zs9 (s:Bool)(A:Option Addr)(l c x:Nat)(e:Int)(w:World)(f:Zaj w (.slice A l c) x)(d:0<x) :
 yA 120 #[yV s A l c e] w (RetV w (yV (!s) A l c e)):=by
 refine Zax (Φ:=fun w=>Zaj w (.slice A l c) (x)) Tryz.func120 rfl (by kernel_rfl) (fun w' g=>f.ext g) ?_
 refine Zac ?_
 have h:=f.len0
 have i:=Ziw d
 refine Zab (xq 2 [(1,.p 1 0),(2,.p 2 0)] [yF 2 79 false none 0 0 0,yF 1 79 s A l c e] ?_)
 refine xe (Zaa (Zac (Zac (Zab (xq 4 [yB 6 (decide ((l:Int)>0))] [] ?_)))))
 refine xe (Zaa ?_)
 refine yQ ((decide ((l:Int)>0))) (fun a=>?_) fun a=>?_
 ·have b:=uC a
  refine Zab (xq 5 [] [yF 1 79 (!s) A l c e] ?_)
  refine xe (Zaa (Zac (Zab (xq 2 [] [yF 2 79 (!s) A l c e] ?_))))
  refine xe (Zaa (Zaf ?_))
  refine yR (yV (!s) A l c e) fun w' R Q=>?_
  exact⟨rfl,R⟩
 have b:=uD a
 refine Zal (Zaa (Zac (Zab (xq 2 [] [yF 2 79 s A l c e] ?_))))
 refine xe (Zaa (Zaf ?_))
 refine yR (yV s A l c e) fun w' R Q=>?_
 exfalso;omega
theorem ZoB {n k:Nat}(h:wl n≤k):wl (isq n)≤k:=uA (Zbj (by
 have:=(ZdV n).1
 rcases uH (isq n) with e|e
 ·omega
 exact uA (Nat.le_mul_of_pos_left _ e) this)) h
theorem ZwF:isq 0=0:=ZnX (by decide) (by decide)
theorem nxw {n r:Nat}(a:wl r≤200001)(b:wl n≤200000):wl (r+n/r)≤200002:=ZkA a (uA (Zbj (uO _ _)) (by omega))
def ZdG (s:Bool) (m:Nat) (e:Int) (bits:Nat):FR:=if s=true then ⟨false,0,0,3⟩ else if m=0 then ⟨false,0,0,0⟩ else Zdw m e bits
def Zfm (a:FR) (bits:Nat):FR:=ZdG a.s a.m a.e bits
def ZcP (a b:FR) (bits:Nat):FR:=sumR a.s a.m a.e (if b.m=0 then b.s else !b.s) b.m b.e bits
def sqF (l:List UInt8) (x b:Int):FR:=if fvB l x=true then (if 8≤b∧b≤1024 then Zfm (ldR l x) b.toNat else ⟨false,0,0,3⟩) else ⟨false,0,0,1⟩
theorem ZvB {a b:Nat}(h:¬ a=b):(cmpI ((a:Nat):Int) ((b:Nat):Int) != 0)=true:=by
 rw[bne_iff_ne]
 rcases qC h with c|c
 ·rw[ZcD (by omega)];decide
 rw[Zdd (by omega)];decide
theorem ZvC {a b:Nat}(h:a=b):(cmpI ((a:Nat):Int) ((b:Nat):Int) != 0)=false:=by subst h;rw[ZgJ];rfl
theorem Zqg {m:Nat}{s:Int}{j:Nat}(h:s = -(j:Int)):fq m 1 (-s)=m/2^j:=by
 subst h
 unfold fq fa fb
 rw[show (- -(-(j:Int))).toNat=0 by omega,show (- -(j:Int)).toNat=j by omega];simp
theorem ZlZ {Y k:Nat}(h:blen Y≤64*k):wl Y≤k:=ZbZ.2 (by rw[show W64=2^64 by rw[Zao],← sZ];exact Zbg.1 h)
theorem Zwm {l:List UInt8}{x:Int}:(ldR l x).m=0∨(ldR l x).m%2=1:=by
 unfold ldR
 split
 ·rename_i h
  have a:=(ZpU h).2
  have b:(flM l).natAbs=Zak (ZaA l).2:=by unfold flM sg;split<;>omega
  rcases a with ⟨a,_⟩|⟨a,_⟩
  ·left;show Zak (ZaA l).2=0;omega
  right;show Zak (ZaA l).2%2=1;omega
 exact Or.inl rfl
theorem ZoC (r:Nat)(b:Bool):ZcA r 0 b≤r+1:=by
 unfold ZcA
 have:r/2^(0+1)≤r:=uO _ _
 split<;>omega
theorem Zuy (a:Int):a.tmod 2=0↔a%2=0:=by rw[←Int.dvd_iff_tmod_eq_zero,Int.dvd_iff_emod_eq_zero]
theorem Znj {a:Int}(h:a%2=0):a.tdiv 2=a/2:=by
 obtain⟨k,b⟩:∃ k,a=2*k:=⟨a/2,by omega⟩
 subst b
 rw[Int.mul_tdiv_cancel_left _ (by decide),Int.mul_ediv_cancel_left _ (by decide)]
theorem Zhc (A:Option Addr)(l c n:Nat)(w:World)(U:Zaj w (.slice A l c) n)(G:wl n≤200000) :
 yA 129 #[.slice A l c] w (Zbp w (isq n)):=by
 refine Zax (Φ:=fun w=>Zaj w (.slice A l c) (n)) Tryz.func129 rfl (by kernel_rfl) (fun w' Y=>U.ext Y) ?_
 refine Zac ?_
 have Z:=U.len0
 have a0:=@Zca n
 have J:=ZdN n
 obtain⟨K,L⟩:=ZdV n
 refine Zab (xq 1 [eS1 2 none 0 0] [] ?_)
 refine xe (Zaa (Zac (Zac (Zab (xq 3 [yB 9 (((l:Int):Int) == 0)] [] ?_)))))
 refine xe (Zaa ?_)
 refine yQ ((((l:Int):Int) == 0)) (fun h=>?_) fun h=>?_
 ·have B:=tA.1 h
  have I:n=0:=by omega
  refine Zac (Zab (xq 1 [eS1 2 none 0 0] [] ?_))
  refine xe (Zaa (Zaf (Zae ?_)))
  refine yR (.slice none 0 0) fun w' R Q=>?_
  exact⟨_,rfl,by rw[I,ZwF];exact Zaj.zero _,R⟩
 have B:=Zbo h
 have I:¬ n=0:=by omega
 refine Zal (Zaa (Zac (Zab ?_)))
 refine yD (d:=10) (fun M:Nat=>.slice (some ⟨M,0,none⟩) 1 1) (fun M zw=>Blk 94 zw M #[.int .u64 1]) (fun w R Q=>ZaZ (t:=77) (e:=94) (n:=1) (sz:=1) (z:=.int .u64 0) (parts:=#[(0,Operand.const (Value.int IntKind.u64 1))]) (by kernel_rfl) (by kernel_rfl) (by kernel_rfl) (by kernel_rfl) (by kernel_rfl) (by kernel_rfl)) fun H=>?_
 refine xr 1 [eS1 0 A l c,eS1 2 none 0 0,eS1 10 (some ⟨H,0,none⟩) 1 1,eS1 11 A l c] [] ?_
 refine xqc 65 [.slice A l c] 12 (fun _:Unit=>.int .i64 ((blen n:Nat):Int)) _ (fun w R Q=>yN (ZbV Q.1 (uA G (by decide)))) fun q=>?_
 refine xq 1 [yJ 13 (IntKind.i64.wrap (((blen n:Nat):Int)+1))] [] ?_
 rw[yW (((blen n:Nat):Int)+1) (((blen n+1:Nat):Int)) (by omega)]
 refine xq 1 [(14,.v (.int .i64 (IntKind.i64.wrap ((((blen n+1:Nat):Int)).tdiv 2))))] [] ?_
 rw[show IntKind.i64.wrap ((((blen n+1:Nat):Int)).tdiv 2)=(((blen n+1)/2:Nat):Int) from tdq _ 2 (by omega)]
 refine xqc 66 [.slice (some ⟨H,0,none⟩) 1 1,.int .i64 (((blen n+1)/2:Nat):Int)] 15 ZaJ _ (fun w R Q=>yM ZaD (Zdg ((blen n+1)/2) (ZdO Q.1.2) wl_1 (by omega))) fun q=>?_
 obtain⟨s,u,y⟩:=q
 refine xq 1 [eS1 3 s u y] [] ?_
 refine xe (Zaa (ZaH ?_))
 refine yC [eS1 0 A l c,eS1 2 none 0 0,eS1 3 s u y] [] (fun w=>(Zaj w (.slice A l c) (n)∧Zaj w (.slice s u y) ((1*2^((blen n+1)/2))))) (fun w Q=>⟨Q.1.1.1,Q.2⟩) ?_
 refine ZbI (fun V W X=>∃ (i:Option Addr) (j k r:Nat),W=ofL [eS1 0 A l c,eS1 2 none 0 0,eS1 3 i j k] []∧X=(fun w=>(Zaj w (.slice A l c) (n)∧Zaj w (.slice i j k) (r)))∧(n<(r+1)*(r+1))∧(0<r)∧(wl r≤200001)∧V=(1+r)) ((1+(1*2^((blen n+1)/2)))) ⟨s,u,y,(1*2^((blen n+1)/2)),rfl,rfl,(Zid (ZcF n)).1,(Zid (ZcF n)).2,(uA (ZwC (m:=wl n) J) (by omega)),rfl⟩ ?_
 rintro V W X ⟨i,j,k,r,rfl,rfl,N,C,o,rfl⟩
 refine ZaH (Zac (Zab (xq 2 [eS1 17 A l c,eS1 18 i j k] [] ?_)))
 refine xqc 142 [.slice A l c,.slice i j k] 19 (fun x:ShN×ShN=>.tuple #[ZaJ x.1,ZaJ x.2]) _ (fun w R Q=>yM ZsR (Zmw Q.1 Q.2 (uA G (by decide)) (uA o (by decide)) C)) fun q=>?_
 obtain⟨⟨D,E,F⟩,⟨b0,c0,d0⟩⟩:=q
 refine xq 5 [eS1 4 D E F] [] ?_
 refine xe (Zaa (Zac (Zab (xq 2 [eS1 22 i j k,eS1 23 D E F] [] ?_))))
 refine xqc 126 [.slice i j k,.slice D E F] 24 ZaJ _ (fun w R Q=>yM ZaD (Zcx Q.1.2 Q.2.1 (uA o (by decide)) (uA (Zbj (uO n r)) (uA G (by decide))))) fun q=>?_
 obtain⟨O,P,S⟩:=q
 refine xqc 128 [.slice O P S,.int .i64 1] 25 ZaJ _ (fun w R Q=>yM ZaD (Zdc 1 Q.2 (uA (nxw o G) (by decide)) (by decide))) fun q=>?_
 obtain⟨a,b,f⟩:=q
 refine xq 1 [eS1 6 a b f] [] ?_
 refine xe (Zaa (Zac (Zac (Zab (xq 2 [eS1 26 a b f,eS1 27 i j k] [] ?_)))))
 refine xqc 122 [.slice a b f,.slice i j k] 28 (fun _:Unit=>.int .i64 (cmpI (((r+n/r)/2^1:Nat):Int) (r:Int))) _ (fun w R Q=>yN (ZdM Q.2 Q.1.1.1.2 (uA (Zbj (uO _ _)) (uA (nxw o G) (by decide))))) fun q=>?_
 refine xq 1 [(29,.v (.bool (decide ((cmpI (((r+n/r)/2^1:Nat):Int) (r:Int))≥0))))] [] ?_
 refine xe (Zaa ?_)
 refine yQ ((decide ((cmpI (((r+n/r)/2^1:Nat):Int) (r:Int))≥0))) (fun p=>?_) fun p=>?_
 ·have g:=uC p
  have T:=@Zgn ((r+n/r)/2^1) r |>.1 g
  refine Zac (Zab (xq 2 [eS1 2 i j k] [] ?_))
  refine xe (Zaa (Zaf (Zae (Zbn (Zae (Zbn ?_))))))
  refine yR (.slice i j k) fun w' R Q=>?_
  exact⟨_,rfl,by rw[←ZsQ (r0:=isq n) (by omega) N K L];exact Q.1.1.1.1.2,R⟩
 have g:=uD p
 have T:=mt (@Zgn ((r+n/r)/2^1) r).2 g
 refine Zal (Zaa (Zab (xq 2 [eS1 3 a b f] [] ?_)))
 refine xe (Zbk ?_)
 refine yP [eS1 0 A l c,eS1 2 none 0 0,eS1 3 a b f] [] (fun w=>(Zaj w (.slice A l c) (n)∧Zaj w (.slice a b f) (((r+n/r)/2^1)))) (fun w Q=>⟨Q.1.1.1.1.1,Q.1.2⟩) ?_
 exact Za5 ((1+((r+n/r)/2^1))) (by omega) ⟨a,b,f,((r+n/r)/2^1),rfl,rfl,(ZjB C (sQ I)).1,(ZjB C (sQ I)).2,(uA (Zbj (by omega)) o),rfl⟩
theorem Zrl (Q R T:Nat)(a:Int)(A:Option Addr)(l c r:Nat)(B:Option Addr)(m d n:Nat)(w:World)(y:Blk 3 w Q #[.int .i64 a])(z:Blk 77 w R #[.slice A l c])(C:Blk 77 w T #[.slice B m d])(D:Zaj w (.slice A l c) r)(E:Zaj w (.slice B m d) n)(F:wl r≤1000000) :
 yA 130 #[.pointer (some ⟨Q,0,none⟩),.pointer (some ⟨R,0,none⟩),.pointer (some ⟨T,0,none⟩)] w (RetV w (.bool (decide (a<0∨r*r≠n)))):=by
 refine Zax (Φ:=fun w=>((((Blk 3 w Q #[.int .i64 a]∧Blk 77 w R #[.slice A l c])∧Blk 77 w T #[.slice B m d])∧Zaj w (.slice A l c) (r))∧Zaj w (.slice B m d) (n))) Tryz.func130 rfl (by kernel_rfl) (fun w' f=>⟨⟨⟨⟨y.ext f,z.ext f⟩,C.ext f⟩,D.ext f⟩,E.ext f⟩) ?_
 refine Zac (Zab (xq 1 [yB 3 false] [] ?_))
 refine xe (Zaa (Zac ?_))
 by_cases b:a<0
 ·refine yO 11 Zam ?_
  refine xqj 4 (.int .i64 a) (fun w S=>ZbA (t:=3) (x:=.tmp 0) (g:=Q) (off:=0) (Blk.cell (S.1.1.1.1) 0)) ?_
  refine xqg 1 [yB 5 (decide (a<0))] ?_
  rw[show decide (a<0)=true from uQ b]
  refine xqg 9 [yB 3 true] ?_
  refine xz (xe (Zaa (Zaf ?_)))
  refine yR (.bool true) fun w' U S=>?_
  exact⟨by rw[uQ (p:=a<0∨r*r≠n) (Or.inl b)],U⟩
 by_cases e:r*r=n
 ·refine yO 11 Zam ?_
  refine xqj 4 (.int .i64 a) (fun w S=>ZbA (t:=3) (x:=.tmp 0) (g:=Q) (off:=0) (Blk.cell (S.1.1.1.1) 0)) ?_
  refine xqg 1 [yB 5 (decide (a<0))] ?_
  rw[show decide (a<0)=false from uJ b]
  refine xqg 1 [yB 6 false] ?_
  refine xqj 7 (.slice A l c) (fun w S=>ZbA (t:=77) (x:=.tmp 1) (g:=R) (off:=0) (Blk.cell (S.1.1.1.2) 0)) ?_
  refine xqj 8 (.slice A l c) (fun w S=>ZbA (t:=77) (x:=.tmp 1) (g:=R) (off:=0) (Blk.cell (S.1.1.1.2) 0)) ?_
  refine xqd 124 [.slice A l c,.slice A l c] 9 ZaJ _ (fun w U S=>(Zh0 S.1.2 S.1.2 (by omega) (by omega)).mono (fun _ _=>ZaD)) fun i=>?_
  obtain⟨j,k,o⟩:=i
  refine xqj 10 (.slice B m d) (fun w S=>ZbA (t:=77) (x:=.tmp 2) (g:=T) (off:=0) (Blk.cell (S.1.1.2) 0)) ?_
  refine xqd 122 [.slice j k o,.slice B m d] 11 (fun _:Unit=>.int .i64 (cmpI ((r*r:Nat):Int) (n:Int))) _ (fun w U S=>(ZdM S.2 S.1.2 (uA (Zhj _ _) (by omega))).mono (fun _ _ h=>Zag h rfl)) fun i=>?_
  refine xqg 1 [(12,.v (.bool (((cmpI ((r*r:Nat):Int) (n:Int)):Int) != 0)))] ?_
  rw[ZvC e]
  refine xqg 2 [yB 3 false] ?_
  refine xz (xe (Zaa (Zaf ?_)))
  refine yR (.bool false) fun w' U S=>?_
  exact⟨by rw[uJ (p:=a<0∨r*r≠n) (by rintro (h|h);exact b h;exact h e)],U⟩
 refine yO 11 Zam ?_
 refine xqj 4 (.int .i64 a) (fun w S=>ZbA (t:=3) (x:=.tmp 0) (g:=Q) (off:=0) (Blk.cell (S.1.1.1.1) 0)) ?_
 refine xqg 1 [yB 5 (decide (a<0))] ?_
 rw[show decide (a<0)=false from uJ b]
 refine xqg 1 [yB 6 false] ?_
 refine xqj 7 (.slice A l c) (fun w S=>ZbA (t:=77) (x:=.tmp 1) (g:=R) (off:=0) (Blk.cell (S.1.1.1.2) 0)) ?_
 refine xqj 8 (.slice A l c) (fun w S=>ZbA (t:=77) (x:=.tmp 1) (g:=R) (off:=0) (Blk.cell (S.1.1.1.2) 0)) ?_
 refine xqd 124 [.slice A l c,.slice A l c] 9 ZaJ _ (fun w U S=>(Zh0 S.1.2 S.1.2 (by omega) (by omega)).mono (fun _ _=>ZaD)) fun i=>?_
 obtain⟨q,s,u⟩:=i
 refine xqj 10 (.slice B m d) (fun w S=>ZbA (t:=77) (x:=.tmp 2) (g:=T) (off:=0) (Blk.cell (S.1.1.2) 0)) ?_
 refine xqd 122 [.slice q s u,.slice B m d] 11 (fun _:Unit=>.int .i64 (cmpI ((r*r:Nat):Int) (n:Int))) _ (fun w U S=>(ZdM S.2 S.1.2 (uA (Zhj _ _) (by omega))).mono (fun _ _ h=>Zag h rfl)) fun i=>?_
 refine xqg 1 [(12,.v (.bool (((cmpI ((r*r:Nat):Int) (n:Int)):Int) != 0)))] ?_
 rw[ZvB e]
 refine xqg 2 [yB 3 true] ?_
 refine xz (xe (Zaa (Zaf ?_)))
 refine yR (.bool true) fun w' U S=>?_
 exact⟨by rw[uQ (p:=a<0∨r*r≠n) (Or.inr e)],U⟩
theorem Zgg (s:Bool)(A:Option Addr)(l c n:Nat)(e:Int)(bits:Nat)(Q R T:Nat)(sh:Int)(A1:Option Addr)(l1 c1 r:Nat)(B:Option Addr)(m d n1:Nat)(w:World)(hg:Glob w)(hN:Zaj w (.slice A l c) n)(I:wl n≤4294967296)(H0 : -576460752303423488≤e)(I0:e≤576460752303423488)(hb:bits≤4294967296)(hQ:Blk 3 w Q #[.int .i64 sh])(hR:Blk 77 w R #[.slice A1 l1 c1])(hT:Blk 77 w T #[.slice B m d])(hA:Zaj w (.slice A1 l1 c1) r)(hB:Zaj w (.slice B m d) n1)(G0:wl r≤1000000) :
 yA 123 #[.bool s,.slice A l c,.int .i64 e,.int .i64 ((bits:Nat):Int),.func (.func 130) #[] #[.pointer (some ⟨Q,0,none⟩),.pointer (some ⟨R,0,none⟩),.pointer (some ⟨T,0,none⟩)]] w (ZaX w (Zbv s n e bits (decide (sh<0∨r*r≠n1)))):=by
 refine Zax (Φ:=fun w=>((Glob w∧Zaj w (.slice A l c) (n))∧(((((Blk 3 w Q #[.int .i64 sh]∧Blk 77 w R #[.slice A1 l1 c1])∧Blk 77 w T #[.slice B m d])∧Zaj w (.slice A1 l1 c1) r)∧Zaj w (.slice B m d) n1)))) Tryz.func123 rfl (by kernel_rfl) (fun w' P=>⟨⟨hg.ext P,hN.ext P⟩,⟨⟨⟨⟨hQ.ext P,hR.ext P⟩,hT.ext P⟩,hA.ext P⟩,hB.ext P⟩⟩) ?_
 refine Zac ?_
 have J0:=Zlf I
 by_cases J:blen n≤bits
 ·obtain⟨k,hk⟩:∃ k,bits=blen n+k:=⟨bits-blen n,by omega⟩
  refine Zab (xq 2 [(10,.p 10 0),yJ 11 0] [yF 10 79 false none 0 0 0] ?_)
  refine xe (Zaa (Zac (Zab (xq 1 [eS1 14 A l c] [] ?_))))
  refine xqc 65 [.slice A l c] 15 (fun _:Unit=>.int .i64 ((blen n:Nat):Int)) _ (fun w U S=>(ZbV S.1.2 I).mono (fun _ _ h=>Zag h rfl)) fun g=>?_
  refine xq 2 [yJ 17 (IntKind.i64.wrap (((blen n:Nat):Int)-(bits:Int)))] [] ?_
  rw[show IntKind.i64.wrap (((blen n:Nat):Int)-(bits:Int)) = -(k:Int) by rw[IntKind.wrap_i64];omega]
  refine xq 1 [yJ 12 (-(k:Int))] [] ?_
  refine xe (Zaa (Zac (Zac (Zab (xq 2 [(19,.v (.bool (decide ((-(k:Int))≤0))))] [] ?_)))))
  rw[show decide (-(k:Int)≤0)=true from uQ (by omega)]
  refine xe (Zaa (xa (Zac (Zab (xq 3 [yB 20 s,eS1 21 A l c,yJ 22 e] [] ?_)))))
  obtain⟨i,K⟩:=yE (Zbi s (n) (e))
  refine xqc 118 [.bool s,.slice A l c,.int .i64 e] 23 (shNb i) _ (fun w U S=>((show Calls _ _ _ _ (ZaX w i) by rw[←K];exact ZbW s _ _ _ _ _ _ S.1.1.1 S.1.1.2 I (by omega) (by omega))).mono (fun _ _=>ZaU)) fun g=>?_
  obtain⟨V,W,X⟩:=g
  refine xq 4 [yJ 11 i.err] [yF 10 79 i.s V W X i.e] ?_
  refine xe (Zaa (Zaf (Zae ?_)))
  refine yR (.tuple #[yV i.s V W X i.e,.int .i64 i.err]) fun w' U S=>?_
  rw[Zh1 J,K]
  exact⟨(V,W,X),rfl,S.2,U⟩
 obtain⟨j,hj⟩:∃ j,blen n=bits+(j+1):=⟨blen n-bits-1,by omega⟩
 have Y:0<n:=sQ (fun e=>by rw[e,Zdv] at J;omega)
 have F:wl (n/2^(j+1))≤4294967296:=uA (Zbj (uO _ _)) I
 have Z:wl (n/2^(j+1)+1)≤4294967296:=uA (Zbj (qH Y (Nat.one_lt_two_pow (by omega)))) I
 obtain⟨b1,a0⟩:=yE (decide (n/2^j%2=1))
 obtain⟨b2,b0⟩:=yE (decide (n/2^(j+1)/2^0%2=1))
 obtain⟨b3,c0⟩:=yE (decide (sh<0∨r*r≠n1))
 refine Zab (xq 2 [(10,.p 10 0),yJ 11 0] [yF 10 79 false none 0 0 0] ?_)
 refine xe (Zaa (Zac (Zab (xq 1 [eS1 14 A l c] [] ?_))))
 refine xqc 65 [.slice A l c] 15 (fun _:Unit=>.int .i64 ((blen n:Nat):Int)) _ (fun w U S=>(ZbV S.1.2 I).mono (fun _ _ h=>Zag h rfl)) fun g=>?_
 refine xq 2 [yJ 17 (IntKind.i64.wrap (((blen n:Nat):Int)-(bits:Int)))] [] ?_
 rw[yW (((blen n:Nat):Int)-(bits:Int)) (((j+1:Nat):Int)) (by omega)]
 refine xq 1 [yJ 12 ((j+1:Nat):Int)] [] ?_
 refine xe (Zaa (Zac (Zac (Zab (xq 2 [yB 19 (decide (((j+1:Nat):Int)≤0))] [] ?_)))))
 rw[show decide (((j+1:Nat):Int)≤0)=false from uJ (by omega)]
 refine xe (Zaa (xb (Zal (Zaa (Zac (Zab (xq 2 [eS1 26 A l c,yJ 27 ((j+1:Nat):Int)] [] ?_)))))))
 refine xqc 128 [.slice A l c,.int .i64 ((j+1:Nat):Int)] 28 ZaJ _ (fun w U S=>(Zdc (j+1) S.1.1.2 I (by omega)).mono (fun _ _=>ZaD)) fun g=>?_
 obtain⟨a,b,f⟩:=g
 refine xq 1 [eS1 13 a b f] [] ?_
 refine xe (Zaa (Zac (Zac (Zab (xq 3 [eS1 29 A l c,yJ 31 (IntKind.i64.wrap (((j+1:Nat):Int)-1))] [] ?_)))))
 rw[yW (((j+1:Nat):Int)-1) ((j:Int)) (by omega)]
 refine xqc 158 [.slice A l c,.int .i64 (j:Int)] 32 (fun _:Unit=>.bool b1) _ (fun w U S=>((show Calls _ _ _ _ (RetV w (.bool b1)) by rw[←a0];exact Zfz (j) S.1.1.1.2 (by omega))).mono (fun _ _ h=>Zag h rfl)) fun g=>?_
 refine xq 1 [yB 33 b1] [] ?_
 rcases bl2 (b1) with o|o
 ·rw[o]
  have k1:=uC (a0.trans o)
  refine xq 1 [eS1 34 A l c] [] ?_
  refine xqc 157 [.slice A l c] 35 (fun _:Unit=>.int .i64 ((tzn n:Nat):Int)) _ (fun w U S=>(Zgc S.1.1.1.1.1 S.1.1.1.1.2 I Y).mono (fun _ _ h=>Zag h rfl)) fun g=>?_
  refine xq 2 [yJ 37 (IntKind.i64.wrap (((j+1:Nat):Int)-1))] [] ?_
  rw[yW (((j+1:Nat):Int)-1) ((j:Int)) (by omega)]
  refine xq 2 [yB 39 (decide (((tzn n:Nat):Int)<(j:Int)))] [] ?_
  rcases bl2 ((decide (((tzn n:Nat):Int)<(j:Int)))) with q|q
  ·rw[q]
   have d0:=uC q
   have k4:tzn n<j:=by omega
   refine xr 8 [yB 0 s,yJ 2 e,(10,.p 10 0),yJ 11 0,yJ 12 ((j+1:Nat):Int),eS1 13 a b f,yB 47 true] [yF 10 79 false none 0 0 0] ?_
   refine xe (Zaa (xa (Zab (xq 1 [eS1 48 a b f] [] ?_))))
   refine yD (d:=49) (fun G:Nat=>.slice (some ⟨G,0,none⟩) 1 1) (fun G zw=>Blk 94 zw G #[.int .u64 1]) (fun w U S=>ZaZ (t:=77) (e:=94) (n:=1) (sz:=1) (z:=.int .u64 0) (parts:=#[(0,Operand.const (Value.int IntKind.u64 1))]) (by kernel_rfl) (by kernel_rfl) (by kernel_rfl) (by kernel_rfl) (by kernel_rfl) (by kernel_rfl)) fun D0=>?_
   refine xr 0 [yB 0 s,yJ 2 e,(10,.p 10 0),yJ 11 0,yJ 12 ((j+1:Nat):Int),eS1 13 a b f,eS1 48 a b f,eS1 49 (some ⟨D0,0,none⟩) 1 1] [yF 10 79 false none 0 0 0] ?_
   refine xqc 126 [.slice a b f,.slice (some ⟨D0,0,none⟩) 1 1] 50 ZaJ _ (fun w U S=>(Zcx S.1.1.1.2 (ZdO S.2) F wl_1).mono (fun _ _=>ZaD)) fun g=>?_
   obtain⟨e0,f0,g0⟩:=g
   refine xq 1 [eS1 13 e0 f0 g0] [] ?_
   refine xe (Zaa (Zac (Zab (xq 5 [yB 51 s,eS1 52 e0 f0 g0,yJ 55 (IntKind.i64.wrap (e+((j+1:Nat):Int)))] [] ?_))))
   rw[yW (e+((j+1:Nat):Int)) (e+((j+1:Nat):Int)) (by omega)]
   obtain⟨u,L⟩:=yE (Zbi s (n/2^(j+1)+1) ((e+((j+1:Nat):Int))))
   refine xqc 118 [.bool s,.slice e0 f0 g0,.int .i64 (e+((j+1:Nat):Int))] 56 (shNb u) _ (fun w U S=>((show Calls _ _ _ _ (ZaX w u) by rw[←L];exact ZbW s _ _ _ _ _ _ S.1.1.1.1.1.1.1.1 S.2 Z (by omega) (by omega))).mono (fun _ _=>ZaU)) fun g=>?_
   obtain⟨i0,j0,k0⟩:=g
   refine xq 4 [yJ 11 u.err] [yF 10 79 u.s i0 j0 k0 u.e] ?_
   refine xe (Zaa (Zaf ?_))
   refine yR (.tuple #[yV u.s i0 j0 k0 u.e,.int .i64 u.err]) fun w' U S=>?_
   rw[Zdx hj k1 (Or.inl k4) Y,L]
   exact⟨(i0,j0,k0),rfl,S.2,U⟩
  rw[q]
  have d0:=uD q
  have k4:¬ tzn n<j:=by omega
  refine xr 1 [yB 0 s,yJ 2 e,(4,.v (.func (.func 130) #[] #[.pointer (some ⟨Q,0,none⟩),.pointer (some ⟨R,0,none⟩),.pointer (some ⟨T,0,none⟩)])),(10,.p 10 0),yJ 11 0,yJ 12 ((j+1:Nat):Int),eS1 13 a b f,yB 33 true,yB 39 false,eS1 40 a b f] [yF 10 79 false none 0 0 0] ?_
  refine xqc 158 [.slice a b f,.int .i64 0] 41 (fun _:Unit=>.bool b2) _ (fun w U S=>((show Calls _ _ _ _ (RetV w (.bool b2)) by rw[←b0];exact Zfz (0) S.1.1.2 (by omega))).mono (fun _ _ h=>Zag h rfl)) fun g=>?_
  refine xq 2 [yB 43 b2] [] ?_
  rcases bl2 (b2) with x|x
  ·rw[x]
   have k2:=uC (b0.trans x)
   rw[vQ,sK] at k2
   refine xq 4 [yB 47 true] [] ?_
   refine xe (Zaa (xa (Zab (xq 1 [eS1 48 a b f] [] ?_))))
   refine yD (d:=49) (fun G:Nat=>.slice (some ⟨G,0,none⟩) 1 1) (fun G zw=>Blk 94 zw G #[.int .u64 1]) (fun w U S=>ZaZ (t:=77) (e:=94) (n:=1) (sz:=1) (z:=.int .u64 0) (parts:=#[(0,Operand.const (Value.int IntKind.u64 1))]) (by kernel_rfl) (by kernel_rfl) (by kernel_rfl) (by kernel_rfl) (by kernel_rfl) (by kernel_rfl)) fun E0=>?_
   refine xr 0 [yB 0 s,yJ 2 e,(10,.p 10 0),yJ 11 0,yJ 12 ((j+1:Nat):Int),eS1 13 a b f,eS1 48 a b f,eS1 49 (some ⟨E0,0,none⟩) 1 1] [yF 10 79 false none 0 0 0] ?_
   refine xqc 126 [.slice a b f,.slice (some ⟨E0,0,none⟩) 1 1] 50 ZaJ _ (fun w U S=>(Zcx S.1.1.1.1.2 (ZdO S.2) F wl_1).mono (fun _ _=>ZaD)) fun g=>?_
   obtain⟨l0,m0,n0⟩:=g
   refine xq 1 [eS1 13 l0 m0 n0] [] ?_
   refine xe (Zaa (Zac (Zab (xq 5 [yB 51 s,eS1 52 l0 m0 n0,yJ 55 (IntKind.i64.wrap (e+((j+1:Nat):Int)))] [] ?_))))
   rw[yW (e+((j+1:Nat):Int)) (e+((j+1:Nat):Int)) (by omega)]
   obtain⟨y,M⟩:=yE (Zbi s (n/2^(j+1)+1) ((e+((j+1:Nat):Int))))
   refine xqc 118 [.bool s,.slice l0 m0 n0,.int .i64 (e+((j+1:Nat):Int))] 56 (shNb y) _ (fun w U S=>((show Calls _ _ _ _ (ZaX w y) by rw[←M];exact ZbW s _ _ _ _ _ _ S.1.1.1.1.1.1.1.1.1 S.2 Z (by omega) (by omega))).mono (fun _ _=>ZaU)) fun g=>?_
   obtain⟨o0,p0,q0⟩:=g
   refine xq 4 [yJ 11 y.err] [yF 10 79 y.s o0 p0 q0 y.e] ?_
   refine xe (Zaa (Zaf ?_))
   refine yR (.tuple #[yV y.s o0 p0 q0 y.e,.int .i64 y.err]) fun w' U S=>?_
   rw[Zdx hj k1 (Or.inr (Or.inl k2)) Y,M]
   exact⟨(o0,p0,q0),rfl,S.2,U⟩
  rw[x]
  have k2:=uD (b0.trans x)
  rw[vQ,sK] at k2
  refine xq 1 [(44,.v (.func (.func 130) #[] #[.pointer (some ⟨Q,0,none⟩),.pointer (some ⟨R,0,none⟩),.pointer (some ⟨T,0,none⟩)]))] [] ?_
  refine xqc 130 [.pointer (some ⟨Q,0,none⟩),.pointer (some ⟨R,0,none⟩),.pointer (some ⟨T,0,none⟩)] 45 (fun _:Unit=>.bool b3) _ (fun w U S=>((show Calls _ _ _ _ (RetV w (.bool b3)) by rw[←c0];exact (fun h=>Zrl Q R T sh A1 l1 c1 r B m d n1 _ h.1.1.1.1 h.1.1.1.2 h.1.1.2 h.1.2 h.2 G0) S.1.1.1.1.1.2)).mono (fun _ _ h=>Zag h rfl)) fun g=>?_
  refine xq 2 [yB 47 b3] [] ?_
  refine xe (Zaa ?_)
  refine yQ (b3) (fun H=>?_) fun H=>?_
  ·have k3:=c0.trans H
   refine Zab (xq 1 [eS1 48 a b f] [] ?_)
   refine yD (d:=49) (fun G:Nat=>.slice (some ⟨G,0,none⟩) 1 1) (fun G zw=>Blk 94 zw G #[.int .u64 1]) (fun w U S=>ZaZ (t:=77) (e:=94) (n:=1) (sz:=1) (z:=.int .u64 0) (parts:=#[(0,Operand.const (Value.int IntKind.u64 1))]) (by kernel_rfl) (by kernel_rfl) (by kernel_rfl) (by kernel_rfl) (by kernel_rfl) (by kernel_rfl)) fun F0=>?_
   refine xr 0 [yB 0 s,yJ 2 e,(10,.p 10 0),yJ 11 0,yJ 12 ((j+1:Nat):Int),eS1 13 a b f,eS1 48 a b f,eS1 49 (some ⟨F0,0,none⟩) 1 1] [yF 10 79 false none 0 0 0] ?_
   refine xqc 126 [.slice a b f,.slice (some ⟨F0,0,none⟩) 1 1] 50 ZaJ _ (fun w U S=>(Zcx S.1.1.1.1.1.2 (ZdO S.2) F wl_1).mono (fun _ _=>ZaD)) fun g=>?_
   obtain⟨r0,s0,t0⟩:=g
   refine xq 1 [eS1 13 r0 s0 t0] [] ?_
   refine xe (Zaa (Zac (Zab (xq 5 [yB 51 s,eS1 52 r0 s0 t0,yJ 55 (IntKind.i64.wrap (e+((j+1:Nat):Int)))] [] ?_))))
   rw[yW (e+((j+1:Nat):Int)) (e+((j+1:Nat):Int)) (by omega)]
   obtain⟨C,N⟩:=yE (Zbi s (n/2^(j+1)+1) ((e+((j+1:Nat):Int))))
   refine xqc 118 [.bool s,.slice r0 s0 t0,.int .i64 (e+((j+1:Nat):Int))] 56 (shNb C) _ (fun w U S=>((show Calls _ _ _ _ (ZaX w C) by rw[←N];exact ZbW s _ _ _ _ _ _ S.1.1.1.1.1.1.1.1.1.1 S.2 Z (by omega) (by omega))).mono (fun _ _=>ZaU)) fun g=>?_
   obtain⟨u0,v0,w0⟩:=g
   refine xq 4 [yJ 11 C.err] [yF 10 79 C.s u0 v0 w0 C.e] ?_
   refine xe (Zaa (Zaf ?_))
   refine yR (.tuple #[yV C.s u0 v0 w0 C.e,.int .i64 C.err]) fun w' U S=>?_
   rw[Zdx hj k1 (Or.inr (Or.inr k3)) Y,N]
   exact⟨(u0,v0,w0),rfl,S.2,U⟩
  have k3:=c0.trans H
  refine Zal (Zaa (Zac (Zab (xq 5 [yB 51 s,eS1 52 a b f,yJ 55 (IntKind.i64.wrap (e+((j+1:Nat):Int)))] [] ?_))))
  rw[yW (e+((j+1:Nat):Int)) (e+((j+1:Nat):Int)) (by omega)]
  obtain⟨D,hr25⟩:=yE (Zbi s (n/2^(j+1)) ((e+((j+1:Nat):Int))))
  refine xqc 118 [.bool s,.slice a b f,.int .i64 (e+((j+1:Nat):Int))] 56 (shNb D) _ (fun w U S=>((show Calls _ _ _ _ (ZaX w D) by rw[←hr25];exact ZbW s _ _ _ _ _ _ S.1.1.1.1.1.1.1.1 S.1.1.1.1.2 F (by omega) (by omega))).mono (fun _ _=>ZaU)) fun g=>?_
  obtain⟨x0,y0,z0⟩:=g
  refine xq 4 [yJ 11 D.err] [yF 10 79 D.s x0 y0 z0 D.e] ?_
  refine xe (Zaa (Zaf ?_))
  refine yR (.tuple #[yV D.s x0 y0 z0 D.e,.int .i64 D.err]) fun w' U S=>?_
  rw[Zd9 hj Y (fun h=>by rcases h.2 with h|h|h;exact k4 h;exact k2 h;rw[k3] at h;cases h),hr25]
  exact⟨(x0,y0,z0),rfl,S.2,U⟩
 rw[o]
 have k1:=uD (a0.trans o)
 refine xq 14 [yB 47 false] [] ?_
 refine xe (Zaa (xb (Zal (Zaa (Zac (Zab (xq 5 [yB 51 s,eS1 52 a b f,yJ 55 (IntKind.i64.wrap (e+((j+1:Nat):Int)))] [] ?_)))))))
 rw[yW (e+((j+1:Nat):Int)) (e+((j+1:Nat):Int)) (by omega)]
 obtain⟨E,O⟩:=yE (Zbi s (n/2^(j+1)) ((e+((j+1:Nat):Int))))
 refine xqc 118 [.bool s,.slice a b f,.int .i64 (e+((j+1:Nat):Int))] 56 (shNb E) _ (fun w U S=>((show Calls _ _ _ _ (ZaX w E) by rw[←O];exact ZbW s _ _ _ _ _ _ S.1.1.1.1.1 S.1.2 F (by omega) (by omega))).mono (fun _ _=>ZaU)) fun g=>?_
 obtain⟨A0,B0,C0⟩:=g
 refine xq 4 [yJ 11 E.err] [yF 10 79 E.s A0 B0 C0 E.e] ?_
 refine xe (Zaa (Zaf ?_))
 refine yR (.tuple #[yV E.s A0 B0 C0 E.e,.int .i64 E.err]) fun w' U S=>?_
 rw[Zd9 hj Y (fun h=>k1 h.1),O]
 exact⟨(A0,B0,C0),rfl,S.2,U⟩
theorem Zrm (s:Bool)(A:Option Addr)(l c x:Nat)(e:Int)(bits:Nat)(V0:0<bits)(hb:bits≤4096)(w:World)(hg:Glob w)(hX:Zaj w (.slice A l c) x)(W0:wl x≤100000)(X0 : -1073741824≤e)(Y0:e≤1073741824)(i0:x=0∨x%2=1) :
 yA 86 #[yV s A l c e,.int .i64 ((bits:Nat):Int)] w (ZaX w (ZdG s x e bits)):=by
 refine Zax (Φ:=fun w=>(Glob w∧Zaj w (.slice A l c) (x))) Tryz.func86 rfl (by kernel_rfl) (fun w' hf=>⟨hg.ext hf,hX.ext hf⟩) ?_
 refine Zac ?_
 have Z0:=hX.len0
 have a1:=@Zca x
 have b1:=ZdN x
 refine Zab (xq 3 [(2,.p 2 0),(4,.p 4 0),yJ 5 0] [yF 4 79 false none 0 0 0,yF 2 79 s A l c e] ?_)
 refine xe (Zaa (Zac (Zac (Zab (xq 2 [yB 10 s] [] ?_)))))
 refine xe (Zaa ?_)
 refine yQ (s) (fun c0=>?_) fun c0=>?_
 ·have K:=c0
  refine Zac (Zab (xq 3 [yJ 5 3] [] ?_))
  refine xe (Zaa (Zaf (Zae ?_)))
  refine yR (.tuple #[yV false none 0 0 0,.int .i64 3]) fun w' R Q=>?_
  rw[show ZdG s x e bits=⟨false,0,0,3⟩ from uP K]
  exact⟨(none,0,0),rfl,Zaj.zero _,R⟩
 have K:=c0
 refine Zal (Zaa (Zac (Zac (Zab (xq 4 [yB 15 (((l:Int):Int) == 0)] [] ?_)))))
 refine xe (Zaa ?_)
 refine yQ ((((l:Int):Int) == 0)) (fun d0=>?_) fun d0=>?_
 ·have o0:=tA.1 d0
  have h0:x=0:=by omega
  refine Zac (Zab (xq 3 [yJ 5 0] [] ?_))
  refine xe (Zaa (Zaf (Zae ?_)))
  refine yR (.tuple #[yV false none 0 0 0,.int .i64 0]) fun w' R Q=>?_
  rw[show ZdG s x e bits=⟨false,0,0,0⟩ by unfold ZdG;rw[uN (by rw[K];decide),uP h0]]
  exact⟨(none,0,0),rfl,Zaj.zero _,R⟩
 have o0:=Zbo d0
 have h0:¬ x=0:=by omega
 refine Zal (Zaa (Zac ?_))
 obtain⟨a,U0⟩:=yE (2*(bits:Int)+2-((blen x:Nat):Int))
 refine Zab (xq 2 [yJ 18 (IntKind.i64.wrap (2*(bits:Int)))] [] ?_)
 rw[yW (2*(bits:Int)) (2*(bits:Int)) (by omega)]
 refine xq 1 [(19,.v (.int .i64 (IntKind.i64.wrap ((2*(bits:Int))+2))))] [] ?_
 rw[yW ((2*(bits:Int))+2) (2*(bits:Int)+2) (by omega)]
 refine xq 2 [eS1 21 A l c] [] ?_
 refine xqc 65 [.slice A l c] 22 (fun _:Unit=>.int .i64 ((blen x:Nat):Int)) _ (fun w R Q=>yN (ZbV Q.2 (by omega))) fun d=>?_
 refine xq 1 [(23,.v (.int .i64 (IntKind.i64.wrap ((2*(bits:Int)+2)-((blen x:Nat):Int)))))] [] ?_
 rw[yW ((2*(bits:Int)+2)-((blen x:Nat):Int)) (a) (by omega)]
 refine xq 2 [(6,.p 6 0)] [(6,3,[.v (.int .i64 a)])] ?_
 refine xe (Zaa (Zac (Zac ?_)))
 by_cases j0:(e-a)%2=0
 ·refine Zab (xq 4 [yJ 27 (IntKind.i64.wrap (e-a))] [] ?_)
  rw[yW (e-a) (e-a) (by omega)]
  refine xq 2 [(29,.v (.bool (((((e-a)).tmod 2):Int) != 0)))] [] ?_
  rw[show (((e-a).tmod 2:Int) != 0)=false from (by rw[bne_eq_false_iff_eq,Zuy];exact j0)]
  refine xe (Zaa (xb (Zal (Zaa (Zac ?_)))))
  obtain⟨sh,p0⟩:=yE a
  rw[p0]
  have e0:x%2=1:=i0.resolve_left h0
  have m:(e-sh)%2=0:=by omega
  have f0:2*(bits:Int)+2≤((blen x:Nat):Int)+sh:=by omega
  have g0:((blen x:Nat):Int)+sh≤2*(bits:Int)+3:=by omega
  obtain⟨Y,L⟩:=yE (fq x 1 (-sh))
  have q0:=ZgE (show 0<x by omega) sh (by omega)
  rw[L] at q0
  have r0:wl Y≤200:=ZlZ (by omega)
  have H0:=ZoB r0
  by_cases s0:0≤sh
  ·obtain⟨j,hj⟩:∃ j:Nat,sh=j:=uV s0
   have M:x*2^j/2^0=Y:=by rw[vQ,sK,← L,hj,Zgm]
   have t0:j≤10000000:=by omega
   have u0:wl (x*2^j)≤4000000:=Zg3 (by omega) (by omega)
   refine yO 11 Zam ?_
   refine xqg 4 [eS1 33 A l c,yJ 35 (if 0>sh then 0 else sh)] ?_
   rw[(show (if 0>sh then 0 else sh)=(j:Int) by split<;>omega)]
   refine xqd 66 [.slice A l c,.int .i64 (j:Int)] 36 ZaJ _ (fun w R Q=>yM ZaD (Zdg j Q.1.2 (by omega) (by omega))) fun d=>?_
   obtain⟨I0,J0,K0⟩:=d
   refine xqg 2 [yJ 38 (IntKind.i64.wrap (0-(sh)))] ?_
   rw[show IntKind.i64.wrap (0-(sh)) = -sh by rw[IntKind.wrap_i64];omega]
   refine xqg 1 [yJ 39 (if 0>(-sh) then 0 else (-sh))] ?_
   rw[(show (if 0>(-sh) then 0 else (-sh))=((0:Nat):Int) by split<;>omega)]
   refine xqd 128 [.slice I0 J0 K0,.int .i64 ((0:Nat):Int)] 40 ZaJ _ (fun w R Q=>(Zdc 0 Q.2 (by omega) (by omega)).mono (fun _ _ h=>ZaD (by rw[M] at h;exact h))) fun d=>?_
   obtain⟨n,o,q⟩:=d
   refine xqf 2 [(7,.p 7 0)] [(7,77,[.v (.slice n o q)]),(7,77,[.v (.slice none 0 0)]),(6,3,[.v (.int .i64 sh)]),yF 4 79 false none 0 0 0,yF 2 79 s A l c e] ?_
   refine xz (xe (Zaa (Zac (Zab (xr 1 [yJ 1 (bits:Int),(2,.p 2 0),(4,.p 4 0),yJ 5 0,(6,.p 6 0),(7,.p 7 0),eS1 41 n o q] [(7,77,[.v (.slice n o q)]),(6,3,[.v (.int .i64 sh)]),yF 4 79 false none 0 0 0,yF 2 79 s A l c e] ?_)))))
   refine xqc 129 [.slice n o q] 42 ZaJ _ (fun w R Q=>yM ZaD (Zhc n o q Y _ Q.2 (by omega))) fun d=>?_
   obtain⟨N,O,P⟩:=d
   refine xq 2 [(8,.p 8 0)] [(8,77,[.v (.slice N O P)])] ?_
   refine xe (Zaa (Zac ?_))
   refine SXc.freeze 6 3 [.int .i64 sh] (fun b=>[yJ 1 (bits:Int),(2,.p 2 0),(4,.p 4 0),yJ 5 0,(6,.v (.pointer (some ⟨b,0,none⟩))),(7,.p 7 0),(8,.p 8 0)]) [(8,77,[.v (.slice N O P)]),(7,77,[.v (.slice n o q)]),yF 4 79 false none 0 0 0,yF 2 79 s A l c e] (by kernel_rfl) (fun _=>by kernel_rfl) (by kernel_rfl) (by kernel_rfl) (fun _=>by kernel_rfl) fun b=>?_
   refine SXc.freeze 8 77 [.slice N O P] (fun f=>[yJ 1 (bits:Int),(2,.p 2 0),(4,.p 4 0),yJ 5 0,(6,.v (.pointer (some ⟨b,0,none⟩))),(7,.p 7 0),(8,.v (.pointer (some ⟨f,0,none⟩)))]) [(7,77,[.v (.slice n o q)]),yF 4 79 false none 0 0 0,yF 2 79 s A l c e] (by kernel_rfl) (fun _=>by kernel_rfl) (by kernel_rfl) (by kernel_rfl) (fun _=>by kernel_rfl) fun f=>?_
   refine SXc.freeze 7 77 [.slice n o q] (fun i=>[yJ 1 (bits:Int),(2,.p 2 0),(4,.p 4 0),yJ 5 0,(6,.v (.pointer (some ⟨b,0,none⟩))),(7,.v (.pointer (some ⟨i,0,none⟩))),(8,.v (.pointer (some ⟨f,0,none⟩)))]) [yF 4 79 false none 0 0 0,yF 2 79 s A l c e] (by kernel_rfl) (fun _=>by kernel_rfl) (by kernel_rfl) (by kernel_rfl) (fun _=>by kernel_rfl) fun i=>?_
   refine Zab ?_
   refine xqk 43 (.slice N O P) (fun w R Q=>ZbA (t:=77) (x:=.tmp 8) (g:=f) (off:=0) (Blk.cell (Q.1.2) 0)) ?_
   refine xq 2 [yJ 45 e] [] ?_
   refine xqk 46 (.int .i64 sh) (fun w R Q=>ZbA (t:=3) (x:=.tmp 6) (g:=b) (off:=0) (Blk.cell (Q.1.1.2) 0)) ?_
   refine xq 1 [yJ 47 (IntKind.i64.wrap (e-sh))] [] ?_
   rw[yW (e-sh) (e-sh) (by omega)]
   refine xq 1 [yJ 48 (IntKind.i64.wrap (((e-sh)).tdiv 2))] [] ?_
   rw[show IntKind.i64.wrap ((e-sh).tdiv 2)=(e-sh)/2 by rw[Znj m,IntKind.wrap_i64];omega]
   refine xq 2 [yJ 49 (bits:Int),(50,.v (.func (.func 130) #[] #[.pointer (some ⟨b,0,none⟩),.pointer (some ⟨f,0,none⟩),.pointer (some ⟨i,0,none⟩)]))] [] ?_
   obtain⟨G,k0⟩:=yE (Zbv false (isq Y) ((e-sh)/2) bits (decide (sh<0∨isq Y*isq Y≠Y)))
   refine xqc 123 [.bool false,.slice N O P,.int .i64 ((e-sh)/2),.int .i64 (bits:Int),.func (.func 130) #[] #[.pointer (some ⟨b,0,none⟩),.pointer (some ⟨f,0,none⟩),.pointer (some ⟨i,0,none⟩)]] 51 (shNb G) _ (fun w R Q=>yM ZaU ((show Calls _ _ _ _ (ZaX w G) by rw[←k0];exact Zgg false _ _ _ _ _ bits b f i sh N O P (isq Y) n o q Y _ Q.1.1.1.1.1.1.1.1 Q.1.1.1.2 (by omega) (by omega) (by omega) (by omega) Q.1.1.2 Q.1.2 Q.2 Q.1.1.1.2 Q.1.1.1.1.2 (by omega)))) fun d=>?_
   obtain⟨v0,w0,x0⟩:=d
   refine xq 4 [yJ 5 G.err] [yF 4 79 G.s v0 w0 x0 G.e] ?_
   refine xe (Zaa (Zaf ?_))
   refine yR (.tuple #[yV G.s v0 w0 x0 G.e,.int .i64 G.err]) fun w' R Q=>?_
   have k:=ZfL e0 e (by omega) sh m f0 g0
   rw[L,show Zcb x sh=decide (sh<0∨isq Y*isq Y≠Y) by unfold Zcb;rw[L]] at k
   rw[show ZdG s x e bits=Zdw x e bits by unfold ZdG;rw[uN (by rw[K];decide),uN h0],← k,k0]
   exact⟨(v0,w0,x0),rfl,Q.2,R⟩
  obtain⟨j,hj⟩:∃ j:Nat,sh = -(j:Int):=⟨(-sh).toNat,by omega⟩
  have M:x*2^0/2^j=Y:=by rw[vQ,tW,← L,Zqg hj]
  have t0:j≤10000000:=by omega
  have u0:wl (x*2^0)≤4000000:=Zg3 (by omega) (by omega)
  refine yO 11 Zam ?_
  refine xqg 4 [eS1 33 A l c,yJ 35 (if 0>sh then 0 else sh)] ?_
  rw[(show (if 0>sh then 0 else sh)=((0:Nat):Int) by split<;>omega)]
  refine xqd 66 [.slice A l c,.int .i64 ((0:Nat):Int)] 36 ZaJ _ (fun w R Q=>yM ZaD (Zdg 0 Q.1.2 (by omega) (by omega))) fun d=>?_
  obtain⟨L0,M0,N0⟩:=d
  refine xqg 2 [yJ 38 (IntKind.i64.wrap (0-(sh)))] ?_
  rw[show IntKind.i64.wrap (0-(sh)) = -sh by rw[IntKind.wrap_i64];omega]
  refine xqg 1 [yJ 39 (if 0>(-sh) then 0 else (-sh))] ?_
  rw[(show (if 0>(-sh) then 0 else (-sh))=(j:Int) by split<;>omega)]
  refine xqd 128 [.slice L0 M0 N0,.int .i64 (j:Int)] 40 ZaJ _ (fun w R Q=>(Zdc j Q.2 (by omega) (by omega)).mono (fun _ _ h=>ZaD (by rw[M] at h;exact h))) fun d=>?_
  obtain⟨r,u,y⟩:=d
  refine xqf 2 [(7,.p 7 0)] [(7,77,[.v (.slice r u y)]),(7,77,[.v (.slice none 0 0)]),(6,3,[.v (.int .i64 sh)]),yF 4 79 false none 0 0 0,yF 2 79 s A l c e] ?_
  refine xz (xe (Zaa (Zac (Zab (xr 1 [yJ 1 (bits:Int),(2,.p 2 0),(4,.p 4 0),yJ 5 0,(6,.p 6 0),(7,.p 7 0),eS1 41 r u y] [(7,77,[.v (.slice r u y)]),(6,3,[.v (.int .i64 sh)]),yF 4 79 false none 0 0 0,yF 2 79 s A l c e] ?_)))))
  refine xqc 129 [.slice r u y] 42 ZaJ _ (fun w R Q=>yM ZaD (Zhc r u y Y _ Q.2 (by omega))) fun d=>?_
  obtain⟨S,T,U⟩:=d
  refine xq 2 [(8,.p 8 0)] [(8,77,[.v (.slice S T U)])] ?_
  refine xe (Zaa (Zac ?_))
  refine SXc.freeze 6 3 [.int .i64 sh] (fun b=>[yJ 1 (bits:Int),(2,.p 2 0),(4,.p 4 0),yJ 5 0,(6,.v (.pointer (some ⟨b,0,none⟩))),(7,.p 7 0),(8,.p 8 0)]) [(8,77,[.v (.slice S T U)]),(7,77,[.v (.slice r u y)]),yF 4 79 false none 0 0 0,yF 2 79 s A l c e] (by kernel_rfl) (fun _=>by kernel_rfl) (by kernel_rfl) (by kernel_rfl) (fun _=>by kernel_rfl) fun b=>?_
  refine SXc.freeze 8 77 [.slice S T U] (fun f=>[yJ 1 (bits:Int),(2,.p 2 0),(4,.p 4 0),yJ 5 0,(6,.v (.pointer (some ⟨b,0,none⟩))),(7,.p 7 0),(8,.v (.pointer (some ⟨f,0,none⟩)))]) [(7,77,[.v (.slice r u y)]),yF 4 79 false none 0 0 0,yF 2 79 s A l c e] (by kernel_rfl) (fun _=>by kernel_rfl) (by kernel_rfl) (by kernel_rfl) (fun _=>by kernel_rfl) fun f=>?_
  refine SXc.freeze 7 77 [.slice r u y] (fun i=>[yJ 1 (bits:Int),(2,.p 2 0),(4,.p 4 0),yJ 5 0,(6,.v (.pointer (some ⟨b,0,none⟩))),(7,.v (.pointer (some ⟨i,0,none⟩))),(8,.v (.pointer (some ⟨f,0,none⟩)))]) [yF 4 79 false none 0 0 0,yF 2 79 s A l c e] (by kernel_rfl) (fun _=>by kernel_rfl) (by kernel_rfl) (by kernel_rfl) (fun _=>by kernel_rfl) fun i=>?_
  refine Zab ?_
  refine xqk 43 (.slice S T U) (fun w R Q=>ZbA (t:=77) (x:=.tmp 8) (g:=f) (off:=0) (Blk.cell (Q.1.2) 0)) ?_
  refine xq 2 [yJ 45 e] [] ?_
  refine xqk 46 (.int .i64 sh) (fun w R Q=>ZbA (t:=3) (x:=.tmp 6) (g:=b) (off:=0) (Blk.cell (Q.1.1.2) 0)) ?_
  refine xq 1 [yJ 47 (IntKind.i64.wrap (e-sh))] [] ?_
  rw[yW (e-sh) (e-sh) (by omega)]
  refine xq 1 [yJ 48 (IntKind.i64.wrap (((e-sh)).tdiv 2))] [] ?_
  rw[show IntKind.i64.wrap ((e-sh).tdiv 2)=(e-sh)/2 by rw[Znj m,IntKind.wrap_i64];omega]
  refine xq 2 [yJ 49 (bits:Int),(50,.v (.func (.func 130) #[] #[.pointer (some ⟨b,0,none⟩),.pointer (some ⟨f,0,none⟩),.pointer (some ⟨i,0,none⟩)]))] [] ?_
  obtain⟨H,l0⟩:=yE (Zbv false (isq Y) ((e-sh)/2) bits (decide (sh<0∨isq Y*isq Y≠Y)))
  refine xqc 123 [.bool false,.slice S T U,.int .i64 ((e-sh)/2),.int .i64 (bits:Int),.func (.func 130) #[] #[.pointer (some ⟨b,0,none⟩),.pointer (some ⟨f,0,none⟩),.pointer (some ⟨i,0,none⟩)]] 51 (shNb H) _ (fun w R Q=>yM ZaU ((show Calls _ _ _ _ (ZaX w H) by rw[←l0];exact Zgg false _ _ _ _ _ bits b f i sh S T U (isq Y) r u y Y _ Q.1.1.1.1.1.1.1.1 Q.1.1.1.2 (by omega) (by omega) (by omega) (by omega) Q.1.1.2 Q.1.2 Q.2 Q.1.1.1.2 Q.1.1.1.1.2 (by omega)))) fun d=>?_
  obtain⟨y0,z0,A0⟩:=d
  refine xq 4 [yJ 5 H.err] [yF 4 79 H.s y0 z0 A0 H.e] ?_
  refine xe (Zaa (Zaf ?_))
  refine yR (.tuple #[yV H.s y0 z0 A0 H.e,.int .i64 H.err]) fun w' R Q=>?_
  have k:=ZfL e0 e (by omega) sh m f0 g0
  rw[L,show Zcb x sh=decide (sh<0∨isq Y*isq Y≠Y) by unfold Zcb;rw[L]] at k
  rw[show ZdG s x e bits=Zdw x e bits by unfold ZdG;rw[uN (by rw[K];decide),uN h0],← k,l0]
  exact⟨(y0,z0,A0),rfl,Q.2,R⟩
 refine Zab (xq 4 [yJ 27 (IntKind.i64.wrap (e-a))] [] ?_)
 rw[yW (e-a) (e-a) (by omega)]
 refine xq 2 [(29,.v (.bool (((((e-a)).tmod 2):Int) != 0)))] [] ?_
 rw[show (((e-a).tmod 2:Int) != 0)=true from bne_iff_ne.2 (mt (Zuy _).1 j0)]
 refine xe (Zaa (xa (Zab (xq 2 [yJ 31 (IntKind.i64.wrap (a+1))] [] ?_))))
 rw[yW (a+1) (a+1) (by omega)]
 refine xq 1 [] [(6,3,[.v (.int .i64 (a+1))])] ?_
 refine xe (Zaa (Zac ?_))
 obtain⟨sh,p0⟩:=yE (a+1)
 rw[p0]
 have e0:x%2=1:=i0.resolve_left h0
 have m:(e-sh)%2=0:=by omega
 have f0:2*(bits:Int)+2≤((blen x:Nat):Int)+sh:=by omega
 have g0:((blen x:Nat):Int)+sh≤2*(bits:Int)+3:=by omega
 obtain⟨Y,L⟩:=yE (fq x 1 (-sh))
 have q0:=ZgE (show 0<x by omega) sh (by omega)
 rw[L] at q0
 have r0:wl Y≤200:=ZlZ (by omega)
 have H0:=ZoB r0
 by_cases s0:0≤sh
 ·obtain⟨j,hj⟩:∃ j:Nat,sh=j:=uV s0
  have M:x*2^j/2^0=Y:=by rw[vQ,sK,← L,hj,Zgm]
  have t0:j≤10000000:=by omega
  have u0:wl (x*2^j)≤4000000:=Zg3 (by omega) (by omega)
  refine yO 11 Zam ?_
  refine xqg 4 [eS1 33 A l c,yJ 35 (if 0>sh then 0 else sh)] ?_
  rw[(show (if 0>sh then 0 else sh)=(j:Int) by split<;>omega)]
  refine xqd 66 [.slice A l c,.int .i64 (j:Int)] 36 ZaJ _ (fun w R Q=>yM ZaD (Zdg j Q.1.2 (by omega) (by omega))) fun d=>?_
  obtain⟨O0,P0,Q0⟩:=d
  refine xqg 2 [yJ 38 (IntKind.i64.wrap (0-(sh)))] ?_
  rw[show IntKind.i64.wrap (0-(sh)) = -sh by rw[IntKind.wrap_i64];omega]
  refine xqg 1 [yJ 39 (if 0>(-sh) then 0 else (-sh))] ?_
  rw[(show (if 0>(-sh) then 0 else (-sh))=((0:Nat):Int) by split<;>omega)]
  refine xqd 128 [.slice O0 P0 Q0,.int .i64 ((0:Nat):Int)] 40 ZaJ _ (fun w R Q=>(Zdc 0 Q.2 (by omega) (by omega)).mono (fun _ _ h=>ZaD (by rw[M] at h;exact h))) fun d=>?_
  obtain⟨z,B,C⟩:=d
  refine xqf 2 [(7,.p 7 0)] [(7,77,[.v (.slice z B C)]),(7,77,[.v (.slice none 0 0)]),(6,3,[.v (.int .i64 sh)]),yF 4 79 false none 0 0 0,yF 2 79 s A l c e] ?_
  refine xz (xe (Zaa (Zac (Zab (xr 1 [yJ 1 (bits:Int),(2,.p 2 0),(4,.p 4 0),yJ 5 0,(6,.p 6 0),(7,.p 7 0),eS1 41 z B C] [(7,77,[.v (.slice z B C)]),(6,3,[.v (.int .i64 sh)]),yF 4 79 false none 0 0 0,yF 2 79 s A l c e] ?_)))))
  refine xqc 129 [.slice z B C] 42 ZaJ _ (fun w R Q=>yM ZaD (Zhc z B C Y _ Q.2 (by omega))) fun d=>?_
  obtain⟨V,W,X⟩:=d
  refine xq 2 [(8,.p 8 0)] [(8,77,[.v (.slice V W X)])] ?_
  refine xe (Zaa (Zac ?_))
  refine SXc.freeze 6 3 [.int .i64 sh] (fun b=>[yJ 1 (bits:Int),(2,.p 2 0),(4,.p 4 0),yJ 5 0,(6,.v (.pointer (some ⟨b,0,none⟩))),(7,.p 7 0),(8,.p 8 0)]) [(8,77,[.v (.slice V W X)]),(7,77,[.v (.slice z B C)]),yF 4 79 false none 0 0 0,yF 2 79 s A l c e] (by kernel_rfl) (fun _=>by kernel_rfl) (by kernel_rfl) (by kernel_rfl) (fun _=>by kernel_rfl) fun b=>?_
  refine SXc.freeze 8 77 [.slice V W X] (fun f=>[yJ 1 (bits:Int),(2,.p 2 0),(4,.p 4 0),yJ 5 0,(6,.v (.pointer (some ⟨b,0,none⟩))),(7,.p 7 0),(8,.v (.pointer (some ⟨f,0,none⟩)))]) [(7,77,[.v (.slice z B C)]),yF 4 79 false none 0 0 0,yF 2 79 s A l c e] (by kernel_rfl) (fun _=>by kernel_rfl) (by kernel_rfl) (by kernel_rfl) (fun _=>by kernel_rfl) fun f=>?_
  refine SXc.freeze 7 77 [.slice z B C] (fun i=>[yJ 1 (bits:Int),(2,.p 2 0),(4,.p 4 0),yJ 5 0,(6,.v (.pointer (some ⟨b,0,none⟩))),(7,.v (.pointer (some ⟨i,0,none⟩))),(8,.v (.pointer (some ⟨f,0,none⟩)))]) [yF 4 79 false none 0 0 0,yF 2 79 s A l c e] (by kernel_rfl) (fun _=>by kernel_rfl) (by kernel_rfl) (by kernel_rfl) (fun _=>by kernel_rfl) fun i=>?_
  refine Zab ?_
  refine xqk 43 (.slice V W X) (fun w R Q=>ZbA (t:=77) (x:=.tmp 8) (g:=f) (off:=0) (Blk.cell (Q.1.2) 0)) ?_
  refine xq 2 [yJ 45 e] [] ?_
  refine xqk 46 (.int .i64 sh) (fun w R Q=>ZbA (t:=3) (x:=.tmp 6) (g:=b) (off:=0) (Blk.cell (Q.1.1.2) 0)) ?_
  refine xq 1 [yJ 47 (IntKind.i64.wrap (e-sh))] [] ?_
  rw[yW (e-sh) (e-sh) (by omega)]
  refine xq 1 [yJ 48 (IntKind.i64.wrap (((e-sh)).tdiv 2))] [] ?_
  rw[show IntKind.i64.wrap ((e-sh).tdiv 2)=(e-sh)/2 by rw[Znj m,IntKind.wrap_i64];omega]
  refine xq 2 [yJ 49 (bits:Int),(50,.v (.func (.func 130) #[] #[.pointer (some ⟨b,0,none⟩),.pointer (some ⟨f,0,none⟩),.pointer (some ⟨i,0,none⟩)]))] [] ?_
  obtain⟨I,m0⟩:=yE (Zbv false (isq Y) ((e-sh)/2) bits (decide (sh<0∨isq Y*isq Y≠Y)))
  refine xqc 123 [.bool false,.slice V W X,.int .i64 ((e-sh)/2),.int .i64 (bits:Int),.func (.func 130) #[] #[.pointer (some ⟨b,0,none⟩),.pointer (some ⟨f,0,none⟩),.pointer (some ⟨i,0,none⟩)]] 51 (shNb I) _ (fun w R Q=>yM ZaU ((show Calls _ _ _ _ (ZaX w I) by rw[←m0];exact Zgg false _ _ _ _ _ bits b f i sh V W X (isq Y) z B C Y _ Q.1.1.1.1.1.1.1.1 Q.1.1.1.2 (by omega) (by omega) (by omega) (by omega) Q.1.1.2 Q.1.2 Q.2 Q.1.1.1.2 Q.1.1.1.1.2 (by omega)))) fun d=>?_
  obtain⟨B0,C0,D0⟩:=d
  refine xq 4 [yJ 5 I.err] [yF 4 79 I.s B0 C0 D0 I.e] ?_
  refine xe (Zaa (Zaf ?_))
  refine yR (.tuple #[yV I.s B0 C0 D0 I.e,.int .i64 I.err]) fun w' R Q=>?_
  have k:=ZfL e0 e (by omega) sh m f0 g0
  rw[L,show Zcb x sh=decide (sh<0∨isq Y*isq Y≠Y) by unfold Zcb;rw[L]] at k
  rw[show ZdG s x e bits=Zdw x e bits by unfold ZdG;rw[uN (by rw[K];decide),uN h0],← k,m0]
  exact⟨(B0,C0,D0),rfl,Q.2,R⟩
 obtain⟨j,hj⟩:∃ j:Nat,sh = -(j:Int):=⟨(-sh).toNat,by omega⟩
 have M:x*2^0/2^j=Y:=by rw[vQ,tW,← L,Zqg hj]
 have t0:j≤10000000:=by omega
 have u0:wl (x*2^0)≤4000000:=Zg3 (by omega) (by omega)
 refine yO 11 Zam ?_
 refine xqg 4 [eS1 33 A l c,yJ 35 (if 0>sh then 0 else sh)] ?_
 rw[(show (if 0>sh then 0 else sh)=((0:Nat):Int) by split<;>omega)]
 refine xqd 66 [.slice A l c,.int .i64 ((0:Nat):Int)] 36 ZaJ _ (fun w R Q=>yM ZaD (Zdg 0 Q.1.2 (by omega) (by omega))) fun d=>?_
 obtain⟨R0,S0,T0⟩:=d
 refine xqg 2 [yJ 38 (IntKind.i64.wrap (0-(sh)))] ?_
 rw[show IntKind.i64.wrap (0-(sh)) = -sh by rw[IntKind.wrap_i64];omega]
 refine xqg 1 [yJ 39 (if 0>(-sh) then 0 else (-sh))] ?_
 rw[(show (if 0>(-sh) then 0 else (-sh))=(j:Int) by split<;>omega)]
 refine xqd 128 [.slice R0 S0 T0,.int .i64 (j:Int)] 40 ZaJ _ (fun w R Q=>(Zdc j Q.2 (by omega) (by omega)).mono (fun _ _ h=>ZaD (by rw[M] at h;exact h))) fun d=>?_
 obtain⟨D,E,F⟩:=d
 refine xqf 2 [(7,.p 7 0)] [(7,77,[.v (.slice D E F)]),(7,77,[.v (.slice none 0 0)]),(6,3,[.v (.int .i64 sh)]),yF 4 79 false none 0 0 0,yF 2 79 s A l c e] ?_
 refine xz (xe (Zaa (Zac (Zab (xr 1 [yJ 1 (bits:Int),(2,.p 2 0),(4,.p 4 0),yJ 5 0,(6,.p 6 0),(7,.p 7 0),eS1 41 D E F] [(7,77,[.v (.slice D E F)]),(6,3,[.v (.int .i64 sh)]),yF 4 79 false none 0 0 0,yF 2 79 s A l c e] ?_)))))
 refine xqc 129 [.slice D E F] 42 ZaJ _ (fun w R Q=>yM ZaD (Zhc D E F Y _ Q.2 (by omega))) fun d=>?_
 obtain⟨Z,a0,b0⟩:=d
 refine xq 2 [(8,.p 8 0)] [(8,77,[.v (.slice Z a0 b0)])] ?_
 refine xe (Zaa (Zac ?_))
 refine SXc.freeze 6 3 [.int .i64 sh] (fun b=>[yJ 1 (bits:Int),(2,.p 2 0),(4,.p 4 0),yJ 5 0,(6,.v (.pointer (some ⟨b,0,none⟩))),(7,.p 7 0),(8,.p 8 0)]) [(8,77,[.v (.slice Z a0 b0)]),(7,77,[.v (.slice D E F)]),yF 4 79 false none 0 0 0,yF 2 79 s A l c e] (by kernel_rfl) (fun _=>by kernel_rfl) (by kernel_rfl) (by kernel_rfl) (fun _=>by kernel_rfl) fun b=>?_
 refine SXc.freeze 8 77 [.slice Z a0 b0] (fun f=>[yJ 1 (bits:Int),(2,.p 2 0),(4,.p 4 0),yJ 5 0,(6,.v (.pointer (some ⟨b,0,none⟩))),(7,.p 7 0),(8,.v (.pointer (some ⟨f,0,none⟩)))]) [(7,77,[.v (.slice D E F)]),yF 4 79 false none 0 0 0,yF 2 79 s A l c e] (by kernel_rfl) (fun _=>by kernel_rfl) (by kernel_rfl) (by kernel_rfl) (fun _=>by kernel_rfl) fun f=>?_
 refine SXc.freeze 7 77 [.slice D E F] (fun i=>[yJ 1 (bits:Int),(2,.p 2 0),(4,.p 4 0),yJ 5 0,(6,.v (.pointer (some ⟨b,0,none⟩))),(7,.v (.pointer (some ⟨i,0,none⟩))),(8,.v (.pointer (some ⟨f,0,none⟩)))]) [yF 4 79 false none 0 0 0,yF 2 79 s A l c e] (by kernel_rfl) (fun _=>by kernel_rfl) (by kernel_rfl) (by kernel_rfl) (fun _=>by kernel_rfl) fun i=>?_
 refine Zab ?_
 refine xqk 43 (.slice Z a0 b0) (fun w R Q=>ZbA (t:=77) (x:=.tmp 8) (g:=f) (off:=0) (Blk.cell (Q.1.2) 0)) ?_
 refine xq 2 [yJ 45 e] [] ?_
 refine xqk 46 (.int .i64 sh) (fun w R Q=>ZbA (t:=3) (x:=.tmp 6) (g:=b) (off:=0) (Blk.cell (Q.1.1.2) 0)) ?_
 refine xq 1 [yJ 47 (IntKind.i64.wrap (e-sh))] [] ?_
 rw[yW (e-sh) (e-sh) (by omega)]
 refine xq 1 [yJ 48 (IntKind.i64.wrap (((e-sh)).tdiv 2))] [] ?_
 rw[show IntKind.i64.wrap ((e-sh).tdiv 2)=(e-sh)/2 by rw[Znj m,IntKind.wrap_i64];omega]
 refine xq 2 [yJ 49 (bits:Int),(50,.v (.func (.func 130) #[] #[.pointer (some ⟨b,0,none⟩),.pointer (some ⟨f,0,none⟩),.pointer (some ⟨i,0,none⟩)]))] [] ?_
 obtain⟨J,n0⟩:=yE (Zbv false (isq Y) ((e-sh)/2) bits (decide (sh<0∨isq Y*isq Y≠Y)))
 refine xqc 123 [.bool false,.slice Z a0 b0,.int .i64 ((e-sh)/2),.int .i64 (bits:Int),.func (.func 130) #[] #[.pointer (some ⟨b,0,none⟩),.pointer (some ⟨f,0,none⟩),.pointer (some ⟨i,0,none⟩)]] 51 (shNb J) _ (fun w R Q=>yM ZaU ((show Calls _ _ _ _ (ZaX w J) by rw[←n0];exact Zgg false _ _ _ _ _ bits b f i sh Z a0 b0 (isq Y) D E F Y _ Q.1.1.1.1.1.1.1.1 Q.1.1.1.2 (by omega) (by omega) (by omega) (by omega) Q.1.1.2 Q.1.2 Q.2 Q.1.1.1.2 Q.1.1.1.1.2 (by omega)))) fun d=>?_
 obtain⟨E0,F0,G0⟩:=d
 refine xq 4 [yJ 5 J.err] [yF 4 79 J.s E0 F0 G0 J.e] ?_
 refine xe (Zaa (Zaf ?_))
 refine yR (.tuple #[yV J.s E0 F0 G0 J.e,.int .i64 J.err]) fun w' R Q=>?_
 have k:=ZfL e0 e (by omega) sh m f0 g0
 rw[L,show Zcb x sh=decide (sh<0∨isq Y*isq Y≠Y) by unfold Zcb;rw[L]] at k
 rw[show ZdG s x e bits=Zdw x e bits by unfold ZdG;rw[uN (by rw[K];decide),uN h0],← k,n0]
 exact⟨(E0,F0,G0),rfl,Q.2,R⟩
theorem Zrn {s:Bool}{m bits:Nat}{e:Int}(h:8≤bits)(b:bits≤4096):Fine (ZdG s m e bits):=by
 unfold ZdG
 split
 ·exact ZfC 3
 split
 ·exact ZfC 0
 rename_i i
 refine ZmJ ?_
 unfold sqM
 have c:sqK m e bits=((blen m:Int)+e-1)/2-((bits:Int)-1):=rfl
 obtain⟨k,a⟩:=yE (sqK m e bits)
 rw[a] at c ⊢
 have j:=ZgE (show 0<m by omega) (e-2*k+2) (by omega)
 have d:wl (fq m 1 (-(e-2*k+2)))≤200:=ZlZ (by omega)
 have f:=ZoB d
 have g:=ZoC (isq (fq m 1 (-(e-2*k+2)))) (Zcb m (e-2*k+2))
 have l:=ZkA f (show wl 1≤200 from uA (Ze6.2 (by rw[Zao];decide)) (by decide))
 exact uA (Zbj g) (by omega)
theorem Zro (s:Bool)(A:Option Addr)(l c:Nat)(e:Int)(w:World)(a:Zaj w (.slice A l c) 0) :
 yA 120 #[yV s A l c e] w (RetV w (yV s A l c e)):=by
 refine Zax (Φ:=fun w=>Zaj w (.slice A l c) (0)) Tryz.func120 rfl (by kernel_rfl) (fun w' b=>a.ext b) ?_
 refine Zac ?_
 have d:=a.len0
 have f:=@Zca 0
 refine Zab (xq 2 [(1,.p 1 0),(2,.p 2 0)] [yF 2 79 false none 0 0 0,yF 1 79 s A l c e] ?_)
 refine xe (Zaa (Zac (Zac (Zab (xq 4 [yB 6 (decide ((l:Int)>0))] [] ?_)))))
 rw[show decide ((l:Int)>0)=false from uJ (by omega)]
 refine xe (Zaa (xb (Zal (Zaa (Zac (Zab (xq 2 [] [yF 2 79 s A l c e] ?_)))))))
 refine xe (Zaa (Zaf ?_))
 refine yR (yV s A l c e) fun w' R Q=>?_
 exact⟨rfl,R⟩
theorem Zta (s:Bool)(A:Option Addr)(l c x:Nat)(e:Int)(t:Bool)(B:Option Addr)(m d y:Nat)(f:Int)(bits:Nat)(z:0<bits)(K:bits≤4096)(w:World)(L:Glob w)(M:Zaj w (.slice A l c) x)(C:wl x≤100000)(D : -1073741824≤e)(E:e≤1073741824)(N:Zaj w (.slice B m d) y)(F:wl y≤100000)(G : -1073741824≤f)(H:f≤1073741824) :
 yA 91 #[yV s A l c e, yV t B m d f,.int .i64 ((bits:Nat):Int)] w (ZaX w (sumR s x e (if y=0 then t else !t) y f bits)):=by
 refine Zax (Φ:=fun w=>((Glob w∧Zaj w (.slice A l c) (x))∧Zaj w (.slice B m d) (y))) Tryz.func91 rfl (by kernel_rfl) (fun w' J=>⟨⟨L.ext J,M.ext J⟩,N.ext J⟩) ?_
 refine Zac (Zab (xq 4 [(3,.p 3 0),(4,.p 4 0),(6,.p 6 0),yJ 7 0] [yF 6 79 false none 0 0 0,yF 4 79 t B m d f,yF 3 79 s A l c e] ?_))
 refine xe (Zaa (Zac ?_))
 by_cases j:y=0
 ·refine yO 9 Zam ?_
  refine xqg 2 [(8,.v (yV s A l c e)),(9,.v (yV t B m d f))] ?_
  refine xqd 120 [yV t B m d f] 10 (fun _:Unit=>.agg #[.bool t,.slice B m d,.int .i64 f]) _ (fun w R Q=>yN (Zro t B m d f _ (by have h:=Q.2;rw[j] at h;exact h))) fun I=>?_
  refine xqg 1 [yJ 11 (bits:Int)] ?_
  obtain⟨a,g⟩:=yE (sumR s x e t y f bits)
  refine xqd 84 [yV s A l c e, yV t B m d f,.int .i64 (bits:Int)] 12 (shNb a) _ (fun w R Q=>yM ZaU ((show Calls _ _ _ _ (ZaX w a) by rw[←g];exact ZiX s A l c x e t B m d y f bits z K _ Q.1.1.1 Q.1.1.2 C D E Q.1.2 F G H))) fun I=>?_
  obtain⟨k,n,o⟩:=I
  refine xqf 4 [yJ 7 a.err] [yF 6 79 a.s k n o a.e,yF 6 79 false none 0 0 0,yF 4 79 t B m d f,yF 3 79 s A l c e] ?_
  refine xz (xe (Zaa (Zaf ?_)))
  refine yR (.tuple #[yV a.s k n o a.e,.int .i64 a.err]) fun w' R Q=>?_
  rw[show (if y=0 then t else !t)=t from uP j,g]
  exact⟨(k,n,o),rfl,Q.2,R⟩
 refine yO 9 Zam ?_
 refine xqg 2 [(8,.v (yV s A l c e)),(9,.v (yV t B m d f))] ?_
 refine xqd 120 [yV t B m d f] 10 (fun _:Unit=>.agg #[.bool (!t),.slice B m d,.int .i64 f]) _ (fun w R Q=>yN (Zs9 t B m d y f _ Q.2 (by omega))) fun I=>?_
 refine xqg 1 [yJ 11 (bits:Int)] ?_
 obtain⟨b,i⟩:=yE (sumR s x e ((!t)) y f bits)
 refine xqd 84 [yV s A l c e, yV (!t) B m d f,.int .i64 (bits:Int)] 12 (shNb b) _ (fun w R Q=>yM ZaU ((show Calls _ _ _ _ (ZaX w b) by rw[←i];exact ZiX s A l c x e ((!t)) B m d y f bits z K _ Q.1.1.1 Q.1.1.2 C D E Q.1.2 F G H))) fun I=>?_
 obtain⟨q,r,u⟩:=I
 refine xqf 4 [yJ 7 b.err] [yF 6 79 b.s q r u b.e,yF 6 79 false none 0 0 0,yF 4 79 t B m d f,yF 3 79 s A l c e] ?_
 refine xz (xe (Zaa (Zaf ?_)))
 refine yR (.tuple #[yV b.s q r u b.e,.int .i64 b.err]) fun w' R Q=>?_
 rw[show (if y=0 then t else !t)=(!t) from uN j,i]
 exact⟨(q,r,u),rfl,Q.2,R⟩
theorem Zm8 (s t:ByteArray)(x y b:Int)(w:World)(hg:Glob w)(U:(bytes s).length≤100000)(o:(bytes t).length≤100000) :
 yA 81 #[yS s x, yS t y,.int .i64 b,.func (.func 91) #[] #[]] w (ZbQ w (binR ZcP (bytes s) (bytes t) x y b)):=by
 refine Zax (Φ:=fun w=>Glob w) Tryz.func81 rfl (by kernel_rfl) (fun w' hf=>hg.ext hf) ?_
 refine Zac (Zab (xq 4 [(4,.p 4 0),(5,.p 5 0),(8,.p 8 0),yJ 9 0] [yG 8 24 ⟨#[]⟩ 0,yG 5 24 t y,yG 4 24 s x] ?_))
 refine xe (Zaa (Zac (Zab (xq 1 [(15,.v (yS s x))] [] ?_))))
 by_cases u:fvB (bytes s) x=true
 ·obtain⟨d,g⟩:=yE (ldR (bytes s) x)
  have V:=Zbc u
  have i0:wl d.m≤100000:=by rw[←g];exact Zei U
  have j0:d.e=x:=by rw[←g,show ldR (bytes s) x=_ from uP u]
  have k0:d.s=true→0<d.m:=by rw[←g,show ldR (bytes s) x=_ from uP u];exact V.2.2.2
  refine xqc 64 [yS s x] 16 (shLd true d) _ (fun w R Q=>yM Zbq ((show Calls _ _ _ _ (ZbU w true d) by rw[←g,← u];exact Za0 s x _ U))) fun k=>?_
  obtain⟨C,D,E⟩:=k
  refine xq 6 [(10,.p 10 0),yB 11 true] [yF 10 79 d.s C D E d.e] ?_
  refine xe (Zaa (Zac (Zab (xq 1 [(20,.v (yS t y))] [] ?_))))
  by_cases c:fvB (bytes t) y=true
  ·obtain⟨f,i⟩:=yE (ldR (bytes t) y)
   have q:=Zbc c
   have L:wl f.m≤100000:=by rw[←i];exact Zei o
   have M:f.e=y:=by rw[←i,show ldR (bytes t) y=_ from uP c]
   have N:f.s=true→0<f.m:=by rw[←i,show ldR (bytes t) y=_ from uP c];exact q.2.2.2
   refine xqc 64 [yS t y] 21 (shLd true f) _ (fun w R Q=>yM Zbq ((show Calls _ _ _ _ (ZbU w true f) by rw[←i,← c];exact Za0 t y _ o))) fun k=>?_
   obtain⟨F,G,H⟩:=k
   refine xq 6 [(12,.p 12 0),yB 13 true] [yF 12 79 f.s F G H f.e] ?_
   refine xe (Zaa (Zac (Zac (Zab (xq 6 [yB 29 false] [] ?_)))))
   refine xe (Zaa (xb (Zal (Zaa (Zac (Zac ?_))))))
   by_cases T:8≤b∧b≤1024
   ·obtain⟨n,hn⟩:∃ n:Nat,b=n:=⟨b.toNat,by omega⟩
    subst hn
    refine Zab (xq 1 [yJ 31 (n:Int)] [] ?_)
    refine xqc 55 [.int .i64 (n:Int)] 32 (fun _:Unit=>.bool true) _ (fun w R Q=>(Zb3 _ _).mono (fun _ _ h=>Zag h (by rw[uQ T]))) fun k=>?_
    refine xq 1 [yB 33 false] [] ?_
    refine xe (Zaa (xb (Zal (Zaa (Zac (Zab (xq 4 [(35,.v (.func (.func 91) #[] #[])),(36,.v (yV d.s C D E d.e)),(37,.v (yV f.s F G H f.e)),yJ 38 (n:Int)] [] ?_)))))))
    obtain⟨a,r⟩:=yE (ZcP d f n)
    refine xqc 91 [yV d.s C D E d.e, yV f.s F G H f.e,.int .i64 (n:Int)] 39 (shNb a) _ (fun w R Q=>yM ZaU ((show Calls _ _ _ _ (ZaX w a) by rw[←r];exact Zta _ _ _ _ _ _ _ _ _ _ _ _ n (by omega) (by omega) _ Q.1.1.1 Q.1.1.2 (by omega) (by omega) (by omega) Q.1.2 (by omega) (by omega) (by omega)))) fun k=>?_
    obtain⟨I,J,K⟩:=k
    refine xq 2 [(40,.v (yV a.s I J K a.e)),yJ 41 a.err] [] ?_
    refine xqc 56 [yV a.s I J K a.e,.int .i64 a.err] 42 (fun _:Unit=>.tuple #[yS ⟨(frT a).toArray⟩ (frE a),.int .i64 a.err]) _ (fun w R Q=>yN (Zeb a I J K _ Q.1.1.1.1 Q.2 (by rw[←r];exact Zoq (by omega) (by omega)))) fun k=>?_
    refine xq 4 [yJ 9 a.err] [yG 8 24 ⟨(frT a).toArray⟩ (frE a)] ?_
    refine xe (Zaa (Zaf ?_))
    refine yR (.tuple #[yS ⟨(frT a).toArray⟩ (frE a),.int .i64 a.err]) fun w' R Q=>?_
    rw[show binR ZcP (bytes s) (bytes t) x y (n:Int)=ZcP (ldR (bytes s) x) (ldR (bytes t) y) n by unfold binR;rw[uP ⟨u,c⟩,uP T];rfl,g,i,r]
    exact⟨rfl,R⟩
   refine Zab (xq 1 [yJ 31 b] [] ?_)
   refine xqc 55 [.int .i64 b] 32 (fun _:Unit=>.bool false) _ (fun w R Q=>(Zb3 _ _).mono (fun _ _ h=>Zag h (by rw[uJ T]))) fun k=>?_
   refine xq 1 [yB 33 true] [] ?_
   refine xe (Zaa (xa (Zac (Zab (xq 3 [yJ 9 3] [] ?_)))))
   refine xe (Zaa (Zaf (Zae ?_)))
   refine yR (.tuple #[yS ⟨#[]⟩ 0,.int .i64 3]) fun w' R Q=>?_
   rw[show binR ZcP (bytes s) (bytes t) x y b=⟨false,0,0,3⟩ by unfold binR;rw[uP ⟨u,c⟩,uN T]]
   exact⟨rfl,R⟩
  obtain⟨z,O⟩:=yE (ldR (bytes t) y)
  refine xqc 64 [yS t y] 21 (shLd false z) _ (fun w R Q=>yM Zbq ((show Calls _ _ _ _ (ZbU w false z) by rw[←O,← vR.2 c];exact Za0 t y _ o))) fun k=>?_
  obtain⟨W,X,Y⟩:=k
  refine xq 6 [(12,.p 12 0),yB 13 false] [yF 12 79 z.s W X Y z.e] ?_
  refine xe (Zaa (Zac (Zac (Zab (xq 6 [yB 29 true] [] ?_)))))
  refine xe (Zaa (xa (Zac (Zab (xq 3 [yJ 9 1] [] ?_)))))
  refine xe (Zaa (Zaf (Zae ?_)))
  refine yR (.tuple #[yS ⟨#[]⟩ 0,.int .i64 1]) fun w' R Q=>?_
  rw[show binR ZcP (bytes s) (bytes t) x y b=⟨false,0,0,1⟩ from uN (fun h=>c h.2)]
  exact⟨rfl,R⟩
 obtain⟨A,P⟩:=yE (ldR (bytes s) x)
 refine xqc 64 [yS s x] 16 (shLd false A) _ (fun w R Q=>yM Zbq ((show Calls _ _ _ _ (ZbU w false A) by rw[←P,← vR.2 u];exact Za0 s x _ U))) fun k=>?_
 obtain⟨Z,a0,b0⟩:=k
 refine xq 6 [(10,.p 10 0),yB 11 false] [yF 10 79 A.s Z a0 b0 A.e] ?_
 refine xe (Zaa (Zac (Zab (xq 1 [(20,.v (yS t y))] [] ?_))))
 by_cases c:fvB (bytes t) y=true
 ·obtain⟨j,l⟩:=yE (ldR (bytes t) y)
  have q:=Zbc c
  have L:wl j.m≤100000:=by rw[←l];exact Zei o
  have M:j.e=y:=by rw[←l,show ldR (bytes t) y=_ from uP c]
  have N:j.s=true→0<j.m:=by rw[←l,show ldR (bytes t) y=_ from uP c];exact q.2.2.2
  refine xqc 64 [yS t y] 21 (shLd true j) _ (fun w R Q=>yM Zbq ((show Calls _ _ _ _ (ZbU w true j) by rw[←l,← c];exact Za0 t y _ o))) fun k=>?_
  obtain⟨c0,d0,e0⟩:=k
  refine xq 6 [(12,.p 12 0),yB 13 true] [yF 12 79 j.s c0 d0 e0 j.e] ?_
  refine xe (Zaa (Zac (Zac (Zab (xq 6 [yB 29 true] [] ?_)))))
  refine xe (Zaa (xa (Zac (Zab (xq 3 [yJ 9 1] [] ?_)))))
  refine xe (Zaa (Zaf (Zae ?_)))
  refine yR (.tuple #[yS ⟨#[]⟩ 0,.int .i64 1]) fun w' R Q=>?_
  rw[show binR ZcP (bytes s) (bytes t) x y b=⟨false,0,0,1⟩ from uN (fun h=>u h.1)]
  exact⟨rfl,R⟩
 obtain⟨B,S⟩:=yE (ldR (bytes t) y)
 refine xqc 64 [yS t y] 21 (shLd false B) _ (fun w R Q=>yM Zbq ((show Calls _ _ _ _ (ZbU w false B) by rw[←S,← vR.2 c];exact Za0 t y _ o))) fun k=>?_
 obtain⟨f0,g0,h0⟩:=k
 refine xq 6 [(12,.p 12 0),yB 13 false] [yF 12 79 B.s f0 g0 h0 B.e] ?_
 refine xe (Zaa (Zac (Zac (Zab (xq 6 [yB 29 true] [] ?_)))))
 refine xe (Zaa (xa (Zac (Zab (xq 3 [yJ 9 1] [] ?_)))))
 refine xe (Zaa (Zaf (Zae ?_)))
 refine yR (.tuple #[yS ⟨#[]⟩ 0,.int .i64 1]) fun w' R Q=>?_
 rw[show binR ZcP (bytes s) (bytes t) x y b=⟨false,0,0,1⟩ from uN (fun h=>u h.1)]
 exact⟨rfl,R⟩
theorem Zuc (s t:ByteArray)(x y b:Int)(w:World)(d:Glob w)(e:(bytes s).length≤100000)(a:(bytes t).length≤100000) :
 yA 53 #[yS s x, yS t y,.int .i64 b] w (ZbQ w (binR ZcP (bytes s) (bytes t) x y b)):=by
 obtain⟨r,c⟩:=yE (binR ZcP (bytes s) (bytes t) x y b)
 rw[c]
 refine Zax (Φ:=fun w=>Glob w) Tryz.func53 rfl (by kernel_rfl) (fun w' f=>d.ext f) ?_
 refine Zac (Zab (xq 4 [(3,.p 3 0),(4,.p 4 0),(6,.p 6 0),yJ 7 0] [yG 6 24 ⟨#[]⟩ 0,yG 4 24 t y,yG 3 24 s x] ?_))
 refine xe (Zaa (Zac (Zab (xq 3 [(8,.v (yS s x)),(9,.v (yS t y)),yJ 10 b] [] ?_))))
 refine xqc 81 [yS s x, yS t y,.int .i64 b,.func (.func 91) #[] #[]] 11 (fun _:Unit=>.tuple #[yS ⟨(frT r).toArray⟩ (frE r),.int .i64 r.err]) _ (fun w R Q=>yN ((show Calls _ _ _ _ (ZbQ w r) by rw[←c];exact Zm8 s t x y b _ Q e a))) fun g=>?_
 refine xq 4 [yJ 7 r.err] [yG 6 24 ⟨(frT r).toArray⟩ (frE r)] ?_
 refine xe (Zaa (Zaf ?_))
 refine yR (.tuple #[yS ⟨(frT r).toArray⟩ (frE r),.int .i64 r.err]) fun w' R Q=>?_
 exact⟨rfl,R⟩
theorem Ztb (s:ByteArray)(x b:Int)(w:World)(E:Glob w)(z:(bytes s).length≤100000) :
 yA 49 #[yS s x,.int .i64 b] w (ZbQ w (sqF (bytes s) x b)):=by
 refine Zax (Φ:=fun w=>Glob w) Tryz.func49 rfl (by kernel_rfl) (fun w' F=>E.ext F) ?_
 refine Zac (Zab (xq 3 [(2,.p 2 0),(4,.p 4 0),yJ 5 0] [yG 4 24 ⟨#[]⟩ 0,yG 2 24 s x] ?_))
 refine xe (Zaa (Zac (Zab (xq 1 [(9,.v (yS s x))] [] ?_))))
 by_cases i:fvB (bytes s) x=true
 ·obtain⟨c,d⟩:=yE (ldR (bytes s) x)
  have A:=Zbc i
  have G:wl c.m≤100000:=by rw[←d];exact Zei z
  have H:c.e=x:=by rw[←d,show ldR (bytes s) x=_ from uP i]
  have I:c.s=true→0<c.m:=by rw[←d,show ldR (bytes s) x=_ from uP i];exact A.2.2.2
  refine xqc 64 [yS s x] 10 (shLd true c) _ (fun w R Q=>yM Zbq ((show Calls _ _ _ _ (ZbU w true c) by rw[←d,← i];exact Za0 s x _ z))) fun j=>?_
  obtain⟨k,l,o⟩:=j
  refine xq 6 [(6,.p 6 0),yB 7 true] [yF 6 79 c.s k l o c.e] ?_
  refine xe (Zaa (Zac (Zac (Zab (xq 2 [yB 14 false] [] ?_)))))
  refine xe (Zaa (xb (Zal (Zaa (Zac (Zac ?_))))))
  by_cases y:8≤b∧b≤1024
  ·obtain⟨n,J⟩:∃ n:Nat,b=n:=⟨b.toNat,by omega⟩
   subst J
   refine Zab (xq 1 [yJ 16 (n:Int)] [] ?_)
   refine xqc 55 [.int .i64 (n:Int)] 17 (fun _:Unit=>.bool true) _ (fun w R Q=>(Zb3 _ _).mono (fun _ _ h=>Zag h (by rw[uQ y]))) fun j=>?_
   refine xq 1 [yB 18 false] [] ?_
   refine xe (Zaa (xb (Zal (Zaa (Zac (Zab (xq 2 [(20,.v (yV c.s k l o c.e)),yJ 21 (n:Int)] [] ?_)))))))
   obtain⟨a,f⟩:=yE (Zfm c n)
   refine xqc 86 [yV c.s k l o c.e,.int .i64 (n:Int)] 22 (shNb a) _ (fun w R Q=>yM ZaU ((show Calls _ _ _ _ (ZaX w a) by rw[←f];exact Zrm _ _ _ _ _ _ n (by omega) (by omega) _ Q.1.1 Q.1.2 (by omega) (by omega) (by omega) (by rw[←d];exact Zwm)))) fun j=>?_
   obtain⟨q,r,t⟩:=j
   refine xq 2 [(23,.v (yV a.s q r t a.e)),yJ 24 a.err] [] ?_
   refine xqc 56 [yV a.s q r t a.e,.int .i64 a.err] 25 (fun _:Unit=>.tuple #[yS ⟨(frT a).toArray⟩ (frE a),.int .i64 a.err]) _ (fun w R Q=>yN (Zeb a q r t _ Q.1.1.1 Q.2 (by rw[←f];exact Zrn (by omega) (by omega)))) fun j=>?_
   refine xq 4 [yJ 5 a.err] [yG 4 24 ⟨(frT a).toArray⟩ (frE a)] ?_
   refine xe (Zaa (Zaf ?_))
   refine yR (.tuple #[yS ⟨(frT a).toArray⟩ (frE a),.int .i64 a.err]) fun w' R Q=>?_
   rw[show sqF (bytes s) x (n:Int)=Zfm (ldR (bytes s) x) n by unfold sqF;rw[uP i,uP y];rfl,d,f]
   exact⟨rfl,R⟩
  refine Zab (xq 1 [yJ 16 b] [] ?_)
  refine xqc 55 [.int .i64 b] 17 (fun _:Unit=>.bool false) _ (fun w R Q=>(Zb3 _ _).mono (fun _ _ h=>Zag h (by rw[uJ y]))) fun j=>?_
  refine xq 1 [yB 18 true] [] ?_
  refine xe (Zaa (xa (Zac (Zab (xq 3 [yJ 5 3] [] ?_)))))
  refine xe (Zaa (Zaf (Zae ?_)))
  refine yR (.tuple #[yS ⟨#[]⟩ 0,.int .i64 3]) fun w' R Q=>?_
  rw[show sqF (bytes s) x b=⟨false,0,0,3⟩ by unfold sqF;rw[uP i,uN y]]
  exact⟨rfl,R⟩
 obtain⟨g,u⟩:=yE (ldR (bytes s) x)
 refine xqc 64 [yS s x] 10 (shLd false g) _ (fun w R Q=>yM Zbq ((show Calls _ _ _ _ (ZbU w false g) by rw[←u,← vR.2 i];exact Za0 s x _ z))) fun j=>?_
 obtain⟨B,C,D⟩:=j
 refine xq 6 [(6,.p 6 0),yB 7 false] [yF 6 79 g.s B C D g.e] ?_
 refine xe (Zaa (Zac (Zac (Zab (xq 2 [yB 14 true] [] ?_)))))
 refine xe (Zaa (xa (Zac (Zab (xq 3 [yJ 5 1] [] ?_)))))
 refine xe (Zaa (Zaf (Zae ?_)))
 refine yR (.tuple #[yS ⟨#[]⟩ 0,.int .i64 1]) fun w' R Q=>?_
 rw[show sqF (bytes s) x b=⟨false,0,0,1⟩ from uN i]
 exact⟨rfl,R⟩
theorem Zec {s:Bool}{n:Nat}:sg s n=0↔n=0:=by unfold sg;cases s<;>simp
theorem Zl0 {s:Bool}{m d bits:Nat}{e:Int}:ZaK (decide (sg s m<0)) (sg s m).natAbs d e bits=ZaK s m d e bits:=by
 rw[Zci]
 rcases uH m with rfl|h
 ·rw[Zco,Zco]
 rw[Zfl h]
theorem ZvD (s t:Bool)(m n:Nat):sg s m*sg t n=sg (s != t) (m*n):=by
 unfold sg;cases s<;>cases t<;>simp[Int.neg_mul,Int.mul_neg]
theorem Zwn (k:Nat):ml 0≤k:=ZaY.2 (uU Zau)
theorem Zwo {s t:Bool}{m n d bits:Nat}{e:Int}:ZaK (decide (sg s m*sg t n<0)) (sg s m*sg t n).natAbs d e bits=ZaK (s != t) (m*n) d e bits:=by
 rw[ZvD,Zl0]
theorem Ztc {s t:Bool}{m n bits:Nat}{e f:Int}:rsum (sg s m) e (sg t n) f bits=sumR s m e t n f bits:=by
 unfold rsum sumR
 by_cases a:m=0
 ·rw[uP (Zec.2 a),uP a,Zl0]
 rw[uN (mt Zec.1 a),uN a]
 by_cases b:n=0
 ·rw[uP (Zec.2 b),uP b,Zl0]
 rw[uN (mt Zec.1 b),uN b]
 unfold addR
 rw[Zs8,Zs8]
theorem Zwp {s t:Bool}{m n bits:Nat}{e f:Int}:rsum (sg s m) e (-(sg t n)) f bits=sumR s m e (if n=0 then t else !t) n f bits:=by
 rw[←Ztc]
 congr 1
 split
 ·rename_i h;subst h;rw[ZjC];rfl
 unfold sg;cases t<;>simp
theorem Zwq {s t:Bool}{m n bits:Nat}{e:Int}(h:n≠0):ZaK (decide (sg s m<0) != decide (sg t n<0)) (sg s m).natAbs (sg t n).natAbs e bits=Zg2 (s != t) m n e bits:=by
 unfold Zg2
 rw[uN h,Zci,Zci,Zfl (show 0<n by omega)]
 rcases uH m with rfl|a
 ·rw[Zco,Zco]
 rw[Zfl a]
theorem Zqh {z1 c d e:Int}{bits:Nat}(b:0<bits)(a:bits≤4096):ml (rsum z1 c d e bits).m≤129:=by
 unfold rsum
 split
 ·exact ZhD (by decide) b a
 split
 ·exact ZhD (by decide) b a
 exact ZhD (by decide) b a
theorem Zwr {m bits:Nat}{e:Int}(b:8≤bits)(c:bits≤4096):ml (sqR m e bits).m≤400:=by
 unfold sqR
 split
 ·exact Zwn _
 refine Zqf ?_
 rename_i h
 unfold sqM
 obtain⟨k,a⟩:=yE (sqK m e bits)
 have d:=ZoA a rfl
 obtain⟨_,i⟩:=Zs0 (by omega) b d rfl
 rw[a]
 have f:=Zs2 (ZjE (k:=300) (show blen (fq m 1 (-(e-2*k+2)))≤32*300 by omega))
 have g:=ZoC (isq (fq m 1 (-(e-2*k+2)))) (Zcb m (e-2*k+2))
 have j:=Zgy f (uA ml_1 (by decide))
 exact uA (Za4 g) (by omega)
section
variable {l l':List UInt8} {x y:Int} {n:Nat}
theorem ZeU (a:fvB l x=true):ldR l x=⟨(ZaA l).1,Zak (ZaA l).2,x,0⟩:=uP a
theorem ZoD (b:fvB l x=true)(a:fvB l' y=true):ZcN (ldR l x) (ldR l' y) n=ZaK (decide (flM l*flM l'<0)) (flM l*flM l').natAbs 1 (x+y) n:=by
 rw[ZeU b,ZeU a];exact Zwo.symm
theorem ZoE (b:fvB l x=true)(a:fvB l' y=true):ZcM (ldR l x) (ldR l' y) n=rsum (flM l) x (flM l') y n:=by
 rw[ZeU b,ZeU a];exact Ztc.symm
theorem ZoF (b:fvB l x=true)(a:fvB l' y=true):ZcP (ldR l x) (ldR l' y) n=rsum (flM l) x (-(flM l')) y n:=by
 rw[ZeU b,ZeU a];exact Zwp.symm
theorem ZoG (b:fvB l x=true)(a:fvB l' y=true)(h:flM l'≠0):Zck (ldR l x) (ldR l' y) n=ZaK (decide (flM l<0) != decide (flM l'<0)) (flM l).natAbs (flM l').natAbs (x-y) n:=by
 rw[ZeU b,ZeU a];exact (Zwq (mt Zec.2 h)).symm
theorem Zrp (b:fvB l x=true)(a:fvB l' y=true)(h:flM l'=0):Zck (ldR l x) (ldR l' y) n=⟨false,0,0,5⟩:=by
 rw[ZeU b,ZeU a];exact uP (Zec.1 h)
theorem Zrq (a:fvB l x=true)(h:flM l<0):Zfm (ldR l x) n=⟨false,0,0,3⟩:=by
 rw[ZeU a]
 refine uP (Decidable.byContradiction fun b=>?_)
 have c:(ZaA l).1=false:=by simpa using b
 unfold flM sg at h
 rw[c] at h
 simp at h
 omega
theorem Zlr (a:fvB l x=true)(h:¬ flM l<0):Zfm (ldR l x) n=sqR (flM l).natAbs x n:=by
 have b:(ZaA l).1=false:=by
  cases hu:(ZaA l).1
  ·rfl
  have c:=(Zbc a).2.2.2 hu
  unfold flM sg at h
  rw[hu] at h
  simp at h
  omega
 rw[ZeU a]
 unfold Zfm ZdG sqR flM
 rw[b,uN (show ¬ (false=true) by decide),Zci]
 rfl
end
theorem fv48:fvB (bytes ⟨#[48]⟩) 0=true:=by rw[show bytes ⟨#[48]⟩=[48] from rfl];decide
theorem Zrr (s t:ByteArray)(x y b:Int)(w:World)(hs:(bytes s).length≤1000)(d0:(bytes t).length≤1000) :
 yA 52 #[.int .u8 42, yS s x, yS t y,.int .i64 b] w (ZbQ w (binR ZcN (bytes s) (bytes t) x y b)):=by
 refine Zax (Φ:=fun w=>True) Tryz.func52 rfl (by kernel_rfl) (fun w' hf=>trivial) ?_
 refine Zac (Zab (xq 4 [(5,.p 5 0),(6,.p 6 0),(8,.p 8 0),yJ 9 0] [yG 8 24 ⟨#[]⟩ 0,yG 6 24 t y,yG 5 24 s x] ?_))
 refine xe (Zaa (Zac (Zab (xq 1 [(17,.v (yS s x))] [] ?_))))
 by_cases j:fvB (bytes s) x=true
 ·refine xqc 35 [yS s x] 18 (shRF true x) _ (fun w R Q=>yM ZcG (Zcg s x _ _ (by omega) j rfl)) fun g=>?_
  obtain⟨k,o,q,r⟩:=g
  refine xq 6 [(10,.p 10 0),yB 11 true] [yF 10 52 k o q r x] ?_
  refine xe (Zaa (Zac (Zab (xq 1 [(22,.v (yS t y))] [] ?_))))
  by_cases c:fvB (bytes t) y=true
  ·refine xqc 35 [yS t y] 23 (shRF true y) _ (fun w R Q=>yM ZcG (Zcg t y _ _ (by omega) c rfl)) fun g=>?_
   obtain⟨u,z,A,B⟩:=g
   refine xq 6 [(12,.p 12 0),yB 13 true] [yF 12 52 u z A B y] ?_
   refine xe (Zaa (Zac (Zac (Zab (xq 6 [yB 31 false] [] ?_)))))
   refine xe (Zaa (xb (Zal (Zaa (Zac (Zac ?_))))))
   have hx:=Zbc j
   have e0:=hx.1
   have f0:=hx.2.1
   have hy:=Zbc c
   have g0:=hy.1
   have h0:=hy.2.1
   by_cases H:8≤b∧b≤1024
   ·obtain⟨n,hn⟩:∃ n:Nat,b=n:=⟨b.toNat,by omega⟩
    subst hn
    refine Zab (xq 1 [yJ 33 (n:Int)] [] ?_)
    refine xqc 58 [.int .i64 (n:Int)] 34 (fun _:Unit=>.bool true) _ (fun w R Q=>(ZbT _ _).mono (fun _ _ h=>Zag h (by rw[uQ H]))) fun g=>?_
    refine xq 11 [yB 45 false] [] ?_
    refine xe (Zaa (xb (Zal (Zaa (Zac (Zac (Zab (xq 8 [yB 54 false] [] ?_))))))))
    refine xe (Zaa (xb (Zal (Zaa (Zac (Zab (xq 4 [(14,.p 58 0)] [(58,84,[.v (.int .i64 (n:Int)),.v (.int .i64 0)])] ?_)))))))
    refine xe (Zaa (Zac (Zab (xq 1 [(15,.p 15 0)] [yF 15 52 false none 0 0 0] ?_))))
    refine xe (Zaa (Zac (Zac (Zab (xq 1 [(59,.v (.int .u8 42))] [] ?_)))))
    refine xe (Zaa (ZaH (Zac (Zab (xr 2 [(8,.p 8 0),yJ 9 0,(10,.p 10 0),(12,.p 12 0),(14,.p 58 0),(15,.p 15 0),(59,.v (.int .u8 42)),yB 63 false] [yF 15 52 false none 0 0 0,(58,84,[.v (.int .i64 (n:Int)),.v (.int .i64 0)]),yF 12 52 u z A B y,yF 10 52 k o q r x,yG 8 24 ⟨#[]⟩ 0] ?_)))))
    refine xe (Zaa (xb (Zac (Zab (xq 2 [yB 69 false] [] ?_)))))
    refine xe (Zaa (xb (Zac (Zab (xq 2 [yB 75 true] [] ?_)))))
    refine xe (Zaa (xa (Zab (xq 3 [(77,.p 58 0),(78,.v (yV k o q r x)),(79,.v (yV u z A B y))] [] ?_))))
    obtain⟨a,i⟩:=yE (ZaK (decide (flM (bytes s)*flM (bytes t)<0)) (flM (bytes s)*flM (bytes t)).natAbs 1 (x+y) n)
    refine ZgH (b:=58) (t:=84) (cs:=[.v (.int .i64 (n:Int)),.v (.int .i64 0)]) 88 [yV k o q r x, yV u z A B y] (d:=80) (shF a.e) (fun _=>[.int .i64 (n:Int),.int .i64 a.err]) (fun y w=>Zai w (Zaz y) (sg a.s a.m)) (by kernel_rfl) (by kernel_rfl) (by kernel_rfl) (fun w q_ R Q hB=>(show Calls _ _ _ _ (RetC w q_ (n:Int) a) by rw[←i];exact Zs3 q_ n k o q r (flM (bytes s)) x u z A B (flM (bytes t)) y _ hB Q.1.1.2 Q.1.2 (ZeG j (by omega)) (ZeG c (by omega)) (by omega) (by omega) (by omega) (by omega) (by omega) (by omega)).mono (fun _ _=>Zja)) fun g=>?_
    obtain⟨C,D,E,F⟩:=g
    refine xr 1 [(8,.p 8 0),yJ 9 0,(14,.p 58 0),(15,.p 15 0)] [yF 15 52 C D E F a.e,(58,84,[.v (.int .i64 (n:Int)),.v (.int .i64 a.err)]),yG 8 24 ⟨#[]⟩ 0] ?_
    refine xe (Zbk (Zaa (Zac (Zac (Zab (xq 5 [yB 91 ((a.err:Int) != 0)] [] ?_))))))
    refine xe (Zaa ?_)
    refine yQ (((a.err:Int) != 0)) (fun G=>?_) fun G=>?_
    ·have f:=Zc9 G
     refine Zac ?_
     refine yO 7 Zam ?_
     refine xqf 7 [yJ 9 a.err] [yG 8 24 ⟨#[]⟩ 0,yF 15 52 C D E F a.e,(58,84,[.v (.int .i64 (n:Int)),.v (.int .i64 a.err)]),yG 8 24 ⟨#[]⟩ 0] ?_
     refine xz (xe (Zaa (Zaf (Zae ?_))))
     refine yR (.tuple #[yS ⟨#[]⟩ 0,.int .i64 a.err]) fun w' R Q=>?_
     rw[show binR ZcN (bytes s) (bytes t) x y (n:Int)=ZcN (ldR (bytes s) x) (ldR (bytes t) y) n by unfold binR;rw[uP ⟨j,c⟩,uP H];rfl]
     rw[ZoD j c,i]
     exact⟨by rw[Zjd f,Zje f],R⟩
    have f:=Zda G
    refine Zal (Zaa (Zac (Zab (xq 1 [(97,.v (yV C D E F a.e))] [] ?_))))
    refine xqc 38 [yV C D E F a.e] 98 (fun _:Unit=>.agg #[.string ⟨(Lib.itoa (sg a.s a.m)).toArray⟩,.int .i64 a.e]) _ (fun w R Q=>yN (Zfj C D E F (sg a.s a.m) a.e _ Q.2 (by rw[Zci,← i];exact uA (ZhD (by decide) (by omega) (by omega)) (by decide)))) fun g=>?_
    refine xq 2 [yJ 9 0] [yG 8 24 ⟨(Lib.itoa (sg a.s a.m)).toArray⟩ a.e] ?_
    refine xe (Zaa (Zaf ?_))
    refine yR (.tuple #[yS ⟨(Lib.itoa (sg a.s a.m)).toArray⟩ a.e,.int .i64 0]) fun w' R Q=>?_
    rw[show binR ZcN (bytes s) (bytes t) x y (n:Int)=ZcN (ldR (bytes s) x) (ldR (bytes t) y) n by unfold binR;rw[uP ⟨j,c⟩,uP H];rfl]
    rw[ZoD j c,i]
    exact⟨by rw[Zjb f,Zjc f,f],R⟩
   refine Zab (xq 1 [yJ 33 b] [] ?_)
   refine xqc 58 [.int .i64 b] 34 (fun _:Unit=>.bool false) _ (fun w R Q=>(ZbT _ _).mono (fun _ _ h=>Zag h (by rw[uJ H]))) fun g=>?_
   refine xq 11 [yB 45 true] [] ?_
   refine xe (Zaa (xa (Zac (Zab (xq 3 [yJ 9 3] [] ?_)))))
   refine xe (Zaa (Zaf (Zae ?_)))
   refine yR (.tuple #[yS ⟨#[]⟩ 0,.int .i64 3]) fun w' R Q=>?_
   rw[show binR ZcN (bytes s) (bytes t) x y b=⟨false,0,0,3⟩ by unfold binR;rw[uP ⟨j,c⟩,uN H]]
   exact⟨rfl,R⟩
  refine xqc 35 [yS t y] 23 (fun y:ShI×Int=>shRF false y.2 y.1) _ (fun w R Q=>yM Zdh (ZcH t y _ (by omega) c)) fun g=>?_
  obtain⟨⟨I,J,K,L⟩,M⟩:=g
  refine xq 6 [(12,.p 12 0),yB 13 false] [yF 12 52 I J K L M] ?_
  refine xe (Zaa (Zac (Zac (Zab (xq 6 [yB 31 true] [] ?_)))))
  refine xe (Zaa (xa (Zac (Zab (xq 3 [yJ 9 1] [] ?_)))))
  refine xe (Zaa (Zaf (Zae ?_)))
  refine yR (.tuple #[yS ⟨#[]⟩ 0,.int .i64 1]) fun w' R Q=>?_
  rw[show binR ZcN (bytes s) (bytes t) x y b=⟨false,0,0,1⟩ from uN (fun h=>c h.2)]
  exact⟨rfl,R⟩
 refine xqc 35 [yS s x] 18 (fun y:ShI×Int=>shRF false y.2 y.1) _ (fun w R Q=>yM Zdh (ZcH s x _ (by omega) j)) fun g=>?_
 obtain⟨⟨N,O,P,S⟩,T⟩:=g
 refine xq 6 [(10,.p 10 0),yB 11 false] [yF 10 52 N O P S T] ?_
 refine xe (Zaa (Zac (Zab (xq 1 [(22,.v (yS t y))] [] ?_))))
 by_cases c:fvB (bytes t) y=true
 ·refine xqc 35 [yS t y] 23 (shRF true y) _ (fun w R Q=>yM ZcG (Zcg t y _ _ (by omega) c rfl)) fun g=>?_
  obtain⟨U,V,W,X⟩:=g
  refine xq 6 [(12,.p 12 0),yB 13 true] [yF 12 52 U V W X y] ?_
  refine xe (Zaa (Zac (Zac (Zab (xq 6 [yB 31 true] [] ?_)))))
  refine xe (Zaa (xa (Zac (Zab (xq 3 [yJ 9 1] [] ?_)))))
  refine xe (Zaa (Zaf (Zae ?_)))
  refine yR (.tuple #[yS ⟨#[]⟩ 0,.int .i64 1]) fun w' R Q=>?_
  rw[show binR ZcN (bytes s) (bytes t) x y b=⟨false,0,0,1⟩ from uN (fun h=>j h.1)]
  exact⟨rfl,R⟩
 refine xqc 35 [yS t y] 23 (fun y:ShI×Int=>shRF false y.2 y.1) _ (fun w R Q=>yM Zdh (ZcH t y _ (by omega) c)) fun g=>?_
 obtain⟨⟨Y,Z,a0,b0⟩,c0⟩:=g
 refine xq 6 [(12,.p 12 0),yB 13 false] [yF 12 52 Y Z a0 b0 c0] ?_
 refine xe (Zaa (Zac (Zac (Zab (xq 6 [yB 31 true] [] ?_)))))
 refine xe (Zaa (xa (Zac (Zab (xq 3 [yJ 9 1] [] ?_)))))
 refine xe (Zaa (Zaf (Zae ?_)))
 refine yR (.tuple #[yS ⟨#[]⟩ 0,.int .i64 1]) fun w' R Q=>?_
 rw[show binR ZcN (bytes s) (bytes t) x y b=⟨false,0,0,1⟩ from uN (fun h=>j h.1)]
 exact⟨rfl,R⟩
theorem Zrs (s t:ByteArray)(x y b:Int)(w:World)(hs:(bytes s).length≤1000)(f0:(bytes t).length≤1000)(I:x-y≤4000)(J:y-x≤4000) :
 yA 52 #[.int .u8 43, yS s x, yS t y,.int .i64 b] w (ZbQ w (binR ZcM (bytes s) (bytes t) x y b)):=by
 refine Zax (Φ:=fun w=>True) Tryz.func52 rfl (by kernel_rfl) (fun w' hf=>trivial) ?_
 refine Zac (Zab (xq 4 [(5,.p 5 0),(6,.p 6 0),(8,.p 8 0),yJ 9 0] [yG 8 24 ⟨#[]⟩ 0,yG 6 24 t y,yG 5 24 s x] ?_))
 refine xe (Zaa (Zac (Zab (xq 1 [(17,.v (yS s x))] [] ?_))))
 by_cases j:fvB (bytes s) x=true
 ·refine xqc 35 [yS s x] 18 (shRF true x) _ (fun w R Q=>yM ZcG (Zcg s x _ _ (by omega) j rfl)) fun g=>?_
  obtain⟨k,o,q,r⟩:=g
  refine xq 6 [(10,.p 10 0),yB 11 true] [yF 10 52 k o q r x] ?_
  refine xe (Zaa (Zac (Zab (xq 1 [(22,.v (yS t y))] [] ?_))))
  by_cases c:fvB (bytes t) y=true
  ·refine xqc 35 [yS t y] 23 (shRF true y) _ (fun w R Q=>yM ZcG (Zcg t y _ _ (by omega) c rfl)) fun g=>?_
   obtain⟨u,z,A,B⟩:=g
   refine xq 6 [(12,.p 12 0),yB 13 true] [yF 12 52 u z A B y] ?_
   refine xe (Zaa (Zac (Zac (Zab (xq 6 [yB 31 false] [] ?_)))))
   refine xe (Zaa (xb (Zal (Zaa (Zac (Zac ?_))))))
   have hx:=Zbc j
   have g0:=hx.1
   have h0:=hx.2.1
   have hy:=Zbc c
   have i0:=hy.1
   have j0:=hy.2.1
   by_cases H:8≤b∧b≤1024
   ·obtain⟨n,hn⟩:∃ n:Nat,b=n:=⟨b.toNat,by omega⟩
    subst hn
    refine Zab (xq 1 [yJ 33 (n:Int)] [] ?_)
    refine xqc 58 [.int .i64 (n:Int)] 34 (fun _:Unit=>.bool true) _ (fun w R Q=>(ZbT _ _).mono (fun _ _ h=>Zag h (by rw[uQ H]))) fun g=>?_
    refine xq 11 [yB 45 false] [] ?_
    refine xe (Zaa (xb (Zal (Zaa (Zac (Zac (Zab (xq 8 [yB 54 false] [] ?_))))))))
    refine xe (Zaa (xb (Zal (Zaa (Zac (Zab (xq 4 [(14,.p 58 0)] [(58,84,[.v (.int .i64 (n:Int)),.v (.int .i64 0)])] ?_)))))))
    refine xe (Zaa (Zac (Zab (xq 1 [(15,.p 15 0)] [yF 15 52 false none 0 0 0] ?_))))
    refine xe (Zaa (Zac (Zac (Zab (xq 1 [(59,.v (.int .u8 43))] [] ?_)))))
    refine xe (Zaa (ZaH (Zac (Zab (xr 2 [(8,.p 8 0),yJ 9 0,(10,.p 10 0),(12,.p 12 0),(14,.p 58 0),(15,.p 15 0),(59,.v (.int .u8 43)),yB 63 true] [yF 15 52 false none 0 0 0,(58,84,[.v (.int .i64 (n:Int)),.v (.int .i64 0)]),yF 12 52 u z A B y,yF 10 52 k o q r x,yG 8 24 ⟨#[]⟩ 0] ?_)))))
    refine xe (Zaa (xa (Zab (xq 3 [(65,.p 58 0),(66,.v (yV k o q r x)),(67,.v (yV u z A B y))] [] ?_))))
    obtain⟨a,i⟩:=yE (rsum (flM (bytes s)) x (flM (bytes t)) y n)
    refine ZgH (b:=58) (t:=84) (cs:=[.v (.int .i64 (n:Int)),.v (.int .i64 0)]) 87 [yV k o q r x,.int .i64 1, yV u z A B y] (d:=68) (shF a.e) (fun _=>[.int .i64 (n:Int),.int .i64 a.err]) (fun y w=>Zai w (Zaz y) (sg a.s a.m)) (by kernel_rfl) (by kernel_rfl) (by kernel_rfl) (fun w q_ R Q hB=>(show Calls _ _ _ _ (RetC w q_ (n:Int) a) by rw[←i];exact Zs5 q_ n k o q r (flM (bytes s)) x u z A B (flM (bytes t)) y _ hB Q.1.1.2 Q.1.2 (ZeG j (by omega)) (ZeG c (by omega)) (by omega) (by omega) (by omega) (by omega) (by omega) (by omega) I J).mono (fun _ _=>Zja)) fun g=>?_
    obtain⟨C,D,E,F⟩:=g
    refine xr 1 [(8,.p 8 0),yJ 9 0,(14,.p 58 0),(15,.p 15 0)] [yF 15 52 C D E F a.e,(58,84,[.v (.int .i64 (n:Int)),.v (.int .i64 a.err)]),yG 8 24 ⟨#[]⟩ 0] ?_
    refine xe (Zbk (Zaa (Zac (Zac (Zab (xq 5 [yB 91 ((a.err:Int) != 0)] [] ?_))))))
    refine xe (Zaa ?_)
    refine yQ (((a.err:Int) != 0)) (fun G=>?_) fun G=>?_
    ·have f:=Zc9 G
     refine Zac ?_
     refine yO 7 Zam ?_
     refine xqf 7 [yJ 9 a.err] [yG 8 24 ⟨#[]⟩ 0,yF 15 52 C D E F a.e,(58,84,[.v (.int .i64 (n:Int)),.v (.int .i64 a.err)]),yG 8 24 ⟨#[]⟩ 0] ?_
     refine xz (xe (Zaa (Zaf (Zae ?_))))
     refine yR (.tuple #[yS ⟨#[]⟩ 0,.int .i64 a.err]) fun w' R Q=>?_
     rw[show binR ZcM (bytes s) (bytes t) x y (n:Int)=ZcM (ldR (bytes s) x) (ldR (bytes t) y) n by unfold binR;rw[uP ⟨j,c⟩,uP H];rfl]
     rw[ZoE j c,i]
     exact⟨by rw[Zjd f,Zje f],R⟩
    have f:=Zda G
    refine Zal (Zaa (Zac (Zab (xq 1 [(97,.v (yV C D E F a.e))] [] ?_))))
    refine xqc 38 [yV C D E F a.e] 98 (fun _:Unit=>.agg #[.string ⟨(Lib.itoa (sg a.s a.m)).toArray⟩,.int .i64 a.e]) _ (fun w R Q=>yN (Zfj C D E F (sg a.s a.m) a.e _ Q.2 (by rw[Zci,← i];exact uA (Zqh (by omega) (by omega)) (by decide)))) fun g=>?_
    refine xq 2 [yJ 9 0] [yG 8 24 ⟨(Lib.itoa (sg a.s a.m)).toArray⟩ a.e] ?_
    refine xe (Zaa (Zaf ?_))
    refine yR (.tuple #[yS ⟨(Lib.itoa (sg a.s a.m)).toArray⟩ a.e,.int .i64 0]) fun w' R Q=>?_
    rw[show binR ZcM (bytes s) (bytes t) x y (n:Int)=ZcM (ldR (bytes s) x) (ldR (bytes t) y) n by unfold binR;rw[uP ⟨j,c⟩,uP H];rfl]
    rw[ZoE j c,i]
    exact⟨by rw[Zjb f,Zjc f,f],R⟩
   refine Zab (xq 1 [yJ 33 b] [] ?_)
   refine xqc 58 [.int .i64 b] 34 (fun _:Unit=>.bool false) _ (fun w R Q=>(ZbT _ _).mono (fun _ _ h=>Zag h (by rw[uJ H]))) fun g=>?_
   refine xq 11 [yB 45 true] [] ?_
   refine xe (Zaa (xa (Zac (Zab (xq 3 [yJ 9 3] [] ?_)))))
   refine xe (Zaa (Zaf (Zae ?_)))
   refine yR (.tuple #[yS ⟨#[]⟩ 0,.int .i64 3]) fun w' R Q=>?_
   rw[show binR ZcM (bytes s) (bytes t) x y b=⟨false,0,0,3⟩ by unfold binR;rw[uP ⟨j,c⟩,uN H]]
   exact⟨rfl,R⟩
  refine xqc 35 [yS t y] 23 (fun y:ShI×Int=>shRF false y.2 y.1) _ (fun w R Q=>yM Zdh (ZcH t y _ (by omega) c)) fun g=>?_
  obtain⟨⟨K,L,M,N⟩,O⟩:=g
  refine xq 6 [(12,.p 12 0),yB 13 false] [yF 12 52 K L M N O] ?_
  refine xe (Zaa (Zac (Zac (Zab (xq 6 [yB 31 true] [] ?_)))))
  refine xe (Zaa (xa (Zac (Zab (xq 3 [yJ 9 1] [] ?_)))))
  refine xe (Zaa (Zaf (Zae ?_)))
  refine yR (.tuple #[yS ⟨#[]⟩ 0,.int .i64 1]) fun w' R Q=>?_
  rw[show binR ZcM (bytes s) (bytes t) x y b=⟨false,0,0,1⟩ from uN (fun h=>c h.2)]
  exact⟨rfl,R⟩
 refine xqc 35 [yS s x] 18 (fun y:ShI×Int=>shRF false y.2 y.1) _ (fun w R Q=>yM Zdh (ZcH s x _ (by omega) j)) fun g=>?_
 obtain⟨⟨P,S,T,U⟩,V⟩:=g
 refine xq 6 [(10,.p 10 0),yB 11 false] [yF 10 52 P S T U V] ?_
 refine xe (Zaa (Zac (Zab (xq 1 [(22,.v (yS t y))] [] ?_))))
 by_cases c:fvB (bytes t) y=true
 ·refine xqc 35 [yS t y] 23 (shRF true y) _ (fun w R Q=>yM ZcG (Zcg t y _ _ (by omega) c rfl)) fun g=>?_
  obtain⟨W,X,Y,Z⟩:=g
  refine xq 6 [(12,.p 12 0),yB 13 true] [yF 12 52 W X Y Z y] ?_
  refine xe (Zaa (Zac (Zac (Zab (xq 6 [yB 31 true] [] ?_)))))
  refine xe (Zaa (xa (Zac (Zab (xq 3 [yJ 9 1] [] ?_)))))
  refine xe (Zaa (Zaf (Zae ?_)))
  refine yR (.tuple #[yS ⟨#[]⟩ 0,.int .i64 1]) fun w' R Q=>?_
  rw[show binR ZcM (bytes s) (bytes t) x y b=⟨false,0,0,1⟩ from uN (fun h=>j h.1)]
  exact⟨rfl,R⟩
 refine xqc 35 [yS t y] 23 (fun y:ShI×Int=>shRF false y.2 y.1) _ (fun w R Q=>yM Zdh (ZcH t y _ (by omega) c)) fun g=>?_
 obtain⟨⟨a0,b0,c0,d0⟩,e0⟩:=g
 refine xq 6 [(12,.p 12 0),yB 13 false] [yF 12 52 a0 b0 c0 d0 e0] ?_
 refine xe (Zaa (Zac (Zac (Zab (xq 6 [yB 31 true] [] ?_)))))
 refine xe (Zaa (xa (Zac (Zab (xq 3 [yJ 9 1] [] ?_)))))
 refine xe (Zaa (Zaf (Zae ?_)))
 refine yR (.tuple #[yS ⟨#[]⟩ 0,.int .i64 1]) fun w' R Q=>?_
 rw[show binR ZcM (bytes s) (bytes t) x y b=⟨false,0,0,1⟩ from uN (fun h=>j h.1)]
 exact⟨rfl,R⟩
theorem Zrt (s t:ByteArray)(x y b:Int)(w:World)(hs:(bytes s).length≤1000)(f0:(bytes t).length≤1000)(I:x-y≤4000)(J:y-x≤4000) :
 yA 52 #[.int .u8 45, yS s x, yS t y,.int .i64 b] w (ZbQ w (binR ZcP (bytes s) (bytes t) x y b)):=by
 refine Zax (Φ:=fun w=>True) Tryz.func52 rfl (by kernel_rfl) (fun w' hf=>trivial) ?_
 refine Zac (Zab (xq 4 [(5,.p 5 0),(6,.p 6 0),(8,.p 8 0),yJ 9 0] [yG 8 24 ⟨#[]⟩ 0,yG 6 24 t y,yG 5 24 s x] ?_))
 refine xe (Zaa (Zac (Zab (xq 1 [(17,.v (yS s x))] [] ?_))))
 by_cases j:fvB (bytes s) x=true
 ·refine xqc 35 [yS s x] 18 (shRF true x) _ (fun w R Q=>yM ZcG (Zcg s x _ _ (by omega) j rfl)) fun g=>?_
  obtain⟨k,o,q,r⟩:=g
  refine xq 6 [(10,.p 10 0),yB 11 true] [yF 10 52 k o q r x] ?_
  refine xe (Zaa (Zac (Zab (xq 1 [(22,.v (yS t y))] [] ?_))))
  by_cases c:fvB (bytes t) y=true
  ·refine xqc 35 [yS t y] 23 (shRF true y) _ (fun w R Q=>yM ZcG (Zcg t y _ _ (by omega) c rfl)) fun g=>?_
   obtain⟨u,z,A,B⟩:=g
   refine xq 6 [(12,.p 12 0),yB 13 true] [yF 12 52 u z A B y] ?_
   refine xe (Zaa (Zac (Zac (Zab (xq 6 [yB 31 false] [] ?_)))))
   refine xe (Zaa (xb (Zal (Zaa (Zac (Zac ?_))))))
   have hx:=Zbc j
   have g0:=hx.1
   have h0:=hx.2.1
   have hy:=Zbc c
   have i0:=hy.1
   have j0:=hy.2.1
   by_cases H:8≤b∧b≤1024
   ·obtain⟨n,hn⟩:∃ n:Nat,b=n:=⟨b.toNat,by omega⟩
    subst hn
    refine Zab (xq 1 [yJ 33 (n:Int)] [] ?_)
    refine xqc 58 [.int .i64 (n:Int)] 34 (fun _:Unit=>.bool true) _ (fun w R Q=>(ZbT _ _).mono (fun _ _ h=>Zag h (by rw[uQ H]))) fun g=>?_
    refine xq 11 [yB 45 false] [] ?_
    refine xe (Zaa (xb (Zal (Zaa (Zac (Zac (Zab (xq 8 [yB 54 false] [] ?_))))))))
    refine xe (Zaa (xb (Zal (Zaa (Zac (Zab (xq 4 [(14,.p 58 0)] [(58,84,[.v (.int .i64 (n:Int)),.v (.int .i64 0)])] ?_)))))))
    refine xe (Zaa (Zac (Zab (xq 1 [(15,.p 15 0)] [yF 15 52 false none 0 0 0] ?_))))
    refine xe (Zaa (Zac (Zac (Zab (xq 1 [(59,.v (.int .u8 45))] [] ?_)))))
    refine xe (Zaa (ZaH (Zac (Zab (xr 2 [(8,.p 8 0),yJ 9 0,(10,.p 10 0),(12,.p 12 0),(14,.p 58 0),(15,.p 15 0),(59,.v (.int .u8 45)),yB 63 false] [yF 15 52 false none 0 0 0,(58,84,[.v (.int .i64 (n:Int)),.v (.int .i64 0)]),yF 12 52 u z A B y,yF 10 52 k o q r x,yG 8 24 ⟨#[]⟩ 0] ?_)))))
    refine xe (Zaa (xb (Zac (Zab (xq 2 [yB 69 true] [] ?_)))))
    refine xe (Zaa (xa (Zab (xq 3 [(71,.p 58 0),(72,.v (yV k o q r x)),(73,.v (yV u z A B y))] [] ?_))))
    obtain⟨a,i⟩:=yE (rsum (flM (bytes s)) x (-(flM (bytes t))) y n)
    refine ZgH (b:=58) (t:=84) (cs:=[.v (.int .i64 (n:Int)),.v (.int .i64 0)]) 87 [yV k o q r x,.int .i64 (-1), yV u z A B y] (d:=74) (shF a.e) (fun _=>[.int .i64 (n:Int),.int .i64 a.err]) (fun y w=>Zai w (Zaz y) (sg a.s a.m)) (by kernel_rfl) (by kernel_rfl) (by kernel_rfl) (fun w q_ R Q hB=>(show Calls _ _ _ _ (RetC w q_ (n:Int) a) by rw[←i];exact Zs6 q_ n k o q r (flM (bytes s)) x u z A B (flM (bytes t)) y _ hB Q.1.1.2 Q.1.2 (ZeG j (by omega)) (ZeG c (by omega)) (by omega) (by omega) (by omega) (by omega) (by omega) (by omega) I J).mono (fun _ _=>Zja)) fun g=>?_
    obtain⟨C,D,E,F⟩:=g
    refine xr 1 [(8,.p 8 0),yJ 9 0,(14,.p 58 0),(15,.p 15 0)] [yF 15 52 C D E F a.e,(58,84,[.v (.int .i64 (n:Int)),.v (.int .i64 a.err)]),yG 8 24 ⟨#[]⟩ 0] ?_
    refine xe (Zbk (Zaa (Zac (Zac (Zab (xq 5 [yB 91 ((a.err:Int) != 0)] [] ?_))))))
    refine xe (Zaa ?_)
    refine yQ (((a.err:Int) != 0)) (fun G=>?_) fun G=>?_
    ·have f:=Zc9 G
     refine Zac ?_
     refine yO 7 Zam ?_
     refine xqf 7 [yJ 9 a.err] [yG 8 24 ⟨#[]⟩ 0,yF 15 52 C D E F a.e,(58,84,[.v (.int .i64 (n:Int)),.v (.int .i64 a.err)]),yG 8 24 ⟨#[]⟩ 0] ?_
     refine xz (xe (Zaa (Zaf (Zae ?_))))
     refine yR (.tuple #[yS ⟨#[]⟩ 0,.int .i64 a.err]) fun w' R Q=>?_
     rw[show binR ZcP (bytes s) (bytes t) x y (n:Int)=ZcP (ldR (bytes s) x) (ldR (bytes t) y) n by unfold binR;rw[uP ⟨j,c⟩,uP H];rfl]
     rw[ZoF j c,i]
     exact⟨by rw[Zjd f,Zje f],R⟩
    have f:=Zda G
    refine Zal (Zaa (Zac (Zab (xq 1 [(97,.v (yV C D E F a.e))] [] ?_))))
    refine xqc 38 [yV C D E F a.e] 98 (fun _:Unit=>.agg #[.string ⟨(Lib.itoa (sg a.s a.m)).toArray⟩,.int .i64 a.e]) _ (fun w R Q=>yN (Zfj C D E F (sg a.s a.m) a.e _ Q.2 (by rw[Zci,← i];exact uA (Zqh (by omega) (by omega)) (by decide)))) fun g=>?_
    refine xq 2 [yJ 9 0] [yG 8 24 ⟨(Lib.itoa (sg a.s a.m)).toArray⟩ a.e] ?_
    refine xe (Zaa (Zaf ?_))
    refine yR (.tuple #[yS ⟨(Lib.itoa (sg a.s a.m)).toArray⟩ a.e,.int .i64 0]) fun w' R Q=>?_
    rw[show binR ZcP (bytes s) (bytes t) x y (n:Int)=ZcP (ldR (bytes s) x) (ldR (bytes t) y) n by unfold binR;rw[uP ⟨j,c⟩,uP H];rfl]
    rw[ZoF j c,i]
    exact⟨by rw[Zjb f,Zjc f,f],R⟩
   refine Zab (xq 1 [yJ 33 b] [] ?_)
   refine xqc 58 [.int .i64 b] 34 (fun _:Unit=>.bool false) _ (fun w R Q=>(ZbT _ _).mono (fun _ _ h=>Zag h (by rw[uJ H]))) fun g=>?_
   refine xq 11 [yB 45 true] [] ?_
   refine xe (Zaa (xa (Zac (Zab (xq 3 [yJ 9 3] [] ?_)))))
   refine xe (Zaa (Zaf (Zae ?_)))
   refine yR (.tuple #[yS ⟨#[]⟩ 0,.int .i64 3]) fun w' R Q=>?_
   rw[show binR ZcP (bytes s) (bytes t) x y b=⟨false,0,0,3⟩ by unfold binR;rw[uP ⟨j,c⟩,uN H]]
   exact⟨rfl,R⟩
  refine xqc 35 [yS t y] 23 (fun y:ShI×Int=>shRF false y.2 y.1) _ (fun w R Q=>yM Zdh (ZcH t y _ (by omega) c)) fun g=>?_
  obtain⟨⟨K,L,M,N⟩,O⟩:=g
  refine xq 6 [(12,.p 12 0),yB 13 false] [yF 12 52 K L M N O] ?_
  refine xe (Zaa (Zac (Zac (Zab (xq 6 [yB 31 true] [] ?_)))))
  refine xe (Zaa (xa (Zac (Zab (xq 3 [yJ 9 1] [] ?_)))))
  refine xe (Zaa (Zaf (Zae ?_)))
  refine yR (.tuple #[yS ⟨#[]⟩ 0,.int .i64 1]) fun w' R Q=>?_
  rw[show binR ZcP (bytes s) (bytes t) x y b=⟨false,0,0,1⟩ from uN (fun h=>c h.2)]
  exact⟨rfl,R⟩
 refine xqc 35 [yS s x] 18 (fun y:ShI×Int=>shRF false y.2 y.1) _ (fun w R Q=>yM Zdh (ZcH s x _ (by omega) j)) fun g=>?_
 obtain⟨⟨P,S,T,U⟩,V⟩:=g
 refine xq 6 [(10,.p 10 0),yB 11 false] [yF 10 52 P S T U V] ?_
 refine xe (Zaa (Zac (Zab (xq 1 [(22,.v (yS t y))] [] ?_))))
 by_cases c:fvB (bytes t) y=true
 ·refine xqc 35 [yS t y] 23 (shRF true y) _ (fun w R Q=>yM ZcG (Zcg t y _ _ (by omega) c rfl)) fun g=>?_
  obtain⟨W,X,Y,Z⟩:=g
  refine xq 6 [(12,.p 12 0),yB 13 true] [yF 12 52 W X Y Z y] ?_
  refine xe (Zaa (Zac (Zac (Zab (xq 6 [yB 31 true] [] ?_)))))
  refine xe (Zaa (xa (Zac (Zab (xq 3 [yJ 9 1] [] ?_)))))
  refine xe (Zaa (Zaf (Zae ?_)))
  refine yR (.tuple #[yS ⟨#[]⟩ 0,.int .i64 1]) fun w' R Q=>?_
  rw[show binR ZcP (bytes s) (bytes t) x y b=⟨false,0,0,1⟩ from uN (fun h=>j h.1)]
  exact⟨rfl,R⟩
 refine xqc 35 [yS t y] 23 (fun y:ShI×Int=>shRF false y.2 y.1) _ (fun w R Q=>yM Zdh (ZcH t y _ (by omega) c)) fun g=>?_
 obtain⟨⟨a0,b0,c0,d0⟩,e0⟩:=g
 refine xq 6 [(12,.p 12 0),yB 13 false] [yF 12 52 a0 b0 c0 d0 e0] ?_
 refine xe (Zaa (Zac (Zac (Zab (xq 6 [yB 31 true] [] ?_)))))
 refine xe (Zaa (xa (Zac (Zab (xq 3 [yJ 9 1] [] ?_)))))
 refine xe (Zaa (Zaf (Zae ?_)))
 refine yR (.tuple #[yS ⟨#[]⟩ 0,.int .i64 1]) fun w' R Q=>?_
 rw[show binR ZcP (bytes s) (bytes t) x y b=⟨false,0,0,1⟩ from uN (fun h=>j h.1)]
 exact⟨rfl,R⟩
theorem Zru (s t:ByteArray)(x y b:Int)(w:World)(hs:(bytes s).length≤1000)(e0:(bytes t).length≤1000) :
 yA 52 #[.int .u8 47, yS s x, yS t y,.int .i64 b] w (ZbQ w (binR Zck (bytes s) (bytes t) x y b)):=by
 refine Zax (Φ:=fun w=>True) Tryz.func52 rfl (by kernel_rfl) (fun w' hf=>trivial) ?_
 refine Zac (Zab (xq 4 [(5,.p 5 0),(6,.p 6 0),(8,.p 8 0),yJ 9 0] [yG 8 24 ⟨#[]⟩ 0,yG 6 24 t y,yG 5 24 s x] ?_))
 refine xe (Zaa (Zac (Zab (xq 1 [(17,.v (yS s x))] [] ?_))))
 by_cases r:fvB (bytes s) x=true
 ·refine xqc 35 [yS s x] 18 (shRF true x) _ (fun w R Q=>yM ZcG (Zcg s x _ _ (by omega) r rfl)) fun g=>?_
  obtain⟨z,A,B,C⟩:=g
  refine xq 6 [(10,.p 10 0),yB 11 true] [yF 10 52 z A B C x] ?_
  refine xe (Zaa (Zac (Zab (xq 1 [(22,.v (yS t y))] [] ?_))))
  by_cases c:fvB (bytes t) y=true
  ·refine xqc 35 [yS t y] 23 (shRF true y) _ (fun w R Q=>yM ZcG (Zcg t y _ _ (by omega) c rfl)) fun g=>?_
   obtain⟨i,j,k,o⟩:=g
   refine xq 6 [(12,.p 12 0),yB 13 true] [yF 12 52 i j k o y] ?_
   refine xe (Zaa (Zac (Zac (Zab (xq 6 [yB 31 false] [] ?_)))))
   refine xe (Zaa (xb (Zal (Zaa (Zac (Zac ?_))))))
   have hx:=Zbc r
   have f0:=hx.1
   have g0:=hx.2.1
   have hy:=Zbc c
   have h0:=hy.1
   have i0:=hy.2.1
   by_cases I:8≤b∧b≤1024
   ·obtain⟨n,hn⟩:∃ n:Nat,b=n:=⟨b.toNat,by omega⟩
    subst hn
    by_cases u:flM (bytes t)=0
    ·refine Zab (xq 1 [yJ 33 (n:Int)] [] ?_)
     refine xqc 58 [.int .i64 (n:Int)] 34 (fun _:Unit=>.bool true) _ (fun w R Q=>(ZbT _ _).mono (fun _ _ h=>Zag h (by rw[uQ I]))) fun g=>?_
     refine xq 11 [yB 45 false] [] ?_
     refine xe (Zaa (xb (Zal (Zaa (Zac (Zac (Zab (xq 5 [yB 49 true,eI2 51 i j k o] [] ?_))))))))
     refine xqc 62 [vI2 i j k o] 52 (fun _:Unit=>.int .i64 0) _ (fun w R Q=>(Zbh _ (flM (bytes t)) _ Q.1.2).mono (fun _ _ h=>Zag h (by rw[u];rfl))) fun g=>?_
     refine xq 2 [yB 54 true] [] ?_
     refine xe (Zaa (xa (Zac (Zab (xq 3 [yJ 9 5] [] ?_)))))
     refine xe (Zaa (Zaf (Zae ?_)))
     refine yR (.tuple #[yS ⟨#[]⟩ 0,.int .i64 5]) fun w' R Q=>?_
     rw[show binR Zck (bytes s) (bytes t) x y (n:Int)=Zck (ldR (bytes s) x) (ldR (bytes t) y) n by unfold binR;rw[uP ⟨r,c⟩,uP I];rfl]
     rw[Zrp r c u]
     exact⟨rfl,R⟩
    refine Zab (xq 1 [yJ 33 (n:Int)] [] ?_)
    refine xqc 58 [.int .i64 (n:Int)] 34 (fun _:Unit=>.bool true) _ (fun w R Q=>(ZbT _ _).mono (fun _ _ h=>Zag h (by rw[uQ I]))) fun g=>?_
    refine xq 11 [yB 45 false] [] ?_
    refine xe (Zaa (xb (Zal (Zaa (Zac (Zac (Zab (xq 5 [yB 49 true,eI2 51 i j k o] [] ?_))))))))
    refine xqc 62 [vI2 i j k o] 52 (fun _:Unit=>.int .i64 (Int.sign (flM (bytes t)))) _ (fun w R Q=>yN (Zbh _ (flM (bytes t)) _ Q.1.2)) fun g=>?_
    refine xq 1 [(53,.v (.bool (((Int.sign (flM (bytes t))):Int) == 0)))] [] ?_
    rw[(show (((Int.sign (flM (bytes t))):Int) == 0)=false by have:=mt vM.1 u;simpa using this)]
    refine xq 1 [yB 54 false] [] ?_
    refine xe (Zaa (xb (Zal (Zaa (Zac (Zab (xq 4 [(14,.p 58 0)] [(58,84,[.v (.int .i64 (n:Int)),.v (.int .i64 0)])] ?_)))))))
    refine xe (Zaa (Zac (Zab (xr 1 [(0,.v (.int .u8 47)),(8,.p 8 0),yJ 9 0,(10,.p 10 0),(12,.p 12 0),(14,.p 58 0),(15,.p 15 0)] [yF 15 52 false none 0 0 0,(58,84,[.v (.int .i64 (n:Int)),.v (.int .i64 0)]),yF 12 52 i j k o y,yF 10 52 z A B C x,yG 8 24 ⟨#[]⟩ 0] ?_))))
    refine xe (Zaa (Zac (Zac (Zab (xq 1 [(59,.v (.int .u8 47))] [] ?_)))))
    refine xe (Zaa (ZaH (Zac (Zab (xq 2 [yB 63 false] [] ?_)))))
    refine xe (Zaa (xb (Zac (Zab (xq 2 [yB 69 false] [] ?_)))))
    refine xe (Zaa (xb (Zac (Zab (xq 2 [yB 75 false] [] ?_)))))
    refine xe (Zaa (xb (Zac (Zab (xq 2 [yB 81 true] [] ?_)))))
    refine xe (Zaa (xa (Zab (xq 3 [(83,.p 58 0),(84,.v (yV z A B C x)),(85,.v (yV i j k o y))] [] ?_))))
    obtain⟨a,q⟩:=yE (ZaK (decide (flM (bytes s)<0) != decide (flM (bytes t)<0)) (flM (bytes s)).natAbs (flM (bytes t)).natAbs (x-y) n)
    refine ZgH (b:=58) (t:=84) (cs:=[.v (.int .i64 (n:Int)),.v (.int .i64 0)]) 89 [yV z A B C x, yV i j k o y] (d:=86) (shF a.e) (fun _=>[.int .i64 (n:Int),.int .i64 a.err]) (fun y w=>Zai w (Zaz y) (sg a.s a.m)) (by kernel_rfl) (by kernel_rfl) (by kernel_rfl) (fun w q_ R Q hB=>(show Calls _ _ _ _ (RetC w q_ (n:Int) a) by rw[←q];exact Zs4 q_ n z A B C (flM (bytes s)) x i j k o (flM (bytes t)) y _ hB Q.1.1.1.2 Q.1.1.2 (ZeG r (by omega)) (ZeG c (by omega)) (by omega) (by omega) (by omega) (by omega) (by omega) (by omega) u).mono (fun _ _=>Zja)) fun g=>?_
    obtain⟨D,E,F,G⟩:=g
    refine xr 1 [(8,.p 8 0),yJ 9 0,(14,.p 58 0),(15,.p 15 0)] [yF 15 52 D E F G a.e,(58,84,[.v (.int .i64 (n:Int)),.v (.int .i64 a.err)]),yG 8 24 ⟨#[]⟩ 0] ?_
    refine xe (Zbk (Zaa (Zac (Zac (Zab (xq 5 [yB 91 ((a.err:Int) != 0)] [] ?_))))))
    refine xe (Zaa ?_)
    refine yQ (((a.err:Int) != 0)) (fun H=>?_) fun H=>?_
    ·have f:=Zc9 H
     refine Zac ?_
     refine yO 7 Zam ?_
     refine xqf 7 [yJ 9 a.err] [yG 8 24 ⟨#[]⟩ 0,yF 15 52 D E F G a.e,(58,84,[.v (.int .i64 (n:Int)),.v (.int .i64 a.err)]),yG 8 24 ⟨#[]⟩ 0] ?_
     refine xz (xe (Zaa (Zaf (Zae ?_))))
     refine yR (.tuple #[yS ⟨#[]⟩ 0,.int .i64 a.err]) fun w' R Q=>?_
     rw[show binR Zck (bytes s) (bytes t) x y (n:Int)=Zck (ldR (bytes s) x) (ldR (bytes t) y) n by unfold binR;rw[uP ⟨r,c⟩,uP I];rfl]
     rw[ZoG r c u,q]
     exact⟨by rw[Zjd f,Zje f],R⟩
    have f:=Zda H
    refine Zal (Zaa (Zac (Zab (xq 1 [(97,.v (yV D E F G a.e))] [] ?_))))
    refine xqc 38 [yV D E F G a.e] 98 (fun _:Unit=>.agg #[.string ⟨(Lib.itoa (sg a.s a.m)).toArray⟩,.int .i64 a.e]) _ (fun w R Q=>yN (Zfj D E F G (sg a.s a.m) a.e _ Q.2 (by rw[Zci,← q];exact uA (ZhD (by omega) (by omega) (by omega)) (by decide)))) fun g=>?_
    refine xq 2 [yJ 9 0] [yG 8 24 ⟨(Lib.itoa (sg a.s a.m)).toArray⟩ a.e] ?_
    refine xe (Zaa (Zaf ?_))
    refine yR (.tuple #[yS ⟨(Lib.itoa (sg a.s a.m)).toArray⟩ a.e,.int .i64 0]) fun w' R Q=>?_
    rw[show binR Zck (bytes s) (bytes t) x y (n:Int)=Zck (ldR (bytes s) x) (ldR (bytes t) y) n by unfold binR;rw[uP ⟨r,c⟩,uP I];rfl]
    rw[ZoG r c u,q]
    exact⟨by rw[Zjb f,Zjc f,f],R⟩
   refine Zab (xq 1 [yJ 33 b] [] ?_)
   refine xqc 58 [.int .i64 b] 34 (fun _:Unit=>.bool false) _ (fun w R Q=>(ZbT _ _).mono (fun _ _ h=>Zag h (by rw[uJ I]))) fun g=>?_
   refine xq 11 [yB 45 true] [] ?_
   refine xe (Zaa (xa (Zac (Zab (xq 3 [yJ 9 3] [] ?_)))))
   refine xe (Zaa (Zaf (Zae ?_)))
   refine yR (.tuple #[yS ⟨#[]⟩ 0,.int .i64 3]) fun w' R Q=>?_
   rw[show binR Zck (bytes s) (bytes t) x y b=⟨false,0,0,3⟩ by unfold binR;rw[uP ⟨r,c⟩,uN I]]
   exact⟨rfl,R⟩
  refine xqc 35 [yS t y] 23 (fun y:ShI×Int=>shRF false y.2 y.1) _ (fun w R Q=>yM Zdh (ZcH t y _ (by omega) c)) fun g=>?_
  obtain⟨⟨J,K,L,M⟩,N⟩:=g
  refine xq 6 [(12,.p 12 0),yB 13 false] [yF 12 52 J K L M N] ?_
  refine xe (Zaa (Zac (Zac (Zab (xq 6 [yB 31 true] [] ?_)))))
  refine xe (Zaa (xa (Zac (Zab (xq 3 [yJ 9 1] [] ?_)))))
  refine xe (Zaa (Zaf (Zae ?_)))
  refine yR (.tuple #[yS ⟨#[]⟩ 0,.int .i64 1]) fun w' R Q=>?_
  rw[show binR Zck (bytes s) (bytes t) x y b=⟨false,0,0,1⟩ from uN (fun h=>c h.2)]
  exact⟨rfl,R⟩
 refine xqc 35 [yS s x] 18 (fun y:ShI×Int=>shRF false y.2 y.1) _ (fun w R Q=>yM Zdh (ZcH s x _ (by omega) r)) fun g=>?_
 obtain⟨⟨O,P,S,T⟩,U⟩:=g
 refine xq 6 [(10,.p 10 0),yB 11 false] [yF 10 52 O P S T U] ?_
 refine xe (Zaa (Zac (Zab (xq 1 [(22,.v (yS t y))] [] ?_))))
 by_cases c:fvB (bytes t) y=true
 ·refine xqc 35 [yS t y] 23 (shRF true y) _ (fun w R Q=>yM ZcG (Zcg t y _ _ (by omega) c rfl)) fun g=>?_
  obtain⟨V,W,X,Y⟩:=g
  refine xq 6 [(12,.p 12 0),yB 13 true] [yF 12 52 V W X Y y] ?_
  refine xe (Zaa (Zac (Zac (Zab (xq 6 [yB 31 true] [] ?_)))))
  refine xe (Zaa (xa (Zac (Zab (xq 3 [yJ 9 1] [] ?_)))))
  refine xe (Zaa (Zaf (Zae ?_)))
  refine yR (.tuple #[yS ⟨#[]⟩ 0,.int .i64 1]) fun w' R Q=>?_
  rw[show binR Zck (bytes s) (bytes t) x y b=⟨false,0,0,1⟩ from uN (fun h=>r h.1)]
  exact⟨rfl,R⟩
 refine xqc 35 [yS t y] 23 (fun y:ShI×Int=>shRF false y.2 y.1) _ (fun w R Q=>yM Zdh (ZcH t y _ (by omega) c)) fun g=>?_
 obtain⟨⟨Z,a0,b0,c0⟩,d0⟩:=g
 refine xq 6 [(12,.p 12 0),yB 13 false] [yF 12 52 Z a0 b0 c0 d0] ?_
 refine xe (Zaa (Zac (Zac (Zab (xq 6 [yB 31 true] [] ?_)))))
 refine xe (Zaa (xa (Zac (Zab (xq 3 [yJ 9 1] [] ?_)))))
 refine xe (Zaa (Zaf (Zae ?_)))
 refine yR (.tuple #[yS ⟨#[]⟩ 0,.int .i64 1]) fun w' R Q=>?_
 rw[show binR Zck (bytes s) (bytes t) x y b=⟨false,0,0,1⟩ from uN (fun h=>r h.1)]
 exact⟨rfl,R⟩
theorem Zpn (s:ByteArray)(x b:Int)(w:World)(hs:(bytes s).length≤1000)(W : -1000≤x)(T:x≤1000) :
 yA 52 #[.int .u8 115, yS s x, yS ⟨#[48]⟩ 0,.int .i64 b] w (ZbQ w (sqF (bytes s) x b)):=by
 refine Zax (Φ:=fun w=>True) Tryz.func52 rfl (by kernel_rfl) (fun w' hf=>trivial) ?_
 refine Zac (Zab (xq 4 [(5,.p 5 0),(6,.p 6 0),(8,.p 8 0),yJ 9 0] [yG 8 24 ⟨#[]⟩ 0,yG 6 24 ⟨#[48]⟩ 0,yG 5 24 s x] ?_))
 refine xe (Zaa (Zac (Zab (xq 1 [(17,.v (yS s x))] [] ?_))))
 by_cases q:fvB (bytes s) x=true
 ·refine xqc 35 [yS s x] 18 (shRF true x) _ (fun w R Q=>yM ZcG (Zcg s x _ _ (by omega) q rfl)) fun k=>?_
  obtain⟨f,g,i,j⟩:=k
  refine xq 6 [(10,.p 10 0),yB 11 true] [yF 10 52 f g i j x] ?_
  refine xe (Zaa (Zac (Zab (xq 1 [(22,.v (yS ⟨#[48]⟩ 0))] [] ?_))))
  refine xqc 35 [yS ⟨#[48]⟩ 0] 23 (shRF true 0) _ (fun w R Q=>yM ZcG (Zcg ⟨#[48]⟩ 0 _ _ (by decide) fv48 rfl)) fun k=>?_
  obtain⟨E,F,G,H⟩:=k
  refine xq 6 [(12,.p 12 0),yB 13 true] [yF 12 52 E F G H 0] ?_
  refine xe (Zaa (Zac (Zac (Zab (xq 6 [yB 31 false] [] ?_)))))
  refine xe (Zaa (xb (Zal (Zaa (Zac (Zac ?_))))))
  have U:=Zbc q
  have X:=U.1
  have Y:=U.2.1
  by_cases D:8≤b∧b≤1024
  ·obtain⟨n,Z⟩:∃ n:Nat,b=n:=⟨b.toNat,by omega⟩
   subst Z
   by_cases r:flM (bytes s)<0
   ·refine Zab (xq 1 [yJ 33 (n:Int)] [] ?_)
    refine xqc 58 [.int .i64 (n:Int)] 34 (fun _:Unit=>.bool true) _ (fun w R Q=>(ZbT _ _).mono (fun _ _ h=>Zag h (by rw[uQ D]))) fun k=>?_
    refine xq 7 [yB 36 false,yB 39 true,eI2 41 f g i j] [] ?_
    refine xqc 62 [vI2 f g i j] 42 (fun _:Unit=>.int .i64 (-1)) _ (fun w R Q=>(Zbh _ (flM (bytes s)) _ Q.1.1.2).mono (fun _ _ h=>Zag h (by rw[rR r]))) fun k=>?_
    refine xq 3 [yB 45 true] [] ?_
    refine xe (Zaa (xa (Zac (Zab (xq 3 [yJ 9 3] [] ?_)))))
    refine xe (Zaa (Zaf (Zae ?_)))
    refine yR (.tuple #[yS ⟨#[]⟩ 0,.int .i64 3]) fun w' R Q=>?_
    rw[show sqF (bytes s) x (n:Int)=Zfm (ldR (bytes s) x) n by unfold sqF;rw[uP q,uP D];rfl]
    rw[Zrq q r]
    exact⟨rfl,R⟩
   refine Zab (xq 1 [yJ 33 (n:Int)] [] ?_)
   refine xqc 58 [.int .i64 (n:Int)] 34 (fun _:Unit=>.bool true) _ (fun w R Q=>(ZbT _ _).mono (fun _ _ h=>Zag h (by rw[uQ D]))) fun k=>?_
   refine xq 7 [yB 36 false,yB 39 true,eI2 41 f g i j] [] ?_
   refine xqc 62 [vI2 f g i j] 42 (fun _:Unit=>.int .i64 (Int.sign (flM (bytes s)))) _ (fun w R Q=>yN (Zbh _ (flM (bytes s)) _ Q.1.1.2)) fun k=>?_
   refine xq 1 [(43,.v (.bool (decide ((Int.sign (flM (bytes s)))<0))))] [] ?_
   rw[(show (decide ((Int.sign (flM (bytes s)))<0))=false from uJ (fun e=>r (Int.sign_neg_iff.1 e)))]
   refine xq 2 [yB 45 false] [] ?_
   refine xe (Zaa (xb (Zal (Zaa (Zac (Zac (Zab (xq 8 [yB 54 false] [] ?_))))))))
   refine xe (Zaa (xb (Zal (Zaa (Zac (Zab (xq 4 [(14,.p 58 0)] [(58,84,[.v (.int .i64 (n:Int)),.v (.int .i64 0)])] ?_)))))))
   refine xe (Zaa (Zac (Zab (xr 1 [(0,.v (.int .u8 115)),(8,.p 8 0),yJ 9 0,(10,.p 10 0),(12,.p 12 0),(14,.p 58 0),(15,.p 15 0)] [yF 15 52 false none 0 0 0,(58,84,[.v (.int .i64 (n:Int)),.v (.int .i64 0)]),yF 12 52 E F G H 0,yF 10 52 f g i j x,yG 8 24 ⟨#[]⟩ 0] ?_))))
   refine xe (Zaa (Zac (Zac (Zab (xq 1 [(59,.v (.int .u8 115))] [] ?_)))))
   refine xe (Zaa (ZaH (Zac (Zab (xq 2 [yB 63 false] [] ?_)))))
   refine xe (Zaa (xb (Zac (Zab (xq 2 [yB 69 false] [] ?_)))))
   refine xe (Zaa (xb (Zac (Zab (xq 2 [yB 75 false] [] ?_)))))
   refine xe (Zaa (xb (Zac (Zab (xq 2 [yB 81 false] [] ?_)))))
   refine xe (Zaa (xb (Zab (xq 2 [(60,.p 58 0),(61,.v (yV f g i j x))] [] ?_))))
   obtain⟨a,o⟩:=yE (sqR (flM (bytes s)).natAbs x n)
   refine ZgH (b:=58) (t:=84) (cs:=[.v (.int .i64 (n:Int)),.v (.int .i64 0)]) 90 [yV f g i j x] (d:=62) (shF a.e) (fun _=>[.int .i64 (n:Int),.int .i64 a.err]) (fun y w=>Zai w (Zaz y) (sg a.s a.m)) (by kernel_rfl) (by kernel_rfl) (by kernel_rfl) (fun w V R Q hB=>(show Calls _ _ _ _ (RetC w V (n:Int) a) by rw[←o];exact Zrk V n f g i j (flM (bytes s)).natAbs x _ hB (by rw[show (((flM (bytes s)).natAbs:Nat):Int)=flM (bytes s) by omega];exact Q.1.1.1.2) (ZeG q (by omega)) (by omega) (by omega) (by omega) (by omega)).mono (fun _ _=>Zja)) fun k=>?_
   obtain⟨u,z,A,B⟩:=k
   refine xr 1 [(8,.p 8 0),yJ 9 0,(14,.p 58 0),(15,.p 15 0)] [yF 15 52 u z A B a.e,(58,84,[.v (.int .i64 (n:Int)),.v (.int .i64 a.err)]),yG 8 24 ⟨#[]⟩ 0] ?_
   refine xe (Zbk (Zaa (Zac (Zac (Zab (xq 5 [yB 91 ((a.err:Int) != 0)] [] ?_))))))
   refine xe (Zaa ?_)
   refine yQ (((a.err:Int) != 0)) (fun C=>?_) fun C=>?_
   ·have c:=Zc9 C
    refine Zac ?_
    refine yO 7 Zam ?_
    refine xqf 7 [yJ 9 a.err] [yG 8 24 ⟨#[]⟩ 0,yF 15 52 u z A B a.e,(58,84,[.v (.int .i64 (n:Int)),.v (.int .i64 a.err)]),yG 8 24 ⟨#[]⟩ 0] ?_
    refine xz (xe (Zaa (Zaf (Zae ?_))))
    refine yR (.tuple #[yS ⟨#[]⟩ 0,.int .i64 a.err]) fun w' R Q=>?_
    rw[show sqF (bytes s) x (n:Int)=Zfm (ldR (bytes s) x) n by unfold sqF;rw[uP q,uP D];rfl]
    rw[Zlr q r,o]
    exact⟨by rw[Zjd c,Zje c],R⟩
   have c:=Zda C
   refine Zal (Zaa (Zac (Zab (xq 1 [(97,.v (yV u z A B a.e))] [] ?_))))
   refine xqc 38 [yV u z A B a.e] 98 (fun _:Unit=>.agg #[.string ⟨(Lib.itoa (sg a.s a.m)).toArray⟩,.int .i64 a.e]) _ (fun w R Q=>yN (Zfj u z A B (sg a.s a.m) a.e _ Q.2 (by rw[Zci,← o];exact uA (Zwr (by omega) (by omega)) (by decide)))) fun k=>?_
   refine xq 2 [yJ 9 0] [yG 8 24 ⟨(Lib.itoa (sg a.s a.m)).toArray⟩ a.e] ?_
   refine xe (Zaa (Zaf ?_))
   refine yR (.tuple #[yS ⟨(Lib.itoa (sg a.s a.m)).toArray⟩ a.e,.int .i64 0]) fun w' R Q=>?_
   rw[show sqF (bytes s) x (n:Int)=Zfm (ldR (bytes s) x) n by unfold sqF;rw[uP q,uP D];rfl]
   rw[Zlr q r,o]
   exact⟨by rw[Zjb c,Zjc c,c],R⟩
  refine Zab (xq 1 [yJ 33 b] [] ?_)
  refine xqc 58 [.int .i64 b] 34 (fun _:Unit=>.bool false) _ (fun w R Q=>(ZbT _ _).mono (fun _ _ h=>Zag h (by rw[uJ D]))) fun k=>?_
  refine xq 11 [yB 45 true] [] ?_
  refine xe (Zaa (xa (Zac (Zab (xq 3 [yJ 9 3] [] ?_)))))
  refine xe (Zaa (Zaf (Zae ?_)))
  refine yR (.tuple #[yS ⟨#[]⟩ 0,.int .i64 3]) fun w' R Q=>?_
  rw[show sqF (bytes s) x b=⟨false,0,0,3⟩ by unfold sqF;rw[uP q,uN D]]
  exact⟨rfl,R⟩
 refine xqc 35 [yS s x] 18 (fun y:ShI×Int=>shRF false y.2 y.1) _ (fun w R Q=>yM Zdh (ZcH s x _ (by omega) q)) fun k=>?_
 obtain⟨⟨I,J,K,L⟩,M⟩:=k
 refine xq 6 [(10,.p 10 0),yB 11 false] [yF 10 52 I J K L M] ?_
 refine xe (Zaa (Zac (Zab (xq 1 [(22,.v (yS ⟨#[48]⟩ 0))] [] ?_))))
 refine xqc 35 [yS ⟨#[48]⟩ 0] 23 (shRF true 0) _ (fun w R Q=>yM ZcG (Zcg ⟨#[48]⟩ 0 _ _ (by decide) fv48 rfl)) fun k=>?_
 obtain⟨N,O,P,S⟩:=k
 refine xq 6 [(12,.p 12 0),yB 13 true] [yF 12 52 N O P S 0] ?_
 refine xe (Zaa (Zac (Zac (Zab (xq 6 [yB 31 true] [] ?_)))))
 refine xe (Zaa (xa (Zac (Zab (xq 3 [yJ 9 1] [] ?_)))))
 refine xe (Zaa (Zaf (Zae ?_)))
 refine yR (.tuple #[yS ⟨#[]⟩ 0,.int .i64 1]) fun w' R Q=>?_
 rw[show sqF (bytes s) x b=⟨false,0,0,1⟩ from uN q]
 exact⟨rfl,R⟩
def Zgh (s:ByteArray) (x:Int):Prop:=s.size≤200 ∧ -300≤x∧x≤300
instance (s:ByteArray) (x:Int):Decidable (Zgh s x):=inferInstanceAs (Decidable (_∧_))
def Zfn (s:ByteArray) (x:Int):Prop:=s.size≤200∧¬ (x>300∧x<1048276)∧¬ (x < -300∧x > -1048276)
instance (s:ByteArray) (x:Int):Decidable (Zfn s x):=inferInstanceAs (Decidable (_∧_))
theorem ZmO (b:Nat)(s t:ByteArray)(x y:Int)(w:World)(o:Blk 24 w b #[.string s,.int .i64 x,.string t,.int .i64 y]) :
 yA 40 #[.slice (some ⟨b,0,none⟩) 2 2] w (RetV w (.bool (decide (Zgh s x∧Zgh t y)))):=by
 have p:=zh o
 clear o
 obtain⟨d,n⟩:=yE (decide (Zgh s x∧Zgh t y))
 rw[n]
 have f:=zh n
 clear n
 go_enter Tryz.func40,Tryz.ntmps40
 go_wp2
 go_loopw [7] (fun r wr=>∃ k:Nat,k≤2∧r=.int .i64 (k:Int)∧(1≤k→Zgh s x)∧(2≤k→Zgh t y)∧Hid (Ext w wr)) (fun v _=>2-(intOf v).toNat)
 case atStart=>exact⟨0,by omega,rfl,(fun h=>by omega),(fun h=>by omega),Fr.refl _ _⟩
 case round =>
  obtain⟨k,C,rfl,g,i,Q⟩:=hrel
  by_cases u:k<2
  ·have c:=p.out.ext Q.out
   have D:=c.cell 0
   have E:=c.cell 1
   have F:=c.cell 2
   have G:=c.cell 3
   clear c
   rcases (by omega:k=0∨k=1) with rfl|rfl
   ·by_cases z:(s.size:Int)>200
    ·have a:Hid (d=false):=f.out.symm.trans (uJ (fun h=>by have e:=h.1;obtain⟨j,l,m⟩:=e;omega))
     go_wp2
     go_ret
     exact⟨(vG (fun q=>Ending.returned (Value.bool q)) a.out).symm,Q.out.alloc _⟩
    by_cases A:x>300
    ·have a:Hid (d=false):=f.out.symm.trans (uJ (fun h=>by have e:=h.1;obtain⟨j,l,m⟩:=e;omega))
     go_wp2
     go_ret
     exact⟨(vG (fun q=>Ending.returned (Value.bool q)) a.out).symm,Q.out.alloc _⟩
    by_cases B:x < -300
    ·have a:Hid (d=false):=f.out.symm.trans (uJ (fun h=>by have e:=h.1;obtain⟨j,l,m⟩:=e;omega))
     go_wp2
     go_ret
     exact⟨(vG (fun q=>Ending.returned (Value.bool q)) a.out).symm,Q.out.alloc _⟩
    go_wp2
    go_roundw
    case rel=>exact⟨1,by omega,rfl,(fun _=>⟨by omega,by omega,by omega⟩),(fun h=>by omega),Q.out.alloc _⟩
    case measure=>simp[intOf]
   by_cases z:(t.size:Int)>200
   ·have a:Hid (d=false):=f.out.symm.trans (uJ (fun h=>by have e:=h.2;obtain⟨j,l,m⟩:=e;omega))
    go_wp2
    go_ret
    exact⟨(vG (fun q=>Ending.returned (Value.bool q)) a.out).symm,Q.out.alloc _⟩
   by_cases A:y>300
   ·have a:Hid (d=false):=f.out.symm.trans (uJ (fun h=>by have e:=h.2;obtain⟨j,l,m⟩:=e;omega))
    go_wp2
    go_ret
    exact⟨(vG (fun q=>Ending.returned (Value.bool q)) a.out).symm,Q.out.alloc _⟩
   by_cases B:y < -300
   ·have a:Hid (d=false):=f.out.symm.trans (uJ (fun h=>by have e:=h.2;obtain⟨j,l,m⟩:=e;omega))
    go_wp2
    go_ret
    exact⟨(vG (fun q=>Ending.returned (Value.bool q)) a.out).symm,Q.out.alloc _⟩
   go_wp2
   go_roundw
   case rel=>exact⟨2,by omega,rfl,(fun _=>g (by omega)),(fun h=>⟨by omega,by omega,by omega⟩),Q.out.alloc _⟩
   case measure=>simp[intOf]
  obtain rfl:k=2:=by omega
  have a:Hid (d=true):=f.out.symm.trans (uQ ⟨g (by omega),i (by omega)⟩)
  go_wp2
  go_ret
  exact⟨(vG (fun q=>Ending.returned (Value.bool q)) a.out).symm,Q.out⟩
theorem Zgi (b:Nat)(s t:ByteArray)(x y:Int)(w:World)(p:Blk 24 w b #[.string s,.int .i64 x,.string t,.int .i64 y]) :
 yA 51 #[.slice (some ⟨b,0,none⟩) 2 2] w (RetV w (.bool (decide (Zfn s x∧Zfn t y)))):=by
 have r:=zh p
 clear p
 obtain⟨d,n⟩:=yE (decide (Zfn s x∧Zfn t y))
 rw[n]
 have g:=zh n
 clear n
 go_enter Tryz.func51,Tryz.ntmps51
 go_wp2
 go_loopw [7] (fun u wr=>∃ k:Nat,k≤2∧u=.int .i64 (k:Int)∧(1≤k→Zfn s x)∧(2≤k→Zfn t y)∧Hid (Ext w wr)) (fun v _=>2-(intOf v).toNat)
 case atStart=>exact⟨0,by omega,rfl,(fun h=>by omega),(fun h=>by omega),Fr.refl _ _⟩
 case round =>
  obtain⟨k,E,rfl,f,i,Q⟩:=hrel
  by_cases z:k<2
  ·have c:=r.out.ext Q.out
   have F:=c.cell 0
   have G:=c.cell 1
   have H:=c.cell 2
   have I:=c.cell 3
   clear c
   rcases (by omega:k=0∨k=1) with rfl|rfl
   ·by_cases A:(s.size:Int)>200
    ·have a:Hid (d=false):=g.out.symm.trans (uJ (fun h=>by have e:=h.1;obtain⟨j,l,m⟩:=e;omega))
     go_wp2
     go_ret
     exact⟨(vG (fun q=>Ending.returned (Value.bool q)) a.out).symm,Q.out.alloc _⟩
    by_cases B:x>300
    ·by_cases C:x<1048276
     ·have a:Hid (d=false):=g.out.symm.trans (uJ (fun h=>by have e:=h.1;obtain⟨j,l,m⟩:=e;omega))
      go_wp2
      go_ret
      exact⟨(vG (fun q=>Ending.returned (Value.bool q)) a.out).symm,Q.out.alloc _⟩
     have o:¬ x < -300:=by omega
     go_wp2
     go_roundw
     case rel=>exact⟨1,by omega,rfl,(fun _=>⟨by omega,by omega,by omega⟩),(fun h=>by omega),Q.out.alloc _⟩
     case measure=>simp[intOf]
    by_cases o:x < -300
    ·by_cases D:x > -1048276
     ·have a:Hid (d=false):=g.out.symm.trans (uJ (fun h=>by have e:=h.1;obtain⟨j,l,m⟩:=e;omega))
      go_wp2
      go_ret
      exact⟨(vG (fun q=>Ending.returned (Value.bool q)) a.out).symm,Q.out.alloc _⟩
     go_wp2
     go_roundw
     case rel=>exact⟨1,by omega,rfl,(fun _=>⟨by omega,by omega,by omega⟩),(fun h=>by omega),Q.out.alloc _⟩
     case measure=>simp[intOf]
    go_wp2
    go_roundw
    case rel=>exact⟨1,by omega,rfl,(fun _=>⟨by omega,by omega,by omega⟩),(fun h=>by omega),Q.out.alloc _⟩
    case measure=>simp[intOf]
   by_cases A:(t.size:Int)>200
   ·have a:Hid (d=false):=g.out.symm.trans (uJ (fun h=>by have e:=h.2;obtain⟨j,l,m⟩:=e;omega))
    go_wp2
    go_ret
    exact⟨(vG (fun q=>Ending.returned (Value.bool q)) a.out).symm,Q.out.alloc _⟩
   by_cases B:y>300
   ·by_cases C:y<1048276
    ·have a:Hid (d=false):=g.out.symm.trans (uJ (fun h=>by have e:=h.2;obtain⟨j,l,m⟩:=e;omega))
     go_wp2
     go_ret
     exact⟨(vG (fun q=>Ending.returned (Value.bool q)) a.out).symm,Q.out.alloc _⟩
    have o:¬ y < -300:=by omega
    go_wp2
    go_roundw
    case rel=>exact⟨2,by omega,rfl,(fun _=>f (by omega)),(fun h=>⟨by omega,by omega,by omega⟩),Q.out.alloc _⟩
    case measure=>simp[intOf]
   by_cases o:y < -300
   ·by_cases D:y > -1048276
    ·have a:Hid (d=false):=g.out.symm.trans (uJ (fun h=>by have e:=h.2;obtain⟨j,l,m⟩:=e;omega))
     go_wp2
     go_ret
     exact⟨(vG (fun q=>Ending.returned (Value.bool q)) a.out).symm,Q.out.alloc _⟩
    go_wp2
    go_roundw
    case rel=>exact⟨2,by omega,rfl,(fun _=>f (by omega)),(fun h=>⟨by omega,by omega,by omega⟩),Q.out.alloc _⟩
    case measure=>simp[intOf]
   go_wp2
   go_roundw
   case rel=>exact⟨2,by omega,rfl,(fun _=>f (by omega)),(fun h=>⟨by omega,by omega,by omega⟩),Q.out.alloc _⟩
   case measure=>simp[intOf]
  obtain rfl:k=2:=by omega
  have a:Hid (d=true):=g.out.symm.trans (uQ ⟨f (by omega),i (by omega)⟩)
  go_wp2
  go_ret
  exact⟨(vG (fun q=>Ending.returned (Value.bool q)) a.out).symm,Q.out⟩
end Go.Proofs.YtklpdkpcocnglaaGreatDoor
