/-
 My texts.
-/
import Derived.Test.YtenchljfmfgeoaaGreatDoorV23
set_option maxRecDepth 100000
set_option maxHeartbeats 8000000
namespace Go.Proofs.YtenchljfmfgeoaaGreatDoor
open Go.RowKit Tryz
theorem Zmf (m n c:Nat)(A B:qA)(cap a:Nat)(xs zs:List Nb)(b:Nat)(X:Nat→Nat→Fv3)(T:Nat→Nat→Nat→Fv3)(w:World)(K:Glob w)(s:OwnD w m 109 3 A cap (n*n) (xs.flatMap nbC))(t:xD w xs)(u:xs.length=n*n)(y:∀ x∈xs,FvOk (nbV x))(z:OwnD w m 109 3 B a (n*c) (zs.flatMap nbC))(C:xD w zs)(D:zs.length=n*c)(E:∀ x∈zs,FvOk (nbV x))(L:n≤32)(M:c≤32)(F:8≤b)(G:b≤1024)(N:∀ i j,i<n→j<c→FvOk (X i j))(H:∀ i j,i<n→j<c→T i j 0=nbV zs[i*c+j]!)(I:∀ i j k,i<n→j<c→k<i→jS (T i j k) (nbV xs[i*n+k]!) (X k j) b=some (T i j (k+1)))(O:∀ i j,i<n→j<c→sgnV (nbV xs[i*n+i]!)≠0∧musT (divV (T i j i) (nbV xs[i*n+i]!) b)=some (X i j)) :
 yA 49 #[.agg #[.int .i64 ((n:Nat):Int),.int .i64 ((n:Nat):Int),.slice A (n*n) cap],.agg #[.int .i64 ((n:Nat):Int),.int .i64 ((c:Nat):Int),.slice B (n*c) a],.int .i64 ((b:Nat):Int)] w (dE (fun v=>.tuple #[v,.int .i64 0]) n c (xF n c X) w):=by
 obtain⟨m0,r⟩:∃ m,m=w.heap.size:=⟨_,rfl⟩
 refine zQ (Φ:=fun w=>True) func49 rfl qK (fun w' W=>trivial) ?_
 refine yY (xq 5 [(3,.p 3 0),(4,.p 4 0),(5,.p 5 0),(6,.p 6 0),yJ 7 0] [(6,97,[.v (yI 0),.v (yI 0),.v (.slice none 0 0)]),(5,3,[.v (yI (b:Int))]),(4,97,[.v (yI (n:Int)),.v (yI (c:Int)),.v (.slice B (n*c) a)]),(3,97,[.v (yI (n:Int)),.v (yI (n:Int)),.v (.slice A (n*n) cap)])] ?_)
 refine yZ (zC (yY (xq 5 [yB 12 (((n:Int):Int) != (n:Int))] [] ?_)))
 rw[(show (((n:Int):Int) != (n:Int))=false from eL rfl)]
 refine xq 6 [yB 13 false,yB 18 (((n:Int):Int) != (n:Int))] [] ?_
 rw[(show (((n:Int):Int) != (n:Int))=false from eL rfl)]
 refine xq 1 [yB 19 false] [] ?_
 refine yZ (xb (zI (zA (zC ?_))))
 refine SXc.freezeN 3 97 [yI (n:Int), yI (n:Int),.slice A (n*n) cap] (fun f=>[(3,.v (.pointer (yL f))),(4,.p 4 0),(5,.p 5 0),(6,.p 6 0),yJ 7 0]) [(6,97,[.v (yI 0),.v (yI 0),.v (.slice none 0 0)]),(5,3,[.v (yI (b:Int))]),(4,97,[.v (yI (n:Int)),.v (yI (c:Int)),.v (.slice B (n*c) a)])] qK (fun _=>qK) qK qK (fun _=>qK) fun f P=>?_
 refine SXc.freezeN 4 97 [yI (n:Int), yI (c:Int),.slice B (n*c) a] (fun g=>[(3,.v (.pointer (yL f))),(4,.v (.pointer (yL g))),(5,.p 5 0),(6,.p 6 0),yJ 7 0]) [(6,97,[.v (yI 0),.v (yI 0),.v (.slice none 0 0)]),(5,3,[.v (yI (b:Int))])] qK (fun _=>qK) qK qK (fun _=>qK) fun g S=>?_
 refine SXc.freezeN 5 3 [yI (b:Int)] (fun q=>[(3,.v (.pointer (yL f))),(4,.v (.pointer (yL g))),(5,.v (.pointer (yL q))),(6,.p 6 0),yJ 7 0]) [(6,97,[.v (yI 0),.v (yI 0),.v (.slice none 0 0)])] qK (fun _=>qK) qK qK (fun _=>qK) fun q U=>?_
 refine zB (xq 1 [(21,.v (.func (.func 79) #[] #[.pointer (yL g),.pointer (yL f),.pointer (yL q)]))] [] ?_)
 refine xqc 78 [.func (.func 79) #[] #[.pointer (yL g),.pointer (yL f),.pointer (yL q)]] 22 (fun x:{x:Nat × List Nb // x.2.map nbV=xF n c X∧m0≤x.1}=>.tuple #[.agg #[yI (n:Int), yI (c:Int),.slice (yL x.1.1) x.1.2.length x.1.2.length], yI 0]) _ (fun w R Q=>(Zg2 79 #[.pointer (yL g),.pointer (yL f),.pointer (yL q)] n c (xF n c X) _ (fun _=>rfl) (fun Y d=>Zmd m n c A B cap a xs zs b f g q X T _ (K.ext (R.trans d)) (Blk.ext' Q.1.1.2 d) (Blk.ext' Q.1.2 d) (Blk.ext' Q.2 d) (OwnD.ext s (R.trans d)) (xD.ext t (R.trans d)) u y (OwnD.ext z (R.trans d)) (xD.ext C (R.trans d)) D E L M F G N H I O)).mono (fun _ _ h=>aP (sh:=fun v=>.tuple #[v, yI 0]) (m0:=m0) (r ▸ R.size) h)) fun V=>?_
 obtain⟨⟨l,e⟩,o,J⟩:=V
 refine xq 4 [yJ 7 0] [(6,97,[.v (yI (n:Int)),.v (yI (c:Int)),.v (.slice (yL l) e.length e.length)])] ?_
 refine yZ (zH ?_)
 refine yR (.tuple #[.agg #[yI (n:Int), yI (c:Int),.slice (yL l) e.length e.length], yI 0]) fun w' R Q=>?_
 exact⟨l,e,rfl,o,r ▸ Q.2.1,Q.2.2,R⟩
theorem Zjp (ma mb n c:Nat)(A B:qA)(cap a:Nat)(q s:List (ByteArray×Int))(b:Nat)(X:Nat→Nat→Fv3)(T:Nat→Nat→Nat→Fv3)(w:World)(hg:Glob w)(hO:OwnD w ma 76 2 A cap q.length (q.flatMap flC))(d0:OwnD w mb 76 2 B a s.length (s.flatMap flC))(hG:FmG ⟨n,n,A,cap,q⟩)(I:FmG ⟨n,c,B,a,s⟩)(a0:8≤b)(b0:b≤1024)(hX:∀ i j,i<n→j<c→FvOk (X i j))(e0:∀ i j,i<n→j<c→T i j 0=ldV s[i*c+j]!)(f0:∀ i j k,i<n→j<c→k<i→jS (T i j k) (ldV q[i*n+k]!) (X k j) b=some (T i j (k+1)))(hD:∀ i j,i<n→j<c→sgnV (ldV q[i*n+i]!)≠0∧musT (divV (T i j i) (ldV q[i*n+i]!) b)=some (X i j)) :
 yA 48 #[.agg #[.int .i64 ((n:Nat):Int),.int .i64 ((n:Nat):Int),.slice A q.length cap],.agg #[.int .i64 ((n:Nat):Int),.int .i64 ((c:Nat):Int),.slice B s.length a],.int .i64 ((b:Nat):Int),.func (.func 49) #[] #[]] w (iE (fun v=>.tuple #[v,.int .i64 0]) n c ((xF n c X).map ftW) w):=by
 obtain⟨m0,J⟩:∃ m,m=w.heap.size:=⟨_,rfl⟩
 have M:n≤32:=hG.hr.2
 have N:c≤32:=I.hc.2
 refine zQ (Φ:=fun w=>True) func48 rfl qK (fun w' hf=>trivial) ?_
 refine yY (xq 4 [(4,.p 4 0),(5,.p 5 0),(8,.p 8 0),yJ 9 0] [(8,29,[.v (yI 0),.v (yI 0),.v (.slice none 0 0)]),(5,29,[.v (yI (n:Int)),.v (yI (c:Int)),.v (.slice B s.length a)]),(4,29,[.v (yI (n:Int)),.v (yI (n:Int)),.v (.slice A q.length cap)])] ?_)
 refine yZ (yY (xq 3 [yJ 13 (b:Int),(14,.v (.agg #[yI (n:Int), yI (n:Int),.slice A q.length cap])),(15,.v (.agg #[yI (n:Int), yI (c:Int),.slice B s.length a]))] [] ?_))
 refine yD (d:=16) (fun zb:{b:Nat // m0≤b}=>.slice (yL zb.1) 2 2) (fun zb zw=>Blk 29 zw zb.1 #[yI (n:Int), yI (n:Int),.slice A q.length cap, yI (n:Int), yI (c:Int),.slice B s.length a]) (fun w R Q=>aC (m0:=m0) (J ▸ R.size) (t:=179) (e:=29) (n:=2) (sz:=3) (z:=.agg #[yI 0, yI 0,.slice none 0 0]) (parts:=#[(0,Operand.tmp 14),(1,Operand.tmp 15)]) qK qK qK qK qK qK) fun⟨O,i0⟩=>?_
 refine xr 0 [yJ 2 (b:Int),(3,.v (.func (.func 49) #[] #[])),(8,.p 8 0),yJ 9 0,yJ 13 (b:Int),eS1 16 (yL O) 2 2] [(8,29,[.v (yI 0),.v (yI 0),.v (.slice none 0 0)])] ?_
 refine xqc 76 [yI (b:Int),.slice (yL O) 2 2] 17 (fun x:{x:Nat × List Mx // x.2.map mxV=[(⟨n,n,A,cap,q⟩:Fm),⟨n,c,B,a,s⟩].map fmV∧m0≤x.1}=>.tuple #[.slice (yL x.1.1) 2 2, yI 0]) _ (fun w R Q=>(Zfg 0 O 2 [(⟨n,n,A,cap,q⟩:Fm),⟨n,c,B,a,s⟩] b _ (show OwnD _ 0 29 3 _ 2 2 ([(⟨n,n,A,cap,q⟩:Fm),⟨n,c,B,a,s⟩].flatMap fmC) from OwnD.ofBlk (xs:=fmC ⟨n,n,A,cap,q⟩ ++ fmC ⟨n,c,B,a,s⟩) Q.2 (vL _) rfl qD (fun k z h=>(tR.1 h).elim (Zd4 _ k z) (Zd4 _ k z))) rfl qD (fun x hx=>by rcases Zet hx with rfl|rfl;exact OwnD.mono (OwnD.ext hO R) (vL _);exact OwnD.mono (OwnD.ext d0 R) (vL _)) (fun x hx=>by rcases Zet hx with rfl|rfl;exact hG;exact I) a0 b0).mono (fun _ _ h=>Zg3 (m0:=m0) (J ▸ R.size) h)) fun xx=>?_
 obtain⟨⟨K,P⟩,S,j0⟩:=xx
 have H:P.length=2:=by have:=vI List.length S;rw[uU,uU] at this;exact this
 refine xq 5 [eS1 10 (yL K) 2 2,yJ 11 0] [] ?_
 refine yZ (zC (yY (xq 2 [yB 21 false] [] ?_)))
 refine yZ (xb (zI (zA (zC ?_))))
 refine dM 14 [0,0,2,6,0,16,48,0,255,511,511,2047,4095,4095] qK qK zL ?_
 refine xqg 2 [(24,.v (.func (.func 49) #[] #[])),eS1 25 (yL K) 2 2] ?_
 refine xqj 26 (atA (yL K) (0*3)) (fun w Q=>xJ (t:=123) (e:=97) (sz:=3) (x:=.tmp 25) (ix:=.const (yI 0)) (len:=2) (cap:=2) (i:=0) qS qD) ?_
 obtain⟨f,F⟩:∃ x,P[0]! = x:=⟨_,rfl⟩
 refine xqj 27 (.agg #[yI ((f.r:Nat):Int), yI ((f.c:Nat):Int),.slice f.A f.xs.length f.cap]) (fun w Q=>by rw[←F];exact iD (t:=97) (x:=.tmp 26) (j:=0) Q.2.1 aQ (by rw[H];decide)) ?_
 obtain⟨U,V,o⟩:=Zgn (ls:=[(⟨n,n,A,cap,q⟩:Fm),⟨n,c,B,a,s⟩]) S (j:=0) (y:=⟨n,n,A,cap,q⟩) rfl F
 have u:f.xs.length=n*n:=by have:=vI List.length o;rw[uU,uU] at this;rw[this];exact hG.hn
 refine xqg 1 [eS1 28 (yL K) 2 2] ?_
 refine xqj 29 (atA (yL K) (1*3)) (fun w Q=>xJ (t:=123) (e:=97) (sz:=3) (x:=.tmp 28) (ix:=.const (yI 1)) (len:=2) (cap:=2) (i:=1) qS qD) ?_
 obtain⟨g,G⟩:∃ x,P[1]! = x:=⟨_,rfl⟩
 refine xqj 30 (.agg #[yI ((g.r:Nat):Int), yI ((g.c:Nat):Int),.slice g.A g.xs.length g.cap]) (fun w Q=>by rw[←G];exact iD (t:=97) (x:=.tmp 29) (j:=1) Q.2.1 aQ (by rw[H];decide)) ?_
 obtain⟨W,Y,C⟩:=Zgn (ls:=[(⟨n,n,A,cap,q⟩:Fm),⟨n,c,B,a,s⟩]) S (j:=1) (y:=⟨n,c,B,a,s⟩) rfl G
 have D:g.xs.length=n*c:=by have:=vI List.length C;rw[uU,uU] at this;rw[this];exact I.hn
 refine xqg 1 [yJ 31 (b:Int)] ?_
 refine xqd 49 [.agg #[yI ((f.r:Nat):Int), yI ((f.c:Nat):Int),.slice f.A f.xs.length f.cap],.agg #[yI ((g.r:Nat):Int), yI ((g.c:Nat):Int),.slice g.A g.xs.length g.cap], yI (b:Int)] 32 (fun x:{x:Nat × List Nb // x.2.map nbV=xF n c X∧m0≤x.1}=>.tuple #[.agg #[yI (n:Int), yI (c:Int),.slice (yL x.1.1) x.1.2.length x.1.2.length], yI 0]) _ (fun w R Q=>((show Calls _ _ _ _ (dE (fun v=>.tuple #[v, yI 0]) n c (xF n c X) _) by rw[U,V,u,W,Y,D];exact Zmf m0 n c f.A g.A f.cap g.cap f.xs g.xs b X T _ (hg.ext R) (by have h:=(Q.2.2 _ (xM (by rw[H];decide:0<P.length))).1;rw[F,u] at h;exact h) (by have h:=(Q.2.2 _ (xM (by rw[H];decide:0<P.length))).2;rw[F] at h;exact h) u (Zd6 hG o) (by have h:=(Q.2.2 _ (xM (by rw[H];decide:1<P.length))).1;rw[G,D] at h;exact h) (by have h:=(Q.2.2 _ (xM (by rw[H];decide:1<P.length))).2;rw[G] at h;exact h) D (Zd6 I C) M N a0 b0 hX (fun i j hi hj=>by rw[Zes C (by rw[I.hn];exact gidx hi hj)];exact e0 i j hi hj) (fun i j k hi hj hk=>by rw[Zes o (by rw[hG.hn];exact gidx hi qO)];exact f0 i j k hi hj hk) (fun i j hi hj=>by rw[Zes o (by rw[hG.hn];exact gidx hi hi)];exact hD i j hi hj))).mono (fun _ _ h=>aP (sh:=fun v=>.tuple #[v, yI 0]) (m0:=m0) (J ▸ R.size) h)) fun xx=>?_
 obtain⟨⟨Z,l⟩,E,k0⟩:=xx
 refine xqg 2 [(33,.v (.agg #[yI (n:Int), yI (c:Int),.slice (yL Z) l.length l.length])),yJ 34 0] ?_
 have c0:=hX
 have g0:(l.map ftV)=(xF n c X).map ftW:=by rw[←E,qZ];rfl
 have h0:l.length≤4096:=by have h1:=eA n c X;rw[←E,uU] at h1;rw[h1];exact uB (uZ M N) qD
 refine xqd 77 [.agg #[yI (n:Int), yI (c:Int),.slice (yL Z) l.length l.length], yI 0] 35 (fun b:{b:Nat // m0≤b}=>.tuple #[.agg #[yI (n:Int), yI (c:Int),.slice (yL b.1) ((xF n c X).map ftW).length ((xF n c X).map ftW).length], yI 0]) _ (fun w R Q=>((show Calls _ _ _ _ (iE (fun v=>.tuple #[v, yI 0]) n c ((xF n c X).map ftW) _) by rw[←g0];exact Zc3 m0 n c (yL Z) l.length l.length l _ Q.2.1 Q.2.2 rfl (hg.ext R) h0 (fun x hx=>(fun h=>⟨uB h.1 qD,h.2.2.2⟩:FvOk (nbV x)→_) (Zk5 c0 _ (by rw[←E];exact qE hx))))).mono (fun _ _ h=>jX (sh:=fun v=>.tuple #[v, yI 0]) (m0:=m0) (J ▸ R.size) h)) fun⟨L,l0⟩=>?_
 refine xqg 2 [(36,.v (.agg #[yI (n:Int), yI (c:Int),.slice (yL L) ((xF n c X).map ftW).length ((xF n c X).map ftW).length])),yJ 37 0] ?_
 refine xz (xq 2 [yJ 9 0] [(8,29,[.v (yI (n:Int)),.v (yI (c:Int)),.v (.slice (yL L) ((xF n c X).map ftW).length ((xF n c X).map ftW).length)])] ?_)
 refine yZ (zH ?_)
 refine yR (.tuple #[.agg #[yI (n:Int), yI (c:Int),.slice (yL L) ((xF n c X).map ftW).length ((xF n c X).map ftW).length], yI 0]) fun w' R Q=>?_
 exact⟨L,rfl,J ▸ Q.2,R⟩
theorem Zn3 (u x n c:Nat)(A B:qA)(cap a:Nat)(d e:List (ByteArray×Int))(b:Nat)(X:Nat→Nat→Fv3)(T:Nat→Nat→Nat→Fv3)(w:World)(z:Glob w)(C:OwnD w u 76 2 A cap d.length (d.flatMap flC))(l:OwnD w x 76 2 B a e.length (e.flatMap flC))(D:FmG ⟨n,n,A,cap,d⟩)(o:FmG ⟨n,c,B,a,e⟩)(q:8≤b)(r:b≤1024)(E:∀ i j,i<n→j<c→FvOk (X i j))(s:∀ i j,i<n→j<c→T i j 0=ldV e[i*c+j]!)(t:∀ i j k,i<n→j<c→k<i→jS (T i j k) (ldV d[i*n+k]!) (X k j) b=some (T i j (k+1)))(F:∀ i j,i<n→j<c→sgnV (ldV d[i*n+i]!)≠0∧musT (divV (T i j i) (ldV d[i*n+i]!) b)=some (X i j)) :
 yA 25 #[.agg #[.int .i64 ((n:Nat):Int),.int .i64 ((n:Nat):Int),.slice A d.length cap],.agg #[.int .i64 ((n:Nat):Int),.int .i64 ((c:Nat):Int),.slice B e.length a],.int .i64 ((b:Nat):Int)] w (iE (fun v=>.tuple #[v,.int .i64 0]) n c ((xF n c X).map ftW) w):=by
 obtain⟨m0,g⟩:∃ m,m=w.heap.size:=⟨_,rfl⟩
 refine zQ (Φ:=fun w=>True) func25 rfl qK (fun w' G=>trivial) ?_
 refine yY (xq 4 [(3,.p 3 0),(4,.p 4 0),(6,.p 6 0),yJ 7 0] [(6,29,[.v (yI 0),.v (yI 0),.v (.slice none 0 0)]),(4,29,[.v (yI (n:Int)),.v (yI (c:Int)),.v (.slice B e.length a)]),(3,29,[.v (yI (n:Int)),.v (yI (n:Int)),.v (.slice A d.length cap)])] ?_)
 refine yZ (yY (xq 3 [(8,.v (.agg #[yI (n:Int), yI (n:Int),.slice A d.length cap])),(9,.v (.agg #[yI (n:Int), yI (c:Int),.slice B e.length a])),yJ 10 (b:Int)] [] ?_))
 refine xqc 48 [.agg #[yI (n:Int), yI (n:Int),.slice A d.length cap],.agg #[yI (n:Int), yI (c:Int),.slice B e.length a], yI (b:Int),.func (.func 49) #[] #[]] 11 (fun b:{b:Nat // m0≤b}=>.tuple #[.agg #[yI (n:Int), yI (c:Int),.slice (yL b.1) ((xF n c X).map ftW).length ((xF n c X).map ftW).length], yI 0]) _ (fun w R Q=>(Zjp u x n c A B cap a d e b X T _ (z.ext R) (OwnD.ext C R) (OwnD.ext l R) D o q r E s t F).mono (fun _ _ h=>jX (sh:=fun v=>.tuple #[v, yI 0]) (m0:=m0) (g ▸ R.size) h)) fun⟨f,y⟩=>?_
 refine xq 4 [yJ 7 0] [(6,29,[.v (yI (n:Int)),.v (yI (c:Int)),.v (.slice (yL f) ((xF n c X).map ftW).length ((xF n c X).map ftW).length)])] ?_
 refine yZ (zH ?_)
 refine yR (.tuple #[.agg #[yI (n:Int), yI (c:Int),.slice (yL f) ((xF n c X).map ftW).length ((xF n c X).map ftW).length], yI 0]) fun w' R Q=>?_
 exact⟨f,rfl,g ▸ Q.2,R⟩
theorem Zmg (m n c:Nat)(A B:qA)(cap a:Nat)(xs zs:List Nb)(b:Nat)(X:Nat→Nat→Fv3)(T:Nat→Nat→Nat→Fv3)(w:World)(K:Glob w)(s:OwnD w m 109 3 A cap (n*n) (xs.flatMap nbC))(t:xD w xs)(u:xs.length=n*n)(y:∀ x∈xs,FvOk (nbV x))(z:OwnD w m 109 3 B a (n*c) (zs.flatMap nbC))(C:xD w zs)(D:zs.length=n*c)(E:∀ x∈zs,FvOk (nbV x))(L:n≤32)(M:c≤32)(F:8≤b)(G:b≤1024)(N:∀ i j,i<n→j<c→FvOk (X i j))(H:∀ i j,i<n→j<c→T i j (i+1)=nbV zs[i*c+j]!)(I:∀ i j k,i<n→j<c→i<k→k<n→jS (T i j k) (nbV xs[k*n+i]!) (X k j) b=some (T i j (k+1)))(O:∀ i j,i<n→j<c→sgnV (nbV xs[i*n+i]!)≠0∧musT (divV (T i j n) (nbV xs[i*n+i]!) b)=some (X i j)) :
 yA 50 #[.agg #[.int .i64 ((n:Nat):Int),.int .i64 ((n:Nat):Int),.slice A (n*n) cap],.agg #[.int .i64 ((n:Nat):Int),.int .i64 ((c:Nat):Int),.slice B (n*c) a],.int .i64 ((b:Nat):Int)] w (dE (fun v=>.tuple #[v,.int .i64 0]) n c (xF n c X) w):=by
 obtain⟨m0,r⟩:∃ m,m=w.heap.size:=⟨_,rfl⟩
 refine zQ (Φ:=fun w=>True) func50 rfl qK (fun w' W=>trivial) ?_
 refine yY (xq 5 [(3,.p 3 0),(4,.p 4 0),(5,.p 5 0),(6,.p 6 0),yJ 7 0] [(6,97,[.v (yI 0),.v (yI 0),.v (.slice none 0 0)]),(5,3,[.v (yI (b:Int))]),(4,97,[.v (yI (n:Int)),.v (yI (c:Int)),.v (.slice B (n*c) a)]),(3,97,[.v (yI (n:Int)),.v (yI (n:Int)),.v (.slice A (n*n) cap)])] ?_)
 refine yZ (zC (yY (xq 5 [yB 12 (((n:Int):Int) != (n:Int))] [] ?_)))
 rw[(show (((n:Int):Int) != (n:Int))=false from eL rfl)]
 refine xq 6 [yB 13 false,yB 18 (((n:Int):Int) != (n:Int))] [] ?_
 rw[(show (((n:Int):Int) != (n:Int))=false from eL rfl)]
 refine xq 1 [yB 19 false] [] ?_
 refine yZ (xb (zI (zA (zC ?_))))
 refine SXc.freezeN 3 97 [yI (n:Int), yI (n:Int),.slice A (n*n) cap] (fun f=>[(3,.v (.pointer (yL f))),(4,.p 4 0),(5,.p 5 0),(6,.p 6 0),yJ 7 0]) [(6,97,[.v (yI 0),.v (yI 0),.v (.slice none 0 0)]),(5,3,[.v (yI (b:Int))]),(4,97,[.v (yI (n:Int)),.v (yI (c:Int)),.v (.slice B (n*c) a)])] qK (fun _=>qK) qK qK (fun _=>qK) fun f P=>?_
 refine SXc.freezeN 4 97 [yI (n:Int), yI (c:Int),.slice B (n*c) a] (fun g=>[(3,.v (.pointer (yL f))),(4,.v (.pointer (yL g))),(5,.p 5 0),(6,.p 6 0),yJ 7 0]) [(6,97,[.v (yI 0),.v (yI 0),.v (.slice none 0 0)]),(5,3,[.v (yI (b:Int))])] qK (fun _=>qK) qK qK (fun _=>qK) fun g S=>?_
 refine SXc.freezeN 5 3 [yI (b:Int)] (fun q=>[(3,.v (.pointer (yL f))),(4,.v (.pointer (yL g))),(5,.v (.pointer (yL q))),(6,.p 6 0),yJ 7 0]) [(6,97,[.v (yI 0),.v (yI 0),.v (.slice none 0 0)])] qK (fun _=>qK) qK qK (fun _=>qK) fun q U=>?_
 refine zB (xq 1 [(21,.v (.func (.func 85) #[] #[.pointer (yL g),.pointer (yL f),.pointer (yL q)]))] [] ?_)
 refine xqc 78 [.func (.func 85) #[] #[.pointer (yL g),.pointer (yL f),.pointer (yL q)]] 22 (fun x:{x:Nat × List Nb // x.2.map nbV=xF n c X∧m0≤x.1}=>.tuple #[.agg #[yI (n:Int), yI (c:Int),.slice (yL x.1.1) x.1.2.length x.1.2.length], yI 0]) _ (fun w R Q=>(Zg2 85 #[.pointer (yL g),.pointer (yL f),.pointer (yL q)] n c (xF n c X) _ (fun _=>rfl) (fun Y d=>Zme m n c A B cap a xs zs b f g q X T _ (K.ext (R.trans d)) (Blk.ext' Q.1.1.2 d) (Blk.ext' Q.1.2 d) (Blk.ext' Q.2 d) (OwnD.ext s (R.trans d)) (xD.ext t (R.trans d)) u y (OwnD.ext z (R.trans d)) (xD.ext C (R.trans d)) D E L M F G N H I O)).mono (fun _ _ h=>aP (sh:=fun v=>.tuple #[v, yI 0]) (m0:=m0) (r ▸ R.size) h)) fun V=>?_
 obtain⟨⟨l,e⟩,o,J⟩:=V
 refine xq 4 [yJ 7 0] [(6,97,[.v (yI (n:Int)),.v (yI (c:Int)),.v (.slice (yL l) e.length e.length)])] ?_
 refine yZ (zH ?_)
 refine yR (.tuple #[.agg #[yI (n:Int), yI (c:Int),.slice (yL l) e.length e.length], yI 0]) fun w' R Q=>?_
 exact⟨l,e,rfl,o,r ▸ Q.2.1,Q.2.2,R⟩
theorem Zjq (ma mb n c:Nat)(A B:qA)(cap a:Nat)(q s:List (ByteArray×Int))(b:Nat)(X:Nat→Nat→Fv3)(T:Nat→Nat→Nat→Fv3)(w:World)(hg:Glob w)(hO:OwnD w ma 76 2 A cap q.length (q.flatMap flC))(d0:OwnD w mb 76 2 B a s.length (s.flatMap flC))(hG:FmG ⟨n,n,A,cap,q⟩)(I:FmG ⟨n,c,B,a,s⟩)(a0:8≤b)(b0:b≤1024)(hX:∀ i j,i<n→j<c→FvOk (X i j))(e0:∀ i j,i<n→j<c→T i j (i+1)=ldV s[i*c+j]!)(f0:∀ i j k,i<n→j<c→i<k→k<n→jS (T i j k) (ldV q[k*n+i]!) (X k j) b=some (T i j (k+1)))(hD:∀ i j,i<n→j<c→sgnV (ldV q[i*n+i]!)≠0∧musT (divV (T i j n) (ldV q[i*n+i]!) b)=some (X i j)) :
 yA 48 #[.agg #[.int .i64 ((n:Nat):Int),.int .i64 ((n:Nat):Int),.slice A q.length cap],.agg #[.int .i64 ((n:Nat):Int),.int .i64 ((c:Nat):Int),.slice B s.length a],.int .i64 ((b:Nat):Int),.func (.func 50) #[] #[]] w (iE (fun v=>.tuple #[v,.int .i64 0]) n c ((xF n c X).map ftW) w):=by
 obtain⟨m0,J⟩:∃ m,m=w.heap.size:=⟨_,rfl⟩
 have M:n≤32:=hG.hr.2
 have N:c≤32:=I.hc.2
 refine zQ (Φ:=fun w=>True) func48 rfl qK (fun w' hf=>trivial) ?_
 refine yY (xq 4 [(4,.p 4 0),(5,.p 5 0),(8,.p 8 0),yJ 9 0] [(8,29,[.v (yI 0),.v (yI 0),.v (.slice none 0 0)]),(5,29,[.v (yI (n:Int)),.v (yI (c:Int)),.v (.slice B s.length a)]),(4,29,[.v (yI (n:Int)),.v (yI (n:Int)),.v (.slice A q.length cap)])] ?_)
 refine yZ (yY (xq 3 [yJ 13 (b:Int),(14,.v (.agg #[yI (n:Int), yI (n:Int),.slice A q.length cap])),(15,.v (.agg #[yI (n:Int), yI (c:Int),.slice B s.length a]))] [] ?_))
 refine yD (d:=16) (fun zb:{b:Nat // m0≤b}=>.slice (yL zb.1) 2 2) (fun zb zw=>Blk 29 zw zb.1 #[yI (n:Int), yI (n:Int),.slice A q.length cap, yI (n:Int), yI (c:Int),.slice B s.length a]) (fun w R Q=>aC (m0:=m0) (J ▸ R.size) (t:=179) (e:=29) (n:=2) (sz:=3) (z:=.agg #[yI 0, yI 0,.slice none 0 0]) (parts:=#[(0,Operand.tmp 14),(1,Operand.tmp 15)]) qK qK qK qK qK qK) fun⟨O,j0⟩=>?_
 refine xr 0 [yJ 2 (b:Int),(3,.v (.func (.func 50) #[] #[])),(8,.p 8 0),yJ 9 0,yJ 13 (b:Int),eS1 16 (yL O) 2 2] [(8,29,[.v (yI 0),.v (yI 0),.v (.slice none 0 0)])] ?_
 refine xqc 76 [yI (b:Int),.slice (yL O) 2 2] 17 (fun x:{x:Nat × List Mx // x.2.map mxV=[(⟨n,n,A,cap,q⟩:Fm),⟨n,c,B,a,s⟩].map fmV∧m0≤x.1}=>.tuple #[.slice (yL x.1.1) 2 2, yI 0]) _ (fun w R Q=>(Zfg 0 O 2 [(⟨n,n,A,cap,q⟩:Fm),⟨n,c,B,a,s⟩] b _ (show OwnD _ 0 29 3 _ 2 2 ([(⟨n,n,A,cap,q⟩:Fm),⟨n,c,B,a,s⟩].flatMap fmC) from OwnD.ofBlk (xs:=fmC ⟨n,n,A,cap,q⟩ ++ fmC ⟨n,c,B,a,s⟩) Q.2 (vL _) rfl qD (fun k z h=>(tR.1 h).elim (Zd4 _ k z) (Zd4 _ k z))) rfl qD (fun x hx=>by rcases Zet hx with rfl|rfl;exact OwnD.mono (OwnD.ext hO R) (vL _);exact OwnD.mono (OwnD.ext d0 R) (vL _)) (fun x hx=>by rcases Zet hx with rfl|rfl;exact hG;exact I) a0 b0).mono (fun _ _ h=>Zg3 (m0:=m0) (J ▸ R.size) h)) fun xx=>?_
 obtain⟨⟨K,P⟩,S,k0⟩:=xx
 have H:P.length=2:=by have:=vI List.length S;rw[uU,uU] at this;exact this
 refine xq 5 [eS1 10 (yL K) 2 2,yJ 11 0] [] ?_
 refine yZ (zC (yY (xq 2 [yB 21 false] [] ?_)))
 refine yZ (xb (zI (zA (zC ?_))))
 refine dM 14 [0,0,2,6,0,16,48,0,255,511,511,2047,4095,4095] qK qK zL ?_
 refine xqg 2 [(24,.v (.func (.func 50) #[] #[])),eS1 25 (yL K) 2 2] ?_
 refine xqj 26 (atA (yL K) (0*3)) (fun w Q=>xJ (t:=123) (e:=97) (sz:=3) (x:=.tmp 25) (ix:=.const (yI 0)) (len:=2) (cap:=2) (i:=0) qS qD) ?_
 obtain⟨f,F⟩:∃ x,P[0]! = x:=⟨_,rfl⟩
 refine xqj 27 (.agg #[yI ((f.r:Nat):Int), yI ((f.c:Nat):Int),.slice f.A f.xs.length f.cap]) (fun w Q=>by rw[←F];exact iD (t:=97) (x:=.tmp 26) (j:=0) Q.2.1 aQ (by rw[H];decide)) ?_
 obtain⟨U,V,o⟩:=Zgn (ls:=[(⟨n,n,A,cap,q⟩:Fm),⟨n,c,B,a,s⟩]) S (j:=0) (y:=⟨n,n,A,cap,q⟩) rfl F
 have u:f.xs.length=n*n:=by have:=vI List.length o;rw[uU,uU] at this;rw[this];exact hG.hn
 refine xqg 1 [eS1 28 (yL K) 2 2] ?_
 refine xqj 29 (atA (yL K) (1*3)) (fun w Q=>xJ (t:=123) (e:=97) (sz:=3) (x:=.tmp 28) (ix:=.const (yI 1)) (len:=2) (cap:=2) (i:=1) qS qD) ?_
 obtain⟨g,G⟩:∃ x,P[1]! = x:=⟨_,rfl⟩
 refine xqj 30 (.agg #[yI ((g.r:Nat):Int), yI ((g.c:Nat):Int),.slice g.A g.xs.length g.cap]) (fun w Q=>by rw[←G];exact iD (t:=97) (x:=.tmp 29) (j:=1) Q.2.1 aQ (by rw[H];decide)) ?_
 obtain⟨W,Y,C⟩:=Zgn (ls:=[(⟨n,n,A,cap,q⟩:Fm),⟨n,c,B,a,s⟩]) S (j:=1) (y:=⟨n,c,B,a,s⟩) rfl G
 have D:g.xs.length=n*c:=by have:=vI List.length C;rw[uU,uU] at this;rw[this];exact I.hn
 refine xqg 1 [yJ 31 (b:Int)] ?_
 refine xqd 50 [.agg #[yI ((f.r:Nat):Int), yI ((f.c:Nat):Int),.slice f.A f.xs.length f.cap],.agg #[yI ((g.r:Nat):Int), yI ((g.c:Nat):Int),.slice g.A g.xs.length g.cap], yI (b:Int)] 32 (fun x:{x:Nat × List Nb // x.2.map nbV=xF n c X∧m0≤x.1}=>.tuple #[.agg #[yI (n:Int), yI (c:Int),.slice (yL x.1.1) x.1.2.length x.1.2.length], yI 0]) _ (fun w R Q=>((show Calls _ _ _ _ (dE (fun v=>.tuple #[v, yI 0]) n c (xF n c X) _) by rw[U,V,u,W,Y,D];exact Zmg m0 n c f.A g.A f.cap g.cap f.xs g.xs b X T _ (hg.ext R) (by have h:=(Q.2.2 _ (xM (by rw[H];decide:0<P.length))).1;rw[F,u] at h;exact h) (by have h:=(Q.2.2 _ (xM (by rw[H];decide:0<P.length))).2;rw[F] at h;exact h) u (Zd6 hG o) (by have h:=(Q.2.2 _ (xM (by rw[H];decide:1<P.length))).1;rw[G,D] at h;exact h) (by have h:=(Q.2.2 _ (xM (by rw[H];decide:1<P.length))).2;rw[G] at h;exact h) D (Zd6 I C) M N a0 b0 hX (fun i j hi hj=>by rw[Zes C (by rw[I.hn];exact gidx hi hj)];exact e0 i j hi hj) (fun i j k hi hj g0 hk=>by rw[Zes o (by rw[hG.hn];exact gidx hk hi)];exact f0 i j k hi hj g0 hk) (fun i j hi hj=>by rw[Zes o (by rw[hG.hn];exact gidx hi hi)];exact hD i j hi hj))).mono (fun _ _ h=>aP (sh:=fun v=>.tuple #[v, yI 0]) (m0:=m0) (J ▸ R.size) h)) fun xx=>?_
 obtain⟨⟨Z,l⟩,E,l0⟩:=xx
 refine xqg 2 [(33,.v (.agg #[yI (n:Int), yI (c:Int),.slice (yL Z) l.length l.length])),yJ 34 0] ?_
 have c0:=hX
 have h0:(l.map ftV)=(xF n c X).map ftW:=by rw[←E,qZ];rfl
 have i0:l.length≤4096:=by have h1:=eA n c X;rw[←E,uU] at h1;rw[h1];exact uB (uZ M N) qD
 refine xqd 77 [.agg #[yI (n:Int), yI (c:Int),.slice (yL Z) l.length l.length], yI 0] 35 (fun b:{b:Nat // m0≤b}=>.tuple #[.agg #[yI (n:Int), yI (c:Int),.slice (yL b.1) ((xF n c X).map ftW).length ((xF n c X).map ftW).length], yI 0]) _ (fun w R Q=>((show Calls _ _ _ _ (iE (fun v=>.tuple #[v, yI 0]) n c ((xF n c X).map ftW) _) by rw[←h0];exact Zc3 m0 n c (yL Z) l.length l.length l _ Q.2.1 Q.2.2 rfl (hg.ext R) i0 (fun x hx=>(fun h=>⟨uB h.1 qD,h.2.2.2⟩:FvOk (nbV x)→_) (Zk5 c0 _ (by rw[←E];exact qE hx))))).mono (fun _ _ h=>jX (sh:=fun v=>.tuple #[v, yI 0]) (m0:=m0) (J ▸ R.size) h)) fun⟨L,n0⟩=>?_
 refine xqg 2 [(36,.v (.agg #[yI (n:Int), yI (c:Int),.slice (yL L) ((xF n c X).map ftW).length ((xF n c X).map ftW).length])),yJ 37 0] ?_
 refine xz (xq 2 [yJ 9 0] [(8,29,[.v (yI (n:Int)),.v (yI (c:Int)),.v (.slice (yL L) ((xF n c X).map ftW).length ((xF n c X).map ftW).length)])] ?_)
 refine yZ (zH ?_)
 refine yR (.tuple #[.agg #[yI (n:Int), yI (c:Int),.slice (yL L) ((xF n c X).map ftW).length ((xF n c X).map ftW).length], yI 0]) fun w' R Q=>?_
 exact⟨L,rfl,J ▸ Q.2,R⟩
theorem Zn4 (u x n c:Nat)(A B:qA)(cap a:Nat)(d e:List (ByteArray×Int))(b:Nat)(X:Nat→Nat→Fv3)(T:Nat→Nat→Nat→Fv3)(w:World)(z:Glob w)(C:OwnD w u 76 2 A cap d.length (d.flatMap flC))(l:OwnD w x 76 2 B a e.length (e.flatMap flC))(D:FmG ⟨n,n,A,cap,d⟩)(o:FmG ⟨n,c,B,a,e⟩)(q:8≤b)(r:b≤1024)(E:∀ i j,i<n→j<c→FvOk (X i j))(s:∀ i j,i<n→j<c→T i j (i+1)=ldV e[i*c+j]!)(t:∀ i j k,i<n→j<c→i<k→k<n→jS (T i j k) (ldV d[k*n+i]!) (X k j) b=some (T i j (k+1)))(F:∀ i j,i<n→j<c→sgnV (ldV d[i*n+i]!)≠0∧musT (divV (T i j n) (ldV d[i*n+i]!) b)=some (X i j)) :
 yA 26 #[.agg #[.int .i64 ((n:Nat):Int),.int .i64 ((n:Nat):Int),.slice A d.length cap],.agg #[.int .i64 ((n:Nat):Int),.int .i64 ((c:Nat):Int),.slice B e.length a],.int .i64 ((b:Nat):Int)] w (iE (fun v=>.tuple #[v,.int .i64 0]) n c ((xF n c X).map ftW) w):=by
 obtain⟨m0,g⟩:∃ m,m=w.heap.size:=⟨_,rfl⟩
 refine zQ (Φ:=fun w=>True) func26 rfl qK (fun w' G=>trivial) ?_
 refine yY (xq 4 [(3,.p 3 0),(4,.p 4 0),(6,.p 6 0),yJ 7 0] [(6,29,[.v (yI 0),.v (yI 0),.v (.slice none 0 0)]),(4,29,[.v (yI (n:Int)),.v (yI (c:Int)),.v (.slice B e.length a)]),(3,29,[.v (yI (n:Int)),.v (yI (n:Int)),.v (.slice A d.length cap)])] ?_)
 refine yZ (yY (xq 3 [(8,.v (.agg #[yI (n:Int), yI (n:Int),.slice A d.length cap])),(9,.v (.agg #[yI (n:Int), yI (c:Int),.slice B e.length a])),yJ 10 (b:Int)] [] ?_))
 refine xqc 48 [.agg #[yI (n:Int), yI (n:Int),.slice A d.length cap],.agg #[yI (n:Int), yI (c:Int),.slice B e.length a], yI (b:Int),.func (.func 50) #[] #[]] 11 (fun b:{b:Nat // m0≤b}=>.tuple #[.agg #[yI (n:Int), yI (c:Int),.slice (yL b.1) ((xF n c X).map ftW).length ((xF n c X).map ftW).length], yI 0]) _ (fun w R Q=>(Zjq u x n c A B cap a d e b X T _ (z.ext R) (OwnD.ext C R) (OwnD.ext l R) D o q r E s t F).mono (fun _ _ h=>jX (sh:=fun v=>.tuple #[v, yI 0]) (m0:=m0) (g ▸ R.size) h)) fun⟨f,y⟩=>?_
 refine xq 4 [yJ 7 0] [(6,29,[.v (yI (n:Int)),.v (yI (c:Int)),.v (.slice (yL f) ((xF n c X).map ftW).length ((xF n c X).map ftW).length)])] ?_
 refine yZ (zH ?_)
 refine yR (.tuple #[.agg #[yI (n:Int), yI (c:Int),.slice (yL f) ((xF n c X).map ftW).length ((xF n c X).map ftW).length], yI 0]) fun w' R Q=>?_
 exact⟨f,rfl,g ▸ Q.2,R⟩
end Go.Proofs.YtenchljfmfgeoaaGreatDoor
namespace Go.Proofs.YtenchljfmfgeoaaGreatDoor
section
variable {n c i j k:Nat} {Z:Nat→Nat→Int}
theorem Zia (h:∀ a b,a<n→b<c→(Z a b).natAbs≤1000000000):∀ f∈(xF n c (fun a b=>cz (Z a b))).map ftW,Gd f:=fun f g=>by
 obtain⟨v,l,rfl⟩:=pY.1 g
 have e:=Zc5 (p:=fun v=>FvOk v∧Bv 100 v) (fun a b m o=>ZpE (z:=Z a b) (vG (h a b m o) qD)) v l
 exact ZrT e.1 e.2
theorem Zgq:((xF n c (fun a b=>cz (Z a b))).map ftW).length=n*c:=by rw[uU,eA]
theorem Zex (h:∀ a b,a<n→b<c→(Z a b).natAbs≤1000000000)(hi:i<n)(e:j<c):ldV ((xF n c (fun a b=>cz (Z a b))).map ftW)[i*c+j]! = cz (Z i j):=by
 rw[Zfk,Zpl hi e]
 exact ZrW (vG (h i j hi e) qD)
end
structure Tri (n:Nat) (R:Nat→Nat→Int):Prop where
 one:∀ a,a<n→R a a=1
 up:∀ a b,a<b→b<n→R a b=0
 le:∀ a b,a<n→b<n→(R a b).natAbs≤3
section
variable {n c i j k d:Nat} {R X:Nat→Nat→Int} {z:Int}
theorem Tri.start:Tri n (fun a b=>if a=b then 1 else 0):=⟨fun a _=>uS rfl,fun a b h _=>uM qO,fun a b _ _=>by show (if a=b then (1:Int) else 0).natAbs≤3;split<;>decide⟩
theorem Tri.upd (h:Tri n R)(l:k<i)(m : -3≤z)(o:z≤3):Tri n (updZ R i k z):=by
 refine⟨fun a e=>?_,fun a b f g=>?_,fun a b e g=>?_⟩<;>unfold updZ
 ·rw[uM qO];exact h.one a e
 ·rw[uM qO];exact h.up a b f g
 split
 ·omega
 exact h.le a b e g
theorem Zn5 {p:Nat}(h:∀ a b,a<n→b<c→(X a b).natAbs≤p)(e:z.natAbs≤p):∀ a b,a<n→b<c→(updZ X i j z a b).natAbs≤p:=fun a b f g=>by
 unfold updZ
 split
 ·exact e
 exact h a b f g
theorem Zk9 (h:Tri n R)(hi:i<n):∀ d,i+1≤d→d≤n→wO R X d i j=wO R X i i j+X i j
 | 0,h1,_=>qO
 | d+1,h1,h2=>by
  show wO R X d i j+R i d*X d j=_
  rcases Nat.eq_or_lt_of_le h1 with e|e
  ·have:i=d:=qO
   subst this
   rw[h.one i hi,Int.one_mul]
  rw[Zk9 h hi d qO qO,h.up i d qO qO,nL,Int.add_zero]
theorem Zla (h:Tri n R)(hi:i<n):∀ d,d≤i→wO (fun a b=>R b a) X d i j=0
 | 0,_=>rfl
 | d+1,h2=>by
  show wO (fun a b=>R b a) X d i j+R d i*X d j=0
  rw[Zla h hi d qO,h.up d i qO hi,nL];rfl
theorem ZrI (h:Tri n R)(hi:i<n):wO (fun a b=>R b a) X (i+1) i j=X i j:=by
 show wO (fun a b=>R b a) X i i j+R i i*X i j=_
 rw[Zla h hi i (uG i),h.one i hi,Int.one_mul,Int.zero_add]
def lowT (n:Nat) (R X:Nat→Nat→Int) (i j k:Nat):Int:=wO R X n i j-wO R X k i j
def upT (n:Nat) (R X:Nat→Nat→Int) (i j k:Nat):Int:=wO (fun a b=>R b a) X n i j-wO (fun a b=>R b a) X k i j+X i j
theorem Zey (h:∀ a b,a<n→b<n→(R a b).natAbs≤3)(e:∀ a b,a<n→b<2→(X a b).natAbs≤9)(l:n≤4)(hi:i<n)(f:j<2)(m:d≤n):(wO R X d i j).natAbs≤108:=by
 refine uB (Zfj d (fun r g=>h i r hi qO) (fun r g=>e r j qO f)) ?_
 exact uB (uE _ (show d≤4 by omega)) qD
theorem Zbd (h:Tri n R):∀ a b,a<n→b<n→(R a b).natAbs≤1000000000:=fun a b e f=>uB (h.le a b e f) qD
theorem Zgr (h:Tri n R)(e:∀ a b,a<n→b<2→(X a b).natAbs≤9)(f:n≤4):∀ a b,a<n→b<2→(wO R X n a b).natAbs≤1000000000:=fun a b g l=>uB (Zey h.le e f g l (uG n)) qD
theorem Zgs (h:Tri n R)(g:∀ a b,a<n→b<2→(X a b).natAbs≤9)(l:n≤4):∀ a b,a<n→b<2→(wO (fun a b=>R b a) X n a b).natAbs≤1000000000:=fun a b e f=>uB (Zey (R:=fun a b=>R b a) (fun a b e f=>h.le b a f e) g l e f (uG n)) qD
theorem x_ok (e:∀ a b,a<n→b<2→(X a b).natAbs≤9):∀ i j,i<n→j<2→FvOk (cz (X i j)):=fun i j hi f=>(ZpE (vG (e i j hi f) qD)).1
theorem Zn6 (h:Tri n R)(e:∀ a b,a<n→b<2→(X a b).natAbs≤9){t:Int}(hi:i<n)(f:j<2)(g:t=X i j){v:Fv3}(l:v=cz (R i i)):sgnV v≠0∧musT (divV (cz t) v 64)=some (cz (X i j)):=by
 rw[l,h.one i hi,g]
 exact⟨ZqR,ZrH (vG (e i j hi f) qD)⟩
theorem ZrJ (h:Tri n R)(e:∀ a b,a<n→b<2→(X a b).natAbs≤9)(f:n≤4):∀ i j,i<n→j<2→cz (lowT n R X i j 0)=ldV ((xF n 2 (fun a b=>cz (wO R X n a b))).map ftW)[i*2+j]! := fun i j hi g=>by
 rw[Zex (Zgr h e f) hi g]
 show cz (wO R X n i j-0)=_
 rw[Int.sub_zero]
theorem ZrK (h:Tri n R)(f:∀ a b,a<n→b<2→(X a b).natAbs≤9)(l:n≤4):∀ i j k,i<n→j<2→k<i→jS (cz (lowT n R X i j k)) (ldV ((xF n n (fun a b=>cz (R a b))).map ftW)[i*n+k]!) (cz (X k j)) 64=some (cz (lowT n R X i j (k+1))):=fun i j k hi g m=>by
 rw[Zex (Zbd h) hi qO]
 have e:lowT n R X i j (k+1)=lowT n R X i j k-R i k*X k j:=by
  show wO R X n i j-(wO R X k i j+R i k*X k j)=wO R X n i j-wO R X k i j-R i k*X k j
  omega
 rw[e]
 have o:=Zey h.le f l hi g (uG n)
 have p:=Zey h.le f l hi g (show k≤n by omega)
 refine Zk8 ?_ (uB (Zer (h.le i k hi qO) (f k j qO g)) qD)
 unfold lowT;omega
theorem ZrX (h:Tri n R)(e:∀ a b,a<n→b<2→(X a b).natAbs≤9):∀ i j,i<n→j<2→sgnV (ldV ((xF n n (fun a b=>cz (R a b))).map ftW)[i*n+i]!)≠0∧musT (divV (cz (lowT n R X i j i)) (ldV ((xF n n (fun a b=>cz (R a b))).map ftW)[i*n+i]!) 64)=some (cz (X i j)):=fun i j hi f =>
 Zn6 h e hi f (by
  unfold lowT
  rw[Zk9 h hi n qO (uG n)]
  omega) (Zex (Zbd h) hi hi)
theorem ZrY (h:Tri n R)(e:∀ a b,a<n→b<2→(X a b).natAbs≤9)(f:n≤4):∀ i j,i<n→j<2→cz (upT n R X i j (i+1))=ldV ((xF n 2 (fun a b=>cz (wO (fun a b=>R b a) X n a b))).map ftW)[i*2+j]! := fun i j hi g=>by
 rw[Zex (Zgs h e f) hi g]
 unfold upT
 rw[ZrI h hi]
 congr 1;omega
theorem ZrZ (h:Tri n R)(f:∀ a b,a<n→b<2→(X a b).natAbs≤9)(p:n≤4):∀ i j k,i<n→j<2→i<k→k<n→jS (cz (upT n R X i j k)) (ldV ((xF n n (fun a b=>cz (R a b))).map ftW)[k*n+i]!) (cz (X k j)) 64=some (cz (upT n R X i j (k+1))):=fun i j k hi g _ l=>by
 rw[Zex (Zbd h) l hi]
 have e:upT n R X i j (k+1)=upT n R X i j k-R k i*X k j:=by
  show wO (fun a b=>R b a) X n i j-(wO (fun a b=>R b a) X k i j+R k i*X k j)+X i j=wO (fun a b=>R b a) X n i j-wO (fun a b=>R b a) X k i j+X i j-R k i*X k j
  omega
 rw[e]
 have q:=Zey (R:=fun a b=>R b a) (fun a b m o=>h.le b a o m) f p hi g (uG n)
 have r:=Zey (R:=fun a b=>R b a) (fun a b m o=>h.le b a o m) f p hi g (show k≤n by omega)
 have s:=f i j hi g
 refine Zk8 ?_ (uB (Zer (h.le k i l hi) (f k j l g)) qD)
 unfold upT;omega
theorem up_D (h:Tri n R)(e:∀ a b,a<n→b<2→(X a b).natAbs≤9):∀ i j,i<n→j<2→sgnV (ldV ((xF n n (fun a b=>cz (R a b))).map ftW)[i*n+i]!)≠0∧musT (divV (cz (upT n R X i j n)) (ldV ((xF n n (fun a b=>cz (R a b))).map ftW)[i*n+i]!) 64)=some (cz (X i j)):=fun i j hi f =>
 Zn6 h e hi f (by unfold upT;omega) (Zex (Zbd h) hi hi)
end
end Go.Proofs.YtenchljfmfgeoaaGreatDoor
namespace Go.Proofs.YtenchljfmfgeoaaGreatDoor
open Go.RowKit Tryz
instance {m:Nat} {ts:List ByteArray}:Nonempty {x:Nat × List Qv // x.2.map (·.q)=ts.map (fun t=>valF (bytes t))∧m≤x.1}:=⟨⟨(m,ts.map (fun t=>⟨qv0.c,valF (bytes t)⟩)),by rw[qZ];rfl,uG _⟩⟩
theorem eqFl (a b:ByteArray)(d c:Int)(w:World):(Op.equalIn 10000 76 (yS a d) (yS b c)).run prog w =
 .ok ((a.toList == b.toList) && (d == c)) w:=by
 have e:prog.underlying 76=some (.struct (prog.fieldsOf 76)):=qK
 have f:prog.stoodInHeld 76=false:=qK
 have g:=underlying3
 have h:=isAgg3
 have i:=underlying9
 have j:=isAgg9
 rw[show (10000:Nat)=9999+1 from rfl,run_equalIn_agg w 9999 _ _ _ e f]
 simp only[Program.fieldsOf,underlying76]
 go_simp
 cases h1:(a.toList == b.toList)<;>cases h3:(d == c)<;>simp_all
theorem ZqS {o:Oper}{ρ:Operand→Value}{w:World}{x y:Operand}{k:TypeId}{a:ByteArray}{d:Int}(b:o.op=Op.binOp .neq 76 x y k:=by kernel_rfl)(c:ρ x=.agg #[.string a,.int .i64 d]:=by kernel_rfl)(e:ρ y=.agg #[.string a,.int .i64 d]:=by kernel_rfl) :
 (execOp ρ o).run prog w=.ok (.value (.bool false)) w:=by
 have f:prog.eqGuardType prog.depth 76=false:=qK
 have g:(!((a.toList == a.toList) && (d == d)))=false:=qS
 simp only[execOp,b,c,e,Sem.run_bind,run_eqGuard_agg w _ _ _ _ _ _ f,Result.andThen_ok,run_neq_struct,eqFl,Sem.run_pure,g]
theorem Zgt (r c q s n:Nat)(A B:qA)(g h:Nat)(l:List (ByteArray×Int))(w:World)(F:OwnD w q 76 2 A g n (l.flatMap flC))(G:OwnD w s 76 2 B h n (l.flatMap flC))(u:l.length=n)(I:n≤4096) :
 yA 12 #[.agg #[.int .i64 ((r:Nat):Int),.int .i64 ((c:Nat):Int),.slice A n g],.agg #[.int .i64 ((r:Nat):Int),.int .i64 ((c:Nat):Int),.slice B n h]] w (RetV w (.bool true)):=by
 refine zQ (Φ:=fun w=>(OwnD w q 76 2 A g n (l.flatMap flC)∧OwnD w s 76 2 B h n (l.flatMap flC))) func12 rfl qK (fun w' z=>⟨F.ext z,G.ext z⟩) ?_
 refine yY (xq 3 [(2,.p 2 0),(3,.p 3 0),yB 4 false] [(3,29,[.v (yI (r:Int)),.v (yI (c:Int)),.v (.slice B n h)]),(2,29,[.v (yI (r:Int)),.v (yI (c:Int)),.v (.slice A n g)])] ?_)
 refine yZ (zC (yY (xq 5 [yB 10 (((r:Int):Int) != (r:Int))] [] ?_)))
 rw[(show (((r:Int):Int) != (r:Int))=false from eL rfl)]
 refine xq 6 [yB 11 false,yB 16 (((c:Int):Int) != (c:Int))] [] ?_
 rw[(show (((c:Int):Int) != (c:Int))=false from eL rfl)]
 refine xq 9 [yB 18 false,yB 25 (((n:Int):Int) != (n:Int))] [] ?_
 rw[(show (((n:Int):Int) != (n:Int))=false from eL rfl)]
 refine xq 1 [yB 26 false] [] ?_
 refine yZ (xb (zI (zA (zC (yY (xq 4 [yJ 29 (n:Int),yJ 30 0] [] ?_))))))
 refine yZ (zP ?_)
 refine yC [(2,.p 2 0),(3,.p 3 0),yB 4 false,yJ 29 (n:Int),yJ 30 ((0:Nat):Int)] [(3,29,[.v (yI (r:Int)),.v (yI (c:Int)),.v (.slice B n h)]),(2,29,[.v (yI (r:Int)),.v (yI (c:Int)),.v (.slice A n g)])] (fun w=>(OwnD w q 76 2 A g n (l.flatMap flC)∧OwnD w s 76 2 B h n (l.flatMap flC))) (fun w Q=>⟨Q.1,Q.2⟩) ?_
 refine xU (fun C D E=>∃ (k:Nat),D=ofL [(2,.p 2 0),(3,.p 3 0),yB 4 false,yJ 29 (n:Int),yJ 30 (k:Int)] [(3,29,[.v (yI (r:Int)),.v (yI (c:Int)),.v (.slice B n h)]),(2,29,[.v (yI (r:Int)),.v (yI (c:Int)),.v (.slice A n g)])]∧E=(fun w=>(OwnD w q 76 2 A g n (l.flatMap flC)∧OwnD w s 76 2 B h n (l.flatMap flC)))∧(k≤n)∧C=(1+(n-k))) ((1+(n-0))) ⟨0,rfl,rfl,(vL _),rfl⟩ ?_
 rintro C D E ⟨k,rfl,rfl,J,rfl⟩
 refine yY (xq 1 [yB 31 (decide ((k:Int)<(n:Int)))] [] ?_)
 refine yZ (zC ?_)
 refine yQ ((decide ((k:Int)<(n:Int)))) (fun m=>?_) fun m=>?_
 ·have b:k<n:=by have:=uC m;omega
  refine zI (zA (zC (zP (yY (xq 2 [yJ 5 (k:Int)] [] ?_)))))
  refine yZ (zC ?_)
  refine yO 11 zL ?_
  refine xqg 3 [eS1 34 A n g,yJ 35 (k:Int)] ?_
  refine xqj 36 (atA A (k*2)) (fun w Q=>xJ (t:=27) (e:=76) (sz:=2) (x:=.tmp 34) (ix:=.tmp 35) (len:=n) (cap:=g) (i:=k) (Q.1.ne b) b) ?_
  obtain⟨f,o⟩:∃ x,l[k]! = x:=⟨_,rfl⟩
  refine xqj 37 (yS f.1 f.2) (fun w Q=>by rw[←o];exact iD (t:=76) (x:=.tmp 36) (j:=k) Q.1 dY (u.symm ▸ b)) ?_
  refine xqg 3 [eS1 39 B n h,yJ 40 (k:Int)] ?_
  refine xqj 41 (atA B (k*2)) (fun w Q=>xJ (t:=27) (e:=76) (sz:=2) (x:=.tmp 39) (ix:=.tmp 40) (len:=n) (cap:=h) (i:=k) (Q.2.ne b) b) ?_
  refine xqj 42 (yS f.1 f.2) (fun w Q=>by rw[←o];exact iD (t:=76) (x:=.tmp 41) (j:=k) Q.2 dY (u.symm ▸ b)) ?_
  refine xqj 43 (.bool false) (fun w Q=>ZqS (x:=.tmp 37) (y:=.tmp 42) (k:=76) (a:=f.1) (d:=f.2)) ?_
  refine xz (yZ (xb (zI (xS (zA (zB (xq 1 [yJ 44 (IntKind.i64.wrap ((k:Int)+1))] [] ?_)))))))
  rw[yW ((k:Int)+1) (((k+1:Nat):Int)) qO]
  refine xq 1 [yJ 30 ((k+1:Nat):Int)] [] ?_
  refine xe ?_
  refine yP [(2,.p 2 0),(3,.p 3 0),yB 4 false,yJ 29 (n:Int),yJ 30 (((k+1):Nat):Int)] [(3,29,[.v (yI (r:Int)),.v (yI (c:Int)),.v (.slice B n h)]),(2,29,[.v (yI (r:Int)),.v (yI (c:Int)),.v (.slice A n g)])] (fun w=>(OwnD w q 76 2 A g n (l.flatMap flC)∧OwnD w s 76 2 B h n (l.flatMap flC))) (fun w Q=>⟨Q.1,Q.2⟩) ?_
  exact xH ((1+(n-(k+1)))) qO ⟨(k+1),rfl,rfl,b,rfl⟩
 have H:k=n:=by have:=uD m;omega
 refine xO (zG (zG (xW (zA (yY (xq 1 [yB 4 true] [] ?_))))))
 refine yZ (zH ?_)
 refine yR (.bool true) fun w' R Q=>?_
 exact⟨rfl,R⟩
theorem SXi.size {N:Nat}{S0:Nat→Prop}{c:World}{s:St}{Φ:World→Prop}{P:Program}{b:Array Oper}{Q:Exit→Act→World→Prop}{i:Nat}(p:Nat→Prop)(e:∀ w,Fr S0 c w→Φ w→p w.heap.size)(K:∀ m1,p m1→SXi P N S0 c b Q i s (fun w=>Φ w∧m1≤w.heap.size)):SXi P N S0 c b Q i s Φ:=fun L a w hi =>
 K w.heap.size (e w hi.mem.ext hi.box.self) L a w ⟨hi.size,hi.df,hi.sl,hi.mem,fun f d=>⟨hi.box f d,d.size⟩⟩
theorem TOld.new {wl:World}{τ:Tap}(h:TOld wl τ):wl.heap.size≤τ.g:=by obtain⟨_,_,_,_,h⟩:=h;exact h
theorem ZqT (A:qA)(l c:Nat)(zs:List Int)(a w:World)(b:Nat)(f:jD a A zs)(q:zs.length=l)(i:l≤c)(j:Ext a w)(k:b≤w.heap.size) :
 yA 19 #[.slice A l c] w (lR (fun x:{τ:Tap // TOld a τ∧b≤τ.g}=>.pointer (some ⟨x.1.g,0,none⟩)) (fun x w=>TOk x.1 w) w):=by
 refine (Zqq A l c w i).mono ?_
 rintro e w' ⟨g,rfl,d,Q,m⟩
 refine⟨⟨⟨g,A,min l 400,c⟩,⟨zs.take 400,f.take 400,by rw[uQ];show min 400 zs.length=min l 400;omega,by show min l 400≤1000000;omega,uB j.size d⟩,uB k d⟩,rfl,Q,fun S n o p=>?_⟩
 exact TOk.fr (τ:=⟨g,A,min l 400,c⟩) ⟨0,vL _,m⟩ p (fun h=>by have r:g<w.heap.size:=(n _ h).1;omega)
instance:Nonempty {x:ShQ×Int // (fun x:ShQ×Int => -3≤x.2∧x.2≤3) x}:=⟨⟨(qv0.c,0),by decide⟩⟩
instance:Nonempty {x:ShQ×Int // (fun x:ShQ×Int => -9≤x.2∧x.2≤9) x}:=⟨⟨(qv0.c,0),by decide⟩⟩
theorem zS.boxT {w w':World}{v:Value}{q:Rat}{b:Nat}(h:zS w' v q)(d:Fr (fun i=>i=b) w w'):BoxT b w w' (fun w=>zS w v q):=fun _ _ f a=>h.nrb (fun i hi=>by
 obtain⟨r,g,t,l,o,p⟩:=f i hi
 exact⟨t,l,o.fr d g,p⟩) a
section
variable {α:Type} {e:TypeId} {k m m2 n i j c:Nat} {enc:α→List Value} {w:World} {rs xs:List (Mr α)}
theorem MrOk.below (h:MrOk e k enc m w rs):∀ y∈rs,∀ b,y.A=some ⟨b,0,none⟩→b<w.heap.size:=fun y a b d=>by
 obtain⟨_,_,f,_⟩:=(h.own y a).blk d
 exact f.lt
theorem MrOk.ne (h:MrOk e k enc m w rs)(b:∀ y∈rs,0<y.xs.length):∀ y∈rs,y.A≠none:=fun y a=>OwnD.ne (h.own y a) (b y a)
theorem MrOk.app (o:MrOk e k enc m w rs)(f:MrOk e k enc m2 w xs)(s:m≤m2)(p:∀ y∈rs,∀ b,y.A=some ⟨b,0,none⟩→b<m2)(t:∀ y∈rs,0<y.xs.length):MrOk e k enc m w (rs ++ xs):=by
 refine⟨fun y u=>(tR.1 u).elim (o.own y) (fun h=>(f.own y h).mono s),pA.2 ⟨o.dif,f.dif,fun a q b r d=>?_⟩⟩
 have v:=o.ne t a q
 rcases (f.own b r).2 with ⟨l,_,_⟩|⟨g,x,l,_⟩
 ·exact v (d.trans l)
 have z:=p a q g (d.trans l)
 have B:=((f.own b r).blk l).1
 omega
theorem MrOk.left (h:MrOk e k enc m w (rs ++ xs)):MrOk e k enc m w rs:=⟨fun y a=>h.own y (List.mem_append_left _ a),(pA.1 h.dif).1⟩
theorem MrOk.right (h:MrOk e k enc m w (rs ++ xs)):MrOk e k enc m w xs:=⟨fun y a=>h.own y (List.mem_append_right _ a),(pA.1 h.dif).2.1⟩
theorem Zr0 (h:i<rs.length):(rs ++ xs)[i]! = rs[i]! := by rw[vP _ i (by rw[uK];omega),List.getElem_append_left h,vP rs i h]
theorem Zr1 (h:rs.length=n):(rs ++ xs)[n+i]! = xs[i]! := by
 rcases vO i xs.length with a|a
 ·rw[vP _ (n+i) (by rw[uK];omega),List.getElem_append_right qO,vP xs i a]
  congr 1;omega
 rw[getElem!_neg _ (n+i) (by rw[uK];omega),getElem!_neg xs i qO]
theorem Zpm {v:Mr α}(h:i<rs.length):(rs ++ xs).set i v=rs.set i v ++ xs:=List.set_append_left i v h
theorem Zpn {v:Mr α}(h:rs.length=n):(rs ++ xs).set (n+i) v=rs ++ xs.set i v:=by rw[rT (n+i) v qO,show n+i-rs.length=i by omega]
end
section
variable {n c c2 i j k m:Nat} {w:World} {rs xs ms:List (Mr Qv)} {R X Z:Nat→Nat→Int}
theorem QMs.left (h:QMs w (rs ++ xs)):QMs w rs:=fun y a=>h y (List.mem_append_left _ a)
theorem QMs.right (h:QMs w (rs ++ xs)):QMs w xs:=fun y a=>h y (List.mem_append_right _ a)
theorem QMs.upd {A:qA}{cap:Nat}{l:List Qv}(h:QMs w ms)(b:QsOk w l):QMs w (ms.set i ⟨A,cap,l⟩):=fun y d=>by
 rcases sH d with a|a
 ·exact h y a
 subst a;exact b
theorem QsOk.set {l:List Qv}{x:Qv}(h:QsOk w l)(b:zS w (jJ x.c) x.q):QsOk w (l.set j x):=fun y d=>by
 rcases sH d with a|a
 ·exact h y a
 subst a;exact b
theorem QG.pos (h:QG n c ms Z)(d:0<c):∀ y∈ms,0<y.xs.length:=fun y f=>by
 obtain⟨a,b,rfl⟩:=rO f
 rw[←vP ms a b,h.2.1 a (by rw[←h.1];exact b)]
 exact d
theorem Zlb (b:QG n c rs R)(d:QG n c2 xs X)(f:0<c)(a:0<c2):∀ y∈rs ++ xs,0<y.xs.length:=fun y g=>(tR.1 g).elim (b.pos f y) (d.pos a y)
theorem QG.set2 {y:Mr Qv}{u v:Qv}{a b:Int}(h:QG n c ms Z)(hi:i<n)(d:ms[i]! = y)(f:u.q=((a:Int):Rat))(g:v.q=((b:Int):Rat)):QG n c (ms.set i ⟨y.A,y.cap,(y.xs.set j u).set k v⟩) (updZ (updZ Z i j a) i k b):=by
 have l:QG n c (ms.set i ⟨y.A,y.cap,y.xs.set j u⟩) (updZ Z i j a):=h.set hi d f
 have o:QG n c ((ms.set i ⟨y.A,y.cap,y.xs.set j u⟩).set i ⟨y.A,y.cap,(y.xs.set j u).set k v⟩) (updZ (updZ Z i j a) i k b):=l.set (y:=⟨y.A,y.cap,y.xs.set j u⟩) hi (by rw[setg (h.1.symm ▸ hi),uS rfl]) g
 rwa [nK] at o
end
theorem Zgu (A:qA)(l c:Nat)(zs:List Int)(w0:World)(hg:Glob w0)(hz:zs.length=l)(hI:jD w0 A zs)(k1:l≤c) :
 yA 5 #[.slice A l c] w0 (RetV w0 (.bool true)):=by
 refine zQ (Φ:=fun w=>True) func5 rfl qK (fun w' hf=>trivial) ?_
 refine yY (xq 1 [yB 2 false] [] ?_)
 refine yZ (yY (xq 1 [eS1 21 A l c] [] ?_))
 refine xqc 19 [.slice A l c] 22 (fun x:{τ:Tap // TOld w0 τ∧0≤τ.g}=>.pointer (some ⟨x.1.g,0,none⟩)) _ (fun w S Q=>(ZqT A l c zs w0 _ 0 hI hz k1 S (vL _)).mono (fun _ _ h=>h)) fun⟨τ,hO,_⟩=>?_
 refine SXi.size (fun o=>τ.g<o) (fun w S Q=>TOk.lt Q.2) fun o O=>?_
 have J0:=O
 have K0:w0.heap.size≤o:=uB (TOld.new hO) (qF O)
 refine xr 1 [yB 2 false,(3,.v (.pointer (some ⟨τ.g,0,none⟩)))] [] ?_
 refine yZ (yY (xq 1 [(23,.v (.pointer (some ⟨τ.g,0,none⟩)))] [] ?_))
 refine aN (b:=τ.g) (d:=24) (j:=0) (c:=.slice τ.A τ.l τ.c) 20 [.pointer (some ⟨τ.g,0,none⟩), yI 4] (fun x:{x:Nat // (fun v=>(v:Int)<4) x}=>(fun v=>yI (v:Int)) x.1) (fun w=>o≤w.heap.size) (fun x w=>TOk τ w∧(fun _ _=>True) x.1 w) (fun w Q=>TOk.cell Q.1.2) (Or.inl (TOld.new hO)) (fun w S Q=>(ZhK τ w0 4 _ hO S Q.1.2 qD qD).mono (fun _ _ h=>Zd5 h (fun x K h=>fun _ _ _ _=>trivial))) (fun w w2 S Q K=>uB Q.2 K.size) fun⟨L0,v1⟩=>?_
 obtain⟨n,w1⟩:∃ n,n=L0+1:=⟨_,rfl⟩
 have x1:1≤n:=qO
 have Y:n≤4:=qO
 refine xr 1 [yB 2 false,(3,.v (.pointer (some ⟨τ.g,0,none⟩))),yJ 25 (IntKind.i64.wrap (1+(L0:Int)))] [] ?_
 rw[(show IntKind.i64.wrap (1+(L0:Int))=(n:Int) by rw[IntKind.wrap_i64];omega)]
 refine xq 1 [yJ 4 (n:Int)] [] ?_
 refine yZ (yY (xq 1 [yJ 26 (n:Int)] [] ?_))
 refine xqc 21 [yI (n:Int)] 27 (fun x:{x:Nat × List (Mr Qv) // QG n n x.2 (fun a b=>if a=b then 1 else 0)∧o≤x.1}=>.slice (yL x.1.1) n n) _ (fun w S Q=>(Zpk n _ qO).mono (fun _ _ h=>Zao (m0:=o) Q.1 h)) fun xx=>?_
 obtain⟨⟨I,i0⟩,v0,l1⟩:=xx
 refine SXi.size (fun m2=>o≤m2∧∀ y∈i0,∀ b,y.A=yL b→b<m2) (fun w S Q=>⟨Q.1.1,MrOk.below Q.2.1.2⟩) fun m2 M0=>?_
 refine xr 1 [yB 2 false,(3,.v (.pointer (some ⟨τ.g,0,none⟩))),eS1 27 (yL I) n n,yJ 28 (n:Int)] [] ?_
 refine xqc 17 [yI (n:Int), yI 2] 29 (fun x:{x:Nat × List (Mr Qv) // QG n 2 x.2 (fun _ _=>0)∧m2≤x.1}=>.slice (yL x.1.1) n n) _ (fun w S Q=>(ZaG n 2 _ qO qD).mono (fun _ _ h=>Zao (m0:=m2) Q.2 h)) fun xx=>?_
 obtain⟨⟨G,x0⟩,D0,n1⟩:=xx
 refine xq 2 [eS1 5 (yL I) n n,eS1 6 (yL G) n n] [] ?_
 refine yZ (zC (yY (xq 3 [yJ 31 (n:Int),yJ 32 0] [] ?_)))
 refine yZ (zP ?_)
 refine yC [yB 2 false,(3,.v (.pointer (some ⟨τ.g,0,none⟩))),eS1 5 (yL I) n n,eS1 6 (yL G) n n,yJ 31 (n:Int),yJ 32 ((0:Nat):Int)] [] (fun w=>(((((TOk τ w∧o≤w.heap.size)∧OwnD w o 61 1 (yL I) n n (i0.flatMap mrC))∧OwnD w o 61 1 (yL G) n n (x0.flatMap mrC))∧MrOk 59 4 qvC o w (i0 ++ x0))∧QMs w (i0 ++ x0))) (fun w Q=>⟨⟨⟨⟨⟨Q.1.1.1.2.1,Q.1.1.1.1⟩,Q.1.1.2.1.1⟩,(OwnD.mono Q.2.1.1 M0.1)⟩,(MrOk.app Q.1.1.2.1.2 Q.2.1.2 M0.1 M0.2 (QG.pos v0 qO))⟩,(QMs.app Q.1.1.2.2 Q.2.2)⟩) ?_
 refine xU (fun nn ss ff=>∃ (i:Nat) (rs:List (Mr Qv)) (xs:List (Mr Qv)) (R:Nat→Nat→Int) (X:Nat→Nat→Int),ss=ofL [yB 2 false,(3,.v (.pointer (some ⟨τ.g,0,none⟩))),eS1 5 (yL I) n n,eS1 6 (yL G) n n,yJ 31 (n:Int),yJ 32 (i:Int)] []∧ff=(fun w=>(((((TOk τ w∧o≤w.heap.size)∧OwnD w o 61 1 (yL I) n n (rs.flatMap mrC))∧OwnD w o 61 1 (yL G) n n (xs.flatMap mrC))∧MrOk 59 4 qvC o w (rs ++ xs))∧QMs w (rs ++ xs)))∧(i≤n)∧(QG n n rs R)∧(QG n 2 xs X)∧(Tri n R)∧(∀ a b,a<n→b<2→(X a b).natAbs≤9)∧nn=(1+(n-i))) ((1+(n-0))) ⟨0,i0,x0,(fun a b=>if a=b then 1 else 0),(fun _ _=>0),rfl,rfl,(vL _),v0,D0,Tri.start,(fun a b _ _=>by show (0:Int).natAbs≤9;decide),rfl⟩ ?_
 rintro nn ss ff ⟨i,rs,xs,R,X,rfl,rfl,hi,q,J,hT,M,rfl⟩
 refine yY (xq 1 [yB 33 (decide ((i:Int)<(n:Int)))] [] ?_)
 refine yZ (zC ?_)
 refine yQ ((decide ((i:Int)<(n:Int)))) (fun y0=>?_) fun y0=>?_
 ·have N:i<n:=by have:=uC y0;omega
  refine zI (zA (zC (zP (yY (xq 2 [yJ 7 (i:Int)] [] ?_)))))
  refine yZ (zC (yY (xq 1 [yJ 8 0] [] ?_)))
  refine yZ (zP ?_)
  refine yC [yB 2 false,(3,.v (.pointer (some ⟨τ.g,0,none⟩))),eS1 5 (yL I) n n,eS1 6 (yL G) n n,yJ 7 (i:Int),yJ 8 ((0:Nat):Int),yJ 31 (n:Int),yJ 32 (i:Int)] [] (fun w=>(((((TOk τ w∧o≤w.heap.size)∧OwnD w o 61 1 (yL I) n n (rs.flatMap mrC))∧OwnD w o 61 1 (yL G) n n (xs.flatMap mrC))∧MrOk 59 4 qvC o w (rs ++ xs))∧QMs w (rs ++ xs))) (fun w Q=>⟨⟨⟨⟨⟨Q.1.1.1.1.1,Q.1.1.1.1.2⟩,Q.1.1.1.2⟩,Q.1.1.2⟩,Q.1.2⟩,Q.2⟩) ?_
  refine xU (fun nn ss ff=>∃ (k:Nat) (rs:List (Mr Qv)) (R:Nat→Nat→Int),ss=ofL [yB 2 false,(3,.v (.pointer (some ⟨τ.g,0,none⟩))),eS1 5 (yL I) n n,eS1 6 (yL G) n n,yJ 7 (i:Int),yJ 8 (k:Int),yJ 31 (n:Int),yJ 32 (i:Int)] []∧ff=(fun w=>(((((TOk τ w∧o≤w.heap.size)∧OwnD w o 61 1 (yL I) n n (rs.flatMap mrC))∧OwnD w o 61 1 (yL G) n n (xs.flatMap mrC))∧MrOk 59 4 qvC o w (rs ++ xs))∧QMs w (rs ++ xs)))∧(k≤i)∧(QG n n rs R)∧(Tri n R)∧nn=(1+(i-k))) ((1+(i-0))) ⟨0,rs,R,rfl,rfl,(vL _),q,hT,rfl⟩ ?_
  rintro nn ss ff ⟨k,rs,R,rfl,rfl,hk,q,hT,rfl⟩
  refine zC (yY (xq 3 [yB 37 (decide ((k:Int)<(i:Int)))] [] ?_))
  refine xe (zA ?_)
  refine yQ ((decide ((k:Int)<(i:Int)))) (fun z0=>?_) fun z0=>?_
  ·have P0:k<i:=by have:=uC z0;omega
   have Q0:k<n:=qO
   refine zI (zA (zC (zP ?_)))
   refine SXc.know (p:=∀ y:Mr Qv,y∈rs ++ xs→y.A≠none) (fun w S Q=>MrOk.ne Q.1.2 (Zlb q J qO qD)) fun N0=>?_
   refine yO 8 zL ?_
   refine xqg 2 [eS1 40 (yL I) n n,yJ 41 (i:Int)] ?_
   refine xqj 42 (atA (yL I) (i*1)) (fun w Q=>xJ (t:=33) (e:=61) (sz:=1) (x:=.tmp 40) (ix:=.tmp 41) (len:=n) (cap:=n) (i:=i) qS N) ?_
   obtain⟨x15,T⟩:∃ x,rs[i]! = x:=⟨_,rfl⟩
   have V:(rs ++ xs)[i]! = x15:=by rw[←T];exact Zr0 (q.1.symm ▸ N)
   have O0:x15.A≠none:=N0 x15 (by rw[←V];exact xM (by rw[uK,q.1,J.1];omega))
   refine xqj 43 (.slice x15.A n x15.cap) (fun w Q=>dP (t:=61) (x:=.tmp 42) (j:=i) Q.1.1.1.2 q N T) ?_
   refine xqg 2 [yJ 44 (k:Int),(45,.v (.pointer (some ⟨τ.g,0,none⟩)))] ?_
   refine Zfh 46 (b:=τ.g) (j:=0) (c:=.slice τ.A τ.l τ.c) 22 [.pointer (some ⟨τ.g,0,none⟩), yI 3] (fun x:{x:ShQ×Int // (fun x => -3≤x.2∧x.2≤3) x}=>(fun x=>jJ x.1) x.1) (fun w=>((((o≤w.heap.size∧OwnD w o 61 1 (yL I) n n (rs.flatMap mrC))∧OwnD w o 61 1 (yL G) n n (xs.flatMap mrC))∧MrOk 59 4 qvC o w (rs ++ xs))∧QMs w (rs ++ xs))) (fun x w=>TOk τ w∧(fun x w=>zS w (jJ x.1) ((x.2:Int):Rat)) x.1 w) (fun w Q=>TOk.cell Q.1.1.1.1.1) (Or.inl (TOld.new hO)) (fun w S Q=>(Zc4 τ w0 _ hO S Q.1.1.1.1.1 3 qD qD).mono (fun _ _ h=>Zd5 h (fun x K h=>h.boxT K))) (fun w w2 S Q K=>⟨⟨⟨⟨uB Q.1.1.1.1.2 K.size,OwnD.tape Q.1.1.1.2 K O⟩,OwnD.tape Q.1.1.2 K O⟩,MrOk.tape Q.1.2 K O⟩,QMs.tape Q.2 Q.1.1.1.1.1 K⟩) (fun x w Q=>⟨⟨⟨⟨⟨Q.2.1,Q.1.1.1.1.1⟩,Q.1.1.1.1.2⟩,Q.1.1.1.2⟩,Q.1.1.2⟩,Q.1.2⟩) fun xx=>?_
   obtain⟨⟨⟨j0,k0,l0,n0,o0,p0,q0,r0⟩,t0⟩,A0⟩:=xx
   dsimp only at A0
   refine xf 0 [yB 2 false,(3,.v (.pointer (some ⟨τ.g,0,none⟩))),eS1 5 (yL I) n n,eS1 6 (yL G) n n,yJ 7 (i:Int),yJ 8 (k:Int),yJ 31 (n:Int),yJ 32 (i:Int),eS1 43 x15.A n x15.cap,yJ 44 (k:Int),eR4 46 j0 k0 l0 n0 o0 p0 q0 r0] [] ?_
   refine xqj 47 (atA x15.A (k*4)) (fun w Q=>xJ (t:=61) (e:=59) (sz:=4) (x:=.tmp 43) (ix:=.tmp 44) (len:=n) (cap:=x15.cap) (i:=k) O0 Q0) ?_
   refine xz ?_
   refine ZaT (t:=59) (x:=.tmp 47) (y:=.tmp 46) (e:=59) (k:=4) (enc:=qvC) (a:=i) (j:=k) (ys:=(rs ++ xs)) (r:=x15) o (⟨(j0,k0,l0,n0,o0,p0,q0,r0),((t0:Int):Rat)⟩:Qv) (.agg #[.bool j0,.slice k0 l0 n0,.bool o0,.slice p0 q0 r0]) (fun w=>(((((o≤w.heap.size∧OwnD w o 61 1 (yL I) n n (rs.flatMap mrC))∧OwnD w o 61 1 (yL G) n n (xs.flatMap mrC))∧QMs w (rs ++ xs))∧TOk τ w)∧zS w (.agg #[.bool j0,.slice k0 l0 n0,.bool o0,.slice p0 q0 r0]) (((t0:Int):Rat)))) jM qD (fun w Q=>Q.1.1.2) (by rw[uK,q.1,J.1];omega) V (QG.cl q N T Q0) (fun _ h=>Or.inl (uB K0 h)) (by simp[qvC,Value.oneCell']) (Zbb _) rfl (fun w w' Q K=>⟨⟨⟨⟨⟨uB Q.1.1.1.1.1 K.size,OwnD.apart Q.1.1.1.1.2 (show OwnD _ o 59 4 x15.A x15.cap x15.xs.length (x15.xs.flatMap qvC) by rw[←V];exact MrOk.at Q.1.1.2 (by rw[uK,q.1,J.1];omega)) qD K⟩,OwnD.apart Q.1.1.1.2 (show OwnD _ o 59 4 x15.A x15.cap x15.xs.length (x15.xs.flatMap qvC) by rw[←V];exact MrOk.at Q.1.1.2 (by rw[uK,q.1,J.1];omega)) qD K⟩,QMs.row Q.1.2 (show OwnD _ o 59 4 x15.A x15.cap x15.xs.length (x15.xs.flatMap qvC) by rw[←V];exact MrOk.at Q.1.1.2 (by rw[uK,q.1,J.1];omega)) K⟩,TOk.row Q.2.1 (show OwnD _ o 59 4 x15.A x15.cap x15.xs.length (x15.xs.flatMap qvC) by rw[←V];exact MrOk.at Q.1.1.2 (by rw[uK,q.1,J.1];omega)) J0 K⟩,zS.rowUp Q.2.2 (show OwnD _ o 59 4 x15.A x15.cap x15.xs.length (x15.xs.flatMap qvC) by rw[←V];exact MrOk.at Q.1.1.2 (by rw[uK,q.1,J.1];omega)) K⟩) ?_
   refine xr 0 [yB 2 false,(3,.v (.pointer (some ⟨τ.g,0,none⟩))),eS1 5 (yL I) n n,eS1 6 (yL G) n n,yJ 7 (i:Int),yJ 8 (k:Int),yJ 31 (n:Int),yJ 32 (i:Int)] [] ?_
   refine xe (xS (zA (zB (xq 2 [yJ 39 (IntKind.i64.wrap ((k:Int)+1))] [] ?_))))
   rw[yW ((k:Int)+1) (((k+1:Nat):Int)) qO]
   refine xq 1 [yJ 8 ((k+1:Nat):Int)] [] ?_
   refine xe ?_
   refine SXq.weak [yB 2 false,(3,.v (.pointer (some ⟨τ.g,0,none⟩))),eS1 5 (yL I) n n,eS1 6 (yL G) n n,yJ 7 (i:Int),yJ 8 (((k+1):Nat):Int),yJ 31 (n:Int),yJ 32 (i:Int)] [] (Ψ:=fun w=>(((((TOk τ w∧o≤w.heap.size)∧OwnD w o 61 1 (yL I) n n ((rs.set i ⟨x15.A,x15.cap,x15.xs.set k (⟨(j0,k0,l0,n0,o0,p0,q0,r0),((t0:Int):Rat)⟩:Qv)⟩).flatMap mrC))∧OwnD w o 61 1 (yL G) n n (xs.flatMap mrC))∧MrOk 59 4 qvC o w ((rs.set i ⟨x15.A,x15.cap,x15.xs.set k (⟨(j0,k0,l0,n0,o0,p0,q0,r0),((t0:Int):Rat)⟩:Qv)⟩) ++ xs))∧QMs w ((rs.set i ⟨x15.A,x15.cap,x15.xs.set k (⟨(j0,k0,l0,n0,o0,p0,q0,r0),((t0:Int):Rat)⟩:Qv)⟩) ++ xs))) (zV.of qK) qK (fun w Q=>⟨⟨⟨⟨⟨Q.1.1.2,Q.1.1.1.1.1.1⟩,(by rw[dO (q.1.symm ▸ N) T (vT ..)];exact Q.1.1.1.1.1.2)⟩,Q.1.1.1.1.2⟩,(by have h:=Q.2;rw[Zpm (q.1.symm ▸ N)] at h;exact h)⟩,(QMs.app (QMs.upd (QMs.left Q.1.1.1.2) (QsOk.set ((QMs.left Q.1.1.1.2) _ (QG.mem q N T)) Q.1.2)) (QMs.right Q.1.1.1.2))⟩) ?_
   exact xH ((1+(i-(k+1)))) qO ⟨(k+1),(rs.set i ⟨x15.A,x15.cap,x15.xs.set k (⟨(j0,k0,l0,n0,o0,p0,q0,r0),((t0:Int):Rat)⟩:Qv)⟩),(updZ R i k t0),rfl,rfl,P0,(QG.set q N T rfl),(Tri.upd hT P0 A0.1 A0.2),rfl⟩
  have y1:k=i:=by have:=uD z0;omega
  refine xO (zG (zG (xW (zA ?_))))
  refine SXc.know (p:=∀ y:Mr Qv,y∈rs ++ xs→y.A≠none) (fun w S Q=>MrOk.ne Q.1.2 (Zlb q J qO qD)) fun N0=>?_
  refine yO 12 zL ?_
  refine xqg 2 [eS1 48 (yL G) n n,yJ 49 (i:Int)] ?_
  refine xqj 50 (atA (yL G) (i*1)) (fun w Q=>xJ (t:=33) (e:=61) (sz:=1) (x:=.tmp 48) (ix:=.tmp 49) (len:=n) (cap:=n) (i:=i) qS N) ?_
  obtain⟨x18,P⟩:∃ x,xs[i]! = x:=⟨_,rfl⟩
  have U:(rs ++ xs)[n+i]! = x18:=by rw[←P];exact Zr1 q.1
  have B0:x18.A≠none:=N0 x18 (by rw[←U];exact xM (by rw[uK,q.1,J.1];omega))
  refine xqj 51 (.slice x18.A 2 x18.cap) (fun w Q=>dP (t:=61) (x:=.tmp 50) (j:=i) Q.1.1.2 J N P) ?_
  refine xqg 2 [eS1 52 (yL G) n n,yJ 53 (i:Int)] ?_
  refine xqj 54 (atA (yL G) (i*1)) (fun w Q=>xJ (t:=33) (e:=61) (sz:=1) (x:=.tmp 52) (ix:=.tmp 53) (len:=n) (cap:=n) (i:=i) qS N) ?_
  refine xqj 55 (.slice x18.A 2 x18.cap) (fun w Q=>dP (t:=61) (x:=.tmp 54) (j:=i) Q.1.1.2 J N P) ?_
  refine xqg 1 [(56,.v (.pointer (some ⟨τ.g,0,none⟩)))] ?_
  refine Zfh 57 (b:=τ.g) (j:=0) (c:=.slice τ.A τ.l τ.c) 22 [.pointer (some ⟨τ.g,0,none⟩), yI 9] (fun x:{x:ShQ×Int // (fun x => -9≤x.2∧x.2≤9) x}=>(fun x=>jJ x.1) x.1) (fun w=>((((o≤w.heap.size∧OwnD w o 61 1 (yL I) n n (rs.flatMap mrC))∧OwnD w o 61 1 (yL G) n n (xs.flatMap mrC))∧MrOk 59 4 qvC o w (rs ++ xs))∧QMs w (rs ++ xs))) (fun x w=>TOk τ w∧(fun x w=>zS w (jJ x.1) ((x.2:Int):Rat)) x.1 w) (fun w Q=>TOk.cell Q.1.1.1.1.1) (Or.inl (TOld.new hO)) (fun w S Q=>(Zc4 τ w0 _ hO S Q.1.1.1.1.1 9 qD qD).mono (fun _ _ h=>Zd5 h (fun x K h=>h.boxT K))) (fun w w2 S Q K=>⟨⟨⟨⟨uB Q.1.1.1.1.2 K.size,OwnD.tape Q.1.1.1.2 K O⟩,OwnD.tape Q.1.1.2 K O⟩,MrOk.tape Q.1.2 K O⟩,QMs.tape Q.2 Q.1.1.1.1.1 K⟩) (fun x w Q=>⟨⟨⟨⟨⟨Q.2.1,Q.1.1.1.1.1⟩,Q.1.1.1.1.2⟩,Q.1.1.1.2⟩,Q.1.1.2⟩,Q.1.2⟩) fun xx=>?_
  obtain⟨⟨⟨s,u,z,B,C,D,E,F⟩,H⟩,R0⟩:=xx
  dsimp only at R0
  refine xf 1 [yB 2 false,(3,.v (.pointer (some ⟨τ.g,0,none⟩))),eS1 5 (yL I) n n,eS1 6 (yL G) n n,yJ 31 (n:Int),yJ 32 (i:Int),eS1 51 x18.A 2 x18.cap,eS1 55 x18.A 2 x18.cap,eR4 57 s u z B C D E F,(58,.v (.pointer (some ⟨τ.g,0,none⟩)))] [] ?_
  refine Zfh 59 (b:=τ.g) (j:=0) (c:=.slice τ.A τ.l τ.c) 22 [.pointer (some ⟨τ.g,0,none⟩), yI 9] (fun x:{x:ShQ×Int // (fun x => -9≤x.2∧x.2≤9) x}=>(fun x=>jJ x.1) x.1) (fun w=>(((((o≤w.heap.size∧OwnD w o 61 1 (yL I) n n (rs.flatMap mrC))∧OwnD w o 61 1 (yL G) n n (xs.flatMap mrC))∧MrOk 59 4 qvC o w (rs ++ xs))∧QMs w (rs ++ xs))∧zS w (.agg #[.bool s,.slice u z B,.bool C,.slice D E F]) (((H:Int):Rat)))) (fun x w=>TOk τ w∧(fun x w=>zS w (jJ x.1) ((x.2:Int):Rat)) x.1 w) (fun w Q=>TOk.cell Q.2.1) (Or.inl (TOld.new hO)) (fun w S Q=>(Zc4 τ w0 _ hO S Q.2.1 9 qD qD).mono (fun _ _ h=>Zd5 h (fun x K h=>h.boxT K))) (fun w w2 S Q K=>⟨⟨⟨⟨⟨uB Q.1.1.1.1.1 K.size,OwnD.tape Q.1.1.1.1.2 K O⟩,OwnD.tape Q.1.1.1.2 K O⟩,MrOk.tape Q.1.1.2 K O⟩,QMs.tape Q.1.2 Q.2.1 K⟩,zS.tape Q.2.2 Q.2.1 K⟩) (fun x w Q=>⟨⟨⟨⟨⟨Q.2.1,Q.1.1.1.1.1.1⟩,Q.1.1.1.1.1.2⟩,Q.1.1.1.1.2⟩,Q.1.1.1.2⟩,Q.1.1.2⟩) fun xx=>?_
  obtain⟨⟨⟨a0,b0,c0,d0,e0,f0,g0,h0⟩,s0⟩,S0⟩:=xx
  dsimp only at S0
  refine xf 0 [yB 2 false,(3,.v (.pointer (some ⟨τ.g,0,none⟩))),eS1 5 (yL I) n n,eS1 6 (yL G) n n,yJ 31 (n:Int),yJ 32 (i:Int),eS1 51 x18.A 2 x18.cap,eS1 55 x18.A 2 x18.cap,eR4 57 s u z B C D E F,eR4 59 a0 b0 c0 d0 e0 f0 g0 h0] [] ?_
  refine xz ?_
  refine xqk 60 (atA x18.A (0*4)) (fun w S Q=>xJ (t:=61) (e:=59) (sz:=4) (x:=.tmp 51) (ix:=(Operand.const (Value.int IntKind.i64 0))) (len:=2) (cap:=x18.cap) (i:=0) B0 qD) ?_
  refine ZaT (t:=59) (x:=.tmp 60) (y:=.tmp 57) (e:=59) (k:=4) (enc:=qvC) (a:=(n+i)) (j:=0) (ys:=(rs ++ xs)) (r:=x18) o (⟨(s,u,z,B,C,D,E,F),((H:Int):Rat)⟩:Qv) (.agg #[.bool s,.slice u z B,.bool C,.slice D E F]) (fun w=>((((((o≤w.heap.size∧OwnD w o 61 1 (yL I) n n (rs.flatMap mrC))∧OwnD w o 61 1 (yL G) n n (xs.flatMap mrC))∧QMs w (rs ++ xs))∧zS w (.agg #[.bool s,.slice u z B,.bool C,.slice D E F]) (((H:Int):Rat)))∧TOk τ w)∧zS w (.agg #[.bool a0,.slice b0 c0 d0,.bool e0,.slice f0 g0 h0]) (((s0:Int):Rat)))) jM qD (fun w Q=>Q.1.1.1.2) (by rw[uK,q.1,J.1];omega) U (QG.cl J N P qD) (fun _ h=>Or.inl (uB K0 h)) (by simp[qvC,Value.oneCell']) (Zbb _) rfl (fun w w' Q K=>⟨⟨⟨⟨⟨⟨uB Q.1.1.1.1.1.1 K.size,OwnD.apart Q.1.1.1.1.1.2 (show OwnD _ o 59 4 x18.A x18.cap x18.xs.length (x18.xs.flatMap qvC) by rw[←U];exact MrOk.at Q.1.1.1.2 (by rw[uK,q.1,J.1];omega)) qD K⟩,OwnD.apart Q.1.1.1.1.2 (show OwnD _ o 59 4 x18.A x18.cap x18.xs.length (x18.xs.flatMap qvC) by rw[←U];exact MrOk.at Q.1.1.1.2 (by rw[uK,q.1,J.1];omega)) qD K⟩,QMs.row Q.1.1.2 (show OwnD _ o 59 4 x18.A x18.cap x18.xs.length (x18.xs.flatMap qvC) by rw[←U];exact MrOk.at Q.1.1.1.2 (by rw[uK,q.1,J.1];omega)) K⟩,zS.rowUp Q.1.2 (show OwnD _ o 59 4 x18.A x18.cap x18.xs.length (x18.xs.flatMap qvC) by rw[←U];exact MrOk.at Q.1.1.1.2 (by rw[uK,q.1,J.1];omega)) K⟩,TOk.row Q.2.1 (show OwnD _ o 59 4 x18.A x18.cap x18.xs.length (x18.xs.flatMap qvC) by rw[←U];exact MrOk.at Q.1.1.1.2 (by rw[uK,q.1,J.1];omega)) J0 K⟩,zS.rowUp Q.2.2 (show OwnD _ o 59 4 x18.A x18.cap x18.xs.length (x18.xs.flatMap qvC) by rw[←U];exact MrOk.at Q.1.1.1.2 (by rw[uK,q.1,J.1];omega)) K⟩) ?_
  have W:((rs ++ xs).set (n+i) ⟨x18.A,x18.cap,x18.xs.set 0 (⟨(s,u,z,B,C,D,E,F),((H:Int):Rat)⟩:Qv)⟩)[n+i]! = (⟨x18.A,x18.cap,x18.xs.set 0 (⟨(s,u,z,B,C,D,E,F),((H:Int):Rat)⟩:Qv)⟩:Mr Qv):=by rw[setg (by rw[uK,q.1,J.1];omega),uS rfl]
  refine xr 0 [yB 2 false,(3,.v (.pointer (some ⟨τ.g,0,none⟩))),eS1 5 (yL I) n n,eS1 6 (yL G) n n,yJ 31 (n:Int),yJ 32 (i:Int),eS1 55 x18.A 2 x18.cap,eR4 59 a0 b0 c0 d0 e0 f0 g0 h0] [] ?_
  refine xqk 61 (atA x18.A (1*4)) (fun w S Q=>xJ (t:=61) (e:=59) (sz:=4) (x:=.tmp 55) (ix:=(Operand.const (Value.int IntKind.i64 1))) (len:=2) (cap:=x18.cap) (i:=1) B0 qD) ?_
  refine ZaT (t:=59) (x:=.tmp 61) (y:=.tmp 59) (e:=59) (k:=4) (enc:=qvC) (a:=(n+i)) (j:=1) (ys:=((rs ++ xs).set (n+i) ⟨x18.A,x18.cap,x18.xs.set 0 (⟨(s,u,z,B,C,D,E,F),((H:Int):Rat)⟩:Qv)⟩)) (r:=(⟨x18.A,x18.cap,x18.xs.set 0 (⟨(s,u,z,B,C,D,E,F),((H:Int):Rat)⟩:Qv)⟩:Mr Qv)) o (⟨(a0,b0,c0,d0,e0,f0,g0,h0),((s0:Int):Rat)⟩:Qv) (.agg #[.bool a0,.slice b0 c0 d0,.bool e0,.slice f0 g0 h0]) (fun w=>((((((o≤w.heap.size∧OwnD w o 61 1 (yL I) n n (rs.flatMap mrC))∧OwnD w o 61 1 (yL G) n n (xs.flatMap mrC))∧QMs w (rs ++ xs))∧zS w (.agg #[.bool s,.slice u z B,.bool C,.slice D E F]) (((H:Int):Rat)))∧TOk τ w)∧zS w (.agg #[.bool a0,.slice b0 c0 d0,.bool e0,.slice f0 g0 h0]) (((s0:Int):Rat)))) jM qD (fun w Q=>Q.2) (by rw[vT,uK,q.1,J.1];omega) W (by show _<((x18.xs.set 0 (⟨(s,u,z,B,C,D,E,F),((H:Int):Rat)⟩:Qv))).length;rw[vT];exact (QG.cl J N P qD)) (fun _ h=>Or.inl (uB K0 h)) (by simp[qvC,Value.oneCell']) (Zbb _) rfl (fun w w' Q K=>⟨⟨⟨⟨⟨⟨uB Q.1.1.1.1.1.1.1 K.size,OwnD.apart Q.1.1.1.1.1.1.2 (show OwnD _ o 59 4 ((⟨x18.A,x18.cap,x18.xs.set 0 (⟨(s,u,z,B,C,D,E,F),((H:Int):Rat)⟩:Qv)⟩:Mr Qv)).A ((⟨x18.A,x18.cap,x18.xs.set 0 (⟨(s,u,z,B,C,D,E,F),((H:Int):Rat)⟩:Qv)⟩:Mr Qv)).cap ((⟨x18.A,x18.cap,x18.xs.set 0 (⟨(s,u,z,B,C,D,E,F),((H:Int):Rat)⟩:Qv)⟩:Mr Qv)).xs.length (((⟨x18.A,x18.cap,x18.xs.set 0 (⟨(s,u,z,B,C,D,E,F),((H:Int):Rat)⟩:Qv)⟩:Mr Qv)).xs.flatMap qvC) by rw[←W];exact MrOk.at Q.2 (by rw[vT,uK,q.1,J.1];omega)) qD K⟩,OwnD.apart Q.1.1.1.1.1.2 (show OwnD _ o 59 4 ((⟨x18.A,x18.cap,x18.xs.set 0 (⟨(s,u,z,B,C,D,E,F),((H:Int):Rat)⟩:Qv)⟩:Mr Qv)).A ((⟨x18.A,x18.cap,x18.xs.set 0 (⟨(s,u,z,B,C,D,E,F),((H:Int):Rat)⟩:Qv)⟩:Mr Qv)).cap ((⟨x18.A,x18.cap,x18.xs.set 0 (⟨(s,u,z,B,C,D,E,F),((H:Int):Rat)⟩:Qv)⟩:Mr Qv)).xs.length (((⟨x18.A,x18.cap,x18.xs.set 0 (⟨(s,u,z,B,C,D,E,F),((H:Int):Rat)⟩:Qv)⟩:Mr Qv)).xs.flatMap qvC) by rw[←W];exact MrOk.at Q.2 (by rw[vT,uK,q.1,J.1];omega)) qD K⟩,QMs.row Q.1.1.1.1.2 (show OwnD _ o 59 4 ((⟨x18.A,x18.cap,x18.xs.set 0 (⟨(s,u,z,B,C,D,E,F),((H:Int):Rat)⟩:Qv)⟩:Mr Qv)).A ((⟨x18.A,x18.cap,x18.xs.set 0 (⟨(s,u,z,B,C,D,E,F),((H:Int):Rat)⟩:Qv)⟩:Mr Qv)).cap ((⟨x18.A,x18.cap,x18.xs.set 0 (⟨(s,u,z,B,C,D,E,F),((H:Int):Rat)⟩:Qv)⟩:Mr Qv)).xs.length (((⟨x18.A,x18.cap,x18.xs.set 0 (⟨(s,u,z,B,C,D,E,F),((H:Int):Rat)⟩:Qv)⟩:Mr Qv)).xs.flatMap qvC) by rw[←W];exact MrOk.at Q.2 (by rw[vT,uK,q.1,J.1];omega)) K⟩,zS.rowUp Q.1.1.1.2 (show OwnD _ o 59 4 ((⟨x18.A,x18.cap,x18.xs.set 0 (⟨(s,u,z,B,C,D,E,F),((H:Int):Rat)⟩:Qv)⟩:Mr Qv)).A ((⟨x18.A,x18.cap,x18.xs.set 0 (⟨(s,u,z,B,C,D,E,F),((H:Int):Rat)⟩:Qv)⟩:Mr Qv)).cap ((⟨x18.A,x18.cap,x18.xs.set 0 (⟨(s,u,z,B,C,D,E,F),((H:Int):Rat)⟩:Qv)⟩:Mr Qv)).xs.length (((⟨x18.A,x18.cap,x18.xs.set 0 (⟨(s,u,z,B,C,D,E,F),((H:Int):Rat)⟩:Qv)⟩:Mr Qv)).xs.flatMap qvC) by rw[←W];exact MrOk.at Q.2 (by rw[vT,uK,q.1,J.1];omega)) K⟩,TOk.row Q.1.1.2 (show OwnD _ o 59 4 ((⟨x18.A,x18.cap,x18.xs.set 0 (⟨(s,u,z,B,C,D,E,F),((H:Int):Rat)⟩:Qv)⟩:Mr Qv)).A ((⟨x18.A,x18.cap,x18.xs.set 0 (⟨(s,u,z,B,C,D,E,F),((H:Int):Rat)⟩:Qv)⟩:Mr Qv)).cap ((⟨x18.A,x18.cap,x18.xs.set 0 (⟨(s,u,z,B,C,D,E,F),((H:Int):Rat)⟩:Qv)⟩:Mr Qv)).xs.length (((⟨x18.A,x18.cap,x18.xs.set 0 (⟨(s,u,z,B,C,D,E,F),((H:Int):Rat)⟩:Qv)⟩:Mr Qv)).xs.flatMap qvC) by rw[←W];exact MrOk.at Q.2 (by rw[vT,uK,q.1,J.1];omega)) J0 K⟩,zS.rowUp Q.1.2 (show OwnD _ o 59 4 ((⟨x18.A,x18.cap,x18.xs.set 0 (⟨(s,u,z,B,C,D,E,F),((H:Int):Rat)⟩:Qv)⟩:Mr Qv)).A ((⟨x18.A,x18.cap,x18.xs.set 0 (⟨(s,u,z,B,C,D,E,F),((H:Int):Rat)⟩:Qv)⟩:Mr Qv)).cap ((⟨x18.A,x18.cap,x18.xs.set 0 (⟨(s,u,z,B,C,D,E,F),((H:Int):Rat)⟩:Qv)⟩:Mr Qv)).xs.length (((⟨x18.A,x18.cap,x18.xs.set 0 (⟨(s,u,z,B,C,D,E,F),((H:Int):Rat)⟩:Qv)⟩:Mr Qv)).xs.flatMap qvC) by rw[←W];exact MrOk.at Q.2 (by rw[vT,uK,q.1,J.1];omega)) K⟩) ?_
  refine xr 0 [yB 2 false,(3,.v (.pointer (some ⟨τ.g,0,none⟩))),eS1 5 (yL I) n n,eS1 6 (yL G) n n,yJ 31 (n:Int),yJ 32 (i:Int)] [] ?_
  refine xe (xS (zA (zB (xq 1 [yJ 62 (IntKind.i64.wrap ((i:Int)+1))] [] ?_))))
  rw[yW ((i:Int)+1) (((i+1:Nat):Int)) qO]
  refine xq 1 [yJ 32 ((i+1:Nat):Int)] [] ?_
  refine xe ?_
  refine SXq.weak [yB 2 false,(3,.v (.pointer (some ⟨τ.g,0,none⟩))),eS1 5 (yL I) n n,eS1 6 (yL G) n n,yJ 31 (n:Int),yJ 32 (((i+1):Nat):Int)] [] (Ψ:=fun w=>(((((TOk τ w∧o≤w.heap.size)∧OwnD w o 61 1 (yL I) n n (rs.flatMap mrC))∧OwnD w o 61 1 (yL G) n n ((xs.set i ⟨x18.A,x18.cap,(x18.xs.set 0 (⟨(s,u,z,B,C,D,E,F),((H:Int):Rat)⟩:Qv)).set 1 (⟨(a0,b0,c0,d0,e0,f0,g0,h0),((s0:Int):Rat)⟩:Qv)⟩).flatMap mrC))∧MrOk 59 4 qvC o w (rs ++ (xs.set i ⟨x18.A,x18.cap,(x18.xs.set 0 (⟨(s,u,z,B,C,D,E,F),((H:Int):Rat)⟩:Qv)).set 1 (⟨(a0,b0,c0,d0,e0,f0,g0,h0),((s0:Int):Rat)⟩:Qv)⟩)))∧QMs w (rs ++ (xs.set i ⟨x18.A,x18.cap,(x18.xs.set 0 (⟨(s,u,z,B,C,D,E,F),((H:Int):Rat)⟩:Qv)).set 1 (⟨(a0,b0,c0,d0,e0,f0,g0,h0),((s0:Int):Rat)⟩:Qv)⟩)))) (zV.of qK) qK (fun w Q=>⟨⟨⟨⟨⟨Q.1.1.2,Q.1.1.1.1.1.1.1⟩,Q.1.1.1.1.1.1.2⟩,(by rw[dO (J.1.symm ▸ N) P (by rw[vT,vT])];exact Q.1.1.1.1.1.2)⟩,(by have h:=Q.2;rw[nK,Zpn q.1] at h;exact h)⟩,(QMs.app (QMs.left Q.1.1.1.1.2) (QMs.upd (QMs.right Q.1.1.1.1.2) (QsOk.set (QsOk.set ((QMs.right Q.1.1.1.1.2) _ (QG.mem J N P)) Q.1.1.1.2) Q.1.2)))⟩) ?_
  exact xH ((1+(n-(i+1)))) qO ⟨(i+1),rs,(xs.set i ⟨x18.A,x18.cap,(x18.xs.set 0 (⟨(s,u,z,B,C,D,E,F),((H:Int):Rat)⟩:Qv)).set 1 (⟨(a0,b0,c0,d0,e0,f0,g0,h0),((s0:Int):Rat)⟩:Qv)⟩),R,(updZ (updZ X i 0 H) i 1 s0),rfl,rfl,N,q,(QG.set2 J N P rfl rfl),hT,(Zn5 (Zn5 M qO) qO),rfl⟩
 have z1:i=n:=by have:=uD y0;omega
 refine xO (zG (zG (xW (zA (yY (xq 1 [eS1 64 (yL I) n n] [] ?_))))))
 refine xqc 16 [.slice (yL I) n n] 65 (fun x:Option Addr×Nat=>.agg #[yI (n:Int), yI (n:Int),.slice x.1 (n*n) x.2]) _ (fun w S Q=>(ZbP o I n n rs R _ Q.1.1.1.2 (MrOk.left Q.1.2) (QMs.left Q.2) q qO qO qO qO (Zbd hT)).mono (fun _ _ h=>Zew (m0:=o) Q.1.1.1.1.2 h)) fun⟨T0,U0⟩=>?_
 obtain⟨fu,u0⟩:∃ l,l=(xF n n (fun a b=>cz (R a b))).map ftW:=⟨_,rfl⟩
 have V0:fu.length=n*n:=by rw[u0];exact Zgq
 have W0:∀ f∈fu,Gd f:=by rw[u0];exact Zia (Zbd hT)
 refine xqc 10 [.agg #[yI (n:Int), yI (n:Int),.slice T0 (n*n) U0], yI 64] 66 (fun b:{b:Nat // o≤b}=>.tuple #[.agg #[yI (n:Int), yI (n:Int),.slice (yL b.1) fu.length fu.length], yI 0]) _ (fun w S Q=>((show Calls _ _ _ _ (iE (fun v=>.tuple #[v, yI 0]) n n fu _) by rw[u0];exact ZaH o n n T0 U0 R _ (hg.ext S) Q.2 qO qO qO qO (Zbd hT))).mono (fun _ _ h=>jX (sh:=fun v=>.tuple #[v, yI 0]) (m0:=o) Q.1.1.1.1.1.2 h)) fun⟨ou,A1⟩=>?_
 refine xq 6 [(9,.p 9 0),yJ 10 0] [(9,29,[.v (yI (n:Int)),.v (yI (n:Int)),.v (.slice (yL ou) fu.length fu.length)])] ?_
 refine yZ (yY (xq 2 [eS1 70 (yL I) n n,eS1 71 (yL G) n n] [] ?_))
 refine xqc 23 [.slice (yL I) n n,.slice (yL G) n n] 72 (fun x:{x:Nat × List (Mr Qv) // QG n 2 x.2 (wO R X n)∧o≤x.1}=>.slice (yL x.1.1) n n) _ (fun w S Q=>(ZhL (yL I) (yL G) n n n n 2 rs xs R X _ (QIn.of Q.1.1.1.1.1.2 (MrOk.left Q.1.1.1.2) (QMs.left Q.1.1.2)) (QIn.of Q.1.1.1.1.2 (MrOk.right Q.1.1.1.2) (QMs.right Q.1.1.2)) q J qO qO qO qD (fun a b ha hb=>uB (hT.le a b ha hb) qD) (fun a b ha hb=>uB (M a b ha hb) qD)).mono (fun _ _ h=>Zao (m0:=o) Q.1.1.1.1.1.1.2 h)) fun xx=>?_
 obtain⟨⟨X0,Y0⟩,E0,o1⟩:=xx
 refine xqc 16 [.slice (yL X0) n n] 73 (fun x:Option Addr×Nat=>.agg #[yI (n:Int), yI ((2:Nat):Int),.slice x.1 (n*2) x.2]) _ (fun w S Q=>(ZbP o X0 n 2 Y0 (wO R X n) _ Q.2.1.1 Q.2.1.2 Q.2.2 E0 qO qO qO qO (Zgr hT M Y)).mono (fun _ _ h=>Zew (m0:=o) Q.1.1.1.1.1.1.1.2 h)) fun⟨Z0,a1⟩=>?_
 obtain⟨fp,F0⟩:∃ l,l=(xF n 2 (fun a b=>cz ((wO R X n) a b))).map ftW:=⟨_,rfl⟩
 have p1:fp.length=n*2:=by rw[F0];exact Zgq
 have q1:∀ f∈fp,Gd f:=by rw[F0];exact Zia (Zgr hT M Y)
 refine xqc 10 [.agg #[yI (n:Int), yI ((2:Nat):Int),.slice Z0 (n*2) a1], yI 64] 74 (fun b:{b:Nat // o≤b}=>.tuple #[.agg #[yI (n:Int), yI ((2:Nat):Int),.slice (yL b.1) fp.length fp.length], yI 0]) _ (fun w S Q=>((show Calls _ _ _ _ (iE (fun v=>.tuple #[v, yI 0]) n 2 fp _) by rw[F0];exact ZaH o n 2 Z0 a1 (wO R X n) _ (hg.ext S) Q.2 qO qO qO qO (Zgr hT M Y))).mono (fun _ _ h=>jX (sh:=fun v=>.tuple #[v, yI 0]) (m0:=o) Q.1.1.1.1.1.1.1.1.2 h)) fun⟨op,B1⟩=>?_
 refine xq 6 [(11,.p 11 0),yJ 12 0] [(11,29,[.v (yI (n:Int)),.v (yI ((2:Nat):Int)),.v (.slice (yL op) fp.length fp.length)])] ?_
 refine yZ (yY (xq 1 [eS1 78 (yL I) n n] [] ?_))
 refine xqc 24 [.slice (yL I) n n] 79 (fun x:{x:Nat × List (Mr Qv) // QG n n x.2 (fun a b=>R b a)∧o≤x.1}=>.slice (yL x.1.1) n n) _ (fun w S Q=>(Zpj (yL I) n n n rs R _ (QIn.of Q.1.1.1.1.1.1.1.1.2 (MrOk.left Q.1.1.1.1.1.1.2) (QMs.left Q.1.1.1.1.1.2)) q qO qO qO).mono (fun _ _ h=>Zao (m0:=o) Q.1.1.1.1.1.1.1.1.1.2 h)) fun xx=>?_
 obtain⟨⟨b1,c1⟩,G0,r1⟩:=xx
 refine xq 1 [eS1 80 (yL G) n n] [] ?_
 refine xqc 23 [.slice (yL b1) n n,.slice (yL G) n n] 81 (fun x:{x:Nat × List (Mr Qv) // QG n 2 x.2 (wO (fun a b=>R b a) X n)∧o≤x.1}=>.slice (yL x.1.1) n n) _ (fun w S Q=>(ZhL (yL b1) (yL G) n n n n 2 c1 xs (fun a b=>R b a) X _ (QIn.of Q.2.1.1 Q.2.1.2 Q.2.2) (QIn.of Q.1.1.1.1.1.1.1.1.2 (MrOk.right Q.1.1.1.1.1.1.1.2) (QMs.right Q.1.1.1.1.1.1.2)) G0 J qO qO qO qD (fun a b ha hb=>uB (hT.le b a hb ha) qD) (fun a b ha hb=>uB (M a b ha hb) qD)).mono (fun _ _ h=>Zao (m0:=o) Q.1.1.1.1.1.1.1.1.1.1.2 h)) fun xx=>?_
 obtain⟨⟨d1,e1⟩,H0,s1⟩:=xx
 refine xqc 16 [.slice (yL d1) n n] 82 (fun x:Option Addr×Nat=>.agg #[yI (n:Int), yI ((2:Nat):Int),.slice x.1 (n*2) x.2]) _ (fun w S Q=>(ZbP o d1 n 2 e1 (wO (fun a b=>R b a) X n) _ Q.2.1.1 Q.2.1.2 Q.2.2 H0 qO qO qO qO (Zgs hT M Y)).mono (fun _ _ h=>Zew (m0:=o) Q.1.1.1.1.1.1.1.1.1.1.1.2 h)) fun⟨f1,g1⟩=>?_
 obtain⟨fq,I0⟩:∃ l,l=(xF n 2 (fun a b=>cz ((wO (fun a b=>R b a) X n) a b))).map ftW:=⟨_,rfl⟩
 have t1:fq.length=n*2:=by rw[I0];exact Zgq
 have u1:∀ f∈fq,Gd f:=by rw[I0];exact Zia (Zgs hT M Y)
 refine xqc 10 [.agg #[yI (n:Int), yI ((2:Nat):Int),.slice f1 (n*2) g1], yI 64] 83 (fun b:{b:Nat // o≤b}=>.tuple #[.agg #[yI (n:Int), yI ((2:Nat):Int),.slice (yL b.1) fq.length fq.length], yI 0]) _ (fun w S Q=>((show Calls _ _ _ _ (iE (fun v=>.tuple #[v, yI 0]) n 2 fq _) by rw[I0];exact ZaH o n 2 f1 g1 (wO (fun a b=>R b a) X n) _ (hg.ext S) Q.2 qO qO qO qO (Zgs hT M Y))).mono (fun _ _ h=>jX (sh:=fun v=>.tuple #[v, yI 0]) (m0:=o) Q.1.1.1.1.1.1.1.1.1.1.1.1.2 h)) fun⟨oq,C1⟩=>?_
 refine xq 6 [(13,.p 13 0),yJ 14 0] [(13,29,[.v (yI (n:Int)),.v (yI ((2:Nat):Int)),.v (.slice (yL oq) fq.length fq.length)])] ?_
 refine yZ (yY (xq 2 [(87,.v (.agg #[yI (n:Int), yI (n:Int),.slice (yL ou) fu.length fu.length])),(88,.v (.agg #[yI (n:Int), yI ((2:Nat):Int),.slice (yL op) fp.length fp.length]))] [] ?_))
 obtain⟨L,C0⟩:∃ l,l=(xF n 2 (fun a b=>cz (X a b))).map ftW:=⟨_,rfl⟩
 have h1:L.length=n*2:=by rw[C0];exact Zgq
 have D1:∀ f∈L,Gd f:=by rw[C0];exact Zia (fun a b ha hb=>uB (M a b ha hb) qD)
 refine xqc 25 [.agg #[yI (n:Int), yI (n:Int),.slice (yL ou) fu.length fu.length],.agg #[yI (n:Int), yI ((2:Nat):Int),.slice (yL op) fp.length fp.length], yI 64] 89 (fun b:{b:Nat // o≤b}=>.tuple #[.agg #[yI (n:Int), yI ((2:Nat):Int),.slice (yL b.1) L.length L.length], yI 0]) _ (fun w S Q=>((show Calls _ _ _ _ (iE (fun v=>.tuple #[v, yI 0]) n 2 L _) by rw[C0];exact Zn3 o o n 2 (yL ou) (yL op) fu.length fp.length fu fp 64 (fun i j=>cz (X i j)) (fun i j k=>cz (lowT n R X i j k)) _ (hg.ext S) Q.1.1.1.1.1.1.1.2 Q.1.1.1.1.2 (Zgo (r:=n) (c:=n) ⟨qO,qO⟩ ⟨qO,qO⟩ V0 W0) (Zgo (r:=n) (c:=2) ⟨qO,qO⟩ ⟨qO,qO⟩ p1 q1) qD qD (x_ok M) (by rw[F0];exact ZrJ hT M Y) (by rw[u0];exact ZrK hT M Y) (by rw[u0];exact ZrX hT M))).mono (fun _ _ h=>jX (sh:=fun v=>.tuple #[v, yI 0]) (m0:=o) Q.1.1.1.1.1.1.1.1.1.1.1.1.1.2 h)) fun⟨oy,E1⟩=>?_
 refine xq 6 [(15,.p 15 0),yJ 16 0] [(15,29,[.v (yI (n:Int)),.v (yI ((2:Nat):Int)),.v (.slice (yL oy) L.length L.length)])] ?_
 refine yZ (yY (xq 2 [(93,.v (.agg #[yI (n:Int), yI (n:Int),.slice (yL ou) fu.length fu.length])),(94,.v (.agg #[yI (n:Int), yI ((2:Nat):Int),.slice (yL oq) fq.length fq.length]))] [] ?_))
 refine xqc 26 [.agg #[yI (n:Int), yI (n:Int),.slice (yL ou) fu.length fu.length],.agg #[yI (n:Int), yI ((2:Nat):Int),.slice (yL oq) fq.length fq.length], yI 64] 95 (fun b:{b:Nat // o≤b}=>.tuple #[.agg #[yI (n:Int), yI ((2:Nat):Int),.slice (yL b.1) L.length L.length], yI 0]) _ (fun w S Q=>((show Calls _ _ _ _ (iE (fun v=>.tuple #[v, yI 0]) n 2 L _) by rw[C0];exact Zn4 o o n 2 (yL ou) (yL oq) fu.length fq.length fu fq 64 (fun i j=>cz (X i j)) (fun i j k=>cz (upT n R X i j k)) _ (hg.ext S) Q.1.1.1.1.1.1.1.1.2 Q.1.2 (Zgo (r:=n) (c:=n) ⟨qO,qO⟩ ⟨qO,qO⟩ V0 W0) (Zgo (r:=n) (c:=2) ⟨qO,qO⟩ ⟨qO,qO⟩ t1 u1) qD qD (x_ok M) (by rw[I0];exact ZrY hT M Y) (by rw[u0];exact ZrZ hT M Y) (by rw[u0];exact up_D hT M))).mono (fun _ _ h=>jX (sh:=fun v=>.tuple #[v, yI 0]) (m0:=o) Q.1.1.1.1.1.1.1.1.1.1.1.1.1.1.2 h)) fun⟨oz,F1⟩=>?_
 refine xq 6 [(17,.p 17 0),yJ 18 0] [(17,29,[.v (yI (n:Int)),.v (yI ((2:Nat):Int)),.v (.slice (yL oz) L.length L.length)])] ?_
 refine yZ (yY (xr 1 [yB 2 false,yJ 10 0,yJ 12 0,yJ 14 0,(15,.p 15 0),yJ 16 0,(17,.p 17 0),yJ 18 0,eS1 99 (yL G) n n] [(17,29,[.v (yI (n:Int)),.v (yI ((2:Nat):Int)),.v (.slice (yL oz) L.length L.length)]),(15,29,[.v (yI (n:Int)),.v (yI ((2:Nat):Int)),.v (.slice (yL oy) L.length L.length)])] ?_))
 refine xqc 16 [.slice (yL G) n n] 100 (fun x:Option Addr×Nat=>.agg #[yI (n:Int), yI ((2:Nat):Int),.slice x.1 (n*2) x.2]) _ (fun w S Q=>(ZbP o G n 2 xs X _ Q.1.1.1.1.1.1.1.1.1.1.1.1.1.2 (MrOk.right Q.1.1.1.1.1.1.1.1.1.1.1.1.2) (QMs.right Q.1.1.1.1.1.1.1.1.1.1.1.2) J qO qO qO qO (fun a b ha hb=>uB (M a b ha hb) qD)).mono (fun _ _ h=>Zew (m0:=o) Q.1.1.1.1.1.1.1.1.1.1.1.1.1.1.1.2 h)) fun⟨i1,j1⟩=>?_
 refine xqc 10 [.agg #[yI (n:Int), yI ((2:Nat):Int),.slice i1 (n*2) j1], yI 64] 101 (fun b:{b:Nat // o≤b}=>.tuple #[.agg #[yI (n:Int), yI ((2:Nat):Int),.slice (yL b.1) L.length L.length], yI 0]) _ (fun w S Q=>((show Calls _ _ _ _ (iE (fun v=>.tuple #[v, yI 0]) n 2 L _) by rw[C0];exact ZaH o n 2 i1 j1 X _ (hg.ext S) Q.2 qO qO qO qO (fun a b ha hb=>uB (M a b ha hb) qD))).mono (fun _ _ h=>jX (sh:=fun v=>.tuple #[v, yI 0]) (m0:=o) Q.1.1.1.1.1.1.1.1.1.1.1.1.1.1.1.1.2 h)) fun⟨ov,G1⟩=>?_
 refine xq 6 [(19,.p 19 0),yJ 20 0] [(19,29,[.v (yI (n:Int)),.v (yI ((2:Nat):Int)),.v (.slice (yL ov) L.length L.length)])] ?_
 refine yZ (zC (zB ?_))
 refine xqc 9 [] 104 (fun _:Unit=>.bool true) _ (fun w S Q=>(Zkc _ (hg.ext S)).mono (fun _ _ h=>zM h rfl)) fun xx=>?_
 refine xq 27 [yB 129 true,(130,.v (.agg #[yI (n:Int), yI ((2:Nat):Int),.slice (yL oy) L.length L.length])),(131,.v (.agg #[yI (n:Int), yI ((2:Nat):Int),.slice (yL ov) L.length L.length]))] [] ?_
 refine xqc 12 [.agg #[yI (n:Int), yI ((2:Nat):Int),.slice (yL oy) L.length L.length],.agg #[yI (n:Int), yI ((2:Nat):Int),.slice (yL ov) L.length L.length]] 132 (fun _:Unit=>.bool true) _ (fun w S Q=>(Zgt n 2 o o L.length (yL oy) (yL ov) L.length L.length L _ Q.1.1.1.1.2 Q.1.2 rfl (by rw[h1];omega)).mono (fun _ _ h=>zM h rfl)) fun xx=>?_
 refine xq 4 [yB 134 true,(135,.v (.agg #[yI (n:Int), yI ((2:Nat):Int),.slice (yL oz) L.length L.length])),(136,.v (.agg #[yI (n:Int), yI ((2:Nat):Int),.slice (yL ov) L.length L.length]))] [] ?_
 refine xqc 12 [.agg #[yI (n:Int), yI ((2:Nat):Int),.slice (yL oz) L.length L.length],.agg #[yI (n:Int), yI ((2:Nat):Int),.slice (yL ov) L.length L.length]] 137 (fun _:Unit=>.bool true) _ (fun w S Q=>(Zgt n 2 o o L.length (yL oz) (yL ov) L.length L.length L _ Q.1.1.1.1.2 Q.1.1.2 rfl (by rw[h1];omega)).mono (fun _ _ h=>zM h rfl)) fun xx=>?_
 refine xq 2 [yB 2 true] [] ?_
 refine yZ (zH ?_)
 refine yR (.bool true) fun w' S Q=>?_
 exact⟨rfl,S⟩
end Go.Proofs.YtenchljfmfgeoaaGreatDoor
