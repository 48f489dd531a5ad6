/-
 My texts.
-/
import Derived.Test.YtdlgidnkmbklcaaGreatDoorZ20
import Derived.Test.YtdlgidnkmbklcaaGreatDoorZ22
set_option maxRecDepth 100000
set_option maxHeartbeats 8000000
namespace Go.Proofs.YtdlgidnkmbklcaaGreatDoor
open Go.RowKit Tryz
theorem Zcl {i c:Nat}(a:i≤64)(b:c≤64):IntKind.i64.wrap ((i:Int)*(c:Int))=((i*c:Nat):Int):=by
 have k1:i*c≤64*64:=sI a b
 rw[IntKind.wrap_i64,← tU];omega
instance {m:Nat}:Nonempty {b:Nat // m≤b}:=⟨⟨m,uF _⟩⟩
theorem iC {a b:Int}(h:a=b):(a != b)=false:=by simp[h]
theorem wJ {α:Type}[Inhabited α]{l:List α}{j:Nat}(h:j<l.length):l[j]! ∈ l:=by rw[vT l j h];exact tZ h
def fl0:ByteArray×Int:=(⟨#[]⟩,0)
def stC (s:ByteArray):List Value:=[.string s]
theorem Zq3 (s:ByteArray):(stC s).length=1:=rfl
def aS {α β:Type} (f:α→β) (z:β) (xs:List α) (k:Nat):List β:=fill xs.length z ((xs.take k).map f)
theorem Zmt {α β:Type}(f:α→β)(z:β)(xs:List α):aS f z xs 0=List.replicate xs.length z:=by unfold aS;rw[List.take_zero,List.map_nil,Zfh]
theorem ZnZ {α β:Type}{f:α→β}{z:β}{xs:List α}{k:Nat}:(aS f z xs k).length=xs.length:=by unfold aS;exact Zff (by rw[uL,uM];omega)
theorem Zn0 {α β:Type}(f:α→β)(z:β)(xs:List α):aS f z xs xs.length=xs.map f:=by
 unfold aS;rw[sP];have:=Zfg (z:=z) (l:=xs.map f);rwa [uL] at this
theorem Zn1 {α β:Type}[Inhabited α]{f:α→β}{z v:β}{xs:List α}{k:Nat}(a:k<xs.length)(c:f xs[k]! = v):(aS f z xs k).set k v=aS f z xs (k+1):=by
 unfold aS
 have b:((xs.take k).map f).length=k:=by rw[uL,uM];omega
 have:=Zjf (n:=xs.length) (z:=z) (x:=v) (by rw[b];exact a)
 rw[b] at this
 rw[this,← c,vT xs k a,vY a,pO,pN]
theorem Zgn (m:Nat)(r c:Nat)(A:qA)(cap:Nat)(a:List (ByteArray×Int))(w:World)(i:OwnD w m 61 2 A cap a.length (a.flatMap flC))(o:1≤r∧r≤32)(q:1≤c∧c≤32)(s:a.length=r*c)(u:∀ x∈a,fvB (bytes x.1) x.2=true)(y:∀ x∈a,(bytes x.1).length≤1000) :
 yA 83 #[.agg #[.int .i64 ((r:Nat):Int),.int .i64 ((c:Nat):Int),.slice A a.length cap]] w (RetV w (.bool true)):=by
 have z:r*c≤32*32:=sI o.2 q.2
 refine zV (Φ:=fun w=>True) func83 rfl qK (fun w' C=>trivial) ?_
 refine yY (xq 2 [Δ 1,yB 2 false] [(1,59,[Γ r,Γ c,Λ A a.length cap])] ?_)
 refine yZ (zD (yY (xq 3 [yB 7 (decide ((r:Int)<1))] [] ?_)))
 rw[(show decide ((r:Int)<1)=false from uR qO)]
 refine xq 4 [yB 8 false,yB 11 (decide ((r:Int)>32))] [] ?_
 rw[(show decide ((r:Int)>32)=false from uR qO)]
 refine xq 5 [yB 13 false,yB 16 (decide ((c:Int)<1))] [] ?_
 rw[(show decide ((c:Int)<1)=false from uR qO)]
 refine xq 5 [yB 18 false,yB 21 (decide ((c:Int)>32))] [] ?_
 rw[(show decide ((c:Int)>32)=false from uR qO)]
 refine xq 10 [yB 23 false,yJ 26 a.length,yJ 31 (IntKind.i64.wrap ((r:Int)*(c:Int)))] [] ?_
 rw[(show IntKind.i64.wrap ((r:Int)*(c:Int))=((r*c:Nat):Int) from Zcl qO qO)]
 refine xq 1 [yB 32 ((((a.length:Nat):Int):Int) != ((r*c:Nat):Int))] [] ?_
 rw[(show ((((a.length:Nat):Int):Int) != ((r*c:Nat):Int))=false from iC (by rw[s]))]
 refine xq 1 [yB 33 false] [] ?_
 refine yZ (xb (zG (zB (zD (yY (xq 4 [eS1 35 A a.length cap,yJ 36 a.length,yJ 37 0] [] ?_))))))
 refine yZ (zO ?_)
 refine xI (fun j l n=>∃ (k:Nat),l=ofL [yB 2 false,eS1 35 A a.length cap,yJ 36 a.length,yJ 37 k] []∧n=(fun w=>True)∧(k≤a.length)∧j=(1+(a.length-k))) _ ⟨0,rfl,rfl,(uT _),rfl⟩ (fun w Q=>trivial) ?_
 rintro j l n ⟨k,rfl,rfl,D,rfl⟩
 refine yY (xq 1 [yB 38 (decide ((k:Int)<((a.length:Nat):Int)))] [] ?_)
 refine yZ (zD ?_)
 refine yQ ((decide ((k:Int)<((a.length:Nat):Int)))) (fun f=>?_) fun f=>?_
 ·have d:k<a.length:=by have:=uB f;omega
  refine zG (zB (zD (zO (zD (zC ?_)))))
  refine xqk 39 _ (fun w R Q=>xM (t:=33) (e:=61) (sz:=2) (x:=.tmp 35) (ix:=.tmp 37) (len:=a.length) (cap:=cap) ((OwnD.ext i R).ne d) d) ?_
  obtain⟨b,g⟩:∃ x,a[k]! = x:=⟨_,rfl⟩
  refine xqk 40 (yS b.1 b.2) (fun w R Q=>by rw[←g];exact wX (t:=61) (x:=.tmp 39) (OwnD.ext i R) gX d) ?_
  refine xq 2 [Δ 4] [yG 4 61 b.1 b.2] ?_
  refine yZ (yY (xq 1 [(41,.v (yS b.1 b.2))] [] ?_))
  refine xqc _ _ 42 (fun _:Unit=>.bool true) _ (fun w R Q=>(ZaP b.1 b.2 _ (by rw[←g];exact uD (y _ (wJ d)) qD)).mono (fun _ _ h=>zI h (by rw[show fvB (bytes b.1) b.2=true by rw[←g];exact u _ (wJ d)]))) fun E=>?_
  refine xq 1 [yB 43 false] [] ?_
  refine yZ (xb (zG (xK (zB (zC (xq 1 [yJ 44 (IntKind.i64.wrap ((k:Int)+1))] [] ?_))))))
  rw[yW ((k:Int)+1) (((k+1:Nat):Int)) qO]
  refine xq 1 [yJ 37 (k+1:Nat)] [] ?_
  refine xe ?_
  exact xC _ qO ⟨(k+1),rfl,rfl,d,rfl⟩ (fun w Q=>trivial)
 have B:k=a.length:=by have:=uC f;omega
 refine xJ (zE (zE (xL (zB (yY (xq 1 [yB 2 true] [] ?_))))))
 refine yZ (zJ ?_)
 refine yR (.bool true) fun w' R Q=>?_
 exact⟨rfl,R⟩
theorem ZhI (r c:Nat)(w:World)(j:r≤64)(k:c≤64) :
 yA 30 #[.int .i64 ((r:Nat):Int),.int .i64 ((c:Nat):Int)] w (fun e w'=>∃ b,e=.returned (.agg #[.int .i64 ((r:Nat):Int),.int .i64 ((c:Nat):Int),.slice (some ⟨b,0,none⟩) (r*c) (r*c)])∧OwnD w' w.heap.size 86 3 (some ⟨b,0,none⟩) (r*c) (r*c) ((List.replicate (r*c) nb0).flatMap nbC)∧Ext w w'):=by
 obtain⟨h,f⟩:∃ m,m=w.heap.size:=⟨_,rfl⟩
 have n:r*c≤64*64:=sI j k
 refine zV (Φ:=fun w=>True) func30 rfl qK (fun w' o=>trivial) ?_
 refine yY (xq 1 [Δ 4] [(4,94,[Γ 0,Γ 0,Ω])] ?_)
 refine yZ (yY (xq 5 [yJ 5 r,yJ 6 c,yJ 9 (IntKind.i64.wrap ((r:Int)*(c:Int)))] [] ?_))
 rw[(show IntKind.i64.wrap ((r:Int)*(c:Int))=((r*c:Nat):Int) from Zcl qO qO)]
 refine yD (d:=10) (fun g:{b:Nat // h≤b}=>Υ g.1 (r*c)) (fun g w=>OwnD w h 86 3 (yL g.1) (r*c) (r*c) ((List.replicate (r*c) nb0).flatMap nbC)) (fun w R Q=>cJ (t:=89) (kl:=.i64) (kc:=.i64) (l:=.tmp 9) (c:=.tmp 9) (bytes:=40) (z:=.agg #[.bool false,Ξ, yI 0]) nb0 cO qD rfl Zgd (f ▸ R.size) (by simp only[maxLen];omega) qO) fun⟨a,i⟩=>?_
 refine xr 2 [Δ 4] [(4,94,[Γ r,Γ c,Λ (yL a) (r*c) (r*c)])] ?_
 refine yZ (zJ ?_)
 refine yR (.agg #[yI r, yI c,Υ a (r*c)]) fun w' R Q=>?_
 exact⟨a,rfl,f ▸ Q.2,R⟩
theorem Zpp (m r c b cap n:Nat)(xs:List Nb)(i j:Nat)(x:Nb)(w:World)(d:OwnD w m 86 3 (some ⟨b,0,none⟩) cap n (xs.flatMap nbC))(f:xs.length=n)(hi:i≤64)(h:c≤64)(a:i*c+j<n)(k:n≤4096) :
 yA 31 #[.agg #[.int .i64 ((r:Nat):Int),.int .i64 ((c:Nat):Int),.slice (some ⟨b,0,none⟩) n cap],.int .i64 ((i:Nat):Int),.int .i64 ((j:Nat):Int), yV x.s x.A x.l x.c x.e] w (fun e w'=>e=.returned (.tuple #[])∧Fr (fun i=>i=b) w w'∧OwnD w' m 86 3 (some ⟨b,0,none⟩) cap n ((xs.set (i*c+j) x).flatMap nbC)):=by
 refine Zaz (fun i=>i=b) func31 rfl qK (fun w' g=>OwnD.ext d g) ?_
 refine yY (xq 2 [Δ 4,Δ 7] [yF 7 86 x.s x.A x.l x.c x.e,(4,94,[Γ r,Γ c,Λ (yL b) n cap])] ?_)
 refine yZ (zC (xq 6 [eS1 9 (yL b) n cap,yJ 13 (IntKind.i64.wrap ((i:Int)*(c:Int)))] [] ?_))
 rw[(show IntKind.i64.wrap ((i:Int)*(c:Int))=((i*c:Nat):Int) from Zcl qO qO)]
 refine xq 2 [yJ 15 (IntKind.i64.wrap (((i*c:Nat):Int)+(j:Int)))] [] ?_
 rw[(show IntKind.i64.wrap (((i*c:Nat):Int)+(j:Int))=((i*c+j:Nat):Int) by rw[IntKind.wrap_i64];omega)]
 refine xq 1 [(16,.v (yV x.s x.A x.l x.c x.e))] [] ?_
 refine xqk 17 (.pointer (some ⟨b,0+(i*c+j)*3,none⟩)) (fun w R Q=>ZcP (t:=89) (e:=86) (x:=.tmp 9) (ix:=.tmp 15) (len:=n) (cap:=cap) a) ?_
 refine Zce (t:=86) (x:=.tmp 17) (y:=.tmp 16) (new:=nbC x) m b (yV x.s x.A x.l x.c x.e) (fun w=>True) (fun w Q=>Q) a rfl qD (fun _=>Or.inr rfl) (by simp[nbC,Value.oneCell']) (Zgd _) rfl (fun w w' Q o=>trivial) ?_
 rw[←dR cO xs (i*c+j) x (f.symm ▸ a)]
 refine xr 0 [] [] ?_
 refine xe ?_
 refine Zqn (v:=.tuple #[]) qK fun w' R Q=>?_
 exact⟨rfl,R,Q.2⟩
theorem ZjB (s:Bool)(A:qA)(l c:Nat)(e:Int)(w:World) :
 yA 179 #[yV s A l c e,.int .i64 0] w (RetV w (yV s A l c e)):=by
 refine zV (Φ:=fun w=>True) func179 rfl qK (fun w' a=>trivial) ?_
 refine yY (xq 2 [Δ 2,Δ 4] [yF 4 86 false none 0 0 0,yF 2 86 s A l c e] ?_)
 refine yZ (zD (yY (xq 2 [yB 6 false] [] ?_)))
 refine yZ (xb (zG (zB (yY (xq 2 [] [yF 4 86 s A l c e] ?_)))))
 refine yZ (zJ ?_)
 refine yR (yV s A l c e) fun w' R Q=>?_
 exact⟨rfl,R⟩
theorem OwnD.boxN {w w':World}{m n c k:Nat}{e:TypeId}{A:qA}{xs:List Value}(h:OwnD w' w.heap.size e k A c n xs)(a:m≤w.heap.size):BoxN w w' (fun v=>OwnD v m e k A c n xs):=fun S b d f=>OwnD.mono (h.fr f (fun i hi g=>by
 have j:=(h.blk hi).1
 have l:=(b i g).1
 omega)) a
theorem ZhJ {r c n m0:Nat}{w w':World}{e:Ending}(a:m0≤w.heap.size)(f:r*c=n)(h:∃ b,e=.returned (.agg #[.int .i64 ((r:Nat):Int),.int .i64 ((c:Nat):Int),.slice (some ⟨b,0,none⟩) (r*c) (r*c)])∧OwnD w' w.heap.size 86 3 (some ⟨b,0,none⟩) (r*c) (r*c) ((List.replicate (r*c) nb0).flatMap nbC)∧Ext w w') :
 lG (fun b:{b:Nat // m0≤b}=>.agg #[.int .i64 ((r:Nat):Int),.int .i64 ((c:Nat):Int),.slice (some ⟨b.1,0,none⟩) n n]) (fun b w=>OwnD w m0 86 3 (some ⟨b.1,0,none⟩) n n ((List.replicate n nb0).flatMap nbC)) w e w':=by
 subst f
 obtain⟨b,rfl,d,Q⟩:=h
 exact⟨⟨b,uD a (d.blk rfl).1⟩,rfl,Q,d.boxN a⟩
theorem ZhK {n k:Nat}{α:Type}{z x:α}{l:List α}(a:l.length=k)(h:k<n):(fill n z l).set k x=fill n z (l ++ [x]):=by subst a;exact Zjf h
theorem fM {α β γ:Type}[Inhabited β]{f:α→γ}{g:β→γ}{ys:List α}{a:List β}{k:Nat}{v:α}(c:ys.map f=(a.take k).map g)(b:k<a.length)(d:f v=g a[k]!):(ys ++ [v]).map f=(a.take (k+1)).map g:=by
 rw[pO,c,pN,d,vT a k b,vY b,pO,pN]
theorem wH.snoc {w:World}{ys:List Nb}{x:Nb}(h:wH w ys)(b:NbOk w x):wH w (ys ++ [x]):=fun y a=>by
 rcases tI.1 a with a|a
 ·exact h y a
 rw[vX.1 a];exact b
def ldV (x:ByteArray×Int):Fv3:=((ldR (bytes x.1) x.2).s,(ldR (bytes x.1) x.2).m,(ldR (bytes x.1) x.2).e)
def ftV (x:Nb):ByteArray×Int:=(⟨(Lib.itoa (sg x.s x.m)).toArray⟩,x.e)
def Ziq (sh:Value→Value) (r c:Nat) (vs:List Fv3) (w:World) (e:Ending) (w':World):Prop:=∃ b xs,e=.returned (sh (.agg #[.int .i64 ((r:Nat):Int),.int .i64 ((c:Nat):Int),.slice (some ⟨b,0,none⟩) xs.length xs.length]))∧xs.map nbV=vs∧OwnD w' w.heap.size 86 3 (some ⟨b,0,none⟩) xs.length xs.length (xs.flatMap nbC)∧wH w' xs∧Ext w w'
def ZpV (sh:Value→Value) (r c:Nat) (fs:List (ByteArray×Int)) (w:World) (e:Ending) (w':World):Prop:=∃ b,e=.returned (sh (.agg #[.int .i64 ((r:Nat):Int),.int .i64 ((c:Nat):Int),.slice (some ⟨b,0,none⟩) fs.length fs.length]))∧OwnD w' w.heap.size 61 2 (some ⟨b,0,none⟩) fs.length fs.length (fs.flatMap flC)∧Ext w w'
theorem ZhL (m:Nat)(r c:Nat)(A:qA)(cap:Nat)(a:List (ByteArray×Int))(w:World)(F:OwnD w m 61 2 A cap a.length (a.flatMap flC))(I:1≤r∧r≤32)(J:1≤c∧c≤32)(K:a.length=r*c)(L:∀ x∈a,fvB (bytes x.1) x.2=true)(M:∀ x∈a,(bytes x.1).length≤1000) :
 yA 95 #[.agg #[.int .i64 ((r:Nat):Int),.int .i64 ((c:Nat):Int),.slice A a.length cap]] w (Ziq (fun v=>.tuple #[v,.bool true]) r c (a.map ldV) w):=by
 obtain⟨G,C⟩:∃ m,m=w.heap.size:=⟨_,rfl⟩
 have U:r*c≤32*32:=sI I.2 J.2
 refine zV (Φ:=fun w=>True) func95 rfl qK (fun w' V=>trivial) ?_
 refine yY (xq 3 [Δ 1,Δ 2,yB 3 false] [(2,94,[Γ 0,Γ 0,Ω]),(1,59,[Γ r,Γ c,Λ A a.length cap])] ?_)
 refine yZ (zD (yY (xq 1 [(7,.v (.agg #[yI r, yI c,.slice A a.length cap]))] [] ?_)))
 refine xqc _ _ 8 (fun _:Unit=>.bool true) _ (fun w R Q=>yN (Zgn m r c A cap a _ (OwnD.ext F R) I J K L M)) fun W=>?_
 refine xq 1 [yB 9 false] [] ?_
 refine yZ (xb (zG (zB (yY (xq 4 [yJ 12 r,yJ 14 c] [] ?_)))))
 refine xqc _ _ 15 (fun b:{b:Nat // G≤b}=>.agg #[yI r, yI c,Υ b.1 a.length]) _ (fun w R Q=>(ZhI r c _ qO qO).mono (fun _ _ h=>ZhJ (C ▸ R.size) K.symm h)) fun⟨i,N⟩=>?_
 refine xq 2 [Δ 4] [(4,94,[Γ r,Γ c,Λ (yL i) a.length a.length])] ?_
 refine yZ (zD (yY (xq 4 [eS1 17 A a.length cap,yJ 18 a.length,yJ 19 0] [] ?_)))
 refine yZ (zO ?_)
 refine xI (fun O P S=>∃ (k:Nat) (u:List Nb),P=ofL [Δ 2,yB 3 false,Δ 4,eS1 17 A a.length cap,yJ 18 a.length,yJ 19 k] [(4,94,[Γ r,Γ c,Λ (yL i) a.length a.length]),(2,94,[Γ 0,Γ 0,Ω])]∧S=(fun w=>(wH w u∧OwnD w G 86 3 (yL i) a.length a.length ((fill a.length nb0 u).flatMap nbC)))∧(k≤a.length)∧(u.map nbV=(a.take k).map ldV)∧O=(1+(a.length-k))) _ ⟨0,([]:List Nb),rfl,rfl,(uT _),rfl,rfl⟩ (fun w Q=>⟨(fun _ h=>nomatch h),(by rw[Zfh];exact Q.2)⟩) ?_
 rintro O P S ⟨k,u,rfl,rfl,X,E,rfl⟩
 refine yY (xq 1 [yB 20 (decide ((k:Int)<((a.length:Nat):Int)))] [] ?_)
 refine yZ (zD ?_)
 refine yQ ((decide ((k:Int)<((a.length:Nat):Int)))) (fun q=>?_) fun q=>?_
 ·have g:k<a.length:=by have:=uB q;omega
  have z:u.length=k:=by have:=uX List.length E;rw[uL,uL,uM] at this;omega
  refine zG (zB (zD (zO (yY (xq 1 [yJ 21 k] [] ?_)))))
  refine xqk 22 _ (fun w R Q=>xM (t:=33) (e:=61) (sz:=2) (x:=.tmp 17) (ix:=.tmp 19) (len:=a.length) (cap:=cap) ((OwnD.ext F R).ne g) g) ?_
  obtain⟨f,j⟩:∃ x,a[k]! = x:=⟨_,rfl⟩
  refine xqk 23 (yS f.1 f.2) (fun w R Q=>by rw[←j];exact wX (t:=61) (x:=.tmp 22) (OwnD.ext F R) gX g) ?_
  refine xq 3 [yJ 5 k,Δ 6] [yG 6 61 f.1 f.2] ?_
  refine xe (zB ?_)
  refine Zpr 9 7 31 (fun _ _ _ _ h=>h) ?_
  refine xqg 4 [eS1 26 (yL i) a.length a.length,yJ 27 k,(28,.v (yS f.1 f.2))] ?_
  obtain⟨d,B⟩:=yE (ldR (bytes f.1) f.2)
  refine xqd _ _ 29 (shLd true d) _ (fun w R Q=>yM Zlh ((show Calls _ _ _ _ (Zip w true d) by rw[←B,← show fvB (bytes f.1) f.2=true by rw[←j];exact L _ (wJ g)];exact ZhG f.1 f.2 _ (by rw[←j];exact uD (M _ (wJ g)) qD)))) fun⟨l,n,o⟩=>?_
  refine xqg 3 [(30,.v (yV d.s l n o d.e))] ?_
  refine xqj 32 (.pointer (some ⟨i,0+k*3,none⟩)) (fun w Q=>ZcP (t:=89) (e:=86) (x:=.tmp 26) (ix:=.tmp 27) (len:=a.length) (cap:=a.length) g) ?_
  refine xz ?_
  refine Zce (t:=86) (x:=.tmp 32) (y:=.tmp 30) (new:=nbC ((⟨d.s,l,n,o,d.m,d.e⟩:Nb))) G i (yV d.s l n o d.e) (fun w=>(wH w u∧zL w (.slice l n o) d.m)) (fun w Q=>Q.1.2) g rfl qD (fun h=>Or.inl (uD (C ▸ uF _) h)) (by simp[nbC,Value.oneCell']) (Zgd _) rfl (fun w w' Q T=>⟨wH.row Q.1.1 Q.1.2 T,zL.rowD Q.2 Q.1.2 T⟩) ?_
  rw[←dR cO ((fill a.length nb0 u)) k ((⟨d.s,l,n,o,d.m,d.e⟩:Nb)) (by rw[Zff qO];exact g),ZhK z g]
  refine xr 0 [Δ 2,yB 3 false,Δ 4,eS1 17 A a.length cap,yJ 18 a.length,yJ 19 k] [(4,94,[Γ r,Γ c,Λ (yL i) a.length a.length]),(2,94,[Γ 0,Γ 0,Ω])] ?_
  refine xe (xK (zB (zC (xq 1 [yJ 33 (IntKind.i64.wrap ((k:Int)+1))] [] ?_))))
  rw[yW ((k:Int)+1) (((k+1:Nat):Int)) qO]
  refine xq 1 [yJ 19 (k+1:Nat)] [] ?_
  refine xe ?_
  exact xC _ qO ⟨(k+1),(u ++ [(⟨d.s,l,n,o,d.m,d.e⟩:Nb)]),rfl,rfl,g,(fM E g (by rw[j,ldV,B];rfl)),rfl⟩ (fun w Q=>⟨(wH.snoc Q.1.1 Q.1.2),Q.2⟩)
 have D:k=a.length:=by have:=uC q;omega
 have z:u.length=k:=by have:=uX List.length E;rw[uL,uL,uM] at this;omega
 refine xJ (zE (zE (xL (zB (yY (xq 3 [yB 3 true] [(2,94,[Γ r,Γ c,Λ (yL i) a.length a.length])] ?_))))))
 refine yZ (zJ ?_)
 refine yR (.tuple #[.agg #[yI r, yI c,Υ i a.length],.bool true]) fun w' R Q=>?_
 exact⟨i,u,by have h:=z;rw[D] at h;rw[h],by rw[E,D,sP],by have h:=Q.2;have H:=z;rw[D] at H;rw[←H,Zfg] at h;rw[H] at h ⊢;exact C ▸ h,Q.1,R⟩
theorem ZeV (m r c:Nat)(A:qA)(cap n:Nat)(xs:List Nb)(w:World)(C:OwnD w m 86 3 A cap n (xs.flatMap nbC))(I:wH w xs)(j:xs.length=n)(J:Glob w)(K:n≤4096)(D:∀ x∈xs,wl x.m≤1000000∧(x.s=true→0<x.m)) :
 yA 72 #[.agg #[.int .i64 ((r:Nat):Int),.int .i64 ((c:Nat):Int),.slice A n cap]] w (ZpV (fun v=>v) r c (xs.map ftV) w):=by
 obtain⟨q,o⟩:∃ m,m=w.heap.size:=⟨_,rfl⟩
 refine zV (Φ:=fun w=>True) func72 rfl qK (fun w' L=>trivial) ?_
 refine yY (xq 2 [Δ 1,Δ 2] [(2,59,[Γ 0,Γ 0,Ω]),(1,94,[Γ r,Γ c,Λ A n cap])] ?_)
 refine yZ (zD ?_)
 refine yO 10 zQ ?_
 refine xqg 7 [yJ 7 r,yJ 9 c,yJ 12 n] ?_
 refine gI 13 (fun u:{b:Nat // q≤b}=>Υ u.1 n) (fun u w=>OwnD w q 61 2 (yL u.1) n n ((List.replicate n fl0).flatMap flC)) qK qK qK qK qK qK qK (fun w R Q=>cJ (t:=33) (kl:=.i64) (kc:=.i64) (l:=.tmp 12) (c:=.tmp 12) (bytes:=24) (z:=.agg #[.string ⟨#[]⟩, yI 0]) fl0 gX qD rfl ZnB (o ▸ R.size) (by simp only[maxLen];omega) qO) fun⟨d,E⟩=>?_
 refine xf 2 [Δ 1,Δ 2,Δ 3,(14,.v (.agg #[yI r, yI c,Υ d n]))] [(3,59,[Γ 0,Γ 0,Ω]),(2,59,[Γ 0,Γ 0,Ω]),(1,94,[Γ r,Γ c,Λ A n cap])] ?_
 refine xz (xq 1 [] [(3,59,[Γ r,Γ c,Λ (yL d) n n])] ?_)
 refine yZ (zD (yY (xq 4 [eS1 16 A n cap,yJ 17 n,yJ 18 0] [] ?_)))
 refine yZ (zO ?_)
 refine xI (fun F G H=>∃ (k:Nat),G=ofL [Δ 2,Δ 3,eS1 16 A n cap,yJ 17 n,yJ 18 k] [(3,59,[Γ r,Γ c,Λ (yL d) n n]),(2,59,[Γ 0,Γ 0,Ω])]∧H=(fun w=>OwnD w q 61 2 (yL d) n n ((aS ftV fl0 xs k).flatMap flC))∧(k≤n)∧F=(1+(n-k))) _ ⟨0,rfl,rfl,(uT _),rfl⟩ (fun w Q=>(by rw[Zmt,j];exact Q.2)) ?_
 rintro F G H ⟨k,rfl,rfl,M,rfl⟩
 refine yY (xq 1 [yB 19 (decide ((k:Int)<(n:Int)))] [] ?_)
 refine yZ (zD ?_)
 refine yQ ((decide ((k:Int)<(n:Int)))) (fun i=>?_) fun i=>?_
 ·have f:k<n:=by have:=uB i;omega
  refine zG (zB (zD (zO (yY (xq 1 [yJ 20 k] [] ?_)))))
  refine xqk 21 _ (fun w R Q=>xM (t:=89) (e:=86) (sz:=3) (x:=.tmp 16) (ix:=.tmp 18) (len:=n) (cap:=cap) ((OwnD.ext C R).ne f) f) ?_
  obtain⟨a,g⟩:∃ x,xs[k]! = x:=⟨_,rfl⟩
  refine xqk 22 (yV a.s a.A a.l a.c a.e) (fun w R Q=>by rw[←g];exact wX (t:=86) (x:=.tmp 21) (OwnD.ext C R) cO (j.symm ▸ f)) ?_
  refine xq 3 [yJ 4 k,Δ 5] [yF 5 86 a.s a.A a.l a.c a.e] ?_
  refine xe (zB ?_)
  refine yO 6 zQ ?_
  refine xqg 4 [eS1 24 (yL d) n n,yJ 25 k,(26,.v (yV a.s a.A a.l a.c a.e))] ?_
  refine xqd _ _ 27 (fun _:Unit=>.agg #[.string ⟨(Lib.itoa (sg a.s a.m)).toArray⟩, yI a.e]) _ (fun w R Q=>yN (ZbW a.s a.A a.l a.c a.m a.e _ (J.ext R) (by rw[←g];exact (I.ext R).get (j.symm ▸ f)) (by rw[←g];exact (D _ (wJ (j.symm ▸ f))).1) (by rw[←g];exact (D _ (wJ (j.symm ▸ f))).2))) fun N=>?_
  refine xqj 28 (.pointer (some ⟨d,0+k*2,none⟩)) (fun w Q=>ZcP (t:=33) (e:=61) (x:=.tmp 24) (ix:=.tmp 25) (len:=n) (cap:=n) f) ?_
  refine xz ?_
  refine Zce (t:=61) (x:=.tmp 28) (y:=.tmp 27) (new:=flC ((⟨(Lib.itoa (sg a.s a.m)).toArray⟩,a.e))) q d (yS ⟨(Lib.itoa (sg a.s a.m)).toArray⟩ a.e) (fun w=>True) (fun w Q=>Q.1) f rfl qD (fun h=>Or.inl (uD (o ▸ uF _) h)) (by simp[flC,Value.oneCell']) (ZnB _) rfl (fun w w' Q O=>trivial) ?_
  rw[←dR gX ((aS ftV fl0 xs k)) k ((⟨(Lib.itoa (sg a.s a.m)).toArray⟩,a.e)) (by rw[ZnZ];exact j.symm ▸ f),Zn1 (j.symm ▸ f) (by rw[g];rfl)]
  refine xr 0 [Δ 2,Δ 3,eS1 16 A n cap,yJ 17 n,yJ 18 k] [(3,59,[Γ r,Γ c,Λ (yL d) n n]),(2,59,[Γ 0,Γ 0,Ω])] ?_
  refine xe (xK (zB (zC (xq 1 [yJ 29 (IntKind.i64.wrap ((k:Int)+1))] [] ?_))))
  rw[yW ((k:Int)+1) (((k+1:Nat):Int)) qO]
  refine xq 1 [yJ 18 (k+1:Nat)] [] ?_
  refine xe ?_
  exact xC _ qO ⟨(k+1),rfl,rfl,f,rfl⟩ (fun w Q=>Q.2)
 have B:k=n:=by have:=uC i;omega
 refine xJ (zE (zE (xL (zB (yY (xq 2 [] [(2,59,[Γ r,Γ c,Λ (yL d) n n])] ?_))))))
 refine yZ (zJ ?_)
 refine yR (.agg #[yI r, yI c,Υ d n]) fun w' R Q=>?_
 exact⟨d,by rw[uL,j],by have h:=Q;rw[B,← j,Zn0] at h;rw[uL];exact o ▸ h,R⟩
end Go.Proofs.YtdlgidnkmbklcaaGreatDoor
namespace Go.Proofs.YtdlgidnkmbklcaaGreatDoor
def FvOk (v:Fv3):Prop:=wl v.2.1≤100000∧okE v.2.2∧(v.2.1=0∨v.2.1%2=1)∧(v.1=true→0<v.2.1)
theorem Zcm:FvOk (false,0,0):=⟨uD (nB (jH.2 rfl)) (uT _),by show okE 0;unfold okE;omega,Or.inl rfl,fun h=>by cases h⟩
def fvR (r:FR):Fv3:=(r.s,r.m,r.e)
def mulV (x y:Fv3) (b:Nat):FR:=wR (x.1 != y.1) (x.2.1*y.2.1) 1 (x.2.2+y.2.2) b
def divV (x y:Fv3) (b:Nat):FR:=ZcO (x.1 != y.1) x.2.1 y.2.1 (x.2.2-y.2.2) b
def musT (r:FR):Option Fv3:=if r.err=0 then some (fvR r) else none
theorem eB {r:FR}{v:Fv3}(h:musT r=some v):r.err=0∧v=fvR r:=by
 unfold musT at h
 split at h
 ·injection h with h;exact⟨by assumption,h.symm⟩
 cases h
def FrOk (r:FR):Prop:=r.err=0→FvOk (fvR r)
theorem Zq8 {r:FR}{v:Fv3}(a:FrOk r)(h:musT r=some v):FvOk v:=by
 obtain⟨b,rfl⟩:=eB h
 exact a b
theorem Zgq {k:Int}:FrOk ⟨false,0,0,k⟩:=fun _=>Zcm
theorem Zlj {s:Bool}{n:Nat}{e:Int}(h:wl n≤100000):FrOk (wG s n e):=by
 unfold wG
 split
 ·exact Zgq
 rename_i c
 have a:=jY (n:=n) qO
 split
 ·rename_i b
  exact fun _=>⟨uD (lV (vG _ _)) h,b,Or.inr a.1,fun _=>by show 0<oddM n;omega⟩
 exact Zgq
theorem Zfp {n d bits:Nat}(b:0<n)(c:0<d)(e:0<bits):rndM n d bits≤2^bits:=by
 have f:=ZaB b c e
 have g:=(Zeg (fa n (rndK n d bits)) (fb d (rndK n d bits))).2
 have a:=fU (fq n d (rndK n d bits))
 rw[f] at a
 unfold rndM
 unfold fq at a
 omega
theorem Zq9 {n b:Nat}(h:n≤2^b)(c:b≤4096):wl n≤100000:=uD (lV h) (uD (Zcf (a:=b) (b:=100) qO) qD)
theorem ZaW {s:Bool}{n d b:Nat}{e:Int}(c:0<d)(f:0<b)(a:b≤4096):FrOk (wR s n d e b):=by
 unfold wR
 split
 ·exact Zgq
 exact Zlj (Zq9 (Zfp qO c f) a)
theorem Zra {x y:Fv3}{b:Nat}(c:0<b)(a:b≤4096):FrOk (mulV x y b):=ZaW qD c a
theorem Zrb {x y:Fv3}{b:Nat}(c:0<b)(a:b≤4096):FrOk (divV x y b):=by
 unfold divV ZcO
 split
 ·exact Zgq
 exact ZaW qO c a
def sgnV (v:Fv3):Int:=if v.2.1=0 then 0 else if v.1=true then -1 else 1
end Go.Proofs.YtdlgidnkmbklcaaGreatDoor
namespace Go.Proofs.YtdlgidnkmbklcaaGreatDoor
open Go.RowKit
theorem ZcZ {w w':World}{e:Ending}{r:FR}(b:r.err=0)(h:lB w r e w'):lG (fun q:ShN=>.tuple #[yV r.s q.1 q.2.1 q.2.2 r.e,.int .i64 0]) (fun x w=>zL w (wE x) r.m) w e w':=by
 have a:=lO h
 unfold shNb at a
 rw[b] at a
 exact a
theorem FvOk.wl {v:Fv3}(h:FvOk v):wl v.2.1≤100000:=uD h.1 qD
theorem FvOk.lo {v:Fv3}(h:FvOk v) : -1073741824≤v.2.2:=by have:=h.2.1;unfold okE at this;omega
theorem FvOk.hi {v:Fv3}(h:FvOk v):v.2.2≤1073741824:=by have:=h.2.1;unfold okE at this;omega
def ZbJ (v:Fv3) (w:World) (e:Ending) (w':World):Prop:=∃ z:Nb,e=.returned (yV z.s z.A z.l z.c z.e)∧nbV z=v∧NbOk w' z∧Ext w w'
theorem ZgX {v:Fv3}{w w':World}{e:Ending}(h:ZbJ v w e w'):lG (fun z:{z:Nb // nbV z=v}=>.agg #[.bool z.1.s,.slice z.1.A z.1.l z.1.c,.int .i64 z.1.e]) (fun z w=>NbOk w z.1) w e w':=by
 obtain⟨z,rfl,a,b,Q⟩:=h
 exact⟨⟨z,a⟩,rfl,Q,boxn Q (fun S d f g=>zL.nrb b f g)⟩
instance {v:Fv3}:Nonempty {z:Nb // nbV z=v}:=⟨⟨⟨v.1,none,0,0,v.2.1,v.2.2⟩,rfl⟩⟩
theorem Zpu {m b cap n k:Nat}{e:TypeId}{xs:List Value}{w w':World}{a:Ending}(h:a=.returned (.tuple #[])∧Fr (fun i=>i=b) w w'∧OwnD w' m e k (some ⟨b,0,none⟩) cap n xs):∃ x:Unit,a=.returned ((fun _:Unit=>.tuple #[]) x)∧Fr (fun i=>i=b) w w'∧BoxT b w w' (fun w=>OwnD w m e k (some ⟨b,0,none⟩) cap n xs) :=
 ⟨(),h.1,h.2.1,fun S c d f=>h.2.2.fr f (fun i hi g=>by
  injection hi with hi
  injection hi with hi
  exact (d i g).2.1 hi.symm)⟩
theorem Zn8 {w:World}{m b cap n:Nat}{e:TypeId}{ys:List Nb}(h:OwnD w m e 3 (some ⟨b,0,none⟩) cap n (ys.flatMap nbC))(c:0<ys.length):w.cell? ⟨b,0,none⟩=some (.bool ys[0]!.s):=by
 have d:=aA cO ys 0 0 c qD
 obtain⟨g,a,_,f⟩:=h.at (j:=0*3+0) d
 injection a with a
 injection a with a
 subst a
 exact f
end Go.Proofs.YtdlgidnkmbklcaaGreatDoor
namespace Go.Proofs.YtdlgidnkmbklcaaGreatDoor
def addV (x y:Fv3) (b:Nat):FR:=sumR x.1 x.2.1 x.2.2 y.1 y.2.1 y.2.2 b
theorem Zlx {x y:Fv3}{b:Nat}(c:0<b)(a:b≤4096):FrOk (addV x y b):=by
 unfold addV sumR
 split
 ·exact ZaW qD c a
 split
 ·exact ZaW qD c a
 exact ZaW qD c a
def jM (t x y:Fv3) (b:Nat):Option Fv3:=if sgnV x=0∨sgnV y=0 then some t else (musT (mulV x y b)).bind fun p=>musT (addV t p b)
def dtK (b:Nat) (f g:Nat→Fv3):Nat→Nat→Fv3→Option Fv3
 | 0,_,t=>some t
 | n+1,k,t=>(jM t (f k) (g k) b).bind fun t=>dtK b f g n (k+1) t
def iO {α:Type} (r c:Nat) (V:Nat→Nat→α):List α:=(List.range r).flatMap fun i=>(List.range c).map (V i)
theorem cE {α:Type}(r c:Nat)(V:Nat→Nat→α):(iO r c V).length=r*c:=by
 unfold iO
 induction r with
 | zero=>simp
 | succ r ih=>rw[List.range_succ,vR,uN,ih,nC,uL,rH,pF]
theorem gidx {i j r c:Nat}(hi:i<r)(a:j<c):i*c+j<r*c:=by
 have:=uE c (show i+1≤r by omega)
 rw[pF] at this
 omega
theorem ZhP {α:Type}{r c:Nat}{V:Nat→Nat→α}{i j:Nat}(hi:i<r)(a:j<c):(iO r c V)[i*c+j]? = some (V i j):=by
 induction r with
 | zero=>omega
 | succ r ih =>
  have e:iO (r+1) c V=iO r c V ++ (List.range c).map (V r):=by
   unfold iO
   rw[List.range_succ,vR,nC]
  rw[e]
  by_cases h:i<r
  ·rw[rN (by rw[cE];exact gidx h a)]
   exact ih h
  have:i=r:=qO
  subst this
  rw[sJ (by rw[cE];omega),cE,show i*c+j-i*c=j by omega,List.getElem?_map,List.getElem?_range a]
  rfl
theorem Zfr {α:Type}[Inhabited α]{r c:Nat}{V:Nat→Nat→α}{i j:Nat}(hi:i<r)(a:j<c):(iO r c V)[i*c+j]! = V i j:=by
 rw[List.getElem!_eq_getElem?_getD,ZhP hi a];rfl
theorem Zoi {α:Type}[Inhabited α]{r c:Nat}{V:Nat→Nat→α}{l:List α}(k:l.length=r*c)(h:∀ i j,i<r→j<c→l[i*c+j]! = V i j):l=iO r c V:=by
 refine List.ext_getElem? fun q=>?_
 by_cases a:q<r*c
 ·have g:0<c:=qJ fun e=>by rw[e] at a;simp at a
  have hi:q/c<r:=sW (by rwa [uG])
  have b:q%c<c:=uO _ g
  have e:q/c*c+q%c=q:=by rw[uG];exact tB q c
  have d:=h _ _ hi b
  have f:=ZhP (V:=V) hi b
  rw[e] at d f
  rw[f,← d,vT l q qO,uV qO]
 rw[vL qO,vL (by rw[cE];omega)]
end Go.Proofs.YtdlgidnkmbklcaaGreatDoor
