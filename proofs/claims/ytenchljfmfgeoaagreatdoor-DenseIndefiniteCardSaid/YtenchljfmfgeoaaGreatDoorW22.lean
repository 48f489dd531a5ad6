/-
 My texts.
-/
import Derived.Test.YtenchljfmfgeoaaGreatDoorW21
import Derived.Test.YtenchljfmfgeoaaGreatDoorW19
set_option maxRecDepth 100000
set_option maxHeartbeats 8000000
namespace Go.Proofs.YtenchljfmfgeoaaGreatDoor
open Go.RowKit Tryz
theorem Zqw {r c:Int}(d:1≤r)(a:r≤64)(e:1≤c)(b:c≤64):IntKind.i64.wrap (r*c)=r*c:=by
 have f:r*c≤64*64:=Int.mul_le_mul a b qO qD
 have g:0≤r*c:=Int.mul_nonneg qO qO
 rw[IntKind.wrap_i64];omega
theorem Zex {i c:Nat}(a:i≤64)(b:c≤64):IntKind.i64.wrap ((i:Int)*(c:Int))=((i*c:Nat):Int):=by
 have d:i*c≤64*64:=vO a b
 rw[IntKind.wrap_i64,← tT];omega
instance {m:Nat}:Nonempty {b:Nat // m≤b}:=⟨⟨m,uH _⟩⟩
theorem Zff {a b:Int}(h:a=b):(a != b)=false:=by simp[h]
theorem xV {α:Type}[Inhabited α]{l:List α}{j:Nat}(h:j<l.length):l[j]! ∈ l:=by rw[vZ l j h];exact sK h
def fl0:ByteArray×Int:=(⟨#[]⟩,0)
def stC (s:ByteArray):List Value:=[.string s]
theorem ZaQ (s:ByteArray):(stC s).length=1:=rfl
theorem Zd4 (s:ByteArray):∀ (k:IntKind) (z:Int),Value.int k z∈stC s→k=.i64:=fun k z h=>by simp[stC] at h
def jA {α β:Type} (f:α→β) (z:β) (xs:List α) (k:Nat):List β:=fill xs.length z ((xs.take k).map f)
theorem ZaC {α β:Type}(f:α→β)(z:β)(xs:List α):jA f z xs 0=List.replicate xs.length z:=by unfold jA;rw[List.take_zero,oQ,ZcX]
theorem ZbD {α β:Type}{f:α→β}{z:β}{xs:List α}{k:Nat}:(jA f z xs k).length=xs.length:=by unfold jA;exact ZcV (by rw[vH,uP];omega)
theorem ZbE {α β:Type}(f:α→β)(z:β)(xs:List α):jA f z xs xs.length=xs.map f:=by
 unfold jA;rw[qZ];have:=ZcW (z:=z) (l:=xs.map f);rwa [vH] at this
theorem ZbF {α β:Type}[Inhabited α]{f:α→β}{z v:β}{xs:List α}{k:Nat}(a:k<xs.length)(c:f xs[k]! = v):(jA f z xs k).set k v=jA f z xs (k+1):=by
 unfold jA
 have b:((xs.take k).map f).length=k:=by rw[vH,uP];omega
 have:=Zi2 (n:=xs.length) (z:=z) (x:=v) (l:=(xs.take k).map f) (by rw[b];exact a)
 rw[b] at this
 rw[this,← c,vZ xs k a,tS a,nE,List.map_singleton]
noncomputable def rdF (b:Int) (s:ByteArray):ByteArray×Int:=(⟨(frT (kK (bytes s) b)).toArray⟩,frE (kK (bytes s) b))
def ZpA (r c:Nat) (fs:List (ByteArray×Int)) (w:World) (e:Ending) (w':World):Prop:=∃ b,e=.returned (.tuple #[.agg #[.int .i64 ((r:Nat):Int),.int .i64 ((c:Nat):Int),.slice (some ⟨b,0,none⟩) fs.length fs.length],.int .i64 0])∧OwnD w' w.heap.size 76 2 (some ⟨b,0,none⟩) fs.length fs.length (fs.flatMap flC)∧Ext w w'
theorem Zry {r c:Int}{n:Nat}(h:1≤r∧r≤64∧1≤c∧c≤64∧(((n:Nat):Int):Int)=r*c):n≤4096:=by
 have a:r*c≤64*64:=Int.mul_le_mul h.2.1 h.2.2.2.1 qO qD
 have:=h.2.2.2.2
 omega
def mtB (r c:Int) (ts:List ByteArray):Bool:=decide (1≤r∧r≤64∧1≤c∧c≤64∧((ts.length:Nat):Int)=r*c) && ts.all (fun s=>(wX (bytes s)).isSome)
theorem Zo3 {p:Nat→Prop}{k:Nat}(h:∀ j,j<k→p j)(b:p k):∀ j,j<k+1→p j:=fun j c=>by
 rcases vL j k with a|a
 ·exact h j a
 rw[show j=k by omega];exact b
theorem ZkR {α:Type}[Inhabited α]{p:α→Bool}{l:List α}:l.all p=true↔∀ j,j<l.length→p l[j]! = true:=by
 rw[vF]
 exact⟨fun h j a=>h _ (by rw[vZ l j a];exact sK a),fun h x b=>by
  obtain⟨j,a,e⟩:=qC b
  have:=h j a
  rw[vZ l j a,e] at this
  exact this⟩
theorem Zqx {r c:Int}{ts:List ByteArray}(a:1≤r∧r≤64∧1≤c∧c≤64∧((ts.length:Nat):Int)=r*c)(b:∀ j,j<ts.length→(wX (bytes ts[j]!)).isSome=true):mtB r c ts=true:=by
 unfold mtB;rw[vS a,Bool.true_and];exact ZkR.2 b
theorem Zrz {r c:Int}{ts:List ByteArray}{k:Nat}(a:k<ts.length)(hv:(wX (bytes ts[k]!)).isSome=false):mtB r c ts=false:=by
 unfold mtB
 rw[Bool.and_eq_false_iff]
 refine Or.inr ?_
 rw[qW]
 intro h
 rw[ZkR.1 h k a] at hv
 cases hv
theorem Zo4 {r c:Int}{ts:List ByteArray}(a:¬ (1≤r∧r≤64∧1≤c∧c≤64∧((ts.length:Nat):Int)=r*c)):mtB r c ts=false:=by
 unfold mtB;rw[uZ a,Bool.false_and]
theorem Zd5 (r c:Int)(A:qA)(n k:Nat)(w:World) :
 yA 60 #[.agg #[.int .i64 r,.int .i64 c,.slice A n k]] w (RetV w (.bool (decide (1≤r∧r≤64∧1≤c∧c≤64∧((n:Nat):Int)=r*c)))):=by
 refine zQ (Φ:=fun w=>True) func60 rfl qK (fun w' m=>trivial) ?_
 refine yY (xq 2 [(1,.p 1 0),yB 2 false] [(1,24,[.v (yI r),.v (yI c),.v (.slice A n k)])] ?_)
 refine yZ (yY (xq 4 [yB 6 (decide (1≤r))] [] ?_))
 rcases bl2 ((decide (1≤r))) with a|a
 ·rw[a]
  have g:=uB a
  refine xq 5 [yB 11 (decide (r≤64))] [] ?_
  rcases bl2 ((decide (r≤64))) with d|d
  ·rw[d]
   have i:=uB d
   refine xq 5 [yB 16 (decide (1≤c))] [] ?_
   rcases bl2 ((decide (1≤c))) with e|e
   ·rw[e]
    have j:=uB e
    refine xq 5 [yB 21 (decide (c≤64))] [] ?_
    rcases bl2 ((decide (c≤64))) with f|f
    ·rw[f]
     have l:=uB f
     refine xq 8 [yJ 24 (n:Int),yJ 29 (IntKind.i64.wrap (r*c))] [] ?_
     rw[(show IntKind.i64.wrap (r*c)=r*c from Zqw qO qO qO qO)]
     refine xq 3 [yB 2 (((n:Int):Int) == (r*c))] [] ?_
     refine yZ (zG ?_)
     refine yR (.bool (((n:Int):Int) == (r*c))) fun w' R Q=>?_
     exact⟨vK (fun b=>Ending.returned (.bool b)) (Bool.eq_iff_iff.2 (by rw[sN,decide_eq_true_iff];exact⟨fun h=>⟨qO,qO,qO,qO,h⟩,fun h=>h.2.2.2.2⟩)),R⟩
    rw[f]
    have l:=uD f
    refine xq 11 [yB 2 false] [] ?_
    refine yZ (zG ?_)
    refine yR (.bool false) fun w' R Q=>?_
    exact⟨by rw[uZ (fun h=>qO)],R⟩
   rw[e]
   have j:=uD e
   refine xq 16 [yB 2 false] [] ?_
   refine yZ (zG ?_)
   refine yR (.bool false) fun w' R Q=>?_
   exact⟨by rw[uZ (fun h=>qO)],R⟩
  rw[d]
  have i:=uD d
  refine xq 21 [yB 2 false] [] ?_
  refine yZ (zG ?_)
  refine yR (.bool false) fun w' R Q=>?_
  exact⟨by rw[uZ (fun h=>qO)],R⟩
 rw[a]
 have g:=uD a
 refine xq 26 [yB 2 false] [] ?_
 refine yZ (zG ?_)
 refine yR (.bool false) fun w' R Q=>?_
 exact⟨by rw[uZ (fun h=>qO)],R⟩
theorem Zi4 (r c:Int)(A:qA)(cap:Nat)(ts:List ByteArray)(w:World)(C:Glob w)(D:SRd w A ts)(o:∀ s∈ts,(bytes s).length≤570) :
 yA 37 #[.agg #[.int .i64 r,.int .i64 c,.slice A ts.length cap]] w (RetV w (.bool (mtB r c ts))):=by
 refine zQ (Φ:=fun w=>(Glob w∧SRd w A ts)) func37 rfl qK (fun w' q=>⟨C.ext q,D.ext q⟩) ?_
 refine yY (xq 2 [(1,.p 1 0),yB 2 false] [(1,24,[.v (yI r),.v (yI c),.v (.slice A ts.length cap)])] ?_)
 refine yZ (zC (yY (xq 1 [(5,.v (.agg #[yI r, yI c,.slice A ts.length cap]))] [] ?_)))
 by_cases g:1≤r∧r≤64∧1≤c∧c≤64∧(((ts.length:Nat):Int):Int)=r*c
 ·have E:ts.length≤4096:=Zry g
  refine xqc 60 [.agg #[yI r, yI c,.slice A ts.length cap]] 6 (fun _:Unit=>.bool true) _ (fun w R Q=>(Zd5 r c A ts.length cap _).mono (fun _ _ h=>zK h (by rw[vS g]))) fun m=>?_
  refine xq 1 [yB 7 false] [] ?_
  refine yZ (xb (zI (zA (zC (yY (xq 4 [eS1 9 A ts.length cap,yJ 10 ((ts.length:Nat):Int),yJ 11 0] [] ?_))))))
  refine yZ (zP ?_)
  refine yC [yB 2 false,eS1 9 A ts.length cap,yJ 10 ((ts.length:Nat):Int),yJ 11 ((0:Nat):Int)] [] (fun w=>(Glob w∧SRd w A ts)) (fun w Q=>⟨Q.1.1,Q.1.2⟩) ?_
  refine xU (fun u y z=>∃ (k:Nat),y=ofL [yB 2 false,eS1 9 A ts.length cap,yJ 10 ((ts.length:Nat):Int),yJ 11 (k:Int)] []∧z=(fun w=>(Glob w∧SRd w A ts))∧(k≤ts.length)∧(∀ j,j<k→(wX (bytes ts[j]!)).isSome=true)∧u=(1+(ts.length-k))) ((1+(ts.length-0))) ⟨0,rfl,rfl,(vQ _),(fun j F=>qO),rfl⟩ ?_
  rintro u y z ⟨k,rfl,rfl,G,B,rfl⟩
  refine yY (xq 1 [yB 12 (decide ((k:Int)<((ts.length:Nat):Int)))] [] ?_)
  refine yZ (zC ?_)
  refine yQ ((decide ((k:Int)<((ts.length:Nat):Int)))) (fun l=>?_) fun l=>?_
  ·have a:k<ts.length:=by have:=uB l;omega
   refine zI (zA (zC (zP (zC (zB ?_)))))
   refine xqk 13 (atA A (k*1)) (fun w R Q=>xQ (t:=22) (e:=9) (sz:=1) (x:=.tmp 9) (ix:=.tmp 11) (len:=ts.length) (cap:=cap) (i:=k) (Q.2.ne a) a) ?_
   obtain⟨b,d⟩:∃ x,ts[k]! = x:=⟨_,rfl⟩
   refine xqk 14 (.string b) (fun w R Q=>by rw[←d];exact Zi3 (t:=9) (x:=.tmp 13) (j:=k) Q.2 a) ?_
   refine xq 1 [yT 4 b] [] ?_
   refine yZ (yY (xq 1 [yT 15 b] [] ?_))
   rcases bl2 (wX (bytes b)).isSome with f|f
   ·refine xqc 61 [.string b] 16 (fun _:Unit=>.bool true) _ (fun w R Q=>(bI b _ Q.1 (by rw[←d];exact o _ (by rw[vZ ts k a];exact sK a))).mono (fun _ _ h=>zK h (by rw[f]))) fun m=>?_
    refine xq 1 [yB 17 false] [] ?_
    refine yZ (xb (zI (xR (zA (zB (xq 1 [yJ 18 (IntKind.i64.wrap ((k:Int)+1))] [] ?_))))))
    rw[yW ((k:Int)+1) (((k+1:Nat):Int)) qO]
    refine xq 1 [yJ 11 ((k+1:Nat):Int)] [] ?_
    refine xe ?_
    refine yP [yB 2 false,eS1 9 A ts.length cap,yJ 10 ((ts.length:Nat):Int),yJ 11 (((k+1):Nat):Int)] [] (fun w=>(Glob w∧SRd w A ts)) (fun w Q=>⟨Q.1.1,Q.1.2⟩) ?_
    exact xG ((1+(ts.length-(k+1)))) qO ⟨(k+1),rfl,rfl,a,(Zo3 B (by rw[d];exact f)),rfl⟩
   refine xqc 61 [.string b] 16 (fun _:Unit=>.bool false) _ (fun w R Q=>(bI b _ Q.1 (by rw[←d];exact o _ (by rw[vZ ts k a];exact sK a))).mono (fun _ _ h=>zK h (by rw[f]))) fun m=>?_
   refine xq 1 [yB 17 true] [] ?_
   refine yZ (xa (yY (xq 1 [yB 2 false] [] ?_)))
   refine yZ (zG (wO (zM (zM (wO (zM ?_))))))
   refine yR (.bool false) fun w' R Q=>?_
   exact⟨by rw[Zrz a (by rw[d];exact f)],R⟩
  have n:k=ts.length:=by have:=uD l;omega
  refine xO (zH (zH (xY (zA (yY (xq 1 [yB 2 true] [] ?_))))))
  refine yZ (zG ?_)
  refine yR (.bool true) fun w' R Q=>?_
  exact⟨by rw[Zqx (by assumption) (n ▸ B)],R⟩
 refine xqc 60 [.agg #[yI r, yI c,.slice A ts.length cap]] 6 (fun _:Unit=>.bool false) _ (fun w R Q=>(Zd5 r c A ts.length cap _).mono (fun _ _ h=>zK h (by rw[uZ g]))) fun m=>?_
 refine xq 1 [yB 7 true] [] ?_
 refine yZ (xa (yY (xq 1 [yB 2 false] [] ?_)))
 refine yZ (zG (zM ?_))
 refine yR (.bool false) fun w' R Q=>?_
 exact⟨by rw[Zo4 (by assumption)],R⟩
theorem Zgg (m:Nat)(r c:Nat)(A:qA)(cap:Nat)(a:List (ByteArray×Int))(w:World)(l:OwnD w m 76 2 A cap a.length (a.flatMap flC))(s:1≤r∧r≤32)(u:1≤c∧c≤32)(y:a.length=r*c)(z:∀ x∈a,fvB (bytes x.1) x.2=true)(B:∀ x∈a,(bytes x.1).length≤1000) :
 yA 18 #[.agg #[.int .i64 ((r:Nat):Int),.int .i64 ((c:Nat):Int),.slice A a.length cap]] w (RetV w (.bool true)):=by
 have C:r*c≤32*32:=vO s.2 u.2
 refine zQ (Φ:=fun w=>True) func18 rfl qK (fun w' E=>trivial) ?_
 refine yY (xq 2 [(1,.p 1 0),yB 2 false] [(1,29,[.v (yI (r:Int)),.v (yI (c:Int)),.v (.slice A a.length cap)])] ?_)
 refine yZ (zC (yY (xq 3 [yB 7 (decide ((r:Int)<1))] [] ?_)))
 rw[(show decide ((r:Int)<1)=false from uZ qO)]
 refine xq 4 [yB 8 false,yB 11 (decide ((r:Int)>32))] [] ?_
 rw[(show decide ((r:Int)>32)=false from uZ qO)]
 refine xq 5 [yB 13 false,yB 16 (decide ((c:Int)<1))] [] ?_
 rw[(show decide ((c:Int)<1)=false from uZ qO)]
 refine xq 5 [yB 18 false,yB 21 (decide ((c:Int)>32))] [] ?_
 rw[(show decide ((c:Int)>32)=false from uZ qO)]
 refine xq 10 [yB 23 false,yJ 26 ((a.length:Nat):Int),yJ 31 (IntKind.i64.wrap ((r:Int)*(c:Int)))] [] ?_
 rw[(show IntKind.i64.wrap ((r:Int)*(c:Int))=((r*c:Nat):Int) from Zex qO qO)]
 refine xq 1 [yB 32 ((((a.length:Nat):Int):Int) != ((r*c:Nat):Int))] [] ?_
 rw[(show ((((a.length:Nat):Int):Int) != ((r*c:Nat):Int))=false from Zff (by rw[y]))]
 refine xq 1 [yB 33 false] [] ?_
 refine yZ (xb (zI (zA (zC (yY (xq 4 [eS1 35 A a.length cap,yJ 36 ((a.length:Nat):Int),yJ 37 0] [] ?_))))))
 refine yZ (zP ?_)
 refine yC [yB 2 false,eS1 35 A a.length cap,yJ 36 ((a.length:Nat):Int),yJ 37 ((0:Nat):Int)] [] (fun w=>True) (fun w Q=>trivial) ?_
 refine xU (fun n o q=>∃ (k:Nat),o=ofL [yB 2 false,eS1 35 A a.length cap,yJ 36 ((a.length:Nat):Int),yJ 37 (k:Int)] []∧q=(fun w=>True)∧(k≤a.length)∧n=(1+(a.length-k))) ((1+(a.length-0))) ⟨0,rfl,rfl,(vQ _),rfl⟩ ?_
 rintro n o q ⟨k,rfl,rfl,F,rfl⟩
 refine yY (xq 1 [yB 38 (decide ((k:Int)<((a.length:Nat):Int)))] [] ?_)
 refine yZ (zC ?_)
 refine yQ ((decide ((k:Int)<((a.length:Nat):Int)))) (fun f=>?_) fun f=>?_
 ·have d:k<a.length:=by have:=uB f;omega
  refine zI (zA (zC (zP (zC (zB ?_)))))
  refine xqk 39 (atA A (k*2)) (fun w R Q=>xQ (t:=27) (e:=76) (sz:=2) (x:=.tmp 35) (ix:=.tmp 37) (len:=a.length) (cap:=cap) (i:=k) ((OwnD.ext l R).ne d) d) ?_
  obtain⟨b,g⟩:∃ x,a[k]! = x:=⟨_,rfl⟩
  refine xqk 40 (yS b.1 b.2) (fun w R Q=>by rw[←g];exact eN (t:=76) (x:=.tmp 39) (j:=k) (OwnD.ext l R) aO d) ?_
  refine xq 2 [(4,.p 4 0)] [yG 4 76 b.1 b.2] ?_
  refine yZ (yY (xq 1 [(41,.v (yS b.1 b.2))] [] ?_))
  refine xqc 44 [yS b.1 b.2] 42 (fun _:Unit=>.bool true) _ (fun w R Q=>(ZcN b.1 b.2 _ (by rw[←g];exact uC (B _ (xV d)) qD)).mono (fun _ _ h=>zK h (by rw[show fvB (bytes b.1) b.2=true by rw[←g];exact z _ (xV d)]))) fun G=>?_
  refine xq 1 [yB 43 false] [] ?_
  refine yZ (xb (zI (xR (zA (zB (xq 1 [yJ 44 (IntKind.i64.wrap ((k:Int)+1))] [] ?_))))))
  rw[yW ((k:Int)+1) (((k+1:Nat):Int)) qO]
  refine xq 1 [yJ 37 ((k+1:Nat):Int)] [] ?_
  refine xe ?_
  refine yP [yB 2 false,eS1 35 A a.length cap,yJ 36 ((a.length:Nat):Int),yJ 37 (((k+1):Nat):Int)] [] (fun w=>True) (fun w Q=>trivial) ?_
  exact xG ((1+(a.length-(k+1)))) qO ⟨(k+1),rfl,rfl,d,rfl⟩
 have D:k=a.length:=by have:=uD f;omega
 refine xO (zH (zH (xY (zA (yY (xq 1 [yB 2 true] [] ?_))))))
 refine yZ (zG ?_)
 refine yR (.bool true) fun w' R Q=>?_
 exact⟨rfl,R⟩
theorem Zhu (r c:Nat)(A:qA)(cap:Nat)(ts:List ByteArray)(b:Int)(w:World)(G:Glob w)(D:SRd w A ts)(H:∀ s∈ts,(bytes s).length≤570)(M:mtB r c ts=true)(N:8≤b)(O:b≤1024)(T:r≤32)(U:c≤32)(V:ts.length≤1024)(P:∀ s∈ts,(kK (bytes s) b).err=0) :
 yA 10 #[.agg #[.int .i64 ((r:Nat):Int),.int .i64 ((c:Nat):Int),.slice A ts.length cap],.int .i64 b] w (ZpA r c (ts.map (rdF b)) w):=by
 obtain⟨B,u⟩:∃ m,m=w.heap.size:=⟨_,rfl⟩
 refine zQ (Φ:=fun w=>True) func10 rfl qK (fun w' W=>trivial) ?_
 refine yY (xq 3 [(2,.p 2 0),(4,.p 4 0),yJ 5 0] [(4,29,[.v (yI 0),.v (yI 0),.v (.slice none 0 0)]),(2,24,[.v (yI (r:Int)),.v (yI (c:Int)),.v (.slice A ts.length cap)])] ?_)
 refine yZ (zC (yY (xq 1 [(11,.v (.agg #[yI (r:Int), yI (c:Int),.slice A ts.length cap]))] [] ?_)))
 refine xqc 37 [.agg #[yI (r:Int), yI (c:Int),.slice A ts.length cap]] 12 (fun _:Unit=>.bool true) _ (fun w R Q=>(Zi4 (r:Int) (c:Int) A cap ts _ (G.ext R) (D.ext R) H).mono (fun _ _ h=>zK h (by rw[M]))) fun S=>?_
 refine xq 1 [yB 13 false] [] ?_
 refine yZ (xb (zI (zA (zC (yY (xq 2 [yB 16 (decide (b<8))] [] ?_))))))
 rw[(show decide (b<8)=false from uZ qO)]
 refine xq 3 [yB 17 false,yB 19 (decide (b>1024))] [] ?_
 rw[(show decide (b>1024)=false from uZ qO)]
 refine xq 1 [yB 20 false] [] ?_
 refine yZ (xb (zI (zA (zC (yY (xq 3 [yB 24 (decide ((r:Int)>32))] [] ?_))))))
 rw[(show decide ((r:Int)>32)=false from uZ qO)]
 refine xq 4 [yB 25 false,yB 28 (decide ((c:Int)>32))] [] ?_
 rw[(show decide ((c:Int)>32)=false from uZ qO)]
 refine xq 1 [yB 29 false] [] ?_
 refine yZ (xb (zI (zA (zC ?_))))
 refine yO 10 zO ?_
 refine xqg 7 [yJ 32 (r:Int),yJ 34 (c:Int),yJ 37 ((ts.length:Nat):Int)] ?_
 refine Zes 38 (fun E:{b:Nat // B≤b}=>.slice (yL E.1) ts.length ts.length) (fun E w=>OwnD w B 76 2 (yL E.1) ts.length ts.length ((List.replicate ts.length fl0).flatMap flC)) qK qK qK qK qK qK qK (fun w R Q=>fB (t:=27) (e:=76) (kl:=.i64) (kc:=.i64) (l:=.tmp 37) (c:=.tmp 37) (bytes:=24) (z:=.agg #[.string ⟨#[]⟩, yI 0]) fl0 aO qD rfl Zgf (u ▸ R.size) (by simp only[maxLen];omega) qO) fun⟨a,I⟩=>?_
 refine xf 2 [yJ 1 b,(2,.p 2 0),(4,.p 4 0),yJ 5 0,(6,.p 6 0),(39,.v (.agg #[yI (r:Int), yI (c:Int),.slice (yL a) ts.length ts.length]))] [(6,29,[.v (yI 0),.v (yI 0),.v (.slice none 0 0)]),(4,29,[.v (yI 0),.v (yI 0),.v (.slice none 0 0)]),(2,24,[.v (yI (r:Int)),.v (yI (c:Int)),.v (.slice A ts.length cap)])] ?_
 refine xz (xq 1 [] [(6,29,[.v (yI (r:Int)),.v (yI (c:Int)),.v (.slice (yL a) ts.length ts.length)])] ?_)
 refine yZ (zC (yY (xq 4 [eS1 41 A ts.length cap,yJ 42 ((ts.length:Nat):Int),yJ 43 0] [] ?_)))
 refine yZ (zP ?_)
 refine yC [yJ 1 b,(4,.p 4 0),yJ 5 0,(6,.p 6 0),eS1 41 A ts.length cap,yJ 42 ((ts.length:Nat):Int),yJ 43 ((0:Nat):Int)] [(6,29,[.v (yI (r:Int)),.v (yI (c:Int)),.v (.slice (yL a) ts.length ts.length)]),(4,29,[.v (yI 0),.v (yI 0),.v (.slice none 0 0)])] (fun w=>OwnD w B 76 2 (yL a) ts.length ts.length ((jA (rdF b) fl0 ts 0).flatMap flC)) (fun w Q=>(by rw[ZaC];exact Q.2)) ?_
 refine xU (fun J K L=>∃ (k:Nat),K=ofL [yJ 1 b,(4,.p 4 0),yJ 5 0,(6,.p 6 0),eS1 41 A ts.length cap,yJ 42 ((ts.length:Nat):Int),yJ 43 (k:Int)] [(6,29,[.v (yI (r:Int)),.v (yI (c:Int)),.v (.slice (yL a) ts.length ts.length)]),(4,29,[.v (yI 0),.v (yI 0),.v (.slice none 0 0)])]∧L=(fun w=>OwnD w B 76 2 (yL a) ts.length ts.length ((jA (rdF b) fl0 ts k).flatMap flC))∧(k≤ts.length)∧J=(1+(ts.length-k))) ((1+(ts.length-0))) ⟨0,rfl,rfl,(vQ _),rfl⟩ ?_
 rintro J K L ⟨k,rfl,rfl,X,rfl⟩
 refine yY (xq 1 [yB 44 (decide ((k:Int)<((ts.length:Nat):Int)))] [] ?_)
 refine yZ (zC ?_)
 refine yQ ((decide ((k:Int)<((ts.length:Nat):Int)))) (fun o=>?_) fun o=>?_
 ·have f:k<ts.length:=by have:=uB o;omega
  refine zI (zA (zC (zP (yY (xq 1 [yJ 45 (k:Int)] [] ?_)))))
  refine xqk 46 (atA A (k*1)) (fun w R Q=>xQ (t:=22) (e:=9) (sz:=1) (x:=.tmp 41) (ix:=.tmp 43) (len:=ts.length) (cap:=cap) (i:=k) ((D.ext R).ne f) f) ?_
  obtain⟨n,g⟩:∃ x,ts[k]! = x:=⟨_,rfl⟩
  refine xqk 47 (.string n) (fun w R Q=>by rw[←g];exact Zi3 (t:=9) (x:=.tmp 46) (j:=k) (D.ext R) f) ?_
  refine xq 2 [yJ 7 (k:Int),yT 8 n] [] ?_
  refine yZ (yY (xq 2 [yT 49 n,yJ 50 b] [] ?_))
  obtain⟨d,q⟩:=yE (kK (bytes n) b)
  have C:d.err=0:=by rw[←q,← g];exact P _ (xV f)
  refine xqc 38 [.string n, yI b] 51 (fun _:Unit=>.tuple #[yS ⟨(frT d).toArray⟩ (frE d), yI 0]) _ (fun w R Q=>(ZlU n b _ (G.ext R) (by rw[←g];exact H _ (xV f))).mono (fun _ _ h=>zK h (by rw[q,C]))) fun S=>?_
  refine xq 6 [(9,.p 9 0),yJ 10 0] [yG 9 76 ⟨(frT d).toArray⟩ (frE d)] ?_
  refine yZ (zC (yY (xq 2 [yB 55 false] [] ?_)))
  refine yZ (xb (zI (zA (zB (xq 4 [eS1 59 (yL a) ts.length ts.length,yJ 60 (k:Int),(61,.v (yS ⟨(frT d).toArray⟩ (frE d)))] [] ?_)))))
  refine xqk 62 (.pointer (some ⟨a,0+k*2,none⟩)) (fun w R Q=>iJ (t:=27) (e:=76) (sz:=2) (x:=.tmp 59) (ix:=.tmp 60) (len:=ts.length) (cap:=ts.length) (i:=k) f) ?_
  refine dN (t:=76) (x:=.tmp 62) (y:=.tmp 61) (j:=k) (new:=flC ((⟨(frT d).toArray⟩,frE d))) B a (yS ⟨(frT d).toArray⟩ (frE d)) (fun w=>True) (fun w Q=>Q.1) f rfl qD (fun h=>Or.inl (uC (u ▸ uH _) h)) (by simp[flC,Value.oneCell']) (Zgf _) rfl (fun w w' Q Y=>trivial) ?_
  rw[←iI aO ((jA (rdF b) fl0 ts k)) k ((⟨(frT d).toArray⟩,frE d)) (by rw[ZbD];exact f),ZbF f (by rw[g,rdF,q])]
  refine xr 0 [yJ 1 b,(4,.p 4 0),yJ 5 0,(6,.p 6 0),eS1 41 A ts.length cap,yJ 42 ((ts.length:Nat):Int),yJ 43 (k:Int)] [(6,29,[.v (yI (r:Int)),.v (yI (c:Int)),.v (.slice (yL a) ts.length ts.length)]),(4,29,[.v (yI 0),.v (yI 0),.v (.slice none 0 0)])] ?_
  refine xe (xR (zA (zB (xq 1 [yJ 63 (IntKind.i64.wrap ((k:Int)+1))] [] ?_))))
  rw[yW ((k:Int)+1) (((k+1:Nat):Int)) qO]
  refine xq 1 [yJ 43 ((k+1:Nat):Int)] [] ?_
  refine xe ?_
  refine yP [yJ 1 b,(4,.p 4 0),yJ 5 0,(6,.p 6 0),eS1 41 A ts.length cap,yJ 42 ((ts.length:Nat):Int),yJ 43 (((k+1):Nat):Int)] [(6,29,[.v (yI (r:Int)),.v (yI (c:Int)),.v (.slice (yL a) ts.length ts.length)]),(4,29,[.v (yI 0),.v (yI 0),.v (.slice none 0 0)])] (fun w=>OwnD w B 76 2 (yL a) ts.length ts.length ((jA (rdF b) fl0 ts (k+1)).flatMap flC)) (fun w Q=>Q.2) ?_
  exact xG ((1+(ts.length-(k+1)))) qO ⟨(k+1),rfl,rfl,f,rfl⟩
 have F:k=ts.length:=by have:=uD o;omega
 refine xO (zH (zH (xY (zA (yY (xq 3 [yJ 5 0] [(4,29,[.v (yI (r:Int)),.v (yI (c:Int)),.v (.slice (yL a) ts.length ts.length)])] ?_))))))
 refine yZ (zG ?_)
 refine yR (.tuple #[.agg #[yI (r:Int), yI (c:Int),.slice (yL a) ts.length ts.length], yI 0]) fun w' R Q=>?_
 exact⟨a,by rw[vH],by have h:=Q;rw[F,ZbE] at h;rw[vH];exact u ▸ h,R⟩
theorem Zd6 (r c:Nat)(w:World)(j:r≤64)(k:c≤64) :
 yA 80 #[.int .i64 ((r:Nat):Int),.int .i64 ((c:Nat):Int)] w (fun e w'=>∃ b,e=.returned (.agg #[.int .i64 ((r:Nat):Int),.int .i64 ((c:Nat):Int),.slice (some ⟨b,0,none⟩) (r*c) (r*c)])∧OwnD w' w.heap.size 109 3 (some ⟨b,0,none⟩) (r*c) (r*c) ((List.replicate (r*c) nb0).flatMap nbC)∧Ext w w'):=by
 obtain⟨h,f⟩:∃ m,m=w.heap.size:=⟨_,rfl⟩
 have n:r*c≤64*64:=vO j k
 refine zQ (Φ:=fun w=>True) func80 rfl qK (fun w' o=>trivial) ?_
 refine yY (xq 1 [(4,.p 4 0)] [(4,97,[.v (yI 0),.v (yI 0),.v (.slice none 0 0)])] ?_)
 refine yZ (yY (xq 5 [yJ 5 (r:Int),yJ 6 (c:Int),yJ 9 (IntKind.i64.wrap ((r:Int)*(c:Int)))] [] ?_))
 rw[(show IntKind.i64.wrap ((r:Int)*(c:Int))=((r*c:Nat):Int) from Zex qO qO)]
 refine yD (d:=10) (fun g:{b:Nat // h≤b}=>.slice (yL g.1) (r*c) (r*c)) (fun g w=>OwnD w h 109 3 (yL g.1) (r*c) (r*c) ((List.replicate (r*c) nb0).flatMap nbC)) (fun w R Q=>fB (t:=95) (e:=109) (kl:=.i64) (kc:=.i64) (l:=.tmp 9) (c:=.tmp 9) (bytes:=40) (z:=.agg #[.bool false,.slice none 0 0, yI 0]) nb0 ZaP qD rfl Zi1 (f ▸ R.size) (by simp only[maxLen];omega) qO) fun⟨a,i⟩=>?_
 refine xr 2 [(4,.p 4 0)] [(4,97,[.v (yI (r:Int)),.v (yI (c:Int)),.v (.slice (yL a) (r*c) (r*c))])] ?_
 refine yZ (zG ?_)
 refine yR (.agg #[yI (r:Int), yI (c:Int),.slice (yL a) (r*c) (r*c)]) fun w' R Q=>?_
 exact⟨a,rfl,f ▸ Q.2,R⟩
theorem bJ (m r c:Nat)(A:qA)(cap n:Nat)(xs:List Nb)(i j:Nat)(w:World)(f:OwnD w m 109 3 A cap n (xs.flatMap nbC))(g:xs.length=n)(hi:i≤64)(h:c≤64)(d:i*c+j<n)(k:n≤4096) :
 yA 81 #[.agg #[.int .i64 ((r:Nat):Int),.int .i64 ((c:Nat):Int),.slice A n cap],.int .i64 ((i:Nat):Int),.int .i64 ((j:Nat):Int)] w (RetV w (.agg #[.bool xs[i*c+j]!.s,.slice xs[i*c+j]!.A xs[i*c+j]!.l xs[i*c+j]!.c,.int .i64 xs[i*c+j]!.e])):=by
 refine zQ (Φ:=fun w=>True) func81 rfl qK (fun w' o=>trivial) ?_
 refine yY (xq 2 [(3,.p 3 0),(6,.p 6 0)] [yF 6 109 false none 0 0 0,(3,97,[.v (yI (r:Int)),.v (yI (c:Int)),.v (.slice A n cap)])] ?_)
 refine yZ (yY (xq 6 [eS1 8 A n cap,yJ 12 (IntKind.i64.wrap ((i:Int)*(c:Int)))] [] ?_))
 rw[(show IntKind.i64.wrap ((i:Int)*(c:Int))=((i*c:Nat):Int) from Zex qO qO)]
 refine xq 2 [yJ 14 (IntKind.i64.wrap (((i*c:Nat):Int)+(j:Int)))] [] ?_
 rw[(show IntKind.i64.wrap (((i*c:Nat):Int)+(j:Int))=((i*c+j:Nat):Int) by rw[IntKind.wrap_i64];omega)]
 refine xqk 15 (atA A ((i*c+j)*3)) (fun w R Q=>xQ (t:=95) (e:=109) (sz:=3) (x:=.tmp 8) (ix:=.tmp 14) (len:=n) (cap:=cap) (i:=i*c+j) ((OwnD.ext f R).ne d) d) ?_
 obtain⟨a,b⟩:∃ x,xs[i*c+j]! = x:=⟨_,rfl⟩
 refine xqk 16 (yV a.s a.A a.l a.c a.e) (fun w R Q=>by rw[←b];exact eN (t:=109) (x:=.tmp 15) (j:=i*c+j) (OwnD.ext f R) ZaP (g.symm ▸ d)) ?_
 refine xq 1 [] [yF 6 109 a.s a.A a.l a.c a.e] ?_
 refine yZ (zG ?_)
 refine yR (yV a.s a.A a.l a.c a.e) fun w' R Q=>?_
 exact⟨by rw[←b],R⟩
theorem ZcY (m r c b cap n:Nat)(xs:List Nb)(i j:Nat)(x:Nb)(w:World)(d:OwnD w m 109 3 (some ⟨b,0,none⟩) cap n (xs.flatMap nbC))(f:xs.length=n)(hi:i≤64)(h:c≤64)(a:i*c+j<n)(k:n≤4096) :
 yA 83 #[.agg #[.int .i64 ((r:Nat):Int),.int .i64 ((c:Nat):Int),.slice (some ⟨b,0,none⟩) n cap],.int .i64 ((i:Nat):Int),.int .i64 ((j:Nat):Int), yV x.s x.A x.l x.c x.e] w (fun e w'=>e=.returned (.tuple #[])∧Fr (fun i=>i=b) w w'∧OwnD w' m 109 3 (some ⟨b,0,none⟩) cap n ((xs.set (i*c+j) x).flatMap nbC)):=by
 refine Zd3 (fun i=>i=b) (Φ:=fun w=>OwnD w m 109 3 (yL b) cap n (xs.flatMap nbC)) func83 rfl qK (fun w' g=>OwnD.ext d g) ?_
 refine yY (xq 2 [(4,.p 4 0),(7,.p 7 0)] [yF 7 109 x.s x.A x.l x.c x.e,(4,97,[.v (yI (r:Int)),.v (yI (c:Int)),.v (.slice (yL b) n cap)])] ?_)
 refine yZ (zB (xq 6 [eS1 9 (yL b) n cap,yJ 13 (IntKind.i64.wrap ((i:Int)*(c:Int)))] [] ?_))
 rw[(show IntKind.i64.wrap ((i:Int)*(c:Int))=((i*c:Nat):Int) from Zex qO qO)]
 refine xq 2 [yJ 15 (IntKind.i64.wrap (((i*c:Nat):Int)+(j:Int)))] [] ?_
 rw[(show IntKind.i64.wrap (((i*c:Nat):Int)+(j:Int))=((i*c+j:Nat):Int) by rw[IntKind.wrap_i64];omega)]
 refine xq 1 [(16,.v (yV x.s x.A x.l x.c x.e))] [] ?_
 refine xqk 17 (.pointer (some ⟨b,0+(i*c+j)*3,none⟩)) (fun w R Q=>iJ (t:=95) (e:=109) (sz:=3) (x:=.tmp 9) (ix:=.tmp 15) (len:=n) (cap:=cap) (i:=i*c+j) a) ?_
 refine dN (t:=109) (x:=.tmp 17) (y:=.tmp 16) (j:=i*c+j) (new:=nbC x) m b (yV x.s x.A x.l x.c x.e) (fun w=>True) (fun w Q=>Q) a rfl qD (fun _=>Or.inr rfl) (by simp[nbC,Value.oneCell']) (Zi1 _) rfl (fun w w' Q o=>trivial) ?_
 rw[←iI ZaP xs (i*c+j) x (f.symm ▸ a)]
 refine xr 0 [] [] ?_
 refine xe ?_
 refine ZpU (v:=.tuple #[]) qK fun w' R Q=>?_
 exact⟨rfl,R,Q.2⟩
theorem aP (s:Bool)(A:qA)(l c:Nat)(e:Int)(w:World) :
 yA 90 #[yV s A l c e,.int .i64 0] w (RetV w (yV s A l c e)):=by
 refine zQ (Φ:=fun w=>True) func90 rfl qK (fun w' a=>trivial) ?_
 refine yY (xq 2 [(2,.p 2 0),(4,.p 4 0)] [yF 4 109 false none 0 0 0,yF 2 109 s A l c e] ?_)
 refine yZ (zC (yY (xq 2 [yB 6 false] [] ?_)))
 refine yZ (xb (zI (zA (yY (xq 2 [] [yF 4 109 s A l c e] ?_)))))
 refine yZ (zG ?_)
 refine yR (yV s A l c e) fun w' R Q=>?_
 exact⟨rfl,R⟩
theorem OwnD.boxN {w w':World}{m n c k:Nat}{e:TypeId}{A:qA}{xs:List Value}(h:OwnD w' w.heap.size e k A c n xs)(a:m≤w.heap.size):BoxN w w' (fun v=>OwnD v m e k A c n xs):=fun S b d f=>OwnD.mono (h.fr f (fun i hi g=>by
 have j:=(h.blk hi).1
 have l:=(b i g).1
 omega)) a
theorem Zd7 {r c n m0:Nat}{w w':World}{e:Ending}(a:m0≤w.heap.size)(f:r*c=n)(h:∃ b,e=.returned (.agg #[.int .i64 ((r:Nat):Int),.int .i64 ((c:Nat):Int),.slice (some ⟨b,0,none⟩) (r*c) (r*c)])∧OwnD w' w.heap.size 109 3 (some ⟨b,0,none⟩) (r*c) (r*c) ((List.replicate (r*c) nb0).flatMap nbC)∧Ext w w') :
 lQ (fun b:{b:Nat // m0≤b}=>.agg #[.int .i64 ((r:Nat):Int),.int .i64 ((c:Nat):Int),.slice (some ⟨b.1,0,none⟩) n n]) (fun b w=>OwnD w m0 109 3 (some ⟨b.1,0,none⟩) n n ((List.replicate n nb0).flatMap nbC)) w e w':=by
 subst f
 obtain⟨b,rfl,d,Q⟩:=h
 exact⟨⟨b,uC a (d.blk rfl).1⟩,rfl,Q,d.boxN a⟩
theorem Zd8 {n k:Nat}{α:Type}{z x:α}{l:List α}(a:l.length=k)(h:k<n):(fill n z l).set k x=fill n z (l ++ [x]):=by subst a;exact Zi2 h
theorem Zi5 {α β γ:Type}[Inhabited β]{f:α→γ}{g:β→γ}{ys:List α}{a:List β}{k:Nat}{v:α}(c:ys.map f=(a.take k).map g)(b:k<a.length)(d:f v=g a[k]!):(ys ++ [v]).map f=(a.take (k+1)).map g:=by
 rw[nE,c,List.map_singleton,d,vZ a k b,tS b,nE,List.map_singleton]
theorem xF.snoc {w:World}{ys:List Nb}{x:Nb}(h:xF w ys)(b:NbOk w x):xF w (ys ++ [x]):=fun y a=>by
 rcases rA.1 a with a|a
 ·exact h y a
 rw[sE.1 a];exact b
def ldV (x:ByteArray×Int):Fv3:=((ldR (bytes x.1) x.2).s,(ldR (bytes x.1) x.2).m,(ldR (bytes x.1) x.2).e)
def ftV (x:Nb):ByteArray×Int:=(⟨(Lib.itoa (sg x.s x.m)).toArray⟩,x.e)
def exV (x:ByteArray×Int):ByteArray:=⟨(exT (bytes x.1) x.2).toArray⟩
def ZbG (sh:Value→Value) (r c:Nat) (vs:List Fv3) (w:World) (e:Ending) (w':World):Prop:=∃ b xs,e=.returned (sh (.agg #[.int .i64 ((r:Nat):Int),.int .i64 ((c:Nat):Int),.slice (some ⟨b,0,none⟩) xs.length xs.length]))∧xs.map nbV=vs∧OwnD w' w.heap.size 109 3 (some ⟨b,0,none⟩) xs.length xs.length (xs.flatMap nbC)∧xF w' xs∧Ext w w'
def ZaD (sh:Value→Value) (r c:Nat) (fs:List (ByteArray×Int)) (w:World) (e:Ending) (w':World):Prop:=∃ b,e=.returned (sh (.agg #[.int .i64 ((r:Nat):Int),.int .i64 ((c:Nat):Int),.slice (some ⟨b,0,none⟩) fs.length fs.length]))∧OwnD w' w.heap.size 76 2 (some ⟨b,0,none⟩) fs.length fs.length (fs.flatMap flC)∧Ext w w'
theorem ZnB (m:Nat)(r c:Nat)(A:qA)(cap:Nat)(a:List (ByteArray×Int))(w:World)(H:OwnD w m 76 2 A cap a.length (a.flatMap flC))(J:1≤r∧r≤32)(K:1≤c∧c≤32)(L:a.length=r*c)(M:∀ x∈a,fvB (bytes x.1) x.2=true)(N:∀ x∈a,(bytes x.1).length≤1000) :
 yA 126 #[.agg #[.int .i64 ((r:Nat):Int),.int .i64 ((c:Nat):Int),.slice A a.length cap]] w (ZbG (fun v=>.tuple #[v,.bool true]) r c (a.map ldV) w):=by
 obtain⟨m0,E⟩:∃ m,m=w.heap.size:=⟨_,rfl⟩
 have V:r*c≤32*32:=vO J.2 K.2
 refine zQ (Φ:=fun w=>True) func126 rfl qK (fun w' W=>trivial) ?_
 refine yY (xq 3 [(1,.p 1 0),(2,.p 2 0),yB 3 false] [(2,97,[.v (yI 0),.v (yI 0),.v (.slice none 0 0)]),(1,29,[.v (yI (r:Int)),.v (yI (c:Int)),.v (.slice A a.length cap)])] ?_)
 refine yZ (zC (yY (xq 1 [(7,.v (.agg #[yI (r:Int), yI (c:Int),.slice A a.length cap]))] [] ?_)))
 refine xqc 18 [.agg #[yI (r:Int), yI (c:Int),.slice A a.length cap]] 8 (fun _:Unit=>.bool true) _ (fun w R Q=>yN (Zgg m r c A cap a _ (OwnD.ext H R) J K L M N)) fun X=>?_
 refine xq 1 [yB 9 false] [] ?_
 refine yZ (xb (zI (zA (yY (xq 4 [yJ 12 (r:Int),yJ 14 (c:Int)] [] ?_)))))
 refine xqc 80 [yI (r:Int), yI (c:Int)] 15 (fun b:{b:Nat // m0≤b}=>.agg #[yI (r:Int), yI (c:Int),.slice (yL b.1) a.length a.length]) _ (fun w R Q=>(Zd6 r c _ qO qO).mono (fun _ _ h=>Zd7 (m0:=m0) (E ▸ R.size) L.symm h)) fun⟨f,O⟩=>?_
 refine xq 2 [(4,.p 4 0)] [(4,97,[.v (yI (r:Int)),.v (yI (c:Int)),.v (.slice (yL f) a.length a.length)])] ?_
 refine yZ (zC (yY (xq 4 [eS1 17 A a.length cap,yJ 18 ((a.length:Nat):Int),yJ 19 0] [] ?_)))
 refine yZ (zP ?_)
 refine yC [(2,.p 2 0),yB 3 false,(4,.p 4 0),eS1 17 A a.length cap,yJ 18 ((a.length:Nat):Int),yJ 19 ((0:Nat):Int)] [(4,97,[.v (yI (r:Int)),.v (yI (c:Int)),.v (.slice (yL f) a.length a.length)]),(2,97,[.v (yI 0),.v (yI 0),.v (.slice none 0 0)])] (fun w=>(xF w ([]:List Nb)∧OwnD w m0 109 3 (yL f) a.length a.length ((fill a.length nb0 ([]:List Nb)).flatMap nbC))) (fun w Q=>⟨(fun _ h=>nomatch h),(by rw[ZcX];exact Q.2)⟩) ?_
 refine xU (fun P S T=>∃ (k:Nat) (z:List Nb),S=ofL [(2,.p 2 0),yB 3 false,(4,.p 4 0),eS1 17 A a.length cap,yJ 18 ((a.length:Nat):Int),yJ 19 (k:Int)] [(4,97,[.v (yI (r:Int)),.v (yI (c:Int)),.v (.slice (yL f) a.length a.length)]),(2,97,[.v (yI 0),.v (yI 0),.v (.slice none 0 0)])]∧T=(fun w=>(xF w z∧OwnD w m0 109 3 (yL f) a.length a.length ((fill a.length nb0 z).flatMap nbC)))∧(k≤a.length)∧(z.map nbV=(a.take k).map ldV)∧P=(1+(a.length-k))) ((1+(a.length-0))) ⟨0,([]:List Nb),rfl,rfl,(vQ _),rfl,rfl⟩ ?_
 rintro P S T ⟨k,z,rfl,rfl,Y,G,rfl⟩
 refine yY (xq 1 [yB 20 (decide ((k:Int)<((a.length:Nat):Int)))] [] ?_)
 refine yZ (zC ?_)
 refine yQ ((decide ((k:Int)<((a.length:Nat):Int)))) (fun B=>?_) fun B=>?_
 ·have l:k<a.length:=by have:=uB B;omega
  have C:z.length=k:=by have:=vK List.length G;rw[vH,vH,uP] at this;omega
  refine zI (zA (zC (zP (yY (xq 1 [yJ 21 (k:Int)] [] ?_)))))
  refine xqk 22 (atA A (k*2)) (fun w R Q=>xQ (t:=27) (e:=76) (sz:=2) (x:=.tmp 17) (ix:=.tmp 19) (len:=a.length) (cap:=cap) (i:=k) ((OwnD.ext H R).ne l) l) ?_
  obtain⟨g,u⟩:∃ x,a[k]! = x:=⟨_,rfl⟩
  refine xqk 23 (yS g.1 g.2) (fun w R Q=>by rw[←u];exact eN (t:=76) (x:=.tmp 22) (j:=k) (OwnD.ext H R) aO l) ?_
  refine xq 3 [yJ 5 (k:Int),(6,.p 6 0)] [yG 6 76 g.1 g.2] ?_
  refine xe (zA ?_)
  refine Zo6 9 7 31 (fun _ _ _ _ h=>h) ?_
  refine xqg 4 [eS1 26 (yL f) a.length a.length,yJ 27 (k:Int),(28,.v (yS g.1 g.2))] ?_
  obtain⟨d,D⟩:=yE (ldR (bytes g.1) g.2)
  refine xqd 100 [yS g.1 g.2] 29 (shLd true d) _ (fun w R Q=>yM ZgM ((show Calls _ _ _ _ (Zgc w true d) by rw[←D,← show fvB (bytes g.1) g.2=true by rw[←u];exact M _ (xV l)];exact Zd2 g.1 g.2 _ (by rw[←u];exact uC (N _ (xV l)) qD)))) fun⟨n,o,q⟩=>?_
  refine xqg 3 [(30,.v (yV d.s n o q d.e))] ?_
  refine xqj 32 (.pointer (some ⟨f,0+k*3,none⟩)) (fun w Q=>iJ (t:=95) (e:=109) (sz:=3) (x:=.tmp 26) (ix:=.tmp 27) (len:=a.length) (cap:=a.length) (i:=k) l) ?_
  refine xz ?_
  refine dN (t:=109) (x:=.tmp 32) (y:=.tmp 30) (j:=k) (new:=nbC ((⟨d.s,n,o,q,d.m,d.e⟩:Nb))) m0 f (yV d.s n o q d.e) (fun w=>(xF w z∧zF w (.slice n o q) d.m)) (fun w Q=>Q.1.2) l rfl qD (fun h=>Or.inl (uC (E ▸ uH _) h)) (by simp[nbC,Value.oneCell']) (Zi1 _) rfl (fun w w' Q U=>⟨xF.row Q.1.1 Q.1.2 U,zF.rowD Q.2 Q.1.2 U⟩) ?_
  rw[←iI ZaP ((fill a.length nb0 z)) k ((⟨d.s,n,o,q,d.m,d.e⟩:Nb)) (by rw[ZcV qO];exact l),Zd8 C l]
  refine xr 0 [(2,.p 2 0),yB 3 false,(4,.p 4 0),eS1 17 A a.length cap,yJ 18 ((a.length:Nat):Int),yJ 19 (k:Int)] [(4,97,[.v (yI (r:Int)),.v (yI (c:Int)),.v (.slice (yL f) a.length a.length)]),(2,97,[.v (yI 0),.v (yI 0),.v (.slice none 0 0)])] ?_
  refine xe (xR (zA (zB (xq 1 [yJ 33 (IntKind.i64.wrap ((k:Int)+1))] [] ?_))))
  rw[yW ((k:Int)+1) (((k+1:Nat):Int)) qO]
  refine xq 1 [yJ 19 ((k+1:Nat):Int)] [] ?_
  refine xe ?_
  refine yP [(2,.p 2 0),yB 3 false,(4,.p 4 0),eS1 17 A a.length cap,yJ 18 ((a.length:Nat):Int),yJ 19 (((k+1):Nat):Int)] [(4,97,[.v (yI (r:Int)),.v (yI (c:Int)),.v (.slice (yL f) a.length a.length)]),(2,97,[.v (yI 0),.v (yI 0),.v (.slice none 0 0)])] (fun w=>(xF w (z ++ [(⟨d.s,n,o,q,d.m,d.e⟩:Nb)])∧OwnD w m0 109 3 (yL f) a.length a.length ((fill a.length nb0 (z ++ [(⟨d.s,n,o,q,d.m,d.e⟩:Nb)])).flatMap nbC))) (fun w Q=>⟨(xF.snoc Q.1.1 Q.1.2),Q.2⟩) ?_
  exact xG ((1+(a.length-(k+1)))) qO ⟨(k+1),(z ++ [(⟨d.s,n,o,q,d.m,d.e⟩:Nb)]),rfl,rfl,l,(Zi5 G l (by rw[u,ldV,D];rfl)),rfl⟩
 have F:k=a.length:=by have:=uD B;omega
 have C:z.length=k:=by have:=vK List.length G;rw[vH,vH,uP] at this;omega
 refine xO (zH (zH (xY (zA (yY (xq 3 [yB 3 true] [(2,97,[.v (yI (r:Int)),.v (yI (c:Int)),.v (.slice (yL f) a.length a.length)])] ?_))))))
 refine yZ (zG ?_)
 refine yR (.tuple #[.agg #[yI (r:Int), yI (c:Int),.slice (yL f) a.length a.length],.bool true]) fun w' R Q=>?_
 exact⟨f,z,by have h:=C;rw[F] at h;rw[h],by rw[G,F,qZ],by have h:=Q.2;have I:=C;rw[F] at I;rw[←I,ZcW] at h;rw[I] at h ⊢;exact E ▸ h,Q.1,R⟩
theorem Zj7 (m r c:Nat)(A:qA)(cap n:Nat)(xs:List Nb)(w:World)(E:OwnD w m 109 3 A cap n (xs.flatMap nbC))(K:xF w xs)(q:xs.length=n)(L:Glob w)(M:n≤4096)(F:∀ x∈xs,wl x.m≤1000000∧(x.s=true→0<x.m)) :
 yA 127 #[.agg #[.int .i64 ((r:Nat):Int),.int .i64 ((c:Nat):Int),.slice A n cap]] w (ZaD (fun v=>v) r c (xs.map ftV) w):=by
 obtain⟨B,u⟩:∃ m,m=w.heap.size:=⟨_,rfl⟩
 refine zQ (Φ:=fun w=>True) func127 rfl qK (fun w' N=>trivial) ?_
 refine yY (xq 2 [(1,.p 1 0),(2,.p 2 0)] [(2,29,[.v (yI 0),.v (yI 0),.v (.slice none 0 0)]),(1,97,[.v (yI (r:Int)),.v (yI (c:Int)),.v (.slice A n cap)])] ?_)
 refine yZ (zC ?_)
 refine yO 10 zO ?_
 refine xqg 7 [yJ 7 (r:Int),yJ 9 (c:Int),yJ 12 (n:Int)] ?_
 refine Zes 13 (fun C:{b:Nat // B≤b}=>.slice (yL C.1) n n) (fun C w=>OwnD w B 76 2 (yL C.1) n n ((List.replicate n fl0).flatMap flC)) qK qK qK qK qK qK qK (fun w R Q=>fB (t:=27) (e:=76) (kl:=.i64) (kc:=.i64) (l:=.tmp 12) (c:=.tmp 12) (bytes:=24) (z:=.agg #[.string ⟨#[]⟩, yI 0]) fl0 aO qD rfl Zgf (u ▸ R.size) (by simp only[maxLen];omega) qO) fun⟨d,G⟩=>?_
 refine xf 2 [(1,.p 1 0),(2,.p 2 0),(3,.p 3 0),(14,.v (.agg #[yI (r:Int), yI (c:Int),.slice (yL d) n n]))] [(3,29,[.v (yI 0),.v (yI 0),.v (.slice none 0 0)]),(2,29,[.v (yI 0),.v (yI 0),.v (.slice none 0 0)]),(1,97,[.v (yI (r:Int)),.v (yI (c:Int)),.v (.slice A n cap)])] ?_
 refine xz (xq 1 [] [(3,29,[.v (yI (r:Int)),.v (yI (c:Int)),.v (.slice (yL d) n n)])] ?_)
 refine yZ (zC (yY (xq 4 [eS1 16 A n cap,yJ 17 (n:Int),yJ 18 0] [] ?_)))
 refine yZ (zP ?_)
 refine yC [(2,.p 2 0),(3,.p 3 0),eS1 16 A n cap,yJ 17 (n:Int),yJ 18 ((0:Nat):Int)] [(3,29,[.v (yI (r:Int)),.v (yI (c:Int)),.v (.slice (yL d) n n)]),(2,29,[.v (yI 0),.v (yI 0),.v (.slice none 0 0)])] (fun w=>OwnD w B 76 2 (yL d) n n ((jA ftV fl0 xs 0).flatMap flC)) (fun w Q=>(by rw[ZaC,q];exact Q.2)) ?_
 refine xU (fun H I J=>∃ (k:Nat),I=ofL [(2,.p 2 0),(3,.p 3 0),eS1 16 A n cap,yJ 17 (n:Int),yJ 18 (k:Int)] [(3,29,[.v (yI (r:Int)),.v (yI (c:Int)),.v (.slice (yL d) n n)]),(2,29,[.v (yI 0),.v (yI 0),.v (.slice none 0 0)])]∧J=(fun w=>OwnD w B 76 2 (yL d) n n ((jA ftV fl0 xs k).flatMap flC))∧(k≤n)∧H=(1+(n-k))) ((1+(n-0))) ⟨0,rfl,rfl,(vQ _),rfl⟩ ?_
 rintro H I J ⟨k,rfl,rfl,O,rfl⟩
 refine yY (xq 1 [yB 19 (decide ((k:Int)<(n:Int)))] [] ?_)
 refine yZ (zC ?_)
 refine yQ ((decide ((k:Int)<(n:Int)))) (fun o=>?_) fun o=>?_
 ·have f:k<n:=by have:=uB o;omega
  refine zI (zA (zC (zP (yY (xq 1 [yJ 20 (k:Int)] [] ?_)))))
  refine xqk 21 (atA A (k*3)) (fun w R Q=>xQ (t:=95) (e:=109) (sz:=3) (x:=.tmp 16) (ix:=.tmp 18) (len:=n) (cap:=cap) (i:=k) ((OwnD.ext E R).ne f) f) ?_
  obtain⟨a,g⟩:∃ x,xs[k]! = x:=⟨_,rfl⟩
  refine xqk 22 (yV a.s a.A a.l a.c a.e) (fun w R Q=>by rw[←g];exact eN (t:=109) (x:=.tmp 21) (j:=k) (OwnD.ext E R) ZaP (q.symm ▸ f)) ?_
  refine xq 3 [yJ 4 (k:Int),(5,.p 5 0)] [yF 5 109 a.s a.A a.l a.c a.e] ?_
  refine xe (zA ?_)
  refine yO 6 zO ?_
  refine xqg 4 [eS1 24 (yL d) n n,yJ 25 (k:Int),(26,.v (yV a.s a.A a.l a.c a.e))] ?_
  refine xqd 108 [yV a.s a.A a.l a.c a.e] 27 (fun _:Unit=>.agg #[.string ⟨(Lib.itoa (sg a.s a.m)).toArray⟩, yI a.e]) _ (fun w R Q=>yN (ZeX a.s a.A a.l a.c a.m a.e _ (L.ext R) (by rw[←g];exact (K.ext R).get (q.symm ▸ f)) (by rw[←g];exact (F _ (xV (q.symm ▸ f))).1) (by rw[←g];exact (F _ (xV (q.symm ▸ f))).2))) fun P=>?_
  refine xqj 28 (.pointer (some ⟨d,0+k*2,none⟩)) (fun w Q=>iJ (t:=27) (e:=76) (sz:=2) (x:=.tmp 24) (ix:=.tmp 25) (len:=n) (cap:=n) (i:=k) f) ?_
  refine xz ?_
  refine dN (t:=76) (x:=.tmp 28) (y:=.tmp 27) (j:=k) (new:=flC ((⟨(Lib.itoa (sg a.s a.m)).toArray⟩,a.e))) B d (yS ⟨(Lib.itoa (sg a.s a.m)).toArray⟩ a.e) (fun w=>True) (fun w Q=>Q.1) f rfl qD (fun h=>Or.inl (uC (u ▸ uH _) h)) (by simp[flC,Value.oneCell']) (Zgf _) rfl (fun w w' Q S=>trivial) ?_
  rw[←iI aO ((jA ftV fl0 xs k)) k ((⟨(Lib.itoa (sg a.s a.m)).toArray⟩,a.e)) (by rw[ZbD];exact q.symm ▸ f),ZbF (q.symm ▸ f) (by rw[g];rfl)]
  refine xr 0 [(2,.p 2 0),(3,.p 3 0),eS1 16 A n cap,yJ 17 (n:Int),yJ 18 (k:Int)] [(3,29,[.v (yI (r:Int)),.v (yI (c:Int)),.v (.slice (yL d) n n)]),(2,29,[.v (yI 0),.v (yI 0),.v (.slice none 0 0)])] ?_
  refine xe (xR (zA (zB (xq 1 [yJ 29 (IntKind.i64.wrap ((k:Int)+1))] [] ?_))))
  rw[yW ((k:Int)+1) (((k+1:Nat):Int)) qO]
  refine xq 1 [yJ 18 ((k+1:Nat):Int)] [] ?_
  refine xe ?_
  refine yP [(2,.p 2 0),(3,.p 3 0),eS1 16 A n cap,yJ 17 (n:Int),yJ 18 (((k+1):Nat):Int)] [(3,29,[.v (yI (r:Int)),.v (yI (c:Int)),.v (.slice (yL d) n n)]),(2,29,[.v (yI 0),.v (yI 0),.v (.slice none 0 0)])] (fun w=>OwnD w B 76 2 (yL d) n n ((jA ftV fl0 xs (k+1)).flatMap flC)) (fun w Q=>Q.2) ?_
  exact xG ((1+(n-(k+1)))) qO ⟨(k+1),rfl,rfl,f,rfl⟩
 have D:k=n:=by have:=uD o;omega
 refine xO (zH (zH (xY (zA (yY (xq 2 [] [(2,29,[.v (yI (r:Int)),.v (yI (c:Int)),.v (.slice (yL d) n n)])] ?_))))))
 refine yZ (zG ?_)
 refine yR (.agg #[yI (r:Int), yI (c:Int),.slice (yL d) n n]) fun w' R Q=>?_
 exact⟨d,by rw[vH,q],by have h:=Q;rw[D,← q,ZbE] at h;rw[vH];exact u ▸ h,R⟩
theorem ZlY (m:Nat)(r c:Nat)(A:qA)(cap:Nat)(a:List (ByteArray×Int))(w:World)(u:OwnD w m 76 2 A cap a.length (a.flatMap flC))(K:Glob w)(D:1≤r∧r≤32)(E:1≤c∧c≤32)(L:a.length=r*c)(M:∀ x∈a,fvB (bytes x.1) x.2=true)(F:∀ x∈a,(bytes x.1).length≤1000)(N:∀ x∈a,-1000≤x.2∧x.2≤1000) :
 yA 36 #[.agg #[.int .i64 ((r:Nat):Int),.int .i64 ((c:Nat):Int),.slice A a.length cap]] w (fun e w'=>∃ b,e=.returned (.tuple #[.agg #[.int .i64 ((r:Nat):Int),.int .i64 ((c:Nat):Int),.slice (some ⟨b,0,none⟩) a.length a.length],.int .i64 0])∧OwnD w' w.heap.size 9 1 (some ⟨b,0,none⟩) a.length a.length ((a.map exV).flatMap stC)∧Ext w w'):=by
 obtain⟨s,q⟩:∃ m,m=w.heap.size:=⟨_,rfl⟩
 have O:r*c≤32*32:=vO D.2 E.2
 refine zQ (Φ:=fun w=>True) func36 rfl qK (fun w' S=>trivial) ?_
 refine yY (xq 3 [(1,.p 1 0),(2,.p 2 0),yJ 3 0] [(2,24,[.v (yI 0),.v (yI 0),.v (.slice none 0 0)]),(1,29,[.v (yI (r:Int)),.v (yI (c:Int)),.v (.slice A a.length cap)])] ?_)
 refine yZ (zC (yY (xq 1 [(7,.v (.agg #[yI (r:Int), yI (c:Int),.slice A a.length cap]))] [] ?_)))
 refine xqc 18 [.agg #[yI (r:Int), yI (c:Int),.slice A a.length cap]] 8 (fun _:Unit=>.bool true) _ (fun w R Q=>yN (Zgg m r c A cap a _ (OwnD.ext u R) D E L M F)) fun P=>?_
 refine xq 1 [yB 9 false] [] ?_
 refine yZ (xb (zI (zA (zC ?_))))
 refine yO 10 zO ?_
 refine xqg 7 [yJ 12 (r:Int),yJ 14 (c:Int),yJ 17 ((a.length:Nat):Int)] ?_
 refine Zes 18 (fun B:{b:Nat // s≤b}=>.slice (yL B.1) a.length a.length) (fun B w=>OwnD w s 9 1 (yL B.1) a.length a.length ((List.replicate a.length (⟨#[]⟩:ByteArray)).flatMap stC)) qK qK qK qK qK qK qK (fun w R Q=>fB (t:=22) (e:=9) (kl:=.i64) (kc:=.i64) (l:=.tmp 17) (c:=.tmp 17) (bytes:=16) (z:=.string ⟨#[]⟩) (⟨#[]⟩:ByteArray) ZaQ qD rfl Zd4 (q ▸ R.size) (by simp only[maxLen];omega) qO) fun⟨f,G⟩=>?_
 refine xf 2 [(1,.p 1 0),(2,.p 2 0),yJ 3 0,(4,.p 4 0),(19,.v (.agg #[yI (r:Int), yI (c:Int),.slice (yL f) a.length a.length]))] [(4,24,[.v (yI 0),.v (yI 0),.v (.slice none 0 0)]),(2,24,[.v (yI 0),.v (yI 0),.v (.slice none 0 0)]),(1,29,[.v (yI (r:Int)),.v (yI (c:Int)),.v (.slice A a.length cap)])] ?_
 refine xz (xq 1 [] [(4,24,[.v (yI (r:Int)),.v (yI (c:Int)),.v (.slice (yL f) a.length a.length)])] ?_)
 refine yZ (zC (yY (xq 4 [eS1 21 A a.length cap,yJ 22 ((a.length:Nat):Int),yJ 23 0] [] ?_)))
 refine yZ (zP ?_)
 refine yC [(2,.p 2 0),yJ 3 0,(4,.p 4 0),eS1 21 A a.length cap,yJ 22 ((a.length:Nat):Int),yJ 23 ((0:Nat):Int)] [(4,24,[.v (yI (r:Int)),.v (yI (c:Int)),.v (.slice (yL f) a.length a.length)]),(2,24,[.v (yI 0),.v (yI 0),.v (.slice none 0 0)])] (fun w=>OwnD w s 9 1 (yL f) a.length a.length ((jA exV ⟨#[]⟩ a 0).flatMap stC)) (fun w Q=>(by rw[ZaC];exact Q.2)) ?_
 refine xU (fun H I J=>∃ (k:Nat),I=ofL [(2,.p 2 0),yJ 3 0,(4,.p 4 0),eS1 21 A a.length cap,yJ 22 ((a.length:Nat):Int),yJ 23 (k:Int)] [(4,24,[.v (yI (r:Int)),.v (yI (c:Int)),.v (.slice (yL f) a.length a.length)]),(2,24,[.v (yI 0),.v (yI 0),.v (.slice none 0 0)])]∧J=(fun w=>OwnD w s 9 1 (yL f) a.length a.length ((jA exV ⟨#[]⟩ a k).flatMap stC))∧(k≤a.length)∧H=(1+(a.length-k))) ((1+(a.length-0))) ⟨0,rfl,rfl,(vQ _),rfl⟩ ?_
 rintro H I J ⟨k,rfl,rfl,T,rfl⟩
 refine yY (xq 1 [yB 24 (decide ((k:Int)<((a.length:Nat):Int)))] [] ?_)
 refine yZ (zC ?_)
 refine yQ ((decide ((k:Int)<((a.length:Nat):Int)))) (fun o=>?_) fun o=>?_
 ·have g:k<a.length:=by have:=uB o;omega
  refine zI (zA (zC (zP (yY (xq 1 [yJ 25 (k:Int)] [] ?_)))))
  refine xqk 26 (atA A (k*2)) (fun w R Q=>xQ (t:=27) (e:=76) (sz:=2) (x:=.tmp 21) (ix:=.tmp 23) (len:=a.length) (cap:=cap) (i:=k) ((OwnD.ext u R).ne g) g) ?_
  obtain⟨d,n⟩:∃ x,a[k]! = x:=⟨_,rfl⟩
  refine xqk 27 (yS d.1 d.2) (fun w R Q=>by rw[←n];exact eN (t:=76) (x:=.tmp 26) (j:=k) (OwnD.ext u R) aO g) ?_
  refine xq 3 [yJ 5 (k:Int),(6,.p 6 0)] [yG 6 76 d.1 d.2] ?_
  refine xe (zA ?_)
  refine yO 6 zO ?_
  refine xqg 4 [eS1 29 (yL f) a.length a.length,yJ 30 (k:Int),(31,.v (yS d.1 d.2))] ?_
  refine xqd 59 [yS d.1 d.2] 32 (fun _:Unit=>.string ⟨(exT (bytes d.1) d.2).toArray⟩) _ (fun w R Q=>yN (ZlV d.1 d.2 _ (K.ext R) (by rw[←n];exact uC (F _ (xV g)) qD) (by rw[←n];exact fun _=>N _ (xV g)))) fun P=>?_
  refine xqj 33 (.pointer (some ⟨f,0+k*1,none⟩)) (fun w Q=>iJ (t:=22) (e:=9) (sz:=1) (x:=.tmp 29) (ix:=.tmp 30) (len:=a.length) (cap:=a.length) (i:=k) g) ?_
  refine xz ?_
  refine dN (t:=9) (x:=.tmp 33) (y:=.tmp 32) (j:=k) (new:=stC ((⟨(exT (bytes d.1) d.2).toArray⟩))) s f (.string ⟨(exT (bytes d.1) d.2).toArray⟩) (fun w=>True) (fun w Q=>Q.1) g rfl qD (fun h=>Or.inl (uC (q ▸ uH _) h)) (by simp[stC,Value.oneCell']) (Zd4 _) rfl (fun w w' Q U=>trivial) ?_
  rw[←iI ZaQ ((jA exV ⟨#[]⟩ a k)) k ((⟨(exT (bytes d.1) d.2).toArray⟩)) (by rw[ZbD];exact g),ZbF g (by rw[n];rfl)]
  refine xr 0 [(2,.p 2 0),yJ 3 0,(4,.p 4 0),eS1 21 A a.length cap,yJ 22 ((a.length:Nat):Int),yJ 23 (k:Int)] [(4,24,[.v (yI (r:Int)),.v (yI (c:Int)),.v (.slice (yL f) a.length a.length)]),(2,24,[.v (yI 0),.v (yI 0),.v (.slice none 0 0)])] ?_
  refine xe (xR (zA (zB (xq 1 [yJ 34 (IntKind.i64.wrap ((k:Int)+1))] [] ?_))))
  rw[yW ((k:Int)+1) (((k+1:Nat):Int)) qO]
  refine xq 1 [yJ 23 ((k+1:Nat):Int)] [] ?_
  refine xe ?_
  refine yP [(2,.p 2 0),yJ 3 0,(4,.p 4 0),eS1 21 A a.length cap,yJ 22 ((a.length:Nat):Int),yJ 23 (((k+1):Nat):Int)] [(4,24,[.v (yI (r:Int)),.v (yI (c:Int)),.v (.slice (yL f) a.length a.length)]),(2,24,[.v (yI 0),.v (yI 0),.v (.slice none 0 0)])] (fun w=>OwnD w s 9 1 (yL f) a.length a.length ((jA exV ⟨#[]⟩ a (k+1)).flatMap stC)) (fun w Q=>Q.2) ?_
  exact xG ((1+(a.length-(k+1)))) qO ⟨(k+1),rfl,rfl,g,rfl⟩
 have C:k=a.length:=by have:=uD o;omega
 refine xO (zH (zH (xY (zA (yY (xq 3 [yJ 3 0] [(2,24,[.v (yI (r:Int)),.v (yI (c:Int)),.v (.slice (yL f) a.length a.length)])] ?_))))))
 refine yZ (zG ?_)
 refine yR (.tuple #[.agg #[yI (r:Int), yI (c:Int),.slice (yL f) a.length a.length], yI 0]) fun w' R Q=>?_
 exact⟨f,rfl,by have h:=Q;rw[C,ZbE] at h;exact q ▸ h,R⟩
end Go.Proofs.YtenchljfmfgeoaaGreatDoor
namespace Go.Proofs.YtenchljfmfgeoaaGreatDoor
def FvOk (v:Fv3):Prop:=wl v.2.1≤100000∧okE v.2.2∧(v.2.1=0∨v.2.1%2=1)∧(v.1=true→0<v.2.1)
theorem Zgj:FvOk (false,0,0):=⟨uC (Nat.le_of_eq (lK.2 rfl)) (vQ _),by show okE 0;unfold okE;omega,Or.inl rfl,fun h=>by cases h⟩
def fvR (r:FR):Fv3:=(r.s,r.m,r.e)
def mulV (x y:Fv3) (b:Nat):FR:=wK (x.1 != y.1) (x.2.1*y.2.1) 1 (x.2.2+y.2.2) b
def subV (x y:Fv3) (b:Nat):FR:=sumR x.1 x.2.1 x.2.2 (if y.2.1=0 then y.1 else !y.1) y.2.1 y.2.2 b
def divV (x y:Fv3) (b:Nat):FR:=Zbv (x.1 != y.1) x.2.1 y.2.1 (x.2.2-y.2.2) b
def cI (x:Fv3) (b:Nat):FR:=fC x.1 x.2.1 x.2.2 b
def musT (r:FR):Option Fv3:=if r.err=0 then some (fvR r) else none
theorem kM {r:FR}{v:Fv3}(h:musT r=some v):r.err=0∧v=fvR r:=by
 unfold musT at h
 split at h
 ·injection h with h;exact⟨by assumption,h.symm⟩
 cases h
def FrOk (r:FR):Prop:=r.err=0→FvOk (fvR r)
theorem ZgP {r:FR}{v:Fv3}(a:FrOk r)(h:musT r=some v):FvOk v:=by
 obtain⟨b,rfl⟩:=kM h
 exact a b
theorem Zce {k:Int}:FrOk ⟨false,0,0,k⟩:=fun _=>Zgj
theorem ZkU {s:Bool}{n:Nat}{e:Int}(h:wl n≤100000):FrOk (wP s n e):=by
 unfold wP
 split
 ·exact Zce
 rename_i c
 have a:=kJ (n:=n) qO
 split
 ·rename_i b
  exact fun _=>⟨uC (wT (vG _ _)) h,b,Or.inr a.1,fun _=>by show 0<oddM n;omega⟩
 exact Zce
theorem Zi6 {n d bits:Nat}(b:0<n)(c:0<d)(e:0<bits):rndM n d bits≤2^bits:=by
 have f:=Zbs b c e
 have g:=(ZgH (fa n (rndK n d bits)) (fb d (rndK n d bits))).2
 have a:=gB (fq n d (rndK n d bits))
 rw[f] at a
 unfold rndM
 unfold fq at a
 omega
theorem ZgQ {n b:Nat}(h:n≤2^b)(c:b≤4096):wl n≤100000:=uC (wT h) (uC (Za5 (a:=b) (b:=100) qO) qD)
theorem Zcf {s:Bool}{n d b:Nat}{e:Int}(c:0<d)(f:0<b)(a:b≤4096):FrOk (wK s n d e b):=by
 unfold wK
 split
 ·exact Zce
 exact ZkU (ZgQ (Zi6 qO c f) a)
theorem ZqA {x y:Fv3}{b:Nat}(c:0<b)(a:b≤4096):FrOk (mulV x y b):=Zcf qD c a
theorem ZkV {x y:Fv3}{b:Nat}(c:0<b)(a:b≤4096):FrOk (subV x y b):=by
 unfold subV sumR
 split
 ·exact Zcf qD c a
 split
 ·exact Zcf qD c a
 exact Zcf qD c a
theorem ZgR {x y:Fv3}{b:Nat}(c:0<b)(a:b≤4096):FrOk (divV x y b):=by
 unfold divV Zbv
 split
 ·exact Zce
 exact Zcf qO c a
theorem ZnE {y:Nat}{mk:Bool}:2*iP y 0 mk≤y+1:=by
 unfold iP
 simp only[vV,rM,Nat.mod_one,vW,Nat.pow_one,ne_eq,not_true,false_or]
 split<;>omega
theorem ZkW {M n:Nat}{E:Int}(c:M%2=1)(d:0<n):sqM M E n≤2^n:=by
 have e:(blen M:Int)+(E-2*sqK M E n+2)=2*n+1∨(blen M:Int)+(E-2*sqK M E n+2)=2*n+2:=by unfold sqK;omega
 have f:=Za4 (show 0<M by omega) (E-2*sqK M E n+2) qO
 unfold sqM
 generalize fq M 1 (-(E-2*sqK M E n+2))=F at *
 have u:=xW.1 (show blen F≤2*n+2 by omega)
 have a:isq F<2^(n+1):=by
  refine qF fun h=>?_
  have b:=vO h h
  rw[←uR,show n+1+(n+1)=2*n+2 by omega] at b
  have g:=(dG F).1
  omega
 have:=ZnE (y:=isq F) (mk:=jY M (E-2*sqK M E n+2))
 rw[uN] at a
 omega
theorem Zfh {x:Fv3}{b:Nat}(c:FvOk x)(d:0<b)(a:b≤4096):FrOk (cI x b):=by
 unfold cI fC
 split
 ·exact Zce
 split
 ·exact Zce
 exact ZkU (ZgQ (ZkW (c.2.2.1.resolve_left (by assumption)) d) a)
def at3 (l:List Fv3) (i:Nat):Fv3:=l.getD i (false,0,0)
def sgnV (v:Fv3):Int:=if v.2.1=0 then 0 else if v.1=true then -1 else 1
def cJ (t x y:Fv3) (b:Nat):Option Fv3:=(musT (mulV x y b)).bind fun p=>musT (subV t p b)
def chK (b:Nat) (L:List Fv3) (i j n:Nat):Nat→Nat→Fv3→Option Fv3
 | 0,_,t=>some t
 | f+1,k,t=>(cJ t (at3 L (i*n+k)) (at3 L (j*n+k)) b).bind fun t=>chK b L i j n f (k+1) t
def chE (b:Nat) (L:List Fv3) (i j n:Nat) (t:Fv3):Option Fv3:=if j<i then musT (divV t (at3 L (j*n+j)) b) else if sgnV t≤0 then none else musT (cI t b)
def chI (b:Nat) (A:List Fv3) (n j:Nat):Nat→Nat→List Fv3→Option (List Fv3)
 | 0,_,L=>some L
 | f+1,i,L=>(chK b L i j n j 0 (at3 A (i*n+j))).bind fun t=>(chE b L i j n t).bind fun v=>chI b A n j f (i+1) (L.set (i*n+j) v)
def chJ (b:Nat) (A:List Fv3) (n:Nat):Nat→Nat→List Fv3→Option (List Fv3)
 | 0,_,L=>some L
 | f+1,j,L=>(chI b A n j (n-j) j L).bind fun L=>chJ b A n f (j+1) L
def Zc0 (b:Nat) (A:List Fv3) (n:Nat):Option (List Fv3):=chJ b A n n 0 (List.replicate (n*n) (false,0,0))
end Go.Proofs.YtenchljfmfgeoaaGreatDoor
namespace Go.Proofs.YtenchljfmfgeoaaGreatDoor
open Go.RowKit Tryz
theorem aQ {w w':World}{e:Ending}{r:FR}(b:r.err=0)(h:xX w r e w'):lQ (fun q:ShN=>.tuple #[yV r.s q.1 q.2.1 q.2.2 r.e,.int .i64 0]) (fun x w=>zF w (xI x) r.m) w e w':=by
 have a:=wC h
 unfold shNb at a
 rw[b] at a
 exact a
theorem FvOk.wl {v:Fv3}(h:FvOk v):wl v.2.1≤100000:=uC h.1 qD
theorem FvOk.lo {v:Fv3}(h:FvOk v) : -1073741824≤v.2.2:=by have:=h.2.1;unfold okE at this;omega
theorem FvOk.hi {v:Fv3}(h:FvOk v):v.2.2≤1073741824:=by have:=h.2.1;unfold okE at this;omega
def ZpD (v:Fv3) (w:World) (e:Ending) (w':World):Prop:=∃ z:Nb,e=.returned (yV z.s z.A z.l z.c z.e)∧nbV z=v∧NbOk w' z∧Ext w w'
theorem Zi7 (t x y:Nb)(b:Nat)(v:Fv3)(w:World)(G:Glob w)(J:NbOk w t)(K:NbOk w x)(L:NbOk w y)(C:FvOk (nbV t))(D:FvOk (nbV x))(E:FvOk (nbV y))(M:8≤b)(N:b≤1024)(O:cJ (nbV t) (nbV x) (nbV y) b=some v) :
 yA 82 #[yV t.s t.A t.l t.c t.e, yV x.s x.A x.l x.c x.e, yV y.s y.A y.l y.c y.e,.int .i64 ((b:Nat):Int)] w (ZpD v w):=by
 obtain⟨p,F,H⟩:=tB.1 O
 refine zQ (Φ:=fun w=>True) func82 rfl qK (fun w' S=>trivial) ?_
 refine yY (xq 4 [(4,.p 4 0),(5,.p 5 0),(6,.p 6 0),(8,.p 8 0)] [yF 8 109 false none 0 0 0,yF 6 109 y.s y.A y.l y.c y.e,yF 5 109 x.s x.A x.l x.c x.e,yF 4 109 t.s t.A t.l t.c t.e] ?_)
 refine yZ (zC ?_)
 refine yO 13 zO ?_
 refine xqg 4 [(9,.v (yV t.s t.A t.l t.c t.e)),(10,.v (yV x.s x.A x.l x.c x.e)),(11,.v (yV y.s y.A y.l y.c y.e)),yJ 12 (b:Int)] ?_
 obtain⟨d,f⟩:=yE (mulV (nbV x) (nbV y) b)
 have z:d.err=0:=by rw[←f];exact (kM F).1
 have u:FvOk (fvR d):=by rw[←f];exact ZqA qO qO (by rw[f];exact z)
 refine xqd 130 [yV x.s x.A x.l x.c x.e, yV y.s y.A y.l y.c y.e, yI (b:Int)] 13 (fun q:ShN=>.tuple #[yV d.s q.1 q.2.1 q.2.2 d.e, yI 0]) _ (fun w R Q=>((show Calls _ _ _ _ (xX w d) by rw[←f];exact Zm3 x.s x.A x.l x.c x.m x.e y.s y.A y.l y.c y.m y.e b qO qO _ (G.ext R) (K.ext R) D.wl D.lo D.hi (L.ext R) E.wl E.lo E.hi)).mono (fun _ _ h=>aQ z h)) fun⟨n,o,r⟩=>?_
 refine xqg 2 [(14,.v (yV d.s n o r d.e)),yJ 15 0] ?_
 refine xqd 90 [yV d.s n o r d.e, yI 0] 16 (fun _:Unit=>.agg #[.bool d.s,.slice n o r, yI d.e]) _ (fun w R Q=>yN (aP d.s n o r d.e _)) fun P=>?_
 refine xqg 1 [yJ 17 (b:Int)] ?_
 obtain⟨a,g⟩:=yE (subV (nbV t) (fvR d) b)
 have B:a.err=0:=by rw[←g];exact (kM (by rw[←f,← (kM F).2];exact H)).1
 have I:FvOk (fvR a):=by rw[←g];exact ZkV qO qO (by rw[g];exact B)
 refine xqd 129 [yV t.s t.A t.l t.c t.e, yV d.s n o r d.e, yI (b:Int)] 18 (fun q:ShN=>.tuple #[yV a.s q.1 q.2.1 q.2.2 a.e, yI 0]) _ (fun w R Q=>((show Calls _ _ _ _ (xX w a) by rw[←g];exact ZnF t.s t.A t.l t.c t.m t.e d.s n o r d.m d.e b qO qO _ (G.ext R) (J.ext R) C.wl C.lo C.hi Q.1.2 u.wl u.lo u.hi)).mono (fun _ _ h=>aQ B h)) fun⟨i,j,k⟩=>?_
 refine xqg 2 [(19,.v (yV a.s i j k a.e)),yJ 20 0] ?_
 refine xqd 90 [yV a.s i j k a.e, yI 0] 21 (fun _:Unit=>.agg #[.bool a.s,.slice i j k, yI a.e]) _ (fun w R Q=>yN (aP a.s i j k a.e _)) fun P=>?_
 refine xz (xq 1 [] [yF 8 109 a.s i j k a.e] ?_)
 refine yZ (zG ?_)
 refine yR (yV a.s i j k a.e) fun w' R Q=>?_
 exact⟨(⟨a.s,i,j,k,a.m,a.e⟩:Nb),rfl,by rw[(kM H).2,(kM F).2,f,g];rfl,Q.1.2,R⟩
theorem wG {i j n:Nat}(hi:i<n)(a:j<n):i*n+j<n*n:=by
 have:=uE n (show i+1≤n by omega)
 rw[rD] at this
 omega
theorem aR {ys:List Nb}{i:Nat}(h:i<ys.length):at3 (ys.map nbV) i=nbV ys[i]! := by
 unfold at3
 rw[tG,List.getElem?_map,uO h,vZ ys i h]
 rfl
theorem Zc1 {ys:List Nb}{i:Nat}{x:Nb}(h:i<ys.length)(a:ys[i]! = x):at3 (ys.map nbV) i=nbV x:=by rw[aR h,a]
theorem Zgk {ys:List Nb}{i:Nat}{z:Nb}(h:∀ y∈ys,FvOk (nbV y))(b:FvOk (nbV z)):∀ y∈ys.set i z,FvOk (nbV y):=fun y c=>by
 rcases rE c with a|a
 ·exact h y a
 rw[a];exact b
theorem Zi8 (k:Nat):∀ y∈List.replicate k nb0,FvOk (nbV y):=fun y a=>by rw[(rS.1 a).2];exact Zgj
theorem Zhv (k:Nat):(List.replicate k nb0).map nbV=List.replicate k (false,0,0):=List.map_replicate
theorem Zfi {t x y v:Fv3}{b:Nat}(c:0<b)(a:b≤4096)(h:cJ t x y b=some v):FvOk v:=by
 obtain⟨p,_,d⟩:=tB.1 h
 exact ZgP (ZkV c a) d
theorem Zo7 {b n j:Nat}{A L Lf:List Fv3}(h:j<n)(d:chJ b A n (n-j) j L=some Lf):∃ c,chI b A n j (n-j) j L=some c∧chJ b A n (n-(j+1)) (j+1) c=some Lf:=by
 obtain⟨f,e⟩:∃ f,n-j=f+1:=⟨n-j-1,qO⟩
 rw[show n-(j+1)=f by omega]
 have a:chJ b A n (f+1) j L=some Lf:=by rw[←e];exact d
 exact tB.1 a
theorem Zi9 {b n i j:Nat}{A L L1:List Fv3}(h:i<n)(a:chI b A n j (n-i) i L=some L1):∃ t v,chK b L i j n j 0 (at3 A (i*n+j))=some t∧chE b L i j n t=some v∧chI b A n j (n-(i+1)) (i+1) (L.set (i*n+j) v)=some L1:=by
 obtain⟨f,c⟩:∃ f,n-i=f+1:=⟨n-i-1,qO⟩
 rw[show n-(i+1)=f by omega]
 have d:chI b A n j (f+1) i L=some L1:=by rw[←c];exact a
 obtain⟨t,e,g⟩:=tB.1 d
 obtain⟨v,k,l⟩:=tB.1 g
 exact⟨t,v,e,k,l⟩
theorem Zja {b n i j k:Nat}{L:List Fv3}{t t1:Fv3}(h:k<j)(a:chK b L i j n (j-k) k t=some t1):∃ v,cJ t (at3 L (i*n+k)) (at3 L (j*n+k)) b=some v∧chK b L i j n (j-(k+1)) (k+1) v=some t1:=by
 obtain⟨f,c⟩:∃ f,j-k=f+1:=⟨j-k-1,qO⟩
 rw[show j-(k+1)=f by omega]
 have d:chK b L i j n (f+1) k t=some t1:=by rw[←c];exact a
 exact tB.1 d
theorem Zcg {b n i j:Nat}{L:List Fv3}{t v d:Fv3}(h:j<i)(Q:chE b L i j n t=some v)(a:at3 L (j*n+j)=d):musT (divV t d b)=some v:=by
 unfold chE at Q
 rw[uQ h,a] at Q
 exact Q
theorem aS {b n i j:Nat}{L:List Fv3}{t v:Fv3}(h:¬ j<i)(Q:chE b L i j n t=some v):¬ sgnV t≤0∧musT (cI t b)=some v:=by
 unfold chE at Q
 rw[uL h] at Q
 split at Q
 ·cases Q
 exact⟨by assumption,Q⟩
theorem ZkX {v:Fv3}{w w':World}{e:Ending}(h:ZpD v w e w'):lQ (fun z:{z:Nb // nbV z=v}=>.agg #[.bool z.1.s,.slice z.1.A z.1.l z.1.c,.int .i64 z.1.e]) (fun z w=>NbOk w z.1) w e w':=by
 obtain⟨z,rfl,a,b,Q⟩:=h
 exact⟨⟨z,a⟩,rfl,Q,boxn Q (fun S d f g=>zF.nrb b f g)⟩
theorem Zhw {w w':World}{e:Ending}{v:Value}{x:Nb}(h:RetV w v e w')(a:NbOk w x):lQ (fun _:Unit=>v) (fun _ w=>NbOk w x) w e w':=by
 obtain⟨rfl,Q⟩:=h
 exact⟨(),rfl,Q,boxn Q (fun S b c d=>zF.nrb (zF.ext a Q) c d)⟩
instance {v:Fv3}:Nonempty {z:Nb // nbV z=v}:=⟨⟨⟨v.1,none,0,0,v.2.1,v.2.2⟩,rfl⟩⟩
theorem Zc2 {m b cap n k:Nat}{e:TypeId}{xs:List Value}{w w':World}{a:Ending}(h:a=.returned (.tuple #[])∧Fr (fun i=>i=b) w w'∧OwnD w' m e k (some ⟨b,0,none⟩) cap n xs):∃ x:Unit,a=.returned ((fun _:Unit=>.tuple #[]) x)∧Fr (fun i=>i=b) w w'∧BoxT b w w' (fun w=>OwnD w m e k (some ⟨b,0,none⟩) cap n xs) :=
 ⟨(),h.1,h.2.1,fun S c d f=>h.2.2.fr f (fun i hi g=>by
  injection hi with hi
  injection hi with hi
  exact (d i g).2.1 hi.symm)⟩
theorem ZbI {w:World}{m b cap n:Nat}{e:TypeId}{ys:List Nb}(h:OwnD w m e 3 (some ⟨b,0,none⟩) cap n (ys.flatMap nbC))(c:0<ys.length):w.cell? ⟨b,0,none⟩=some (.bool ys[0]!.s):=by
 have d:=dM ZaP ys 0 0 c qD
 obtain⟨g,a,_,f⟩:=h.at (j:=0*3+0) d
 injection a with a
 injection a with a
 subst a
 exact f
theorem ZnG (m n:Nat)(A:qA)(cap:Nat)(xs:List Nb)(b F I:Nat)(Lf:List Fv3)(w:World)(hg:Glob w)(hM:Blk 97 w F #[.int .i64 ((n:Nat):Int),.int .i64 ((n:Nat):Int),.slice A (n*n) cap])(hB:Blk 3 w I #[.int .i64 ((b:Nat):Int)])(hO:OwnD w m 109 3 A cap (n*n) (xs.flatMap nbC))(hN:xF w xs)(hl:xs.length=n*n)(hn:n≤32)(y0:8≤b)(z0:b≤1024)(A0:∀ x∈xs,FvOk (nbV x))(hC:Zc0 b (xs.map nbV) n=some Lf) :
 yA 95 #[.pointer (some ⟨F,0,none⟩),.pointer (some ⟨I,0,none⟩)] w (ZbG (fun v=>v) n n Lf w):=by
 obtain⟨m0,d0⟩:∃ m,m=w.heap.size:=⟨_,rfl⟩
 have I0:F<m0:=d0 ▸ hM.lt
 have J0:I<m0:=d0 ▸ hB.lt
 have K0:n*n≤32*32:=vO hn hn
 refine zQ (Φ:=fun w=>(Blk 97 w F #[yI (n:Int), yI (n:Int),.slice A (n*n) cap]∧Blk 3 w I #[yI (b:Int)])) func95 rfl qK (fun w' hf=>⟨hM.ext hf,hB.ext hf⟩) ?_
 refine yY (xq 1 [(2,.p 2 0)] [(2,97,[.v (yI 0),.v (yI 0),.v (.slice none 0 0)])] ?_)
 refine yZ (yY (xq 1 [(8,.v (.pointer (yL F)))] [] ?_))
 refine xqk 9 (yI (n:Int)) (fun w R Q=>xZ (t:=3) (x:=.tmp 8) (g:=F) (off:=0) (Blk.news Q.1 0 _ rfl)) ?_
 refine xq 1 [(10,.v (.pointer (some ⟨F,0+1,none⟩)))] [] ?_
 refine xqk 11 (yI (n:Int)) (fun w R Q=>xZ (t:=3) (x:=.tmp 10) (g:=F) (off:=0+1) (Blk.news Q.1 1 _ rfl)) ?_
 refine xqc 80 [yI (n:Int), yI (n:Int)] 12 (fun b:{b:Nat // m0≤b}=>.agg #[yI (n:Int), yI (n:Int),.slice (yL b.1) (n*n) (n*n)]) _ (fun w R Q=>(Zd6 n n _ qO qO).mono (fun _ _ h=>Zd7 (m0:=m0) (d0 ▸ R.size) rfl h)) fun⟨a,k0⟩=>?_
 refine xq 2 [(3,.p 3 0)] [(3,97,[.v (yI (n:Int)),.v (yI (n:Int)),.v (.slice (yL a) (n*n) (n*n))])] ?_
 refine yZ (zC (yY (xq 1 [(13,.v (.pointer (some ⟨F,0+1,none⟩)))] [] ?_)))
 refine xqk 14 (yI (n:Int)) (fun w R Q=>xZ (t:=3) (x:=.tmp 13) (g:=F) (off:=0+1) (Blk.news Q.1.1 1 _ rfl)) ?_
 refine xq 1 [yJ 15 0] [] ?_
 refine yZ (zP ?_)
 refine yC [(0,.v (.pointer (yL F))),(1,.v (.pointer (yL I))),(2,.p 2 0),(3,.p 3 0),yJ 14 (n:Int),yJ 15 ((0:Nat):Int)] [(3,97,[.v (yI (n:Int)),.v (yI (n:Int)),.v (.slice (yL a) (n*n) (n*n))]),(2,97,[.v (yI 0),.v (yI 0),.v (.slice none 0 0)])] (fun w=>(((Blk 97 w F #[yI (n:Int), yI (n:Int),.slice A (n*n) cap]∧Blk 3 w I #[yI (b:Int)])∧xF w (List.replicate (n*n) nb0))∧OwnD w m0 109 3 (yL a) (n*n) (n*n) ((List.replicate (n*n) nb0).flatMap nbC))) (fun w Q=>⟨⟨⟨Q.1.1,Q.1.2⟩,(xF.zero _ _)⟩,(by exact Q.2)⟩) ?_
 refine xU (fun nn ss ff=>∃ (j:Nat) (E:List Nb),ss=ofL [(0,.v (.pointer (yL F))),(1,.v (.pointer (yL I))),(2,.p 2 0),(3,.p 3 0),yJ 14 (n:Int),yJ 15 (j:Int)] [(3,97,[.v (yI (n:Int)),.v (yI (n:Int)),.v (.slice (yL a) (n*n) (n*n))]),(2,97,[.v (yI 0),.v (yI 0),.v (.slice none 0 0)])]∧ff=(fun w=>(((Blk 97 w F #[yI (n:Int), yI (n:Int),.slice A (n*n) cap]∧Blk 3 w I #[yI (b:Int)])∧xF w E)∧OwnD w m0 109 3 (yL a) (n*n) (n*n) (E.flatMap nbC)))∧(j≤n)∧(E.length=n*n)∧(∀ y∈E,FvOk (nbV y))∧(chJ b (xs.map nbV) n (n-j) j (E.map nbV)=some Lf)∧nn=(1+(n-j))) ((1+(n-0))) ⟨0,(List.replicate (n*n) nb0),rfl,rfl,(vQ _),qS,(Zi8 _),(by rw[Zhv];exact hC),rfl⟩ ?_
 rintro nn ss ff ⟨j,E,rfl,rfl,hj,B,U,hL,rfl⟩
 refine yY (xq 1 [yB 16 (decide ((j:Int)<(n:Int)))] [] ?_)
 refine yZ (zC ?_)
 refine yQ ((decide ((j:Int)<(n:Int)))) (fun g0=>?_) fun g0=>?_
 ·have r:j<n:=by have:=uB g0;omega
  obtain⟨L1,hI,hJ⟩:=Zo7 r hL
  refine zI (zA (zC (zP (yY (xq 2 [yJ 4 (j:Int)] [] ?_)))))
  refine yZ (yY (xq 2 [yJ 5 (j:Int)] [] ?_))
  refine yZ (zP ?_)
  refine yC [(0,.v (.pointer (yL F))),(1,.v (.pointer (yL I))),(2,.p 2 0),(3,.p 3 0),yJ 4 (j:Int),yJ 5 (j:Int),yJ 14 (n:Int),yJ 15 (j:Int)] [(3,97,[.v (yI (n:Int)),.v (yI (n:Int)),.v (.slice (yL a) (n*n) (n*n))]),(2,97,[.v (yI 0),.v (yI 0),.v (.slice none 0 0)])] (fun w=>(((Blk 97 w F #[yI (n:Int), yI (n:Int),.slice A (n*n) cap]∧Blk 3 w I #[yI (b:Int)])∧xF w E)∧OwnD w m0 109 3 (yL a) (n*n) (n*n) (E.flatMap nbC))) (fun w Q=>⟨⟨⟨Q.1.1.1,Q.1.1.2⟩,Q.1.2⟩,Q.2⟩) ?_
  refine xU (fun nn ss ff=>∃ (i:Nat) (E:List Nb),ss=ofL [(0,.v (.pointer (yL F))),(1,.v (.pointer (yL I))),(2,.p 2 0),(3,.p 3 0),yJ 4 (j:Int),yJ 5 (i:Int),yJ 14 (n:Int),yJ 15 (j:Int)] [(3,97,[.v (yI (n:Int)),.v (yI (n:Int)),.v (.slice (yL a) (n*n) (n*n))]),(2,97,[.v (yI 0),.v (yI 0),.v (.slice none 0 0)])]∧ff=(fun w=>(((Blk 97 w F #[yI (n:Int), yI (n:Int),.slice A (n*n) cap]∧Blk 3 w I #[yI (b:Int)])∧xF w E)∧OwnD w m0 109 3 (yL a) (n*n) (n*n) (E.flatMap nbC)))∧(j≤i)∧(i≤n)∧(E.length=n*n)∧(∀ y∈E,FvOk (nbV y))∧(chI b (xs.map nbV) n j (n-i) i (E.map nbV)=some L1)∧nn=(1+(n-i))) ((1+(n-j))) ⟨j,E,rfl,rfl,(uH _),(rW r),B,U,hI,rfl⟩ ?_
  rintro nn ss ff ⟨i,E,rfl,rfl,H0,hi,B,U,hI,rfl⟩
  refine zC (yY (xq 2 [yJ 19 (i:Int),(20,.v (.pointer (yL F)))] [] ?_))
  refine xqk 21 (yI (n:Int)) (fun w R Q=>xZ (t:=3) (x:=.tmp 20) (g:=F) (off:=0) (Blk.news Q.1.1.1 0 _ rfl)) ?_
  refine xq 1 [yB 22 (decide ((i:Int)<(n:Int)))] [] ?_
  refine xe (zA ?_)
  refine yQ ((decide ((i:Int)<(n:Int)))) (fun h0=>?_) fun h0=>?_
  ·have J:i<n:=by have:=uB h0;omega
   obtain⟨t1,u,hK,e0,t0⟩:=Zi9 J hI
   refine zI (zA (zC (zP (zC (zB ?_)))))
   refine xqk 25 (.agg #[yI (n:Int), yI (n:Int),.slice A (n*n) cap]) (fun w R Q=>ZkQ (t:=97) (x:=.tmp 0) (g:=F) (cs:=[yI (n:Int), yI (n:Int),.slice A (n*n) cap]) Q.1.1.1) ?_
   refine xq 2 [yJ 26 (i:Int),yJ 27 (j:Int)] [] ?_
   obtain⟨C,a0⟩:∃ x,xs[i*n+j]! = x:=⟨_,rfl⟩
   have p0:FvOk (nbV C):=by rw[←a0];exact A0 _ (xV (by rw[hl];exact (wG J r)))
   refine xqc 81 [.agg #[yI (n:Int), yI (n:Int),.slice A (n*n) cap], yI (i:Int), yI (j:Int)] 28 (fun _:Unit=>.agg #[.bool C.s,.slice C.A C.l C.c, yI C.e]) _ (fun w R Q=>((show Calls _ _ _ _ (RetV _ (yV C.s C.A C.l C.c C.e)) by rw[←a0];exact bJ m n n A cap (n*n) xs i j _ (OwnD.ext hO R) hl qO qO (wG J r) qO)).mono (fun _ _ h=>Zhw h (show NbOk _ C by rw[←a0];exact (xF.ext hN R) _ (xV (by rw[hl];exact (wG J r)))))) fun xx=>?_
   refine xq 2 [(6,.p 6 0)] [yF 6 109 C.s C.A C.l C.c C.e] ?_
   refine yZ (zC (yY (xq 2 [yJ 29 (j:Int),yJ 30 0] [] ?_)))
   refine yZ (zP ?_)
   refine yC [(0,.v (.pointer (yL F))),(1,.v (.pointer (yL I))),(2,.p 2 0),(3,.p 3 0),yJ 4 (j:Int),yJ 5 (i:Int),(6,.p 6 0),yJ 14 (n:Int),yJ 15 (j:Int),yJ 29 (j:Int),yJ 30 ((0:Nat):Int)] [yF 6 109 C.s C.A C.l C.c C.e,(3,97,[.v (yI (n:Int)),.v (yI (n:Int)),.v (.slice (yL a) (n*n) (n*n))]),(2,97,[.v (yI 0),.v (yI 0),.v (.slice none 0 0)])] (fun w=>((((Blk 97 w F #[yI (n:Int), yI (n:Int),.slice A (n*n) cap]∧Blk 3 w I #[yI (b:Int)])∧xF w E)∧OwnD w m0 109 3 (yL a) (n*n) (n*n) (E.flatMap nbC))∧NbOk w C)) (fun w Q=>⟨⟨⟨⟨Q.1.1.1.1,Q.1.1.1.2⟩,Q.1.1.2⟩,Q.1.2⟩,Q.2⟩) ?_
   refine xU (fun nn ss ff=>∃ (k:Nat) (t:Nb),ss=ofL [(0,.v (.pointer (yL F))),(1,.v (.pointer (yL I))),(2,.p 2 0),(3,.p 3 0),yJ 4 (j:Int),yJ 5 (i:Int),(6,.p 6 0),yJ 14 (n:Int),yJ 15 (j:Int),yJ 29 (j:Int),yJ 30 (k:Int)] [yF 6 109 t.s t.A t.l t.c t.e,(3,97,[.v (yI (n:Int)),.v (yI (n:Int)),.v (.slice (yL a) (n*n) (n*n))]),(2,97,[.v (yI 0),.v (yI 0),.v (.slice none 0 0)])]∧ff=(fun w=>((((Blk 97 w F #[yI (n:Int), yI (n:Int),.slice A (n*n) cap]∧Blk 3 w I #[yI (b:Int)])∧xF w E)∧OwnD w m0 109 3 (yL a) (n*n) (n*n) (E.flatMap nbC))∧NbOk w t))∧(k≤j)∧(FvOk (nbV t))∧(chK b (E.map nbV) i j n (j-k) k (nbV t)=some t1)∧nn=(1+(j-k))) ((1+(j-0))) ⟨0,C,rfl,rfl,(vQ _),p0,(by rw[aR (by rw[hl];exact (wG J r)),a0] at hK;exact hK),rfl⟩ ?_
   rintro nn ss ff ⟨k,t,rfl,rfl,hk,T,hK,rfl⟩
   refine yY (xq 1 [yB 31 (decide ((k:Int)<(j:Int)))] [] ?_)
   refine yZ (zC ?_)
   refine yQ ((decide ((k:Int)<(j:Int)))) (fun i0=>?_) fun i0=>?_
   ·have u0:k<j:=by have:=uB i0;omega
    have V:k<n:=qO
    obtain⟨v,q0,B0⟩:=Zja u0 hK
    refine zI (zA (zC (zP (yY (xq 2 [yJ 7 (k:Int)] [] ?_)))))
    refine xe (zA ?_)
    refine yO 11 zO ?_
    refine xqg 4 [(33,.v (yV t.s t.A t.l t.c t.e)),(34,.v (.agg #[yI (n:Int), yI (n:Int),.slice (yL a) (n*n) (n*n)])),yJ 35 (i:Int),yJ 36 (k:Int)] ?_
    obtain⟨G,b0⟩:∃ x,E[i*n+k]! = x:=⟨_,rfl⟩
    have r0:FvOk (nbV G):=by rw[←b0];exact U _ (xV (by rw[B];exact (wG J V)))
    refine xqd 81 [.agg #[yI (n:Int), yI (n:Int),.slice (yL a) (n*n) (n*n)], yI (i:Int), yI (k:Int)] 37 (fun _:Unit=>.agg #[.bool G.s,.slice G.A G.l G.c, yI G.e]) _ (fun w R Q=>yN ((show Calls _ _ _ _ (RetV _ (yV G.s G.A G.l G.c G.e)) by rw[←b0];exact bJ m0 n n (yL a) (n*n) (n*n) E i k _ Q.1.2 B qO qO (wG J V) qO))) fun xx=>?_
    refine xqg 3 [(38,.v (.agg #[yI (n:Int), yI (n:Int),.slice (yL a) (n*n) (n*n)])),yJ 39 (j:Int),yJ 40 (k:Int)] ?_
    obtain⟨H,c0⟩:∃ x,E[j*n+k]! = x:=⟨_,rfl⟩
    have s0:FvOk (nbV H):=by rw[←c0];exact U _ (xV (by rw[B];exact (wG r V)))
    refine xqd 81 [.agg #[yI (n:Int), yI (n:Int),.slice (yL a) (n*n) (n*n)], yI (j:Int), yI (k:Int)] 41 (fun _:Unit=>.agg #[.bool H.s,.slice H.A H.l H.c, yI H.e]) _ (fun w R Q=>yN ((show Calls _ _ _ _ (RetV _ (yV H.s H.A H.l H.c H.e)) by rw[←c0];exact bJ m0 n n (yL a) (n*n) (n*n) E j k _ Q.1.1.2 B qO qO (wG r V) qO))) fun xx=>?_
    refine xqj 42 (yI (b:Int)) (fun w Q=>xZ (t:=3) (x:=.tmp 1) (g:=I) (off:=0) (Blk.news Q.1.1.1.2 0 _ rfl)) ?_
    have v0:cJ (nbV t) (nbV G) (nbV H) b=some v:=by rw[aR (by rw[B];exact (wG J V)),aR (by rw[B];exact (wG r V)),b0,c0] at q0;exact q0
    refine xqd 82 [yV t.s t.A t.l t.c t.e, yV G.s G.A G.l G.c G.e, yV H.s H.A H.l H.c H.e, yI (b:Int)] 43 (fun z:{z:Nb // nbV z=v}=>.agg #[.bool z.1.s,.slice z.1.A z.1.l z.1.c, yI z.1.e]) _ (fun w R Q=>yM ZkX (Zi7 t G H b v _ (hg.ext R) Q.1.1.2 (show NbOk _ G by rw[←b0];exact Q.1.1.1.1.2 _ (xV (by rw[B];exact (wG J V)))) (show NbOk _ H by rw[←c0];exact Q.1.1.1.1.2 _ (xV (by rw[B];exact (wG r V)))) T r0 s0 y0 z0 v0)) fun⟨S,l0⟩=>?_
    refine xz (xq 1 [] [yF 6 109 S.s S.A S.l S.c S.e] ?_)
    refine xe (xR (zA (zB (xq 1 [yJ 44 (IntKind.i64.wrap ((k:Int)+1))] [] ?_))))
    rw[yW ((k:Int)+1) (((k+1:Nat):Int)) qO]
    refine xq 1 [yJ 30 ((k+1:Nat):Int)] [] ?_
    refine xe ?_
    refine yP [(0,.v (.pointer (yL F))),(1,.v (.pointer (yL I))),(2,.p 2 0),(3,.p 3 0),yJ 4 (j:Int),yJ 5 (i:Int),(6,.p 6 0),yJ 14 (n:Int),yJ 15 (j:Int),yJ 29 (j:Int),yJ 30 (((k+1):Nat):Int)] [yF 6 109 S.s S.A S.l S.c S.e,(3,97,[.v (yI (n:Int)),.v (yI (n:Int)),.v (.slice (yL a) (n*n) (n*n))]),(2,97,[.v (yI 0),.v (yI 0),.v (.slice none 0 0)])] (fun w=>((((Blk 97 w F #[yI (n:Int), yI (n:Int),.slice A (n*n) cap]∧Blk 3 w I #[yI (b:Int)])∧xF w E)∧OwnD w m0 109 3 (yL a) (n*n) (n*n) (E.flatMap nbC))∧NbOk w S)) (fun w Q=>⟨⟨⟨⟨Q.1.1.1.1.1.1.1,Q.1.1.1.1.1.1.2⟩,Q.1.1.1.1.1.2⟩,Q.1.1.1.1.2⟩,Q.2⟩) ?_
    exact xG ((1+(j-(k+1)))) qO ⟨(k+1),S,rfl,rfl,u0,(by rw[l0];exact Zfi qO qO q0),(by rw[l0];exact B0),rfl⟩
   have C0:k=j:=by have:=uD i0;omega
   have hT:nbV t=t1:=by rw[C0,sS] at hK;injection hK
   rw[←hT] at e0
   refine xO (zH (zH (xY (zA (zC (yY (xq 3 [yB 47 (decide ((i:Int)>(j:Int)))] [] ?_)))))))
   refine xe (zA ?_)
   refine yQ ((decide ((i:Int)>(j:Int)))) (fun j0=>?_) fun j0=>?_
   ·have f0:j<i:=by have:=uB j0;omega
    refine zC ?_
    refine yO 13 zO ?_
    refine xqg 7 [(48,.v (.agg #[yI (n:Int), yI (n:Int),.slice (yL a) (n*n) (n*n)])),yJ 49 (i:Int),yJ 50 (j:Int),(51,.v (yV t.s t.A t.l t.c t.e)),(52,.v (.agg #[yI (n:Int), yI (n:Int),.slice (yL a) (n*n) (n*n)])),yJ 53 (j:Int),yJ 54 (j:Int)] ?_
    obtain⟨D,W⟩:∃ x,E[j*n+j]! = x:=⟨_,rfl⟩
    have Z:FvOk (nbV D):=by rw[←W];exact U _ (xV (by rw[B];exact (wG r r)))
    refine xqd 81 [.agg #[yI (n:Int), yI (n:Int),.slice (yL a) (n*n) (n*n)], yI (j:Int), yI (j:Int)] 55 (fun _:Unit=>.agg #[.bool D.s,.slice D.A D.l D.c, yI D.e]) _ (fun w R Q=>yN ((show Calls _ _ _ _ (RetV _ (yV D.s D.A D.l D.c D.e)) by rw[←W];exact bJ m0 n n (yL a) (n*n) (n*n) E j j _ Q.1.2 B qO qO (wG r r) qO))) fun xx=>?_
    refine xqj 56 (yI (b:Int)) (fun w Q=>xZ (t:=3) (x:=.tmp 1) (g:=I) (off:=0) (Blk.news Q.1.1.1.2 0 _ rfl)) ?_
    obtain⟨f,X⟩:=yE (divV (nbV t) (nbV D) b)
    have n0:f.err=0:=by rw[←X];exact (kM (Zcg f0 e0 (Zc1 (by rw[B];exact (wG r r)) W))).1
    have w0:FvOk (fvR f):=by rw[←X];exact ZgR qO qO (by rw[X];exact n0)
    refine xqd 96 [yV t.s t.A t.l t.c t.e, yV D.s D.A D.l D.c D.e, yI (b:Int)] 57 (fun q:ShN=>.tuple #[yV f.s q.1 q.2.1 q.2.2 f.e, yI 0]) _ (fun w R Q=>((show Calls _ _ _ _ (xX w f) by rw[←X];exact Zhm t.s t.A t.l t.c t.m t.e D.s D.A D.l D.c D.m D.e b qO qO _ (hg.ext R) Q.1.2 T.wl T.lo T.hi (show NbOk _ D by rw[←W];exact Q.1.1.1.2 _ (xV (by rw[B];exact (wG r r)))) Z.wl Z.lo Z.hi)).mono (fun _ _ h=>aQ n0 h)) fun⟨K,L,M⟩=>?_
    refine xqg 2 [(58,.v (yV f.s K L M f.e)),yJ 59 0] ?_
    refine xqd 90 [yV f.s K L M f.e, yI 0] 60 (fun _:Unit=>.agg #[.bool f.s,.slice K L M, yI f.e]) _ (fun w R Q=>yN (aP f.s K L M f.e _)) fun xx=>?_
    refine xz ?_
    refine cU (b:=a) (d:=61) (j:=0) (c:=.bool E[0]!.s) 83 [.agg #[yI (n:Int), yI (n:Int),.slice (yL a) (n*n) (n*n)], yI (i:Int), yI (j:Int), yV f.s K L M f.e] (fun _:Unit=>.tuple #[]) (fun w=>((Blk 97 w F #[yI (n:Int), yI (n:Int),.slice A (n*n) cap]∧Blk 3 w I #[yI (b:Int)])∧xF w (E.set (i*n+j) (⟨f.s,K,L,M,f.m,f.e⟩:Nb)))) (fun _ w=>OwnD w m0 109 3 (yL a) (n*n) (n*n) ((E.set (i*n+j) (⟨f.s,K,L,M,f.m,f.e⟩:Nb)).flatMap nbC)) (fun w Q=>ZbI Q.1.1.1.1.2 (by rw[B];have:=(wG J r);omega)) (Or.inl (d0 ▸ k0)) (fun w R Q=>yM Zc2 (ZcY m0 n n a (n*n) (n*n) E i j (⟨f.s,K,L,M,f.m,f.e⟩:Nb) _ Q.1.1.1.1.2 B qO qO (wG J r) qO)) (fun w w' R Q hF=>⟨⟨Blk.fr Q.1.1.1.1.1.1.1 hF (fun h=>by have h:F=a:=h;omega),Blk.fr Q.1.1.1.1.1.1.2 hF (fun h=>by have h:I=a:=h;omega)⟩,xF.set (xF.nrb Q.1.1.1.1.1.2 (fun i e=>by subst e;exact OwnD.nrb Q.1.1.1.1.2 rfl) hF) (zF.nrb Q.1.2 (fun i e=>by subst e;exact OwnD.nrb Q.1.1.1.1.2 rfl) hF)⟩) fun _=>?_
    refine xr 0 [(0,.v (.pointer (yL F))),(1,.v (.pointer (yL I))),(2,.p 2 0),(3,.p 3 0),yJ 4 (j:Int),yJ 5 (i:Int),(6,.p 6 0),yJ 14 (n:Int),yJ 15 (j:Int)] [yF 6 109 t.s t.A t.l t.c t.e,(3,97,[.v (yI (n:Int)),.v (yI (n:Int)),.v (.slice (yL a) (n*n) (n*n))]),(2,97,[.v (yI 0),.v (yI 0),.v (.slice none 0 0)])] ?_
    refine yZ (xO (zH (xY (zA (zB (xq 2 [yJ 24 (IntKind.i64.wrap ((i:Int)+1))] [] ?_))))))
    rw[yW ((i:Int)+1) (((i+1:Nat):Int)) qO]
    refine xq 1 [yJ 5 ((i+1:Nat):Int)] [] ?_
    refine xe ?_
    refine yP [(0,.v (.pointer (yL F))),(1,.v (.pointer (yL I))),(2,.p 2 0),(3,.p 3 0),yJ 4 (j:Int),yJ 5 (((i+1):Nat):Int),yJ 14 (n:Int),yJ 15 (j:Int)] [(3,97,[.v (yI (n:Int)),.v (yI (n:Int)),.v (.slice (yL a) (n*n) (n*n))]),(2,97,[.v (yI 0),.v (yI 0),.v (.slice none 0 0)])] (fun w=>(((Blk 97 w F #[yI (n:Int), yI (n:Int),.slice A (n*n) cap]∧Blk 3 w I #[yI (b:Int)])∧xF w (E.set (i*n+j) (⟨f.s,K,L,M,f.m,f.e⟩:Nb)))∧OwnD w m0 109 3 (yL a) (n*n) (n*n) ((E.set (i*n+j) (⟨f.s,K,L,M,f.m,f.e⟩:Nb)).flatMap nbC))) (fun w Q=>⟨⟨⟨Q.1.1.1,Q.1.1.2⟩,Q.1.2⟩,Q.2⟩) ?_
    exact xG ((1+(n-(i+1)))) qO ⟨(i+1),(E.set (i*n+j) (⟨f.s,K,L,M,f.m,f.e⟩:Nb)),rfl,rfl,qO,J,(by rw[tA];exact B),(Zgk U (show FvOk (nbV (⟨f.s,K,L,M,f.m,f.e⟩:Nb)) from w0)),(by rw[nG,show nbV (⟨f.s,K,L,M,f.m,f.e⟩:Nb)=u from ((kM (Zcg f0 e0 (Zc1 (by rw[B];exact (wG r r)) W))).2.trans (by rw[X];rfl)).symm];have h:=t0;exact h),rfl⟩
   have f0:¬ j<i:=by have:=uD j0;omega
   have D0:i=j:=qO
   refine zI (zA (zC (yY (xq 1 [(62,.v (yV t.s t.A t.l t.c t.e))] [] ?_))))
   refine xqc 97 [yV t.s t.A t.l t.c t.e] 63 (fun _:Unit=>yI (sgnV (nbV t))) _ (fun w R Q=>yN (ZcZ t.s t.A t.l t.c t.m t.e _ Q.2)) fun xx=>?_
   refine xq 1 [yB 64 (decide ((sgnV (nbV t))≤0))] [] ?_
   rw[(show decide (sgnV (nbV t)≤0)=false from uZ (aS f0 e0).1)]
   refine yZ (xb (zI (zA ?_)))
   refine yO 9 zO ?_
   refine xqg 4 [(66,.v (.agg #[yI (n:Int), yI (n:Int),.slice (yL a) (n*n) (n*n)])),yJ 67 (j:Int),yJ 68 (j:Int),(69,.v (yV t.s t.A t.l t.c t.e))] ?_
   refine xqj 70 (yI (b:Int)) (fun w Q=>xZ (t:=3) (x:=.tmp 1) (g:=I) (off:=0) (Blk.news Q.1.1.1.1.2 0 _ rfl)) ?_
   obtain⟨o,Y⟩:=yE (cI (nbV t) b)
   have o0:o.err=0:=by rw[←Y];exact (kM (aS f0 e0).2).1
   have x0:FvOk (fvR o):=by rw[←Y];exact Zfh T qO qO (by rw[Y];exact o0)
   refine xqd 98 [yV t.s t.A t.l t.c t.e, yI (b:Int)] 71 (fun q:ShN=>.tuple #[yV o.s q.1 q.2.1 q.2.2 o.e, yI 0]) _ (fun w R Q=>((show Calls _ _ _ _ (xX w o) by rw[←Y];exact Zgi t.s t.A t.l t.c t.m t.e b qO qO _ (hg.ext R) Q.1.2 T.wl T.lo T.hi T.2.2.1)).mono (fun _ _ h=>aQ o0 h)) fun⟨N,O,P⟩=>?_
   refine xqg 2 [(72,.v (yV o.s N O P o.e)),yJ 73 0] ?_
   refine xqd 90 [yV o.s N O P o.e, yI 0] 74 (fun _:Unit=>.agg #[.bool o.s,.slice N O P, yI o.e]) _ (fun w R Q=>yN (aP o.s N O P o.e _)) fun xx=>?_
   refine xz ?_
   refine cU (b:=a) (d:=75) (j:=0) (c:=.bool E[0]!.s) 83 [.agg #[yI (n:Int), yI (n:Int),.slice (yL a) (n*n) (n*n)], yI (j:Int), yI (j:Int), yV o.s N O P o.e] (fun _:Unit=>.tuple #[]) (fun w=>((Blk 97 w F #[yI (n:Int), yI (n:Int),.slice A (n*n) cap]∧Blk 3 w I #[yI (b:Int)])∧xF w (E.set (j*n+j) (⟨o.s,N,O,P,o.m,o.e⟩:Nb)))) (fun _ w=>OwnD w m0 109 3 (yL a) (n*n) (n*n) ((E.set (j*n+j) (⟨o.s,N,O,P,o.m,o.e⟩:Nb)).flatMap nbC)) (fun w Q=>ZbI Q.1.1.1.1.2 (by rw[B];have:=(wG r r);omega)) (Or.inl (d0 ▸ k0)) (fun w R Q=>yM Zc2 (ZcY m0 n n a (n*n) (n*n) E j j (⟨o.s,N,O,P,o.m,o.e⟩:Nb) _ Q.1.1.1.1.2 B qO qO (wG r r) qO)) (fun w w' R Q hF=>⟨⟨Blk.fr Q.1.1.1.1.1.1.1 hF (fun h=>by have h:F=a:=h;omega),Blk.fr Q.1.1.1.1.1.1.2 hF (fun h=>by have h:I=a:=h;omega)⟩,xF.set (xF.nrb Q.1.1.1.1.1.2 (fun i e=>by subst e;exact OwnD.nrb Q.1.1.1.1.2 rfl) hF) (zF.nrb Q.1.2 (fun i e=>by subst e;exact OwnD.nrb Q.1.1.1.1.2 rfl) hF)⟩) fun _=>?_
   refine xr 0 [(0,.v (.pointer (yL F))),(1,.v (.pointer (yL I))),(2,.p 2 0),(3,.p 3 0),yJ 4 (j:Int),yJ 5 (i:Int),yJ 14 (n:Int),yJ 15 (j:Int)] [(3,97,[.v (yI (n:Int)),.v (yI (n:Int)),.v (.slice (yL a) (n*n) (n*n))]),(2,97,[.v (yI 0),.v (yI 0),.v (.slice none 0 0)])] ?_
   refine xe (xR (zA (zB (xq 2 [yJ 24 (IntKind.i64.wrap ((i:Int)+1))] [] ?_))))
   rw[yW ((i:Int)+1) (((i+1:Nat):Int)) qO]
   refine xq 1 [yJ 5 ((i+1:Nat):Int)] [] ?_
   refine xe ?_
   refine yP [(0,.v (.pointer (yL F))),(1,.v (.pointer (yL I))),(2,.p 2 0),(3,.p 3 0),yJ 4 (j:Int),yJ 5 (((i+1):Nat):Int),yJ 14 (n:Int),yJ 15 (j:Int)] [(3,97,[.v (yI (n:Int)),.v (yI (n:Int)),.v (.slice (yL a) (n*n) (n*n))]),(2,97,[.v (yI 0),.v (yI 0),.v (.slice none 0 0)])] (fun w=>(((Blk 97 w F #[yI (n:Int), yI (n:Int),.slice A (n*n) cap]∧Blk 3 w I #[yI (b:Int)])∧xF w (E.set (j*n+j) (⟨o.s,N,O,P,o.m,o.e⟩:Nb)))∧OwnD w m0 109 3 (yL a) (n*n) (n*n) ((E.set (j*n+j) (⟨o.s,N,O,P,o.m,o.e⟩:Nb)).flatMap nbC))) (fun w Q=>⟨⟨⟨Q.1.1.1,Q.1.1.2⟩,Q.1.2⟩,Q.2⟩) ?_
   exact xG ((1+(n-(i+1)))) qO ⟨(i+1),(E.set (j*n+j) (⟨o.s,N,O,P,o.m,o.e⟩:Nb)),rfl,rfl,qO,J,(by rw[tA];exact B),(Zgk U (show FvOk (nbV (⟨o.s,N,O,P,o.m,o.e⟩:Nb)) from x0)),(by rw[nG,show nbV (⟨o.s,N,O,P,o.m,o.e⟩:Nb)=u from ((kM (aS f0 e0).2).2.trans (by rw[Y];rfl)).symm];have h:=t0;rw[D0] at h ⊢;exact h),rfl⟩
  have E0:i=n:=by have:=uD h0;omega
  have F0:E.map nbV=L1:=by rw[E0,sS] at hI;injection hI
  refine xO (zH (zH (xY (xR (zA (zB (xq 1 [yJ 76 (IntKind.i64.wrap ((j:Int)+1))] [] ?_)))))))
  rw[yW ((j:Int)+1) (((j+1:Nat):Int)) qO]
  refine xq 1 [yJ 15 ((j+1:Nat):Int)] [] ?_
  refine xe ?_
  refine yP [(0,.v (.pointer (yL F))),(1,.v (.pointer (yL I))),(2,.p 2 0),(3,.p 3 0),yJ 14 (n:Int),yJ 15 (((j+1):Nat):Int)] [(3,97,[.v (yI (n:Int)),.v (yI (n:Int)),.v (.slice (yL a) (n*n) (n*n))]),(2,97,[.v (yI 0),.v (yI 0),.v (.slice none 0 0)])] (fun w=>(((Blk 97 w F #[yI (n:Int), yI (n:Int),.slice A (n*n) cap]∧Blk 3 w I #[yI (b:Int)])∧xF w E)∧OwnD w m0 109 3 (yL a) (n*n) (n*n) (E.flatMap nbC))) (fun w Q=>⟨⟨⟨Q.1.1.1,Q.1.1.2⟩,Q.1.2⟩,Q.2⟩) ?_
  exact xG ((1+(n-(j+1)))) qO ⟨(j+1),E,rfl,rfl,r,B,U,(by rw[F0];exact hJ),rfl⟩
 have G0:j=n:=by have:=uD g0;omega
 refine xO (zH (zH (xY (zA (yY (xq 2 [] [(2,97,[.v (yI (n:Int)),.v (yI (n:Int)),.v (.slice (yL a) (n*n) (n*n))])] ?_))))))
 refine yZ (zG ?_)
 refine yR (.agg #[yI (n:Int), yI (n:Int),.slice (yL a) (n*n) (n*n)]) fun w' R Q=>?_
 exact⟨a,E,by rw[B],by rw[G0,sS] at hL;injection hL,by rw[B];exact d0 ▸ Q.2,Q.1.2,R⟩
end Go.Proofs.YtenchljfmfgeoaaGreatDoor
namespace Go.Proofs.YtenchljfmfgeoaaGreatDoor
def Bv (E:Int) (v:Fv3):Prop:=blen v.2.1≤65∧(-E≤v.2.2∧v.2.2≤E)∧(v.2.1=0→v.2.2=0)
theorem Bv.mono {E F:Int}{v:Fv3}(h:Bv E v)(Q:E≤F):Bv F v:=⟨h.1,⟨by have:=h.2.1;omega,by have:=h.2.1;omega⟩,h.2.2⟩
theorem bv0 {E:Int}(h:0≤E):Bv E (false,0,0):=⟨by show blen 0≤65;rw[iW];decide,⟨by show -E≤0;omega,h⟩,fun _=>rfl⟩
theorem Zjj {m k:Nat}(h:blen m≤k):blen (oddM m)≤k:=xW.2 (vE (vG _ _) (xW.1 h))
theorem Zk4 {m:Nat}(a:0<m):tzn m+1≤blen m:=by
 have c:=(kJ a).2
 have b:0<oddM m:=by have:=(kJ a).1;omega
 have d:=uE (2^tzn m) b
 exact jU.2 qO
theorem Zhy {a b s t:Nat}(ha:blen a≤s)(c:blen b≤t):blen (a*b)≤s+t:=xW.2 (by
 rw[uR]
 exact pT (xW.1 ha) (xW.1 c))
theorem Zpj {s t:Bool}{a b k:Nat}(ha:blen a≤k)(c:blen b≤k):blen (sg s a+sg t b).natAbs≤k+1:=xW.2 (by
 have d:=xW.1 ha
 have e:=xW.1 c
 rw[uN]
 have f:(sg s a+sg t b).natAbs≤a+b:=by cases s<;>cases t<;>simp[sg]<;>omega
 omega)
theorem Zc4 {r:FR}(h:r.err=0):musT r=some (fvR r):=uQ h
def kR {α:Type} (r c:Nat) (V:Nat→Nat→α):List α:=(List.range r).flatMap fun i=>(List.range c).map (V i)
theorem Zap {α:Type}(r c:Nat)(V:Nat→Nat→α):(kR r c V).length=r*c:=by
 unfold kR
 induction r with
 | zero=>simp
 | succ r ih=>rw[List.range_succ,oD,uY,ih,oR,vH,List.length_range,rD]
theorem gidx {i j r c:Nat}(hi:i<r)(a:j<c):i*c+j<r*c:=by
 have:=uE c (show i+1≤r by omega)
 rw[rD] at this
 omega
theorem ZnS {α:Type}{r c:Nat}{V:Nat→Nat→α}{i j:Nat}(hi:i<r)(a:j<c):(kR r c V)[i*c+j]? = some (V i j):=by
 induction r with
 | zero=>omega
 | succ r ih =>
  have e:kR (r+1) c V=kR r c V ++ (List.range c).map (V r):=by
   unfold kR
   rw[List.range_succ,oD,oR]
  rw[e]
  by_cases h:i<r
  ·rw[rF (by rw[Zap];exact gidx h a)]
   exact ih h
  have:i=r:=qO
  subst this
  rw[sC (by rw[Zap];omega),Zap,show i*c+j-i*c=j by omega,List.getElem?_map,List.getElem?_range a]
  rfl
end Go.Proofs.YtenchljfmfgeoaaGreatDoor
