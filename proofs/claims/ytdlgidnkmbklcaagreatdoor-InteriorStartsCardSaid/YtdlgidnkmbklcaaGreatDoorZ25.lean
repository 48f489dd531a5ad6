/-
 My texts.
-/
import Derived.Test.YtdlgidnkmbklcaaGreatDoorZ24
set_option maxRecDepth 100000
set_option maxHeartbeats 8000000
namespace Go.Proofs.YtdlgidnkmbklcaaGreatDoor
open Go.RowKit Tryz
theorem Zet (A:qA):∃ q,∀ j,bkA A j→j<q:=by
 cases A with
 | none=>exact⟨0,fun j h=>by cases h⟩
 | some a=>exact⟨a.block+1,fun j h=>by injection h with h;rw[h];exact Nat.lt_succ_self _⟩
def jF (n:Nat) (v:Int×Int):List (List (Int×Int)):=(List.range n).map fun i=>(List.range n).map fun j=>if i=j then v else (0,0)
def UE (n:Nat) (f:Ef) (ms:List (Mr Ef)) (k:Nat):Prop:=ms.length=n∧(∀ a,a<n→ms[a]!.xs.length=n)∧∀ a b,a<n→b<n→efV ms[a]!.xs[b]! = if a=b∧a<k then efV f else (0,0)
theorem UE.start {n:Nat}{f:Ef}{ms:List (Mr Ef)}(h:ms.map (·.xs)=List.replicate n (List.replicate n ef0)):UE n f ms 0:=by
 have g:ms.length=n:=by have:=uX List.length h;rwa [uL,tH] at this
 have i:∀ a,a<n→ms[a]!.xs=List.replicate n ef0:=fun a d=>by
  have j:ms[a]!.xs∈ms.map (·.xs):=pH (wJ (g.symm ▸ d))
  rw[h] at j
  exact (rE.1 j).2
 refine⟨g,fun a d=>by rw[i a d,tH],fun a b d o=>?_⟩
 rw[i a d,vT _ b (by rw[tH];exact o),rZ,uQ qO];rfl
theorem UE.set {n:Nat}{f:Ef}{ms:List (Mr Ef)}{i:Nat}{y:Mr Ef}(h:UE n f ms i)(hi:i<n)(r:ms[i]! = y):UE n f (ms.set i ⟨y.A,y.cap,y.xs.set i f⟩) (i+1):=by
 obtain⟨o,s,t⟩:=h
 have g:y.xs.length=n:=r ▸ s i hi
 refine⟨by rw[sQ];exact o,fun a d=>?_,fun a b d p=>?_⟩
 ·rw[setg (o.symm ▸ d)]
  by_cases e:i=a
  ·rw[uZ e];show (y.xs.set i f).length=n;rw[sQ];exact g
  rw[uQ e];exact s a d
 rw[setg (o.symm ▸ d)]
 by_cases e:i=a
 ·rw[uZ e]
  subst e
  show efV (y.xs.set i f)[b]! = _
  rw[setg (g.symm ▸ p)]
  by_cases j:i=b
  ·rw[uZ j,uZ ⟨j,qO⟩]
  rw[uQ j,uQ (fun q=>j q.1),← r,t i b d p,uQ (fun q=>j q.1)]
 rw[uQ e,t a b d p]
 by_cases q:a=b∧a<i
 ·rw[uZ q,uZ ⟨q.1,qO⟩]
 rw[uQ q,uQ (fun z=>q ⟨z.1,qO⟩)]
theorem UE.all {n:Nat}{f:Ef}{ms:List (Mr Ef)}(h:UE n f ms n):ms.map (fun y=>y.xs.map efV)=jF n (efV f):=by
 obtain⟨o,p,r⟩:=h
 unfold jF
 refine pZ (by rw[uL,uL,o,rH]) fun a i d=>?_
 rw[uL] at i d
 rw[rH] at d
 rw[sC,sC,List.getElem_range,← vT ms a i]
 refine pZ (by rw[uL,uL,p a d,rH]) fun b j g=>?_
 rw[uL] at j g
 rw[rH] at g
 rw[sC,sC,List.getElem_range,← vT ms[a]!.xs b j,r a b d g]
 by_cases e:a=b
 ·rw[uZ ⟨e,d⟩,uZ e]
 rw[uQ (fun q=>e q.1),uQ e]
def MmE (m:Nat) (w:World) (b n:Nat) (ms:List (Mr Ef)):Prop:=(OwnD w m 50 1 (some ⟨b,0,none⟩) n n (ms.flatMap mrC)∧MrOk 109 3 efC m w ms)∧NfOk w ms
def MmOk (m:Nat) (w:World) (l:List (Mr (Mr Ef))):Prop:=∀ y∈l,(OwnD w m 50 1 y.A y.cap y.xs.length (y.xs.flatMap mrC)∧MrOk 109 3 efC m w y.xs)∧NfOk w y.xs
def mmV (y:Mr (Mr Ef)):List (List (Int×Int)):=y.xs.map (fun r=>r.xs.map efV)
section
variable {w w':World} {m m' n c k b:Nat} {e:TypeId} {A:Option Addr} {xs:List Value} {l:List (Mr (Mr Ef))} {ms:List (Mr Ef)}
theorem MmE.apart {f:Nat}(h:MmE m w b n ms)(a:OwnD w m' e k A c f xs)(g:50≠e)(j:109≠e)(d:Fr (fun i=>A=some ⟨i,0,none⟩) w w'):MmE m w' b n ms:=⟨⟨h.1.1.apart a g d,h.1.2.apart a j d⟩,h.2.row a d⟩
theorem MmOk.nil:MmOk m w []:=fun _ h=>nomatch h
theorem MmOk.apart (h:MmOk m w l)(a:OwnD w m' e k A c n xs)(g:50≠e)(j:109≠e)(d:Fr (fun i=>A=some ⟨i,0,none⟩) w w'):MmOk m w' l:=fun y f=>⟨⟨(h y f).1.1.apart a g d,(h y f).1.2.apart a j d⟩,(h y f).2.row a d⟩
theorem MmOk.snoc {x:Mr (Mr Ef)}(h:MmOk m w l)(d:(OwnD w m 50 1 x.A x.cap x.xs.length (x.xs.flatMap mrC)∧MrOk 109 3 efC m w x.xs)∧NfOk w x.xs):MmOk m w (l ++ [x]):=fun y a=>by
 rcases tI.1 a with a|a
 ·exact h y a
 rw[vX.1 a];exact d
theorem MmE.len {v:Int×Int}(h:ms.map (fun y=>y.xs.map efV)=jF n v):ms.length=n:=by
 have:=uX List.length h
 unfold jF at this
 rwa [uL,uL,rH] at this
theorem MmE.one (a:ms.length=n)(h:MmE m w b n ms):(OwnD w m 50 1 (⟨some ⟨b,0,none⟩,n,ms⟩:Mr (Mr Ef)).A n (⟨some ⟨b,0,none⟩,n,ms⟩:Mr (Mr Ef)).xs.length (ms.flatMap mrC)∧MrOk 109 3 efC m w ms)∧NfOk w ms:=by
 subst a;exact h
theorem Zoq (a:ms.length=n):[(⟨some ⟨b,0,none⟩,n,ms⟩:Mr (Mr Ef))].flatMap mrC=[.slice (some ⟨b,0,none⟩) n n]:=by subst a;rfl
end
theorem pMe {n m0:Nat}{zs:List (List (Int×Int))}{w w':World}{d:Ending}(a:m0≤w.heap.size)(h:Zp0 n zs w d w') :
 lG (fun x:{x:Nat × List (Mr Ef) // x.2.map (fun y=>y.xs.map efV)=zs∧m0≤x.1}=>.slice (some ⟨x.1.1,0,none⟩) n n) (fun x w=>MmE m0 w x.1.1 n x.1.2) w d w':=by
 obtain⟨b,ms,rfl,g,f,i,j,Q⟩:=h
 exact⟨⟨(b,ms),g,uD a (f.blk rfl).1⟩,rfl,Q,((f.boxN a).and (i.boxN a)).and (boxn Q (fun S o p q=>j.nrb p q))⟩
instance {m n:Nat} {v:Int×Int}:Nonempty {x:Nat × List (Mr Ef) // x.2.map (fun y=>y.xs.map efV)=jF n v∧m≤x.1}:=⟨⟨(m,(jF n v).map (fun r=>(⟨none,0,r.map (fun z=>⟨false,none,0,0,z.2,z.1⟩)⟩:Mr Ef))),by
 rw[rM]
 refine Eq.trans (sF fun r _=>?_) (List.map_id _)
 show (r.map _).map efV=r
 rw[rM]
 exact Eq.trans (sF fun z _=>rfl) (List.map_id _),uF _⟩⟩
structure Rs where
 xA:Option Addr
 xc:Nat
 xs:List (Mr (Mr Ef))
 sA:Option Addr
 sc:Nat
 ss:List (Mr (Mr Ef))
 yA:Option Addr
 yc:Nat
 ys:List Ef
structure RsOk' (m:Nat) (w:World) (x:Rs):Prop where
 x1:OwnD w m 112 1 x.xA x.xc x.xs.length (x.xs.flatMap mrC)
 x2:MmOk m w x.xs
 s1:OwnD w m 112 1 x.sA x.sc x.ss.length (x.ss.flatMap mrC)
 s2:MmOk m w x.ss
 y1:OwnD w m 109 3 x.yA x.yc x.ys.length (x.ys.flatMap efC)
 y2:∀ y∈x.ys,zN w (vI2 y.s y.A y.l y.c) y.z
def Zmz (bs:List Int) (q:Nat) (v:Int×Int) (w:World) (e:Ending) (w':World):Prop:=∃ x:Rs,e=.returned (.tuple #[.agg #[.slice x.xA x.xs.length x.xc,.slice x.sA x.ss.length x.sc,.slice x.yA x.ys.length x.yc],.int .i64 0])∧(x.xs.map mmV=bs.map (fun b=>jF b.toNat v)∧x.ss.map mmV=bs.map (fun b=>jF b.toNat v)∧x.ys=List.replicate q ef0)∧RsOk' w.heap.size w' x∧Ext w w'
theorem Zss {g w:World}{m0 cap a k q d:Nat}{bs:List Int}{l l2:List (Mr (Mr Ef))}{A B:qA}{r f:FR}(u:k=bs.length)(h:l.map mmV=(bs.take k).map (fun b=>jF b.toNat (sg r.s r.m,r.e)))(i:l2.map mmV=(bs.take k).map (fun b=>jF b.toNat (sg r.s r.m,r.e)))(v:f=r)(x:OwnD w m0 112 1 A cap k (l.flatMap mrC))(z:MmOk m0 w l)(r2:OwnD w m0 112 1 B a k (l2.flatMap mrC))(C:MmOk m0 w l2)(D:OwnD w m0 109 3 (some ⟨d,0,none⟩) q q ((List.replicate q ef0).flatMap efC))(j:m0=g.heap.size)(Q:Ext g w) :
 Zmz bs q (sg f.s f.m,f.e) g (.returned (.tuple #[.agg #[.slice A k cap,.slice B k a,.slice (some ⟨d,0,none⟩) q q],.int .i64 0])) w:=by
 subst u v
 rw[sP] at h i
 have o:l.length=bs.length:=by have:=uX List.length h;rwa [uL,uL] at this
 have p:l2.length=bs.length:=by have:=uX List.length i;rwa [uL,uL] at this
 have t:(List.replicate q ef0).length=q:=tH ..
 refine⟨⟨A,cap,l,B,a,l2,some ⟨d,0,none⟩,q,List.replicate q ef0⟩,?_,⟨h,i,rfl⟩,j ▸ ⟨?_,z,?_,C,?_,fun y E=>?_⟩,Q⟩
 ·show _=Ending.returned (.tuple #[.agg #[.slice A l.length cap,.slice B l2.length a,.slice (some ⟨d,0,none⟩) (List.replicate q ef0).length q],.int .i64 0])
  rw[o,p,t]
 ·show OwnD w m0 _ 1 A cap l.length _;rw[o];exact x
 ·show OwnD w m0 _ 1 B a l2.length _;rw[p];exact r2
 ·show OwnD w m0 _ 3 _ q (List.replicate q ef0).length _;rw[t];exact D
 rw[(rE.1 E).2];exact zN.nil w
theorem ZhR (n:Nat)(f:Ef)(w:World)(F:zN w (vI2 f.s f.A f.l f.c) f.z)(O:n≤64) :
 yA 40 #[.int .i64 ((n:Nat):Int), yV f.s f.A f.l f.c f.e] w (Zp0 n (jF n (efV f)) w):=by
 obtain⟨C,D⟩:∃ m,m=w.heap.size:=⟨_,rfl⟩
 refine zV func40 rfl qK (fun w' L=>F.ext L) ?_
 refine yY (xq 2 [Δ 3,eS1 4 none 0 0] [yF 3 109 f.s f.A f.l f.c f.e] ?_)
 refine yZ (yY (xq 2 [yJ 7 n,yJ 8 n] [] ?_))
 refine xqc _ _ 9 (fun x:{x:Nat × List (Mr Ef) // x.2.map (·.xs)=List.replicate n (List.replicate n ef0)∧C≤x.1}=>Υ x.1.1 n) _ (fun w R Q=>(Zpv n n _ qO qO).mono (fun _ _ h=>Zrd (D ▸ R.size) h)) fun M=>?_
 obtain⟨⟨B,ys⟩,E,N⟩:=M
 refine xq 1 [eS1 5 (yL B) n n] [] ?_
 refine yZ (zD (yY (xq 3 [yJ 11 n,yJ 12 0] [] ?_)))
 refine yZ (zO ?_)
 refine xI (fun I J K=>∃ (i:Nat) (ms:List (Mr Ef)),J=ofL [Δ 3,eS1 4 none 0 0,eS1 5 (yL B) n n,yJ 11 n,yJ 12 i] [yF 3 109 f.s f.A f.l f.c f.e]∧K=(fun w=>(((zN w (vI2 f.s f.A f.l f.c) f.z∧NfOk w ms)∧MrOk 109 3 efC C w ms)∧OwnD w C 50 1 (yL B) n n (ms.flatMap mrC)))∧(i≤n)∧(UE n f ms i)∧I=(1+(n-i))) _ ⟨0,ys,rfl,rfl,(uT _),(UE.start E),rfl⟩ (fun w Q=>⟨⟨⟨Q.1,(NfOk.zero E)⟩,Q.2.2⟩,Q.2.1⟩) ?_
 rintro I J K ⟨i,ms,rfl,rfl,hi,r,rfl⟩
 refine yY (xq 1 [yB 13 (decide ((i:Int)<(n:Int)))] [] ?_)
 refine yZ (zD ?_)
 refine yQ ((decide ((i:Int)<(n:Int)))) (fun u=>?_) fun u=>?_
 ·have o:i<n:=by have:=uB u;omega
  refine zG (zB (zD (zO (yY (xq 2 [yJ 6 i] [] ?_)))))
  refine xe (zB ?_)
  refine yO 7 zQ ?_
  refine xqg 2 [eS1 15 (yL B) n n,yJ 16 i] ?_
  refine xqj 17 (atA (yL B) (i*1)) (fun w Q=>xM (t:=112) (e:=50) (sz:=1) (x:=.tmp 15) (ix:=.tmp 16) (cap:=n) qS o) ?_
  obtain⟨d,g⟩:∃ x,ms[i]! = x:=⟨_,rfl⟩
  refine xqj 18 (.slice d.A d.xs.length d.cap) (fun w Q=>by rw[←g];exact ZaX (t:=50) (x:=.tmp 17) Q.2 (r.1.symm ▸ o)) ?_
  have q:d.xs.length=n:=by rw[←g];exact r.2.1 i o
  refine xqg 2 [yJ 19 i,(20,.v (yV f.s f.A f.l f.c f.e))] ?_
  refine xqj 21 _ (fun w Q=>xM (t:=50) (e:=109) (sz:=3) (x:=.tmp 18) (ix:=.tmp 19) (cap:=d.cap) (i:=i) (OwnD.ne (show OwnD _ C 109 3 d.A d.cap d.xs.length (d.xs.flatMap efC) by rw[←g];exact MrOk.at Q.1.2 (r.1.symm ▸ o)) (q.symm ▸ o)) (q.symm ▸ o)) ?_
  refine xz ?_
  refine Zrf (t:=109) (x:=.tmp 21) (y:=.tmp 20) (enc:=efC) (a:=i) (j:=i) (ys:=ms) C f (yV f.s f.A f.l f.c f.e) (fun w=>((zN w (vI2 f.s f.A f.l f.c) f.z∧NfOk w ms)∧OwnD w C 50 1 (yL B) n n (ms.flatMap mrC))) Zco qD (fun w Q=>Q.1.2) (r.1.symm ▸ o) g (q.symm ▸ o) (fun _ h=>Or.inl (uD (D ▸ uF _) h)) (by simp[efC,Value.oneCell']) (ZjF _) rfl (fun w w' Q G=>⟨⟨zN.rowD Q.1.1.1 (show OwnD _ C 109 3 d.A d.cap d.xs.length (d.xs.flatMap efC) by rw[←g];exact MrOk.at Q.1.2 (r.1.symm ▸ o)) G,NfOk.row Q.1.1.2 (show OwnD _ C 109 3 d.A d.cap d.xs.length (d.xs.flatMap efC) by rw[←g];exact MrOk.at Q.1.2 (r.1.symm ▸ o)) G⟩,OwnD.apart Q.2 (show OwnD _ C 109 3 d.A d.cap d.xs.length (d.xs.flatMap efC) by rw[←g];exact MrOk.at Q.1.2 (r.1.symm ▸ o)) qD G⟩) ?_
  refine xr 0 [Δ 3,eS1 4 none 0 0,eS1 5 (yL B) n n,yJ 11 n,yJ 12 i] [yF 3 109 f.s f.A f.l f.c f.e] ?_
  refine xe (xK (zB (zC (xq 1 [yJ 22 (IntKind.i64.wrap ((i:Int)+1))] [] ?_))))
  rw[yW ((i:Int)+1) (((i+1:Nat):Int)) qO]
  refine xq 1 [yJ 12 (i+1:Nat)] [] ?_
  refine xe ?_
  exact xC _ qO ⟨(i+1),(ms.set i ⟨d.A,d.cap,d.xs.set i f⟩),rfl,rfl,o,(UE.set r o g),rfl⟩ (fun w Q=>⟨⟨⟨Q.1.1.1,(NfOk.set Q.1.1.2 (r.1.symm ▸ o) g Q.1.1.1)⟩,Q.2⟩,(by rw[ZjE (r.1.symm ▸ o) g (sQ ..)];exact Q.1.2)⟩)
 have H:i=n:=by have:=uC u;omega
 refine xJ (zE (zE (xL (zB (yY (xq 2 [eS1 4 (yL B) n n] [] ?_))))))
 refine yZ (zJ ?_)
 refine yR (Υ B n) fun w' R Q=>?_
 exact⟨B,ms,rfl,UE.all (H ▸ r),D ▸ Q.2,D ▸ Q.1.2,Q.1.1.2,R⟩
theorem ZhS (p:Sdp)(b:Int)(w:World)(f:p.qs.length≤32) :
 yA 12 #[.agg #[.slice p.bA p.bs.length p.bc,.int .i64 p.free,.slice p.oA p.os.length p.oc,.slice p.fA p.fs.length p.fc,.slice p.eA p.qs.length p.ec],.int .i64 b,.int .i64 0] w (RetV w (.int .i64 (lR p b))):=by
 refine zV func12 rfl qK (fun w' g=>trivial) ?_
 refine yY (xq 2 [Δ 3,yJ 6 0] [(3,27,[Λ p.bA p.bs.length p.bc,Γ p.free,Λ p.oA p.os.length p.oc,Λ p.fA p.fs.length p.fc,Λ p.eA p.qs.length p.ec])] ?_)
 refine yZ (zD (zD ?_))
 rcases (show (p.free≠0)∨(p.free=0∧p.qs.length=0)∨(p.free=0∧p.qs.length≠0∧b<8)∨(p.free=0∧p.qs.length≠0∧¬ b<8∧1024<b)∨(p.free=0∧p.qs.length≠0∧¬ b<8∧¬ 1024<b) by omega) with a|a|a|a|a
 ·refine zC (xq 3 [yB 9 ((p.free:Int) != 0)] [] ?_)
  rw[(show (p.free != 0)=true from bne_iff_ne.2 a)]
  refine xq 12 [yB 21 true] [] ?_
  refine yZ (xa (yY (xq 1 [yJ 6 11] [] ?_)))
  refine yZ (zJ (zM ?_))
  refine yR (yI 11) fun w' R Q=>?_
  exact⟨by rw[pm_a (Or.inl a)],R⟩
 ·refine zC (xq 3 [yB 9 ((p.free:Int) != 0)] [] ?_)
  rw[(show (p.free != 0)=false from rQ.2 a.1)]
  refine xq 5 [yB 10 false,yB 14 ((((p.qs.length:Nat):Int):Int) == 0)] [] ?_
  rw[(show ((((p.qs.length:Nat):Int):Int) == 0)=true from sK.2 qO)]
  refine xq 7 [yB 21 true] [] ?_
  refine yZ (xa (yY (xq 1 [yJ 6 11] [] ?_)))
  refine yZ (zJ (zM ?_))
  refine yR (yI 11) fun w' R Q=>?_
  exact⟨by rw[pm_a (Or.inr a.2)],R⟩
 ·refine zC (xq 3 [yB 9 ((p.free:Int) != 0)] [] ?_)
  rw[(show (p.free != 0)=false from rQ.2 a.1)]
  refine xq 5 [yB 10 false,yB 14 ((((p.qs.length:Nat):Int):Int) == 0)] [] ?_
  rw[(show ((((p.qs.length:Nat):Int):Int) == 0)=false from tK.2 qO)]
  refine xq 6 [yB 16 false,yB 20 (decide (((p.qs.length:Nat):Int)>32))] [] ?_
  rw[(show decide (((p.qs.length:Nat):Int)>32)=false from uR qO)]
  refine xq 1 [yB 21 false] [] ?_
  refine yZ (xb (zG (zB (zD (yY (xq 1 [yJ 22 b] [] ?_))))))
  refine xqc _ _ 23 (fun _:Unit=>.bool false) _ (fun w R Q=>(Zbi b _).mono (fun _ _ h=>zI h (by rw[uR qO]))) fun d=>?_
  refine xq 9 [yB 32 true] [] ?_
  refine yZ (xa (yY (xq 1 [yJ 6 3] [] ?_)))
  refine yZ (zJ (zM ?_))
  refine yR (yI 3) fun w' R Q=>?_
  exact⟨by rw[pm_b qO (Or.inl a.2.2)],R⟩
 ·refine zC (xq 3 [yB 9 ((p.free:Int) != 0)] [] ?_)
  rw[(show (p.free != 0)=false from rQ.2 a.1)]
  refine xq 5 [yB 10 false,yB 14 ((((p.qs.length:Nat):Int):Int) == 0)] [] ?_
  rw[(show ((((p.qs.length:Nat):Int):Int) == 0)=false from tK.2 qO)]
  refine xq 6 [yB 16 false,yB 20 (decide (((p.qs.length:Nat):Int)>32))] [] ?_
  rw[(show decide (((p.qs.length:Nat):Int)>32)=false from uR qO)]
  refine xq 1 [yB 21 false] [] ?_
  refine yZ (xb (zG (zB (zD (yY (xq 1 [yJ 22 b] [] ?_))))))
  refine xqc _ _ 23 (fun _:Unit=>.bool false) _ (fun w R Q=>(Zbi b _).mono (fun _ _ h=>zI h (by rw[uR qO]))) fun d=>?_
  refine xq 9 [yB 32 true] [] ?_
  refine yZ (xa (yY (xq 1 [yJ 6 3] [] ?_)))
  refine yZ (zJ (zM ?_))
  refine yR (yI 3) fun w' R Q=>?_
  exact⟨by rw[pm_b qO (Or.inr a.2.2.2)],R⟩
 refine zC (xq 3 [yB 9 ((p.free:Int) != 0)] [] ?_)
 rw[(show (p.free != 0)=false from rQ.2 a.1)]
 refine xq 5 [yB 10 false,yB 14 ((((p.qs.length:Nat):Int):Int) == 0)] [] ?_
 rw[(show ((((p.qs.length:Nat):Int):Int) == 0)=false from tK.2 qO)]
 refine xq 6 [yB 16 false,yB 20 (decide (((p.qs.length:Nat):Int)>32))] [] ?_
 rw[(show decide (((p.qs.length:Nat):Int)>32)=false from uR qO)]
 refine xq 1 [yB 21 false] [] ?_
 refine yZ (xb (zG (zB (zD (yY (xq 1 [yJ 22 b] [] ?_))))))
 refine xqc _ _ 23 (fun _:Unit=>.bool true) _ (fun w R Q=>(Zbi b _).mono (fun _ _ h=>zI h (by rw[vP qO]))) fun d=>?_
 refine xq 9 [yB 32 false] [] ?_
 refine yZ (xb (zG (zB (yY (xq 1 [yJ 6 0] [] ?_)))))
 refine yZ (zJ ?_)
 refine yR (yI 0) fun w' R Q=>?_
 exact⟨by rw[pm_c qO qO],R⟩
theorem ZmA (m:Nat)(p:Sdp)(U:Bool)(V:qA)(l1 c1:Nat)(t1:Bool)(W:qA)(X Y:Nat)(q:Rat)(b:Nat)(w:World)(hp:SdpOk m w p)(hV:SdpV p)(hq:xD w (vR4 U V l1 c1 t1 W X Y) q)(hz:ml q.num.natAbs≤1000∧ml q.den≤1000)(w0:8≤b)(x0:b≤1024)(h0:(rndF q b).err=0) :
 yA 13 #[.agg #[.slice p.bA p.bs.length p.bc,.int .i64 p.free,.slice p.oA p.os.length p.oc,.slice p.fA p.fs.length p.fc,.slice p.eA p.qs.length p.ec],vR4 U V l1 c1 t1 W X Y,.int .i64 ((b:Nat):Int)] w (Zmz p.bs p.qs.length (sg (rndF q b).s (rndF q b).m,(rndF q b).e) w):=by
 obtain⟨a,f⟩:∃ m,m=w.heap.size:=⟨_,rfl⟩
 have y0:=hV.b0
 have z0:=hV.q0
 refine zV func13 rfl qK (fun w' hf=>trivial) ?_
 refine yY (xq 4 [Δ 3,Δ 4,Δ 6,yJ 7 0] [(6,52,[Ω,Ω,Ω]),bR4 4 43 U V l1 c1 t1 W X Y,(3,27,[Λ p.bA p.bs.length p.bc,Γ p.free,Λ p.oA p.os.length p.oc,Λ p.fA p.fs.length p.fc,Λ p.eA p.qs.length p.ec])] ?_)
 refine yZ (yY (xq 4 [(8,.p 15 0)] [(15,107,[Γ b,Γ 0])] ?_))
 refine yZ (yY (xq 2 [(16,.p 15 0),eR4 17 U V l1 c1 t1 W X Y] [] ?_))
 obtain⟨r,hr⟩:=yE (rndF q b)
 have he:r.err=0:=by rw[←hr];exact h0
 refine ZoO (b:=15) (cs:=[Γ b,Γ 0]) 39 [vR4 U V l1 c1 t1 W X Y] (d:=18) (shF r.e) (fun _=>[yI b, yI 0]) (fun y w=>zN w (wN y) (sg r.s r.m)) qK qK qK (fun w q_ R Q hB=>(show Calls _ _ _ _ (RetC w q_ (b:Int) r) by rw[←hr];exact Zkv q_ b U V l1 c1 t1 W X Y q _ hB (hq.ext R) (uD hz.1 qD) (uD hz.2 qD) qO qO).mono (fun _ _ h=>by have h:=Zsl h;rw[he] at h;exact h)) fun⟨E,F,G,H⟩=>?_
 refine xr 2 [Δ 3,Δ 6,yJ 7 0,(8,.p 15 0),Δ 9] [yF 9 109 E F G H r.e,(15,107,[Γ b,Γ 0]),(6,52,[Ω,Ω,Ω]),(3,27,[Λ p.bA p.bs.length p.bc,Γ p.free,Λ p.oA p.os.length p.oc,Λ p.fA p.fs.length p.fc,Λ p.eA p.qs.length p.ec])] ?_
 refine yZ (yY (xq 1 [Δ 10] [(10,52,[Ω,Ω,Ω])] ?_))
 refine yZ (zD (yY (xq 4 [eS1 20 p.bA p.bs.length p.bc,yJ 21 p.bs.length,yJ 22 0] [] ?_)))
 refine yZ (zO ?_)
 refine xI (fun nn ss ff=>∃ (k:Nat) (A:Option Addr) (cap:Nat) (l:List (Mr (Mr Ef))) (B:Option Addr) (cap2:Nat) (l2:List (Mr (Mr Ef))),ss=ofL [Δ 3,Δ 6,yJ 7 0,(8,.p 15 0),Δ 9,Δ 10,eS1 20 p.bA p.bs.length p.bc,yJ 21 p.bs.length,yJ 22 k] [(10,52,[Λ A k cap,Λ B k cap2,Ω]),yF 9 109 E F G H r.e,(15,107,[Γ b,Γ 0]),(6,52,[Ω,Ω,Ω]),(3,27,[Λ p.bA p.bs.length p.bc,Γ p.free,Λ p.oA p.os.length p.oc,Λ p.fA p.fs.length p.fc,Λ p.eA p.qs.length p.ec])]∧ff=(fun w=>((((zN w (vI2 E F G H) (sg r.s r.m)∧OwnD w a 112 1 A cap k (l.flatMap mrC))∧MmOk a w l)∧OwnD w a 112 1 B cap2 k (l2.flatMap mrC))∧MmOk a w l2))∧(k≤p.bs.length)∧(l.map mmV=(p.bs.take k).map (fun b=>jF b.toNat (sg r.s r.m,r.e)))∧(l2.map mmV=(p.bs.take k).map (fun b=>jF b.toNat (sg r.s r.m,r.e)))∧(k=0→A=none)∧(k=0→B=none)∧(Dis A (bkA B))∧nn=(1+(p.bs.length-k))) _ ⟨0,none,0,([]:List (Mr (Mr Ef))),none,0,([]:List (Mr (Mr Ef))),rfl,rfl,(uT _),rfl,rfl,(fun _=>rfl),(fun _=>rfl),Dis.nil,rfl⟩ (fun w Q=>⟨⟨⟨⟨Q.2,(OwnD.nil _ _ _ _)⟩,MmOk.nil⟩,(OwnD.nil _ _ _ _)⟩,MmOk.nil⟩) ?_
 rintro nn ss ff ⟨k,A,cap,l,B,cap2,l2,rfl,rfl,hk,Z,a0,i0,j0,c0,rfl⟩
 refine yY (xq 1 [yB 23 (decide ((k:Int)<((p.bs.length:Nat):Int)))] [] ?_)
 refine yZ (zD ?_)
 refine yQ ((decide ((k:Int)<((p.bs.length:Nat):Int)))) (fun I=>?_) fun I=>?_
 ·have g:k<p.bs.length:=by have:=uB I;omega
  refine zG (zB (zD (zO (zD (zC ?_)))))
  refine xqk 24 _ (fun w R Q=>xM (t:=22) (e:=3) (sz:=1) (x:=.tmp 20) (ix:=.tmp 22) (cap:=p.bc) (i:=k) ((OwnD.ext hp.bl R).ne g) g) ?_
  obtain⟨J,o⟩:∃ x,p.bs[k]! = x:=⟨_,rfl⟩
  refine xqk 25 (yI J) (fun w R Q=>by rw[←o];exact ZaY (t:=3) (x:=.tmp 24) (OwnD.ext hp.bl R) g) ?_
  have k0:1≤J∧J≤32:=by rw[←o];exact hV.b1 _ (wJ g)
  obtain⟨n,en⟩:∃ n:Nat,J=(n:Int):=⟨J.toNat,qO⟩
  subst en
  have A0:1≤n∧n≤32:=qO
  refine xq 1 [yJ 12 n] [] ?_
  refine xe (zB ?_)
  refine ZjL 15 [0,1,0,0,12,28,63,0,128,0,0,1663,3711,8191,511,32767,65535,131071] (fun w=>True) (fun w Q=>trivial) ?_
  refine xqg 4 [eS1 27 A k cap,yJ 28 n,(29,.v (yV E F G H r.e))] ?_
  refine xqd _ _ 30 (fun x:{x:Nat × List (Mr Ef) // x.2.map (fun y=>y.xs.map efV)=jF n (efV (⟨E,F,G,H,r.e,sg r.s r.m⟩:Ef))∧a≤x.1}=>Υ x.1.1 n) _ (fun w R Q=>(ZhR n (⟨E,F,G,H,r.e,sg r.s r.m⟩:Ef) _ Q.1.1.1.1 qO).mono (fun _ _ h=>pMe (f ▸ R.size) h)) fun xx=>?_
  obtain⟨⟨u,P⟩,K,p0⟩:=xx
  refine gI 31 (fun S:{b:Nat // a≤b}=>Υ S.1 1) (fun S zw=>Blk 112 zw S.1 #[Υ u n]) qK qK qK qK qK qK qK (fun w R Q=>wA (f ▸ R.size) (t:=49) (sz:=1) (z:=Ξ) (parts:=#[(0,Operand.tmp 30)]) qK qK qK qK qK qK) fun⟨l0,r0⟩=>?_
  refine xPg ?_
  refine Zes (d:=32) (bytes:=24) (t:=49) (e:=112) (s0:=Operand.tmp 27) (x:=Operand.tmp 31) (xs:=l.flatMap mrC) (news:=[Υ u n]) (z:=Ξ) a A (bkA B) (fun j hj h=>Or.inl (f ▸ h)) l0 1 (fun w=>((((zN w (vI2 E F G H) (sg r.s r.m)∧MmOk a w l)∧OwnD w a 112 1 B cap2 k (l2.flatMap mrC))∧MmOk a w l2)∧MmE a w u n P)) (fun w R Q=>f ▸ R.size) (fun w Q=>Q.1.1.1.1.1.2) (fun w Q=>Blk.news Q.2) rfl qD rfl (wW.list qS) qD (by simp[Value.oneCell']) qS (by simp only[maxLen];omega) qO i0 (Zet _) (fun w Q=>OwnD.lt Q.1.1.1.2) c0 (fun w w2 R Q D=>⟨⟨⟨⟨zN.rowD Q.1.1.1.1.1.1 Q.1.1.1.1.1.2 D,MmOk.apart Q.1.1.1.1.2 Q.1.1.1.1.1.2 qD qD D⟩,OwnD.dis Q.1.1.1.2 c0 D⟩,MmOk.apart Q.1.1.2 Q.1.1.1.1.1.2 qD qD D⟩,MmE.apart Q.1.2 Q.1.1.1.1.1.2 qD qD D⟩) (fun w Q=>trivial) fun M T O=>?_
  refine xPg ?_
  refine xqg 4 [eS1 34 B k cap2,yJ 35 n,(36,.v (yV E F G H r.e))] ?_
  refine xqd _ _ 37 (fun x:{x:Nat × List (Mr Ef) // x.2.map (fun y=>y.xs.map efV)=jF n (efV (⟨E,F,G,H,r.e,sg r.s r.m⟩:Ef))∧a≤x.1}=>Υ x.1.1 n) _ (fun w R Q=>(ZhR n (⟨E,F,G,H,r.e,sg r.s r.m⟩:Ef) _ Q.1.1.1.1.1 qO).mono (fun _ _ h=>pMe (f ▸ R.size) h)) fun xx=>?_
  obtain⟨⟨N,d0⟩,L,t0⟩:=xx
  refine gI 38 (fun S:{b:Nat // a≤b}=>Υ S.1 1) (fun S zw=>Blk 112 zw S.1 #[Υ N n]) qK qK qK qK qK qK qK (fun w R Q=>wA (f ▸ R.size) (t:=49) (sz:=1) (z:=Ξ) (parts:=#[(0,Operand.tmp 37)]) qK qK qK qK qK qK) fun⟨n0,u0⟩=>?_
  refine xPg ?_
  refine Zes (d:=39) (bytes:=24) (t:=49) (e:=112) (s0:=Operand.tmp 34) (x:=Operand.tmp 38) (xs:=l2.flatMap mrC) (news:=[Υ N n]) (z:=Ξ) a B (bkA M) (fun j hj h=>Or.inl (f ▸ h)) n0 1 (fun w=>(((((zN w (vI2 E F G H) (sg r.s r.m)∧MmOk a w l)∧MmOk a w l2)∧MmE a w u n P)∧OwnD w a 112 1 M T (k+1) (l.flatMap mrC ++ [Υ u n]))∧MmE a w N n d0)) (fun w R Q=>f ▸ R.size) (fun w Q=>Q.1.1.1.1.1.2) (fun w Q=>Blk.news Q.2) rfl qD rfl (wW.list qS) qD (by simp[Value.oneCell']) qS (by simp only[maxLen];omega) qO j0 (Zet _) (fun w Q=>OwnD.lt Q.1.1.2) (Dis.symm O.2.2) (fun w w2 R Q D=>⟨⟨⟨⟨⟨zN.rowD Q.1.1.1.1.1.1.1 Q.1.1.1.1.1.2 D,MmOk.apart Q.1.1.1.1.1.1.2 Q.1.1.1.1.1.2 qD qD D⟩,MmOk.apart Q.1.1.1.1.2 Q.1.1.1.1.1.2 qD qD D⟩,MmE.apart Q.1.1.1.2 Q.1.1.1.1.1.2 qD qD D⟩,OwnD.dis Q.1.1.2 (Dis.symm O.2.2) D⟩,MmE.apart Q.1.2 Q.1.1.1.1.1.2 qD qD D⟩) (fun w Q=>trivial) fun e0 f0 g0=>?_
  refine xPg ?_
  refine xqg 1 [(40,.p 10 0)] ?_
  refine xz (xq 3 [] [(10,52,[Λ M (k+1) T,Λ e0 (k+1) f0,Ω])] ?_)
  refine xe (xK (zB (zC (xq 1 [yJ 42 (IntKind.i64.wrap ((k:Int)+1))] [] ?_))))
  rw[yW ((k:Int)+1) (((k+1:Nat):Int)) qO]
  refine xq 1 [yJ 22 (k+1:Nat)] [] ?_
  refine xe ?_
  exact xC _ qO ⟨(k+1),M,T,(l ++ [(⟨yL u,n,P⟩:Mr (Mr Ef))]),e0,f0,(l2 ++ [(⟨yL N,n,d0⟩:Mr (Mr Ef))]),rfl,rfl,g,(fM Z g (by rw[o];exact K)),(fM a0 g (by rw[o];exact L)),(fun h=>absurd h (sG _)),(fun h=>absurd h (sG _)),(Dis.symm g0.2.2),rfl⟩ (fun w Q=>⟨⟨⟨⟨Q.1.1.1.1.1.1,(by rw[vR,Zoq (MmE.len K)];exact Q.1.1.2)⟩,(MmOk.snoc Q.1.1.1.1.1.2 (MmE.one (MmE.len K) Q.1.1.1.2))⟩,(by rw[vR,Zoq (MmE.len L)];exact Q.2)⟩,(MmOk.snoc Q.1.1.1.1.2 (MmE.one (MmE.len L) Q.1.2))⟩)
 have o0:k=p.bs.length:=by have:=uC I;omega
 refine xJ (zE (zE (xL (zB (yY (xq 3 [yJ 45 p.qs.length] [] ?_))))))
 refine yD (d:=46) (fun bb:{b:Nat // a≤b}=>Υ bb.1 p.qs.length) (fun bb w=>OwnD w a 109 3 (yL bb.1) p.qs.length p.qs.length ((List.replicate p.qs.length ef0).flatMap efC)) (fun w R Q=>cJ (t:=50) (kl:=.i64) (kc:=.i64) (l:=.tmp 45) (c:=.tmp 45) (bytes:=40) (z:=.agg #[.bool false,Ξ, yI 0]) ef0 Zco qD rfl ZjF (f ▸ R.size) (by simp only[maxLen];omega) qO) fun⟨C,v0⟩=>?_
 refine xP ?_
 refine xq 2 [] [(10,52,[Λ A k cap,Λ B k cap2,Λ (yL C) p.qs.length p.qs.length])] ?_
 refine yZ (zD ?_)
 refine SXc.weak [Δ 6,yJ 7 0,(8,.p 15 0),Δ 10] [(10,52,[Λ A k cap,Λ B k cap2,Λ (yL C) p.qs.length p.qs.length]),(15,107,[Γ b,Γ 0]),(6,52,[Ω,Ω,Ω])] (kQ.of qK) qK (fun _ h=>h) ?_
 refine yO 6 zQ ?_
 refine xqf 6 [yJ 52 0] [(6,52,[Λ A k cap,Λ B k cap2,Λ (yL C) p.qs.length p.qs.length]),(10,52,[Λ A k cap,Λ B k cap2,Λ (yL C) p.qs.length p.qs.length]),(15,107,[Γ b,Γ 0]),(6,52,[Ω,Ω,Ω])] ?_
 refine xz (xq 1 [yJ 7 0] [(6,52,[Λ A k cap,Λ B k cap2,Λ (yL C) p.qs.length p.qs.length])] ?_)
 refine yZ (zJ ?_)
 refine yR (.tuple #[.agg #[.slice A k cap,.slice B k cap2,Υ C p.qs.length], yI 0]) fun w' R Q=>?_
 exact Zss o0 Z a0 hr Q.1.1.1.1.2 Q.1.1.1.2 Q.1.1.2 Q.1.2 Q.2 f R
def mmT (y:Mr (Mr Ef)):Nat × Nat × List (ByteArray×Int):=(y.xs.length,y.xs.length,y.xs.flatMap (fun r=>r.xs.map ftE))
theorem pWr {n c m0:Nat}{a:List (ByteArray×Int)}{w w':World}{d:Ending}(e:m0≤w.heap.size)(h:Zp1 n c a w d w') :
 lG (fun x:Option Addr×Nat=>.agg #[.int .i64 ((n:Nat):Int),.int .i64 ((c:Nat):Int),.slice x.1 a.length x.2]) (fun x w=>OwnD w m0 61 2 x.1 x.2 a.length (a.flatMap flC)) w d w':=by
 obtain⟨A,b,rfl,f,Q⟩:=h
 exact⟨(A,b),rfl,Q,f.boxN e⟩
def FmEq (xs ys:List Fm):Prop:=(∀ x∈xs,x.fs.length≤4096)∧xs.length=ys.length∧∀ k,k<xs.length→∀ {x y:Fm},xs[k]! = x→ys[k]! = y→y.r=x.r∧y.c=x.c∧y.fs=x.fs
theorem FmEq.of {xs ys:List Fm}(h:xs.map fmT=ys.map fmT)(d:∀ x∈xs,x.fs.length≤4096):FmEq xs ys:=by
 have c:xs.length=ys.length:=by have:=uX List.length h;rwa [uL,uL] at this
 refine⟨d,c,fun k a x y e f=>?_⟩
 have b:(xs.map fmT)[k]'(by rw[uL];exact a)=(ys.map fmT)[k]'(by rw[uL];exact c ▸ a):=by simp only[h]
 rw[sC,sC,← vT xs k a,← vT ys k (c ▸ a),e,f] at b
 exact⟨(uX Prod.fst b).symm,(uX (fun q=>q.2.1) b).symm,(uX (fun q=>q.2.2) b).symm⟩
theorem Zky (K:Nat)(Z sA yA:qA)(xc sc yc:Nat)(xs us:List (Mr (Mr Ef)))(ys:List Ef)(w:World)(r0:OwnD w K 112 1 Z xc xs.length (xs.flatMap mrC))(c0:MmOk K w xs)(t0:OwnD w K 112 1 sA sc us.length (us.flatMap mrC))(d0:MmOk K w us)(f0:OwnD w K 109 3 yA yc ys.length (ys.flatMap efC))(u0:∀ y∈ys,zN w (vI2 y.s y.A y.l y.c) y.z)(O:us.length=xs.length)(hn:xs.length≤64)(hq:ys.length≤512)(w0:∀ y∈xs,0<y.xs.length∧y.xs.length≤64∧(∀ r∈y.xs,r.xs.length=y.xs.length)∧∀ r∈y.xs,∀ z∈r.xs,ml z.z.natAbs≤1000)(x0:∀ y∈us,0<y.xs.length∧y.xs.length≤64∧(∀ r∈y.xs,r.xs.length=y.xs.length)∧∀ r∈y.xs,∀ z∈r.xs,ml z.z.natAbs≤1000)(y0:∀ y∈ys,ml y.z.natAbs≤1000) :
 Calls Tryz.prog 14 #[.agg #[.slice Z xs.length xc,.slice sA us.length sc,.slice yA ys.length yc]] w (ZbM (fun v=>v) (fun x=>x.xs.map fmT=xs.map mmT∧x.ss.map fmT=us.map mmT∧x.ys=ys.map ftE) w):=by
 obtain⟨o,u⟩:∃ m,m=w.heap.size:=⟨_,rfl⟩
 refine zV (Φ:=fun w=>(OwnD w K 112 1 Z xc xs.length (xs.flatMap mrC)∧OwnD w K 112 1 sA sc us.length (us.flatMap mrC))) func14 rfl qK (fun w' hf=>⟨r0.ext hf,t0.ext hf⟩) ?_
 refine yY (xq 2 [Δ 1,Δ 2] [(2,35,[Ω,Ω,Ω]),(1,52,[Λ Z xs.length xc,Λ sA us.length sc,Λ yA ys.length yc])] ?_)
 refine yZ (yY (xq 1 [Δ 3] [(3,35,[Ω,Ω,Ω])] ?_))
 refine yZ (zD (yY (xq 4 [yJ 9 xs.length,yJ 10 0] [] ?_)))
 refine yZ (zO ?_)
 refine xI (fun nn ss ff=>∃ (k:Nat) (A:Option Addr) (cap:Nat) (l:List Fm) (B:Option Addr) (n:Nat) (L:List Fm),ss=ofL [Δ 1,Δ 2,Δ 3,yJ 9 xs.length,yJ 10 k] [(3,35,[Λ A k cap,Λ B k n,Ω]),(2,35,[Ω,Ω,Ω]),(1,52,[Λ Z xs.length xc,Λ sA us.length sc,Λ yA ys.length yc])]∧ff=(fun w=>(((((OwnD w K 112 1 Z xc xs.length (xs.flatMap mrC)∧OwnD w K 112 1 sA sc us.length (us.flatMap mrC))∧OwnD w o 59 3 A cap k (l.flatMap fmC))∧xG o w l)∧OwnD w o 59 3 B n k (L.flatMap fmC))∧xG o w L))∧(k≤xs.length)∧(l.map fmT=(xs.take k).map mmT)∧(L.map fmT=(us.take k).map mmT)∧(k=0→A=none)∧(k=0→B=none)∧(Dis A (bkA B))∧nn=(1+(xs.length-k))) _ ⟨0,none,0,([]:List Fm),none,0,([]:List Fm),rfl,rfl,(uT _),rfl,rfl,(fun _=>rfl),(fun _=>rfl),Dis.nil,rfl⟩ (fun w Q=>⟨⟨⟨⟨⟨Q.1,Q.2⟩,(OwnD.nil _ _ _ _)⟩,xG.nil⟩,(OwnD.nil _ _ _ _)⟩,xG.nil⟩) ?_
 rintro nn ss ff ⟨k,A,cap,l,B,n,L,rfl,rfl,hk,g0,h0,z0,A0,i0,rfl⟩
 refine yY (xq 1 [yB 11 (decide ((k:Int)<((xs.length:Nat):Int)))] [] ?_)
 refine yZ (zD ?_)
 refine yQ ((decide ((k:Int)<((xs.length:Nat):Int)))) (fun S=>?_) fun S=>?_
 ·have D:k<xs.length:=by have:=uB S;omega
  refine zG (zB (zD (zO (yY (xq 2 [yJ 4 k] [] ?_)))))
  refine xe (zB ?_)
  refine ZjL 21 [0,1,0,4,0,28,60,124,252,511,0,1024,0,4096,0,28672,61440,127999,259071,524287,4095,2097151,4194303,8388607] (fun w=>(OwnD w K 112 1 Z xc xs.length (xs.flatMap mrC)∧OwnD w K 112 1 sA sc us.length (us.flatMap mrC))) (fun w Q=>⟨Q.1.1.1.1.1,Q.1.1.1.1.2⟩) ?_
  refine xqg 5 [eS1 14 A k cap,eS1 16 Z xs.length xc,yJ 17 k] ?_
  refine xqj 18 _ (fun w Q=>xM (t:=49) (e:=112) (sz:=1) (x:=.tmp 16) (ix:=.tmp 17) (cap:=xc) (i:=k) (Q.1.ne D) D) ?_
  obtain⟨f,T⟩:∃ x,xs[k]! = x:=⟨_,rfl⟩
  refine xqj 19 (.slice f.A f.xs.length f.cap) (fun w Q=>by rw[←T];exact ZaX (t:=112) (x:=.tmp 18) Q.1 D) ?_
  have H:f∈xs:=by rw[←T];exact wJ D
  obtain⟨v0,v1,v2,v3⟩:=w0 _ H
  refine xqd _ _ 20 (fun q:Option Addr×Nat=>.agg #[yI f.xs.length, yI f.xs.length,.slice q.1 (f.xs.flatMap (fun y=>y.xs.map ftE)).length q.2]) _ (fun w R Q=>(Zlu K f.A f.cap f.xs.length f.xs.length f.xs _ ((c0 _ H).1.1.ext R) ((c0 _ H).1.2.ext R) ((c0 _ H).2.ext R) rfl v0 v1 v1 v2 v3).mono (fun _ _ h=>pWr (u ▸ R.size) h)) fun⟨F,G⟩=>?_
  refine gI 21 (fun U:{b:Nat // o≤b}=>Υ U.1 1) (fun U zw=>Blk 59 zw U.1 #[yI f.xs.length, yI f.xs.length,.slice F (f.xs.flatMap (fun y=>y.xs.map ftE)).length G]) qK qK qK qK qK qK qK (fun w R Q=>wA (u ▸ R.size) (t:=32) (sz:=3) (z:=.agg #[yI 0, yI 0,Ξ]) (parts:=#[(0,Operand.tmp 20)]) qK qK qK qK qK qK) fun⟨B0,H0⟩=>?_
  refine xPg ?_
  refine Zes (d:=22) (cap:=cap) (bytes:=40) (t:=32) (e:=59) (s0:=Operand.tmp 14) (x:=Operand.tmp 21) (xs:=l.flatMap fmC) (news:=[yI f.xs.length, yI f.xs.length,.slice F (f.xs.flatMap (fun y=>y.xs.map ftE)).length G]) (z:=(.agg #[yI 0, yI 0,Ξ])) o A (bkA B) (fun j hj h=>Or.inl (u ▸ h)) B0 1 (fun w=>(((((OwnD w K 112 1 Z xc xs.length (xs.flatMap mrC)∧OwnD w K 112 1 sA sc us.length (us.flatMap mrC))∧xG o w l)∧OwnD w o 59 3 B n k (L.flatMap fmC))∧xG o w L)∧OwnD w o 61 2 F G (f.xs.flatMap (fun y=>y.xs.map ftE)).length ((f.xs.flatMap (fun y=>y.xs.map ftE)).flatMap flC))) (fun w R Q=>u ▸ R.size) (fun w Q=>Q.1.1.1.1.1.2) (fun w Q=>Blk.news Q.2) rfl qD rfl (wW.list qS) qD (by simp[Value.oneCell']) nd2 (by simp only[maxLen];omega) qO z0 (Zet _) (fun w Q=>OwnD.lt Q.1.1.1.2) i0 (fun w w2 R Q I=>⟨⟨⟨⟨⟨OwnD.apart Q.1.1.1.1.1.1.1 Q.1.1.1.1.1.2 qD I,OwnD.apart Q.1.1.1.1.1.1.2 Q.1.1.1.1.1.2 qD I⟩,xG.apart Q.1.1.1.1.2 Q.1.1.1.1.1.2 qD I⟩,OwnD.dis Q.1.1.1.2 i0 I⟩,xG.apart Q.1.1.2 Q.1.1.1.1.1.2 qD I⟩,OwnD.apart Q.1.2 Q.1.1.1.1.1.2 qD I⟩) (fun w Q=>⟨Q.1.1.1.1.1,Q.1.1.1.1.2⟩) fun a0 e0 b0=>?_
  refine xPg ?_
  refine xqg 5 [eS1 24 B k n,eS1 26 sA us.length sc,yJ 27 k] ?_
  refine xqj 28 _ (fun w Q=>xM (t:=49) (e:=112) (sz:=1) (x:=.tmp 26) (ix:=.tmp 27) (cap:=sc) (i:=k) (Q.2.ne (O.symm ▸ D)) (O.symm ▸ D)) ?_
  obtain⟨g,V⟩:∃ x,us[k]! = x:=⟨_,rfl⟩
  refine xqj 29 (.slice g.A g.xs.length g.cap) (fun w Q=>by rw[←V];exact ZaX (t:=112) (x:=.tmp 28) Q.2 (O.symm ▸ D)) ?_
  have J:g∈us:=by rw[←V];exact wJ (O.symm ▸ D)
  obtain⟨v0,v1,v2,v3⟩:=x0 _ J
  refine xqd _ _ 30 (fun q:Option Addr×Nat=>.agg #[yI g.xs.length, yI g.xs.length,.slice q.1 (g.xs.flatMap (fun y=>y.xs.map ftE)).length q.2]) _ (fun w R Q=>(Zlu K g.A g.cap g.xs.length g.xs.length g.xs _ ((d0 _ J).1.1.ext R) ((d0 _ J).1.2.ext R) ((d0 _ J).2.ext R) rfl v0 v1 v1 v2 v3).mono (fun _ _ h=>pWr (u ▸ R.size) h)) fun⟨M,N⟩=>?_
  refine gI 31 (fun U:{b:Nat // o≤b}=>Υ U.1 1) (fun U zw=>Blk 59 zw U.1 #[yI g.xs.length, yI g.xs.length,.slice M (g.xs.flatMap (fun y=>y.xs.map ftE)).length N]) qK qK qK qK qK qK qK (fun w R Q=>wA (u ▸ R.size) (t:=32) (sz:=3) (z:=.agg #[yI 0, yI 0,Ξ]) (parts:=#[(0,Operand.tmp 30)]) qK qK qK qK qK qK) fun⟨C0,I0⟩=>?_
  refine xPg ?_
  refine Zes (d:=32) (cap:=n) (bytes:=40) (t:=32) (e:=59) (s0:=Operand.tmp 24) (x:=Operand.tmp 31) (xs:=L.flatMap fmC) (news:=[yI g.xs.length, yI g.xs.length,.slice M (g.xs.flatMap (fun y=>y.xs.map ftE)).length N]) (z:=(.agg #[yI 0, yI 0,Ξ])) o B (bkA a0) (fun j hj h=>Or.inl (u ▸ h)) C0 1 (fun w=>((((((OwnD w K 112 1 Z xc xs.length (xs.flatMap mrC)∧OwnD w K 112 1 sA sc us.length (us.flatMap mrC))∧xG o w l)∧xG o w L)∧OwnD w o 61 2 F G (f.xs.flatMap (fun y=>y.xs.map ftE)).length ((f.xs.flatMap (fun y=>y.xs.map ftE)).flatMap flC))∧OwnD w o 59 3 a0 e0 (k+1) (l.flatMap fmC ++ [yI f.xs.length, yI f.xs.length,.slice F (f.xs.flatMap (fun y=>y.xs.map ftE)).length G]))∧OwnD w o 61 2 M N (g.xs.flatMap (fun y=>y.xs.map ftE)).length ((g.xs.flatMap (fun y=>y.xs.map ftE)).flatMap flC))) (fun w R Q=>u ▸ R.size) (fun w Q=>Q.1.1.1.1.1.2) (fun w Q=>Blk.news Q.2) rfl qD rfl (wW.list qS) qD (by simp[Value.oneCell']) nd2 (by simp only[maxLen];omega) qO A0 (Zet _) (fun w Q=>OwnD.lt Q.1.1.2) (Dis.symm b0.2.2) (fun w w2 R Q I=>⟨⟨⟨⟨⟨⟨OwnD.apart Q.1.1.1.1.1.1.1.1 Q.1.1.1.1.1.2 qD I,OwnD.apart Q.1.1.1.1.1.1.1.2 Q.1.1.1.1.1.2 qD I⟩,xG.apart Q.1.1.1.1.1.1.2 Q.1.1.1.1.1.2 qD I⟩,xG.apart Q.1.1.1.1.2 Q.1.1.1.1.1.2 qD I⟩,OwnD.apart Q.1.1.1.2 Q.1.1.1.1.1.2 qD I⟩,OwnD.dis Q.1.1.2 (Dis.symm b0.2.2) I⟩,OwnD.apart Q.1.2 Q.1.1.1.1.1.2 qD I⟩) (fun w Q=>⟨Q.1.1.1.1.1.1,Q.1.1.1.1.1.2⟩) fun j0 k0 l0=>?_
  refine xPg ?_
  refine xqg 1 [(33,.p 3 0)] ?_
  refine xz (xq 3 [] [(3,35,[Λ a0 (k+1) e0,Λ j0 (k+1) k0,Ω])] ?_)
  refine xe (xK (zB (zC (xq 1 [yJ 35 (IntKind.i64.wrap ((k:Int)+1))] [] ?_))))
  rw[yW ((k:Int)+1) (((k+1:Nat):Int)) qO]
  refine xq 1 [yJ 10 (k+1:Nat)] [] ?_
  refine xe ?_
  exact xC _ qO ⟨(k+1),a0,e0,(l ++ [(⟨f.xs.length,f.xs.length,F,G,(f.xs.flatMap (fun y=>y.xs.map ftE))⟩:Fm)]),j0,k0,(L ++ [(⟨g.xs.length,g.xs.length,M,N,(g.xs.flatMap (fun y=>y.xs.map ftE))⟩:Fm)]),rfl,rfl,D,(fM g0 D (by rw[T];rfl)),(fM h0 (O.symm ▸ D) (by rw[V];rfl)),(fun h=>absurd h (sG _)),(fun h=>absurd h (sG _)),(Dis.symm l0.2.2),rfl⟩ (fun w Q=>⟨⟨⟨⟨⟨Q.1.1.1.1.1.1.1,Q.1.1.1.1.1.1.2⟩,(by rw[vR];exact Q.1.1.2)⟩,(xG.snoc Q.1.1.1.1.1.2 Q.1.1.1.2)⟩,(by rw[vR];exact Q.2)⟩,(xG.snoc Q.1.1.1.1.2 Q.1.2)⟩)
 have D0:k=xs.length:=by have:=uC S;omega
 refine xJ (zE (zE (xL (zB (zD (zD ?_))))))
 subst D0
 refine zC (xr 4 [Δ 2,Δ 3,eS1 37 yA ys.length yc,yJ 38 ys.length,yJ 39 0] [(3,35,[Λ A xs.length cap,Λ B xs.length n,Ω]),(2,35,[Ω,Ω,Ω])] ?_)
 refine yZ (zO ?_)
 refine xI (fun nn ss ff=>∃ (k:Nat) (C:Option Addr) (E:Nat) (l3:List (ByteArray×Int)),ss=ofL [Δ 2,Δ 3,eS1 37 yA ys.length yc,yJ 38 ys.length,yJ 39 k] [(3,35,[Λ A xs.length cap,Λ B xs.length n,Λ C k E]),(2,35,[Ω,Ω,Ω])]∧ff=(fun w=>((((OwnD w o 59 3 A cap xs.length (l.flatMap fmC)∧xG o w l)∧OwnD w o 59 3 B n xs.length (L.flatMap fmC))∧xG o w L)∧OwnD w o 61 2 C E k (l3.flatMap flC)))∧(k≤ys.length)∧(l3=(ys.take k).map ftE)∧(k=0→C=none)∧(Dis C (fun j=>bkF l j∨bkF L j))∧nn=(1+(ys.length-k))) _ ⟨0,none,0,([]:List (ByteArray×Int)),rfl,rfl,(uT _),rfl,(fun _=>rfl),Dis.nil,rfl⟩ (fun w Q=>⟨⟨⟨⟨Q.1.1.1.2,Q.1.1.2⟩,Q.1.2⟩,Q.2⟩,(OwnD.nil _ _ _ _)⟩) ?_
 rintro nn ss ff ⟨k,C,E,l3,rfl,rfl,hk,n0,E0,hC,rfl⟩
 refine yY (xq 1 [yB 40 (decide ((k:Int)<((ys.length:Nat):Int)))] [] ?_)
 refine yZ (zD ?_)
 refine yQ ((decide ((k:Int)<((ys.length:Nat):Int)))) (fun W=>?_) fun W=>?_
 ·have P:k<ys.length:=by have:=uB W;omega
  refine zG (zB (zD (zO (zD (zC ?_)))))
  refine xqk 41 _ (fun w R Q=>xM (t:=50) (e:=109) (sz:=3) (x:=.tmp 37) (ix:=.tmp 39) (cap:=yc) (i:=k) ((OwnD.ext f0 R).ne P) P) ?_
  obtain⟨a,X⟩:∃ x,ys[k]! = x:=⟨_,rfl⟩
  refine xqk 42 (yV a.s a.A a.l a.c a.e) (fun w R Q=>by rw[←X];exact wX (t:=109) (x:=.tmp 41) (OwnD.ext f0 R) Zco P) ?_
  refine xq 2 [Δ 6] [yF 6 109 a.s a.A a.l a.c a.e] ?_
  refine xe (zB ?_)
  have Y:a∈ys:=by rw[←X];exact wJ P
  refine yO 5 zQ ?_
  refine xqg 3 [eS1 44 C k E,(45,.v (yV a.s a.A a.l a.c a.e))] ?_
  refine xqd _ _ 46 (fun _:Unit=>.agg #[.string ⟨(Lib.itoa a.z).toArray⟩, yI a.e]) _ (fun w R Q=>yN (Zgp a.s a.A a.l a.c a.z a.e _ ((u0 _ Y).ext R) (uD (y0 _ Y) qD))) fun xx=>?_
  refine gI 47 (fun U:{b:Nat // o≤b}=>Υ U.1 1) (fun U zw=>Blk 61 zw U.1 #[.string ⟨(Lib.itoa a.z).toArray⟩, yI a.e]) qK qK qK qK qK qK qK (fun w R Q=>wA (u ▸ R.size) (t:=33) (sz:=2) (z:=.agg #[.string ⟨#[]⟩, yI 0]) (parts:=#[(0,Operand.tmp 46)]) qK qK qK qK qK qK) fun⟨F0,J0⟩=>?_
  refine xPg ?_
  refine xz ?_
  refine fS (d:=48) (cap:=E) (bytes:=24) (t:=33) (e:=61) (s0:=Operand.tmp 44) (x:=Operand.tmp 47) (xs:=l3.flatMap flC) (news:=[.string ⟨(Lib.itoa a.z).toArray⟩, yI a.e]) (z:=(yS ⟨#[]⟩ 0)) o C (fun j=>bkF l j∨bkF L j) (fun j hj h=>Or.inl (u ▸ h)) F0 1 (fun w=>(((OwnD w o 59 3 A cap xs.length (l.flatMap fmC)∧xG o w l)∧OwnD w o 59 3 B n xs.length (L.flatMap fmC))∧xG o w L)) (fun w R Q=>u ▸ R.size) (fun w Q=>Q.1.1.2) (fun w Q=>Blk.news Q.2) rfl qD rfl (wW.list qS) qD (by simp[Value.oneCell']) qS (by simp only[maxLen];omega) qO E0 (fun w Q=>Zit (xG.lt Q.1.1.1.1.1.2) (xG.lt Q.1.1.1.2)) hC (fun w w2 R Q I=>⟨⟨⟨OwnD.apart Q.1.1.1.1.1.1 Q.1.1.2 qD I,xG.dis Q.1.1.1.1.1.2 hC.l I⟩,OwnD.apart Q.1.1.1.1.2 Q.1.1.2 qD I⟩,xG.dis Q.1.1.1.2 hC.r I⟩) fun o0 p0 q0=>?_
  refine xP ?_
  refine xq 2 [] [(3,35,[Λ A xs.length cap,Λ B xs.length n,Λ o0 (k+1) p0])] ?_
  refine xe (xK (zB (zC (xq 1 [yJ 50 (IntKind.i64.wrap ((k:Int)+1))] [] ?_))))
  rw[yW ((k:Int)+1) (((k+1:Nat):Int)) qO]
  refine xq 1 [yJ 39 (k+1:Nat)] [] ?_
  refine xe ?_
  exact xC _ qO ⟨(k+1),o0,p0,(l3 ++ [ftE a]),rfl,rfl,P,(ZhQ n0 P (by rw[X])),(fun h=>absurd h (sG _)),q0.2.2,rfl⟩ (fun w Q=>⟨⟨⟨⟨Q.1.1.1.1,Q.1.1.1.2⟩,Q.1.1.2⟩,Q.1.2⟩,(by rw[vR];exact Q.2)⟩)
 have G0:k=ys.length:=by have:=uC W;omega
 refine xJ (zE (zE (xL (zB (yY (xq 2 [] [(2,35,[Λ A xs.length cap,Λ B xs.length n,Λ C k E])] ?_))))))
 refine yZ (zJ ?_)
 refine yR (.agg #[.slice A xs.length cap,.slice B xs.length n,.slice C k E]) fun w' R Q=>?_
 exact Zoo mmT ftE O g0 rfl h0 n0 G0 Q.1.1.1.1 Q.1.1.1.2 Q.1.1.2 Q.1.2 Q.2 u R
theorem ZbP (n o:Nat)(a b:It)(w:World)(ha:ItOk n w a)(P:ItOk o w b)(M:FmEq a.xs b.xs)(N:FmEq a.ss b.ss)(W:a.ys=b.ys)(Y:a.xs.length≤1000)(Z:a.ss.length≤1000)(a0:a.ys.length≤1000) :
 yA 11 #[.agg #[.slice a.xA a.xs.length a.xc,.slice a.sA a.ss.length a.sc,.slice a.yA a.ys.length a.yc],.agg #[.slice b.xA b.xs.length b.xc,.slice b.sA b.ss.length b.sc,.slice b.yA b.ys.length b.yc]] w (RetV w (.bool true)):=by
 have H:a.ys.length=b.ys.length:=by rw[W]
 refine zV (Φ:=fun w=>(((((((((OwnD w n 59 3 a.xA a.xc a.xs.length (a.xs.flatMap fmC)∧xG n w a.xs)∧OwnD w n 59 3 a.sA a.sc a.ss.length (a.ss.flatMap fmC))∧xG n w a.ss)∧OwnD w n 61 2 a.yA a.yc a.ys.length (a.ys.flatMap flC))∧OwnD w o 59 3 b.xA b.xc b.xs.length (b.xs.flatMap fmC))∧xG o w b.xs)∧OwnD w o 59 3 b.sA b.sc b.ss.length (b.ss.flatMap fmC))∧xG o w b.ss)∧OwnD w o 61 2 b.yA b.yc b.ys.length (b.ys.flatMap flC))) func11 rfl qK (fun w' G=>⟨⟨⟨⟨⟨⟨⟨⟨⟨ha.x1.ext G,ha.x2.ext G⟩,ha.s1.ext G⟩,ha.s2.ext G⟩,ha.y1.ext G⟩,P.x1.ext G⟩,P.x2.ext G⟩,P.s1.ext G⟩,P.s2.ext G⟩,P.y1.ext G⟩) ?_
 refine yY (xq 3 [Δ 2,Δ 3,yB 4 false] [(3,35,[Λ b.xA b.xs.length b.xc,Λ b.sA b.ss.length b.sc,Λ b.yA b.ys.length b.yc]),(2,35,[Λ a.xA a.xs.length a.xc,Λ a.sA a.ss.length a.sc,Λ a.yA a.ys.length a.yc])] ?_)
 refine yZ (zD (yY (xq 7 [yB 14 ((((a.xs.length:Nat):Int):Int) != ((b.xs.length:Nat):Int))] [] ?_)))
 rw[(show ((((a.xs.length:Nat):Int):Int) != ((b.xs.length:Nat):Int))=false from iC (by rw[M.2.1]))]
 refine xq 8 [yB 15 false,yB 22 ((((a.ss.length:Nat):Int):Int) != ((b.ss.length:Nat):Int))] [] ?_
 rw[(show ((((a.ss.length:Nat):Int):Int) != ((b.ss.length:Nat):Int))=false from iC (by rw[N.2.1]))]
 refine xq 9 [yB 24 false,yB 31 ((((a.ys.length:Nat):Int):Int) != ((b.ys.length:Nat):Int))] [] ?_
 rw[(show ((((a.ys.length:Nat):Int):Int) != ((b.ys.length:Nat):Int))=false from iC (by rw[H]))]
 refine xq 1 [yB 32 false] [] ?_
 refine yZ (xb (zG (zB (zD (yY (xq 4 [yJ 35 a.xs.length,yJ 36 0] [] ?_))))))
 refine yZ (zO ?_)
 refine xI (fun I J K=>∃ (k:Nat),J=ofL [Δ 2,Δ 3,yB 4 false,yJ 35 a.xs.length,yJ 36 k] [(3,35,[Λ b.xA b.xs.length b.xc,Λ b.sA b.ss.length b.sc,Λ b.yA b.ys.length b.yc]),(2,35,[Λ a.xA a.xs.length a.xc,Λ a.sA a.ss.length a.sc,Λ a.yA a.ys.length a.yc])]∧K=(fun w=>(((((((((OwnD w n 59 3 a.xA a.xc a.xs.length (a.xs.flatMap fmC)∧xG n w a.xs)∧OwnD w n 59 3 a.sA a.sc a.ss.length (a.ss.flatMap fmC))∧xG n w a.ss)∧OwnD w n 61 2 a.yA a.yc a.ys.length (a.ys.flatMap flC))∧OwnD w o 59 3 b.xA b.xc b.xs.length (b.xs.flatMap fmC))∧xG o w b.xs)∧OwnD w o 59 3 b.sA b.sc b.ss.length (b.ss.flatMap fmC))∧xG o w b.ss)∧OwnD w o 61 2 b.yA b.yc b.ys.length (b.ys.flatMap flC)))∧(k≤a.xs.length)∧I=(1+(a.xs.length-k))) ((1+(a.xs.length-0))) ⟨0,rfl,rfl,(uT _),rfl⟩ (fun w Q=>⟨⟨⟨⟨⟨⟨⟨⟨⟨Q.1.1.1.1.1.1.1.1.1,Q.1.1.1.1.1.1.1.1.2⟩,Q.1.1.1.1.1.1.1.2⟩,Q.1.1.1.1.1.1.2⟩,Q.1.1.1.1.1.2⟩,Q.1.1.1.1.2⟩,Q.1.1.1.2⟩,Q.1.1.2⟩,Q.1.2⟩,Q.2⟩) ?_
 rintro I J K ⟨k,rfl,rfl,X,rfl⟩
 refine yY (xq 1 [yB 37 (decide ((k:Int)<((a.xs.length:Nat):Int)))] [] ?_)
 refine yZ (zD ?_)
 refine yQ ((decide ((k:Int)<((a.xs.length:Nat):Int)))) (fun s=>?_) fun s=>?_
 ·have f:k<a.xs.length:=by have:=uB s;omega
  refine zG (zB (zD (zO (yY (xq 2 [yJ 5 k] [] ?_)))))
  refine yZ (zD ?_)
  refine kR 12 [0,1,0,7,15,0,32,0,224,480,1023,2047] qK qK zQ ?_
  refine xqg 3 [eS1 40 a.xA a.xs.length a.xc,yJ 41 k] ?_
  refine xqj 42 (atA a.xA (k*3)) (fun w Q=>xM (t:=32) (e:=59) (sz:=3) (x:=.tmp 40) (ix:=.tmp 41) (cap:=a.xc) (i:=k) (Q.1.1.1.1.1.1.1.1.1.ne f) f) ?_
  obtain⟨g,u⟩:∃ x,a.xs[k]! = x:=⟨_,rfl⟩
  refine xqj 43 (.agg #[yI g.r, yI g.c,.slice g.A g.fs.length g.cap]) (fun w Q=>by rw[←u];exact wX (t:=59) (x:=.tmp 42) Q.1.1.1.1.1.1.1.1.1 Zaf f) ?_
  refine xqg 3 [eS1 45 b.xA b.xs.length b.xc,yJ 46 k] ?_
  refine xqj 47 (atA b.xA (k*3)) (fun w Q=>xM (t:=32) (e:=59) (sz:=3) (x:=.tmp 45) (ix:=.tmp 46) (cap:=b.xc) (i:=k) (Q.1.1.1.1.2.ne (M.2.1 ▸ f)) (M.2.1 ▸ f)) ?_
  obtain⟨l,z⟩:∃ x,b.xs[k]! = x:=⟨_,rfl⟩
  refine xqj 48 (.agg #[yI l.r, yI l.c,.slice l.A l.fs.length l.cap]) (fun w Q=>by rw[←z];exact wX (t:=59) (x:=.tmp 47) Q.1.1.1.1.2 Zaf (M.2.1 ▸ f)) ?_
  obtain⟨U,V,S⟩:=M.2.2 _ f u z
  have B:g∈a.xs:=by rw[←u];exact wJ f
  have O:l∈b.xs:=by rw[←z];exact wJ (M.2.1 ▸ f)
  refine xqd 37 [.agg #[yI g.r, yI g.c,.slice g.A g.fs.length g.cap],.agg #[yI l.r, yI l.c,.slice l.A l.fs.length l.cap]] 49 (fun _:Unit=>.bool true) _ (fun w R Q=>yN ((show Calls _ _ _ _ (RetV _ (.bool true)) by rw[U,V,S];exact Zgt g.r g.c n o g.fs.length g.A l.A g.cap l.cap g.fs _ (Q.1.1.1.1.1.1.1.1.2 _ B) (by have h:=Q.1.1.1.2 _ O;rw[S] at h;exact h) rfl (M.1 _ B)))) fun xx=>?_
  refine xqg 1 [yB 50 false] ?_
  refine xz (yZ (xb (zG (xK (zB (zC (xq 1 [yJ 51 (IntKind.i64.wrap ((k:Int)+1))] [] ?_)))))))
  rw[yW ((k:Int)+1) (((k+1:Nat):Int)) qO]
  refine xq 1 [yJ 36 (k+1:Nat)] [] ?_
  refine xe ?_
  exact xC ((1+(a.xs.length-(k+1)))) qO ⟨(k+1),rfl,rfl,f,rfl⟩ (fun w Q=>⟨⟨⟨⟨⟨⟨⟨⟨⟨Q.1.1.1.1.1.1.1.1.1.1,Q.1.1.1.1.1.1.1.1.1.2⟩,Q.1.1.1.1.1.1.1.1.2⟩,Q.1.1.1.1.1.1.1.2⟩,Q.1.1.1.1.1.1.2⟩,Q.1.1.1.1.1.2⟩,Q.1.1.1.1.2⟩,Q.1.1.1.2⟩,Q.1.1.2⟩,Q.1.2⟩)
 have T:k=a.xs.length:=by have:=uC s;omega
 refine xJ (zE (zE (xL (zB (zD (yY (xq 4 [yJ 54 a.ss.length,yJ 55 0] [] ?_)))))))
 refine yZ (zO ?_)
 refine xI (fun I J K=>∃ (k:Nat),J=ofL [Δ 2,Δ 3,yB 4 false,yJ 54 a.ss.length,yJ 55 k] [(3,35,[Λ b.xA b.xs.length b.xc,Λ b.sA b.ss.length b.sc,Λ b.yA b.ys.length b.yc]),(2,35,[Λ a.xA a.xs.length a.xc,Λ a.sA a.ss.length a.sc,Λ a.yA a.ys.length a.yc])]∧K=(fun w=>(((((((((OwnD w n 59 3 a.xA a.xc a.xs.length (a.xs.flatMap fmC)∧xG n w a.xs)∧OwnD w n 59 3 a.sA a.sc a.ss.length (a.ss.flatMap fmC))∧xG n w a.ss)∧OwnD w n 61 2 a.yA a.yc a.ys.length (a.ys.flatMap flC))∧OwnD w o 59 3 b.xA b.xc b.xs.length (b.xs.flatMap fmC))∧xG o w b.xs)∧OwnD w o 59 3 b.sA b.sc b.ss.length (b.ss.flatMap fmC))∧xG o w b.ss)∧OwnD w o 61 2 b.yA b.yc b.ys.length (b.ys.flatMap flC)))∧(k≤a.ss.length)∧I=(1+(a.ss.length-k))) ((1+(a.ss.length-0))) ⟨0,rfl,rfl,(uT _),rfl⟩ (fun w Q=>⟨⟨⟨⟨⟨⟨⟨⟨⟨Q.1.1.1.1.1.1.1.1.1,Q.1.1.1.1.1.1.1.1.2⟩,Q.1.1.1.1.1.1.1.2⟩,Q.1.1.1.1.1.1.2⟩,Q.1.1.1.1.1.2⟩,Q.1.1.1.1.2⟩,Q.1.1.1.2⟩,Q.1.1.2⟩,Q.1.2⟩,Q.2⟩) ?_
 rintro I J K ⟨k,rfl,rfl,X,rfl⟩
 refine yY (xq 1 [yB 56 (decide ((k:Int)<((a.ss.length:Nat):Int)))] [] ?_)
 refine yZ (zD ?_)
 refine yQ ((decide ((k:Int)<((a.ss.length:Nat):Int)))) (fun C=>?_) fun C=>?_
 ·have f:k<a.ss.length:=by have:=uB C;omega
  refine zG (zB (zD (zO (yY (xq 2 [yJ 6 k] [] ?_)))))
  refine yZ (zD ?_)
  refine kR 12 [0,1,0,7,15,0,32,0,224,480,1023,2047] qK qK zQ ?_
  refine xqg 3 [eS1 59 a.sA a.ss.length a.sc,yJ 60 k] ?_
  refine xqj 61 (atA a.sA (k*3)) (fun w Q=>xM (t:=32) (e:=59) (sz:=3) (x:=.tmp 59) (ix:=.tmp 60) (cap:=a.sc) (i:=k) (Q.1.1.1.1.1.1.1.2.ne f) f) ?_
  obtain⟨j,D⟩:∃ x,a.ss[k]! = x:=⟨_,rfl⟩
  refine xqj 62 (.agg #[yI j.r, yI j.c,.slice j.A j.fs.length j.cap]) (fun w Q=>by rw[←D];exact wX (t:=59) (x:=.tmp 61) Q.1.1.1.1.1.1.1.2 Zaf f) ?_
  refine xqg 3 [eS1 64 b.sA b.ss.length b.sc,yJ 65 k] ?_
  refine xqj 66 (atA b.sA (k*3)) (fun w Q=>xM (t:=32) (e:=59) (sz:=3) (x:=.tmp 64) (ix:=.tmp 65) (cap:=b.sc) (i:=k) (Q.1.1.2.ne (N.2.1 ▸ f)) (N.2.1 ▸ f)) ?_
  obtain⟨m,E⟩:∃ x,b.ss[k]! = x:=⟨_,rfl⟩
  refine xqj 67 (.agg #[yI m.r, yI m.c,.slice m.A m.fs.length m.cap]) (fun w Q=>by rw[←E];exact wX (t:=59) (x:=.tmp 66) Q.1.1.2 Zaf (N.2.1 ▸ f)) ?_
  obtain⟨U,V,S⟩:=N.2.2 _ f D E
  have B:j∈a.ss:=by rw[←D];exact wJ f
  have O:m∈b.ss:=by rw[←E];exact wJ (N.2.1 ▸ f)
  refine xqd 37 [.agg #[yI j.r, yI j.c,.slice j.A j.fs.length j.cap],.agg #[yI m.r, yI m.c,.slice m.A m.fs.length m.cap]] 68 (fun _:Unit=>.bool true) _ (fun w R Q=>yN ((show Calls _ _ _ _ (RetV _ (.bool true)) by rw[U,V,S];exact Zgt j.r j.c n o j.fs.length j.A m.A j.cap m.cap j.fs _ (Q.1.1.1.1.1.1.2 _ B) (by have h:=Q.1.2 _ O;rw[S] at h;exact h) rfl (N.1 _ B)))) fun xx=>?_
  refine xqg 1 [yB 69 false] ?_
  refine xz (yZ (xb (zG (xK (zB (zC (xq 1 [yJ 70 (IntKind.i64.wrap ((k:Int)+1))] [] ?_)))))))
  rw[yW ((k:Int)+1) (((k+1:Nat):Int)) qO]
  refine xq 1 [yJ 55 (k+1:Nat)] [] ?_
  refine xe ?_
  exact xC ((1+(a.ss.length-(k+1)))) qO ⟨(k+1),rfl,rfl,f,rfl⟩ (fun w Q=>⟨⟨⟨⟨⟨⟨⟨⟨⟨Q.1.1.1.1.1.1.1.1.1.1,Q.1.1.1.1.1.1.1.1.1.2⟩,Q.1.1.1.1.1.1.1.1.2⟩,Q.1.1.1.1.1.1.1.2⟩,Q.1.1.1.1.1.1.2⟩,Q.1.1.1.1.1.2⟩,Q.1.1.1.1.2⟩,Q.1.1.1.2⟩,Q.1.1.2⟩,Q.1.2⟩)
 have T:k=a.ss.length:=by have:=uC C;omega
 refine xJ (zE (zE (xL (zB (zD (yY (xq 4 [yJ 73 a.ys.length,yJ 74 0] [] ?_)))))))
 refine yZ (zO ?_)
 refine xI (fun I J K=>∃ (k:Nat),J=ofL [Δ 2,Δ 3,yB 4 false,yJ 73 a.ys.length,yJ 74 k] [(3,35,[Λ b.xA b.xs.length b.xc,Λ b.sA b.ss.length b.sc,Λ b.yA b.ys.length b.yc]),(2,35,[Λ a.xA a.xs.length a.xc,Λ a.sA a.ss.length a.sc,Λ a.yA a.ys.length a.yc])]∧K=(fun w=>(((((((((OwnD w n 59 3 a.xA a.xc a.xs.length (a.xs.flatMap fmC)∧xG n w a.xs)∧OwnD w n 59 3 a.sA a.sc a.ss.length (a.ss.flatMap fmC))∧xG n w a.ss)∧OwnD w n 61 2 a.yA a.yc a.ys.length (a.ys.flatMap flC))∧OwnD w o 59 3 b.xA b.xc b.xs.length (b.xs.flatMap fmC))∧xG o w b.xs)∧OwnD w o 59 3 b.sA b.sc b.ss.length (b.ss.flatMap fmC))∧xG o w b.ss)∧OwnD w o 61 2 b.yA b.yc b.ys.length (b.ys.flatMap flC)))∧(k≤a.ys.length)∧I=(1+(a.ys.length-k))) ((1+(a.ys.length-0))) ⟨0,rfl,rfl,(uT _),rfl⟩ (fun w Q=>⟨⟨⟨⟨⟨⟨⟨⟨⟨Q.1.1.1.1.1.1.1.1.1,Q.1.1.1.1.1.1.1.1.2⟩,Q.1.1.1.1.1.1.1.2⟩,Q.1.1.1.1.1.1.2⟩,Q.1.1.1.1.1.2⟩,Q.1.1.1.1.2⟩,Q.1.1.1.2⟩,Q.1.1.2⟩,Q.1.2⟩,Q.2⟩) ?_
 rintro I J K ⟨k,rfl,rfl,X,rfl⟩
 refine yY (xq 1 [yB 75 (decide ((k:Int)<((a.ys.length:Nat):Int)))] [] ?_)
 refine yZ (zD ?_)
 refine yQ ((decide ((k:Int)<((a.ys.length:Nat):Int)))) (fun F=>?_) fun F=>?_
 ·have f:k<a.ys.length:=by have:=uB F;omega
  refine zG (zB (zD (zO (yY (xq 2 [yJ 7 k] [] ?_)))))
  refine yZ (zD ?_)
  refine yO 11 zQ ?_
  refine xqg 3 [eS1 78 a.yA a.ys.length a.yc,yJ 79 k] ?_
  refine xqj 80 (atA a.yA (k*2)) (fun w Q=>xM (t:=33) (e:=61) (sz:=2) (x:=.tmp 78) (ix:=.tmp 79) (cap:=a.yc) (i:=k) (Q.1.1.1.1.1.2.ne f) f) ?_
  obtain⟨q,L⟩:∃ x,a.ys[k]! = x:=⟨_,rfl⟩
  refine xqj 81 (yS q.1 q.2) (fun w Q=>by rw[←L];exact wX (t:=61) (x:=.tmp 80) Q.1.1.1.1.1.2 gX f) ?_
  refine xqg 3 [eS1 83 b.yA b.ys.length b.yc,yJ 84 k] ?_
  refine xqj 85 (atA b.yA (k*2)) (fun w Q=>xM (t:=33) (e:=61) (sz:=2) (x:=.tmp 83) (ix:=.tmp 84) (cap:=b.yc) (i:=k) (Q.2.ne (H ▸ f)) (H ▸ f)) ?_
  refine xqj 86 (yS q.1 q.2) (fun w Q=>by rw[←L,W];exact wX (t:=61) (x:=.tmp 85) Q.2 gX (H ▸ f)) ?_
  refine xqj 87 (.bool false) (fun w Q=>Zg0 (x:=.tmp 81) (y:=.tmp 86) (k:=61) (a:=q.1) (d:=q.2)) ?_
  refine xz (yZ (xb (zG (xK (zB (zC (xq 1 [yJ 88 (IntKind.i64.wrap ((k:Int)+1))] [] ?_)))))))
  rw[yW ((k:Int)+1) (((k+1:Nat):Int)) qO]
  refine xq 1 [yJ 74 (k+1:Nat)] [] ?_
  refine xe ?_
  exact xC ((1+(a.ys.length-(k+1)))) qO ⟨(k+1),rfl,rfl,f,rfl⟩ (fun w Q=>⟨⟨⟨⟨⟨⟨⟨⟨⟨Q.1.1.1.1.1.1.1.1.1,Q.1.1.1.1.1.1.1.1.2⟩,Q.1.1.1.1.1.1.1.2⟩,Q.1.1.1.1.1.1.2⟩,Q.1.1.1.1.1.2⟩,Q.1.1.1.1.2⟩,Q.1.1.1.2⟩,Q.1.1.2⟩,Q.1.2⟩,Q.2⟩)
 have T:k=a.ys.length:=by have:=uC F;omega
 refine xJ (zE (zE (xL (zB (yY (xq 1 [yB 4 true] [] ?_))))))
 refine yZ (zJ ?_)
 refine yR (.bool true) fun w' R Q=>?_
 exact⟨rfl,R⟩
theorem Blk.ext' {T:TypeId}{w w':World}{g:Nat}{cs:Array Value}(h:Blk T w g cs)(a:Ext w w'):Blk T w' g cs:=h.fr a (fun f=>f)
theorem ZpG (t x y:Nb)(b:Nat)(v:Fv3)(w:World)(N:Glob w)(J:NbOk w t)(K:NbOk w x)(L:NbOk w y)(E:FvOk (nbV t))(F:FvOk (nbV x))(G:FvOk (nbV y))(S:8≤b)(T:b≤1024)(H:jM (nbV t) (nbV x) (nbV y) b=some v) :
 yA 135 #[yV t.s t.A t.l t.c t.e, yV x.s x.A x.l x.c x.e, yV y.s y.A y.l y.c y.e,.int .i64 ((b:Nat):Int)] w (ZbJ v w):=by
 refine zV (Φ:=fun w=>True) func135 rfl qK (fun w' U=>trivial) ?_
 refine yY (xq 4 [Δ 4,Δ 5,Δ 6,Δ 8] [yF 8 86 false none 0 0 0,yF 6 86 y.s y.A y.l y.c y.e,yF 5 86 x.s x.A x.l x.c x.e,yF 4 86 t.s t.A t.l t.c t.e] ?_)
 refine yZ (zD (yY (xq 1 [(9,.v (yV x.s x.A x.l x.c x.e))] [] ?_)))
 by_cases o:sgnV (nbV x)=0
 ·refine xqc _ _ 10 (fun _:Unit=>yI 0) _ (fun w R Q=>(ZaQ x.s x.A x.l x.c x.m x.e _ (K.ext R)).mono (fun _ _ h=>zI h (by show yI (sgnV (nbV x))=_;rw[o]))) fun I=>?_
  refine xq 6 [yB 16 true] [] ?_
  refine yZ (xa (yY (xq 2 [] [yF 8 86 t.s t.A t.l t.c t.e] ?_)))
  refine yZ (zJ (zM ?_))
  refine yR (yV t.s t.A t.l t.c t.e) fun w' R Q=>?_
  exact⟨t,rfl,by rw[jM,uZ (Or.inl o)] at H;injection H,J.ext R,R⟩
 refine xqc _ _ 10 (fun _:Unit=>yI (sgnV (nbV x))) _ (fun w R Q=>yN (ZaQ x.s x.A x.l x.c x.m x.e _ (K.ext R))) fun I=>?_
 refine xq 1 [yB 11 (((sgnV (nbV x)):Int) == 0)] [] ?_
 rw[(show ((sgnV (nbV x):Int) == 0)=false from tK.2 o)]
 refine xq 2 [yB 12 false,(13,.v (yV y.s y.A y.l y.c y.e))] [] ?_
 by_cases r:sgnV (nbV y)=0
 ·refine xqc _ _ 14 (fun _:Unit=>yI 0) _ (fun w R Q=>(ZaQ y.s y.A y.l y.c y.m y.e _ (L.ext R)).mono (fun _ _ h=>zI h (by show yI (sgnV (nbV y))=_;rw[r]))) fun I=>?_
  refine xq 2 [yB 16 true] [] ?_
  refine yZ (xa (yY (xq 2 [] [yF 8 86 t.s t.A t.l t.c t.e] ?_)))
  refine yZ (zJ (zM ?_))
  refine yR (yV t.s t.A t.l t.c t.e) fun w' R Q=>?_
  exact⟨t,rfl,by rw[jM,uZ (Or.inr r)] at H;injection H,J.ext R,R⟩
 refine xqc _ _ 14 (fun _:Unit=>yI (sgnV (nbV y))) _ (fun w R Q=>yN (ZaQ y.s y.A y.l y.c y.m y.e _ (L.ext R))) fun I=>?_
 refine xq 1 [yB 15 (((sgnV (nbV y)):Int) == 0)] [] ?_
 rw[(show ((sgnV (nbV y):Int) == 0)=false from tK.2 r)]
 refine xq 1 [yB 16 false] [] ?_
 refine yZ (xb (zG (zB (zD ?_))))
 rw[jM,uQ (fun h=>h.elim o r)] at H
 obtain⟨p,M,O⟩:=oU.1 H
 refine yO 13 zQ ?_
 refine xqg 4 [(18,.v (yV t.s t.A t.l t.c t.e)),(19,.v (yV x.s x.A x.l x.c x.e)),(20,.v (yV y.s y.A y.l y.c y.e)),yJ 21 b] ?_
 obtain⟨d,f⟩:=yE (mulV (nbV x) (nbV y) b)
 have C:d.err=0:=by rw[←f];exact (eB M).1
 have n:FvOk (fvR d):=by rw[←f];exact Zra qO qO (by rw[f];exact C)
 refine xqd _ _ 22 (fun q:ShN=>.tuple #[yV d.s q.1 q.2.1 q.2.2 d.e, yI 0]) _ (fun w R Q=>((show Calls _ _ _ _ (lB w d) by rw[←f];exact Znz x.s x.A x.l x.c x.m x.e y.s y.A y.l y.c y.m y.e b qO qO _ (N.ext R) (K.ext R) F.wl F.lo F.hi (L.ext R) G.wl G.lo G.hi)).mono (fun _ _ h=>ZcZ C h)) fun⟨u,z,B⟩=>?_
 refine xqg 2 [(23,.v (yV d.s u z B d.e)),yJ 24 0] ?_
 refine xqd _ _ 25 (fun _:Unit=>.agg #[.bool d.s,.slice u z B, yI d.e]) _ (fun w R Q=>yN (ZjB d.s u z B d.e _)) fun I=>?_
 refine xqg 1 [yJ 26 b] ?_
 obtain⟨a,g⟩:=yE (addV (nbV t) (fvR d) b)
 have D:a.err=0:=by rw[←g];exact (eB (by rw[←f,← (eB M).2];exact O)).1
 have P:FvOk (fvR a):=by rw[←g];exact Zlx qO qO (by rw[g];exact D)
 refine xqd _ _ 27 (fun q:ShN=>.tuple #[yV a.s q.1 q.2.1 q.2.2 a.e, yI 0]) _ (fun w R Q=>((show Calls _ _ _ _ (lB w a) by rw[←g];exact ZnC t.s t.A t.l t.c t.m t.e d.s u z B d.m d.e b qO qO _ (N.ext R) (J.ext R) E.wl E.lo E.hi Q.1.2 n.wl n.lo n.hi)).mono (fun _ _ h=>ZcZ D h)) fun⟨i,j,k⟩=>?_
 refine xqg 2 [(28,.v (yV a.s i j k a.e)),yJ 29 0] ?_
 refine xqd _ _ 30 (fun _:Unit=>.agg #[.bool a.s,.slice i j k, yI a.e]) _ (fun w R Q=>yN (ZjB a.s i j k a.e _)) fun I=>?_
 refine xz (xq 1 [] [yF 8 86 a.s i j k a.e] ?_)
 refine yZ (zJ ?_)
 refine yR (yV a.s i j k a.e) fun w' R Q=>?_
 exact⟨(⟨a.s,i,j,k,a.m,a.e⟩:Nb),rfl,by rw[(eB O).2,(eB M).2,f,g];rfl,Q.1.2,R⟩
def Zgw (v:Fv3) (w:World) (e:Ending) (w':World):Prop:=∃ z:Nb,e=.returned (.tuple #[yV z.s z.A z.l z.c z.e,.int .i64 0])∧nbV z=v∧NbOk w' z∧Ext w w'
theorem Zg1 {v:Fv3}{w w':World}{e:Ending}(h:Zgw v w e w'):lG (fun z:{z:Nb // nbV z=v}=>.tuple #[yV z.1.s z.1.A z.1.l z.1.c z.1.e,.int .i64 0]) (fun z w=>NbOk w z.1) w e w':=by
 obtain⟨z,rfl,a,b,Q⟩:=h
 exact⟨⟨z,a⟩,rfl,Q,boxn Q (fun S d f g=>zL.nrb b f g)⟩
theorem Zrv {w:World}{b n:Nat}(h:Blk 207 w b #[.int .u64 ((n:Nat):Int)]):Own .u64 207 w b [n]:=⟨[],(fun _ a=>nomatch a),h⟩
theorem ZmB (p q:Nat)(w:World) :
 CallsD prog 177 #[.pointer (some ⟨p,0,none⟩),.pointer (some ⟨q,0,none⟩)] .returning w fun e c w'=>e=.returned (.tuple #[])∧c=.returning∧Ext w w':=by
 refine callsD_of_wpS func177 rfl fun d f b=>?_
 apply wpS_seq
 apply wpS_region
 simp[wpOpsS,go_sem,recoverD,b,ntmps177,Exit.thenS]
 refine wpS_of_wp ?_
 rw[show (#[Value.pointer (yL p),.pointer (yL q)] ++ ((Array.replicate 15 undef).setIfInBounds 4 .nilIface).setIfInBounds 0 .nilIface)=#[.pointer (yL p),.pointer (yL q),.nilIface,undef,undef,undef,.nilIface,undef,undef,undef,undef,undef,undef,undef,undef,undef,undef] from rfl]
 refine Znb (N:=17) (S0:=fun _=>False) (sl:=[(0,.v (.pointer (yL p))),(1,.v (.pointer (yL q))),(2,.v .nilIface)]) (Φ:=fun w=>True) rfl rfl (fun w' g=>trivial) ?_
 refine yY (xr 2 [(0,.v (.pointer (yL p))),(1,.v (.pointer (yL q))),(2,.v .nilIface),yB 8 false] [] ?_)
 refine yZ (xb (zG (fun L a w' hi=>?_)))
 exact⟨hi.df,_,rfl,.tuple #[],by simp[results,Tryz.results177],rfl,b,hi.mem.ext⟩
theorem Zrw (f:FuncId)(cap:Array Value)(v:Fv3)(w:World)(L:∀ w,(callFunc f cap).run prog w=.ok (.enter f cap) w)(M:∀ w1,Ext w w1→yA f cap w1 (ZbJ v w1)) :
 yA 133 #[.func (.func f) #[] cap] w (Zgw v w):=by
 have N:∀ (C:Fn) (b cap:Array Value) (w:World),(Instr.makeFunc C b cap).run prog w=.ok (.func C b cap) w:=fun _ _ _ _=>rfl
 go_enter_defers func133,ntmps133
 go_wp2_with fail
 generalize m:World.alloc (World.alloc w _) _=wb
 obtain⟨D,E,Q⟩:=bZ m
 have F:=zh D
 have G:=zh E
 have H:=zh Q
 clear D E Q m
 refine (M _ H.out).mono ?_
 rintro e d ⟨z,rfl,I,J,g⟩
 have a:=zh (Blk.ext F.out g)
 have j:=zh (Blk.ext G.out g)
 have O:=zh J
 have P:=zh I
 have r:=zh g
 have R:d.cell? ⟨w.heap.size,0,none⟩=some (.bool false):=by rw[Blk.cell a.out];rfl
 have U:d.cell? ⟨w.heap.size,1,none⟩=some Ξ:=by rw[Blk.cell a.out];rfl
 have V:d.cell? ⟨w.heap.size,2,none⟩=some (.int .i64 0):=by rw[Blk.cell a.out];rfl
 have W:=Blk.frozen a.out 0
 have X:=Blk.frozen a.out 1
 have Y:=Blk.frozen a.out 2
 have Z:d.cell? ⟨w.heap.size+1,0,none⟩=some (.int .i64 0):=by rw[Blk.cell j.out];rfl
 have a0:=Blk.frozen j.out 0
 clear I J g
 go_wp2_with fail
 have hp:w.heap.size<wb.heap.size:=Blk.lt F.out
 have hq:w.heap.size+1<wb.heap.size:=Blk.lt G.out
 have t:Hid (Blk 86 (((d.setCell ⟨w.heap.size,0,none⟩ (.bool z.s)).setCell ⟨w.heap.size,1,none⟩ (.slice z.A z.l z.c)).setCell ⟨w.heap.size,2,none⟩ (.int .i64 z.e)) w.heap.size #[.bool z.s,.slice z.A z.l z.c,.int .i64 z.e]):=zh (Blk.set_ (Blk.set_ (Blk.set_ a.out 0 (.bool z.s)) 1 (.slice z.A z.l z.c)) 2 (.int .i64 z.e))
 have n:Hid (Fr (fun i=>i=w.heap.size) d (((d.setCell ⟨w.heap.size,0,none⟩ (.bool z.s)).setCell ⟨w.heap.size,1,none⟩ (.slice z.A z.l z.c)).setCell ⟨w.heap.size,2,none⟩ (.int .i64 z.e))):=zh (Fr.setCell (S:=fun i=>i=w.heap.size) (p:=⟨w.heap.size,2,none⟩) (Fr.setCell (S:=fun i=>i=w.heap.size) (p:=⟨w.heap.size,1,none⟩) (Fr.setCell (S:=fun i=>i=w.heap.size) (p:=⟨w.heap.size,0,none⟩) (Fr.refl _ _) (Or.inl rfl) _) (Or.inl rfl) _) (Or.inl rfl) _)
 generalize ((d.setCell ⟨w.heap.size,0,none⟩ (.bool z.s)).setCell ⟨w.heap.size,1,none⟩ (.slice z.A z.l z.c)).setCell ⟨w.heap.size,2,none⟩ (.int .i64 z.e)=w3 at *
 have u:=zh (Blk.fr j.out n.out (fun h=>by have h:w.heap.size+1=w.heap.size:=h;omega))
 have x:Hid (Blk 36 (w3.setCell ⟨w.heap.size+1,0,none⟩ (.int .i64 0)) (w.heap.size+1) #[.int .i64 0]):=zh (Blk.set_ u.out 0 (.int .i64 0))
 have o:Hid (Fr (fun i=>i=w.heap.size+1) w3 (w3.setCell ⟨w.heap.size+1,0,none⟩ (.int .i64 0))):=zh (Fr.setCell (S:=fun i=>i=w.heap.size+1) (p:=⟨w.heap.size+1,0,none⟩) (Fr.refl _ _) (Or.inl rfl) _)
 generalize w3.setCell ⟨w.heap.size+1,0,none⟩ (.int .i64 0)=w4 at *
 have y:=zh (Blk.fr t.out o.out (fun h=>by have h:w.heap.size=w.heap.size+1:=h;omega))
 have K:Hid (Fr (fun i=>i=w.heap.size∨i=w.heap.size+1) d w4):=zh ((n.out.mono (fun _ _ h=>Or.inl h)).trans (o.out.mono (fun _ _ h=>Or.inr h)))
 refine leaves_cons (f:=177) (args:=#[.pointer (some ⟨w.heap.size,0,none⟩),.pointer (some ⟨w.heap.size+1,0,none⟩)]) qS (by simp[go_sem]) ?_
 refine (ZmB _ _ _).mono ?_
 rintro e u' w7 ⟨rfl,rfl,k⟩
 have hW:Ext w w7:=((H.out.trans r.out).next K.out (fun i hi h=>by rcases h with h|h<;>omega)).trans k
 have B:NbOk w7 z:=zL.ext (zL.nrb O.out (fun i h=>by
  rcases h with h|h
  ·rw[h];exact⟨_,_,a.out,wW.list (l:=[.bool false,Ξ,.int .i64 0]) qS⟩
  rw[h];exact⟨_,_,j.out,wW.list (l:=[.int .i64 0]) qS⟩) K.out) k
 exact⟨_,ZpW (p:=w.heap.size) (q:=w.heap.size+1) (T:=86) (zs:=[.bool z.s,.slice z.A z.l z.c,.int .i64 z.e]) Tryz.results133 rfl rfl (y.out.ext k) (x.out.ext k) qK,z,rfl,P.out,B,hW⟩
theorem ZmC (p q:Nat)(w:World) :
 CallsD prog 94 #[.pointer (some ⟨p,0,none⟩),.pointer (some ⟨q,0,none⟩)] .returning w fun e c w'=>e=.returned (.tuple #[])∧c=.returning∧Ext w w':=by
 refine callsD_of_wpS func94 rfl fun d f b=>?_
 apply wpS_seq
 apply wpS_region
 simp[wpOpsS,go_sem,recoverD,b,ntmps94,Exit.thenS]
 refine wpS_of_wp ?_
 rw[show (#[Value.pointer (yL p),.pointer (yL q)] ++ ((Array.replicate 15 undef).setIfInBounds 4 .nilIface).setIfInBounds 0 .nilIface)=#[.pointer (yL p),.pointer (yL q),.nilIface,undef,undef,undef,.nilIface,undef,undef,undef,undef,undef,undef,undef,undef,undef,undef] from rfl]
 refine Znb (N:=17) (S0:=fun _=>False) (sl:=[(0,.v (.pointer (yL p))),(1,.v (.pointer (yL q))),(2,.v .nilIface)]) (Φ:=fun w=>True) rfl rfl (fun w' g=>trivial) ?_
 refine yY (xr 2 [(0,.v (.pointer (yL p))),(1,.v (.pointer (yL q))),(2,.v .nilIface),yB 8 false] [] ?_)
 refine yZ (xb (zG (fun L a w' hi=>?_)))
 exact⟨hi.df,_,rfl,.tuple #[],by simp[results,Tryz.results94],rfl,b,hi.mem.ext⟩
theorem Zrx (f:FuncId)(cap:Array Value)(v:Fv3)(w:World)(L:∀ w,(callFunc f cap).run prog w=.ok (.enter f cap) w)(M:∀ w1,Ext w w1→yA f cap w1 (ZbJ v w1)) :
 yA 56 #[.func (.func f) #[] cap] w (Zgw v w):=by
 have N:∀ (C:Fn) (b cap:Array Value) (w:World),(Instr.makeFunc C b cap).run prog w=.ok (.func C b cap) w:=fun _ _ _ _=>rfl
 go_enter_defers func56,ntmps56
 go_wp2_with fail
 generalize m:World.alloc (World.alloc w _) _=wb
 obtain⟨D,E,Q⟩:=bZ m
 have F:=zh D
 have G:=zh E
 have H:=zh Q
 clear D E Q m
 refine (M _ H.out).mono ?_
 rintro e d ⟨z,rfl,I,J,g⟩
 have a:=zh (Blk.ext F.out g)
 have j:=zh (Blk.ext G.out g)
 have O:=zh J
 have P:=zh I
 have r:=zh g
 have R:d.cell? ⟨w.heap.size,0,none⟩=some (.bool false):=by rw[Blk.cell a.out];rfl
 have U:d.cell? ⟨w.heap.size,1,none⟩=some Ξ:=by rw[Blk.cell a.out];rfl
 have V:d.cell? ⟨w.heap.size,2,none⟩=some (.int .i64 0):=by rw[Blk.cell a.out];rfl
 have W:=Blk.frozen a.out 0
 have X:=Blk.frozen a.out 1
 have Y:=Blk.frozen a.out 2
 have Z:d.cell? ⟨w.heap.size+1,0,none⟩=some (.int .i64 0):=by rw[Blk.cell j.out];rfl
 have a0:=Blk.frozen j.out 0
 clear I J g
 go_wp2_with fail
 have hp:w.heap.size<wb.heap.size:=Blk.lt F.out
 have hq:w.heap.size+1<wb.heap.size:=Blk.lt G.out
 have t:Hid (Blk 86 (((d.setCell ⟨w.heap.size,0,none⟩ (.bool z.s)).setCell ⟨w.heap.size,1,none⟩ (.slice z.A z.l z.c)).setCell ⟨w.heap.size,2,none⟩ (.int .i64 z.e)) w.heap.size #[.bool z.s,.slice z.A z.l z.c,.int .i64 z.e]):=zh (Blk.set_ (Blk.set_ (Blk.set_ a.out 0 (.bool z.s)) 1 (.slice z.A z.l z.c)) 2 (.int .i64 z.e))
 have n:Hid (Fr (fun i=>i=w.heap.size) d (((d.setCell ⟨w.heap.size,0,none⟩ (.bool z.s)).setCell ⟨w.heap.size,1,none⟩ (.slice z.A z.l z.c)).setCell ⟨w.heap.size,2,none⟩ (.int .i64 z.e))):=zh (Fr.setCell (S:=fun i=>i=w.heap.size) (p:=⟨w.heap.size,2,none⟩) (Fr.setCell (S:=fun i=>i=w.heap.size) (p:=⟨w.heap.size,1,none⟩) (Fr.setCell (S:=fun i=>i=w.heap.size) (p:=⟨w.heap.size,0,none⟩) (Fr.refl _ _) (Or.inl rfl) _) (Or.inl rfl) _) (Or.inl rfl) _)
 generalize ((d.setCell ⟨w.heap.size,0,none⟩ (.bool z.s)).setCell ⟨w.heap.size,1,none⟩ (.slice z.A z.l z.c)).setCell ⟨w.heap.size,2,none⟩ (.int .i64 z.e)=w3 at *
 have u:=zh (Blk.fr j.out n.out (fun h=>by have h:w.heap.size+1=w.heap.size:=h;omega))
 have x:Hid (Blk 36 (w3.setCell ⟨w.heap.size+1,0,none⟩ (.int .i64 0)) (w.heap.size+1) #[.int .i64 0]):=zh (Blk.set_ u.out 0 (.int .i64 0))
 have o:Hid (Fr (fun i=>i=w.heap.size+1) w3 (w3.setCell ⟨w.heap.size+1,0,none⟩ (.int .i64 0))):=zh (Fr.setCell (S:=fun i=>i=w.heap.size+1) (p:=⟨w.heap.size+1,0,none⟩) (Fr.refl _ _) (Or.inl rfl) _)
 generalize w3.setCell ⟨w.heap.size+1,0,none⟩ (.int .i64 0)=w4 at *
 have y:=zh (Blk.fr t.out o.out (fun h=>by have h:w.heap.size=w.heap.size+1:=h;omega))
 have K:Hid (Fr (fun i=>i=w.heap.size∨i=w.heap.size+1) d w4):=zh ((n.out.mono (fun _ _ h=>Or.inl h)).trans (o.out.mono (fun _ _ h=>Or.inr h)))
 refine leaves_cons (f:=94) (args:=#[.pointer (some ⟨w.heap.size,0,none⟩),.pointer (some ⟨w.heap.size+1,0,none⟩)]) qS (by simp[go_sem]) ?_
 refine (ZmC _ _ _).mono ?_
 rintro e u' w7 ⟨rfl,rfl,k⟩
 have hW:Ext w w7:=((H.out.trans r.out).next K.out (fun i hi h=>by rcases h with h|h<;>omega)).trans k
 have B:NbOk w7 z:=zL.ext (zL.nrb O.out (fun i h=>by
  rcases h with h|h
  ·rw[h];exact⟨_,_,a.out,wW.list (l:=[.bool false,Ξ,.int .i64 0]) qS⟩
  rw[h];exact⟨_,_,j.out,wW.list (l:=[.int .i64 0]) qS⟩) K.out) k
 exact⟨_,ZpW (p:=w.heap.size) (q:=w.heap.size+1) (T:=86) (zs:=[.bool z.s,.slice z.A z.l z.c,.int .i64 z.e]) Tryz.results56 rfl rfl (y.out.ext k) (x.out.ext k) qK,z,rfl,P.out,B,hW⟩
theorem MsOk.dis {m d k c n:Nat}{w w':World}{l:List Mx}{e:TypeId}{A:qA}{xs:List Value}(h:MsOk m w l)(f:OwnD w d e k A c n xs)(g:Dis A (bkM l))(b:Fr (fun i=>A=some ⟨i,0,none⟩) w w'):MsOk m w' l:=fun x a=>⟨(h x a).1.fr b (fun i hi j=>g i j ⟨x,a,hi⟩),(h x a).2.row f b⟩
theorem Zp3 {x:Fm}{b:Nat}{z:List Nb}(h:z.map nbV=x.fs.map ldV):mxV (⟨x.r,x.c,some ⟨b,0,none⟩,z.length,z⟩:Mx)=fmV x:=by
 show (_,_,_)=(_,_,_)
 rw[h]
theorem Zst {n:Nat}(h:n≤1000):IntKind.u64.wrap ((n:Nat):Int)=((n:Nat):Int):=by rw[IntKind.wrap_u64];omega
theorem Zsu (n:Nat):val W64 [n]=n:=by simp[val]
theorem ZpH {n:Nat}(h:n≤1000):wl n≤4294967296:=uD (lV h) (uD (Zcf (a:=10) (b:=1) qD) qD)
theorem Zry {b n k:Nat}{f g:Nat→Fv3}{t v:Fv3}(h:dtK b f g (n-k) k t=some v)(c:k<n):∃ a,jM t (f k) (g k) b=some a∧dtK b f g (n-(k+1)) (k+1) a=some v:=by
 rw[show n-k=(n-(k+1))+1 by omega] at h
 unfold dtK at h
 exact oU.1 h
theorem Zsv {b n k:Nat}{f g:Nat→Fv3}{t v:Fv3}(h:dtK b f g (n-k) k t=some v)(a:k=n):t=v:=by
 rw[a,qM] at h
 injection h
theorem ZsL {b:Nat}{t z:Nb}{p q v1:Fv3}(c:FvOk (nbV t))(e:0<b)(d:b≤4096)(a:jM (nbV t) p q b=some v1)(f:nbV z=v1):FvOk (nbV z):=by
 rw[f]
 unfold jM at a
 split at a
 ·injection a with a;rw[←a];exact c
 obtain⟨p,h,g⟩:=oU.1 a
 exact Zq8 (Zlx e d) g
structure Ss where
 xA:Option Addr
 xc:Nat
 xs:List Mx
 sA:Option Addr
 sc:Nat
 ss:List Mx
 yA:Option Addr
 yc:Nat
 yl:Nat
def ZmD (x:It) (w:World) (e:Ending) (w':World):Prop:=∃ s:Ss,e=.returned (.agg #[.slice s.xA s.xs.length s.xc,.slice s.sA s.ss.length s.sc,.slice s.yA s.yl s.yc])∧(s.xs.map mxV=x.xs.map fmV∧s.ss.map mxV=x.ss.map fmV)∧(OwnD w' w.heap.size 94 3 s.xA s.xc s.xs.length (s.xs.flatMap mxC)∧MsOk w.heap.size w' s.xs∧OwnD w' w.heap.size 94 3 s.sA s.sc s.ss.length (s.ss.flatMap mxC)∧MsOk w.heap.size w' s.ss)∧Ext w w'
theorem Zsw {d w:World}{m0 cap a b k e:Nat}{x:It}{l l2:List Mx}{A B C:qA}(c:x.ss.length=x.xs.length)(f:l.map mxV=(x.xs.take k).map fmV)(m:k=x.xs.length)(g:l2.map mxV=(x.ss.take k).map fmV)(n:OwnD w m0 94 3 A cap x.xs.length (l.flatMap mxC))(o:MsOk m0 w l)(r2:OwnD w m0 94 3 B a x.xs.length (l2.flatMap mxC))(p:MsOk m0 w l2)(h:m0=d.heap.size)(Q:Ext d w) :
 ZmD x d (.returned (.agg #[.slice A x.xs.length cap,.slice B x.xs.length a,.slice C e b])) w:=by
 subst m
 rw[sP] at f
 rw[←c,sP] at g
 have j:l.length=x.xs.length:=by have:=uX List.length f;rwa [uL,uL] at this
 have i:l2.length=x.ss.length:=by have:=uX List.length g;rwa [uL,uL] at this
 rw[c] at i
 refine⟨⟨A,cap,l,B,a,l2,C,b,e⟩,?_,⟨f,g⟩,h ▸ ⟨?_,o,?_,p⟩,Q⟩
 ·show _=Ending.returned (.agg #[.slice A l.length cap,.slice B l2.length a,.slice C e b])
  rw[j,i]
 ·show OwnD w m0 _ 3 A cap l.length _;rw[j];exact n
 show OwnD w m0 _ 3 B a l2.length _;rw[i];exact r2
theorem Zie (m:Nat)(u:It)(w:World)(hx:ItOk m w u)(M:u.ss.length=u.xs.length)(hn:u.xs.length≤64)(hq:u.ys.length≤512)(v0:∀ f∈u.xs,FmG f)(w0:∀ f∈u.ss,FmG f)(i0:∀ y∈u.ys,Gd y) :
 yA 58 #[.agg #[.slice u.xA u.xs.length u.xc,.slice u.sA u.ss.length u.sc,.slice u.yA u.ys.length u.yc]] w (ZmD u w):=by
 obtain⟨o,E⟩:∃ m,m=w.heap.size:=⟨_,rfl⟩
 refine zV func58 rfl qK (fun w' hf=>trivial) ?_
 refine yY (xq 2 [Δ 1,Δ 2] [(2,92,[Ω,Ω,Ω]),(1,35,[Λ u.xA u.xs.length u.xc,Λ u.sA u.ss.length u.sc,Λ u.yA u.ys.length u.yc])] ?_)
 refine yZ (yY (xq 1 [Δ 3] [(3,92,[Ω,Ω,Ω])] ?_))
 refine yZ (zD (yY (xq 4 [yJ 13 u.xs.length,yJ 14 0] [] ?_)))
 refine yZ (zO ?_)
 refine xI (fun nn ss ff=>∃ (k:Nat) (A:Option Addr) (cap:Nat) (l:List Mx) (B:Option Addr) (g:Nat) (L:List Mx),ss=ofL [Δ 1,Δ 2,Δ 3,yJ 13 u.xs.length,yJ 14 k] [(3,92,[Λ A k cap,Λ B k g,Ω]),(2,92,[Ω,Ω,Ω]),(1,35,[Λ u.xA u.xs.length u.xc,Λ u.sA u.ss.length u.sc,Λ u.yA u.ys.length u.yc])]∧ff=(fun w=>(((OwnD w o 94 3 A cap k (l.flatMap mxC)∧MsOk o w l)∧OwnD w o 94 3 B g k (L.flatMap mxC))∧MsOk o w L))∧(k≤u.xs.length)∧(l.map mxV=(u.xs.take k).map fmV)∧(L.map mxV=(u.ss.take k).map fmV)∧(k=0→A=none)∧(k=0→B=none)∧(Dis A (bkA B))∧nn=(1+(u.xs.length-k))) _ ⟨0,none,0,([]:List Mx),none,0,([]:List Mx),rfl,rfl,(uT _),rfl,rfl,(fun _=>rfl),(fun _=>rfl),Dis.nil,rfl⟩ (fun w Q=>⟨⟨⟨(OwnD.nil _ _ _ _),(fun _ h=>nomatch h)⟩,(OwnD.nil _ _ _ _)⟩,(fun _ h=>nomatch h)⟩) ?_
 rintro nn ss ff ⟨k,A,cap,l,B,g,L,rfl,rfl,hk,j0,k0,x0,y0,l0,rfl⟩
 refine yY (xq 1 [yB 15 (decide ((k:Int)<((u.xs.length:Nat):Int)))] [] ?_)
 refine yZ (zD ?_)
 refine yQ ((decide ((k:Int)<((u.xs.length:Nat):Int)))) (fun T=>?_) fun T=>?_
 ·have F:k<u.xs.length:=by have:=uB T;omega
  refine zG (zB (zD (zO (yY (xq 2 [yJ 4 k] [] ?_)))))
  refine yZ (yY (xq 3 [eS1 19 u.xA u.xs.length u.xc,yJ 20 k] [] ?_))
  refine xqk 21 _ (fun w R Q=>xM (t:=32) (e:=59) (sz:=3) (x:=.tmp 19) (ix:=.tmp 20) (cap:=u.xc) (i:=k) ((OwnD.ext hx.x1 R).ne F) F) ?_
  obtain⟨x11,U⟩:∃ x,u.xs[k]! = x:=⟨_,rfl⟩
  refine xqk 22 (.agg #[yI x11.r, yI x11.c,.slice x11.A x11.fs.length x11.cap]) (fun w R Q=>by rw[←U];exact wX (t:=59) (x:=.tmp 21) (OwnD.ext hx.x1 R) Zaf F) ?_
  have V:x11∈u.xs:=by rw[←U];exact wJ F
  have G:FmG x11:=v0 _ V
  refine xqc _ _ 23 (fun x:{x:Nat × List Nb // x.2.map nbV=x11.fs.map ldV∧o≤x.1}=>.tuple #[.agg #[yI x11.r, yI x11.c,Υ x.1.1 x.1.2.length],.bool true]) _ (fun w R Q=>((show Calls _ _ _ _ (Ziq (fun v=>.tuple #[v,.bool true]) x11.r x11.c (x11.fs.map ldV) _) from ZhL m x11.r x11.c x11.A x11.cap x11.fs _ ((hx.x2 _ V).ext R) G.hr G.hc G.hn G.hv G.hs)).mono (fun _ _ h=>Zlk (E ▸ R.size) h)) fun xx=>?_
  obtain⟨⟨K,a⟩,g0,E0⟩:=xx
  refine xq 6 [Δ 5] [(5,94,[Γ x11.r,Γ x11.c,Λ (yL K) a.length a.length])] ?_
  refine yZ (yY (xq 3 [eS1 27 A k cap,(28,.v (.agg #[yI x11.r, yI x11.c,Υ K a.length]))] [] ?_))
  refine yD (d:=29) (fun W:{b:Nat // o≤b}=>Υ W.1 1) (fun W zw=>Blk 94 zw W.1 #[yI x11.r, yI x11.c,Υ K a.length]) (fun w R Q=>wA (E ▸ R.size) (t:=90) (sz:=3) (z:=.agg #[yI 0, yI 0,Ξ]) (parts:=#[(0,Operand.tmp 28)]) qK qK qK qK qK qK) fun⟨z0,F0⟩=>?_
  refine xP ?_
  refine fS (d:=30) (cap:=cap) (bytes:=40) (t:=90) (e:=94) (s0:=Operand.tmp 27) (x:=Operand.tmp 29) (xs:=l.flatMap mxC) (news:=[yI x11.r, yI x11.c,Υ K a.length]) (z:=(.agg #[yI 0, yI 0,Ξ])) o A (bkA B) (fun j hj h=>Or.inl (E ▸ h)) z0 1 (fun w=>((((MsOk o w l∧OwnD w o 94 3 B g k (L.flatMap mxC))∧MsOk o w L)∧OwnD w o 86 3 (yL K) a.length a.length (a.flatMap nbC))∧wH w a)) (fun w R Q=>E ▸ R.size) (fun w Q=>Q.1.1.1.1.1) (fun w Q=>Blk.news Q.2) rfl qD rfl (wW.list qS) qD (by simp[Value.oneCell']) nd2 (by simp only[maxLen];omega) qO x0 (fun w Q=>OwnD.lt Q.1.1.1.2) l0 (fun w w2 R Q J=>⟨⟨⟨⟨MsOk.row Q.1.1.1.1.2 Q.1.1.1.1.1 J,OwnD.dis Q.1.1.1.2 l0 J⟩,MsOk.row Q.1.1.2 Q.1.1.1.1.1 J⟩,OwnD.apart Q.1.2.1 Q.1.1.1.1.1 qD J⟩,wH.row Q.1.2.2 Q.1.1.1.1.1 J⟩) fun X d0 e0=>?_
  refine xP ?_
  refine xq 2 [] [(3,92,[Λ X (k+1) d0,Λ B k g,Ω])] ?_
  refine yZ (yY (xq 3 [eS1 34 u.sA u.ss.length u.sc,yJ 35 k] [] ?_))
  refine xqk 36 _ (fun w R Q=>xM (t:=32) (e:=59) (sz:=3) (x:=.tmp 34) (ix:=.tmp 35) (cap:=u.sc) (i:=k) ((OwnD.ext hx.s1 R).ne (M.symm ▸ F)) (M.symm ▸ F)) ?_
  obtain⟨x15,Y⟩:∃ x,u.ss[k]! = x:=⟨_,rfl⟩
  refine xqk 37 (.agg #[yI x15.r, yI x15.c,.slice x15.A x15.fs.length x15.cap]) (fun w R Q=>by rw[←Y];exact wX (t:=59) (x:=.tmp 36) (OwnD.ext hx.s1 R) Zaf (M.symm ▸ F)) ?_
  have Z:x15∈u.ss:=by rw[←Y];exact wJ (M.symm ▸ F)
  have H:FmG x15:=w0 _ Z
  refine xqc _ _ 38 (fun x:{x:Nat × List Nb // x.2.map nbV=x15.fs.map ldV∧o≤x.1}=>.tuple #[.agg #[yI x15.r, yI x15.c,Υ x.1.1 x.1.2.length],.bool true]) _ (fun w R Q=>((show Calls _ _ _ _ (Ziq (fun v=>.tuple #[v,.bool true]) x15.r x15.c (x15.fs.map ldV) _) from ZhL m x15.r x15.c x15.A x15.cap x15.fs _ ((hx.s2 _ Z).ext R) H.hr H.hc H.hn H.hv H.hs)).mono (fun _ _ h=>Zlk (E ▸ R.size) h)) fun xx=>?_
  obtain⟨⟨N,n⟩,h0,G0⟩:=xx
  refine xq 4 [] [(5,94,[Γ x15.r,Γ x15.c,Λ (yL N) n.length n.length])] ?_
  refine yZ (zC (xq 3 [eS1 42 B k g,(43,.v (.agg #[yI x15.r, yI x15.c,Υ N n.length]))] [] ?_))
  refine yD (d:=44) (fun W:{b:Nat // o≤b}=>Υ W.1 1) (fun W zw=>Blk 94 zw W.1 #[yI x15.r, yI x15.c,Υ N n.length]) (fun w R Q=>wA (E ▸ R.size) (t:=90) (sz:=3) (z:=.agg #[yI 0, yI 0,Ξ]) (parts:=#[(0,Operand.tmp 43)]) qK qK qK qK qK qK) fun⟨A0,H0⟩=>?_
  refine xP ?_
  refine fS (d:=45) (cap:=g) (bytes:=40) (t:=90) (e:=94) (s0:=Operand.tmp 42) (x:=Operand.tmp 44) (xs:=L.flatMap mxC) (news:=[yI x15.r, yI x15.c,Υ N n.length]) (z:=(.agg #[yI 0, yI 0,Ξ])) o B (bkA X) (fun j hj h=>Or.inl (E ▸ h)) A0 1 (fun w=>((((((MsOk o w l∧MsOk o w L)∧OwnD w o 86 3 (yL K) a.length a.length (a.flatMap nbC))∧wH w a)∧OwnD w o 94 3 X d0 (k+1) (l.flatMap mxC ++ [yI x11.r, yI x11.c,Υ K a.length]))∧OwnD w o 86 3 (yL N) n.length n.length (n.flatMap nbC))∧wH w n)) (fun w R Q=>E ▸ R.size) (fun w Q=>Q.1.1.1.1.1.1.2) (fun w Q=>Blk.news Q.2) rfl qD rfl (wW.list qS) qD (by simp[Value.oneCell']) nd2 (by simp only[maxLen];omega) qO y0 (fun w Q=>OwnD.lt Q.1.1.2) (Dis.symm e0.2.2) (fun w w2 R Q J=>⟨⟨⟨⟨⟨⟨MsOk.row Q.1.1.1.1.1.1.1 Q.1.1.1.1.1.1.2 J,MsOk.row Q.1.1.1.1.1.2 Q.1.1.1.1.1.1.2 J⟩,OwnD.apart Q.1.1.1.1.2 Q.1.1.1.1.1.1.2 qD J⟩,wH.row Q.1.1.1.2 Q.1.1.1.1.1.1.2 J⟩,OwnD.dis Q.1.1.2 (Dis.symm e0.2.2) J⟩,OwnD.apart Q.1.2.1 Q.1.1.1.1.1.1.2 qD J⟩,wH.row Q.1.2.2 Q.1.1.1.1.1.1.2 J⟩) fun n0 o0 p0=>?_
  refine xP ?_
  refine xq 2 [] [(3,92,[Λ X (k+1) d0,Λ n0 (k+1) o0,Ω])] ?_
  refine xe (xK (zB (zC (xq 1 [yJ 47 (IntKind.i64.wrap ((k:Int)+1))] [] ?_))))
  rw[yW ((k:Int)+1) (((k+1:Nat):Int)) qO]
  refine xq 1 [yJ 14 (k+1:Nat)] [] ?_
  refine xe ?_
  exact xC _ qO ⟨(k+1),X,d0,(l ++ [(⟨x11.r,x11.c,yL K,a.length,a⟩:Mx)]),n0,o0,(L ++ [(⟨x15.r,x15.c,yL N,n.length,n⟩:Mx)]),rfl,rfl,F,(fM j0 F (by rw[U];exact Zp3 g0)),(fM k0 (M.symm ▸ F) (by rw[Y];exact Zp3 h0)),(fun h=>absurd h (sG _)),(fun h=>absurd h (sG _)),(Dis.symm p0.2.2),rfl⟩ (fun w Q=>⟨⟨⟨(by rw[vR];exact Q.1.1.1.2),(MsOk.snoc Q.1.1.1.1.1.1.1 ⟨Q.1.1.1.1.1.2,Q.1.1.1.1.2⟩)⟩,(by rw[vR];exact Q.2)⟩,(MsOk.snoc Q.1.1.1.1.1.1.2 ⟨Q.1.1.2,Q.1.2⟩)⟩)
 have B0:k=u.xs.length:=by have:=uC T;omega
 refine xJ (zE (zE (xL (zB (zD (zD ?_))))))
 subst B0
 refine zC (xr 4 [Δ 2,Δ 3,eS1 49 u.yA u.ys.length u.yc,yJ 50 u.ys.length,yJ 51 0] [(3,92,[Λ A u.xs.length cap,Λ B u.xs.length g,Ω]),(2,92,[Ω,Ω,Ω])] ?_)
 refine yZ (zO ?_)
 refine xI (fun nn ss ff=>∃ (k:Nat) (C:Option Addr) (I:Nat) (l3:List Nb),ss=ofL [Δ 2,Δ 3,eS1 49 u.yA u.ys.length u.yc,yJ 50 u.ys.length,yJ 51 k] [(3,92,[Λ A u.xs.length cap,Λ B u.xs.length g,Λ C k I]),(2,92,[Ω,Ω,Ω])]∧ff=(fun w=>((((OwnD w o 94 3 A cap u.xs.length (l.flatMap mxC)∧MsOk o w l)∧OwnD w o 94 3 B g u.xs.length (L.flatMap mxC))∧MsOk o w L)∧OwnD w o 86 3 C I k (l3.flatMap nbC)))∧(k≤u.ys.length)∧(k=0→C=none)∧(Dis C (fun j=>bkM l j∨bkM L j))∧nn=(1+(u.ys.length-k))) _ ⟨0,none,0,([]:List Nb),rfl,rfl,(uT _),(fun _=>rfl),Dis.nil,rfl⟩ (fun w Q=>⟨⟨⟨⟨Q.1.1.1,Q.1.1.2⟩,Q.1.2⟩,Q.2⟩,(OwnD.nil _ _ _ _)⟩) ?_
 rintro nn ss ff ⟨k,C,I,l3,rfl,rfl,hk,C0,hC,rfl⟩
 refine yY (xq 1 [yB 52 (decide ((k:Int)<((u.ys.length:Nat):Int)))] [] ?_)
 refine yZ (zD ?_)
 refine yQ ((decide ((k:Int)<((u.ys.length:Nat):Int)))) (fun a0=>?_) fun a0=>?_
 ·have b0:k<u.ys.length:=by have:=uB a0;omega
  refine zG (zB (zD (zO (zD (zC ?_)))))
  refine xqk 53 _ (fun w R Q=>xM (t:=33) (e:=61) (sz:=2) (x:=.tmp 49) (ix:=.tmp 51) (cap:=u.yc) (i:=k) ((OwnD.ext hx.y1 R).ne b0) b0) ?_
  obtain⟨D,f0⟩:∃ x,u.ys[k]! = x:=⟨_,rfl⟩
  refine xqk 54 (yS D.1 D.2) (fun w R Q=>by rw[←f0];exact wX (t:=61) (x:=.tmp 53) (OwnD.ext hx.y1 R) gX b0) ?_
  refine xq 2 [Δ 8] [yG 8 61 D.1 D.2] ?_
  refine yZ (yY (xq 1 [(56,.v (yS D.1 D.2))] [] ?_))
  have c0:D∈u.ys:=by rw[←f0];exact wJ b0
  obtain⟨q,q0⟩:=yE (ldR (bytes D.1) D.2)
  refine xqc _ _ 57 (shLd true q) _ (fun w R Q=>yM Zlh ((show Calls _ _ _ _ (Zip _ true q) by rw[←q0,← show fvB (bytes D.1) D.2=true from (i0 _ c0).1];exact ZhG D.1 D.2 _ (uD (i0 _ c0).2 qD)))) fun⟨O,P,S⟩=>?_
  refine xq 6 [Δ 9] [yF 9 86 q.s O P S q.e] ?_
  refine yZ (zC (xq 3 [eS1 61 C k I,(62,.v (yV q.s O P S q.e))] [] ?_))
  refine yD (d:=63) (fun W:{b:Nat // o≤b}=>Υ W.1 1) (fun W zw=>Blk 86 zw W.1 #[.bool q.s,.slice O P S, yI q.e]) (fun w R Q=>wA (E ▸ R.size) (t:=89) (sz:=3) (z:=.agg #[.bool false,Ξ, yI 0]) (parts:=#[(0,Operand.tmp 62)]) qK qK qK qK qK qK) fun⟨D0,I0⟩=>?_
  refine xP ?_
  refine fS (d:=64) (m:=1) (cap:=I) (bytes:=40) (t:=89) (e:=86) (s0:=Operand.tmp 61) (x:=Operand.tmp 63) (xs:=l3.flatMap nbC) (news:=[.bool q.s,.slice O P S, yI q.e]) (z:=(yV false none 0 0 0)) o C (fun j=>bkM l j∨bkM L j) (fun j hj h=>Or.inl (E ▸ h)) D0 1 (fun w=>((((OwnD w o 94 3 A cap u.xs.length (l.flatMap mxC)∧MsOk o w l)∧OwnD w o 94 3 B g u.xs.length (L.flatMap mxC))∧MsOk o w L)∧zL w (.slice O P S) q.m)) (fun w R Q=>E ▸ R.size) (fun w Q=>Q.1.1.2) (fun w Q=>Blk.news Q.2) rfl qD rfl (wW.list qS) qD (by simp[Value.oneCell']) qS (by simp only[maxLen];omega) qO C0 (fun w Q=>Zit (MsOk.lt Q.1.1.1.1.1.2) (MsOk.lt Q.1.1.1.2)) hC (fun w w2 R Q J=>⟨⟨⟨⟨OwnD.apart Q.1.1.1.1.1.1 Q.1.1.2 qD J,MsOk.dis Q.1.1.1.1.1.2 Q.1.1.2 hC.l J⟩,OwnD.apart Q.1.1.1.1.2 Q.1.1.2 qD J⟩,MsOk.dis Q.1.1.1.2 Q.1.1.2 hC.r J⟩,zL.rowD Q.1.2 Q.1.1.2 J⟩) fun r0 t0 u0=>?_
  refine xP ?_
  refine xq 2 [] [(3,92,[Λ A u.xs.length cap,Λ B u.xs.length g,Λ r0 (k+1) t0])] ?_
  refine xe (xK (zB (zC (xq 1 [yJ 66 (IntKind.i64.wrap ((k:Int)+1))] [] ?_))))
  rw[yW ((k:Int)+1) (((k+1:Nat):Int)) qO]
  refine xq 1 [yJ 51 (k+1:Nat)] [] ?_
  refine xe ?_
  exact xC _ qO ⟨(k+1),r0,t0,(l3 ++ [(⟨q.s,O,P,S,q.m,q.e⟩:Nb)]),rfl,rfl,b0,(fun h=>absurd h (sG _)),u0.2.2,rfl⟩ (fun w Q=>⟨⟨⟨⟨Q.1.1.1.1.1,Q.1.1.1.1.2⟩,Q.1.1.1.2⟩,Q.1.1.2⟩,(by rw[vR];exact Q.2)⟩)
 have J0:k=u.ys.length:=by have:=uC a0;omega
 refine xJ (zE (zE (xL (zB (yY (xq 2 [] [(2,92,[Λ A u.xs.length cap,Λ B u.xs.length g,Λ C k I])] ?_))))))
 refine yZ (zJ ?_)
 refine yR (.agg #[.slice A u.xs.length cap,.slice B u.xs.length g,.slice C k I]) fun w' R Q=>?_
 exact Zsw M j0 rfl k0 Q.1.1.1.1 Q.1.1.1.2 Q.1.1.2 Q.1.2 E R
theorem ZjM (n:Nat)(w:World)(l:Glob w)(i:n≤1000) :
 yA 101 #[.int .i64 ((n:Nat):Int)] w (ZbJ (fvR (wG false n 0)) w):=by
 obtain⟨o,g⟩:∃ m,m=w.heap.size:=⟨_,rfl⟩
 refine zV func101 rfl qK (fun w' y=>trivial) ?_
 refine yY (xq 1 [Δ 2] [yF 2 86 false none 0 0 0] ?_)
 refine yZ (yY (xq 2 [yU 7 (IntKind.u64.wrap ((n:Int)))] [] ?_))
 rw[(show IntKind.u64.wrap (n:Int)=(n:Int) from Zst i)]
 refine yD (d:=8) (fun h:{b:Nat // o≤b}=>Υ h.1 1) (fun h u=>Blk 207 u h.1 #[yX n]) (fun w R Q=>wA (g ▸ R.size) (t:=84) (sz:=1) (z:=yX 0) (parts:=#[(0,Operand.tmp 7)]) qK qK qK qK qK qK) fun⟨v,j⟩=>?_
 refine xP ?_
 refine xqc _ _ 9 wE _ (fun w R Q=>yM xY (aB (n:=1) (Zrv Q.2) (by intro q x;rw[vX.1 x,zR];omega) rfl (Zsu n) qD)) fun⟨A,B,C⟩=>?_
 obtain⟨r,k⟩:=yE (wG false n 0)
 refine xqc _ _ 10 (shNb r) _ (fun w R Q=>yM lO ((show Calls _ _ _ _ (lB _ r) by rw[←k];exact jZ false _ _ _ n 0 _ (l.ext R) Q.2 (ZpH i) qD qD))) fun⟨a,c,f⟩=>?_
 refine xq 6 [Δ 3] [yF 3 86 r.s a c f r.e] ?_
 refine yZ (yY (xq 2 [] [yF 2 86 r.s a c f r.e] ?_))
 refine yZ (zJ ?_)
 refine yR (yV r.s a c f r.e) fun w' R Q=>?_
 exact⟨⟨r.s,a,c,f,r.m,r.e⟩,rfl,by rw[k];rfl,Q.2,R⟩
theorem ZjN (s:Bool)(A:qA)(l c:Nat)(e:Int)(w:World) :
 yA 97 #[yV s A l c e,.int .i64 0] w (RetV w (yV s A l c e)):=by
 refine zV func97 rfl qK (fun w' a=>trivial) ?_
 refine yY (xq 2 [Δ 2,Δ 4] [yF 4 86 false none 0 0 0,yF 2 86 s A l c e] ?_)
 refine yZ (zD (yY (xq 2 [yB 6 false] [] ?_)))
 refine yZ (xb (zG (zB (yY (xq 2 [] [yF 4 86 s A l c e] ?_)))))
 refine yZ (zJ ?_)
 refine yR (yV s A l c e) fun w' R Q=>?_
 exact⟨rfl,R⟩
theorem ZpI (m L r c:Nat)(A B:qA)(cap f n:Nat)(xs ys:List Nb)(b:Nat)(G F H:Nat)(v:Fv3)(w:World)(hg:Glob w)(M:Blk 94 w G #[.int .i64 ((r:Nat):Int),.int .i64 ((c:Nat):Int),.slice A n cap])(N:Blk 94 w F #[.int .i64 ((r:Nat):Int),.int .i64 ((c:Nat):Int),.slice B n f])(O:Blk 3 w H #[.int .i64 ((b:Nat):Int)])(I:OwnD w m 86 3 A cap n (xs.flatMap nbC))(P:wH w xs)(C:xs.length=n)(S:∀ x∈xs,FvOk (nbV x))(T:OwnD w L 86 3 B f n (ys.flatMap nbC))(U:wH w ys)(D:ys.length=n)(V:∀ x∈ys,FvOk (nbV x))(hn:n≤4096)(W:8≤b)(X:b≤1024)(hv:dtK b (fun q=>nbV xs[q]!) (fun q=>nbV ys[q]!) n 0 (false,0,0)=some v) :
 yA 134 #[.pointer (some ⟨G,0,none⟩),.pointer (some ⟨F,0,none⟩),.pointer (some ⟨H,0,none⟩)] w (ZbJ v w):=by
 refine zV (Φ:=fun w=>(((Blk 94 w G #[yI r, yI c,.slice A n cap]∧Blk 94 w F #[yI r, yI c,.slice B n f])∧Blk 3 w H #[yI b])∧OwnD w L 86 3 B f n (ys.flatMap nbC))) func134 rfl qK (fun w' K=>⟨⟨⟨Blk.ext' M K,Blk.ext' N K⟩,Blk.ext' O K⟩,T.ext K⟩) ?_
 refine yY (xq 1 [Δ 3] [yF 3 86 false none 0 0 0] ?_)
 refine yZ (yY (xq 1 [Δ 4] [yF 4 86 false none 0 0 0] ?_))
 refine yZ (zD (yY (xq 1 [(7,.v (.pointer (some ⟨G,0+2,none⟩)))] [] ?_)))
 refine xqk 8 _ (fun w R Q=>kV (t:=89) (x:=.tmp 7) (Blk.news Q.1.1.1 2 _ rfl)) ?_
 refine xq 2 [yJ 9 n,yJ 10 0] [] ?_
 refine yZ (zO ?_)
 refine xI (fun nn ss ff=>∃ (k:Nat) (t:Nb),ss=ofL [(1,.v (.pointer (yL F))),(2,.v (.pointer (yL H))),Δ 3,Δ 4,eS1 8 A n cap,yJ 9 n,yJ 10 k] [yF 4 86 t.s t.A t.l t.c t.e,yF 3 86 false none 0 0 0]∧ff=(fun w=>((((Blk 94 w G #[yI r, yI c,.slice A n cap]∧Blk 94 w F #[yI r, yI c,.slice B n f])∧Blk 3 w H #[yI b])∧OwnD w L 86 3 B f n (ys.flatMap nbC))∧NbOk w t))∧(k≤n)∧(FvOk (nbV t))∧(dtK b (fun q=>nbV xs[q]!) (fun q=>nbV ys[q]!) (n-k) k (nbV t)=some v)∧nn=(1+(n-k))) _ ⟨0,nb0,rfl,rfl,(uT _),Zcm,hv,rfl⟩ (fun w Q=>⟨⟨⟨⟨Q.1.1.1,Q.1.1.2⟩,Q.1.2⟩,Q.2⟩,(zL.zero _)⟩) ?_
 rintro nn ss ff ⟨k,t,rfl,rfl,hk,J,hD,rfl⟩
 refine yY (xq 1 [yB 11 (decide ((k:Int)<(n:Int)))] [] ?_)
 refine yZ (zD ?_)
 refine yQ ((decide ((k:Int)<(n:Int)))) (fun u=>?_) fun u=>?_
 ·have d:k<n:=by have:=uB u;omega
  refine zG (zB (zD (zO (yY (xq 1 [yJ 12 k] [] ?_)))))
  refine xqk 13 _ (fun w R Q=>xM (t:=89) (e:=86) (sz:=3) (x:=.tmp 8) (ix:=.tmp 10) (cap:=cap) (i:=k) ((OwnD.ext I R).ne d) d) ?_
  obtain⟨a,g⟩:∃ x,xs[k]! = x:=⟨_,rfl⟩
  refine xqk 14 (yV a.s a.A a.l a.c a.e) (fun w R Q=>by rw[←g];exact wX (t:=86) (x:=.tmp 13) (OwnD.ext I R) cO (C.symm ▸ d)) ?_
  refine xq 3 [yJ 5 k,Δ 6] [yF 6 86 a.s a.A a.l a.c a.e] ?_
  refine xe (zB ?_)
  refine yO 9 zQ ?_
  refine xqg 3 [(15,.v (yV t.s t.A t.l t.c t.e)),(16,.v (yV a.s a.A a.l a.c a.e)),(17,.v (.pointer (some ⟨F,0+2,none⟩)))] ?_
  refine xqj 18 _ (fun w Q=>kV (t:=89) (x:=.tmp 17) (Blk.news Q.1.1.1.2 2 _ rfl)) ?_
  refine xqg 1 [yJ 19 k] ?_
  refine xqj 20 _ (fun w Q=>xM (t:=89) (e:=86) (sz:=3) (x:=.tmp 18) (ix:=.tmp 19) (cap:=f) (i:=k) (Q.1.2.ne d) d) ?_
  obtain⟨j,h⟩:∃ x,ys[k]! = x:=⟨_,rfl⟩
  refine xqj 21 (yV j.s j.A j.l j.c j.e) (fun w Q=>by rw[←h];exact wX (t:=86) (x:=.tmp 20) Q.1.2 cO (D.symm ▸ d)) ?_
  refine xqj 22 _ (fun w Q=>kV (t:=3) (x:=.tmp 2) (off:=0) (Blk.news Q.1.1.2 0 _ rfl)) ?_
  obtain⟨v1,E,Y⟩:=Zry hD d
  rw[g,h] at E
  refine xqd _ _ 23 (fun z:{z:Nb // nbV z=v1}=>.agg #[.bool z.1.s,.slice z.1.A z.1.l z.1.c, yI z.1.e]) _ (fun w R Q=>yM ZgX (ZpG t a j b v1 _ (hg.ext R) Q.2 (zL.ext (P _ (by rw[←g];exact wJ (C.symm ▸ d))) R) (zL.ext (U _ (by rw[←h];exact wJ (D.symm ▸ d))) R) J (S _ (by rw[←g];exact wJ (C.symm ▸ d))) (V _ (by rw[←h];exact wJ (D.symm ▸ d))) W X E)) fun⟨o,y⟩=>?_
  refine xz (xq 1 [] [yF 4 86 o.s o.A o.l o.c o.e] ?_)
  refine xe (xK (zB (zC (xq 1 [yJ 24 (IntKind.i64.wrap ((k:Int)+1))] [] ?_))))
  rw[yW ((k:Int)+1) (((k+1:Nat):Int)) qO]
  refine xq 1 [yJ 10 (k+1:Nat)] [] ?_
  refine xe ?_
  exact xC _ qO ⟨(k+1),o,rfl,rfl,d,(ZsL J qO qO E y),(by rw[y];exact Y),rfl⟩ (fun w Q=>⟨⟨⟨⟨Q.1.1.1.1.1,Q.1.1.1.1.2⟩,Q.1.1.1.2⟩,Q.1.1.2⟩,Q.2⟩)
 have Z:k=n:=by have:=uC u;omega
 refine xJ (zE (zE (xL (zB (yY (xq 2 [] [yF 3 86 t.s t.A t.l t.c t.e] ?_))))))
 refine yZ (zJ ?_)
 refine yR (yV t.s t.A t.l t.c t.e) fun w' R Q=>?_
 exact⟨t,rfl,Zsv hD Z,Q.2,R⟩
theorem Zor (r c n cap a:Nat)(A B:qA)(w:World) :
 yA 132 #[.agg #[.int .i64 ((r:Nat):Int),.int .i64 ((c:Nat):Int),.slice A n cap],.agg #[.int .i64 ((r:Nat):Int),.int .i64 ((c:Nat):Int),.slice B n a]] w (RetV w (.bool true)):=by
 refine zV func132 rfl qK (fun w' b=>trivial) ?_
 refine yY (xq 3 [Δ 2,Δ 3,yB 4 false] [(3,94,[Γ r,Γ c,Λ B n a]),(2,94,[Γ r,Γ c,Λ A n cap])] ?_)
 refine yZ (yY (xq 5 [yB 9 (((r:Int):Int) == (r:Int))] [] ?_))
 rw[(show ((r:Int) == (r:Int))=true by simp)]
 refine xq 6 [yB 10 true,yB 15 (((c:Int):Int) == (c:Int))] [] ?_
 rw[(show ((c:Int) == (c:Int))=true by simp)]
 refine xq 2 [yB 4 true] [] ?_
 refine yZ (zJ ?_)
 refine yR (.bool true) fun w' R Q=>?_
 exact⟨rfl,R⟩
theorem Zrz (m H r c:Nat)(A B:qA)(cap a n:Nat)(xs ys:List Nb)(b:Nat)(v:Fv3)(w:World)(I:Glob w)(k:OwnD w m 86 3 A cap n (xs.flatMap nbC))(o:wH w xs)(t:xs.length=n)(u:∀ x∈xs,FvOk (nbV x))(y:OwnD w H 86 3 B a n (ys.flatMap nbC))(C:wH w ys)(D:ys.length=n)(E:∀ x∈ys,FvOk (nbV x))(J:n≤4096)(F:8≤b)(G:b≤1024)(K:dtK b (fun q=>nbV xs[q]!) (fun q=>nbV ys[q]!) n 0 (false,0,0)=some v) :
 yA 98 #[.agg #[.int .i64 ((r:Nat):Int),.int .i64 ((c:Nat):Int),.slice A n cap],.agg #[.int .i64 ((r:Nat):Int),.int .i64 ((c:Nat):Int),.slice B n a],.int .i64 ((b:Nat):Int)] w (Zgw v w):=by
 refine zV func98 rfl qK (fun w' O=>trivial) ?_
 refine yY (xq 5 [Δ 3,Δ 4,Δ 5,Δ 6,yJ 7 0] [yF 6 86 false none 0 0 0,(5,3,[Γ b]),(4,94,[Γ r,Γ c,Λ B n a]),(3,94,[Γ r,Γ c,Λ A n cap])] ?_)
 refine yZ (zD (yY (xq 2 [(8,.v (.agg #[yI r, yI c,.slice A n cap])),(9,.v (.agg #[yI r, yI c,.slice B n a]))] [] ?_)))
 refine xqc _ _ 10 (fun _:Unit=>.bool true) _ (fun w R Q=>yN (Zor r c n cap a A B _)) fun P=>?_
 refine xq 1 [yB 11 false] [] ?_
 refine yZ (xb (zG (zB (zD ?_))))
 refine SXc.freezeN 3 94 [yI r, yI c,.slice A n cap] (fun g=>[(3,.v (.pointer (yL g))),Δ 4,Δ 5,Δ 6,yJ 7 0]) [yF 6 86 false none 0 0 0,(5,3,[Γ b]),(4,94,[Γ r,Γ c,Λ B n a])] qK (fun _=>qK) qK qK (fun _=>qK) fun g L=>?_
 refine SXc.freezeN 4 94 [yI r, yI c,.slice B n a] (fun h=>[(3,.v (.pointer (yL g))),(4,.v (.pointer (yL h))),Δ 5,Δ 6,yJ 7 0]) [yF 6 86 false none 0 0 0,(5,3,[Γ b])] qK (fun _=>qK) qK qK (fun _=>qK) fun h M=>?_
 refine SXc.freezeN 5 3 [yI b] (fun i=>[(3,.v (.pointer (yL g))),(4,.v (.pointer (yL h))),(5,.v (.pointer (yL i))),Δ 6,yJ 7 0]) [yF 6 86 false none 0 0 0] qK (fun _=>qK) qK qK (fun _=>qK) fun i N=>?_
 refine zC (xq 1 [(13,.v (.func (.func 134) #[] #[.pointer (yL g),.pointer (yL h),.pointer (yL i)]))] [] ?_)
 refine xqc _ _ 14 (fun z:{z:Nb // nbV z=v}=>.tuple #[yV z.1.s z.1.A z.1.l z.1.c z.1.e, yI 0]) _ (fun w R Q=>yM Zg1 (Zrw 134 #[.pointer (yL g),.pointer (yL h),.pointer (yL i)] v _ (fun _=>rfl) (fun S f=>ZpI m H r c A B cap a n xs ys b g h i v _ (I.ext (R.trans f)) (Blk.ext' Q.1.1.2 f) (Blk.ext' Q.1.2 f) (Blk.ext' Q.2 f) (OwnD.ext k (R.trans f)) (wH.ext o (R.trans f)) t u (OwnD.ext y (R.trans f)) (wH.ext C (R.trans f)) D E J F G K))) fun⟨d,j⟩=>?_
 refine xq 4 [yJ 7 0] [yF 6 86 d.s d.A d.l d.c d.e] ?_
 refine yZ (zJ ?_)
 refine yR (.tuple #[yV d.s d.A d.l d.c d.e, yI 0]) fun w' R Q=>?_
 exact⟨d,rfl,j,Q.2,R⟩
theorem ZhT {n:Nat}(h:n≤1000):wl n≤100000:=uD (lV h) (uD (Zcf (a:=10) (b:=1) qD) qD)
theorem ZrA {n:Nat}(h:wl n≤100000):FvOk (fvR (wG false n 0)):=by
 by_cases a:(wG false n 0).err=0
 ·exact Zlj h a
 unfold wG at a ⊢
 split
 ·exact Zcm
 rename_i b
 rw[uQ b] at a
 split
 ·rename_i c
  rw[uZ c] at a
  exact absurd rfl a
 exact Zcm
theorem Zp4 {xs:List Nb}{i:Nat}(h:i<xs.length):(xs.map nbV)[i]! = nbV xs[i]! := by rw[vT _ i (by rw[uL];exact h),sC,vT xs i h]
theorem MsOk.boxN9 {m:Nat}{w w':World}{ys:List Mx}(h:MsOk w.heap.size w' ys)(Q:Ext w w')(e:m≤w.heap.size):BoxN w w' (fun v=>MsOk m v ys):=fun S b a c y d=>⟨(h y d).1.boxN e S b a c,(boxn Q (fun _ _ b c=>wH.nrb (h y d).2 b c)) S b a c⟩
theorem Zos {b:Nat}{xs ys:List Nb}:∀ (n k:Nat) (t:Fv3),k+n≤xs.length→k+n≤ys.length→dtK b (fun q=>nbV xs[q]!) (fun q=>nbV ys[q]!) n k t=dtK b (fun q=>(xs.map nbV)[q]!) (fun q=>(ys.map nbV)[q]!) n k t
 | 0,_,_,_,_=>rfl
 | n+1,k,t,h1,h2=>by
  unfold dtK
  show (jM t (nbV xs[k]!) (nbV ys[k]!) b).bind _=(jM t ((xs.map nbV)[k]!) ((ys.map nbV)[k]!) b).bind _
  rw[Zp4 qO,Zp4 qO]
  congr 1
  funext t
  exact Zos n (k+1) t qO qO
theorem Zp5 {f:Fm}{p:Mx}(a:FmG f)(h:p.xs.map nbV=f.fs.map ldV):∀ x∈p.xs,FvOk (nbV x):=fun x d=>by
 have b:nbV x∈p.xs.map nbV:=pH d
 rw[h] at b
 obtain⟨q,c,e⟩:=oX.1 b
 rw[←e]
 exact Zsf (a.hv q c) (a.hs q c)
theorem Zot {xs:List Mx}{a:List Fm}{f:Fm}(h:xs.map mxV=a.map fmV)(b:a=[f]):∃ p,xs=[p]∧p.r=f.r∧p.c=f.c∧p.xs.map nbV=f.fs.map ldV:=by
 subst b
 cases xs with
 | nil=>cases h
 | cons p t =>
  injection h with h1 h2
  have d:t=[]:=List.map_eq_nil_iff.1 h2
  subst d
  have h1:mxV p=fmV f:=h1
  exact⟨p,rfl,uX Prod.fst h1,uX (fun q=>q.2.1) h1,uX (fun q=>q.2.2) h1⟩
theorem ZrB {x:It}{m0:Nat}{w w':World}{e:Ending}(a:m0≤w.heap.size)(h:ZmD x w e w') :
 lG (fun s:{s:Ss // s.xs.map mxV=x.xs.map fmV∧s.ss.map mxV=x.ss.map fmV}=>.agg #[.slice s.1.xA s.1.xs.length s.1.xc,.slice s.1.sA s.1.ss.length s.1.sc,.slice s.1.yA s.1.yl s.1.yc])
 (fun s w=>((OwnD w m0 94 3 s.1.xA s.1.xc s.1.xs.length (s.1.xs.flatMap mxC)∧MsOk m0 w s.1.xs)∧OwnD w m0 94 3 s.1.sA s.1.sc s.1.ss.length (s.1.ss.flatMap mxC))∧MsOk m0 w s.1.ss) w e w':=by
 obtain⟨s,rfl,b,⟨c,d,f,g⟩,Q⟩:=h
 exact⟨⟨s,b⟩,rfl,Q,(((c.boxN a).and (MsOk.boxN9 d Q a)).and (f.boxN a)).and (MsOk.boxN9 g Q a)⟩
instance {x:It}:Nonempty {s:Ss // s.xs.map mxV=x.xs.map fmV∧s.ss.map mxV=x.ss.map fmV}:=by
 have h:∀ l:List Fm,(l.map (fun f=>(⟨f.r,f.c,none,0,(f.fs.map ldV).map (fun v=>⟨v.1,none,0,0,v.2.1,v.2.2⟩)⟩:Mx))).map mxV=l.map fmV:=fun l=>by
  rw[rM]
  refine sF fun f _=>?_
  show (f.r,f.c,((f.fs.map ldV).map _).map nbV)=(f.r,f.c,f.fs.map ldV)
  rw[rM]
  exact uX (fun q=>(f.r,f.c,q)) (Eq.trans (sF fun v _=>rfl) (List.map_id _))
 exact⟨⟨⟨none,0,_,none,0,_,none,0,0⟩,h x.xs,h x.ss⟩⟩
structure ItV (p:Sdp) (u:It):Prop where
 x0:u.xs.length=p.bs.length
 s0:u.ss.length=p.bs.length
 xd:∀ k,k<u.xs.length→p.bs[k]! = ((u.xs[k]!.r:Nat):Int)
 sd:∀ k,k<u.ss.length→p.bs[k]! = ((u.ss[k]!.r:Nat):Int)
 xV:∀ x∈u.xs,FmS x
 sV:∀ x∈u.ss,FmS x
 yl:u.ys.length=p.qs.length
 yV:∀ y∈u.ys,Gd y
theorem ZeZ {p:Sdp}{f z:ByteArray×Int}{u:It}(b:SdpV p)(c:Gd f)(a:Gd z)(h:Zbj p.bs p.qs.length f z u):ItV p u:=by
 obtain⟨e,xd,g⟩:=Zgv b.b1 c a h.1
 obtain⟨i,j,k⟩:=Zgv b.b1 c a h.2.1
 refine⟨e,i,xd,j,g,k,by rw[h.2.2,tH],fun y d=>?_⟩
 rw[h.2.2] at d
 rw[(rE.1 d).2];exact a
theorem ZrC (E m:Nat)(d p2:Mx)(A B C:qA)(H M q Z b:Nat)(v1 v:Fv3)(w:World)(hg:Glob w)(hS:Blk 143 w E [Ξ,Ξ,Ξ,Ξ,Ξ,.int .i64 ((b:Nat):Int),.slice A 1 H,.slice B 1 M,.slice C q Z,Ξ,Ξ,Ξ].toArray)(hA:OwnD w m 94 3 A H 1 ([d].flatMap mxC))(hB:OwnD w m 94 3 B M 1 ([p2].flatMap mxC))(a0:OwnD w m 86 3 d.A d.cap d.xs.length (d.xs.flatMap nbC))(b0:wH w d.xs)(c0:∀ x∈d.xs,FvOk (nbV x))(d0:OwnD w m 86 3 p2.A p2.cap p2.xs.length (p2.xs.flatMap nbC))(e0:wH w p2.xs)(f0:∀ x∈p2.xs,FvOk (nbV x))(hr:p2.r=d.r)(hc:p2.c=d.c)(hl:p2.xs.length=d.xs.length)(k0:d.r≤32)(hn:d.xs.length≤4096)(g0:8≤b)(h0:b≤1024)(i0:FvOk v1)(S:dtK b (fun q=>nbV d.xs[q]!) (fun q=>nbV p2.xs[q]!) d.xs.length 0 (false,0,0)=some v1)(T:musT (divV v1 (fvR (wG false d.r 0)) b)=some v) :
 yA 59 #[.pointer (some ⟨E,0,none⟩)] w (ZbJ v w):=by
 refine zV (Φ:=fun w=>((Blk 143 w E [Ξ,Ξ,Ξ,Ξ,Ξ, yI b,.slice A 1 H,.slice B 1 M,.slice C q Z,Ξ,Ξ,Ξ].toArray∧OwnD w m 94 3 A H 1 ([d].flatMap mxC))∧OwnD w m 94 3 B M 1 ([p2].flatMap mxC))) func59 rfl qK (fun w' hf=>⟨⟨Blk.ext' hS hf,hA.ext hf⟩,hB.ext hf⟩) ?_
 refine yY (xq 1 [Δ 2] [yF 2 86 false none 0 0 0] ?_)
 refine yZ (yY (xq 1 [Δ 3] [yF 3 86 false none 0 0 0] ?_))
 refine yZ (yY (xq 1 [yJ 4 0] [] ?_))
 refine yZ (zD (yY (xq 4 [(11,.v (.pointer (some ⟨E,0+6,none⟩)))] [] ?_)))
 refine xqk 12 _ (fun w R Q=>kV (t:=90) (x:=.tmp 11) (Blk.news Q.1.1 6 _ rfl)) ?_
 refine xq 2 [yJ 13 (1:Nat),yJ 14 0] [] ?_
 refine yZ (zO ?_)
 refine xI (fun nn ss ff=>∃ (k:Nat) (G:Nat) (z:Nb),ss=ofL [(0,.v (.pointer (yL E))),Δ 2,Δ 3,yJ 4 G,eS1 12 A 1 H,yJ 13 (1:Nat),yJ 14 k] [yF 3 86 z.s z.A z.l z.c z.e,yF 2 86 false none 0 0 0]∧ff=(fun w=>(((Blk 143 w E [Ξ,Ξ,Ξ,Ξ,Ξ, yI b,.slice A 1 H,.slice B 1 M,.slice C q Z,Ξ,Ξ,Ξ].toArray∧OwnD w m 94 3 A H 1 ([d].flatMap mxC))∧OwnD w m 94 3 B M 1 ([p2].flatMap mxC))∧NbOk w z))∧(k≤1)∧((k=0∧G=0)∨(k=1∧G=d.r∧nbV z=v1))∧nn=(1+(1-k))) _ ⟨0,0,nb0,rfl,rfl,(uT _),(Or.inl ⟨rfl,rfl⟩),rfl⟩ (fun w Q=>⟨⟨⟨Q.1.1,Q.1.2⟩,Q.2⟩,(zL.zero _)⟩) ?_
 rintro nn ss ff ⟨k,G,z,rfl,rfl,hk,hz,rfl⟩
 refine yY (xq 1 [yB 15 (decide ((k:Int)<((1:Nat):Int)))] [] ?_)
 refine yZ (zD ?_)
 refine yQ ((decide ((k:Int)<((1:Nat):Int)))) (fun F=>?_) fun F=>?_
 ·have j:k<1:=by have:=uB F;omega
  have N:k=0:=qO
  refine zG (zB (zD (zO (yY (xq 1 [yJ 16 k] [] ?_)))))
  refine xqk 17 _ (fun w R Q=>xM (t:=90) (e:=94) (sz:=3) (x:=.tmp 12) (ix:=.tmp 14) (cap:=H) (Q.1.1.2.ne j) j) ?_
  obtain⟨n,I⟩:∃ x,([d])[k]! = x:=⟨_,rfl⟩
  refine xqk 18 (.agg #[yI n.r, yI n.c,.slice n.A n.xs.length n.cap]) (fun w R Q=>by rw[←I];exact wX (t:=94) (x:=.tmp 17) Q.1.1.2 Zeo j) ?_
  have U:d=n:=by rw[←I,N];rfl
  subst U
  refine xq 3 [yJ 5 k,Δ 6] [(6,94,[Γ d.r,Γ d.c,Λ d.A d.xs.length d.cap])] ?_
  refine yZ (zD ?_)
  refine kR 19 [0,0,2,6,14,30,0,126,254,0,512,1536,3584,7680,16383,32767,32767,131071,0] qK qK zQ ?_
  refine xqg 5 [(19,.v (.agg #[yI d.r, yI d.c,.slice d.A d.xs.length d.cap])),(23,.v (.pointer (some ⟨E,0+6+1,none⟩)))] ?_
  refine xqj 24 _ (fun w Q=>kV (t:=90) (x:=.tmp 23) (Blk.news Q.1.1.1 7 _ rfl)) ?_
  refine xqg 1 [yJ 25 k] ?_
  refine xqj 26 _ (fun w Q=>xM (t:=90) (e:=94) (sz:=3) (x:=.tmp 24) (ix:=.tmp 25) (cap:=M) (Q.1.2.ne j) j) ?_
  obtain⟨o,J⟩:∃ x,([p2])[k]! = x:=⟨_,rfl⟩
  refine xqj 27 (.agg #[yI o.r, yI o.c,.slice o.A o.xs.length o.cap]) (fun w Q=>by rw[←J];exact wX (t:=94) (x:=.tmp 26) Q.1.2 Zeo j) ?_
  have V:p2=o:=by rw[←J,N];rfl
  subst V
  refine xqg 4 [(31,.v (.pointer (some ⟨E,0+5,none⟩)))] ?_
  refine xqj 32 _ (fun w Q=>kV (t:=3) (x:=.tmp 31) (Blk.news Q.1.1.1 5 _ rfl)) ?_
  refine xqd 98 [.agg #[yI d.r, yI d.c,.slice d.A d.xs.length d.cap],.agg #[yI p2.r, yI p2.c,.slice p2.A p2.xs.length p2.cap], yI b] 33 (fun z:{z:Nb // nbV z=v1}=>.tuple #[yV z.1.s z.1.A z.1.l z.1.c z.1.e, yI 0]) _ (fun w R Q=>yM Zg1 ((show Calls _ _ _ _ (Zgw v1 _) by rw[hr,hc,hl];exact Zrz m m d.r d.c d.A p2.A d.cap p2.cap d.xs.length d.xs p2.xs b v1 _ (hg.ext R) (OwnD.ext a0 R) (wH.ext b0 R) rfl c0 (by have h:=OwnD.ext d0 R;rw[hl] at h;exact h) (wH.ext e0 R) hl f0 hn g0 h0 S))) fun⟨a,W⟩=>?_
  refine xqg 2 [(34,.v (yV a.s a.A a.l a.c a.e)),yJ 35 0] ?_
  refine xqd _ _ 36 (fun _:Unit=>.agg #[.bool a.s,.slice a.A a.l a.c, yI a.e]) _ (fun w R Q=>yN (ZjN a.s a.A a.l a.c a.e _)) fun xx=>?_
  refine xqf 1 [Δ 7] [yF 7 86 false none 0 0 0,(6,94,[Γ d.r,Γ d.c,Λ d.A d.xs.length d.cap]),yF 3 86 z.s z.A z.l z.c z.e,yF 2 86 false none 0 0 0] ?_
  refine xz (xq 1 [] [yF 7 86 a.s a.A a.l a.c a.e] ?_)
  refine yZ (zD (yY (xq 2 [yB 38 (((k:Int):Int) == 0)] [] ?_)))
  rw[(show ((k:Int) == 0)=true by rw[N];rfl)]
  refine yZ (xa (zC (xq 2 [] [yF 3 86 a.s a.A a.l a.c a.e] ?_)))
  refine yZ (zC (xq 4 [yJ 54 (IntKind.i64.wrap ((G:Int)+((d.r:Nat):Int)))] [] ?_))
  rw[(show IntKind.i64.wrap ((G:Int)+((d.r:Nat):Int))=((G+d.r:Nat):Int) by rw[IntKind.wrap_i64];omega)]
  refine xr 1 [(0,.v (.pointer (yL E))),Δ 2,Δ 3,yJ 4 (G+d.r:Nat),eS1 12 A 1 H,yJ 13 (1:Nat),yJ 14 k] [yF 3 86 a.s a.A a.l a.c a.e,yF 2 86 false none 0 0 0] ?_
  refine xe (xK (zB (zC (xq 1 [yJ 55 (IntKind.i64.wrap ((k:Int)+1))] [] ?_))))
  rw[yW ((k:Int)+1) (((k+1:Nat):Int)) qO]
  refine xq 1 [yJ 14 (k+1:Nat)] [] ?_
  refine xe ?_
  exact xC _ qO ⟨(k+1),(G+d.r),a,rfl,rfl,j,(Or.inr ⟨qO,by have:=hz.elim (fun h=>h.2) (fun h=>absurd h.1 qO);omega,W⟩),rfl⟩ (fun w Q=>⟨⟨⟨Q.1.1.1.1.1,Q.1.1.1.1.2⟩,Q.1.1.1.2⟩,Q.1.2⟩)
 have m0:k=1:=by have:=uC F;omega
 obtain⟨j0,X⟩:G=d.r∧nbV z=v1:=by rcases hz with h|h;exact absurd h.1 qO;exact h.2
 subst j0
 refine xJ (zE (zE (xL (zB (zD ?_)))))
 refine SXc.weak [(0,.v (.pointer (yL E))),Δ 2,Δ 3,yJ 4 d.r] [yF 3 86 z.s z.A z.l z.c z.e,yF 2 86 false none 0 0 0] (kQ.of qK) qK (fun _ h=>h) ?_
 refine kR 12 [0,0,2,0,8,24,56,120,255,511,511,2047] qK qK zQ ?_
 refine xqg 2 [(56,.v (yV z.s z.A z.l z.c z.e)),yJ 57 d.r] ?_
 refine xqd _ _ 58 (fun z:{z:Nb // nbV z=fvR (wG false d.r 0)}=>.agg #[.bool z.1.s,.slice z.1.A z.1.l z.1.c, yI z.1.e]) _ (fun w R Q=>yM ZgX (ZjM d.r _ (hg.ext R) qO)) fun⟨g,K⟩=>?_
 have O:FvOk (nbV z):=by rw[X];exact i0
 have P:FvOk (nbV g):=by rw[K];exact ZrA (ZhT qO)
 have Y:musT (divV (nbV z) (nbV g) b)=some v:=by rw[X,K];exact T
 refine xqg 4 [(62,.v (.pointer (some ⟨E,0+5,none⟩)))] ?_
 refine xqj 63 _ (fun w Q=>kV (t:=3) (x:=.tmp 62) (Blk.news Q.1.1.1 5 _ rfl)) ?_
 obtain⟨f,i⟩:=yE (divV (nbV z) (nbV g) b)
 have L:f.err=0:=by rw[←i];exact (eB Y).1
 have l0:FvOk (fvR f):=by rw[←i];exact Zrb qO qO (by rw[i];exact L)
 refine xqd _ _ 64 (fun q:ShN=>.tuple #[yV f.s q.1 q.2.1 q.2.2 f.e, yI 0]) _ (fun w R Q=>((show Calls _ _ _ _ (lB w f) by rw[←i];exact ZnA z.s z.A z.l z.c z.m z.e g.s g.A g.l g.c g.m g.e b qO qO _ (hg.ext R) Q.1.2 O.wl O.lo O.hi Q.2 P.wl P.lo P.hi)).mono (fun _ _ h=>ZcZ L h)) fun⟨u,y,D⟩=>?_
 refine xqg 2 [(65,.v (yV f.s u y D f.e)),yJ 66 0] ?_
 refine xqd _ _ 67 (fun _:Unit=>.agg #[.bool f.s,.slice u y D, yI f.e]) _ (fun w R Q=>yN (ZjN f.s u y D f.e _)) fun xx=>?_
 refine xz (xq 1 [] [yF 2 86 f.s u y D f.e] ?_)
 refine yZ (zJ ?_)
 refine yR (yV f.s u y D f.e) fun w' R Q=>?_
 exact⟨(⟨f.s,u,y,D,f.m,f.e⟩:Nb),rfl,by rw[(eB Y).2,i];rfl,Q.1.2,R⟩
theorem ZpJ (m N O:Nat)(u:It)(b:Nat)(j D:Fm)(g:u.xs=[j])(k:u.ss=[D])(d:FmG j)(i:FmG D)(n:D.r=j.r)(o:D.c=j.c)(hq:u.ys.length≤512)(P:∀ y∈u.ys,Gd y)(S:8≤b)(T:b≤1024)(v1 v:Fv3)(U:FvOk v1)(E:dtK b (fun q=>(j.fs.map ldV)[q]!) (fun q=>(D.fs.map ldV)[q]!) j.fs.length 0 (false,0,0)=some v1)(F:musT (divV v1 (fvR (wG false j.r 0)) b)=some v)(w:World)(hg:Glob w)(hu:ItOk m w u)(V:Blk 3 w N #[.int .i64 ((b:Nat):Int)])(W:Blk 35 w O #[.slice u.xA u.xs.length u.xc,.slice u.sA u.ss.length u.sc,.slice u.yA u.ys.length u.yc]) :
 yA 57 #[.pointer (some ⟨N,0,none⟩),.pointer (some ⟨O,0,none⟩)] w (ZbJ v w):=by
 obtain⟨m0,X⟩:∃ m,m=w.heap.size:=⟨_,rfl⟩
 refine zV (Φ:=fun w=>(Blk 3 w N #[yI b]∧Blk 35 w O #[.slice u.xA u.xs.length u.xc,.slice u.sA u.ss.length u.sc,.slice u.yA u.ys.length u.yc])) func57 rfl qK (fun w' hf=>⟨Blk.ext' V hf,Blk.ext' W hf⟩) ?_
 refine yY (xq 1 [Δ 2] [yF 2 86 false none 0 0 0] ?_)
 refine yZ (zD ?_)
 refine yO 6 zQ ?_
 refine xqj 4 _ (fun w Q=>kV (t:=3) (x:=.tmp 0) (Blk.news Q.1 0 _ rfl)) ?_
 refine xqg 1 [(5,.v (.agg #[yI b]))] ?_
 refine xqj 6 _ (fun w Q=>Zqy (t:=35) (x:=.tmp 1) Q.2) ?_
 refine xqd _ _ 7 (fun s:{s:Ss // s.xs.map mxV=u.xs.map fmV∧s.ss.map mxV=u.ss.map fmV}=>.agg #[.slice s.1.xA s.1.xs.length s.1.xc,.slice s.1.sA s.1.ss.length s.1.sc,.slice s.1.yA s.1.yl s.1.yc]) _ (fun w R Q=>(Zie m u _ (hu.ext R) (by rw[k,g];rfl) (by rw[g];show 1≤64;decide) hq (fun f h=>by rw[g] at h;rw[vX.1 h];exact d) (fun f h=>by rw[k] at h;rw[vX.1 h];exact i) P).mono (fun _ _ h=>ZrB (X ▸ R.size) h)) fun xx=>?_
 obtain⟨⟨A,J,xs,B,K,ys,C,L,q⟩,G,H⟩:=xx
 dsimp only at G H
 obtain⟨p1,rfl,Y,a2,Z⟩:=Zot G g
 obtain⟨p2,rfl,b1,b2,b3⟩:=Zot H k
 refine xqf 2 [Δ 3,(8,.v (.agg #[Ξ,Ξ,Ξ,Ξ,Ξ, yI b,.slice A 1 J,.slice B 1 K,.slice C q L,Ξ,Ξ,Ξ]))] [(3,143,[Ω,Ω,Ω,Ω,Ω,Γ 0,Ω,Ω,Ω,Ω,Ω,Ω]),yF 2 86 false none 0 0 0] ?_
 refine xz (xq 1 [] [(3,143,[Ω,Ω,Ω,Ω,Ω,Γ b,Λ A 1 J,Λ B 1 K,Λ C q L,Ω,Ω,Ω])] ?_)
 refine yZ (zD ?_)
 refine SXc.freezeN 3 143 [Ξ,Ξ,Ξ,Ξ,Ξ, yI b,.slice A 1 J,.slice B 1 K,.slice C q L,Ξ,Ξ,Ξ] (fun gs=>[Δ 2,(3,.v (.pointer (yL gs)))]) [yF 2 86 false none 0 0 0] qK (fun _=>qK) qK qK (fun _=>qK) fun gs a0=>?_
 refine zC ?_
 have M:p1.xs.length=j.fs.length:=by have:=uX List.length Z;rwa [uL,uL] at this
 have l2:p2.xs.length=D.fs.length:=by have:=uX List.length b3;rwa [uL,uL] at this
 refine xqc _ _ 9 (fun z:{z:Nb // nbV z=v}=>.agg #[.bool z.1.s,.slice z.1.A z.1.l z.1.c, yI z.1.e]) _ (fun w R Q=>yM ZgX (ZrC gs m0 p1 p2 A B C J K q L b v1 v _ (hg.ext R) Q.2 Q.1.2.1.1.1 Q.1.2.1.2 (Q.1.2.1.1.2 _ tT).1 (Q.1.2.1.1.2 _ tT).2 (Zp5 d Z) (Q.1.2.2 _ tT).1 (Q.1.2.2 _ tT).2 (Zp5 i b3) (by rw[Y,b1,n]) (by rw[a2,b2,o]) (by rw[M,l2,d.hn,i.hn,n,o]) (by rw[Y];exact d.hr.2) (by rw[M,d.hn];exact uD (sI d.hr.2 d.hc.2) qD) S T U (by rw[Zos _ _ _ qO (by rw[M,l2,d.hn,i.hn,n,o];omega),Z,b3,M];exact E) (by rw[Y];exact F))) fun⟨a,I⟩=>?_
 refine xq 1 [] [yF 2 86 a.s a.A a.l a.c a.e] ?_
 refine yZ (zJ ?_)
 refine yR (yV a.s a.A a.l a.c a.e) fun w' R Q=>?_
 exact⟨a,rfl,I,Q.2,R⟩
theorem ZpK (d m:Nat)(p:Sdp)(u:It)(b:Int)(w:World)(e:Glob w)(f:SdpOk d w p)(g:SdpV p)(c:ItOk m w u)(a:ItV p u)(i:p.qs.length≤32)(j:lR p b=0) :
 yA 55 #[.agg #[.slice p.bA p.bs.length p.bc,.int .i64 p.free,.slice p.oA p.os.length p.oc,.slice p.fA p.fs.length p.fc,.slice p.eA p.qs.length p.ec],.agg #[.slice u.xA u.xs.length u.xc,.slice u.sA u.ss.length u.sc,.slice u.yA u.ys.length u.yc],.int .i64 b] w (RetV w (.int .i64 0)):=by
 refine zV (Φ:=fun w=>True) func55 rfl qK (fun w' l=>trivial) ?_
 refine yY (xq 3 [Δ 3,Δ 4,yJ 6 0] [(4,35,[Λ u.xA u.xs.length u.xc,Λ u.sA u.ss.length u.sc,Λ u.yA u.ys.length u.yc]),(3,27,[Λ p.bA p.bs.length p.bc,Γ p.free,Λ p.oA p.os.length p.oc,Λ p.fA p.fs.length p.fc,Λ p.eA p.qs.length p.ec])] ?_)
 refine yZ (zD (yY (xq 2 [(7,.v (.agg #[.slice p.bA p.bs.length p.bc, yI p.free,.slice p.oA p.os.length p.oc,.slice p.fA p.fs.length p.fc,.slice p.eA p.qs.length p.ec])),(8,.v (.agg #[.slice u.xA u.xs.length u.xc,.slice u.sA u.ss.length u.sc,.slice u.yA u.ys.length u.yc]))] [] ?_)))
 refine xqc _ _ 9 (fun _:Unit=>.bool true) _ (fun w R Q=>yN (ZbX d m p u.xA u.sA u.yA u.xc u.sc u.yc u.xs u.ss u.ys _ (e.ext R) (f.ext R) g (c.ext R).x1 (c.ext R).x2 (c.ext R).s1 (c.ext R).s2 (c.ext R).y1 a.x0 a.s0 a.xd a.sd a.xV a.sV a.yl a.yV)) fun k=>?_
 refine xq 1 [yB 10 false] [] ?_
 refine yZ (xb (zG (zB (yY (xq 2 [(11,.v (.agg #[.slice p.bA p.bs.length p.bc, yI p.free,.slice p.oA p.os.length p.oc,.slice p.fA p.fs.length p.fc,.slice p.eA p.qs.length p.ec])),yJ 12 b] [] ?_)))))
 refine xqc _ _ 13 (fun _:Unit=>yI 0) _ (fun w R Q=>(ZaE p b _ i).mono (fun _ _ h=>zI h (by rw[j]))) fun k=>?_
 refine xq 1 [yJ 6 0] [] ?_
 refine yZ (zJ ?_)
 refine yR (yI 0) fun w' R Q=>?_
 exact⟨rfl,R⟩
theorem ZrD (M m:Nat)(p:Sdp)(u:It)(b:Nat)(g i:Fm)(x:u.xs=[g])(B:u.ss=[i])(C:FmG g)(D:FmG i)(E:i.r=g.r)(F:i.c=g.c)(O:u.ys.length≤512)(G:∀ y∈u.ys,Gd y)(H:8≤b)(I:b≤1024)(v1 v:Fv3)(J:FvOk v1)(k:dtK b (fun q=>(g.fs.map ldV)[q]!) (fun q=>(i.fs.map ldV)[q]!) g.fs.length 0 (false,0,0)=some v1)(n:musT (divV v1 (fvR (wG false g.r 0)) b)=some v)(w:World)(K:Glob w)(P:SdpOk M w p)(S:SdpV p)(N:ItOk m w u)(T:ItV p u)(L:p.qs.length≤32)(U:lR p ((b:Nat):Int)=0)(o:FvOk v) :
 yA 24 #[.agg #[.slice p.bA p.bs.length p.bc,.int .i64 p.free,.slice p.oA p.os.length p.oc,.slice p.fA p.fs.length p.fc,.slice p.eA p.qs.length p.ec],.agg #[.slice u.xA u.xs.length u.xc,.slice u.sA u.ss.length u.sc,.slice u.yA u.ys.length u.yc],.int .i64 ((b:Nat):Int)] w (RetV w (.tuple #[.agg #[.string (ftW v).1,.int .i64 (ftW v).2],.int .i64 0])):=by
 refine zV (Φ:=fun w=>True) func24 rfl qK (fun w' Y=>trivial) ?_
 refine yY (xq 5 [Δ 3,Δ 4,Δ 5,Δ 6,yJ 7 0] [yG 6 61 ⟨#[]⟩ 0,(5,3,[Γ b]),(4,35,[Λ u.xA u.xs.length u.xc,Λ u.sA u.ss.length u.sc,Λ u.yA u.ys.length u.yc]),(3,27,[Λ p.bA p.bs.length p.bc,Γ p.free,Λ p.oA p.os.length p.oc,Λ p.fA p.fs.length p.fc,Λ p.eA p.qs.length p.ec])] ?_)
 refine yZ (zD (yY (xq 3 [(11,.v (.agg #[.slice p.bA p.bs.length p.bc, yI p.free,.slice p.oA p.os.length p.oc,.slice p.fA p.fs.length p.fc,.slice p.eA p.qs.length p.ec])),(12,.v (.agg #[.slice u.xA u.xs.length u.xc,.slice u.sA u.ss.length u.sc,.slice u.yA u.ys.length u.yc])),yJ 13 b] [] ?_)))
 refine xqc _ _ 14 (fun _:Unit=>yI 0) _ (fun w R Q=>yN (ZpK M m p u (b:Int) _ (K.ext R) (P.ext R) S (N.ext R) T L U)) fun V=>?_
 refine xq 1 [yJ 8 0] [] ?_
 refine yZ (yY (xq 2 [yB 16 false] [] ?_))
 refine yZ (xb (zG (zB (zD ?_))))
 refine SXc.freezeN 5 3 [yI b] (fun j=>[Δ 4,(5,.v (.pointer (yL j))),Δ 6,yJ 7 0]) [yG 6 61 ⟨#[]⟩ 0,(4,35,[Λ u.xA u.xs.length u.xc,Λ u.sA u.ss.length u.sc,Λ u.yA u.ys.length u.yc])] qK (fun _=>qK) qK qK (fun _=>qK) fun j W=>?_
 refine SXc.freezeN 4 35 [.slice u.xA u.xs.length u.xc,.slice u.sA u.ss.length u.sc,.slice u.yA u.ys.length u.yc] (fun t=>[(4,.v (.pointer (yL t))),(5,.v (.pointer (yL j))),Δ 6,yJ 7 0]) [yG 6 61 ⟨#[]⟩ 0] qK (fun _=>qK) qK qK (fun _=>qK) fun t X=>?_
 refine zC (xq 1 [(20,.v (.func (.func 57) #[] #[.pointer (yL j),.pointer (yL t)]))] [] ?_)
 refine xqc _ _ 21 (fun z:{z:Nb // nbV z=v}=>.tuple #[yV z.1.s z.1.A z.1.l z.1.c z.1.e, yI 0]) _ (fun w R Q=>yM Zg1 (Zrx 57 #[.pointer (yL j),.pointer (yL t)] v _ (fun _=>rfl) (fun Z f=>ZpJ m j t u b g i x B C D E F O G H I v1 v J k n _ (K.ext (R.trans f)) (N.ext (R.trans f)) (Blk.ext' Q.1.2 f) (Blk.ext' Q.2 f)))) fun⟨a,d⟩=>?_
 refine xq 6 [Δ 9,yJ 10 0] [yF 9 86 a.s a.A a.l a.c a.e] ?_
 refine yZ (zD (yY (xq 2 [yB 25 false] [] ?_)))
 refine yZ (xb (zG (zB (yY (xq 1 [(28,.v (yV a.s a.A a.l a.c a.e))] [] ?_)))))
 refine xqc _ _ 29 (fun _:Unit=>.agg #[.string (ftW v).1, yI (ftW v).2]) _ (fun w R Q=>(ZbW a.s a.A a.l a.c a.m a.e _ (K.ext R) Q.2 (by have h:=o.1;rw[←d] at h;exact uD h qD) (by have h:=o.2.2.2;rw[←d] at h;exact h)).mono (fun _ _ h=>zI h (by rw[←d];rfl))) fun V=>?_
 refine xq 2 [yJ 7 0] [(6,61,[.v (.string (ftW v).1),.v (yI (ftW v).2)])] ?_
 refine yZ (zJ ?_)
 refine yR (.tuple #[.agg #[.string (ftW v).1, yI (ftW v).2], yI 0]) fun w' R Q=>?_
 exact⟨rfl,R⟩
def kP (b1 b2:Nat):Sdp:=⟨some ⟨b1,0,none⟩,1,[2],0,none,0,[],none,0,[],some ⟨b2,0,none⟩,1,[⟨none,0,[],none,0,[],⟨#[49]⟩⟩]⟩
theorem ZmE {m a b:Nat}{w:World}(c:Blk 3 w a #[.int .i64 2])(d:Blk 76 w b #[Ξ,Ξ,.string ⟨#[49]⟩])(e:m≤a)(f:m≤b):SdpOk m w (kP a b) :=
 ⟨OwnD.ofBlk (xs:=[.int .i64 2]) c e rfl (show 1≤maxLen by decide) qS,OwnD.nil _ _ _ _,OwnD.nil _ _ _ _,OwnD.ofBlk (xs:=[Ξ,Ξ,.string ⟨#[49]⟩]) d f rfl (show 1≤maxLen by decide) qS,fun q g=>by
  rw[vX.1 g]
  exact⟨OwnD.nil _ _ _ _,OwnD.nil _ _ _ _⟩⟩
theorem rd1:xW [49]=some ((1:Int):Rat):=Zbg.2 (dW (n:=1) qD qD qD)
theorem kP_v (c d:Nat):SdpV (kP c d):=by
 have a:∀ e,EnsOk e []:=fun _=>⟨uT _,(fun _ h=>nomatch h),fun _ h=>absurd h (Nat.not_lt_zero _)⟩
 refine⟨⟨uF 1,show 1≤64 by decide⟩,fun b f=>?_,⟨rfl,show (0:Int)≤512 by decide⟩,(fun _ h=>nomatch h),a _,show 1≤512 by decide,fun q g=>?_⟩
 ·rw[vX.1 f];decide
 rw[vX.1 g]
 exact⟨rfl,a _,(fun _ h=>nomatch h),by show (xW [49]).isSome=true;rw[rd1];rfl,qD⟩
instance:Nonempty {p:Sdp // SdpT p}:=⟨⟨kP 0 0,kP_v 0 0,by decide,by decide,by decide,by decide,fun b hb=>by rw[vX.1 hb];decide⟩⟩
def k1:ByteArray×Int:=ftW (false,1,1)
def k0:ByteArray×Int:=ftW (false,0,0)
theorem Zp6:rndF ((2:Int):Rat) 8=⟨false,1,1,0⟩:=by
 unfold rndF
 rw[oO,nK]
 exact few (j:=1) false 0 qD qD qD qD (aT qD qD)
theorem ZsM:Gd k1:=Zd3 (N:=0) qD (uF 1) (Or.inr ⟨qD,aT qD qD⟩)
theorem Zp7:Gd k0:=Zd3 (N:=0) qD (uT _) (Or.inl ⟨rfl,rfl⟩)
theorem k_st {a:Value→Value}{w w':World}{e:Ending}{b c:Nat}(h:ZbM a (Zbj (kP b c).bs (kP b c).qs.length (ftW (fvR (rndF ((2:Int):Rat) 8))) (ftW (false,0,0))) w e w'):ZbM a (Zbj [2] 1 k1 k0) w e w':=by
 rw[Zp6] at h;exact h
theorem Zou {xs:List Fm}(h:xs.map fmT=[(2:Int)].map (fun b=>(b.toNat,b.toNat,lK b.toNat k0 k1))):∃ f,xs=[f]∧f.r=2∧f.c=2∧f.fs=[k1,k0,k0,k1]:=by
 cases xs with
 | nil=>cases h
 | cons p t =>
  injection h with h1 h2
  have a:t=[]:=List.map_eq_nil_iff.1 h2
  subst a
  have h1:(p.r,p.c,p.fs)=(2,2,[k1,k0,k0,k1]):=h1
  exact⟨p,rfl,uX Prod.fst h1,uX (fun q=>q.2.1) h1,uX (fun q=>q.2.2) h1⟩
theorem ZjO {z x:Int}(h:(z=0∧x=0)∨(z%2=1∧okE x)):ldV (⟨(Lib.itoa z).toArray⟩,x)=(decide (z<0),z.natAbs,x):=by
 unfold ldV
 show ((ldR (Lib.itoa z) x).s,(ldR (Lib.itoa z) x).m,(ldR (Lib.itoa z) x).e)=_
 have a:fvB (Lib.itoa z) x=true:=by rw[ZkZ];exact vP h
 unfold ldR
 rw[uZ a,bG,iA]
theorem ZsN:ldV k1=(false,1,1):=ZjO (z:=1) (x:=1) (Or.inr ⟨qD,aT qD qD⟩)
theorem ZsO:ldV k0=(false,0,0):=ZjO (z:=0) (x:=0) (Or.inl ⟨rfl,rfl⟩)
theorem ZjP (e:Int)(a:okE (e+((0:Nat):Int))):wR false 1 1 e 8=⟨false,1,e+((0:Nat):Int),0⟩:=few (n:=1) (o:=1) (j:=0) (b:=8) false e qD qD qD qD a
theorem Zp8:musT (mulV (false,1,1) (false,1,1) 8)=some (false,1,2):=Zep (ZjP 2 (aT qD qD))
theorem k_a1:jM (false,0,0) (false,1,1) (false,1,1) 8=some (false,1,2):=by
 unfold jM
 rw[uQ qD,Zp8]
 show musT (addV (false,0,0) (false,1,2) 8)=_
 refine Zep ?_
 show sumR false 0 0 false 1 2 8=_
 unfold sumR
 rw[uZ rfl]
 exact ZjP 2 (aT qD qD)
theorem k_a0 {t:Fv3}:jM t (false,0,0) (false,0,0) 8=some t:=by
 unfold jM
 exact uZ (Or.inl qD)
theorem k_a2:jM (false,1,2) (false,1,1) (false,1,1) 8=some (false,1,3):=by
 unfold jM
 rw[uQ qD,Zp8]
 show musT (addV (false,1,2) (false,1,2) 8)=_
 refine Zep ?_
 show sumR false 1 2 false 1 2 8=_
 unfold sumR addR
 rw[uQ qD,uQ qD]
 exact few (j:=1) false 2 qD qD qD qD (aT qD qD)
theorem ZsP:dtK 8 (fun q=>([k1,k0,k0,k1].map ldV)[q]!) (fun q=>([k1,k0,k0,k1].map ldV)[q]!) ([k1,k0,k0,k1]:List (ByteArray×Int)).length 0 (false,0,0)=some (false,1,3):=by
 show (jM (false,0,0) (ldV k1) (ldV k1) 8).bind (fun t=>(jM t (ldV k0) (ldV k0) 8).bind (fun t=>(jM t (ldV k0) (ldV k0) 8).bind (fun t=>(jM t (ldV k1) (ldV k1) 8).bind some)))=_
 rw[ZsN,ZsO,k_a1]
 show (jM (false,1,2) (false,0,0) (false,0,0) 8).bind _=_
 rw[k_a0]
 show (jM (false,1,2) (false,0,0) (false,0,0) 8).bind _=_
 rw[k_a0]
 show (jM (false,1,2) (false,1,1) (false,1,1) 8).bind some=_
 rw[k_a2];rfl
theorem Zsx:wG false 2 0=⟨false,1,1,0⟩:=by
 unfold wG
 rw[uQ qD,show (2:Nat)=1*2^1 from rfl,ZdM qD,Zei qD,uZ (aT qD qD)]
 rfl
theorem ZsQ:musT (divV (false,1,3) (fvR (wG false 2 0)) 8)=some (false,1,2):=by
 rw[Zsx]
 refine Zep ?_
 show ZcO false 1 1 2 8=_
 unfold ZcO
 rw[uQ qD]
 exact ZjP 2 (aT qD qD)
theorem k_fv {e:Int}(h:okE e):FvOk (false,1,e):=⟨ZhT (n:=1) qD,h,Or.inr rfl,fun h=>by cases h⟩
theorem k_v1:FvOk (false,1,3):=k_fv (aT qD qD)
theorem k_v2:FvOk (false,1,2):=k_fv (aT qD qD)
theorem k_ft:ftW (false,1,2)=(⟨#[49]⟩,2):=by
 show ((⟨(Lib.itoa 1).toArray⟩:ByteArray),(2:Int))=_
 rw[it1]
theorem bH (w:World)(o:Glob w) :
 yA 7 #[] w (RetV w (.bool true)):=by
 obtain⟨i,j⟩:∃ m,m=w.heap.size:=⟨_,rfl⟩
 refine zV func7 rfl qK (fun w' G=>trivial) ?_
 refine yY (xq 1 [yB 0 false] [] ?_)
 refine yZ (zD (zC ?_))
 refine yD (d:=6) (fun k:{b:Nat // i≤b}=>Υ k.1 1) (fun k q=>Blk 3 q k.1 #[yI 2]) (fun w R Q=>wA (j ▸ R.size) (t:=22) (sz:=1) (z:=yI 0) (parts:=#[(0,Operand.const (Value.int IntKind.i64 2))]) qK qK qK qK qK qK) fun⟨a,f⟩=>?_
 refine xP ?_
 refine xq 1 [(7,.v (.agg #[Ξ,Ξ,.string ⟨#[49]⟩]))] [] ?_
 refine yD (d:=8) (fun k:{b:Nat // i≤b}=>Υ k.1 1) (fun k q=>Blk 76 q k.1 #[Ξ,Ξ,.string ⟨#[49]⟩]) (fun w R Q=>wA (j ▸ R.size) (t:=25) (sz:=3) (z:=.agg #[Ξ,Ξ,.string ⟨#[]⟩]) (parts:=#[(0,Operand.tmp 7)]) qK qK qK qK qK qK) fun⟨c,g⟩=>?_
 refine xP ?_
 refine xq 3 [Δ 1] [(1,27,[Λ (yL a) 1 1,Γ 0,Ω,Ω,Λ (yL c) 1 1])] ?_
 refine yZ (yY (xq 1 [(11,.v (.agg #[Υ a 1, yI 0,Ξ,Ξ,Υ c 1]))] [] ?_))
 refine xqc _ _ 12 (fun x:{x:It // Zbj [2] 1 k1 k0 x}=>.tuple #[.agg #[.slice x.1.xA x.1.xs.length x.1.xc,.slice x.1.sA x.1.ss.length x.1.sc,.slice x.1.yA x.1.ys.length x.1.yc], yI 0]) _ (fun w R Q=>(ZjK i (kP a c) ⟨#[50]⟩ ((2:Int):Rat) 8 _ (o.ext R) (ZmE Q.1.2 Q.2 f g) (kP_v _ _) qD (show 1≤32 by decide) rd2 (by rw[show bytes (⟨#[50]⟩:ByteArray)=[50] from rfl,jS rd2];decide) qD qD rfl (by rw[Zp6])).mono (fun _ _ h=>Zer (j ▸ R.size) (k_st h))) fun⟨u,r⟩=>?_
 have e:ItV (kP a c) u:=ZeZ (kP_v _ _) ZsM Zp7 r
 obtain⟨y,l,s,A,B⟩:=Zou r.1
 obtain⟨C,n,r2,D,E⟩:=Zou r.2.1
 refine xq 6 [Δ 2,yJ 3 0] [(2,35,[Λ u.xA u.xs.length u.xc,Λ u.sA u.ss.length u.sc,Λ u.yA u.ys.length u.yc])] ?_
 refine yZ (yY (xq 2 [(16,.v (.agg #[Υ a 1, yI 0,Ξ,Ξ,Υ c 1])),(17,.v (.agg #[.slice u.xA u.xs.length u.xc,.slice u.sA u.ss.length u.sc,.slice u.yA u.ys.length u.yc]))] [] ?_))
 refine xqc _ _ 18 (fun _:Unit=>.tuple #[yS ⟨#[49]⟩ 2, yI 0]) _ (fun w R Q=>(ZrD i i (kP a c) u 8 y C l n (e.xV _ (by rw[l];exact tT)).1 (e.sV _ (by rw[n];exact tT)).1 (by rw[s,r2]) (by rw[A,D]) (by rw[e.yl];show 1≤512;decide) e.yV qD qD (false,1,3) (false,1,2) k_v1 (by rw[B,E];exact ZsP) (by rw[s];exact ZsQ) _ (o.ext R) (ZmE Q.1.1.2 Q.1.2 f g) (kP_v _ _) Q.2 e (show 1≤32 by decide) rfl k_v2).mono (fun _ _ h=>zI h (by rw[k_ft]))) fun F=>?_
 refine xq 6 [Δ 4,yJ 5 0] [yG 4 61 ⟨#[49]⟩ 2] ?_
 refine yZ (yY (xq 9 [yB 27 true,(28,.v (yS ⟨#[49]⟩ 2)),(29,.v (yS ⟨#[49]⟩ 2))] [] ?_))
 refine xqk 30 _ (fun w R Q=>Zq5 (.tmp 28) (.tmp 29) 61 ⟨#[49]⟩ ⟨#[49]⟩ 2 2 true qK qK qK (ZsG _ _)) ?_
 refine xq 4 [yB 32 true,(33,.v (.agg #[Υ a 1, yI 0,Ξ,Ξ,Υ c 1])),(34,.v (.agg #[.slice u.xA u.xs.length u.xc,.slice u.sA u.ss.length u.sc,.slice u.yA u.ys.length u.yc]))] [] ?_
 refine xqc _ _ 35 (fun _:Unit=>.bool true) _ (fun w R Q=>yN (ZbX i i (kP a c) u.xA u.sA u.yA u.xc u.sc u.yc u.xs u.ss u.ys _ (o.ext R) (ZmE Q.1.1.1.2 Q.1.1.2 f g) (kP_v _ _) Q.1.2.x1 Q.1.2.x2 Q.1.2.s1 Q.1.2.s2 Q.1.2.y1 e.x0 e.s0 e.xd e.sd e.xV e.sV e.yl e.yV)) fun F=>?_
 refine xq 2 [yB 0 true] [] ?_
 refine yZ (zJ ?_)
 refine yR (.bool true) fun w' R Q=>?_
 exact⟨rfl,R⟩
theorem SdpOk.boxT {p:Sdp}{m b:Nat}{w w':World}(h:SdpOk w.heap.size w' p)(d:Fr (fun i=>i=b) w w')(e:m≤w.heap.size):BoxT b w w' (fun v=>SdpOk m v p):=fun S a f c =>
 ⟨h.bl.boxT d e S a f c,h.ob.boxT d e S a f c,h.fr.boxT d e S a f c,h.eq.boxT d e S a f c,fun q g=>⟨(h.es q g).1.boxT d e S a f c,(h.es q g).2.boxT d e S a f c⟩⟩
theorem Zsy (p:Sdp)(s:ByteArray)(bits:Int):xW (bytes s)=none∨(∃ v,xW (bytes s)=some v∧v.num.sign≤0)∨(∃ v,xW (bytes s)=some v∧0<v.num.sign∧lR p bits≠0)∨(∃ v b,xW (bytes s)=some v∧0<v.num.sign∧lR p ((b:Nat):Int)=0∧bits=((b:Nat):Int)∧8≤b∧b≤1024):=by
 cases hr:xW (bytes s) with
 | none=>exact Or.inl rfl
 | some v =>
  by_cases a:v.num.sign≤0
  ·exact Or.inr (Or.inl ⟨v,rfl,a⟩)
  by_cases h2:lR p bits=0
  ·have c:8≤bits∧bits≤1024:=by
    unfold lR at h2
    split at h2
    ·cases h2
    split at h2
    ·cases h2
    omega
   refine Or.inr (Or.inr (Or.inr ⟨v,bits.toNat,rfl,qO,?_,qO,qO,qO⟩))
   rw[show ((bits.toNat:Nat):Int)=bits by omega];exact h2
  exact Or.inr (Or.inr (Or.inl ⟨v,rfl,qO,h2⟩))
theorem Zsz {s:ByteArray}(c:s.size≤60)(d:(xW (bytes s)).isSome=true):ml (valF (bytes s)).num.natAbs≤61∧ml (valF (bytes s)).den≤61:=by
 obtain⟨v,a⟩:=sX.1 d
 have b:=ZhH a
 have g:(bytes s).length≤60:=by rw[zT];exact c
 have e:=Zlt b.1
 have f:ml v.den≤(bytes s).length+1:=by have h:=Zlt b.2;rwa [tQ] at h
 rw[jS a]
 exact⟨qO,qO⟩
theorem Zp9 {v:Rat}{n:Nat}(a:0<n):(rndF v n).m≤2^n:=by
 unfold rndF wR
 split
 ·exact uT _
 unfold wG
 split
 ·exact uT _
 split
 ·exact uD (vG _ _) (Zfp qO v.den_pos a)
 exact uT _
theorem ml_p {m n k:Nat}(h:m≤2^n)(a:n<32*k):ml m≤k:=lD.2 (by rw[bU];exact vN h (pX qD a))
theorem Zqa {s:Bool}{m n:Nat}(b:n≤1024)(h:m≤2^n):ml (sg s m).natAbs≤1000:=by
 have a:(sg s m).natAbs=m:=by unfold sg;split<;>omega
 rw[a]
 exact ml_p h qO
theorem ZjQ:ml (0:Int).natAbs=0:=Zee
def fT9 (v:Int×Int):ByteArray×Int:=(⟨(Lib.itoa v.1).toArray⟩,v.2)
theorem Zlz {l:List (Mr (Mr Ef))}{bs:List Int}{v:Int×Int}(h:l.map mmV=bs.map (fun b=>jF b.toNat v))(t:∀ b∈bs,1≤b∧b≤32)(u:ml v.1.natAbs≤1000) :
 (∀ y∈l,0<y.xs.length∧y.xs.length≤64∧(∀ r∈y.xs,r.xs.length=y.xs.length)∧∀ r∈y.xs,∀ z∈r.xs,ml z.z.natAbs≤1000)∧l.map mmT=bs.map (fun b=>(b.toNat,b.toNat,lK b.toNat (fT9 (0,0)) (fT9 v))):=by
 have f:l.length=bs.length:=by have:=uX List.length h;rwa [uL,uL] at this
 have c:∀ k (a:k<l.length),mmV l[k]=jF (bs[k]'(f ▸ a)).toNat v:=fun k a=>by
  have w:(l.map mmV)[k]'(by rw[uL];exact a)=(bs.map (fun b=>jF b.toNat v))[k]'(by rw[uL];exact f ▸ a):=by simp only[h]
  rwa [sC,sC] at w
 refine⟨fun y x=>?_,pZ (by rw[uL,uL,f]) (fun k a A=>?_)⟩
 ·obtain⟨k,a,rfl⟩:=oM x
  have C:=t _ (tZ (f ▸ a:k<bs.length))
  have p:=MmE.len (c k a)
  have d:∀ r∈l[k].xs,∃ i,r.xs.map efV=(List.range (bs[k]'(f ▸ a)).toNat).map fun j=>if i=j then v else (0,0):=fun r g=>by
   have n:r.xs.map efV∈mmV l[k]:=pH g
   rw[c k a] at n
   obtain⟨i,_,m⟩:=oX.1 n
   exact⟨i,m.symm⟩
  refine⟨qO,qO,fun r g=>?_,fun r g z B=>?_⟩
  ·obtain⟨i,m⟩:=d r g
   have:=uX List.length m
   rw[uL,uL,rH] at this
   rw[this,p]
  obtain⟨i,m⟩:=d r g
  have s:efV z∈r.xs.map efV:=pH B
  rw[m] at s
  obtain⟨j,_,o⟩:=oX.1 s
  by_cases e:i=j
  ·rw[uZ e] at o
   have:z.z=v.1:=(uX Prod.fst o).symm
   rw[this];exact u
  rw[uQ e] at o
  have:z.z=0:=(uX Prod.fst o).symm
  rw[this,ZjQ];exact uT _
 rw[uL] at a
 rw[sC,sC]
 have p:=MmE.len (c k a)
 show (l[k].xs.length,l[k].xs.length,l[k].xs.flatMap (fun r=>r.xs.map ftE))=_
 rw[p]
 refine uX (fun q=>((bs[k]'(f ▸ a)).toNat,(bs[k]'(f ▸ a)).toNat,q)) ?_
 have n:l[k].xs.flatMap (fun r=>r.xs.map ftE)=(mmV l[k]).flatMap (fun r=>r.map fT9):=by
  unfold mmV
  rw[List.flatMap_map]
  congr 1
  funext r
  rw[rM];rfl
 rw[n,c k a]
 unfold jF lK iO
 rw[List.flatMap_map]
 congr 1
 funext i
 rw[rM]
 refine sF fun j _=>?_
 show fT9 (if i=j then v else (0,0))=if i=j then fT9 v else fT9 (0,0)
 split<;>rfl
theorem ZlA {xs ys:List Fm}{l:List (Mr (Mr Ef))}{bs:List Int}{r:FR}(a:xs.map fmT=bs.map (fun b=>(b.toNat,b.toNat,lK b.toNat (ftW (false,0,0)) (ftW (fvR r)))))(c:ys.map fmT=l.map mmT)(d:l.map mmT=bs.map (fun b=>(b.toNat,b.toNat,lK b.toNat (fT9 (0,0)) (fT9 (sg r.s r.m,r.e)))))(f:∀ x∈xs,FmS x):FmEq xs ys :=
 FmEq.of (a.trans (c.trans d).symm) (fun x g=>by
  have h:=(f x g).1
  rw[h.hn]
  exact uD (sI h.hr.2 h.hc.2) qD)
theorem ZsA {a b:List (ByteArray×Int)}{ys:List Ef}{q:Nat}(c:a=List.replicate q (ftW (false,0,0)))(d:b=ys.map ftE)(e:ys=List.replicate q ef0):a=b:=by
 rw[c,d,e,oS];rfl
def RsP (bs:List Int) (q:Nat) (v:Int×Int) (x:Rs):Prop:=x.xs.map mmV=bs.map (fun b=>jF b.toNat v)∧x.ss.map mmV=bs.map (fun b=>jF b.toNat v)∧x.ys=List.replicate q ef0
theorem ZsR {bs:List Int}{v:Int×Int}:∃ l:List (Mr (Mr Ef)),l.map mmV=bs.map (fun b=>jF b.toNat v):=by
 refine⟨bs.map (fun b=>⟨none,0,(jF b.toNat v).map (fun r=>(⟨none,0,r.map (fun z=>⟨false,none,0,0,z.2,z.1⟩)⟩:Mr Ef))⟩),?_⟩
 rw[rM]
 refine sF fun b _=>?_
 show ((jF b.toNat v).map _).map _=_
 rw[rM]
 refine Eq.trans (sF fun r _=>?_) (List.map_id _)
 show (r.map _).map efV=r
 rw[rM]
 exact Eq.trans (sF fun z _=>rfl) (List.map_id _)
instance {bs:List Int} {q:Nat} {v:Int×Int}:Nonempty {x:Rs // RsP bs q v x}:=by
 obtain⟨l,hl⟩:=ZsR (bs:=bs) (v:=v)
 exact⟨⟨⟨none,0,l,none,0,l,none,0,List.replicate q ef0⟩,hl,hl,rfl⟩⟩
instance {l l2:List (Mr (Mr Ef))} {ys:List Ef}:Nonempty {y:It // y.xs.map fmT=l.map mmT∧y.ss.map fmT=l2.map mmT∧y.ys=ys.map ftE}:=by
 have h:∀ l:List (Mr (Mr Ef)),(l.map (fun y=>(⟨y.xs.length,y.xs.length,none,0,y.xs.flatMap (fun r=>r.xs.map ftE)⟩:Fm))).map fmT=l.map mmT:=fun l=>by
  rw[rM];rfl
 exact⟨⟨⟨none,0,_,none,0,_,none,0,_⟩,h l,h l2,rfl⟩⟩
theorem ZrE {bs:List Int}{q m0:Nat}{v:Int×Int}{w w':World}{e:Ending}(a:m0≤w.heap.size)(h:Zmz bs q v w e w') :
 lG (fun x:{x:Rs // RsP bs q v x}=>.tuple #[.agg #[.slice x.1.xA x.1.xs.length x.1.xc,.slice x.1.sA x.1.ss.length x.1.sc,.slice x.1.yA x.1.ys.length x.1.yc],.int .i64 0]) (fun x w=>RsOk' m0 w x.1) w e w':=by
 obtain⟨x,rfl,c,h,Q⟩:=h
 have b:∀ {l:List (Mr (Mr Ef))},MmOk w.heap.size w' l→BoxN w w' (fun v=>MmOk m0 v l):=fun {l} hl S hS w'' hF y hy=>⟨⟨(hl y hy).1.1.boxN a S hS w'' hF,(hl y hy).1.2.boxN a S hS w'' hF⟩,(boxn Q (fun _ _ hS hF=>NfOk.nrb (hl y hy).2 hS hF)) S hS w'' hF⟩
 exact⟨⟨x,c⟩,rfl,Q,fun S hS w'' hF=>⟨h.x1.boxN a S hS w'' hF,b h.x2 S hS w'' hF,h.s1.boxN a S hS w'' hF,b h.s2 S hS w'' hF,h.y1.boxN a S hS w'' hF,fun y hy=>(boxn Q (fun _ _ hS hF=>zN.nrb (h.y2 y hy) hS hF)) S hS w'' hF⟩⟩
theorem Zd5 (A:qA)(l c:Nat)(zs:List Int)(s:ByteArray)(bits:Int)(L:World)(z:Glob L)(hz:zs.length=l)(j:jE L A zs)(k0:l≤c) :
 yA 3 #[.slice A l c,.string s,.int .i64 bits] L (RetV L (.bool true)):=by
 refine zV func3 rfl qK (fun w' hf=>trivial) ?_
 refine yY (xq 1 [yB 6 false] [] ?_)
 refine yZ (yY (xq 1 [eS1 15 A l c] [] ?_))
 refine xqc _ _ 16 (fun x:{τ:Tap // TOld L τ∧0≤τ.g}=>.pointer (some ⟨x.1.g,0,none⟩)) _ (fun w R Q=>(Zro A l c zs L _ 0 j hz k0 R (uT _)).mono (fun _ _ h=>h)) fun⟨τ,hO,_⟩=>?_
 refine SXi.size (fun k=>τ.g<k) (fun w R Q=>TOk.lt Q.2) fun k M=>?_
 have y0:=M
 have z0:L.heap.size≤k:=uD (TOld.new hO) (qZ M)
 refine xr 0 [yT 1 s,yJ 2 bits,yB 6 false,(16,.v (.pointer (some ⟨τ.g,0,none⟩)))] [] ?_
 refine iV (d:=17) 6 [.pointer (some ⟨τ.g,0,none⟩), yI 1, yI 0] (fun x:{x:Sdp // (SdpT) x}=>(fun p=>.agg #[.slice p.bA p.bs.length p.bc, yI p.free,.slice p.oA p.os.length p.oc,.slice p.fA p.fs.length p.fc,.slice p.eA p.qs.length p.ec]) x.1) (fun w=>k≤w.heap.size) (fun x w=>TOk τ w∧(fun p w=>SdpOk k w p) x.1 w) (fun w Q=>TOk.cell Q.1.2) (Or.inl (TOld.new hO)) (fun w R Q=>(Zkw τ L _ hO R Q.1.2 0 qD).mono (fun _ _ h=>gS h (fun x hF h=>SdpOk.boxT h hF Q.2))) (fun w w2 R Q hF=>uD Q.2 hF.size) fun⟨p,f⟩=>?_
 have A0:p.qs.length≤5:=f.2.1
 refine xP ?_
 refine xq 2 [Δ 7] [(7,27,[Λ p.bA p.bs.length p.bc,Γ p.free,Λ p.oA p.os.length p.oc,Λ p.fA p.fs.length p.fc,Λ p.eA p.qs.length p.ec])] ?_
 refine yZ (zD (yY (xq 3 [yB 20 (decide (((s).size:Int)>60))] [] ?_)))
 refine xe (zB ?_)
 refine yQ ((decide (((s).size:Int)>60))) (fun o=>?_) fun o=>?_
 ·have B0:=uB o
  refine zD (zC ?_)
  refine xqc 7 [] 21 (fun _:Unit=>.bool true) _ (fun w R Q=>yN (bH _ (z.ext R))) fun i=>?_
  refine xq 1 [yB 6 true] [] ?_
  refine yZ (zJ (zM ?_))
  refine yR (.bool true) fun w' R Q=>?_
  exact⟨rfl,R⟩
 have C0:=uC o
 refine zG (zB (zD ?_))
 have B:(bytes s).length≤570:=by rw[zT];omega
 rcases Zsy p s bits with a|⟨v,a,q⟩|⟨v,a,q,r⟩|⟨v,b,a,q,r,rfl,Z,C⟩
 ·refine zC (xq 3 [(23,.v (.agg #[.slice p.bA p.bs.length p.bc, yI p.free,.slice p.oA p.os.length p.oc,.slice p.fA p.fs.length p.fc,.slice p.eA p.qs.length p.ec])),yT 24 s,yJ 25 bits] [] ?_)
  refine xqc _ _ 26 (fun _:Unit=>.tuple #[.agg #[Ξ,Ξ,Ξ], yI 1]) _ (fun w R Q=>yN (Zd4 k p s bits 1 _ (z.ext R) Q.2.2 f.1 B qO (Or.inl ⟨by rw[a];rfl,rfl⟩))) fun i=>?_
  refine xq 6 [Δ 8,yJ 9 1] [(8,35,[Ω,Ω,Ω])] ?_
  refine yZ (yY (xq 1 [yT 30 s] [] ?_))
  refine xqc _ _ 31 (fun x:ShQ=>.tuple #[iF x,.bool false]) _ (fun w R Q=>(ZbF s _ qO).mono (fun _ _ h=>Zgl h a)) fun⟨l0,m0,n0,o0,p0,q0,r0,t0⟩=>?_
  refine xq 6 [Δ 10,yB 11 false] [bR4 10 43 l0 m0 n0 o0 p0 q0 r0 t0] ?_
  refine yZ (zD (yY (xq 7 [yB 40 true] [] ?_)))
  refine yZ (xa (zD (zC ?_)))
  refine xqc 7 [] 41 (fun _:Unit=>.bool true) _ (fun w R Q=>yN (bH _ (z.ext R))) fun i=>?_
  refine xq 7 [yB 46 true,(47,.v (.agg #[Ξ,Ξ,Ξ])),(48,.v (.agg #[Ξ,Ξ,Ξ]))] [] ?_
  refine xqc _ _ 49 (fun _:Unit=>.bool true) _ (fun w R Q=>yN (ZbP 0 0 default default _ ItOk.nil ItOk.nil (FmEq.of rfl (fun _ h=>nomatch h)) (FmEq.of rfl (fun _ h=>nomatch h)) rfl (uT _) (uT _) (uT _))) fun i=>?_
  refine xq 2 [yB 6 true] [] ?_
  refine yZ (zJ (zM ?_))
  refine yR (.bool true) fun w' R Q=>?_
  exact⟨rfl,R⟩
 ·have n:=jS a
  refine zC (xq 3 [(23,.v (.agg #[.slice p.bA p.bs.length p.bc, yI p.free,.slice p.oA p.os.length p.oc,.slice p.fA p.fs.length p.fc,.slice p.eA p.qs.length p.ec])),yT 24 s,yJ 25 bits] [] ?_)
  refine xqc _ _ 26 (fun _:Unit=>.tuple #[.agg #[Ξ,Ξ,Ξ], yI 1]) _ (fun w R Q=>yN (Zd4 k p s bits 1 _ (z.ext R) Q.2.2 f.1 B qO (Or.inr (Or.inl ⟨by rw[a];rfl,by rw[n];exact q,rfl⟩)))) fun i=>?_
  refine xq 6 [Δ 8,yJ 9 1] [(8,35,[Ω,Ω,Ω])] ?_
  refine yZ (yY (xq 1 [yT 30 s] [] ?_))
  refine xqc _ _ 31 (fun x:ShQ=>.tuple #[iF x,.bool true]) _ (fun w R Q=>(ZbF s _ qO).mono (fun _ _ h=>aR h a)) fun⟨a0,b0,c0,d0,t12,e0,f0,g0⟩=>?_
  refine xq 6 [Δ 10,yB 11 true] [bR4 10 43 a0 b0 c0 d0 t12 e0 f0 g0] ?_
  refine yZ (zD (yY (xq 4 [yB 36 false,eR4 37 a0 b0 c0 d0 t12 e0 f0 g0] [] ?_)))
  refine xqc _ _ 38 (fun _:Unit=>yI v.num.sign) _ (fun w R Q=>yN (cS _ _ _ Q.2)) fun i=>?_
  refine xq 1 [yB 39 (decide (v.num.sign≤0))] [] ?_
  rw[(show decide (v.num.sign≤0)=true from vP qO)]
  refine xq 1 [yB 40 true] [] ?_
  refine yZ (xa (zD (zC ?_)))
  refine xqc 7 [] 41 (fun _:Unit=>.bool true) _ (fun w R Q=>yN (bH _ (z.ext R))) fun i=>?_
  refine xq 7 [yB 46 true,(47,.v (.agg #[Ξ,Ξ,Ξ])),(48,.v (.agg #[Ξ,Ξ,Ξ]))] [] ?_
  refine xqc _ _ 49 (fun _:Unit=>.bool true) _ (fun w R Q=>yN (ZbP 0 0 default default _ ItOk.nil ItOk.nil (FmEq.of rfl (fun _ h=>nomatch h)) (FmEq.of rfl (fun _ h=>nomatch h)) rfl (uT _) (uT _) (uT _))) fun i=>?_
  refine xq 2 [yB 6 true] [] ?_
  refine yZ (zJ (zM ?_))
  refine yR (.bool true) fun w' R Q=>?_
  exact⟨rfl,R⟩
 ·have n:=jS a
  refine zC (xq 3 [(23,.v (.agg #[.slice p.bA p.bs.length p.bc, yI p.free,.slice p.oA p.os.length p.oc,.slice p.fA p.fs.length p.fc,.slice p.eA p.qs.length p.ec])),yT 24 s,yJ 25 bits] [] ?_)
  refine xqc _ _ 26 (fun _:Unit=>.tuple #[.agg #[Ξ,Ξ,Ξ], yI (lR p bits)]) _ (fun w R Q=>yN (Zd4 k p s bits (lR p bits) _ (z.ext R) Q.2.2 f.1 B qO (Or.inr (Or.inr ⟨by rw[a];rfl,by rw[n];exact q,rfl,r⟩)))) fun i=>?_
  refine xq 6 [Δ 8,yJ 9 (lR p bits)] [(8,35,[Ω,Ω,Ω])] ?_
  refine yZ (yY (xq 1 [yT 30 s] [] ?_))
  refine xqc _ _ 31 (fun x:ShQ=>.tuple #[iF x,.bool true]) _ (fun w R Q=>(ZbF s _ qO).mono (fun _ _ h=>aR h a)) fun⟨N,O,P,S,t13,T,U,V⟩=>?_
  refine xq 6 [Δ 10,yB 11 true] [bR4 10 43 N O P S t13 T U V] ?_
  refine yZ (zD (yY (xq 4 [yB 36 false,eR4 37 N O P S t13 T U V] [] ?_)))
  refine xqc _ _ 38 (fun _:Unit=>yI v.num.sign) _ (fun w R Q=>yN (cS _ _ _ Q.2)) fun i=>?_
  refine xq 1 [yB 39 (decide (v.num.sign≤0))] [] ?_
  rw[(show decide (v.num.sign≤0)=false from uR qO)]
  refine xq 1 [yB 40 false] [] ?_
  refine yZ (xb (zG (zB (zD (yY (xq 2 [(51,.v (.agg #[.slice p.bA p.bs.length p.bc, yI p.free,.slice p.oA p.os.length p.oc,.slice p.fA p.fs.length p.fc,.slice p.eA p.qs.length p.ec])),yJ 52 bits] [] ?_))))))
  refine xqc _ _ 53 (fun _:Unit=>yI (lR p bits)) _ (fun w R Q=>yN (ZhS p bits _ qO)) fun i=>?_
  refine xq 1 [yJ 12 (lR p bits)] [] ?_
  refine yZ (yY (xq 2 [yB 55 (((lR p bits):Int) != 0)] [] ?_))
  rw[(show (lR p bits != 0)=true from bne_iff_ne.2 r)]
  refine xr 0 [yJ 2 bits,yB 6 false,Δ 7,Δ 8,yJ 9 (lR p bits),Δ 10,yJ 12 (lR p bits),yB 55 true] [bR4 10 43 N O P S t13 T U V,(8,35,[Ω,Ω,Ω]),(7,27,[Λ p.bA p.bs.length p.bc,Γ p.free,Λ p.oA p.os.length p.oc,Λ p.fA p.fs.length p.fc,Λ p.eA p.qs.length p.ec])] ?_
  refine yZ (xa (zD (zC ?_)))
  refine xqc 7 [] 56 (fun _:Unit=>.bool true) _ (fun w R Q=>yN (bH _ (z.ext R))) fun i=>?_
  refine xq 4 [yB 57 true,yB 60 (((lR p bits):Int) == (lR p bits))] [] ?_
  rw[(show (lR p bits == lR p bits)=true by simp)]
  refine xq 4 [yB 62 true,(63,.v (.agg #[Ξ,Ξ,Ξ])),(64,.v (.agg #[Ξ,Ξ,Ξ]))] [] ?_
  refine xqc _ _ 65 (fun _:Unit=>.bool true) _ (fun w R Q=>yN (ZbP 0 0 default default _ ItOk.nil ItOk.nil (FmEq.of rfl (fun _ h=>nomatch h)) (FmEq.of rfl (fun _ h=>nomatch h)) rfl (uT _) (uT _) (uT _))) fun i=>?_
  refine xq 2 [yB 6 true] [] ?_
  refine yZ (zJ (zM ?_))
  refine yR (.bool true) fun w' R Q=>?_
  exact⟨rfl,R⟩
 have n:=jS a
 have t:=Zsz (s:=s) qO (by rw[a];rfl)
 rw[n] at t
 have W:(rndF v b).err=0:=Zpy qO qO (by have:=Zc0 t.1;omega) (by have:=Zc0 t.2;omega)
 refine zC (xr 3 [yT 1 s,yJ 2 b,yB 6 false,Δ 7,(23,.v (.agg #[.slice p.bA p.bs.length p.bc, yI p.free,.slice p.oA p.os.length p.oc,.slice p.fA p.fs.length p.fc,.slice p.eA p.qs.length p.ec])),yT 24 s,yJ 25 b] [(7,27,[Λ p.bA p.bs.length p.bc,Γ p.free,Λ p.oA p.os.length p.oc,Λ p.fA p.fs.length p.fc,Λ p.eA p.qs.length p.ec])] ?_)
 refine xqc _ _ 26 (fun x:{x:It // Zbj p.bs p.qs.length (ftW (fvR (rndF v b))) (ftW (false,0,0)) x}=>.tuple #[.agg #[.slice x.1.xA x.1.xs.length x.1.xc,.slice x.1.sA x.1.ss.length x.1.sc,.slice x.1.yA x.1.ys.length x.1.yc], yI 0]) _ (fun w R Q=>(ZjK k p s v b _ (z.ext R) Q.2.2 f.1 B qO a (by rw[n];exact q) Z C r W).mono (fun _ _ h=>Zer Q.1 h)) fun⟨u,hu⟩=>?_
 have j:ItV p u:=ZeZ f.1 (Zsr qO qO W) Zp7 hu
 refine xq 6 [Δ 8,yJ 9 0] [(8,35,[Λ u.xA u.xs.length u.xc,Λ u.sA u.ss.length u.sc,Λ u.yA u.ys.length u.yc])] ?_
 refine yZ (yY (xq 1 [yT 30 s] [] ?_))
 refine xqc _ _ 31 (fun x:ShQ=>.tuple #[iF x,.bool true]) _ (fun w R Q=>(ZbF s _ qO).mono (fun _ _ h=>aR h a)) fun⟨D,E,F,G,H,I,J,K⟩=>?_
 refine xq 6 [Δ 10,yB 11 true] [bR4 10 43 D E F G H I J K] ?_
 refine yZ (zD (yY (xq 4 [yB 36 false,eR4 37 D E F G H I J K] [] ?_)))
 refine xqc _ _ 38 (fun _:Unit=>yI v.num.sign) _ (fun w R Q=>yN (cS _ _ _ Q.2)) fun i=>?_
 refine xq 1 [yB 39 (decide (v.num.sign≤0))] [] ?_
 rw[(show decide (v.num.sign≤0)=false from uR qO)]
 refine xq 1 [yB 40 false] [] ?_
 refine yZ (xb (zG (zB (zD (yY (xq 2 [(51,.v (.agg #[.slice p.bA p.bs.length p.bc, yI p.free,.slice p.oA p.os.length p.oc,.slice p.fA p.fs.length p.fc,.slice p.eA p.qs.length p.ec])),yJ 52 b] [] ?_))))))
 refine xqc _ _ 53 (fun _:Unit=>yI 0) _ (fun w R Q=>(ZhS p (b:Int) _ qO).mono (fun _ _ h=>zI h (by rw[r]))) fun i=>?_
 refine xq 1 [yJ 12 0] [] ?_
 refine yZ (yY (xq 2 [yB 55 false] [] ?_))
 refine yZ (xb (zG (zB (yY (xq 3 [(68,.v (.agg #[.slice p.bA p.bs.length p.bc, yI p.free,.slice p.oA p.os.length p.oc,.slice p.fA p.fs.length p.fc,.slice p.eA p.qs.length p.ec])),eR4 69 D E F G H I J K,yJ 70 b] [] ?_)))))
 refine xqc _ _ 71 (fun x:{x:Rs // RsP p.bs p.qs.length (sg (rndF v b).s (rndF v b).m,(rndF v b).e) x}=>.tuple #[.agg #[.slice x.1.xA x.1.xs.length x.1.xc,.slice x.1.sA x.1.ss.length x.1.sc,.slice x.1.yA x.1.ys.length x.1.yc], yI 0]) _ (fun w R Q=>(ZmA k p D E F G H I J K v b _ Q.1.1.1.1.2.2 f.1 Q.1.1.2 ⟨uD t.1 qD,uD t.2 qD⟩ Z C W).mono (fun _ _ h=>ZrE Q.1.1.1.1.1 h)) fun⟨x,X⟩=>?_
 have h0:=Zlz X.1 f.1.b1 (Zqa C (Zp9 qO))
 have i0:=Zlz X.2.1 f.1.b1 (Zqa C (Zp9 qO))
 have j0:x.xs.length=p.bs.length:=by have:=uX List.length X.1;rwa [uL,uL] at this
 have u0:x.ss.length=p.bs.length:=by have:=uX List.length X.2.1;rwa [uL,uL] at this
 have v0:x.ys.length=p.qs.length:=by rw[X.2.2,tH]
 refine xq 6 [Δ 13,yJ 14 0] [(13,52,[Λ x.xA x.xs.length x.xc,Λ x.sA x.ss.length x.sc,Λ x.yA x.ys.length x.yc])] ?_
 refine yZ (zD ?_)
 refine SXc.weak [yB 6 false,Δ 7,Δ 8,yJ 9 0,Δ 13,yJ 14 0] [(13,52,[Λ x.xA x.xs.length x.xc,Λ x.sA x.ss.length x.sc,Λ x.yA x.ys.length x.yc]),(8,35,[Λ u.xA u.xs.length u.xc,Λ u.sA u.ss.length u.sc,Λ u.yA u.ys.length u.yc]),(7,27,[Λ p.bA p.bs.length p.bc,Γ p.free,Λ p.oA p.os.length p.oc,Λ p.fA p.fs.length p.fc,Λ p.eA p.qs.length p.ec])] (kQ.of qK) qK (fun _ h=>h) ?_
 refine kR 18 [0,1,3,3,15,31,63,127,127,383,1023,2047,4095,8191,8191,32767,65535,131071] qK qK zQ ?_
 refine xqd 7 [] 74 (fun _:Unit=>.bool true) _ (fun w R Q=>yN (bH _ (z.ext R))) fun i=>?_
 refine xqg 8 [yB 80 true,(81,.v (.agg #[.slice u.xA u.xs.length u.xc,.slice u.sA u.ss.length u.sc,.slice u.yA u.ys.length u.yc])),(82,.v (.agg #[.slice x.xA x.xs.length x.xc,.slice x.sA x.ss.length x.sc,.slice x.yA x.ys.length x.yc]))] ?_
 refine xqd _ _ 83 (fun y:{y:It // y.xs.map fmT=x.xs.map mmT∧y.ss.map fmT=x.ss.map mmT∧y.ys=x.ys.map ftE}=>.agg #[.slice y.1.xA y.1.xs.length y.1.xc,.slice y.1.sA y.1.ss.length y.1.sc,.slice y.1.yA y.1.ys.length y.1.yc]) _ (fun w R Q=>(Zky k x.xA x.sA x.yA x.xc x.sc x.yc x.xs x.ss x.ys _ Q.1.2.x1 Q.1.2.x2 Q.1.2.s1 Q.1.2.s2 Q.1.2.y1 Q.1.2.y2 (by rw[u0,j0]) (by rw[j0];have:=f.2.2.2.2.1;omega) (by rw[v0];omega) h0.1 i0.1 (fun y h=>by rw[X.2.2] at h;rw[(rE.1 h).2];exact uD (nB ZjQ) (uT _))).mono (fun _ _ h=>Zer Q.1.1.1.1.1.1.1 h)) fun⟨wr,Y⟩=>?_
 refine xqd _ _ 84 (fun _:Unit=>.bool true) _ (fun w R Q=>yN (ZbP k k u wr _ Q.1.1.1.1.1.1.2 Q.2 (ZlA hu.1 Y.1 h0.2 j.xV) (ZlA hu.2.1 Y.2.1 i0.2 j.sV) (ZsA hu.2.2 Y.2.2 X.2.2) (by rw[j.x0];have:=f.2.2.2.2.1;omega) (by rw[j.s0];have:=f.2.2.2.2.1;omega) (by rw[j.yl];omega))) fun i=>?_
 refine xqg 4 [yB 86 true,(87,.v (.agg #[.slice p.bA p.bs.length p.bc, yI p.free,.slice p.oA p.os.length p.oc,.slice p.fA p.fs.length p.fc,.slice p.eA p.qs.length p.ec])),(88,.v (.agg #[.slice u.xA u.xs.length u.xc,.slice u.sA u.ss.length u.sc,.slice u.yA u.ys.length u.yc]))] ?_
 refine xqd _ _ 89 (fun _:Unit=>.bool true) _ (fun w R Q=>yN (ZbX k k p u.xA u.sA u.yA u.xc u.sc u.yc u.xs u.ss u.ys _ (z.ext R) Q.1.1.1.1.1.1.1.1.2.2 f.1 Q.1.1.1.1.1.1.1.2.x1 Q.1.1.1.1.1.1.1.2.x2 Q.1.1.1.1.1.1.1.2.s1 Q.1.1.1.1.1.1.1.2.s2 Q.1.1.1.1.1.1.1.2.y1 j.x0 j.s0 j.xd j.sd j.xV j.sV j.yl j.yV)) fun i=>?_
 refine xqg 2 [yB 6 true] ?_
 refine xz (yZ (zJ ?_))
 refine yR (.bool true) fun w' R Q=>?_
 exact⟨rfl,R⟩
end Go.Proofs.YtdlgidnkmbklcaaGreatDoor
