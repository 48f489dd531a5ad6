/-
 My texts Rn5, FlW, FexL put together.
-/
import Derived.Test.YtklpdkpcocnglaaGreatDoorX26
import Derived.Test.YtklpdkpcocnglaaGreatDoorX23
import Derived.Test.YtklpdkpcocnglaaGreatDoorX22
set_option maxRecDepth 100000
set_option maxHeartbeats 8000000
namespace Go.Proofs.YtklpdkpcocnglaaGreatDoor
open Go.RowKit
theorem ZaN {s:Bool}{n:Nat}:sg s n=0↔n=0:=by unfold sg;cases s<;>simp
theorem ZhI {s:Bool}{m d bits:Nat}{e:Int}:wN (decide (sg s m<0)) (sg s m).natAbs d e bits=wN s m d e bits:=by
 rw[Zox]
 rcases uI m with rfl|h
 ·rw[jQ,jQ]
 rw[Zm3 h]
theorem Zrd (s t:Bool)(m n:Nat):sg s m*sg t n=sg (s != t) (m*n):=by
 unfold sg;cases s<;>cases t<;>simp[pL,Int.mul_neg]
theorem Zr4 {s t:Bool}{m n d bits:Nat}{e:Int}:wN (decide (sg s m*sg t n<0)) (sg s m*sg t n).natAbs d e bits=wN (s != t) (m*n) d e bits:=by
 rw[Zrd,ZhI]
theorem ZoF {s t:Bool}{m n bits:Nat}{e f:Int}:rsum (sg s m) e (sg t n) f bits=sumR s m e t n f bits:=by
 unfold rsum sumR
 by_cases a:m=0
 ·rw[uL (ZaN.2 a),uL a,ZhI]
 rw[uJ (mt ZaN.1 a),uJ a]
 by_cases b:n=0
 ·rw[uL (ZaN.2 b),uL b,ZhI]
 rw[uJ (mt ZaN.1 b),uJ b]
 unfold addR
 rw[ZcU,ZcU]
theorem Zr5 {s t:Bool}{m n bits:Nat}{e f:Int}:rsum (sg s m) e (-(sg t n)) f bits=sumR s m e (if n=0 then t else !t) n f bits:=by
 rw[←ZoF]
 congr 1
 split
 ·rename_i h;subst h;rw[Zq6];rfl
 unfold sg;cases t<;>simp
section
variable {l l':List UInt8} {x y:Int} {n:Nat}
theorem ZeX (a:fvB l x=true):ldR l x=⟨(zQ l).1,zH (zQ l).2,x,0⟩:=uL a
theorem ZfT (b:fvB l x=true)(a:fvB l' y=true):gZ (ldR l x) (ldR l' y) n=wN (decide (flM l*flM l'<0)) (flM l*flM l').natAbs 1 (x+y) n:=by
 rw[ZeX b,ZeX a];exact Zr4.symm
theorem ZfU (b:fvB l x=true)(a:fvB l' y=true):fQ (ldR l x) (ldR l' y) n=rsum (flM l) x (flM l') y n:=by
 rw[ZeX b,ZeX a];exact ZoF.symm
theorem ZpT (b:fvB l x=true)(a:fvB l' y=true):bK (ldR l x) (ldR l' y) n=rsum (flM l) x (-(flM l')) y n:=by
 rw[ZeX b,ZeX a];exact Zr5.symm
end
end Go.Proofs.YtklpdkpcocnglaaGreatDoor
namespace Go.Proofs.YtklpdkpcocnglaaGreatDoor
def IsX (r:FR) (q:Rat) (n:Nat) (lo hi:Int):Prop:=∃ Z e,frT r=Lib.itoa Z∧frE r=e∧r.err=0∧qv Z e=q∧RF q n Z e∧lo≤e∧e≤hi
theorem ZgW {S low:Int}{n:Nat}(h:blen S.natAbs≤n)(c:0<n)(g:n≤1000)(m : -1000≤low)(o:low≤1000):IsX (wN (decide (S<0)) S.natAbs 1 low n) (qv S low) n (min low 0) (max (low+n) 0):=by
 rcases uI S.natAbs with b|b
 ·have i:S=0:=by omega
  subst i
  rw[show (0:Int).natAbs=0 from rfl,jQ,fF]
  have:=RF.of (z:=0) (x:=0) c (Or.inl ⟨rfl,rfl⟩) (by rw[show (0:Int).natAbs=0 from rfl,jI];omega)
  rw[fF] at this
  exact⟨0,0,rfl,rfl,rfl,fF _,this,by omega,by omega⟩
 rw[←kP _ _ _ c,Zbf h]
 have j:=aH b
 have a:okE (low+tzn S.natAbs):=by constructor<;>omega
 obtain⟨k,d⟩:=Zeu (s:=decide (S<0)) b a
 rw[k]
 rw[Zad] at d
 obtain⟨l,p⟩:=kZ b
 have e:blen (oddM S.natAbs)≤n:=uE (xF.2 (vE (by unfold oddM;exact uZ _ _) (xF.1 (uM (blen S.natAbs))))) h
 have f:=RF.of (z:=sg (decide (S<0)) (oddM S.natAbs)) (x:=low+tzn S.natAbs) c (Or.inr ⟨ZcO l,a⟩) (by rw[Zbh];exact e)
 rw[d] at f
 exact⟨sg (decide (S<0)) (oddM S.natAbs),low+tzn S.natAbs,rfl,rfl,rfl,d,f,by omega,by omega⟩
section
variable {z1 x1 z2 x2:Int}
theorem ZbX {a:FR→FR→Nat→FR}{n:Nat}(b:TF z1 x1)(c:TF z2 x2)(d:8≤n)(e:n≤1024):binR a (Lib.itoa z1) (Lib.itoa z2) x1 x2 (n:Int)=a (ldR (Lib.itoa z1) x1) (ldR (Lib.itoa z2) x2) n:=by
 have f:fvB (Lib.itoa z1) x1=true:=b.rf.fv
 have g:fvB (Lib.itoa z2) x2=true:=c.rf.fv
 unfold binR
 rw[uL ⟨f,g⟩,uL (by omega),tN]
theorem Zp9 (h:TF z1 x1)(j:TF z2 x2):IsX (binR gZ (Lib.itoa z1) (Lib.itoa z2) x1 x2 (200:Nat)) (qv z1 x1*qv z2 x2) 200 (-100) 400:=by
 rw[ZbX h j (by decide) (by decide),ZfT h.rf.fv j.rf.fv,lV,lV,Zah]
 have k:=Zey h.rf.b j.rf.b
 have l:=h.2
 have m:=j.2
 obtain⟨Z,e,a,b,c,d,f,g,i⟩:=ZgW (S:=z1*z2) (low:=x1+x2) (n:=200) (by omega) (by decide) (by decide) (by omega) (by omega)
 exact⟨Z,e,a,b,c,d,f,by omega,by omega⟩
theorem ZoG {n:Nat}(h:TF z1 x1)(j:TF z2 x2)(o:n=200):IsX (rsum z1 x1 z2 x2 n) (qv z1 x1+qv z2 x2) 200 (-100) 400:=by
 subst o
 have x:=h.2
 have y:=j.2
 unfold rsum
 by_cases k:z1=0
 ·rw[uL k,k,fF,Rat.zero_add]
  have m:=j.rf.b
  obtain⟨Z,e,a,b,c,d,f,g,i⟩:=ZgW (S:=z2) (low:=x2) (n:=200) (by omega) (by decide) (by decide) (by omega) (by omega)
  exact⟨Z,e,a,b,c,d,f,by omega,by omega⟩
 rw[uJ k]
 by_cases l:z2=0
 ·rw[uL l,l,fF,Rat.add_zero]
  have m:=h.rf.b
  obtain⟨Z,e,a,b,c,d,f,g,i⟩:=ZgW (S:=z1) (low:=x1) (n:=200) (by omega) (by decide) (by decide) (by omega) (by omega)
  exact⟨Z,e,a,b,c,d,f,by omega,by omega⟩
 rw[uJ l]
 obtain⟨u,p⟩:=uB (show 0≤x1-min x1 x2 by omega)
 obtain⟨v,q⟩:=uB (show 0≤x2-min x1 x2 by omega)
 have r:qv z1 x1=qv (z1*2^u) (min x1 x2):=by rw[ZbM];congr 1;omega
 have s:qv z2 x2=qv (z2*2^v) (min x1 x2):=by rw[ZbM];congr 1;omega
 rw[p,q,tN,tN,r,s,Zko]
 have t:blen (z1*2^u).natAbs≤150:=by
  rw[tE,rG]
  exact cY h.rf.b (by omega)
 have w:blen (z2*2^v).natAbs≤150:=by
  rw[tE,rG]
  exact cY j.rf.b (by omega)
 have m:=Ziu t w
 obtain⟨Z,e,a,b,c,d,f,g,i⟩:=ZgW (S:=z1*2^u+z2*2^v) (low:=min x1 x2) (n:=200) (by omega) (by decide) (by decide) (by omega) (by omega)
 exact⟨Z,e,a,b,c,d,f,by omega,by omega⟩
theorem Zsi (a:TF z1 x1)(b:TF z2 x2):IsX (binR fQ (Lib.itoa z1) (Lib.itoa z2) x1 x2 (200:Nat)) (qv z1 x1+qv z2 x2) 200 (-100) 400:=by
 rw[ZbX a b (by decide) (by decide),ZfU a.rf.fv b.rf.fv,lV,lV]
 exact ZoG a b rfl
theorem Zsj (a:TF z1 x1)(b:TF z2 x2):IsX (binR bK (Lib.itoa z1) (Lib.itoa z2) x1 x2 (200:Nat)) (qv z1 x1-qv z2 x2) 200 (-100) 400:=by
 rw[ZbX a b (by decide) (by decide),ZpT a.rf.fv b.rf.fv,lV,lV,show qv z1 x1-qv z2 x2=qv z1 x1+qv (-z2) x2 by rw[Zkh];grind]
 exact ZoG a b.neg rfl
theorem ZoH (n:Nat):rsum z1 x1 z2 x2 n=rsum z2 x2 z1 x1 n:=by
 unfold rsum
 by_cases b:z1=0
 ·rw[uL b]
  by_cases a:z2=0
  ·rw[uL a,b,a];rfl
  rw[uJ a,uL b]
 rw[uJ b]
 by_cases a:z2=0
 ·rw[uL a,uL a]
 rw[uJ a,uJ a,uJ b,Int.min_comm x2 x1,Int.add_comm (z2*_)]
theorem ZgX {n:Nat}(c:TF z1 x1)(d:TF z2 x2)(a:8≤n)(b:n≤1024):binR fQ (Lib.itoa z2) (Lib.itoa z1) x2 x1 (n:Int)=binR fQ (Lib.itoa z1) (Lib.itoa z2) x1 x2 (n:Int):=by
 rw[ZbX c d a b,ZbX d c a b,ZfU c.rf.fv d.rf.fv,ZfU d.rf.fv c.rf.fv]
 exact ZoH n
theorem ZgY {n:Nat}(c:TF z1 x1)(d:TF z2 x2)(a:8≤n)(b:n≤1024):binR gZ (Lib.itoa z2) (Lib.itoa z1) x2 x1 (n:Int)=binR gZ (Lib.itoa z1) (Lib.itoa z2) x1 x2 (n:Int):=by
 rw[ZbX c d a b,ZbX d c a b,ZfT c.rf.fv d.rf.fv,ZfT d.rf.fv c.rf.fv,Int.mul_comm,Int.add_comm]
theorem ZoI {a t n:Nat}{E:Int}(ha:a%2=1)(i:blen a≤n)(l:0<n)(q:n≤1000)(D:t≤1000)(F : -10000≤E)(G:E≤10000):wN false (a*2^t) 1 E n=⟨false,a,E+t,0⟩:=by
 have m:0<a*2^t:=tV (by omega) (p2 t)
 have c:=Zea (n:=a*2^t) (d:=1) (bits:=n) m (by decide) l
 have e:0<rndM (a*2^t) 1 n:=by have:=c.ml;have:=p2 (n-1);omega
 have r:blen (rndM (a*2^t) 1 n)≤n+1:=xF.2 (vE c.mh (by rw[uO];have:=p2 n;omega))
 have u:=aH e
 have v:=cY (j:=t) i (uM _)
 have o:=jG m
 have f:=Zht (n:=a*2^t) (d:=1) (bits:=n) (k:=rndK (a*2^t) 1 n) (Or.inr rfl)
 have g:blen 1=1:=by decide
 rw[g] at f
 have b:(((a*2^t:Nat):Rat)/((1:Nat):Rat))=(a:Rat)*2^(t:Int):=by
  rw[tH,← eF,show ((1:Nat):Rat)=1 from rfl];grind
 have w:=c.rep l b (rT (xF.1 i))
 rw[b] at w
 have h:okE (E+rndK (a*2^t) 1 n+tzn (rndM (a*2^t) 1 n)):=by constructor<;>omega
 obtain⟨x,p⟩:=Zeu (s:=false) e h
 unfold wN
 rw[uJ (by omega),x]
 obtain⟨y,H⟩:=kZ e
 have z:qv (sg false (rndM (a*2^t) 1 n)) (E+rndK (a*2^t) 1 n)=qv (a:Int) (E+t):=by
  show ((rndM (a*2^t) 1 n:Nat):Rat)*2^_=(a:Rat)*2^_
  rw[cL,cL]
  generalize (2:Rat)^E=P at *
  generalize (2:Rat)^(t:Int)=T at *
  generalize (2:Rat)^rndK (a*2^t) 1 n=U at *
  grind
 rw[z] at p
 obtain⟨A,B⟩:=ZgQ (Or.inr (ZcO y)) (Or.inr (by omega)) p
 have C:oddM (rndM (a*2^t) 1 n)=a:=by
  have:((oddM (rndM (a*2^t) 1 n):Nat):Int)=(a:Int):=A
  omega
 rw[C,B]
theorem Zkp (A:Nat):isq (A*A)=A:=by
 obtain⟨a,b⟩:=eW (A*A)
 rcases rW (isq (A*A)) A with h|h|h
 ·have:=vV (show isq (A*A)+1≤A by omega) (show isq (A*A)+1≤A by omega)
  omega
 ·exact h
 have c:=vV (show A+1≤isq (A*A) by omega) (show A+1≤isq (A*A) by omega)
 have d:A*A<(A+1)*(A+1):=by rw[uU,uN];omega
 omega
theorem ZoJ {M:Nat}{x:Int}(c:M%2=1)(b:blen M≤40)(k : -1000≤x)(l:x≤1000):Zba (M*M) (x+x) 40=⟨false,M,x,0⟩:=by
 have a:M*M%2=1:=by rw[Nat.mul_mod,c]
 have f:blen (M*M)≤80:=by
  refine xF.2 ?_
  have:=qA (xF.1 b) (xF.1 b)
  rwa [←uS] at this
 obtain⟨t,g,i⟩:∃ t:Nat,82≤blen (M*M)+2*t∧blen (M*M)+2*t≤83:=⟨(83-blen (M*M))/2,by omega,by omega⟩
 have d:=bS a (x+x) (bits:=40) (by decide) ((2*t:Nat):Int) (by omega) (by omega) (by omega)
 have e:fq (M*M) 1 (-((2*t:Nat):Int))=(M*2^t)*(M*2^t):=by
  rw[Zas,show 2*t=t+t by omega,uS]
  generalize 2^t=P
  rw[rC]
 have j:jJ (M*M) ((2*t:Nat):Int)=false:=by
  unfold jJ
  rw[e,Zkp]
  exact vF (by rintro (h|h);omega;exact h rfl)
 rw[e,Zkp,j,kP _ _ _ (by decide),show (x+x-((2*t:Nat):Int))/2=x-t by omega,ZoI c b (by decide) (by decide) (by omega) (by omega) (by omega)] at d
 rw[←d]
 congr 1;omega
theorem Zre {z x Z e:Int}(h:TF z x)(i:(Z=0∧e=0)∨(Z%2=1∧okE e))(g:qv Z e=qv z x*qv z x):sqF (Lib.itoa Z) e (40:Nat)=⟨false,z.natAbs,x,0⟩:=by
 have a:fvB (Lib.itoa Z) e=true:=by rw[ZcP];exact uW i
 have v:=h.2
 rw[Zah] at g
 have c:∀ (s:Bool) (m:Nat),(zQ (Lib.itoa Z)).1=s→zH (zQ (Lib.itoa Z)).2=m→sqF (Lib.itoa Z) e (40:Nat)=gE s m e 40:=fun s m o p=>by
  unfold sqF
  rw[uL a,uL (by decide),show ldR (Lib.itoa Z) e=⟨(zQ (Lib.itoa Z)).1,zH (zQ (Lib.itoa Z)).2,e,0⟩ from uL a,o,p]
  rfl
 rcases h.1 with ⟨q,j⟩|d
 ·rw[q,j] at g ⊢
  obtain⟨f,k⟩:=ZgQ (z:=Z) (x:=e) (z':=0) (y:=0) (i.imp id (fun h=>h.1)) (Or.inl ⟨rfl,rfl⟩) g
  rw[c false 0 (by rw[f,jC];decide) (by rw[f,jC,jL];rfl)]
  rw[k]
  rfl
 have r:z*z%2=1:=by rw[Int.mul_emod,d];rfl
 obtain⟨f,k⟩:=ZgQ (z:=Z) (x:=e) (z':=z*z) (y:=x+x) (i.imp id (fun h=>h.1)) (Or.inr r) g
 have l:¬ Z<0:=by rw[f,← Int.natAbs_mul_self' z,← tB];omega
 have t:Z.natAbs=z.natAbs*z.natAbs:=by rw[f,tE]
 have u:z.natAbs%2=1:=by omega
 rw[c false (z.natAbs*z.natAbs) (by rw[jC];exact vF l) (by rw[jC,jL,t]),k]
 unfold gE
 have n:¬ z.natAbs*z.natAbs=0:=by
  have:=tV (show 0<z.natAbs by omega) (show 0<z.natAbs by omega)
  omega
 rw[uJ (by decide),uJ n]
 exact ZoJ u h.rf.b (by omega) (by omega)
end
end Go.Proofs.YtklpdkpcocnglaaGreatDoor
namespace Go.Proofs.YtklpdkpcocnglaaGreatDoor
open Go.RowKit
theorem TF.abs {z x:Int}(h:TF z x):TF ((z.natAbs:Nat):Int) x:=⟨h.1.imp (fun e=>⟨by omega,e.2⟩) (fun e=>by omega),by have:=h.2;omega,h.2.2.1,h.2.2.2⟩
theorem Zdy {z x:Int}(i:blen z.natAbs≤200)(d : -1000≤x)(e:x≤1000):ml (qv z x).num.natAbs≤65536∧ml (qv z x).den≤65536:=by
 by_cases b:z=0
 ·subst b
  rw[fF]
  exact⟨by show ml 0≤65536;exact Zov _,aQ⟩
 obtain⟨o,t,rfl,f,j,l⟩:=Zkn b
 rw[ZbM,← gW]
 by_cases c:0≤x+t
 ·obtain⟨k,a⟩:=uB c
  rw[aR a]
  refine⟨?_,aQ⟩
  show ml (o*2^k).natAbs≤65536
  rw[tE,show ((2:Int)^k).natAbs=2^k by rw[rG];rfl]
  exact dO (cY (n:=200) (by omega) (by omega))
 obtain⟨k,a⟩:=uB (show 0 ≤ -(x+t) by omega)
 obtain⟨g,h⟩:=Zag (k:=k) f
 rw[aS a c,g,h]
 exact⟨dO (by omega),dO (ZaA (by omega))⟩
theorem ZhJ (z z' x y:Int){r:Bool}(h:(!decide (z=z'∧x=y))=r):(!(((⟨(Lib.itoa z).toArray⟩:ByteArray).toList == (⟨(Lib.itoa z').toArray⟩:ByteArray).toList) && (x == y)))=r:=by
 rw[Zl2 z z' x y rfl];exact h
theorem ZhK (A:Option Addr)(l c:Nat)(zs:List Int)(b:Int)(w:World)(o:Glob w)(hn:zs.length=l)(hI:jO w A zs)(Y:l≤c) :
 yA 13 #[.slice A l c,.int .i64 b] w (RetV w (.bool true)):=by
 obtain⟨n0,t0⟩:=yE w.heap.size
 obtain⟨k,hk⟩:=yE (min l 400)
 have c0:=hI.take k
 have e0:(zs.take k).length=k:=by rw[uY];omega
 refine zV (Φ:=fun w=>True) Tryz.func13 rfl (by kernel_rfl) (fun w' hf=>trivial) ?_
 refine zC (zB (xq 1 [yB 4 false] [] ?_))
 refine xe (zA (zC (zB (xq 1 [eS1 24 A l c] [] ?_))))
 refine xqc 47 [.slice A l c] 25 (fun g:Nat=>.pointer (some ⟨g,0,none⟩)) _ (fun w R Q=>(Zl4 A l c _ Y).mono (fun _ _ h=>Zkl (n0:=n0) (by rw[←t0];exact R.size) (by rw[hk] at h;exact h))) fun g=>?_
 refine xq 1 [(5,.v (.pointer (some ⟨g,0,none⟩)))] [] ?_
 refine xe (zA (zC ?_))
 refine SXc.know (p:=n0≤g) (fun w _ Q=>(Q.2).1) fun K1=>?_
 have f0:=c0.apart (g:=g) (by omega)
 refine yC [yJ 1 b,yB 4 false,(5,.v (.pointer (some ⟨g,0,none⟩)))] [] (fun w=>TB w g A k c 0) (fun w Q=>(Q.2).2) ?_
 refine zB (xq 1 [(26,.v (.pointer (some ⟨g,0,none⟩)))] [] ?_)
 refine cZ 48 [.pointer (some ⟨g,0,none⟩)] (d:=27) (fun x:{q:Int×Int×Nat // TF q.1 q.2.1∧q.2.2≤k}=>.agg #[.string ⟨(Lib.itoa x.1.1).toArray⟩,.int .i64 x.1.2.1]) (fun x=>#[.slice A k c,.int .i64 ((x.1.2.2:Nat):Int)]) (fun _ _=>True) (fun _=>True) (fun w Q=>Q) (rS _) (Or.inl (by omega)) (fun w R Q=>yM ZhD (Zdx g A k c 0 _ _ (Q) (by omega) (c0.ext R) e0 (by omega) f0)) (fun _ _ _ _=>trivial) fun s=>?_
 obtain⟨⟨f,x1,u0⟩,a,g0⟩:=s
 dsimp only at a g0
 refine xr 1 [yJ 1 b,yB 4 false,(27,.v (yS ⟨(Lib.itoa f).toArray⟩ x1)),(28,.v (.pointer (some ⟨g,0,none⟩)))] [] ?_
 refine cZ 48 [.pointer (some ⟨g,0,none⟩)] (d:=29) (fun x:{q:Int×Int×Nat // TF q.1 q.2.1∧q.2.2≤k}=>.agg #[.string ⟨(Lib.itoa x.1.1).toArray⟩,.int .i64 x.1.2.1]) (fun x=>#[.slice A k c,.int .i64 ((x.1.2.2:Nat):Int)]) (fun _ _=>True) (fun _=>True) (fun w Q=>Q.1.2) (rS _) (Or.inl (by omega)) (fun w R Q=>yM ZhD (Zdx g A k c u0 _ _ (Q.1.2) (by omega) (c0.ext R) e0 (by omega) f0)) (fun _ _ _ _=>trivial) fun s=>?_
 obtain⟨⟨i,j,L1⟩,e,h0⟩:=s
 dsimp only at e h0
 refine xr 4 [yJ 1 b,yB 4 false,(6,.p 6 0),(7,.p 7 0)] [yG 7 24 ⟨(Lib.itoa i).toArray⟩ j,yG 6 24 ⟨(Lib.itoa f).toArray⟩ x1] ?_
 refine xe (zA (zC ?_))
 have M1:=a.2
 have N1:=e.2
 have I1:=a.rf.len (by decide) (by omega) (by omega)
 have J1:=e.rf.len (by decide) (by omega) (by omega)
 have T:lA (qv f x1):=fW a.rf.b (by decide) (by omega) (by omega)
 have U:lA (qv i j):=fW e.rf.b (by decide) (by omega) (by omega)
 obtain⟨ra,i0⟩:=yE (binR fQ (Lib.itoa f) (Lib.itoa i) x1 j 200)
 have v0:IsX ra (qv f x1+qv i j) 200 (-100) 400:=by rw[←i0];exact Zsi a e
 obtain⟨O,ea,a1,a2,a3,a4,a5,a6,a7⟩:=v0
 have j0:(Lib.itoa O).length≤200:=by have:=jA (z:=O) (k:=4) (by have:=a5.b;omega);omega
 have k0:xA (qv f x1+qv i j)=exT (Lib.itoa O) ea:=by rw[←a4,← gW];exact a5.ex
 have Z:=Zdy (z:=O) (x:=ea) a5.b (by omega) (by omega)
 obtain⟨rb,l0⟩:=yE (binR bK (Lib.itoa f) (Lib.itoa i) x1 j 200)
 have w0:IsX rb (qv f x1-qv i j) 200 (-100) 400:=by rw[←l0];exact Zsj a e
 obtain⟨P,eb,b1,b2,b3,b4,b5,b6,b7⟩:=w0
 have m0:(Lib.itoa P).length≤200:=by have:=jA (z:=P) (k:=4) (by have:=b5.b;omega);omega
 have o0:xA (qv f x1-qv i j)=exT (Lib.itoa P) eb:=by rw[←b4,← gW];exact b5.ex
 have a0:=Zdy (z:=P) (x:=eb) b5.b (by omega) (by omega)
 obtain⟨rc,p0⟩:=yE (binR gZ (Lib.itoa f) (Lib.itoa i) x1 j 200)
 have x0:IsX rc (qv f x1*qv i j) 200 (-100) 400:=by rw[←p0];exact Zp9 a e
 obtain⟨S,ec,c1,c2,c3,c4,c5,c6,c7⟩:=x0
 have Y:(Lib.itoa S).length≤200:=by have:=jA (z:=S) (k:=4) (by have:=c5.b;omega);omega
 have q0:xA (qv f x1*qv i j)=exT (Lib.itoa S) ec:=by rw[←c4,← gW];exact c5.ex
 have b0:=Zdy (z:=S) (x:=ec) c5.b (by omega) (by omega)
 obtain⟨rs,r0⟩:=yE (binR gZ (Lib.itoa f) (Lib.itoa f) x1 x1 200)
 have y0:IsX rs (qv f x1*qv f x1) 200 (-100) 400:=by rw[←r0];exact Zp9 a a
 obtain⟨Zs,es,s1,s2,s3,s4,s5,s6,s7⟩:=y0
 have z0:(Lib.itoa Zs).length≤200:=by have:=jA (z:=Zs) (k:=4) (by have:=s5.b;omega);omega
 have A0:sqF (Lib.itoa Zs) es 40=⟨false,f.natAbs,x1,0⟩:=Zre a s5.c s4
 have d0:TF ((f.natAbs:Nat):Int) x1:=a.abs
 obtain⟨σ,hσ⟩:=yE (cmpL (Lib.itoa ((f.natAbs:Nat):Int)) [48] x1 0)
 have B0:=d0.cmp0
 rw[hσ] at B0
 refine yO 10 zL ?_
 refine xqg 1 [(30,.v (yS ⟨(Lib.itoa f).toArray⟩ x1))] ?_
 refine xqd 22 [yS ⟨(Lib.itoa f).toArray⟩ x1] 31 (fun _:Unit=>.string ⟨(exT (Lib.itoa f) x1).toArray⟩) _ (fun w R Q=>(kK (⟨(Lib.itoa f).toArray⟩:ByteArray) x1 _ (o.ext R) (by rw[zJ];have:=a.len;omega) (fun _=>by have:=a.2;have:=e.2;omega)).mono (fun _ _ h=>zD h (by rw[zJ]))) fun s=>?_
 refine xqd 21 [.string ⟨(exT (Lib.itoa f) x1).toArray⟩] 32 xT _ (fun w R Q=>yM xJ ((show Calls _ _ _ _ (wM _ (qv f x1)) by have h:=aG ⟨(exT (Lib.itoa f) x1).toArray⟩ w (by rw[←zP,zJ];omega);rw[zJ,a.rf.val] at h;exact h))) fun⟨u,B,C,D,t12,E,F,G⟩=>?_
 refine xqg 1 [(33,.v (yS ⟨(Lib.itoa i).toArray⟩ j))] ?_
 refine xqd 22 [yS ⟨(Lib.itoa i).toArray⟩ j] 34 (fun _:Unit=>.string ⟨(exT (Lib.itoa i) j).toArray⟩) _ (fun w R Q=>(kK (⟨(Lib.itoa i).toArray⟩:ByteArray) j _ (o.ext R) (by rw[zJ];have:=e.len;omega) (fun _=>by have:=a.2;have:=e.2;omega)).mono (fun _ _ h=>zD h (by rw[zJ]))) fun s=>?_
 refine xqd 21 [.string ⟨(exT (Lib.itoa i) j).toArray⟩] 35 xT _ (fun w R Q=>yM xJ ((show Calls _ _ _ _ (wM _ (qv i j)) by have h:=aG ⟨(exT (Lib.itoa i) j).toArray⟩ w (by rw[←zP,zJ];omega);rw[zJ,e.rf.val] at h;exact h))) fun⟨H,I,J,K,t13,L,M,N⟩=>?_
 refine xqf 4 [(8,.p 8 0),(9,.p 9 0)] [bR4 9 34 H I J K t13 L M N,bR4 8 34 u B C D t12 E F G,bR4 9 34 false none 0 0 false none 0 0,bR4 8 34 false none 0 0 false none 0 0,yG 7 24 ⟨(Lib.itoa i).toArray⟩ j,yG 6 24 ⟨(Lib.itoa f).toArray⟩ x1] ?_
 refine xz (xe (zA (zC (zB (xq 2 [(37,.v (yS ⟨(Lib.itoa f).toArray⟩ x1)),(38,.v (yS ⟨(Lib.itoa i).toArray⟩ j))] [bR4 9 34 H I J K t13 L M N,bR4 8 34 u B C D t12 E F G] ?_)))))
 refine xqc 46 [yS ⟨(Lib.itoa f).toArray⟩ x1, yS ⟨(Lib.itoa i).toArray⟩ j,.int .i64 200] 39 (fun _:Unit=>.tuple #[yS ⟨(Lib.itoa O).toArray⟩ ea,.int .i64 0]) _ (fun w R Q=>(ZbU (⟨(Lib.itoa f).toArray⟩:ByteArray) (⟨(Lib.itoa i).toArray⟩:ByteArray) x1 j 200 _ (o.ext R) (by rw[zJ];have:=a.len;omega) (by rw[zJ];have:=e.len;omega)).mono (fun _ _ h=>zD h (by rw[zJ,zJ,i0,a1,a2,a3]))) fun s=>?_
 refine xq 6 [(10,.p 10 0),yJ 11 0] [yG 10 24 ⟨(Lib.itoa O).toArray⟩ ea] ?_
 refine xe (zA (zC (zB (xq 2 [(43,.v (yS ⟨(Lib.itoa f).toArray⟩ x1)),(44,.v (yS ⟨(Lib.itoa i).toArray⟩ j))] [] ?_))))
 refine xqc 53 [yS ⟨(Lib.itoa f).toArray⟩ x1, yS ⟨(Lib.itoa i).toArray⟩ j,.int .i64 200] 45 (fun _:Unit=>.tuple #[yS ⟨(Lib.itoa P).toArray⟩ eb,.int .i64 0]) _ (fun w R Q=>(ZpS (⟨(Lib.itoa f).toArray⟩:ByteArray) (⟨(Lib.itoa i).toArray⟩:ByteArray) x1 j 200 _ (o.ext R) (by rw[zJ];have:=a.len;omega) (by rw[zJ];have:=e.len;omega)).mono (fun _ _ h=>zD h (by rw[zJ,zJ,l0,b1,b2,b3]))) fun s=>?_
 refine xq 6 [(12,.p 12 0),yJ 13 0] [yG 12 24 ⟨(Lib.itoa P).toArray⟩ eb] ?_
 refine xe (zA (zC (zB (xq 2 [(49,.v (yS ⟨(Lib.itoa f).toArray⟩ x1)),(50,.v (yS ⟨(Lib.itoa i).toArray⟩ j))] [] ?_))))
 refine xqc 44 [yS ⟨(Lib.itoa f).toArray⟩ x1, yS ⟨(Lib.itoa i).toArray⟩ j,.int .i64 200] 51 (fun _:Unit=>.tuple #[yS ⟨(Lib.itoa S).toArray⟩ ec,.int .i64 0]) _ (fun w R Q=>(Zaz (⟨(Lib.itoa f).toArray⟩:ByteArray) (⟨(Lib.itoa i).toArray⟩:ByteArray) x1 j 200 _ (o.ext R) (by rw[zJ];have:=a.len;omega) (by rw[zJ];have:=e.len;omega)).mono (fun _ _ h=>zD h (by rw[zJ,zJ,p0,c1,c2,c3]))) fun s=>?_
 refine xq 6 [(14,.p 14 0),yJ 15 0] [yG 14 24 ⟨(Lib.itoa S).toArray⟩ ec] ?_
 refine xe (zA (zC (zB (xq 2 [(55,.v (yS ⟨(Lib.itoa f).toArray⟩ x1)),(56,.v (yS ⟨(Lib.itoa f).toArray⟩ x1))] [] ?_))))
 refine xqc 44 [yS ⟨(Lib.itoa f).toArray⟩ x1, yS ⟨(Lib.itoa f).toArray⟩ x1,.int .i64 200] 57 (fun _:Unit=>.tuple #[yS ⟨(Lib.itoa Zs).toArray⟩ es,.int .i64 0]) _ (fun w R Q=>(Zaz (⟨(Lib.itoa f).toArray⟩:ByteArray) (⟨(Lib.itoa f).toArray⟩:ByteArray) x1 x1 200 _ (o.ext R) (by rw[zJ];have:=a.len;omega) (by rw[zJ];have:=a.len;omega)).mono (fun _ _ h=>zD h (by rw[zJ,r0,s1,s2,s3]))) fun s=>?_
 refine xq 6 [(16,.p 16 0),yJ 17 0] [yG 16 24 ⟨(Lib.itoa Zs).toArray⟩ es] ?_
 refine xe (zA (zC (zB (xq 1 [(61,.v (yS ⟨(Lib.itoa Zs).toArray⟩ es))] [] ?_))))
 refine xqc 49 [yS ⟨(Lib.itoa Zs).toArray⟩ es,.int .i64 40] 62 (fun _:Unit=>.tuple #[yS ⟨(Lib.itoa (((f.natAbs:Nat):Int))).toArray⟩ x1,.int .i64 0]) _ (fun w R Q=>(Zez (⟨(Lib.itoa Zs).toArray⟩:ByteArray) es 40 _ (o.ext R) (by rw[zJ];have:=z0;omega)).mono (fun _ _ h=>zD h (by rw[zJ,A0];rfl))) fun s=>?_
 refine xr 6 [yJ 1 b,yB 4 false,(6,.p 6 0),(7,.p 7 0),(8,.p 8 0),(9,.p 9 0),(10,.p 10 0),yJ 11 0,(12,.p 12 0),yJ 13 0,(14,.p 14 0),yJ 15 0,yJ 17 0,(18,.p 18 0),yJ 19 0] [yG 18 24 ⟨(Lib.itoa (((f.natAbs:Nat):Int))).toArray⟩ x1,yG 14 24 ⟨(Lib.itoa S).toArray⟩ ec,yG 12 24 ⟨(Lib.itoa P).toArray⟩ eb,yG 10 24 ⟨(Lib.itoa O).toArray⟩ ea,bR4 9 34 H I J K t13 L M N,bR4 8 34 u B C D t12 E F G,yG 7 24 ⟨(Lib.itoa i).toArray⟩ j,yG 6 24 ⟨(Lib.itoa f).toArray⟩ x1] ?_
 refine xe (zA (zC (zC ?_)))
 by_cases hz:f<0
 ·refine gT 35 [0,1,3,7,15,31,63,127,255,511,1023,2047,4095,8191,16383,32767,65535,131071,262143,524287,524287,2097151,4194303,8388607,8388607,25165823,67108863,134217727,268435455,536870911,1073741823,1073741823,4294967295,8589934591,17179869183] (by kernel_rfl) (by kernel_rfl) zL ?_
  refine xqg 21 [yB 83 false,(84,.v (yS ⟨(Lib.itoa (((f.natAbs:Nat):Int))).toArray⟩ x1)),(85,.v (yS ⟨(Lib.itoa f).toArray⟩ x1))] ?_
  refine xqj 86 (.bool true) (fun w Q=>ZhC (.tmp 84) (.tmp 85) 24 (⟨(Lib.itoa (((f.natAbs:Nat):Int))).toArray⟩:ByteArray) (⟨(Lib.itoa f).toArray⟩:ByteArray) x1 x1 true (by kernel_rfl) (by kernel_rfl) (by kernel_rfl) (ZhJ _ _ _ _ (by rw[vF (p:=_∧_) (fun h=>by omega)];rfl))) ?_
  refine xqg 3 [yB 87 true,(88,.v (yS ⟨(Lib.itoa (((f.natAbs:Nat):Int))).toArray⟩ x1)),(89,.v (yS ⟨(Lib.itoa f).toArray⟩ x1))] ?_
  refine xqd 36 [yS ⟨(Lib.itoa f).toArray⟩ x1] 90 (fun _:Unit=>.agg #[.string ⟨(Lib.itoa ((-f))).toArray⟩,.int .i64 x1]) _ (fun w R Q=>(Zkg (⟨(Lib.itoa f).toArray⟩:ByteArray) x1 _ (by rw[zJ];have:=a.len;omega)).mono (fun _ _ h=>zD h (by rw[zJ,a.zfl,uL a.fv]))) fun s=>?_
  refine xqj 91 (.bool false) (fun w Q=>ZhC (.tmp 88) (.tmp 90) 24 (⟨(Lib.itoa (((f.natAbs:Nat):Int))).toArray⟩:ByteArray) (⟨(Lib.itoa ((-f))).toArray⟩:ByteArray) x1 x1 false (by kernel_rfl) (by kernel_rfl) (by kernel_rfl) (ZhJ _ _ _ _ (by rw[uW (p:=_∧_) ⟨by omega,rfl⟩];rfl))) ?_
  refine xqg 5 [yB 94 false,(95,.v (yS ⟨(Lib.itoa (((f.natAbs:Nat):Int))).toArray⟩ x1)),(96,.v (yS ⟨#[48]⟩ 0))] ?_
  refine xqd 43 [yS ⟨(Lib.itoa (((f.natAbs:Nat):Int))).toArray⟩ x1, yS ⟨#[48]⟩ 0] 97 (fun _:Unit=>.int .i64 σ) _ (fun w R Q=>(gN (⟨(Lib.itoa (((f.natAbs:Nat):Int))).toArray⟩:ByteArray) ⟨#[48]⟩ x1 0 _ (by rw[zJ];have:=d0.len;omega) (by decide)).mono (fun _ _ h=>zD h (by rw[zJ,show bytes ⟨#[48]⟩=[48] from rfl,hσ]))) fun s=>?_
  refine xqg 1 [yB 98 (decide (σ<0))] ?_
  rw[show decide (σ<(0:Int))=false from vF (by omega)]
  refine xqg 1 [yB 99 false] ?_
  refine xz (xe (zA (xb (zN (zA (zC (zC ?_)))))))
  refine gT 25 [0,1,0,0,15,31,63,127,255,511,255,255,4095,8191,16383,32767,65535,131071,262143,131071,131071,2097151,4194303,8388607,16777215] (by kernel_rfl) (by kernel_rfl) zL ?_
  refine xqg 1 [(100,.v (yS ⟨(Lib.itoa O).toArray⟩ ea))] ?_
  refine xqd 22 [yS ⟨(Lib.itoa O).toArray⟩ ea] 101 (fun _:Unit=>.string ⟨(exT (Lib.itoa O) ea).toArray⟩) _ (fun w R Q=>(kK (⟨(Lib.itoa O).toArray⟩:ByteArray) ea _ (o.ext R) (by rw[zJ];have:=j0;omega) (fun _=>by have:=a.2;have:=e.2;omega)).mono (fun _ _ h=>zD h (by rw[zJ]))) fun s=>?_
  refine xqg 2 [eR4 102 u B C D t12 E F G,eR4 103 H I J K t13 L M N] ?_
  refine xqd 32 [vR4 u B C D t12 E F G,vR4 H I J K t13 L M N] 104 xT _ (fun w R Q=>yM xJ (Za2 _ _ _ _ _ Q.1.1.1.1.1.1.1.1.1.1.2 Q.1.1.1.1.1.1.1.1.2 T U)) fun⟨C0,D0,E0,F0,G0,H0,I0,J0⟩=>?_
  refine xqd 31 [vR4 C0 D0 E0 F0 G0 H0 I0 J0] 105 (fun _:Unit=>.string ⟨(exT (Lib.itoa O) ea).toArray⟩) _ (fun w R Q=>(gJ _ _ _ Q.2 (by rw[←a4];exact Z.1) (by rw[←a4];exact Z.2)).mono (fun _ _ h=>zD h (by rw[k0]))) fun s=>?_
  refine xqg 1 [(106,.v (.bool (!((⟨(exT (Lib.itoa O) ea).toArray⟩:ByteArray).toList == (⟨(exT (Lib.itoa O) ea).toArray⟩:ByteArray).toList))))] ?_
  rw[Zat,pI]
  refine xqg 2 [yB 107 false,(108,.v (yS ⟨(Lib.itoa P).toArray⟩ eb))] ?_
  refine xqd 22 [yS ⟨(Lib.itoa P).toArray⟩ eb] 109 (fun _:Unit=>.string ⟨(exT (Lib.itoa P) eb).toArray⟩) _ (fun w R Q=>(kK (⟨(Lib.itoa P).toArray⟩:ByteArray) eb _ (o.ext R) (by rw[zJ];have:=m0;omega) (fun _=>by have:=a.2;have:=e.2;omega)).mono (fun _ _ h=>zD h (by rw[zJ]))) fun s=>?_
  refine xqg 2 [eR4 110 u B C D t12 E F G,eR4 111 H I J K t13 L M N] ?_
  refine xqd 27 [vR4 u B C D t12 E F G,vR4 H I J K t13 L M N] 112 xT _ (fun w R Q=>yM xJ (eN _ _ _ _ _ Q.1.1.1.1.1.1.1.1.1.1.1.1.1.2 Q.1.1.1.1.1.1.1.1.1.1.1.2 T U)) fun⟨K0,L0,M0,N0,O0,P0,Q0,R0⟩=>?_
  refine xqd 31 [vR4 K0 L0 M0 N0 O0 P0 Q0 R0] 113 (fun _:Unit=>.string ⟨(exT (Lib.itoa P) eb).toArray⟩) _ (fun w R Q=>(gJ _ _ _ Q.2 (by rw[←b4];exact a0.1) (by rw[←b4];exact a0.2)).mono (fun _ _ h=>zD h (by rw[o0]))) fun s=>?_
  refine xqg 1 [(114,.v (.bool (!((⟨(exT (Lib.itoa P) eb).toArray⟩:ByteArray).toList == (⟨(exT (Lib.itoa P) eb).toArray⟩:ByteArray).toList))))] ?_
  rw[Zat,pI]
  refine xqg 3 [yB 116 false,(117,.v (yS ⟨(Lib.itoa S).toArray⟩ ec))] ?_
  refine xqd 22 [yS ⟨(Lib.itoa S).toArray⟩ ec] 118 (fun _:Unit=>.string ⟨(exT (Lib.itoa S) ec).toArray⟩) _ (fun w R Q=>(kK (⟨(Lib.itoa S).toArray⟩:ByteArray) ec _ (o.ext R) (by rw[zJ];have:=Y;omega) (fun _=>by have:=a.2;have:=e.2;omega)).mono (fun _ _ h=>zD h (by rw[zJ]))) fun s=>?_
  refine xqg 2 [eR4 119 u B C D t12 E F G,eR4 120 H I J K t13 L M N] ?_
  refine xqd 29 [vR4 u B C D t12 E F G,vR4 H I J K t13 L M N] 121 xT _ (fun w R Q=>yM xJ (eL _ _ _ _ _ Q.1.1.1.1.1.1.1.1.1.1.1.1.1.1.1.1.2 Q.1.1.1.1.1.1.1.1.1.1.1.1.1.1.2 T U)) fun⟨S0,T0,U0,V0,W0,X0,Y0,Z0⟩=>?_
  refine xqd 31 [vR4 S0 T0 U0 V0 W0 X0 Y0 Z0] 122 (fun _:Unit=>.string ⟨(exT (Lib.itoa S) ec).toArray⟩) _ (fun w R Q=>(gJ _ _ _ Q.2 (by rw[←c4];exact b0.1) (by rw[←c4];exact b0.2)).mono (fun _ _ h=>zD h (by rw[q0]))) fun s=>?_
  refine xqg 1 [(123,.v (.bool (!((⟨(exT (Lib.itoa S) ec).toArray⟩:ByteArray).toList == (⟨(exT (Lib.itoa S) ec).toArray⟩:ByteArray).toList))))] ?_
  rw[Zat,pI]
  refine xqg 1 [yB 124 false] ?_
  refine xz (xe (zA (xb (zN (zA (zC ?_))))))
  obtain⟨v,hv⟩:∃ v:Nat,(b.tmod 50+50).tmod 50=v:=uB (dG b (by decide)).1
  have d1:=(dG b (show (0:Int)<50 by decide)).2
  have e1:=rR b (show (0:Int)<50 by decide)
  have s0:=qD b (show (0:Int)<50 by decide)
  obtain⟨n,f1⟩:=yE (8+v)
  have V:8≤n:=by omega
  have g1:n≤57:=by omega
  obtain⟨r,W⟩:=yE (binR fQ (Lib.itoa f) (Lib.itoa i) x1 j (n:Int))
  obtain⟨m,X⟩:=yE (binR gZ (Lib.itoa f) (Lib.itoa i) x1 j (n:Int))
  refine zB (xr 1 [yJ 1 b,yB 4 false,(6,.p 6 0),(7,.p 7 0),yJ 11 0,yJ 13 0,yJ 15 0,yJ 17 0,yJ 125 b] [yG 7 24 ⟨(Lib.itoa i).toArray⟩ j,yG 6 24 ⟨(Lib.itoa f).toArray⟩ x1] ?_)
  refine xqk 126 (.int .i64 (b.tmod 50)) (fun w R Q=>fG (t:=3) (k:=3) (x:=.tmp 125) (y:=.const (.int .i64 50)) (by decide)) ?_
  refine xq 1 [yJ 127 (IntKind.i64.wrap ((b.tmod 50)+50))] [] ?_
  rw[yW (b.tmod 50+50) (b.tmod 50+50) (by omega)]
  refine xqk 128 (.int .i64 (v:Int)) (fun w R Q=>by rw[←hv];exact fG (t:=3) (k:=3) (x:=.tmp 127) (y:=.const (.int .i64 50)) (by decide)) ?_
  refine xq 1 [yJ 129 (IntKind.i64.wrap (8+(v:Int)))] [] ?_
  rw[yW (8+(v:Int)) ((n:Int)) (by omega)]
  refine xq 1 [yJ 1 (n:Int)] [] ?_
  refine xe (zA (zC (zB (xq 3 [(131,.v (yS ⟨(Lib.itoa f).toArray⟩ x1)),(132,.v (yS ⟨(Lib.itoa i).toArray⟩ j)),yJ 133 (n:Int)] [] ?_))))
  refine xqc 46 [yS ⟨(Lib.itoa f).toArray⟩ x1, yS ⟨(Lib.itoa i).toArray⟩ j,.int .i64 (n:Int)] 134 (fun _:Unit=>.tuple #[yS ⟨(frT r).toArray⟩ (frE r),.int .i64 r.err]) _ (fun w R Q=>(ZbU (⟨(Lib.itoa f).toArray⟩:ByteArray) (⟨(Lib.itoa i).toArray⟩:ByteArray) x1 j ((n:Int)) _ (o.ext R) (by rw[zJ];have:=a.len;omega) (by rw[zJ];have:=e.len;omega)).mono (fun _ _ h=>zD h (by rw[zJ,zJ,W]))) fun s=>?_
  refine xq 6 [yJ 11 r.err,(20,.p 20 0)] [yG 20 24 ⟨(frT r).toArray⟩ (frE r)] ?_
  refine xe (zA (zC (zB (xq 3 [(138,.v (yS ⟨(Lib.itoa i).toArray⟩ j)),(139,.v (yS ⟨(Lib.itoa f).toArray⟩ x1)),yJ 140 (n:Int)] [] ?_))))
  refine xqc 46 [yS ⟨(Lib.itoa i).toArray⟩ j, yS ⟨(Lib.itoa f).toArray⟩ x1,.int .i64 (n:Int)] 141 (fun _:Unit=>.tuple #[yS ⟨(frT r).toArray⟩ (frE r),.int .i64 r.err]) _ (fun w R Q=>(ZbU (⟨(Lib.itoa i).toArray⟩:ByteArray) (⟨(Lib.itoa f).toArray⟩:ByteArray) j x1 ((n:Int)) _ (o.ext R) (by rw[zJ];have:=e.len;omega) (by rw[zJ];have:=a.len;omega)).mono (fun _ _ h=>zD h (by rw[zJ,zJ,ZgX a e V (by omega),W]))) fun s=>?_
  refine xq 6 [yJ 13 r.err,(21,.p 21 0)] [yG 21 24 ⟨(frT r).toArray⟩ (frE r)] ?_
  refine xe (zA (zC (zB (xq 3 [(145,.v (yS ⟨(Lib.itoa f).toArray⟩ x1)),(146,.v (yS ⟨(Lib.itoa i).toArray⟩ j)),yJ 147 (n:Int)] [] ?_))))
  refine xqc 44 [yS ⟨(Lib.itoa f).toArray⟩ x1, yS ⟨(Lib.itoa i).toArray⟩ j,.int .i64 (n:Int)] 148 (fun _:Unit=>.tuple #[yS ⟨(frT m).toArray⟩ (frE m),.int .i64 m.err]) _ (fun w R Q=>(Zaz (⟨(Lib.itoa f).toArray⟩:ByteArray) (⟨(Lib.itoa i).toArray⟩:ByteArray) x1 j ((n:Int)) _ (o.ext R) (by rw[zJ];have:=a.len;omega) (by rw[zJ];have:=e.len;omega)).mono (fun _ _ h=>zD h (by rw[zJ,zJ,X]))) fun s=>?_
  refine xq 6 [yJ 15 m.err,(22,.p 22 0)] [yG 22 24 ⟨(frT m).toArray⟩ (frE m)] ?_
  refine xe (zA (zC (zB (xq 3 [(152,.v (yS ⟨(Lib.itoa i).toArray⟩ j)),(153,.v (yS ⟨(Lib.itoa f).toArray⟩ x1)),yJ 154 (n:Int)] [] ?_))))
  refine xqc 44 [yS ⟨(Lib.itoa i).toArray⟩ j, yS ⟨(Lib.itoa f).toArray⟩ x1,.int .i64 (n:Int)] 155 (fun _:Unit=>.tuple #[yS ⟨(frT m).toArray⟩ (frE m),.int .i64 m.err]) _ (fun w R Q=>(Zaz (⟨(Lib.itoa i).toArray⟩:ByteArray) (⟨(Lib.itoa f).toArray⟩:ByteArray) j x1 ((n:Int)) _ (o.ext R) (by rw[zJ];have:=e.len;omega) (by rw[zJ];have:=a.len;omega)).mono (fun _ _ h=>zD h (by rw[zJ,zJ,ZgY a e V (by omega),X]))) fun s=>?_
  refine xq 6 [yJ 17 m.err,(23,.p 23 0)] [yG 23 24 ⟨(frT m).toArray⟩ (frE m)] ?_
  refine xe (zA (zC (zB ?_)))
  refine xqc 14 [] 158 (fun _:Unit=>.bool true) _ (fun w R Q=>yN (jD _ (o.ext R))) fun s=>?_
  refine xq 4 [yB 159 true,yB 162 ((r.err:Int) == r.err)] [] ?_
  rw[Zdf]
  refine xr 4 [yB 4 false,yJ 15 m.err,yJ 17 m.err,(22,.p 22 0),(23,.p 23 0),yB 164 true,(165,.v (yS ⟨(frT r).toArray⟩ (frE r))),(166,.v (yS ⟨(frT r).toArray⟩ (frE r)))] [yG 23 24 ⟨(frT m).toArray⟩ (frE m),yG 22 24 ⟨(frT m).toArray⟩ (frE m)] ?_
  refine xqk 167 (.bool true) (fun w R Q=>Zbr (.tmp 165) (.tmp 166) 24 ⟨(frT r).toArray⟩ ⟨(frT r).toArray⟩ (frE r) (frE r) true (by kernel_rfl) (by kernel_rfl) (by kernel_rfl) (ZgO _ _)) ?_
  refine xq 5 [yB 169 true,yB 172 ((m.err:Int) == m.err)] [] ?_
  rw[Zdf]
  refine xq 4 [yB 174 true,(175,.v (yS ⟨(frT m).toArray⟩ (frE m))),(176,.v (yS ⟨(frT m).toArray⟩ (frE m)))] [] ?_
  refine xqk 177 (.bool true) (fun w R Q=>Zbr (.tmp 175) (.tmp 176) 24 ⟨(frT m).toArray⟩ ⟨(frT m).toArray⟩ (frE m) (frE m) true (by kernel_rfl) (by kernel_rfl) (by kernel_rfl) (ZgO _ _)) ?_
  refine xq 2 [yB 4 true] [] ?_
  refine xe (zA (zG ?_))
  refine yR (.bool true) fun w' R Q=>?_
  exact⟨rfl,R⟩
 refine gT 35 [0,1,3,7,15,31,63,127,255,511,1023,2047,4095,8191,16383,32767,65535,131071,262143,524287,524287,2097151,4194303,8388607,8388607,25165823,67108863,134217727,268435455,536870911,1073741823,1073741823,4294967295,8589934591,17179869183] (by kernel_rfl) (by kernel_rfl) zL ?_
 refine xqg 21 [yB 83 false,(84,.v (yS ⟨(Lib.itoa (((f.natAbs:Nat):Int))).toArray⟩ x1)),(85,.v (yS ⟨(Lib.itoa f).toArray⟩ x1))] ?_
 refine xqj 86 (.bool false) (fun w Q=>ZhC (.tmp 84) (.tmp 85) 24 (⟨(Lib.itoa (((f.natAbs:Nat):Int))).toArray⟩:ByteArray) (⟨(Lib.itoa f).toArray⟩:ByteArray) x1 x1 false (by kernel_rfl) (by kernel_rfl) (by kernel_rfl) (ZhJ _ _ _ _ (by rw[uW (p:=_∧_) ⟨by omega,rfl⟩];rfl))) ?_
 refine xqg 10 [yB 94 false,(95,.v (yS ⟨(Lib.itoa (((f.natAbs:Nat):Int))).toArray⟩ x1)),(96,.v (yS ⟨#[48]⟩ 0))] ?_
 refine xqd 43 [yS ⟨(Lib.itoa (((f.natAbs:Nat):Int))).toArray⟩ x1, yS ⟨#[48]⟩ 0] 97 (fun _:Unit=>.int .i64 σ) _ (fun w R Q=>(gN (⟨(Lib.itoa (((f.natAbs:Nat):Int))).toArray⟩:ByteArray) ⟨#[48]⟩ x1 0 _ (by rw[zJ];have:=d0.len;omega) (by decide)).mono (fun _ _ h=>zD h (by rw[zJ,show bytes ⟨#[48]⟩=[48] from rfl,hσ]))) fun s=>?_
 refine xqg 1 [yB 98 (decide (σ<0))] ?_
 rw[show decide (σ<(0:Int))=false from vF (by omega)]
 refine xqg 1 [yB 99 false] ?_
 refine xz (xe (zA (xb (zN (zA (zC (zC ?_)))))))
 refine gT 25 [0,1,0,0,15,31,63,127,255,511,255,255,4095,8191,16383,32767,65535,131071,262143,131071,131071,2097151,4194303,8388607,16777215] (by kernel_rfl) (by kernel_rfl) zL ?_
 refine xqg 1 [(100,.v (yS ⟨(Lib.itoa O).toArray⟩ ea))] ?_
 refine xqd 22 [yS ⟨(Lib.itoa O).toArray⟩ ea] 101 (fun _:Unit=>.string ⟨(exT (Lib.itoa O) ea).toArray⟩) _ (fun w R Q=>(kK (⟨(Lib.itoa O).toArray⟩:ByteArray) ea _ (o.ext R) (by rw[zJ];have:=j0;omega) (fun _=>by have:=a.2;have:=e.2;omega)).mono (fun _ _ h=>zD h (by rw[zJ]))) fun s=>?_
 refine xqg 2 [eR4 102 u B C D t12 E F G,eR4 103 H I J K t13 L M N] ?_
 refine xqd 32 [vR4 u B C D t12 E F G,vR4 H I J K t13 L M N] 104 xT _ (fun w R Q=>yM xJ (Za2 _ _ _ _ _ Q.1.1.1.1.1.1.1.1.1.2 Q.1.1.1.1.1.1.1.2 T U)) fun⟨h1,i1,j1,k1,l1,m1,n1,o1⟩=>?_
 refine xqd 31 [vR4 h1 i1 j1 k1 l1 m1 n1 o1] 105 (fun _:Unit=>.string ⟨(exT (Lib.itoa O) ea).toArray⟩) _ (fun w R Q=>(gJ _ _ _ Q.2 (by rw[←a4];exact Z.1) (by rw[←a4];exact Z.2)).mono (fun _ _ h=>zD h (by rw[k0]))) fun s=>?_
 refine xqg 1 [(106,.v (.bool (!((⟨(exT (Lib.itoa O) ea).toArray⟩:ByteArray).toList == (⟨(exT (Lib.itoa O) ea).toArray⟩:ByteArray).toList))))] ?_
 rw[Zat,pI]
 refine xqg 2 [yB 107 false,(108,.v (yS ⟨(Lib.itoa P).toArray⟩ eb))] ?_
 refine xqd 22 [yS ⟨(Lib.itoa P).toArray⟩ eb] 109 (fun _:Unit=>.string ⟨(exT (Lib.itoa P) eb).toArray⟩) _ (fun w R Q=>(kK (⟨(Lib.itoa P).toArray⟩:ByteArray) eb _ (o.ext R) (by rw[zJ];have:=m0;omega) (fun _=>by have:=a.2;have:=e.2;omega)).mono (fun _ _ h=>zD h (by rw[zJ]))) fun s=>?_
 refine xqg 2 [eR4 110 u B C D t12 E F G,eR4 111 H I J K t13 L M N] ?_
 refine xqd 27 [vR4 u B C D t12 E F G,vR4 H I J K t13 L M N] 112 xT _ (fun w R Q=>yM xJ (eN _ _ _ _ _ Q.1.1.1.1.1.1.1.1.1.1.1.1.2 Q.1.1.1.1.1.1.1.1.1.1.2 T U)) fun⟨p1,q1,r1,t1,u1,v1,w1,y1⟩=>?_
 refine xqd 31 [vR4 p1 q1 r1 t1 u1 v1 w1 y1] 113 (fun _:Unit=>.string ⟨(exT (Lib.itoa P) eb).toArray⟩) _ (fun w R Q=>(gJ _ _ _ Q.2 (by rw[←b4];exact a0.1) (by rw[←b4];exact a0.2)).mono (fun _ _ h=>zD h (by rw[o0]))) fun s=>?_
 refine xqg 1 [(114,.v (.bool (!((⟨(exT (Lib.itoa P) eb).toArray⟩:ByteArray).toList == (⟨(exT (Lib.itoa P) eb).toArray⟩:ByteArray).toList))))] ?_
 rw[Zat,pI]
 refine xqg 3 [yB 116 false,(117,.v (yS ⟨(Lib.itoa S).toArray⟩ ec))] ?_
 refine xqd 22 [yS ⟨(Lib.itoa S).toArray⟩ ec] 118 (fun _:Unit=>.string ⟨(exT (Lib.itoa S) ec).toArray⟩) _ (fun w R Q=>(kK (⟨(Lib.itoa S).toArray⟩:ByteArray) ec _ (o.ext R) (by rw[zJ];have:=Y;omega) (fun _=>by have:=a.2;have:=e.2;omega)).mono (fun _ _ h=>zD h (by rw[zJ]))) fun s=>?_
 refine xqg 2 [eR4 119 u B C D t12 E F G,eR4 120 H I J K t13 L M N] ?_
 refine xqd 29 [vR4 u B C D t12 E F G,vR4 H I J K t13 L M N] 121 xT _ (fun w R Q=>yM xJ (eL _ _ _ _ _ Q.1.1.1.1.1.1.1.1.1.1.1.1.1.1.1.2 Q.1.1.1.1.1.1.1.1.1.1.1.1.1.2 T U)) fun⟨A1,B1,C1,D1,E1,F1,G1,H1⟩=>?_
 refine xqd 31 [vR4 A1 B1 C1 D1 E1 F1 G1 H1] 122 (fun _:Unit=>.string ⟨(exT (Lib.itoa S) ec).toArray⟩) _ (fun w R Q=>(gJ _ _ _ Q.2 (by rw[←c4];exact b0.1) (by rw[←c4];exact b0.2)).mono (fun _ _ h=>zD h (by rw[q0]))) fun s=>?_
 refine xqg 1 [(123,.v (.bool (!((⟨(exT (Lib.itoa S) ec).toArray⟩:ByteArray).toList == (⟨(exT (Lib.itoa S) ec).toArray⟩:ByteArray).toList))))] ?_
 rw[Zat,pI]
 refine xqg 1 [yB 124 false] ?_
 refine xz (xe (zA (xb (zN (zA (zC ?_))))))
 obtain⟨v,hv⟩:∃ v:Nat,(b.tmod 50+50).tmod 50=v:=uB (dG b (by decide)).1
 have d1:=(dG b (show (0:Int)<50 by decide)).2
 have e1:=rR b (show (0:Int)<50 by decide)
 have s0:=qD b (show (0:Int)<50 by decide)
 obtain⟨n,f1⟩:=yE (8+v)
 have V:8≤n:=by omega
 have g1:n≤57:=by omega
 obtain⟨r,W⟩:=yE (binR fQ (Lib.itoa f) (Lib.itoa i) x1 j (n:Int))
 obtain⟨m,X⟩:=yE (binR gZ (Lib.itoa f) (Lib.itoa i) x1 j (n:Int))
 refine zB (xr 1 [yJ 1 b,yB 4 false,(6,.p 6 0),(7,.p 7 0),yJ 11 0,yJ 13 0,yJ 15 0,yJ 17 0,yJ 125 b] [yG 7 24 ⟨(Lib.itoa i).toArray⟩ j,yG 6 24 ⟨(Lib.itoa f).toArray⟩ x1] ?_)
 refine xqk 126 (.int .i64 (b.tmod 50)) (fun w R Q=>fG (t:=3) (k:=3) (x:=.tmp 125) (y:=.const (.int .i64 50)) (by decide)) ?_
 refine xq 1 [yJ 127 (IntKind.i64.wrap ((b.tmod 50)+50))] [] ?_
 rw[yW (b.tmod 50+50) (b.tmod 50+50) (by omega)]
 refine xqk 128 (.int .i64 (v:Int)) (fun w R Q=>by rw[←hv];exact fG (t:=3) (k:=3) (x:=.tmp 127) (y:=.const (.int .i64 50)) (by decide)) ?_
 refine xq 1 [yJ 129 (IntKind.i64.wrap (8+(v:Int)))] [] ?_
 rw[yW (8+(v:Int)) ((n:Int)) (by omega)]
 refine xq 1 [yJ 1 (n:Int)] [] ?_
 refine xe (zA (zC (zB (xq 3 [(131,.v (yS ⟨(Lib.itoa f).toArray⟩ x1)),(132,.v (yS ⟨(Lib.itoa i).toArray⟩ j)),yJ 133 (n:Int)] [] ?_))))
 refine xqc 46 [yS ⟨(Lib.itoa f).toArray⟩ x1, yS ⟨(Lib.itoa i).toArray⟩ j,.int .i64 (n:Int)] 134 (fun _:Unit=>.tuple #[yS ⟨(frT r).toArray⟩ (frE r),.int .i64 r.err]) _ (fun w R Q=>(ZbU (⟨(Lib.itoa f).toArray⟩:ByteArray) (⟨(Lib.itoa i).toArray⟩:ByteArray) x1 j ((n:Int)) _ (o.ext R) (by rw[zJ];have:=a.len;omega) (by rw[zJ];have:=e.len;omega)).mono (fun _ _ h=>zD h (by rw[zJ,zJ,W]))) fun s=>?_
 refine xq 6 [yJ 11 r.err,(20,.p 20 0)] [yG 20 24 ⟨(frT r).toArray⟩ (frE r)] ?_
 refine xe (zA (zC (zB (xq 3 [(138,.v (yS ⟨(Lib.itoa i).toArray⟩ j)),(139,.v (yS ⟨(Lib.itoa f).toArray⟩ x1)),yJ 140 (n:Int)] [] ?_))))
 refine xqc 46 [yS ⟨(Lib.itoa i).toArray⟩ j, yS ⟨(Lib.itoa f).toArray⟩ x1,.int .i64 (n:Int)] 141 (fun _:Unit=>.tuple #[yS ⟨(frT r).toArray⟩ (frE r),.int .i64 r.err]) _ (fun w R Q=>(ZbU (⟨(Lib.itoa i).toArray⟩:ByteArray) (⟨(Lib.itoa f).toArray⟩:ByteArray) j x1 ((n:Int)) _ (o.ext R) (by rw[zJ];have:=e.len;omega) (by rw[zJ];have:=a.len;omega)).mono (fun _ _ h=>zD h (by rw[zJ,zJ,ZgX a e V (by omega),W]))) fun s=>?_
 refine xq 6 [yJ 13 r.err,(21,.p 21 0)] [yG 21 24 ⟨(frT r).toArray⟩ (frE r)] ?_
 refine xe (zA (zC (zB (xq 3 [(145,.v (yS ⟨(Lib.itoa f).toArray⟩ x1)),(146,.v (yS ⟨(Lib.itoa i).toArray⟩ j)),yJ 147 (n:Int)] [] ?_))))
 refine xqc 44 [yS ⟨(Lib.itoa f).toArray⟩ x1, yS ⟨(Lib.itoa i).toArray⟩ j,.int .i64 (n:Int)] 148 (fun _:Unit=>.tuple #[yS ⟨(frT m).toArray⟩ (frE m),.int .i64 m.err]) _ (fun w R Q=>(Zaz (⟨(Lib.itoa f).toArray⟩:ByteArray) (⟨(Lib.itoa i).toArray⟩:ByteArray) x1 j ((n:Int)) _ (o.ext R) (by rw[zJ];have:=a.len;omega) (by rw[zJ];have:=e.len;omega)).mono (fun _ _ h=>zD h (by rw[zJ,zJ,X]))) fun s=>?_
 refine xq 6 [yJ 15 m.err,(22,.p 22 0)] [yG 22 24 ⟨(frT m).toArray⟩ (frE m)] ?_
 refine xe (zA (zC (zB (xq 3 [(152,.v (yS ⟨(Lib.itoa i).toArray⟩ j)),(153,.v (yS ⟨(Lib.itoa f).toArray⟩ x1)),yJ 154 (n:Int)] [] ?_))))
 refine xqc 44 [yS ⟨(Lib.itoa i).toArray⟩ j, yS ⟨(Lib.itoa f).toArray⟩ x1,.int .i64 (n:Int)] 155 (fun _:Unit=>.tuple #[yS ⟨(frT m).toArray⟩ (frE m),.int .i64 m.err]) _ (fun w R Q=>(Zaz (⟨(Lib.itoa i).toArray⟩:ByteArray) (⟨(Lib.itoa f).toArray⟩:ByteArray) j x1 ((n:Int)) _ (o.ext R) (by rw[zJ];have:=e.len;omega) (by rw[zJ];have:=a.len;omega)).mono (fun _ _ h=>zD h (by rw[zJ,zJ,ZgY a e V (by omega),X]))) fun s=>?_
 refine xq 6 [yJ 17 m.err,(23,.p 23 0)] [yG 23 24 ⟨(frT m).toArray⟩ (frE m)] ?_
 refine xe (zA (zC (zB ?_)))
 refine xqc 14 [] 158 (fun _:Unit=>.bool true) _ (fun w R Q=>yN (jD _ (o.ext R))) fun s=>?_
 refine xq 4 [yB 159 true,yB 162 ((r.err:Int) == r.err)] [] ?_
 rw[Zdf]
 refine xr 4 [yB 4 false,yJ 15 m.err,yJ 17 m.err,(22,.p 22 0),(23,.p 23 0),yB 164 true,(165,.v (yS ⟨(frT r).toArray⟩ (frE r))),(166,.v (yS ⟨(frT r).toArray⟩ (frE r)))] [yG 23 24 ⟨(frT m).toArray⟩ (frE m),yG 22 24 ⟨(frT m).toArray⟩ (frE m)] ?_
 refine xqk 167 (.bool true) (fun w R Q=>Zbr (.tmp 165) (.tmp 166) 24 ⟨(frT r).toArray⟩ ⟨(frT r).toArray⟩ (frE r) (frE r) true (by kernel_rfl) (by kernel_rfl) (by kernel_rfl) (ZgO _ _)) ?_
 refine xq 5 [yB 169 true,yB 172 ((m.err:Int) == m.err)] [] ?_
 rw[Zdf]
 refine xq 4 [yB 174 true,(175,.v (yS ⟨(frT m).toArray⟩ (frE m))),(176,.v (yS ⟨(frT m).toArray⟩ (frE m)))] [] ?_
 refine xqk 177 (.bool true) (fun w R Q=>Zbr (.tmp 175) (.tmp 176) 24 ⟨(frT m).toArray⟩ ⟨(frT m).toArray⟩ (frE m) (frE m) true (by kernel_rfl) (by kernel_rfl) (by kernel_rfl) (ZgO _ _)) ?_
 refine xq 2 [yB 4 true] [] ?_
 refine xe (zA (zG ?_))
 refine yR (.bool true) fun w' R Q=>?_
 exact⟨rfl,R⟩
end Go.Proofs.YtklpdkpcocnglaaGreatDoor
