/-
 My texts.
-/
import Derived.Test.YtenchljfmfgeoaaGreatDoorProg
import Derived.Test.YtenchljfmfgeoaaGreatDoorW00
import Derived.Test.YtenchljfmfgeoaaGreatDoorW01
set_option maxRecDepth 100000
set_option maxHeartbeats 8000000
namespace Go.Proofs.YtenchljfmfgeoaaGreatDoor
open Go.RowKit Tryz
noncomputable def W64:Nat:=Classical.choose (p:=fun n:Nat=>n=18446744073709551616) ⟨_,rfl⟩
theorem zL:W64=18446744073709551616:=pL (p:=fun n:Nat=>n=18446744073709551616) ⟨_,rfl⟩
theorem zJ:0<W64:=by have:=zL;omega
theorem fK:1<W64:=by have:=zL;omega
theorem Zj9:2≤W64:=by have:=zL;omega
noncomputable def xE (x y c:Nat):Nat:=(x+y+c)%W64
noncomputable def xL (x y c:Nat):Nat:=(x+y+c)/W64
noncomputable def lN (x y c:Nat):Nat:=(x+W64-y-c)%W64
def lO (x y c:Nat):Nat:=if x<y+c then 1 else 0
theorem fD (x y c:Nat):xE x y c+W64*xL x y c=x+y+c:=by
 unfold xE xL
 exact sB _ _
theorem eY (x y c:Nat):xE x y c<W64:=uM _ zJ
theorem Zcn {x y c:Nat}(a:x<W64)(b:y<W64)(d:c≤1):xL x y c≤1:=by
 unfold xL
 rw[zL] at *
 omega
theorem ZaT {x y c:Nat}(a:x<W64)(b:y<W64)(d:c≤1):lN x y c+y+c=x+W64*lO x y c:=by
 unfold lN lO
 rw[zL] at *
 split<;>omega
theorem aD (x y c:Nat):lN x y c<W64:=uM _ zJ
theorem Zco (x y c:Nat):lO x y c≤1:=by unfold lO;split<;>omega
theorem gT (x y c:Nat)(a:c≤1)(w:World) :
 (callFunc 162 #[.int .u64 (x:Int),.int .u64 (y:Int),.int .u64 (c:Int)]).run prog w=.ok (.value (.tuple #[.int .u64 (xE x y c:Nat),.int .u64 (xL x y c:Nat)])) w:=by
 rw[run_callFunc_extern (fn:=Tryz.f162) qK qK qK qK (e:=add64Entry) qK,run_add64 x y c qO qO qO qO]
 simp only[Result.andThen,xE,xL,zL]
 congr 5<;>omega
def Zfn:Array Value→Sem Value:=fun args=>do
 let (x, y, b) ← Extern.MathBitsCarry.three "Sub64" args
 pure (Extern.MathBitsCarry.pair ((x+Extern.MathBitsCarry.m64-y-b)%Extern.MathBitsCarry.m64) (if x<y+b then 1 else 0))
theorem Zmd {P:Program}(x y b:Nat)(a:b≤1)(w:World) :
 (Zfn #[.int .u64 x,.int .u64 y,.int .u64 b]).run P w =
 .ok (.tuple #[.int .u64 (((x+18446744073709551616-y-b)%18446744073709551616:Nat):Int),.int .u64 ((if x<y+b then 1 else 0:Nat):Int)]) w:=by
 have:b=0∨b=1:=qO
 rcases this with rfl|rfl<;>rfl
theorem gU (x y c:Nat)(a:c≤1)(w:World) :
 (callFunc 172 #[.int .u64 (x:Int),.int .u64 (y:Int),.int .u64 (c:Int)]).run prog w=.ok (.value (.tuple #[.int .u64 (lN x y c:Nat),.int .u64 (lO x y c:Nat)])) w:=by
 rw[run_callFunc_extern (fn:=Tryz.f172) qK qK qK qK (e:=Zfn) qK,Zmd x y c a]
 simp only[Result.andThen,lN,lO,zL]
theorem ZaU (x y:Nat)(w:World) :
 (callFunc 162 #[.int .u64 (x:Int),.int .u64 (y:Int),.int .u64 0]).run prog w=.ok (.value (.tuple #[.int .u64 (xE x y 0:Nat),.int .u64 (xL x y 0:Nat)])) w:=gT x y 0 qO w
theorem Zh0 (x y:Nat)(w:World) :
 (callFunc 172 #[.int .u64 (x:Int),.int .u64 (y:Int),.int .u64 0]).run prog w=.ok (.value (.tuple #[.int .u64 (lN x y 0:Nat),.int .u64 (lO x y 0:Nat)])) w:=gU x y 0 qO w
abbrev yA:=@Calls prog
def wM (xs:List Nat):Nat→Nat
 | 0=>0
 | n+1=>if xs[n]?.getD 0=0 then wM xs n else n+1
theorem gV (xs:qN)(n:Nat):wM xs n≤n:=by
 induction n with
 | zero=>exact uH _
 | succ n ih=>unfold wM;split<;>omega
def wI (xs:List Nat):List Nat:=xs.take (wM xs xs.length)
theorem Zh1 (xs:qN)(n:Nat)(h:n≤xs.length):Trim (xs.take (wM xs n)):=by
 induction n with
 | zero=>intro k a;simp[wM] at a
 | succ n ih =>
  unfold wM
  split
  ·exact ih qO
  rename_i b
  intro k a
  rw[uP] at a
  have:k=n:=qO
  subst this
  rw[tL qO]
  exact b
theorem gF (xs:qN):Trim (wI xs):=Zh1 xs _ (uH _)
theorem Zjq (B:Nat)(xs:qN)(n:Nat)(h:n≤xs.length):val B (xs.take (wM xs n))=val B (xs.take n):=by
 induction n with
 | zero=>rfl
 | succ n ih =>
  unfold wM
  split
  ·rename_i a
   rw[ih qO,zS n qO,a];simp
  rfl
theorem lH (B:Nat)(xs:qN):val B (wI xs)=val B xs:=by
 unfold wI;rw[Zjq B xs _ (uH _),qZ]
theorem wV (xs:qN):(wI xs).length=wM xs xs.length:=by
 unfold wI;rw[uP];have:=gV xs xs.length;omega
theorem iT {B:Nat}{xs:qN}(h:Dig B xs):Dig B (wI xs):=h.take _
theorem fW (A:qA)(xs:qN)(n c:Nat)(w:World)(o:xs.length=n)(h:zD .u64 w A xs)(s:xs.length≤c)(t:xs.length≤1099511627776) :
 yA 189 #[.slice A n c] w fun e w'=>e=.returned (.slice A (wM xs xs.length) c)∧w=w':=by
 subst o
 have H:=zh h
 clear h
 go_enter func189,ntmps189
 go_wp2
 go_loop [3] (fun n=>∃ k:Nat,k≤xs.length∧n=.int .i64 k∧Hid (wM xs xs.length=wM xs k)) (fun n=>(intOf n).toNat)
 case atStart=>exact⟨xs.length,uH _,rfl,rfl⟩
 case round =>
  obtain⟨k,u,rfl,d⟩:=hrel
  by_cases p:0<k
  ·obtain⟨b,q,rfl,v,f⟩:=H.out.at (i:=k-1) qO
   obtain⟨x,g⟩:=yE (xs[k-1]?.getD 0)
   rw[g] at f
   have l:=zh g
   clear g
   by_cases j:x=0
   ·subst j
    go_wp2
    go_round
    case rel =>
     refine⟨k-1,qO,by go_num,?_⟩
     have e:=d.out
     obtain⟨m,rfl⟩:∃ m,k=m+1:=⟨k-1,qO⟩
     rw[wM,uQ (by simpa using l.out)] at e
     exact e
    case measure=>simp[intOf];omega
   have r:(((x:Nat):Int) == 0)=false:=by simpa using j
   go_wp2
   go_ret
   refine⟨?_,rfl⟩
   have e:=d.out
   obtain⟨m,rfl⟩:∃ m,k=m+1:=⟨k-1,qO⟩
   have a:=l.out
   simp only[tH] at a
   rw[wM,uL (by rw[a];exact j)] at e
   rw[e];rfl
  obtain rfl:k=0:=qO
  go_wp2
  go_ret
  exact⟨by rw[d.out];rfl,rfl⟩
theorem set_mid (a mid post:qN)(k v:Nat)(h:k<mid.length):(a ++ mid ++ post).set (a.length+k) v=a ++ mid.set k v ++ post:=by
 rw[vT,qI _ _ qO,Nat.add_sub_cancel_left,List.set_append_left _ _ h,vT]
theorem Zka (a mid b:qN)(k:Nat)(h:k<mid.length):(a ++ mid ++ b)[a.length+k]?.getD 0=mid[k]?.getD 0:=by
 rw[vT,sC qO,Nat.add_sub_cancel_left,rF h]
theorem xJ (B:Nat)(xs:qN)(k v:Nat)(h:k<xs.length):val B ((xs.set k v).take (k+1))=val B (xs.take k)+B^k*v:=by
 rw[zS k (by simpa using h),rH (uH k)]
 simp[h]
def dA (mid ys:List Nat) (k:Nat) (m:List Nat) (c:Nat):Prop :=
 m.length=mid.length∧m.drop k=mid.drop k∧Dig W64 m∧val W64 (m.take k)+W64^k*c=val W64 (mid.take k)+val W64 (ys.take k)
theorem dA.start (mid ys:qN)(h:Dig W64 mid):dA mid ys 0 mid 0:=⟨rfl,rfl,h,qS⟩
theorem dA.at {mid ys m:qN}{k c:Nat}(h:dA mid ys k m c):m[k]?.getD 0=mid[k]?.getD 0:=by
 have:=vK (fun l=>l[0]?.getD 0) h.2.1
 simpa [vJ] using this
theorem dA.step {mid ys m:qN}{k c z y:Nat}(h:dA mid ys k m c)(b:k<mid.length)(d:m[k]?.getD 0=z)(e:ys[k]?.getD 0=y)(a:k<ys.length):dA mid ys (k+1) (m.set k (xE z y c)) (xL z y c):=by
 have f:mid[k]?.getD 0=z:=h.at.symm.trans d
 obtain⟨g,i,j,l⟩:=h
 refine⟨by simpa using g,?_,j.set k (eY _ _ _),?_⟩
 ·rw[tC qO,← vU,← vU,i]
 rw[xJ _ _ _ _ qO,zS k b,zS k a,f,e,uN]
 exact ZaS _ _ _ _ _ _ _ _ _ _ l (fD z y c)
theorem dA.done {mid ys m:qN}{k c:Nat}(h:dA mid ys k m c)(b:ys.length≤k)(d:k≤mid.length)(e:c=0∨k=mid.length):val W64 m+W64^mid.length*c=val W64 mid+val W64 ys:=by
 obtain⟨f,g,i,a⟩:=h
 rw[uA (l:=ys) b] at a
 rcases e with rfl|rfl
 ·rw[xS (xs:=m) k,xS (xs:=mid) k,g,f]
  simp at a ⊢
  omega
 rw[uA qO,uA qO] at a
 exact a
theorem Own.mid {t:TypeId}{w:World}{b:Nat}{a mid c:qN}(h:Own .u64 t w b (a ++ mid ++ c)){k:Nat}(d:k<mid.length):w.cell? ⟨b,a.length+k,none⟩=some (.int .u64 ((mid[k]?.getD 0:Nat):Int)):=by
 rw[h.cell (by simp;omega),Zka _ _ _ _ d]
theorem Own.set_mid {t:TypeId}{w:World}{b:Nat}{a mid c:qN}(h:Own .u64 t w b (a ++ mid ++ c)){k:Nat}(d:k<mid.length)(v:Nat):Own .u64 t (w.setCell ⟨b,a.length+k,none⟩ (.int .u64 (v:Int))) b (a ++ mid.set k v ++ c):=by
 have:=h.set (a.length+k) v (by simp;omega)
 rwa [Go.Proofs.YtenchljfmfgeoaaGreatDoor.set_mid _ _ _ _ _ d] at this
def ZpK (t:TypeId) (b:Nat) (pre post:List Nat) (n:Nat) (Q:List Nat→Prop) (w w':World):Prop :=
 Fr (· = b) w w'∧lM t b w w'∧∃ m,Own .u64 t w' b (pre ++ m ++ post)∧m.length=n∧Dig W64 m∧Q m
end Go.Proofs.YtenchljfmfgeoaaGreatDoor
