/-
 My texts Bits, Words1, PrimeW, ShortS put together.
-/
import Derived.Test.YtenchljfmfgeoaaGreatDoorProg
import Derived.Test.YtenchljfmfgeoaaGreatDoorT00
import Derived.Test.YtenchljfmfgeoaaGreatDoorT01
import Derived.Laws.Externs
import Derived.IntWalk
set_option maxRecDepth 100000
set_option maxHeartbeats 8000000
namespace Go.Proofs.YtenchljfmfgeoaaGreatDoor
open Go.RowKit Tryz
noncomputable def W64:Nat:=Classical.choose (p:=fun n:Nat=>n=18446744073709551616) ⟨_,rfl⟩
theorem zR:W64=18446744073709551616:=rT (p:=fun n:Nat=>n=18446744073709551616) ⟨_,rfl⟩
theorem zI:0<W64:=by have:=zR;omega
theorem gC:1<W64:=by have:=zR;omega
theorem ZhX:2≤W64:=by have:=zR;omega
noncomputable def zX (x y c:Nat):Nat:=(x+y+c)%W64
noncomputable def xD (x y c:Nat):Nat:=(x+y+c)/W64
noncomputable def lD (x y c:Nat):Nat:=(x+W64-y-c)%W64
def lE (x y c:Nat):Nat:=if x<y+c then 1 else 0
theorem iU (x y c:Nat):zX x y c+W64*xD x y c=x+y+c:=by
 unfold zX xD
 exact rD _ _
theorem fD (x y c:Nat):zX x y c<W64:=uP _ zI
theorem Zbg {x y c:Nat}(a:x<W64)(b:y<W64)(d:c≤1):xD x y c≤1:=by
 unfold xD
 rw[zR] at *
 omega
theorem aO {x y c:Nat}(a:x<W64)(b:y<W64)(d:c≤1):lD x y c+y+c=x+W64*lE x y c:=by
 unfold lD lE
 rw[zR] at *
 split<;>omega
theorem dX (x y c:Nat):lD x y c<W64:=uP _ zI
theorem Zbh (x y c:Nat):lE x y c≤1:=by unfold lE;split<;>omega
theorem iN (x y c:Nat)(a:c≤1)(w:World) :
 (callFunc 162 #[.int .u64 (x:Int),.int .u64 (y:Int),.int .u64 (c:Int)]).run prog w=.ok (.value (.tuple #[.int .u64 (zX x y c:Nat),.int .u64 (xD x y c:Nat)])) w:=by
 rw[run_callFunc_extern (fn:=Tryz.f162) qK qK qK qK (e:=add64Entry) qK,run_add64 x y c qO qO qO qO]
 simp only[Result.andThen,zX,xD,zR]
 congr 5<;>omega
def ZdK:Array Value→Sem Value:=fun args=>do
 let (x, y, b) ← Extern.MathBitsCarry.three "Sub64" args
 pure (Extern.MathBitsCarry.pair ((x+Extern.MathBitsCarry.m64-y-b)%Extern.MathBitsCarry.m64) (if x<y+b then 1 else 0))
theorem Zj2 {P:Program}(x y b:Nat)(a:b≤1)(w:World) :
 (ZdK #[.int .u64 x,.int .u64 y,.int .u64 b]).run P w =
 .ok (.tuple #[.int .u64 (((x+18446744073709551616-y-b)%18446744073709551616:Nat):Int),.int .u64 ((if x<y+b then 1 else 0:Nat):Int)]) w:=by
 have:b=0∨b=1:=qO
 rcases this with rfl|rfl<;>rfl
theorem iO (x y c:Nat)(a:c≤1)(w:World) :
 (callFunc 172 #[.int .u64 (x:Int),.int .u64 (y:Int),.int .u64 (c:Int)]).run prog w=.ok (.value (.tuple #[.int .u64 (lD x y c:Nat),.int .u64 (lE x y c:Nat)])) w:=by
 rw[run_callFunc_extern (fn:=Tryz.f172) qK qK qK qK (e:=ZdK) qK,Zj2 x y c a]
 simp only[Result.andThen,lD,lE,zR]
theorem aP (x y:Nat)(w:World) :
 (callFunc 162 #[.int .u64 (x:Int),.int .u64 (y:Int),.int .u64 0]).run prog w=.ok (.value (.tuple #[.int .u64 (zX x y 0:Nat),.int .u64 (xD x y 0:Nat)])) w:=iN x y 0 qO w
theorem Zga (x y:Nat)(w:World) :
 (callFunc 172 #[.int .u64 (x:Int),.int .u64 (y:Int),.int .u64 0]).run prog w=.ok (.value (.tuple #[.int .u64 (lD x y 0:Nat),.int .u64 (lE x y 0:Nat)])) w:=iO x y 0 qO w
abbrev yA:=@Calls prog
def xZ (xs:List Nat):Nat→Nat
 | 0=>0
 | n+1=>if xs[n]?.getD 0=0 then xZ xs n else n+1
theorem fT (xs:qN)(n:Nat):xZ xs n≤n:=by
 induction n with
 | zero=>exact uG _
 | succ n ih=>unfold xZ;split<;>omega
def wU (xs:List Nat):List Nat:=xs.take (xZ xs xs.length)
theorem Zgb (xs:qN)(n:Nat)(h:n≤xs.length):Trim (xs.take (xZ xs n)):=by
 induction n with
 | zero=>intro k a;simp[xZ] at a
 | succ n ih =>
  unfold xZ
  split
  ·exact ih qO
  rename_i b
  intro k a
  rw[uM] at a
  have:k=n:=qO
  subst this
  rw[tQ qO]
  exact b
theorem jW (xs:qN):Trim (wU xs):=Zgb xs _ (uG _)
theorem Zhs (B:Nat)(xs:qN)(n:Nat)(h:n≤xs.length):val B (xs.take (xZ xs n))=val B (xs.take n):=by
 induction n with
 | zero=>rfl
 | succ n ih =>
  unfold xZ
  split
  ·rename_i a
   rw[ih qO,xA n qO,a];simp
  rfl
theorem lA (B:Nat)(xs:qN):val B (wU xs)=val B xs:=by
 unfold wU;rw[Zhs B xs _ (uG _),pE]
theorem lH (xs:qN):(wU xs).length=xZ xs xs.length:=by
 unfold wU;rw[uM];have:=fT xs xs.length;omega
theorem iV {B:Nat}{xs:qN}(h:Dig B xs):Dig B (wU xs):=h.take _
theorem gM (A:qA)(xs:qN)(n c:Nat)(w:World)(o:xs.length=n)(h:zF .u64 w A xs)(s:xs.length≤c)(t:xs.length≤1099511627776) :
 yA 189 #[.slice A n c] w fun e w'=>e=.returned (.slice A (xZ xs xs.length) c)∧w=w':=by
 subst o
 have H:=zh h
 clear h
 go_enter func189,ntmps189
 go_wp2
 go_loop [3] (fun n=>∃ k:Nat,k≤xs.length∧n=.int .i64 k∧Hid (xZ xs xs.length=xZ xs k)) (fun n=>(intOf n).toNat)
 case atStart=>exact⟨xs.length,uG _,rfl,rfl⟩
 case round =>
  obtain⟨k,u,rfl,d⟩:=hrel
  by_cases p:0<k
  ·obtain⟨b,q,rfl,v,f⟩:=H.out.at (i:=k-1) qO
   obtain⟨x,g⟩:=yE (xs[k-1]?.getD 0)
   rw[g] at f
   have l:=zh g
   clear g
   by_cases j:x=0
   ·subst j
    go_wp2
    go_round
    case rel =>
     refine⟨k-1,qO,by go_num,?_⟩
     have e:=d.out
     obtain⟨m,rfl⟩:∃ m,k=m+1:=⟨k-1,qO⟩
     rw[xZ,uS (by simpa using l.out)] at e
     exact e
    case measure=>simp[intOf];omega
   have r:(((x:Nat):Int) == 0)=false:=by simpa using j
   go_wp2
   go_ret
   refine⟨?_,rfl⟩
   have e:=d.out
   obtain⟨m,rfl⟩:∃ m,k=m+1:=⟨k-1,qO⟩
   have a:=l.out
   simp only[tL] at a
   rw[xZ,uL (by rw[a];exact j)] at e
   rw[e];rfl
  obtain rfl:k=0:=qO
  go_wp2
  go_ret
  exact⟨by rw[d.out];rfl,rfl⟩
theorem set_mid (a mid post:qN)(k v:Nat)(h:k<mid.length):(a ++ mid ++ post).set (a.length+k) v=a ++ mid.set k v ++ post:=by
 rw[vS,qW _ _ qO,Nat.add_sub_cancel_left,List.set_append_left _ _ h,vS]
theorem Znc (a mid b:qN)(k:Nat)(h:k<mid.length):(a ++ mid ++ b)[a.length+k]?.getD 0=mid[k]?.getD 0:=by
 rw[vS,tV qO,Nat.add_sub_cancel_left,rI h]
theorem wI (B:Nat)(xs:qN)(k v:Nat)(h:k<xs.length):val B ((xs.set k v).take (k+1))=val B (xs.take k)+B^k*v:=by
 rw[xA k (by simpa using h),rB (uG k)]
 simp[h]
def fF (mid ys:List Nat) (k:Nat) (m:List Nat) (c:Nat):Prop :=
 m.length=mid.length∧m.drop k=mid.drop k∧Dig W64 m∧val W64 (m.take k)+W64^k*c=val W64 (mid.take k)+val W64 (ys.take k)
theorem fF.start (mid ys:qN)(h:Dig W64 mid):fF mid ys 0 mid 0:=⟨rfl,rfl,h,qS⟩
theorem fF.at {mid ys m:qN}{k c:Nat}(h:fF mid ys k m c):m[k]?.getD 0=mid[k]?.getD 0:=by
 have:=vF (fun l=>l[0]?.getD 0) h.2.1
 simpa [vP] using this
theorem fF.step {mid ys m:qN}{k c z y:Nat}(h:fF mid ys k m c)(b:k<mid.length)(d:m[k]?.getD 0=z)(e:ys[k]?.getD 0=y)(a:k<ys.length):fF mid ys (k+1) (m.set k (zX z y c)) (xD z y c):=by
 have f:mid[k]?.getD 0=z:=h.at.symm.trans d
 obtain⟨g,i,j,l⟩:=h
 refine⟨by simpa using g,?_,j.set k (fD _ _ _),?_⟩
 ·rw[vZ qO,← vV,← vV,i]
 rw[wI _ _ _ _ qO,xA k b,xA k a,f,e,uN]
 exact Zf8 _ _ _ _ _ _ _ _ _ _ l (iU z y c)
theorem fF.done {mid ys m:qN}{k c:Nat}(h:fF mid ys k m c)(b:ys.length≤k)(d:k≤mid.length)(e:c=0∨k=mid.length):val W64 m+W64^mid.length*c=val W64 mid+val W64 ys:=by
 obtain⟨f,g,i,a⟩:=h
 rw[uD (l:=ys) b] at a
 rcases e with rfl|rfl
 ·rw[wA (xs:=m) k,wA (xs:=mid) k,g,f]
  simp at a ⊢
  omega
 rw[uD qO,uD qO] at a
 exact a
theorem Own.mid {t:TypeId}{w:World}{b:Nat}{a mid c:qN}(h:Own .u64 t w b (a ++ mid ++ c)){k:Nat}(d:k<mid.length):w.cell? ⟨b,a.length+k,none⟩=some (.int .u64 ((mid[k]?.getD 0:Nat):Int)):=by
 rw[h.cell (by simp;omega),Znc _ _ _ _ d]
theorem Own.set_mid {t:TypeId}{w:World}{b:Nat}{a mid c:qN}(h:Own .u64 t w b (a ++ mid ++ c)){k:Nat}(d:k<mid.length)(v:Nat):Own .u64 t (w.setCell ⟨b,a.length+k,none⟩ (.int .u64 (v:Int))) b (a ++ mid.set k v ++ c):=by
 have:=h.set (a.length+k) v (by simp;omega)
 rwa [Go.Proofs.YtenchljfmfgeoaaGreatDoor.set_mid _ _ _ _ _ d] at this
def Znd (t:TypeId) (b:Nat) (pre post:List Nat) (n:Nat) (Q:List Nat→Prop) (w w':World):Prop :=
 Fr (· = b) w w'∧lC t b w w'∧∃ m,Own .u64 t w' b (pre ++ m ++ post)∧m.length=n∧Dig W64 m∧Q m
end Go.Proofs.YtenchljfmfgeoaaGreatDoor
