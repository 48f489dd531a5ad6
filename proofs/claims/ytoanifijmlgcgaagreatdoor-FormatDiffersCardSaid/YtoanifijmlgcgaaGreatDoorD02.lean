/-
 My texts Bits, Words1, PrimeW, ShortS put together.
-/
import Derived.Test.YtoanifijmlgcgaaGreatDoorProg
import Derived.Test.YtoanifijmlgcgaaGreatDoorD00
import Derived.Test.YtoanifijmlgcgaaGreatDoorD01
import Derived.Laws.Externs
import Derived.IntWalk
set_option maxRecDepth 100000
set_option maxHeartbeats 8000000
namespace Go.Proofs.YtoanifijmlgcgaaGreatDoor
open Go.RowKit
noncomputable def W64:Nat:=Classical.choose (p:=fun n:Nat=>n=18446744073709551616) ⟨_,rfl⟩
theorem zM:W64=18446744073709551616:=rY (p:=fun n:Nat=>n=18446744073709551616) ⟨_,rfl⟩
theorem zZ:0<W64:=by have:=zM;omega
theorem aK:1<W64:=by have:=zM;omega
theorem Zma:2≤W64:=by have:=zM;omega
noncomputable def fZ (x y c:Nat):Nat:=(x+y+c)%W64
noncomputable def fL (x y c:Nat):Nat:=(x+y+c)/W64
noncomputable def Zaw (x y c:Nat):Nat:=(x+W64-y-c)%W64
def cK (x y c:Nat):Nat:=if x<y+c then 1 else 0
theorem Zdj (x y c:Nat):fZ x y c+W64*fL x y c=x+y+c:=by
 unfold fZ fL
 exact sG _ _
theorem Zdk (x y c:Nat):fZ x y c<W64:=uP _ zZ
theorem ZkV {x y c:Nat}(a:x<W64)(b:y<W64)(d:c≤1):fL x y c≤1:=by
 unfold fL
 rw[zM] at *
 omega
theorem Zgn {x y c:Nat}(a:x<W64)(b:y<W64)(d:c≤1):Zaw x y c+y+c=x+W64*cK x y c:=by
 unfold Zaw cK
 rw[zM] at *
 split<;>omega
theorem Zdl (x y c:Nat):Zaw x y c<W64:=uP _ zZ
theorem ZkW (x y c:Nat):cK x y c≤1:=by unfold cK;split<;>omega
theorem Zfo (x y c:Nat)(a:c≤1)(w:World) :
 (callFunc 344 #[.int .u64 (x:Int),.int .u64 (y:Int),.int .u64 (c:Int)]).run Tryz.prog w=.ok (.value (.tuple #[.int .u64 (fZ x y c:Nat),.int .u64 (fL x y c:Nat)])) w:=by
 rw[run_callFunc_extern (fn:=Tryz.f344) (by kernel_rfl) (by kernel_rfl) (by kernel_rfl) (by kernel_rfl) (e:=add64Entry) (by kernel_rfl),run_add64 x y c (by omega) (by omega) (by omega) (by omega)]
 simp only[Result.andThen,fZ,fL,zM]
 congr 5<;>omega
def ZdR:Array Value→Sem Value:=fun args=>do
 let (x, y, b) ← Extern.MathBitsCarry.three "Sub64" args
 pure (Extern.MathBitsCarry.pair ((x+Extern.MathBitsCarry.m64-y-b)%Extern.MathBitsCarry.m64) (if x<y+b then 1 else 0))
theorem ZjD {P:Program}(x y b:Nat)(a:b≤1)(w:World) :
 (ZdR #[.int .u64 x,.int .u64 y,.int .u64 b]).run P w =
 .ok (.tuple #[.int .u64 (((x+18446744073709551616-y-b)%18446744073709551616:Nat):Int),.int .u64 ((if x<y+b then 1 else 0:Nat):Int)]) w:=by
 have:b=0∨b=1:=by omega
 rcases this with rfl|rfl<;>rfl
theorem bK (x y c:Nat)(a:c≤1)(w:World) :
 (callFunc 333 #[.int .u64 (x:Int),.int .u64 (y:Int),.int .u64 (c:Int)]).run Tryz.prog w=.ok (.value (.tuple #[.int .u64 (Zaw x y c:Nat),.int .u64 (cK x y c:Nat)])) w:=by
 rw[run_callFunc_extern (fn:=Tryz.f333) (by kernel_rfl) (by kernel_rfl) (by kernel_rfl) (by kernel_rfl) (e:=ZdR) (by kernel_rfl),ZjD x y c a]
 simp only[Result.andThen,Zaw,cK,zM]
theorem ZbU (x y:Nat)(w:World) :
 (callFunc 344 #[.int .u64 (x:Int),.int .u64 (y:Int),.int .u64 0]).run Tryz.prog w=.ok (.value (.tuple #[.int .u64 (fZ x y 0:Nat),.int .u64 (fL x y 0:Nat)])) w:=Zfo x y 0 (by omega) w
theorem Zgo (x y:Nat)(w:World) :
 (callFunc 333 #[.int .u64 (x:Int),.int .u64 (y:Int),.int .u64 0]).run Tryz.prog w=.ok (.value (.tuple #[.int .u64 (Zaw x y 0:Nat),.int .u64 (cK x y 0:Nat)])) w:=bK x y 0 (by omega) w
abbrev yA:=@Calls Tryz.prog
def wU (xs:List Nat):Nat→Nat
 | 0=>0
 | n+1=>if xs[n]?.getD 0=0 then wU xs n else n+1
theorem gI (xs:List Nat)(n:Nat):wU xs n≤n:=by
 induction n with
 | zero=>exact uR _
 | succ n ih=>unfold wU;split<;>omega
def xZ (xs:List Nat):List Nat:=xs.take (wU xs xs.length)
theorem Zgp (xs:List Nat)(n:Nat)(h:n≤xs.length):Trim (xs.take (wU xs n)):=by
 induction n with
 | zero=>intro k a;simp[wU] at a
 | succ n ih =>
  unfold wU
  split
  ·exact ih (by omega)
  rename_i b
  intro k a
  rw[uL] at a
  have:k=n:=by omega
  subst this
  rw[List.getElem?_take_of_lt (by omega)]
  exact b
theorem iY (xs:List Nat):Trim (xZ xs):=Zgp xs _ (uR _)
theorem Zhm (B:Nat)(xs:List Nat)(n:Nat)(h:n≤xs.length):val B (xs.take (wU xs n))=val B (xs.take n):=by
 induction n with
 | zero=>rfl
 | succ n ih =>
  unfold wU
  split
  ·rename_i a
   rw[ih (by omega),zT n (by omega),a];simp
  rfl
theorem wZ (B:Nat)(xs:List Nat):val B (xZ xs)=val B xs:=by
 unfold xZ;rw[Zhm B xs _ (uR _),qT]
theorem wM (xs:List Nat):(xZ xs).length=wU xs xs.length:=by
 unfold xZ;rw[uL];have:=gI xs xs.length;omega
theorem iO {B:Nat}{xs:List Nat}(h:Dig B xs):Dig B (xZ xs):=h.take _
theorem gJ (A:Option Addr)(xs:List Nat)(n c:Nat)(w:World)(o:xs.length=n)(h:zV .u64 w A xs)(s:xs.length≤c)(t:xs.length≤1099511627776) :
 yA 297 #[.slice A n c] w fun e w'=>e=.returned (.slice A (wU xs xs.length) c)∧w=w':=by
 subst o
 have H:=zh h
 clear h
 go_enter Tryz.func297,Tryz.ntmps297
 go_wp2
 go_loop [3] (fun n=>∃ k:Nat,k≤xs.length∧n=.int .i64 k∧Hid (wU xs xs.length=wU xs k)) (fun n=>(intOf n).toNat)
 case atStart=>exact⟨xs.length,uR _,rfl,rfl⟩
 case round =>
  obtain⟨k,u,rfl,d⟩:=hrel
  by_cases p:0<k
  ·obtain⟨b,q,rfl,v,f⟩:=H.out.at (i:=k-1) (by omega)
   obtain⟨x,g⟩:=yE (xs[k-1]?.getD 0)
   rw[g] at f
   have l:=zh g
   clear g
   by_cases j:x=0
   ·subst j
    go_wp2
    go_round
    case rel =>
     refine⟨k-1,by omega,by go_num,?_⟩
     have e:=d.out
     obtain⟨m,rfl⟩:∃ m,k=m+1:=⟨k-1,by omega⟩
     rw[wU,tA (by simpa using l.out)] at e
     exact e
    case measure=>simp[intOf];omega
   have r:(((x:Nat):Int) == 0)=false:=by simpa using j
   go_wp2
   go_ret
   refine⟨?_,rfl⟩
   have e:=d.out
   obtain⟨m,rfl⟩:∃ m,k=m+1:=⟨k-1,by omega⟩
   have a:=l.out
   simp only[sY] at a
   rw[wU,vP (by rw[a];exact j)] at e
   rw[e];rfl
  obtain rfl:k=0:=by omega
  go_wp2
  go_ret
  exact⟨by rw[d.out];rfl,rfl⟩
theorem set_mid (a mid post:List Nat)(k v:Nat)(h:k<mid.length):(a ++ mid ++ post).set (a.length+k) v=a ++ mid.set k v ++ post:=by
 rw[uO,rZ _ _ (by omega),Nat.add_sub_cancel_left,List.set_append_left _ _ h,uO]
theorem Zh1 (a mid b:List Nat)(k:Nat)(h:k<mid.length):(a ++ mid ++ b)[a.length+k]?.getD 0=mid[k]?.getD 0:=by
 rw[uO,List.getElem?_append_right (by omega),Nat.add_sub_cancel_left,List.getElem?_append_left h]
theorem xU (B:Nat)(xs:List Nat)(k v:Nat)(h:k<xs.length):val B ((xs.set k v).take (k+1))=val B (xs.take k)+B^k*v:=by
 rw[zT k (by simpa using h),List.take_set_of_le (uR k)]
 simp[h]
def fD (mid ys:List Nat) (k:Nat) (m:List Nat) (c:Nat):Prop :=
 m.length=mid.length∧m.drop k=mid.drop k∧Dig W64 m∧val W64 (m.take k)+W64^k*c=val W64 (mid.take k)+val W64 (ys.take k)
theorem fD.start (mid a:List Nat)(h:Dig W64 mid):fD mid a 0 mid 0:=⟨rfl,rfl,h,by simp⟩
theorem fD.at {mid a m:List Nat}{k c:Nat}(h:fD mid a k m c):m[k]?.getD 0=mid[k]?.getD 0:=by
 have:=tC (fun l=>l[0]?.getD 0) h.2.1
 simpa [List.getElem?_drop] using this
theorem fD.step {mid a m:List Nat}{k c z y:Nat}(h:fD mid a k m c)(d:k<mid.length)(e:m[k]?.getD 0=z)(f:a[k]?.getD 0=y)(b:k<a.length):fD mid a (k+1) (m.set k (fZ z y c)) (fL z y c):=by
 have g:mid[k]?.getD 0=z:=h.at.symm.trans e
 obtain⟨i,j,l,n⟩:=h
 refine⟨by simpa using i,?_,l.set k (Zdk _ _ _),?_⟩
 ·rw[tU (by omega),← tH,← tH,j]
 rw[xU _ _ _ _ (by omega),zT k d,zT k b,g,f,uW]
 exact Zbc _ _ _ _ _ _ _ _ _ _ n (Zdj z y c)
theorem fD.done {mid ys m:List Nat}{k c:Nat}(h:fD mid ys k m c)(b:ys.length≤k)(d:k≤mid.length)(e:c=0∨k=mid.length):val W64 m+W64^mid.length*c=val W64 mid+val W64 ys:=by
 obtain⟨f,g,i,a⟩:=h
 rw[uB (l:=ys) b] at a
 rcases e with rfl|rfl
 ·rw[xQ (xs:=m) k,xQ (xs:=mid) k,g,f]
  simp at a ⊢
  omega
 rw[uB (by omega),uB (by omega)] at a
 exact a
theorem Own.mid {t:TypeId}{w:World}{b:Nat}{a mid c:List Nat}(h:Own .u64 t w b (a ++ mid ++ c)){k:Nat}(d:k<mid.length):w.cell? ⟨b,a.length+k,none⟩=some (.int .u64 ((mid[k]?.getD 0:Nat):Int)):=by
 rw[h.cell (by simp;omega),Zh1 _ _ _ _ d]
theorem Own.set_mid {t:TypeId}{w:World}{b:Nat}{a mid c:List Nat}(h:Own .u64 t w b (a ++ mid ++ c)){k:Nat}(d:k<mid.length)(v:Nat):Own .u64 t (w.setCell ⟨b,a.length+k,none⟩ (.int .u64 (v:Int))) b (a ++ mid.set k v ++ c):=by
 have:=h.set (a.length+k) v (by simp;omega)
 rwa [Go.Proofs.YtoanifijmlgcgaaGreatDoor.set_mid _ _ _ _ _ d] at this
def Zmc (t:TypeId) (b:Nat) (pre post:List Nat) (n:Nat) (Q:List Nat→Prop) (w w':World):Prop :=
 Fr (· = b) w w'∧lA t b w w'∧∃ m,Own .u64 t w' b (pre ++ m ++ post)∧m.length=n∧Dig W64 m∧Q m
end Go.Proofs.YtoanifijmlgcgaaGreatDoor
