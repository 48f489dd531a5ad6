/-
 My texts Bits, Words1, PrimeW, ShortS put together.
-/
import Derived.Test.YtklpdkpcocnglaaGreatDoorProg
import Derived.Test.YtklpdkpcocnglaaGreatDoorW00
import Derived.Test.YtklpdkpcocnglaaGreatDoorW01
import Derived.Laws.Externs
import Derived.IntWalk
set_option maxRecDepth 100000
set_option maxHeartbeats 8000000
namespace Go.Proofs.YtklpdkpcocnglaaGreatDoor
open Go.RowKit
noncomputable def W64:Nat:=Classical.choose (p:=fun n:Nat=>n=18446744073709551616) ⟨_,rfl⟩
theorem zO:W64=18446744073709551616:=qI (p:=fun n:Nat=>n=18446744073709551616) ⟨_,rfl⟩
theorem zN:0<W64:=by have:=zO;omega
theorem fS:1<W64:=by have:=zO;omega
theorem ZjN:2≤W64:=by have:=zO;omega
noncomputable def xI (x y c:Nat):Nat:=(x+y+c)%W64
noncomputable def xM (x y c:Nat):Nat:=(x+y+c)/W64
noncomputable def lQ (x y c:Nat):Nat:=(x+W64-y-c)%W64
def lR (x y c:Nat):Nat:=if x<y+c then 1 else 0
theorem fK (x y c:Nat):xI x y c+W64*xM x y c=x+y+c:=by
 unfold xI xM
 exact tS _ _
theorem dM (x y c:Nat):xI x y c<W64:=uM _ zN
theorem Zcg {x y c:Nat}(a:x<W64)(b:y<W64)(d:c≤1):xM x y c≤1:=by
 unfold xM
 rw[zO] at *
 omega
theorem Za3 {x y c:Nat}(a:x<W64)(b:y<W64)(d:c≤1):lQ x y c+y+c=x+W64*lR x y c:=by
 unfold lQ lR
 rw[zO] at *
 split<;>omega
theorem aS (x y c:Nat):lQ x y c<W64:=uM _ zN
theorem Zch (x y c:Nat):lR x y c≤1:=by unfold lR;split<;>omega
theorem fC (x y c:Nat)(a:c≤1)(w:World) :
 (callFunc 146 #[.int .u64 (x:Int),.int .u64 (y:Int),.int .u64 (c:Int)]).run Tryz.prog w=.ok (.value (.tuple #[.int .u64 (xI x y c:Nat),.int .u64 (xM x y c:Nat)])) w:=by
 rw[run_callFunc_extern (fn:=Tryz.f146) (by kernel_rfl) (by kernel_rfl) (by kernel_rfl) (by kernel_rfl) (e:=add64Entry) (by kernel_rfl),run_add64 x y c (by omega) (by omega) (by omega) (by omega)]
 simp only[Result.andThen,xI,xM,zO]
 congr 5<;>omega
def Ze7:Array Value→Sem Value:=fun args=>do
 let (x, y, b) ← Extern.MathBitsCarry.three "Sub64" args
 pure (Extern.MathBitsCarry.pair ((x+Extern.MathBitsCarry.m64-y-b)%Extern.MathBitsCarry.m64) (if x<y+b then 1 else 0))
theorem ZlR {P:Program}(x y b:Nat)(a:b≤1)(w:World) :
 (Ze7 #[.int .u64 x,.int .u64 y,.int .u64 b]).run P w =
 .ok (.tuple #[.int .u64 (((x+18446744073709551616-y-b)%18446744073709551616:Nat):Int),.int .u64 ((if x<y+b then 1 else 0:Nat):Int)]) w:=by
 have:b=0∨b=1:=by omega
 rcases this with rfl|rfl<;>rfl
theorem fD (x y c:Nat)(a:c≤1)(w:World) :
 (callFunc 159 #[.int .u64 (x:Int),.int .u64 (y:Int),.int .u64 (c:Int)]).run Tryz.prog w=.ok (.value (.tuple #[.int .u64 (lQ x y c:Nat),.int .u64 (lR x y c:Nat)])) w:=by
 rw[run_callFunc_extern (fn:=Tryz.f159) (by kernel_rfl) (by kernel_rfl) (by kernel_rfl) (by kernel_rfl) (e:=Ze7) (by kernel_rfl),ZlR x y c a]
 simp only[Result.andThen,lQ,lR,zO]
theorem Za4 (x y:Nat)(w:World) :
 (callFunc 146 #[.int .u64 (x:Int),.int .u64 (y:Int),.int .u64 0]).run Tryz.prog w=.ok (.value (.tuple #[.int .u64 (xI x y 0:Nat),.int .u64 (xM x y 0:Nat)])) w:=fC x y 0 (by omega) w
theorem ZhI (x y:Nat)(w:World) :
 (callFunc 159 #[.int .u64 (x:Int),.int .u64 (y:Int),.int .u64 0]).run Tryz.prog w=.ok (.value (.tuple #[.int .u64 (lQ x y 0:Nat),.int .u64 (lR x y 0:Nat)])) w:=fD x y 0 (by omega) w
abbrev yA:=@Calls Tryz.prog
def wI (xs:List Nat):Nat→Nat
 | 0=>0
 | n+1=>if xs[n]?.getD 0=0 then wI xs n else n+1
theorem gF (xs:List Nat)(n:Nat):wI xs n≤n:=by
 induction n with
 | zero=>exact uK _
 | succ n ih=>unfold wI;split<;>omega
def wF (xs:List Nat):List Nat:=xs.take (wI xs xs.length)
theorem ZhJ (xs:List Nat)(n:Nat)(h:n≤xs.length):Trim (xs.take (wI xs n)):=by
 induction n with
 | zero=>intro k a;simp[wI] at a
 | succ n ih =>
  unfold wI
  split
  ·exact ih (by omega)
  rename_i b
  intro k a
  rw[vE] at a
  have:k=n:=by omega
  subst this
  rw[List.getElem?_take_of_lt (by omega)]
  exact b
theorem iQ (xs:List Nat):Trim (wF xs):=ZhJ xs _ (uK _)
theorem Zi9 (B:Nat)(xs:List Nat)(n:Nat)(h:n≤xs.length):val B (xs.take (wI xs n))=val B (xs.take n):=by
 induction n with
 | zero=>rfl
 | succ n ih =>
  unfold wI
  split
  ·rename_i a
   rw[ih (by omega),zR n (by omega),a];simp
  rfl
theorem lE (B:Nat)(xs:List Nat):val B (wF xs)=val B xs:=by
 unfold wF;rw[Zi9 B xs _ (uK _),List.take_length]
theorem wJ (xs:List Nat):(wF xs).length=wI xs xs.length:=by
 unfold wF;rw[vE];have:=gF xs xs.length;omega
theorem iI {B:Nat}{xs:List Nat}(h:Dig B xs):Dig B (wF xs):=h.take _
theorem eE (A:Option Addr)(xs:List Nat)(n c:Nat)(w:World)(o:xs.length=n)(h:zH .u64 w A xs)(s:xs.length≤c)(t:xs.length≤1099511627776) :
 yA 169 #[.slice A n c] w fun e w'=>e=.returned (.slice A (wI xs xs.length) c)∧w=w':=by
 subst o
 have H:=zh h
 clear h
 go_enter Tryz.func169,Tryz.ntmps169
 go_wp2
 go_loop [3] (fun n=>∃ k:Nat,k≤xs.length∧n=.int .i64 k∧Hid (wI xs xs.length=wI xs k)) (fun n=>(intOf n).toNat)
 case atStart=>exact⟨xs.length,uK _,rfl,rfl⟩
 case round =>
  obtain⟨k,u,rfl,d⟩:=hrel
  by_cases p:0<k
  ·obtain⟨b,q,rfl,v,f⟩:=H.out.at (i:=k-1) (by omega)
   obtain⟨x,g⟩:=yE (xs[k-1]?.getD 0)
   rw[g] at f
   have l:=zh g
   clear g
   by_cases j:x=0
   ·subst j
    go_wp2
    go_round
    case rel =>
     refine⟨k-1,by omega,by go_num,?_⟩
     have e:=d.out
     obtain⟨m,rfl⟩:∃ m,k=m+1:=⟨k-1,by omega⟩
     rw[wI,uP (by simpa using l.out)] at e
     exact e
    case measure=>simp[intOf];omega
   have r:(((x:Nat):Int) == 0)=false:=by simpa using j
   go_wp2
   go_ret
   refine⟨?_,rfl⟩
   have e:=d.out
   obtain⟨m,rfl⟩:∃ m,k=m+1:=⟨k-1,by omega⟩
   have a:=l.out
   simp only[tE] at a
   rw[wI,uN (by rw[a];exact j)] at e
   rw[e];rfl
  obtain rfl:k=0:=by omega
  go_wp2
  go_ret
  exact⟨by rw[d.out];rfl,rfl⟩
theorem set_mid (a mid post:List Nat)(k v:Nat)(h:k<mid.length):(a ++ mid ++ post).set (a.length+k) v=a ++ mid.set k v ++ post:=by
 rw[tB,qJ _ _ (by omega),Nat.add_sub_cancel_left,List.set_append_left _ _ h,tB]
theorem ZjO (a mid b:List Nat)(k:Nat)(h:k<mid.length):(a ++ mid ++ b)[a.length+k]?.getD 0=mid[k]?.getD 0:=by
 rw[tB,List.getElem?_append_right (by omega),Nat.add_sub_cancel_left,List.getElem?_append_left h]
theorem xL (B:Nat)(xs:List Nat)(k v:Nat)(h:k<xs.length):val B ((xs.set k v).take (k+1))=val B (xs.take k)+B^k*v:=by
 rw[zR k (by simpa using h),sK (uK k)]
 simp[h]
def dO (mid ys:List Nat) (k:Nat) (m:List Nat) (c:Nat):Prop :=
 m.length=mid.length∧m.drop k=mid.drop k∧Dig W64 m∧val W64 (m.take k)+W64^k*c=val W64 (mid.take k)+val W64 (ys.take k)
theorem dO.start (mid ys:List Nat)(h:Dig W64 mid):dO mid ys 0 mid 0:=⟨rfl,rfl,h,by simp⟩
theorem dO.at {mid ys m:List Nat}{k c:Nat}(h:dO mid ys k m c):m[k]?.getD 0=mid[k]?.getD 0:=by
 have:=vG (fun l=>l[0]?.getD 0) h.2.1
 simpa [List.getElem?_drop] using this
theorem dO.step {mid ys m:List Nat}{k c z y:Nat}(h:dO mid ys k m c)(b:k<mid.length)(d:m[k]?.getD 0=z)(e:ys[k]?.getD 0=y)(a:k<ys.length):dO mid ys (k+1) (m.set k (xI z y c)) (xM z y c):=by
 have f:mid[k]?.getD 0=z:=h.at.symm.trans d
 obtain⟨g,i,j,l⟩:=h
 refine⟨by simpa using g,?_,j.set k (dM _ _ _),?_⟩
 ·rw[vY (by omega),← vN,← vN,i]
 rw[xL _ _ _ _ (by omega),zR k b,zR k a,f,e,uR]
 exact Za2 _ _ _ _ _ _ _ _ _ _ l (fK z y c)
theorem dO.done {mid ys m:List Nat}{k c:Nat}(h:dO mid ys k m c)(b:ys.length≤k)(d:k≤mid.length)(e:c=0∨k=mid.length):val W64 m+W64^mid.length*c=val W64 mid+val W64 ys:=by
 obtain⟨f,g,i,a⟩:=h
 rw[uB (l:=ys) b] at a
 rcases e with rfl|rfl
 ·rw[xR (xs:=m) k,xR (xs:=mid) k,g,f]
  simp at a ⊢
  omega
 rw[uB (by omega),uB (by omega)] at a
 exact a
theorem Own.mid {t:TypeId}{w:World}{b:Nat}{a mid c:List Nat}(h:Own .u64 t w b (a ++ mid ++ c)){k:Nat}(d:k<mid.length):w.cell? ⟨b,a.length+k,none⟩=some (.int .u64 ((mid[k]?.getD 0:Nat):Int)):=by
 rw[h.cell (by simp;omega),ZjO _ _ _ _ d]
theorem Own.set_mid {t:TypeId}{w:World}{b:Nat}{a mid c:List Nat}(h:Own .u64 t w b (a ++ mid ++ c)){k:Nat}(d:k<mid.length)(v:Nat):Own .u64 t (w.setCell ⟨b,a.length+k,none⟩ (.int .u64 (v:Int))) b (a ++ mid.set k v ++ c):=by
 have:=h.set (a.length+k) v (by simp;omega)
 rwa [Go.Proofs.YtklpdkpcocnglaaGreatDoor.set_mid _ _ _ _ _ d] at this
def ZoY (t:TypeId) (b:Nat) (pre post:List Nat) (n:Nat) (Q:List Nat→Prop) (w w':World):Prop :=
 Fr (· = b) w w'∧kD t b w w'∧∃ m,Own .u64 t w' b (pre ++ m ++ post)∧m.length=n∧Dig W64 m∧Q m
end Go.Proofs.YtklpdkpcocnglaaGreatDoor
