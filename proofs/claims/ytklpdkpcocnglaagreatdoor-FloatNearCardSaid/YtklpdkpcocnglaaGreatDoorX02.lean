/-
 My texts Bits, Words1, PrimeW, ShortS put together.
-/
import Derived.Test.YtklpdkpcocnglaaGreatDoorProg
import Derived.Test.YtklpdkpcocnglaaGreatDoorX00
import Derived.Test.YtklpdkpcocnglaaGreatDoorX01
import Derived.Laws.Externs
import Derived.IntWalk
set_option maxRecDepth 100000
set_option maxHeartbeats 8000000
namespace Go.Proofs.YtklpdkpcocnglaaGreatDoor
open Go.RowKit
noncomputable def W64:Nat:=Classical.choose (p:=fun n:Nat=>n=18446744073709551616) ⟨_,rfl⟩
theorem zO:W64=18446744073709551616:=qX (p:=fun n:Nat=>n=18446744073709551616) ⟨_,rfl⟩
theorem zM:0<W64:=by have:=zO;omega
theorem eA:1<W64:=by have:=zO;omega
theorem Zlj:2≤W64:=by have:=zO;omega
noncomputable def xI (x y c:Nat):Nat:=(x+y+c)%W64
noncomputable def xO (x y c:Nat):Nat:=(x+y+c)/W64
noncomputable def lJ (x y c:Nat):Nat:=(x+W64-y-c)%W64
def lK (x y c:Nat):Nat:=if x<y+c then 1 else 0
theorem fR (x y c:Nat):xI x y c+W64*xO x y c=x+y+c:=by
 unfold xI xO
 exact tR _ _
theorem dX (x y c:Nat):xI x y c<W64:=uP _ zM
theorem ZcX {x y c:Nat}(a:x<W64)(b:y<W64)(d:c≤1):xO x y c≤1:=by
 unfold xO
 rw[zO] at *
 omega
theorem Zby {x y c:Nat}(a:x<W64)(b:y<W64)(d:c≤1):lJ x y c+y+c=x+W64*lK x y c:=by
 unfold lJ lK
 rw[zO] at *
 split<;>omega
theorem Zak (x y c:Nat):lJ x y c<W64:=uP _ zM
theorem ZcY (x y c:Nat):lK x y c≤1:=by unfold lK;split<;>omega
theorem fH (x y c:Nat)(a:c≤1)(w:World) :
 (callFunc 146 #[.int .u64 (x:Int),.int .u64 (y:Int),.int .u64 (c:Int)]).run Tryz.prog w=.ok (.value (.tuple #[.int .u64 (xI x y c:Nat),.int .u64 (xO x y c:Nat)])) w:=by
 rw[run_callFunc_extern (fn:=Tryz.f146) (by kernel_rfl) (by kernel_rfl) (by kernel_rfl) (by kernel_rfl) (e:=add64Entry) (by kernel_rfl),run_add64 x y c (by omega) (by omega) (by omega) (by omega)]
 simp only[Result.andThen,xI,xO,zO]
 congr 5<;>omega
def Zf0:Array Value→Sem Value:=fun args=>do
 let (x, y, b) ← Extern.MathBitsCarry.three "Sub64" args
 pure (Extern.MathBitsCarry.pair ((x+Extern.MathBitsCarry.m64-y-b)%Extern.MathBitsCarry.m64) (if x<y+b then 1 else 0))
theorem Zm9 {P:Program}(x y b:Nat)(a:b≤1)(w:World) :
 (Zf0 #[.int .u64 x,.int .u64 y,.int .u64 b]).run P w =
 .ok (.tuple #[.int .u64 (((x+18446744073709551616-y-b)%18446744073709551616:Nat):Int),.int .u64 ((if x<y+b then 1 else 0:Nat):Int)]) w:=by
 have:b=0∨b=1:=by omega
 rcases this with rfl|rfl<;>rfl
theorem fI (x y c:Nat)(a:c≤1)(w:World) :
 (callFunc 159 #[.int .u64 (x:Int),.int .u64 (y:Int),.int .u64 (c:Int)]).run Tryz.prog w=.ok (.value (.tuple #[.int .u64 (lJ x y c:Nat),.int .u64 (lK x y c:Nat)])) w:=by
 rw[run_callFunc_extern (fn:=Tryz.f159) (by kernel_rfl) (by kernel_rfl) (by kernel_rfl) (by kernel_rfl) (e:=Zf0) (by kernel_rfl),Zm9 x y c a]
 simp only[Result.andThen,lJ,lK,zO]
theorem Zbz (x y:Nat)(w:World) :
 (callFunc 146 #[.int .u64 (x:Int),.int .u64 (y:Int),.int .u64 0]).run Tryz.prog w=.ok (.value (.tuple #[.int .u64 (xI x y 0:Nat),.int .u64 (xO x y 0:Nat)])) w:=fH x y 0 (by omega) w
theorem Zi8 (x y:Nat)(w:World) :
 (callFunc 159 #[.int .u64 (x:Int),.int .u64 (y:Int),.int .u64 0]).run Tryz.prog w=.ok (.value (.tuple #[.int .u64 (lJ x y 0:Nat),.int .u64 (lK x y 0:Nat)])) w:=fI x y 0 (by omega) w
abbrev yA:=@Calls Tryz.prog
def wK (xs:List Nat):Nat→Nat
 | 0=>0
 | n+1=>if xs[n]?.getD 0=0 then wK xs n else n+1
theorem gB (xs:List Nat)(n:Nat):wK xs n≤n:=by
 induction n with
 | zero=>exact uM _
 | succ n ih=>unfold wK;split<;>omega
def wF (xs:List Nat):List Nat:=xs.take (wK xs xs.length)
theorem Zi9 (xs:List Nat)(n:Nat)(h:n≤xs.length):Trim (xs.take (wK xs n)):=by
 induction n with
 | zero=>intro k a;simp[wK] at a
 | succ n ih =>
  unfold wK
  split
  ·exact ih (by omega)
  rename_i b
  intro k a
  rw[uY] at a
  have:k=n:=by omega
  subst this
  rw[List.getElem?_take_of_lt (by omega)]
  exact b
theorem iG (xs:List Nat):Trim (wF xs):=Zi9 xs _ (uM _)
theorem Zky (B:Nat)(xs:List Nat)(n:Nat)(h:n≤xs.length):val B (xs.take (wK xs n))=val B (xs.take n):=by
 induction n with
 | zero=>rfl
 | succ n ih =>
  unfold wK
  split
  ·rename_i a
   rw[ih (by omega),zR n (by omega),a];simp
  rfl
theorem wX (B:Nat)(xs:List Nat):val B (wF xs)=val B xs:=by
 unfold wF;rw[Zky B xs _ (uM _),List.take_length]
theorem wH (xs:List Nat):(wF xs).length=wK xs xs.length:=by
 unfold wF;rw[uY];have:=gB xs xs.length;omega
theorem iD {B:Nat}{xs:List Nat}(h:Dig B xs):Dig B (wF xs):=h.take _
theorem eO (A:Option Addr)(xs:List Nat)(n c:Nat)(w:World)(o:xs.length=n)(h:zF .u64 w A xs)(s:xs.length≤c)(t:xs.length≤1099511627776) :
 yA 169 #[.slice A n c] w fun e w'=>e=.returned (.slice A (wK xs xs.length) c)∧w=w':=by
 subst o
 have H:=zh h
 clear h
 go_enter Tryz.func169,Tryz.ntmps169
 go_wp2
 go_loop [3] (fun n=>∃ k:Nat,k≤xs.length∧n=.int .i64 k∧Hid (wK xs xs.length=wK xs k)) (fun n=>(intOf n).toNat)
 case atStart=>exact⟨xs.length,uM _,rfl,rfl⟩
 case round =>
  obtain⟨k,u,rfl,d⟩:=hrel
  by_cases p:0<k
  ·obtain⟨b,q,rfl,v,f⟩:=H.out.at (i:=k-1) (by omega)
   obtain⟨x,g⟩:=yE (xs[k-1]?.getD 0)
   rw[g] at f
   have l:=zh g
   clear g
   by_cases j:x=0
   ·subst j
    go_wp2
    go_round
    case rel =>
     refine⟨k-1,by omega,by go_num,?_⟩
     have e:=d.out
     obtain⟨m,rfl⟩:∃ m,k=m+1:=⟨k-1,by omega⟩
     rw[wK,uL (by simpa using l.out)] at e
     exact e
    case measure=>simp[intOf];omega
   have r:(((x:Nat):Int) == 0)=false:=by simpa using j
   go_wp2
   go_ret
   refine⟨?_,rfl⟩
   have e:=d.out
   obtain⟨m,rfl⟩:∃ m,k=m+1:=⟨k-1,by omega⟩
   have a:=l.out
   simp only[vW] at a
   rw[wK,uJ (by rw[a];exact j)] at e
   rw[e];rfl
  obtain rfl:k=0:=by omega
  go_wp2
  go_ret
  exact⟨by rw[d.out];rfl,rfl⟩
theorem set_mid (a mid post:List Nat)(k v:Nat)(h:k<mid.length):(a ++ mid ++ post).set (a.length+k) v=a ++ mid.set k v ++ post:=by
 rw[tC,qY _ _ (by omega),Nat.add_sub_cancel_left,List.set_append_left _ _ h,tC]
theorem Zlk (a mid b:List Nat)(k:Nat)(h:k<mid.length):(a ++ mid ++ b)[a.length+k]?.getD 0=mid[k]?.getD 0:=by
 rw[tC,List.getElem?_append_right (by omega),Nat.add_sub_cancel_left,List.getElem?_append_left h]
theorem xL (B:Nat)(xs:List Nat)(k v:Nat)(h:k<xs.length):val B ((xs.set k v).take (k+1))=val B (xs.take k)+B^k*v:=by
 rw[zR k (by simpa using h),sU (uM k)]
 simp[h]
def dZ (mid ys:List Nat) (k:Nat) (m:List Nat) (c:Nat):Prop :=
 m.length=mid.length∧m.drop k=mid.drop k∧Dig W64 m∧val W64 (m.take k)+W64^k*c=val W64 (mid.take k)+val W64 (ys.take k)
theorem dZ.start (mid ys:List Nat)(h:Dig W64 mid):dZ mid ys 0 mid 0:=⟨rfl,rfl,h,by simp⟩
theorem dZ.at {mid ys m:List Nat}{k c:Nat}(h:dZ mid ys k m c):m[k]?.getD 0=mid[k]?.getD 0:=by
 have:=vP (fun l=>l[0]?.getD 0) h.2.1
 simpa [List.getElem?_drop] using this
theorem dZ.step {mid ys m:List Nat}{k c z y:Nat}(h:dZ mid ys k m c)(b:k<mid.length)(d:m[k]?.getD 0=z)(e:ys[k]?.getD 0=y)(a:k<ys.length):dZ mid ys (k+1) (m.set k (xI z y c)) (xO z y c):=by
 have f:mid[k]?.getD 0=z:=h.at.symm.trans d
 obtain⟨g,i,j,l⟩:=h
 refine⟨by simpa using g,?_,j.set k (dX _ _ _),?_⟩
 ·rw[vX (by omega),← vM,← vM,i]
 rw[xL _ _ _ _ (by omega),zR k b,zR k a,f,e,uO]
 exact Zbx _ _ _ _ _ _ _ _ _ _ l (fR z y c)
theorem dZ.done {mid ys m:List Nat}{k c:Nat}(h:dZ mid ys k m c)(b:ys.length≤k)(d:k≤mid.length)(e:c=0∨k=mid.length):val W64 m+W64^mid.length*c=val W64 mid+val W64 ys:=by
 obtain⟨f,g,i,a⟩:=h
 rw[uA (l:=ys) b] at a
 rcases e with rfl|rfl
 ·rw[xU (xs:=m) k,xU (xs:=mid) k,g,f]
  simp at a ⊢
  omega
 rw[uA (by omega),uA (by omega)] at a
 exact a
theorem Own.mid {t:TypeId}{w:World}{b:Nat}{a mid c:List Nat}(h:Own .u64 t w b (a ++ mid ++ c)){k:Nat}(d:k<mid.length):w.cell? ⟨b,a.length+k,none⟩=some (.int .u64 ((mid[k]?.getD 0:Nat):Int)):=by
 rw[h.cell (by simp;omega),Zlk _ _ _ _ d]
theorem Own.set_mid {t:TypeId}{w:World}{b:Nat}{a mid c:List Nat}(h:Own .u64 t w b (a ++ mid ++ c)){k:Nat}(d:k<mid.length)(v:Nat):Own .u64 t (w.setCell ⟨b,a.length+k,none⟩ (.int .u64 (v:Int))) b (a ++ mid.set k v ++ c):=by
 have:=h.set (a.length+k) v (by simp;omega)
 rwa [Go.Proofs.YtklpdkpcocnglaaGreatDoor.set_mid _ _ _ _ _ d] at this
def Zqc (t:TypeId) (b:Nat) (pre post:List Nat) (n:Nat) (Q:List Nat→Prop) (w w':World):Prop :=
 Fr (· = b) w w'∧lS t b w w'∧∃ m,Own .u64 t w' b (pre ++ m ++ post)∧m.length=n∧Dig W64 m∧Q m
end Go.Proofs.YtklpdkpcocnglaaGreatDoor
