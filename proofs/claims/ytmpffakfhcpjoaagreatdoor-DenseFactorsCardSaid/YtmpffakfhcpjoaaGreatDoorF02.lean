/-
 My texts.
-/
import Derived.Test.YtmpffakfhcpjoaaGreatDoorProg
import Derived.Test.YtmpffakfhcpjoaaGreatDoorF00
import Derived.Test.YtmpffakfhcpjoaaGreatDoorF01
set_option maxRecDepth 100000
set_option maxHeartbeats 8000000
namespace Go.Proofs.YtmpffakfhcpjoaaGreatDoor
open Go.RowKit Tryz
noncomputable def W64:Nat:=Classical.choose (p:=fun n:Nat=>n=18446744073709551616) ⟨_,rfl⟩
theorem zN:W64=18446744073709551616:=oP (p:=fun n:Nat=>n=18446744073709551616) ⟨_,rfl⟩
theorem zK:0<W64:=by have:=zN;omega
theorem eJ:1<W64:=by have:=zN;omega
theorem ZlC:2≤W64:=by have:=zN;omega
noncomputable def xJ (x y c:Nat):Nat:=(x+y+c)%W64
noncomputable def xN (x y c:Nat):Nat:=(x+y+c)/W64
noncomputable def lW (x y c:Nat):Nat:=(x+W64-y-c)%W64
def lX (x y c:Nat):Nat:=if x<y+c then 1 else 0
theorem fZ (x y c:Nat):xJ x y c+W64*xN x y c=x+y+c:=by
 unfold xJ xN
 exact sM _ _
theorem cK (x y c:Nat):xJ x y c<W64:=uP _ zK
theorem Zc4 {x y c:Nat}(a:x<W64)(b:y<W64)(d:c≤1):xN x y c≤1:=by
 unfold xN
 rw[zN] at *
 omega
theorem ZbA {x y c:Nat}(a:x<W64)(b:y<W64)(d:c≤1):lW x y c+y+c=x+W64*lX x y c:=by
 unfold lW lX
 rw[zN] at *
 split<;>omega
theorem Zaj (x y c:Nat):lW x y c<W64:=uP _ zK
theorem Zc5 (x y c:Nat):lX x y c≤1:=by unfold lX;split<;>omega
theorem fQ (x y c:Nat)(a:c≤1)(w:World) :
 (callFunc 118 #[.int .u64 (x:Int),.int .u64 (y:Int),.int .u64 (c:Int)]).run prog w=.ok (.value (.tuple #[.int .u64 (xJ x y c:Nat),.int .u64 (xN x y c:Nat)])) w:=by
 rw[run_callFunc_extern (fn:=Tryz.f118) qK qK qK qK (e:=add64Entry) qK,run_add64 x y c qO qO qO qO]
 simp only[Result.andThen,xJ,xN,zN]
 congr 5<;>omega
def Zf9:Array Value→Sem Value:=fun args=>do
 let (x, y, b) ← Extern.MathBitsCarry.three "Sub64" args
 pure (Extern.MathBitsCarry.pair ((x+Extern.MathBitsCarry.m64-y-b)%Extern.MathBitsCarry.m64) (if x<y+b then 1 else 0))
theorem Zn2 {P:Program}(x y b:Nat)(a:b≤1)(w:World) :
 (Zf9 #[.int .u64 x,.int .u64 y,.int .u64 b]).run P w =
 .ok (.tuple #[.int .u64 (((x+18446744073709551616-y-b)%18446744073709551616:Nat):Int),.int .u64 ((if x<y+b then 1 else 0:Nat):Int)]) w:=by
 have:b=0∨b=1:=qO
 rcases this with rfl|rfl<;>rfl
theorem fR (x y c:Nat)(a:c≤1)(w:World) :
 (callFunc 175 #[.int .u64 (x:Int),.int .u64 (y:Int),.int .u64 (c:Int)]).run prog w=.ok (.value (.tuple #[.int .u64 (lW x y c:Nat),.int .u64 (lX x y c:Nat)])) w:=by
 rw[run_callFunc_extern (fn:=Tryz.f175) qK qK qK qK (e:=Zf9) qK,Zn2 x y c a]
 simp only[Result.andThen,lW,lX,zN]
theorem ZbB (x y:Nat)(w:World) :
 (callFunc 118 #[.int .u64 (x:Int),.int .u64 (y:Int),.int .u64 0]).run prog w=.ok (.value (.tuple #[.int .u64 (xJ x y 0:Nat),.int .u64 (xN x y 0:Nat)])) w:=fQ x y 0 qO w
theorem Zje (x y:Nat)(w:World) :
 (callFunc 175 #[.int .u64 (x:Int),.int .u64 (y:Int),.int .u64 0]).run prog w=.ok (.value (.tuple #[.int .u64 (lW x y 0:Nat),.int .u64 (lX x y 0:Nat)])) w:=fR x y 0 qO w
abbrev Ζ:=@Calls prog
def wU (xs:List Nat):Nat→Nat
 | 0=>0
 | n+1=>if xs[n]?.getD 0=0 then wU xs n else n+1
theorem gN (xs:qN)(n:Nat):wU xs n≤n:=by
 induction n with
 | zero=>exact uF _
 | succ n ih=>unfold wU;split<;>omega
def wL (xs:List Nat):List Nat:=xs.take (wU xs xs.length)
theorem Zjf (xs:qN)(n:Nat)(h:n≤xs.length):Trim (xs.take (wU xs n)):=by
 induction n with
 | zero=>intro k a;simp[wU] at a
 | succ n ih =>
  unfold wU
  split
  ·exact ih qO
  rename_i b
  intro k a
  rw[uN] at a
  have:k=n:=qO
  subst this
  rw[tU qO]
  exact b
theorem iQ (xs:qN):Trim (wL xs):=Zjf xs _ (uF _)
theorem ZkO (B:Nat)(xs:qN)(n:Nat)(h:n≤xs.length):val B (xs.take (wU xs n))=val B (xs.take n):=by
 induction n with
 | zero=>rfl
 | succ n ih =>
  unfold wU
  split
  ·rename_i a
   rw[ih qO,zV n qO,a];simp
  rfl
theorem lG (B:Nat)(xs:qN):val B (wL xs)=val B xs:=by
 unfold wL;rw[ZkO B xs _ (uF _),pK]
theorem wQ (xs:qN):(wL xs).length=wU xs xs.length:=by
 unfold wL;rw[uN];have:=gN xs xs.length;omega
theorem iM {B:Nat}{xs:qN}(h:Dig B xs):Dig B (wL xs):=h.take _
theorem dG (A:qA)(xs:qN)(n c:Nat)(w:World)(o:xs.length=n)(h:zI .u64 w A xs)(s:xs.length≤c)(t:xs.length≤1099511627776) :
 Ζ 144 #[.slice A n c] w fun e w'=>e=.returned (.slice A (wU xs xs.length) c)∧w=w':=by
 subst o
 have H:=zh h
 clear h
 go_enter func144,ntmps144
 go_wp2
 go_loop [3] (fun n=>∃ k:Nat,k≤xs.length∧n=.int .i64 k∧Hid (wU xs xs.length=wU xs k)) (fun n=>(intOf n).toNat)
 case atStart=>exact⟨xs.length,uF _,rfl,rfl⟩
 case round =>
  obtain⟨k,u,rfl,d⟩:=hrel
  by_cases p:0<k
  ·obtain⟨b,q,rfl,v,f⟩:=H.out.at (i:=k-1) qO
   obtain⟨x,g⟩:=yE (xs[k-1]?.getD 0)
   rw[g] at f
   have l:=zh g
   clear g
   by_cases j:x=0
   ·subst j
    go_wp2
    go_round
    case rel =>
     refine⟨k-1,qO,by go_num,?_⟩
     have e:=d.out
     obtain⟨m,rfl⟩:∃ m,k=m+1:=⟨k-1,qO⟩
     rw[wU,uM (by simpa using l.out)] at e
     exact e
    case measure=>simp[intOf];omega
   have r:(((x:Nat):Int) == 0)=false:=by simpa using j
   go_wp2
   go_ret
   refine⟨?_,rfl⟩
   have e:=d.out
   obtain⟨m,rfl⟩:∃ m,k=m+1:=⟨k-1,qO⟩
   have a:=l.out
   simp only[tK] at a
   rw[wU,uI (by rw[a];exact j)] at e
   rw[e];rfl
  obtain rfl:k=0:=qO
  go_wp2
  go_ret
  exact⟨by rw[d.out];rfl,rfl⟩
theorem set_mid (a mid post:qN)(k v:Nat)(h:k<mid.length):(a ++ mid ++ post).set (a.length+k) v=a ++ mid.set k v ++ post:=by
 rw[tD,pP _ _ qO,Nat.add_sub_cancel_left,List.set_append_left _ _ h,tD]
theorem ZlD (a mid b:qN)(k:Nat)(h:k<mid.length):(a ++ mid ++ b)[a.length+k]?.getD 0=mid[k]?.getD 0:=by
 rw[tD,sN qO,Nat.add_sub_cancel_left,rP h]
theorem xL (B:Nat)(xs:qN)(k v:Nat)(h:k<xs.length):val B ((xs.set k v).take (k+1))=val B (xs.take k)+B^k*v:=by
 rw[zV k (by simpa using h),rR (uF k)]
 simp[h]
def cO (mid ys:List Nat) (k:Nat) (m:List Nat) (c:Nat):Prop :=
 m.length=mid.length∧m.drop k=mid.drop k∧Dig W64 m∧val W64 (m.take k)+W64^k*c=val W64 (mid.take k)+val W64 (ys.take k)
theorem cO.start (mid ys:qN)(h:Dig W64 mid):cO mid ys 0 mid 0:=⟨rfl,rfl,h,qS⟩
theorem cO.at {mid ys m:qN}{k c:Nat}(h:cO mid ys k m c):m[k]?.getD 0=mid[k]?.getD 0:=by
 have:=vP (fun l=>l[0]?.getD 0) h.2.1
 simpa [vR] using this
theorem cO.step {mid ys m:qN}{k c z y:Nat}(h:cO mid ys k m c)(b:k<mid.length)(d:m[k]?.getD 0=z)(e:ys[k]?.getD 0=y)(a:k<ys.length):cO mid ys (k+1) (m.set k (xJ z y c)) (xN z y c):=by
 have f:mid[k]?.getD 0=z:=h.at.symm.trans d
 obtain⟨g,i,j,l⟩:=h
 refine⟨by simpa using g,?_,j.set k (cK _ _ _),?_⟩
 ·rw[tN qO,← tA,← tA,i]
 rw[xL _ _ _ _ qO,zV k b,zV k a,f,e,uO]
 exact Zbz _ _ _ _ _ _ _ _ _ _ l (fZ z y c)
theorem cO.done {mid ys m:qN}{k c:Nat}(h:cO mid ys k m c)(b:ys.length≤k)(d:k≤mid.length)(e:c=0∨k=mid.length):val W64 m+W64^mid.length*c=val W64 mid+val W64 ys:=by
 obtain⟨f,g,i,a⟩:=h
 rw[uB (l:=ys) b] at a
 rcases e with rfl|rfl
 ·rw[xX (xs:=m) k,xX (xs:=mid) k,g,f]
  simp at a ⊢
  omega
 rw[uB qO,uB qO] at a
 exact a
theorem Own.mid {t:TypeId}{w:World}{b:Nat}{a mid c:qN}(h:Own .u64 t w b (a ++ mid ++ c)){k:Nat}(d:k<mid.length):w.cell? ⟨b,a.length+k,none⟩=some (.int .u64 ((mid[k]?.getD 0:Nat):Int)):=by
 rw[h.cell (by simp;omega),ZlD _ _ _ _ d]
theorem Own.set_mid {t:TypeId}{w:World}{b:Nat}{a mid c:qN}(h:Own .u64 t w b (a ++ mid ++ c)){k:Nat}(d:k<mid.length)(v:Nat):Own .u64 t (w.setCell ⟨b,a.length+k,none⟩ (.int .u64 (v:Int))) b (a ++ mid.set k v ++ c):=by
 have:=h.set (a.length+k) v (by simp;omega)
 rwa [Go.Proofs.YtmpffakfhcpjoaaGreatDoor.set_mid _ _ _ _ _ d] at this
def Zr7 (t:TypeId) (b:Nat) (pre post:List Nat) (n:Nat) (Q:List Nat→Prop) (w w':World):Prop :=
 Fr (· = b) w w'∧lT t b w w'∧∃ m,Own .u64 t w' b (pre ++ m ++ post)∧m.length=n∧Dig W64 m∧Q m
end Go.Proofs.YtmpffakfhcpjoaaGreatDoor
