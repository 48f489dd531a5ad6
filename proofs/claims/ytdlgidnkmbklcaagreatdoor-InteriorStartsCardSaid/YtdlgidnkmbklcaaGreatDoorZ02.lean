/-
 My texts.
-/
import Derived.Test.YtdlgidnkmbklcaaGreatDoorProg
import Derived.Test.YtdlgidnkmbklcaaGreatDoorZ00
import Derived.Test.YtdlgidnkmbklcaaGreatDoorZ01
set_option maxRecDepth 100000
set_option maxHeartbeats 8000000
namespace Go.Proofs.YtdlgidnkmbklcaaGreatDoor
open Go.RowKit Tryz
noncomputable def W64:Nat:=Classical.choose (p:=fun n:Nat=>n=18446744073709551616) ⟨_,rfl⟩
theorem zR:W64=18446744073709551616:=pP (p:=fun n:Nat=>n=18446744073709551616) ⟨_,rfl⟩
theorem zP:0<W64:=by have:=zR;omega
theorem fP:1<W64:=by have:=zR;omega
theorem Zkz:2≤W64:=by have:=zR;omega
noncomputable def xO (x y c:Nat):Nat:=(x+y+c)%W64
noncomputable def xU (x y c:Nat):Nat:=(x+y+c)/W64
noncomputable def kL (x y c:Nat):Nat:=(x+W64-y-c)%W64
def kM (x y c:Nat):Nat:=if x<y+c then 1 else 0
theorem fG (x y c:Nat):xO x y c+W64*xU x y c=x+y+c:=by
 unfold xO xU
 exact sH _ _
theorem dF (x y c:Nat):xO x y c<W64:=uO _ zP
theorem Zcr {x y c:Nat}(a:x<W64)(b:y<W64)(d:c≤1):xU x y c≤1:=by
 unfold xU
 rw[zR] at *
 omega
theorem Za0 {x y c:Nat}(a:x<W64)(b:y<W64)(d:c≤1):kL x y c+y+c=x+W64*kM x y c:=by
 unfold kL kM
 rw[zR] at *
 split<;>omega
theorem aW (x y c:Nat):kL x y c<W64:=uO _ zP
theorem Zcs (x y c:Nat):kM x y c≤1:=by unfold kM;split<;>omega
theorem gY (x y c:Nat)(a:c≤1)(w:World) :
 (callFunc 118 #[.int .u64 (x:Int),.int .u64 (y:Int),.int .u64 (c:Int)]).run prog w=.ok (.value (.tuple #[.int .u64 (xO x y c:Nat),.int .u64 (xU x y c:Nat)])) w:=by
 rw[run_callFunc_extern (fn:=Tryz.f118) qK qK qK qK (e:=add64Entry) qK,run_add64 x y c qO qO qO qO]
 simp only[Result.andThen,xO,xU,zR]
 congr 5<;>omega
def Zft:Array Value→Sem Value:=fun args=>do
 let (x, y, b) ← Extern.MathBitsCarry.three "Sub64" args
 pure (Extern.MathBitsCarry.pair ((x+Extern.MathBitsCarry.m64-y-b)%Extern.MathBitsCarry.m64) (if x<y+b then 1 else 0))
theorem ZmG {P:Program}(x y b:Nat)(a:b≤1)(w:World) :
 (Zft #[.int .u64 x,.int .u64 y,.int .u64 b]).run P w =
 .ok (.tuple #[.int .u64 (((x+18446744073709551616-y-b)%18446744073709551616:Nat):Int),.int .u64 ((if x<y+b then 1 else 0:Nat):Int)]) w:=by
 have:b=0∨b=1:=qO
 rcases this with rfl|rfl<;>rfl
theorem gZ (x y c:Nat)(a:c≤1)(w:World) :
 (callFunc 181 #[.int .u64 (x:Int),.int .u64 (y:Int),.int .u64 (c:Int)]).run prog w=.ok (.value (.tuple #[.int .u64 (kL x y c:Nat),.int .u64 (kM x y c:Nat)])) w:=by
 rw[run_callFunc_extern (fn:=Tryz.f181) qK qK qK qK (e:=Zft) qK,ZmG x y c a]
 simp only[Result.andThen,kL,kM,zR]
theorem Za1 (x y:Nat)(w:World) :
 (callFunc 118 #[.int .u64 (x:Int),.int .u64 (y:Int),.int .u64 0]).run prog w=.ok (.value (.tuple #[.int .u64 (xO x y 0:Nat),.int .u64 (xU x y 0:Nat)])) w:=gY x y 0 qO w
theorem Ziv (x y:Nat)(w:World) :
 (callFunc 181 #[.int .u64 (x:Int),.int .u64 (y:Int),.int .u64 0]).run prog w=.ok (.value (.tuple #[.int .u64 (kL x y 0:Nat),.int .u64 (kM x y 0:Nat)])) w:=gZ x y 0 qO w
abbrev yA:=@Calls prog
def wO (xs:List Nat):Nat→Nat
 | 0=>0
 | n+1=>if xs[n]?.getD 0=0 then wO xs n else n+1
theorem iY (xs:qN)(n:Nat):wO xs n≤n:=by
 induction n with
 | zero=>exact uF _
 | succ n ih=>unfold wO;split<;>omega
def wL (xs:List Nat):List Nat:=xs.take (wO xs xs.length)
theorem Ziw (xs:qN)(n:Nat)(h:n≤xs.length):Trim (xs.take (wO xs n)):=by
 induction n with
 | zero=>intro k a;simp[wO] at a
 | succ n ih =>
  unfold wO
  split
  ·exact ih qO
  rename_i b
  intro k a
  rw[uM] at a
  have:k=n:=qO
  subst this
  rw[tP qO]
  exact b
theorem iG (xs:qN):Trim (wL xs):=Ziw xs _ (uF _)
theorem ZjU (B:Nat)(xs:qN)(n:Nat)(h:n≤xs.length):val B (xs.take (wO xs n))=val B (xs.take n):=by
 induction n with
 | zero=>rfl
 | succ n ih =>
  unfold wO
  split
  ·rename_i a
   rw[ih qO,zU n qO,a];simp
  rfl
theorem lC (B:Nat)(xs:qN):val B (wL xs)=val B xs:=by
 unfold wL;rw[ZjU B xs _ (uF _),sP]
theorem wM (xs:qN):(wL xs).length=wO xs xs.length:=by
 unfold wL;rw[uM];have:=iY xs xs.length;omega
theorem iD {B:Nat}{xs:qN}(h:Dig B xs):Dig B (wL xs):=h.take _
theorem eC (A:qA)(xs:qN)(n c:Nat)(w:World)(o:xs.length=n)(h:zH .u64 w A xs)(s:xs.length≤c)(t:xs.length≤1099511627776) :
 yA 158 #[.slice A n c] w fun e w'=>e=.returned (.slice A (wO xs xs.length) c)∧w=w':=by
 subst o
 have H:=zh h
 clear h
 go_enter func158,ntmps158
 go_wp2
 go_loop [3] (fun n=>∃ k:Nat,k≤xs.length∧n=.int .i64 k∧Hid (wO xs xs.length=wO xs k)) (fun n=>(intOf n).toNat)
 case atStart=>exact⟨xs.length,uF _,rfl,rfl⟩
 case round =>
  obtain⟨k,u,rfl,d⟩:=hrel
  by_cases p:0<k
  ·obtain⟨b,q,rfl,v,f⟩:=H.out.at (i:=k-1) qO
   obtain⟨x,g⟩:=yE (xs[k-1]?.getD 0)
   rw[g] at f
   have l:=zh g
   clear g
   by_cases j:x=0
   ·subst j
    go_wp2
    go_round
    case rel =>
     refine⟨k-1,qO,by go_num,?_⟩
     have e:=d.out
     obtain⟨m,rfl⟩:∃ m,k=m+1:=⟨k-1,qO⟩
     rw[wO,uZ (by simpa using l.out)] at e
     exact e
    case measure=>simp[intOf];omega
   have r:(((x:Nat):Int) == 0)=false:=by simpa using j
   go_wp2
   go_ret
   refine⟨?_,rfl⟩
   have e:=d.out
   obtain⟨m,rfl⟩:∃ m,k=m+1:=⟨k-1,qO⟩
   have a:=l.out
   simp only[tN] at a
   rw[wO,uQ (by rw[a];exact j)] at e
   rw[e];rfl
  obtain rfl:k=0:=qO
  go_wp2
  go_ret
  exact⟨by rw[d.out];rfl,rfl⟩
theorem set_mid (a mid post:qN)(k v:Nat)(h:k<mid.length):(a ++ mid ++ post).set (a.length+k) v=a ++ mid.set k v ++ post:=by
 rw[vU,pB _ _ qO,Nat.add_sub_cancel_left,List.set_append_left _ _ h,vU]
theorem ZkA (a mid b:qN)(k:Nat)(h:k<mid.length):(a ++ mid ++ b)[a.length+k]?.getD 0=mid[k]?.getD 0:=by
 rw[vU,sJ qO,Nat.add_sub_cancel_left,rN h]
theorem xN (B:Nat)(xs:qN)(k v:Nat)(h:k<xs.length):val B ((xs.set k v).take (k+1))=val B (xs.take k)+B^k*v:=by
 rw[zU k (by simpa using h),rP (uF k)]
 simp[h]
def dH (mid ys:List Nat) (k:Nat) (m:List Nat) (c:Nat):Prop :=
 m.length=mid.length∧m.drop k=mid.drop k∧Dig W64 m∧val W64 (m.take k)+W64^k*c=val W64 (mid.take k)+val W64 (ys.take k)
theorem dH.start (mid ys:qN)(h:Dig W64 mid):dH mid ys 0 mid 0:=⟨rfl,rfl,h,qS⟩
theorem dH.at {mid ys m:qN}{k c:Nat}(h:dH mid ys k m c):m[k]?.getD 0=mid[k]?.getD 0:=by
 have:=uX (fun l=>l[0]?.getD 0) h.2.1
 simpa [vJ] using this
theorem dH.step {mid ys m:qN}{k c z y:Nat}(h:dH mid ys k m c)(b:k<mid.length)(d:m[k]?.getD 0=z)(e:ys[k]?.getD 0=y)(a:k<ys.length):dH mid ys (k+1) (m.set k (xO z y c)) (xU z y c):=by
 have f:mid[k]?.getD 0=z:=h.at.symm.trans d
 obtain⟨g,i,j,l⟩:=h
 refine⟨by simpa using g,?_,j.set k (dF _ _ _),?_⟩
 ·rw[tJ qO,← vV,← vV,i]
 rw[xN _ _ _ _ qO,zU k b,zU k a,f,e,uP]
 exact ZaZ _ _ _ _ _ _ _ _ _ _ l (fG z y c)
theorem dH.done {mid ys m:qN}{k c:Nat}(h:dH mid ys k m c)(b:ys.length≤k)(d:k≤mid.length)(e:c=0∨k=mid.length):val W64 m+W64^mid.length*c=val W64 mid+val W64 ys:=by
 obtain⟨f,g,i,a⟩:=h
 rw[uA (l:=ys) b] at a
 rcases e with rfl|rfl
 ·rw[xS (xs:=m) k,xS (xs:=mid) k,g,f]
  simp at a ⊢
  omega
 rw[uA qO,uA qO] at a
 exact a
theorem Own.mid {t:TypeId}{w:World}{b:Nat}{a mid c:qN}(h:Own .u64 t w b (a ++ mid ++ c)){k:Nat}(d:k<mid.length):w.cell? ⟨b,a.length+k,none⟩=some (.int .u64 ((mid[k]?.getD 0:Nat):Int)):=by
 rw[h.cell (by simp;omega),ZkA _ _ _ _ d]
theorem Own.set_mid {t:TypeId}{w:World}{b:Nat}{a mid c:qN}(h:Own .u64 t w b (a ++ mid ++ c)){k:Nat}(d:k<mid.length)(v:Nat):Own .u64 t (w.setCell ⟨b,a.length+k,none⟩ (.int .u64 (v:Int))) b (a ++ mid.set k v ++ c):=by
 have:=h.set (a.length+k) v (by simp;omega)
 rwa [Go.Proofs.YtdlgidnkmbklcaaGreatDoor.set_mid _ _ _ _ _ d] at this
def Zqd (t:TypeId) (b:Nat) (pre post:List Nat) (n:Nat) (Q:List Nat→Prop) (w w':World):Prop :=
 Fr (· = b) w w'∧lT t b w w'∧∃ m,Own .u64 t w' b (pre ++ m ++ post)∧m.length=n∧Dig W64 m∧Q m
end Go.Proofs.YtdlgidnkmbklcaaGreatDoor
