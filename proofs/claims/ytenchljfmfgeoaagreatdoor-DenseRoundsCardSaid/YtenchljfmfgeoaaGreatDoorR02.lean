/-
 My texts Bits, Words1, PrimeW, ShortS put together.
-/
import Derived.Test.YtenchljfmfgeoaaGreatDoorProg
import Derived.Test.YtenchljfmfgeoaaGreatDoorR00
import Derived.Test.YtenchljfmfgeoaaGreatDoorR01
import Derived.Laws.Externs
import Derived.IntWalk
set_option maxRecDepth 100000
set_option maxHeartbeats 8000000
namespace Go.Proofs.YtenchljfmfgeoaaGreatDoor
open Go.RowKit Tryz
noncomputable def W64:Nat:=Classical.choose (p:=fun n:Nat=>n=18446744073709551616) ⟨_,rfl⟩
theorem zO:W64=18446744073709551616:=pU (p:=fun n:Nat=>n=18446744073709551616) ⟨_,rfl⟩
theorem zM:0<W64:=by have:=zO;omega
theorem fM:1<W64:=by have:=zO;omega
theorem Zkg:2≤W64:=by have:=zO;omega
noncomputable def xG (x y c:Nat):Nat:=(x+y+c)%W64
noncomputable def xL (x y c:Nat):Nat:=(x+y+c)/W64
noncomputable def lN (x y c:Nat):Nat:=(x+W64-y-c)%W64
def lO (x y c:Nat):Nat:=if x<y+c then 1 else 0
theorem fF (x y c:Nat):xG x y c+W64*xL x y c=x+y+c:=by
 unfold xG xL
 exact sF _ _
theorem dB (x y c:Nat):xG x y c<W64:=uM _ zM
theorem Zcj {x y c:Nat}(a:x<W64)(b:y<W64)(d:c≤1):xL x y c≤1:=by
 unfold xL
 rw[zO] at *
 omega
theorem ZaU {x y c:Nat}(a:x<W64)(b:y<W64)(d:c≤1):lN x y c+y+c=x+W64*lO x y c:=by
 unfold lN lO
 rw[zO] at *
 split<;>omega
theorem aB (x y c:Nat):lN x y c<W64:=uM _ zM
theorem Zck (x y c:Nat):lO x y c≤1:=by unfold lO;split<;>omega
theorem gW (x y c:Nat)(a:c≤1)(w:World) :
 (callFunc 162 #[.int .u64 (x:Int),.int .u64 (y:Int),.int .u64 (c:Int)]).run prog w=.ok (.value (.tuple #[.int .u64 (xG x y c:Nat),.int .u64 (xL x y c:Nat)])) w:=by
 rw[run_callFunc_extern (fn:=Tryz.f162) qK qK qK qK (e:=add64Entry) qK,run_add64 x y c qO qO qO qO]
 simp only[Result.andThen,xG,xL,zO]
 congr 5<;>omega
def Zfc:Array Value→Sem Value:=fun args=>do
 let (x, y, b) ← Extern.MathBitsCarry.three "Sub64" args
 pure (Extern.MathBitsCarry.pair ((x+Extern.MathBitsCarry.m64-y-b)%Extern.MathBitsCarry.m64) (if x<y+b then 1 else 0))
theorem ZmE {P:Program}(x y b:Nat)(a:b≤1)(w:World) :
 (Zfc #[.int .u64 x,.int .u64 y,.int .u64 b]).run P w =
 .ok (.tuple #[.int .u64 (((x+18446744073709551616-y-b)%18446744073709551616:Nat):Int),.int .u64 ((if x<y+b then 1 else 0:Nat):Int)]) w:=by
 have:b=0∨b=1:=qO
 rcases this with rfl|rfl<;>rfl
theorem gX (x y c:Nat)(a:c≤1)(w:World) :
 (callFunc 172 #[.int .u64 (x:Int),.int .u64 (y:Int),.int .u64 (c:Int)]).run prog w=.ok (.value (.tuple #[.int .u64 (lN x y c:Nat),.int .u64 (lO x y c:Nat)])) w:=by
 rw[run_callFunc_extern (fn:=Tryz.f172) qK qK qK qK (e:=Zfc) qK,ZmE x y c a]
 simp only[Result.andThen,lN,lO,zO]
theorem ZaV (x y:Nat)(w:World) :
 (callFunc 162 #[.int .u64 (x:Int),.int .u64 (y:Int),.int .u64 0]).run prog w=.ok (.value (.tuple #[.int .u64 (xG x y 0:Nat),.int .u64 (xL x y 0:Nat)])) w:=gW x y 0 qO w
theorem Zh2 (x y:Nat)(w:World) :
 (callFunc 172 #[.int .u64 (x:Int),.int .u64 (y:Int),.int .u64 0]).run prog w=.ok (.value (.tuple #[.int .u64 (lN x y 0:Nat),.int .u64 (lO x y 0:Nat)])) w:=gX x y 0 qO w
abbrev yA:=@Calls prog
def wM (xs:List Nat):Nat→Nat
 | 0=>0
 | n+1=>if xs[n]?.getD 0=0 then wM xs n else n+1
theorem iR (xs:qN)(n:Nat):wM xs n≤n:=by
 induction n with
 | zero=>exact uF _
 | succ n ih=>unfold wM;split<;>omega
def wH (xs:List Nat):List Nat:=xs.take (wM xs xs.length)
theorem Zh3 (xs:qN)(n:Nat)(h:n≤xs.length):Trim (xs.take (wM xs n)):=by
 induction n with
 | zero=>intro k a;simp[wM] at a
 | succ n ih =>
  unfold wM
  split
  ·exact ih qO
  rename_i b
  intro k a
  rw[uL] at a
  have:k=n:=qO
  subst this
  rw[sA qO]
  exact b
theorem jZ (xs:qN):Trim (wH xs):=Zh3 xs _ (uF _)
theorem ZjA (B:Nat)(xs:qN)(n:Nat)(h:n≤xs.length):val B (xs.take (wM xs n))=val B (xs.take n):=by
 induction n with
 | zero=>rfl
 | succ n ih =>
  unfold wM
  split
  ·rename_i a
   rw[ih qO,zU n qO,a];simp
  rfl
theorem lA (B:Nat)(xs:qN):val B (wH xs)=val B xs:=by
 unfold wH;rw[ZjA B xs _ (uF _),rB]
theorem wJ (xs:qN):(wH xs).length=wM xs xs.length:=by
 unfold wH;rw[uL];have:=iR xs xs.length;omega
theorem jW {B:Nat}{xs:qN}(h:Dig B xs):Dig B (wH xs):=h.take _
theorem fX (A:qA)(xs:qN)(n c:Nat)(w:World)(o:xs.length=n)(h:zE .u64 w A xs)(s:xs.length≤c)(t:xs.length≤1099511627776) :
 yA 189 #[.slice A n c] w fun e w'=>e=.returned (.slice A (wM xs xs.length) c)∧w=w':=by
 subst o
 have H:=zh h
 clear h
 go_enter func189,ntmps189
 go_wp2
 go_loop [3] (fun n=>∃ k:Nat,k≤xs.length∧n=.int .i64 k∧Hid (wM xs xs.length=wM xs k)) (fun n=>(intOf n).toNat)
 case atStart=>exact⟨xs.length,uF _,rfl,rfl⟩
 case round =>
  obtain⟨k,u,rfl,d⟩:=hrel
  by_cases p:0<k
  ·obtain⟨b,q,rfl,v,f⟩:=H.out.at (i:=k-1) qO
   obtain⟨x,g⟩:=yE (xs[k-1]?.getD 0)
   rw[g] at f
   have l:=zh g
   clear g
   by_cases j:x=0
   ·subst j
    go_wp2
    go_round
    case rel =>
     refine⟨k-1,qO,by go_num,?_⟩
     have e:=d.out
     obtain⟨m,rfl⟩:∃ m,k=m+1:=⟨k-1,qO⟩
     rw[wM,vC (by simpa using l.out)] at e
     exact e
    case measure=>simp[intOf];omega
   have r:(((x:Nat):Int) == 0)=false:=by simpa using j
   go_wp2
   go_ret
   refine⟨?_,rfl⟩
   have e:=d.out
   obtain⟨m,rfl⟩:∃ m,k=m+1:=⟨k-1,qO⟩
   have a:=l.out
   simp only[tM] at a
   rw[wM,uO (by rw[a];exact j)] at e
   rw[e];rfl
  obtain rfl:k=0:=qO
  go_wp2
  go_ret
  exact⟨by rw[d.out];rfl,rfl⟩
theorem set_mid (a mid post:qN)(k v:Nat)(h:k<mid.length):(a ++ mid ++ post).set (a.length+k) v=a ++ mid.set k v ++ post:=by
 rw[vU,pA _ _ qO,Nat.add_sub_cancel_left,List.set_append_left _ _ h,vU]
theorem Zkh (a mid b:qN)(k:Nat)(h:k<mid.length):(a ++ mid ++ b)[a.length+k]?.getD 0=mid[k]?.getD 0:=by
 rw[vU,sO qO,Nat.add_sub_cancel_left,qB h]
theorem xJ (B:Nat)(xs:qN)(k v:Nat)(h:k<xs.length):val B ((xs.set k v).take (k+1))=val B (xs.take k)+B^k*v:=by
 rw[zU k (by simpa using h),rE (uF k)]
 simp[h]
def dD (mid ys:List Nat) (k:Nat) (m:List Nat) (c:Nat):Prop :=
 m.length=mid.length∧m.drop k=mid.drop k∧Dig W64 m∧val W64 (m.take k)+W64^k*c=val W64 (mid.take k)+val W64 (ys.take k)
theorem dD.start (mid ys:qN)(h:Dig W64 mid):dD mid ys 0 mid 0:=⟨rfl,rfl,h,qS⟩
theorem dD.at {mid ys m:qN}{k c:Nat}(h:dD mid ys k m c):m[k]?.getD 0=mid[k]?.getD 0:=by
 have:=vI (fun l=>l[0]?.getD 0) h.2.1
 simpa [vK] using this
theorem dD.step {mid ys m:qN}{k c z y:Nat}(h:dD mid ys k m c)(b:k<mid.length)(d:m[k]?.getD 0=z)(e:ys[k]?.getD 0=y)(a:k<ys.length):dD mid ys (k+1) (m.set k (xG z y c)) (xL z y c):=by
 have f:mid[k]?.getD 0=z:=h.at.symm.trans d
 obtain⟨g,i,j,l⟩:=h
 refine⟨by simpa using g,?_,j.set k (dB _ _ _),?_⟩
 ·rw[tJ qO,← vV,← vV,i]
 rw[xJ _ _ _ _ qO,zU k b,zU k a,f,e,uN]
 exact ZaT _ _ _ _ _ _ _ _ _ _ l (fF z y c)
theorem dD.done {mid ys m:qN}{k c:Nat}(h:dD mid ys k m c)(b:ys.length≤k)(d:k≤mid.length)(e:c=0∨k=mid.length):val W64 m+W64^mid.length*c=val W64 mid+val W64 ys:=by
 obtain⟨f,g,i,a⟩:=h
 rw[uC (l:=ys) b] at a
 rcases e with rfl|rfl
 ·rw[xP (xs:=m) k,xP (xs:=mid) k,g,f]
  simp at a ⊢
  omega
 rw[uC qO,uC qO] at a
 exact a
theorem Own.mid {t:TypeId}{w:World}{b:Nat}{a mid c:qN}(h:Own .u64 t w b (a ++ mid ++ c)){k:Nat}(d:k<mid.length):w.cell? ⟨b,a.length+k,none⟩=some (.int .u64 ((mid[k]?.getD 0:Nat):Int)):=by
 rw[h.cell (by simp;omega),Zkh _ _ _ _ d]
theorem Own.set_mid {t:TypeId}{w:World}{b:Nat}{a mid c:qN}(h:Own .u64 t w b (a ++ mid ++ c)){k:Nat}(d:k<mid.length)(v:Nat):Own .u64 t (w.setCell ⟨b,a.length+k,none⟩ (.int .u64 (v:Int))) b (a ++ mid.set k v ++ c):=by
 have:=h.set (a.length+k) v (by simp;omega)
 rwa [Go.Proofs.YtenchljfmfgeoaaGreatDoor.set_mid _ _ _ _ _ d] at this
def Zqd (t:TypeId) (b:Nat) (pre post:List Nat) (n:Nat) (Q:List Nat→Prop) (w w':World):Prop :=
 Fr (· = b) w w'∧lM t b w w'∧∃ m,Own .u64 t w' b (pre ++ m ++ post)∧m.length=n∧Dig W64 m∧Q m
end Go.Proofs.YtenchljfmfgeoaaGreatDoor
