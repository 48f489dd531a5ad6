/-
 My texts Bits, Words1, PrimeW, ShortS put together.
-/
import Derived.Test.YtklpdkpcocnglaaGreatDoorProg
import Derived.Test.YtklpdkpcocnglaaGreatDoorU00
import Derived.Test.YtklpdkpcocnglaaGreatDoorU01
import Derived.Laws.Externs
import Derived.IntWalk
set_option maxRecDepth 100000
set_option maxHeartbeats 8000000
namespace Go.Proofs.YtklpdkpcocnglaaGreatDoor
open Go.RowKit
noncomputable def W64:Nat:=Classical.choose (p:=fun n:Nat=>n=18446744073709551616) ⟨_,rfl⟩
theorem Zao:W64=18446744073709551616:=qI (p:=fun n:Nat=>n=18446744073709551616) ⟨_,rfl⟩
theorem Zan:0<W64:=by have:=Zao;omega
theorem ZdH:1<W64:=by have:=Zao;omega
theorem Zpt:2≤W64:=by have:=Zao;omega
noncomputable def ZaI (x y c:Nat):Nat:=(x+y+c)%W64
noncomputable def ZaM (x y c:Nat):Nat:=(x+y+c)/W64
noncomputable def ZbC (x y c:Nat):Nat:=(x+W64-y-c)%W64
def ZbD (x y c:Nat):Nat:=if x<y+c then 1 else 0
theorem Zdz (x y c:Nat):ZaI x y c+W64*ZaM x y c=x+y+c:=by
 unfold ZaI ZaM
 exact tS _ _
theorem Zej (x y c:Nat):ZaI x y c<W64:=uM _ Zan
theorem ZhG {x y c:Nat}(a:x<W64)(b:y<W64)(d:c≤1):ZaM x y c≤1:=by
 unfold ZaM
 rw[Zao] at *
 omega
theorem Zgr {x y c:Nat}(a:x<W64)(b:y<W64)(d:c≤1):ZbC x y c+y+c=x+W64*ZbD x y c:=by
 unfold ZbC ZbD
 rw[Zao] at *
 split<;>omega
theorem Zfq (x y c:Nat):ZbC x y c<W64:=uM _ Zan
theorem ZhH (x y c:Nat):ZbD x y c≤1:=by unfold ZbD;split<;>omega
theorem Zdr (x y c:Nat)(a:c≤1)(w:World) :
 (callFunc 146 #[.int .u64 (x:Int),.int .u64 (y:Int),.int .u64 (c:Int)]).run Tryz.prog w=.ok (.value (.tuple #[.int .u64 (ZaI x y c:Nat),.int .u64 (ZaM x y c:Nat)])) w:=by
 rw[run_callFunc_extern (fn:=Tryz.f146) (by kernel_rfl) (by kernel_rfl) (by kernel_rfl) (by kernel_rfl) (e:=add64Entry) (by kernel_rfl),run_add64 x y c (by omega) (by omega) (by omega) (by omega)]
 simp only[Result.andThen,ZaI,ZaM,Zao]
 congr 5<;>omega
def Zky:Array Value→Sem Value:=fun args=>do
 let (x, y, b) ← Extern.MathBitsCarry.three "Sub64" args
 pure (Extern.MathBitsCarry.pair ((x+Extern.MathBitsCarry.m64-y-b)%Extern.MathBitsCarry.m64) (if x<y+b then 1 else 0))
theorem Zrx {P:Program}(x y b:Nat)(a:b≤1)(w:World) :
 (Zky #[.int .u64 x,.int .u64 y,.int .u64 b]).run P w =
 .ok (.tuple #[.int .u64 (((x+18446744073709551616-y-b)%18446744073709551616:Nat):Int),.int .u64 ((if x<y+b then 1 else 0:Nat):Int)]) w:=by
 have:b=0∨b=1:=by omega
 rcases this with rfl|rfl<;>rfl
theorem Zds (x y c:Nat)(a:c≤1)(w:World) :
 (callFunc 159 #[.int .u64 (x:Int),.int .u64 (y:Int),.int .u64 (c:Int)]).run Tryz.prog w=.ok (.value (.tuple #[.int .u64 (ZbC x y c:Nat),.int .u64 (ZbD x y c:Nat)])) w:=by
 rw[run_callFunc_extern (fn:=Tryz.f159) (by kernel_rfl) (by kernel_rfl) (by kernel_rfl) (by kernel_rfl) (e:=Zky) (by kernel_rfl),Zrx x y c a]
 simp only[Result.andThen,ZbC,ZbD,Zao]
theorem Zgs (x y:Nat)(w:World) :
 (callFunc 146 #[.int .u64 (x:Int),.int .u64 (y:Int),.int .u64 0]).run Tryz.prog w=.ok (.value (.tuple #[.int .u64 (ZaI x y 0:Nat),.int .u64 (ZaM x y 0:Nat)])) w:=Zdr x y 0 (by omega) w
theorem Znl (x y:Nat)(w:World) :
 (callFunc 159 #[.int .u64 (x:Int),.int .u64 (y:Int),.int .u64 0]).run Tryz.prog w=.ok (.value (.tuple #[.int .u64 (ZbC x y 0:Nat),.int .u64 (ZbD x y 0:Nat)])) w:=Zds x y 0 (by omega) w
abbrev yA:=@Calls Tryz.prog
def Za7 (xs:List Nat):Nat→Nat
 | 0=>0
 | n+1=>if xs[n]?.getD 0=0 then Za7 xs n else n+1
theorem Zc4 (xs:List Nat)(n:Nat):Za7 xs n≤n:=by
 induction n with
 | zero=>exact uK _
 | succ n ih=>unfold Za7;split<;>omega
def Za3 (xs:List Nat):List Nat:=xs.take (Za7 xs xs.length)
theorem Znm (xs:List Nat)(n:Nat)(h:n≤xs.length):Trim (xs.take (Za7 xs n)):=by
 induction n with
 | zero=>intro k a;simp[Za7] at a
 | succ n ih =>
  unfold Za7
  split
  ·exact ih (by omega)
  rename_i b
  intro k a
  rw[vC] at a
  have:k=n:=by omega
  subst this
  rw[List.getElem?_take_of_lt (by omega)]
  exact b
theorem ZcQ (xs:List Nat):Trim (Za3 xs):=Znm xs _ (uK _)
theorem ZoL (B:Nat)(xs:List Nat)(n:Nat)(h:n≤xs.length):val B (xs.take (Za7 xs n))=val B (xs.take n):=by
 induction n with
 | zero=>rfl
 | succ n ih =>
  unfold Za7
  split
  ·rename_i a
   rw[ih (by omega),Zar n (by omega),a];simp
  rfl
theorem Zbr (B:Nat)(xs:List Nat):val B (Za3 xs)=val B xs:=by
 unfold Za3;rw[ZoL B xs _ (uK _),List.take_length]
theorem Za8 (xs:List Nat):(Za3 xs).length=Za7 xs xs.length:=by
 unfold Za3;rw[vC];have:=Zc4 xs xs.length;omega
theorem ZcI {B:Nat}{xs:List Nat}(h:Dig B xs):Dig B (Za3 xs):=h.take _
theorem ZdS (A:Option Addr)(xs:List Nat)(n c:Nat)(w:World)(o:xs.length=n)(h:Zah .u64 w A xs)(s:xs.length≤c)(t:xs.length≤1099511627776) :
 yA 169 #[.slice A n c] w fun e w'=>e=.returned (.slice A (Za7 xs xs.length) c)∧w=w':=by
 subst o
 have H:=zh h
 clear h
 go_enter Tryz.func169,Tryz.ntmps169
 go_wp2
 go_loop [3] (fun n=>∃ k:Nat,k≤xs.length∧n=.int .i64 k∧Hid (Za7 xs xs.length=Za7 xs k)) (fun n=>(intOf n).toNat)
 case atStart=>exact⟨xs.length,uK _,rfl,rfl⟩
 case round =>
  obtain⟨k,u,rfl,d⟩:=hrel
  by_cases p:0<k
  ·obtain⟨b,q,rfl,v,f⟩:=H.out.at (i:=k-1) (by omega)
   obtain⟨x,g⟩:=yE (xs[k-1]?.getD 0)
   rw[g] at f
   have l:=zh g
   clear g
   by_cases j:x=0
   ·subst j
    go_wp2
    go_round
    case rel =>
     refine⟨k-1,by omega,by go_num,?_⟩
     have e:=d.out
     obtain⟨m,rfl⟩:∃ m,k=m+1:=⟨k-1,by omega⟩
     rw[Za7,uP (by simpa using l.out)] at e
     exact e
    case measure=>simp[intOf];omega
   have r:(((x:Nat):Int) == 0)=false:=by simpa using j
   go_wp2
   go_ret
   refine⟨?_,rfl⟩
   have e:=d.out
   obtain⟨m,rfl⟩:∃ m,k=m+1:=⟨k-1,by omega⟩
   have a:=l.out
   simp only[tE] at a
   rw[Za7,uN (by rw[a];exact j)] at e
   rw[e];rfl
  obtain rfl:k=0:=by omega
  go_wp2
  go_ret
  exact⟨by rw[d.out];rfl,rfl⟩
theorem set_mid (a mid post:List Nat)(k v:Nat)(h:k<mid.length):(a ++ mid ++ post).set (a.length+k) v=a ++ mid.set k v ++ post:=by
 rw[tB,qJ _ _ (by omega),Nat.add_sub_cancel_left,List.set_append_left _ _ h,tB]
theorem Zpu (a mid b:List Nat)(k:Nat)(h:k<mid.length):(a ++ mid ++ b)[a.length+k]?.getD 0=mid[k]?.getD 0:=by
 rw[tB,List.getElem?_append_right (by omega),Nat.add_sub_cancel_left,List.getElem?_append_left h]
theorem ZaL (B:Nat)(xs:List Nat)(k v:Nat)(h:k<xs.length):val B ((xs.set k v).take (k+1))=val B (xs.take k)+B^k*v:=by
 rw[Zar k (by simpa using h),sI (uK k)]
 simp[h]
def Zel (mid ys:List Nat) (k:Nat) (m:List Nat) (c:Nat):Prop :=
 m.length=mid.length∧m.drop k=mid.drop k∧Dig W64 m∧val W64 (m.take k)+W64^k*c=val W64 (mid.take k)+val W64 (ys.take k)
theorem Zel.start (mid ys:List Nat)(h:Dig W64 mid):Zel mid ys 0 mid 0:=⟨rfl,rfl,h,by simp⟩
theorem Zel.at {mid ys m:List Nat}{k c:Nat}(h:Zel mid ys k m c):m[k]?.getD 0=mid[k]?.getD 0:=by
 have:=vG (fun l=>l[0]?.getD 0) h.2.1
 simpa [List.getElem?_drop] using this
theorem Zel.step {mid ys m:List Nat}{k c z y:Nat}(h:Zel mid ys k m c)(b:k<mid.length)(d:m[k]?.getD 0=z)(e:ys[k]?.getD 0=y)(a:k<ys.length):Zel mid ys (k+1) (m.set k (ZaI z y c)) (ZaM z y c):=by
 have f:mid[k]?.getD 0=z:=h.at.symm.trans d
 obtain⟨g,i,j,l⟩:=h
 refine⟨by simpa using g,?_,j.set k (Zej _ _ _),?_⟩
 ·rw[vY (by omega),← vN,← vN,i]
 rw[ZaL _ _ _ _ (by omega),Zar k b,Zar k a,f,e,uS]
 exact Zgq _ _ _ _ _ _ _ _ _ _ l (Zdz z y c)
theorem Zel.done {mid ys m:List Nat}{k c:Nat}(h:Zel mid ys k m c)(b:ys.length≤k)(d:k≤mid.length)(e:c=0∨k=mid.length):val W64 m+W64^mid.length*c=val W64 mid+val W64 ys:=by
 obtain⟨f,g,i,a⟩:=h
 rw[uB (l:=ys) b] at a
 rcases e with rfl|rfl
 ·rw[ZaS (xs:=m) k,ZaS (xs:=mid) k,g,f]
  simp at a ⊢
  omega
 rw[uB (by omega),uB (by omega)] at a
 exact a
theorem Own.mid {t:TypeId}{w:World}{b:Nat}{a mid c:List Nat}(h:Own .u64 t w b (a ++ mid ++ c)){k:Nat}(d:k<mid.length):w.cell? ⟨b,a.length+k,none⟩=some (.int .u64 ((mid[k]?.getD 0:Nat):Int)):=by
 rw[h.cell (by simp;omega),Zpu _ _ _ _ d]
theorem Own.set_mid {t:TypeId}{w:World}{b:Nat}{a mid c:List Nat}(h:Own .u64 t w b (a ++ mid ++ c)){k:Nat}(d:k<mid.length)(v:Nat):Own .u64 t (w.setCell ⟨b,a.length+k,none⟩ (.int .u64 (v:Int))) b (a ++ mid.set k v ++ c):=by
 have:=h.set (a.length+k) v (by simp;omega)
 rwa [Go.Proofs.YtklpdkpcocnglaaGreatDoor.set_mid _ _ _ _ _ d] at this
def ZuC (t:TypeId) (b:Nat) (pre post:List Nat) (n:Nat) (Q:List Nat→Prop) (w w':World):Prop :=
 Fr (· = b) w w'∧ZbN t b w w'∧∃ m,Own .u64 t w' b (pre ++ m ++ post)∧m.length=n∧Dig W64 m∧Q m
end Go.Proofs.YtklpdkpcocnglaaGreatDoor
