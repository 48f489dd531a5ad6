/-
 My texts Words2, Nat, Nat2 put together.
-/
import Derived.Test.YtoanifijmlgcgaaGreatDoorD02
import Derived.Deep.QuietTactic
import Derived.BigQuiet
import Derived.Test.YtoanifijmlgcgaaGreatDoorD01
import Derived.Lib.SliceRun
set_option maxRecDepth 100000
set_option maxHeartbeats 8000000
namespace Go.Proofs.YtoanifijmlgcgaaGreatDoor
open Go.RowKit
def cmpI (a b:Int):Int:=if a<b then -1 else if b<a then 1 else 0
theorem ZiP (x y:Int)(w:World):yA 315 #[.int .i64 x,.int .i64 y] w fun e w'=>e=.returned (.int .i64 (cmpI x y))∧w'=w:=by
 go_enter Tryz.func315,Tryz.ntmps315
 go_wp2
 all_goals (go_ret;exact⟨by simp[cmpI, *];try omega,rfl⟩)
theorem ZdS (x y:Int)(w:World):yA 328 #[.int .u64 x,.int .u64 y] w fun e w'=>e=.returned (.int .i64 (cmpI x y))∧w'=w:=by
 go_enter Tryz.func328,Tryz.ntmps328
 go_wp2
 all_goals (go_ret;exact⟨by simp[cmpI, *];try omega,rfl⟩)
theorem iK {a b:Int}(h:a<b):cmpI a b = -1:=by simp[cmpI,h]
theorem gU {a b:Int}(h:b<a):cmpI a b=1:=by unfold cmpI;rw[vP (by omega),tA h]
theorem Zfp (a:Int):cmpI a a=0:=by simp[cmpI]
theorem Zmd {xs a:List Nat}(b:Dig W64 xs)(c:Dig W64 a)(d:Trim xs)(e:Trim a)(f:xs.length≠a.length):cmpI xs.length a.length=cmpI (val W64 xs) (val W64 a):=by
 rcases qH f with h|h
 ·rw[iK (by omega),iK (by have:=jX zZ b e h;omega)]
 rw[gU (by omega),gU (by have:=jX zZ c d h;omega)]
theorem ZjF {xs a:List Nat}(e:Dig W64 xs)(f:Dig W64 a)(c:xs.length=a.length){k x y:Nat}(g:k<xs.length)(d:xs.drop (k+1)=a.drop (k+1))(i:xs[k]?.getD 0=x)(j:a[k]?.getD 0=y)(b:x≠y) :
 cmpI x y=cmpI (val W64 xs) (val W64 a):=by
 subst i j
 rcases qH b with h|h
 ·rw[iK (by omega),iK (by have:=gY e c k g d h;omega)]
 rw[gU (by omega),gU (by have:=gY f c.symm k (by omega) d.symm h;omega)]
theorem gK (A E:Option Addr)(xs a:List Nat)(n m c c2:Nat)(w:World)(L:xs.length=n)(M:a.length=m)(t:zV .u64 w A xs)(u:zV .u64 w E a)(X:xs.length≤1099511627776)(_:a.length≤1099511627776)(p:Dig W64 xs)(q:Dig W64 a)(v:Trim xs)(z:Trim a) :
 yA 292 #[.slice A n c,.slice E m c2] w fun e w'=>e=.returned (.int .i64 (cmpI (val W64 xs) (val W64 a)))∧∃ n,w'=w.drewN n:=by
 subst L M
 by_cases r:xs.length=a.length
 ·have N:=zh t
  have O:=zh u
  have g:=zh r
  have P:=zh p
  have R:=zh q
  have B:(((xs.length:Nat):Int) != (a.length:Nat))=false:=by simp[r]
  clear t u p q v z r
  go_enter Tryz.func292,Tryz.ntmps292
  go_wp2
  go_loopw [5] (fun i wr=>∃ k n:Nat,k≤xs.length∧i=.int .i64 ((k:Int)-1)∧Hid (xs.drop k=a.drop k)∧Hid (wr=w.drewN n)) (fun i _=>(intOf i+1).toNat)
  case atStart=>exact⟨xs.length,0,uR _,rfl,by unfold Hid;rw[vN (uR _),vN (by rw[g.out];exact uR _)],rfl⟩
  case round =>
   obtain⟨k,n,Y,rfl,Q,F⟩:=hrel
   obtain rfl:=F.out
   clear F
   by_cases S:0<k
   ·obtain⟨j,rfl⟩:∃ j,k=j+1:=⟨k-1,by omega⟩
    have G:(((j+1:Nat):Int)-1)=(j:Int):=by omega
    rw[G]
    clear G
    obtain⟨b,T,rfl,_,C⟩:=N.out.at (i:=j) (by omega)
    obtain⟨Z,H,rfl,_,D⟩:=O.out.at (i:=j) (by have:=g.out;omega)
    obtain⟨x,d⟩:=yE (xs[j]?.getD 0)
    obtain⟨y,f⟩:=yE (a[j]?.getD 0)
    rw[d] at C
    rw[f] at D
    have U:(j:Int)<(a.length:Nat):=by have:=g.out;omega
    have V:(j:Int)<(xs.length:Nat):=by omega
    by_cases I:x=y
    ·subst I
     have s:Hid (xs.drop j=a.drop j):=by
      unfold Hid
      have J:j<xs.length:=by omega
      have K:j<a.length:=by have:=g.out;omega
      rw[tM J,tM K,Q.out]
      rw[List.getElem?_eq_getElem J] at d
      rw[List.getElem?_eq_getElem K] at f
      simp only[qC] at d f
      rw[d,f]
     clear d f Q
     go_wp2
     go_quiet (fail)
     go_wp2
     go_roundw
     case rel=>exact⟨j,_,by omega,rfl,s,rfl⟩
     case measure=>simp[intOf]
    have o:=zh (ZjF P.out R.out g.out (by omega) Q.out d f I)
    have W:(((x:Nat):Int) != (y:Nat))=true:=by simp;omega
    clear d f Q
    go_wp2
    go_quiet (fail)
    go_wp2
    go_quiet ((go_at_call 328;first|exact Calls.quiet_of_same (ZdS _ _ _)|exact (ZdS _ _ _).mono (fun _ _ h=>⟨h.1,_,h.2⟩)))
    go_wp2
    go_ret
    exact⟨by rw[←o.out];rfl,by simp only[World.drewN_drewN];exact⟨_,rfl⟩⟩
   obtain rfl:k=0:=by omega
   have s:xs=a:=by simpa using Q.out
   have o:=zh (tC (fun l=>cmpI (val W64 xs) (val W64 l)) s)
   clear Q s
   go_wp2
   go_ret
   exact⟨by rw[←(show _=cmpI (val W64 xs) (val W64 a) from o.out),Zfp];rfl,_,rfl⟩
 have B:(((xs.length:Nat):Int) != (a.length:Nat))=true:=by simp;omega
 have o:=zh (Zmd p q v z r)
 clear t u p q v z
 go_enter Tryz.func292,Tryz.ntmps292
 go_wp2_with (go_at_call 315;refine (ZiP _ _ _).mono ?_;rintro e w' ⟨rfl,rfl⟩)
 go_ret
 exact⟨by rw[←o.out];rfl,0,rfl⟩
def wl (n:Nat):Nat:=if n=0 then 0 else n.log2/64+1
theorem ZcC (k:Nat):W64^k=2^(64*k):=by rw[Nat.pow_mul,zM]
theorem fE {n k:Nat}:wl n≤k↔n<W64^k:=by
 unfold wl
 rw[ZcC]
 split
 ·rename_i h;subst h;simp[uU]
 rename_i h
 rw[←Nat.log2_lt h];omega
theorem ZlY (n:Nat):n<W64^wl n:=fE.1 (uR _)
theorem ZeP:wl 0=0:=rfl
theorem aL {a b:Nat}(h:a≤b):wl a≤wl b:=fE.2 (uN h (ZlY b))
theorem wK {xs:List Nat}(a:Dig W64 xs)(b:Trim xs):xs.length=wl (val W64 xs):=by
 have c:=jY (n:=wl (val W64 xs)) aK b (ZlY _)
 have d:wl (val W64 xs)≤xs.length:=fE.2 (wH a)
 omega
theorem ZbX {n:Nat}(h:0<n):0<wl n:=by
 unfold wl;rw[vP (by omega)];omega
theorem ZaZ {n:Nat}:wl n≤1↔n<W64:=by rw[fE,Nat.pow_one]
def zY (w:World) (v:Value) (n:Nat):Prop :=
 ∃ (A:Option Addr) (xs:List Nat) (c:Nat),v=.slice A xs.length c∧xs.length≤c∧zV .u64 w A xs∧Dig W64 xs∧Trim xs∧val W64 xs=n
theorem zY.ext {w w':World}{v:Value}{n:Nat}(h:zY w v n)(a:Ext w w'):zY w' v n:=by
 obtain⟨A,b,c,d,e,f,g⟩:=h
 exact⟨A,b,c,d,e,f.ext a,g⟩
theorem zY.zero (w:World):zY w (.slice none 0 0) 0:=⟨none,[],0,rfl,by simp,zV.nil,Dig.nil,Trim.nil,rfl⟩
def jN (w:World) (n:Nat) (e:Ending) (w':World):Prop:=∃ v,e=.returned v∧zY w' v n∧Ext w w'
def Za0 (w:World) (A A2:Option Addr) (n:Nat) (e:Ending) (w':World):Prop:=∃ B l c,e=.returned (.slice B l c)∧zY w' (.slice B l c) n∧Ext w w'∧∀ a,B=some a→w.heap.size≤a.block∨B=A∨B=A2
theorem Za0.ret {w w':World}{A a:Option Addr}{n:Nat}{e:Ending}(h:Za0 w A a n e w'):jN w n e w':=by
 obtain⟨B,l,c,rfl,b,d,_⟩:=h
 exact⟨_,rfl,b,d⟩
theorem dG:(Tryz.prog.info? 297).map (fun i=>(i.zero,i.size,i.bytes))=some (some (.int .u64 0),1,8):=by kernel_rfl
theorem Zme:(Tryz.prog.info? 297).map (·.size)=some 1:=by kernel_rfl
theorem zY.of_own {w:World}{b:Nat}{xs:List Nat}(h:Own .u64 297 w b xs)(a:Dig W64 xs){c:Nat}(d:xs.length≤c):zY w (.slice (some ⟨b,0,none⟩) (wU xs xs.length) c) (val W64 xs):=by
 refine⟨_,xZ xs,c,by rw[wM],by rw[wM];exact uD (gI _ _) d,h.shows0.take _,iO a,iY xs,wZ _ _⟩
theorem Znh (w:World)(a:Option Addr)(n c:Nat):(binOp .eql 255 (.slice a n c) (.slice none 0 0)).run Tryz.prog w=.ok (.bool a.isNone) w :=
 Lib.run_eql_slice_nil w 255 297 a n c 0 0 Tryz.underlying255
def ZkY (w:World) (xs:List Nat) (e:Ending) (w':World):Prop :=
 ∃ A cap,e=.returned (.slice A xs.length cap)∧Buf .u64 297 w' A cap xs∧Ext w w'∧∀ b,xJ A b→w.heap.size≤b
theorem jR (A:Option Addr)(xs:List Nat)(n c:Nat)(w:World)(o:xs.length=n)(p:zV .u64 w A xs)(x:n≤4294967296) :
 yA 293 #[.slice A n c] w (ZkY w xs):=by
 have q:=zh p
 have r:=zh o
 clear p o
 have s:=Znh
 cases A with
 | none =>
  have t:Hid (xs=[]):=by
   rcases xs with _|⟨y,z⟩
   ·rfl
   obtain⟨b,u,h,_⟩:=q.out (by simp);cases h
  go_enter Tryz.func293,Tryz.ntmps293
  go_wp2
  go_ret
  rw[t.out]
  exact⟨none,0,rfl,Buf.nil,Fr.refl _ _,fun b d=>by obtain⟨a,ha,_⟩:=d;cases ha⟩
 | some ad =>
  go_enter Tryz.func293,Tryz.ntmps293
  go_wp2_with (
   at_builtin
   refine lC rfl _ _ _ rfl _ .u64 8 Tryz.underlying255 dG (some ⟨w.heap.size,0,none⟩) (some ad) 0 n 0 c rfl rfl [] xs rfl r.out ?_ (q.out.alloc _) (by simp only[maxLen];omega) (by omega) ?_
   ·exact Or.inr ⟨_,rfl,Own.new w _ _ [] [],⟨#[],heap_alloc_new w _,rfl⟩,uR _,by simp only[maxLen];omega⟩
   intro v e B f g j
   have k:=zh f
   have l:=zh g
   have m:=zh j
   clear f g j)
  go_ret
  refine⟨v,e,?_,by simpa using k.out,?_,?_⟩
  ·rw[r.out];simp
  ·refine ((Fr.refl (fun _=>False) w).alloc _).next l.out (fun i C d=>?_)
   obtain⟨a,ha,d⟩:=d
   injection ha with ha
   subst ha
   simp at d;omega
  intro b d
  rcases m.out b d with ⟨a,ha,h⟩|h
  ·injection ha with ha;subst ha;simp at h;omega
  simp at h;omega
theorem zY.one (w:World){x:Nat}(b:x≠0)(c:x<W64):zY (w.alloc (.cells #[.int .u64 (x:Int)] 297)) (.slice (some ⟨w.heap.size,0,none⟩) 1 1) x:=by
 have d:Own .u64 297 (w.alloc (.cells #[.int .u64 (x:Int)] 297)) w.heap.size [x]:=Own.new w _ _ [x] []
 refine⟨_,[x],1,rfl,uR _,d.shows0,Dig.nil.cons c,?_,by simp⟩
 intro k a
 simp at a
 subst a
 simpa using b
theorem ZbD (x:Nat)(w:World)(b:x<W64):yA 298 #[.int .u64 (x:Int)] w (Za0 w none none x):=by
 have d:=zh b
 clear b
 by_cases c:x=0
 ·subst c
  go_enter Tryz.func298,Tryz.ntmps298
  go_wp2
  go_ret
  exact⟨none,0,0,rfl,zY.zero _,Fr.refl _ _,fun a h=>by cases h⟩
 have e:(((x:Nat):Int) == 0)=false:=by simp;omega
 go_enter Tryz.func298,Tryz.ntmps298
 go_wp2
 go_ret
 exact⟨_,_,_,rfl,zY.one w c d.out,(Fr.refl _ _).alloc _,fun a h=>Or.inl (by injection h with h;subst h;exact uR _)⟩
theorem dH (x:Nat)(w:World)(a:x<W64):yA 298 #[.int .u64 (x:Int)] w (jN w x):=(ZbD x w a).mono fun _ _ h=>h.ret
end Go.Proofs.YtoanifijmlgcgaaGreatDoor
