/-
 My texts Words2, Nat, Nat2 put together.
-/
import Derived.Test.YtklpdkpcocnglaaGreatDoorW02
import Derived.Deep.QuietTactic
import Derived.BigQuiet
import Derived.Test.YtklpdkpcocnglaaGreatDoorW01
import Derived.Lib.SliceRun
set_option maxRecDepth 100000
set_option maxHeartbeats 8000000
namespace Go.Proofs.YtklpdkpcocnglaaGreatDoor
open Go.RowKit
def cmpI (a b:Int):Int:=if a<b then -1 else if b<a then 1 else 0
theorem ZkH (x y:Int)(w:World):yA 193 #[.int .i64 x,.int .i64 y] w fun e w'=>e=.returned (.int .i64 (cmpI x y))∧w'=w:=by
 go_enter Tryz.func193,Tryz.ntmps193
 go_wp2
 all_goals (go_ret;exact⟨by simp[cmpI, *];try omega,rfl⟩)
theorem Ze8 (x y:Int)(w:World):yA 194 #[.int .u64 x,.int .u64 y] w fun e w'=>e=.returned (.int .i64 (cmpI x y))∧w'=w:=by
 go_enter Tryz.func194,Tryz.ntmps194
 go_wp2
 all_goals (go_ret;exact⟨by simp[cmpI, *];try omega,rfl⟩)
theorem iD {a b:Int}(h:a<b):cmpI a b = -1:=by simp[cmpI,h]
theorem gO {a b:Int}(h:b<a):cmpI a b=1:=by unfold cmpI;rw[uN (by omega),uP h]
theorem Zbl (a:Int):cmpI a a=0:=by simp[cmpI]
theorem Zf0 {xs ys:List Nat}(a:Dig W64 xs)(b:Dig W64 ys)(c:Trim xs)(d:Trim ys)(e:xs.length≠ys.length):cmpI xs.length ys.length=cmpI (val W64 xs) (val W64 ys):=by
 rcases qC e with h|h
 ·rw[iD (by omega),iD (by have:=gT zN a d h;omega)]
 rw[gO (by omega),gO (by have:=gT zN b c h;omega)]
theorem Zc4 {xs ys:List Nat}(d:Dig W64 xs)(e:Dig W64 ys)(b:xs.length=ys.length){k x y:Nat}(f:k<xs.length)(c:xs.drop (k+1)=ys.drop (k+1))(g:xs[k]?.getD 0=x)(i:ys[k]?.getD 0=y)(a:x≠y) :
 cmpI x y=cmpI (val W64 xs) (val W64 ys):=by
 subst g i
 rcases qC a with h|h
 ·rw[iD (by omega),iD (by have:=dG d b k f c h;omega)]
 rw[gO (by omega),gO (by have:=dG e b.symm k (by omega) c.symm h;omega)]
theorem eF (A D:Option Addr)(xs ys:List Nat)(n m c c2:Nat)(w:World)(K:xs.length=n)(L:ys.length=m)(s:zH .u64 w A xs)(t:zH .u64 w D ys)(W:xs.length≤1099511627776)(_:ys.length≤1099511627776)(o:Dig W64 xs)(p:Dig W64 ys)(u:Trim xs)(v:Trim ys) :
 yA 164 #[.slice A n c,.slice D m c2] w fun e w'=>e=.returned (.int .i64 (cmpI (val W64 xs) (val W64 ys)))∧∃ n,w'=w.drewN n:=by
 subst K L
 by_cases q:xs.length=ys.length
 ·have M:=zh s
  have N:=zh t
  have f:=zh q
  have O:=zh o
  have P:=zh p
  have z:(((xs.length:Nat):Int) != (ys.length:Nat))=false:=by simp[q]
  clear s t o p u v q
  go_enter Tryz.func164,Tryz.ntmps164
  go_wp2
  go_loopw [5] (fun i wr=>∃ k n:Nat,k≤xs.length∧i=.int .i64 ((k:Int)-1)∧Hid (xs.drop k=ys.drop k)∧Hid (wr=w.drewN n)) (fun i _=>(intOf i+1).toNat)
  case atStart=>exact⟨xs.length,0,uK _,rfl,by unfold Hid;rw[vA (uK _),vA (by rw[f.out];exact uK _)],rfl⟩
  case round =>
   obtain⟨k,n,X,rfl,Q,E⟩:=hrel
   obtain rfl:=E.out
   clear E
   by_cases R:0<k
   ·obtain⟨j,rfl⟩:∃ j,k=j+1:=⟨k-1,by omega⟩
    have F:(((j+1:Nat):Int)-1)=(j:Int):=by omega
    rw[F]
    clear F
    obtain⟨b,S,rfl,_,B⟩:=M.out.at (i:=j) (by omega)
    obtain⟨Y,G,rfl,_,C⟩:=N.out.at (i:=j) (by have:=f.out;omega)
    obtain⟨x,a⟩:=yE (xs[j]?.getD 0)
    obtain⟨y,d⟩:=yE (ys[j]?.getD 0)
    rw[a] at B
    rw[d] at C
    have T:(j:Int)<(ys.length:Nat):=by have:=f.out;omega
    have U:(j:Int)<(xs.length:Nat):=by omega
    by_cases H:x=y
    ·subst H
     have r:Hid (xs.drop j=ys.drop j):=by
      unfold Hid
      have I:j<xs.length:=by omega
      have J:j<ys.length:=by have:=f.out;omega
      rw[tI I,tI J,Q.out]
      rw[List.getElem?_eq_getElem I] at a
      rw[List.getElem?_eq_getElem J] at d
      simp only[sR] at a d
      rw[a,d]
     clear a d Q
     go_wp2
     go_quiet (fail)
     go_wp2
     go_roundw
     case rel=>exact⟨j,_,by omega,rfl,r,rfl⟩
     case measure=>simp[intOf]
    have g:=zh (Zc4 O.out P.out f.out (by omega) Q.out a d H)
    have V:(((x:Nat):Int) != (y:Nat))=true:=by simp;omega
    clear a d Q
    go_wp2
    go_quiet (fail)
    go_wp2
    go_quiet ((go_at_call 194;first|exact Calls.quiet_of_same (Ze8 _ _ _)|exact (Ze8 _ _ _).mono (fun _ _ h=>⟨h.1,_,h.2⟩)))
    go_wp2
    go_ret
    exact⟨by rw[←g.out];rfl,by simp only[World.drewN_drewN];exact⟨_,rfl⟩⟩
   obtain rfl:k=0:=by omega
   have r:xs=ys:=by simpa using Q.out
   have g:=zh (vG (fun l=>cmpI (val W64 xs) (val W64 l)) r)
   clear Q r
   go_wp2
   go_ret
   exact⟨by rw[←(show _=cmpI (val W64 xs) (val W64 ys) from g.out),Zbl];rfl,_,rfl⟩
 have z:(((xs.length:Nat):Int) != (ys.length:Nat))=true:=by simp;omega
 have g:=zh (Zf0 o p u v q)
 clear s t o p u v
 go_enter Tryz.func164,Tryz.ntmps164
 go_wp2_with (go_at_call 193;refine (ZkH _ _ _).mono ?_;rintro e w' ⟨rfl,rfl⟩)
 go_ret
 exact⟨by rw[←g.out];rfl,0,rfl⟩
def wl (n:Nat):Nat:=if n=0 then 0 else n.log2/64+1
theorem cG (k:Nat):W64^k=2^(64*k):=by rw[sS,zO]
theorem kP {n k:Nat}:wl n≤k↔n<W64^k:=by
 unfold wl
 rw[cG]
 split
 ·rename_i h;subst h;simp[uV]
 rename_i h
 rw[←Nat.log2_lt h];omega
theorem ZdU (n:Nat):n<W64^wl n:=kP.1 (uK _)
theorem ZjP:wl 0=0:=rfl
theorem wW {a b:Nat}(h:a≤b):wl a≤wl b:=kP.2 (vI h (ZdU b))
theorem ZbU (a b:Nat):wl (a*b)≤wl a+wl b:=kP.2 (by rw[uT];exact qQ (ZdU a) (ZdU b))
theorem Ze9 {a b k:Nat}(ha:wl a≤k)(c:wl b≤k):wl (a+b)≤k+1:=by
 rw[kP] at *
 have:W64^k*2≤W64^k*W64:=uI _ ZjN
 rw[uR]
 omega
theorem xQ {xs:List Nat}(a:Dig W64 xs)(b:Trim xs):xs.length=wl (val W64 xs):=by
 have c:=jE (n:=wl (val W64 xs)) fS b (ZdU _)
 have d:wl (val W64 xs)≤xs.length:=kP.2 (xV a)
 omega
theorem Zc5 {n:Nat}(h:0<n):0<wl n:=by
 unfold wl;rw[uN (by omega)];omega
theorem bX {n:Nat}:wl n≤1↔n<W64:=by rw[kP,qV]
def zJ (w:World) (v:Value) (n:Nat):Prop :=
 ∃ (A:Option Addr) (xs:List Nat) (c:Nat),v=.slice A xs.length c∧xs.length≤c∧zH .u64 w A xs∧Dig W64 xs∧Trim xs∧val W64 xs=n
theorem zJ.ext {w w':World}{v:Value}{n:Nat}(h:zJ w v n)(a:Ext w w'):zJ w' v n:=by
 obtain⟨A,b,c,d,e,f,g⟩:=h
 exact⟨A,b,c,d,e,f.ext a,g⟩
theorem zJ.zero (w:World):zJ w (.slice none 0 0) 0:=⟨none,[],0,rfl,by simp,zH.nil,Dig.nil,Trim.nil,rfl⟩
def lC (w:World) (n:Nat) (e:Ending) (w':World):Prop:=∃ v,e=.returned v∧zJ w' v n∧Ext w w'
theorem eN:(Tryz.prog.info? 94).map (fun i=>(i.zero,i.size,i.bytes))=some (some (.int .u64 0),1,8):=by kernel_rfl
theorem ZoZ:(Tryz.prog.info? 94).map (·.size)=some 1:=by kernel_rfl
theorem zJ.of_own {w:World}{b:Nat}{xs:List Nat}(h:Own .u64 94 w b xs)(a:Dig W64 xs){c:Nat}(d:xs.length≤c):zJ w (.slice (some ⟨b,0,none⟩) (wI xs xs.length) c) (val W64 xs):=by
 refine⟨_,wF xs,c,by rw[wJ],by rw[wJ];exact uA (gF _ _) d,h.shows0.take _,iI a,iQ xs,lE _ _⟩
theorem Zp4 (w:World)(a:Option Addr)(n c:Nat):(binOp .eql 76 (.slice a n c) (.slice none 0 0)).run Tryz.prog w=.ok (.bool a.isNone) w :=
 Lib.run_eql_slice_nil w 76 94 a n c 0 0 Tryz.underlying76
def ZhK (w:World) (xs:List Nat) (e:Ending) (w':World):Prop :=
 ∃ A cap,e=.returned (.slice A xs.length cap)∧Buf .u64 94 w' A cap xs∧Ext w w'∧∀ b,xP A b→w.heap.size≤b
theorem gJ (A:Option Addr)(xs:List Nat)(n c:Nat)(w:World)(o:xs.length=n)(p:zH .u64 w A xs)(x:n≤4294967296) :
 yA 165 #[.slice A n c] w (ZhK w xs):=by
 have q:=zh p
 have r:=zh o
 clear p o
 have s:=Zp4
 cases A with
 | none =>
  have t:Hid (xs=[]):=by
   rcases xs with _|⟨y,z⟩
   ·rfl
   obtain⟨b,u,h,_⟩:=q.out (by simp);cases h
  go_enter Tryz.func165,Tryz.ntmps165
  go_wp2
  go_ret
  rw[t.out]
  exact⟨none,0,rfl,Buf.nil,Fr.refl _ _,fun b d=>by obtain⟨a,ha,_⟩:=d;cases ha⟩
 | some ad =>
  go_enter Tryz.func165,Tryz.ntmps165
  go_wp2_with (
   at_builtin
   refine wZ rfl _ _ _ rfl _ .u64 8 Tryz.underlying76 eN (some ⟨w.heap.size,0,none⟩) (some ad) 0 n 0 c rfl rfl [] xs rfl r.out ?_ (q.out.alloc _) (by simp only[maxLen];omega) (by omega) ?_
   ·exact Or.inr ⟨_,rfl,Own.new w _ _ [] [],⟨#[],heap_alloc_new w _,rfl⟩,uK _,by simp only[maxLen];omega⟩
   intro v e B f g j
   have k:=zh f
   have l:=zh g
   have m:=zh j
   clear f g j)
  go_ret
  refine⟨v,e,?_,by simpa using k.out,?_,?_⟩
  ·rw[r.out];simp
  ·refine ((Fr.refl (fun _=>False) w).alloc _).next l.out (fun i C d=>?_)
   obtain⟨a,ha,d⟩:=d
   injection ha with ha
   subst ha
   simp at d;omega
  intro b d
  rcases m.out b d with ⟨a,ha,h⟩|h
  ·injection ha with ha;subst ha;simp at h;omega
  simp at h;omega
theorem zJ.one (w:World){x:Nat}(b:x≠0)(c:x<W64):zJ (w.alloc (.cells #[.int .u64 (x:Int)] 94)) (.slice (some ⟨w.heap.size,0,none⟩) 1 1) x:=by
 have d:Own .u64 94 (w.alloc (.cells #[.int .u64 (x:Int)] 94)) w.heap.size [x]:=Own.new w _ _ [x] []
 refine⟨_,[x],1,rfl,uK _,d.shows0,Dig.nil.cons c,?_,by simp⟩
 intro k a
 simp at a
 subst a
 simpa using b
theorem dP (x:Nat)(w:World)(a:x<W64):yA 170 #[.int .u64 (x:Int)] w (lC w x):=by
 have c:=zh a
 clear a
 by_cases b:x=0
 ·subst b
  go_enter Tryz.func170,Tryz.ntmps170
  go_wp2
  go_ret
  exact⟨_,rfl,zJ.zero _,Fr.refl _ _⟩
 have d:(((x:Nat):Int) == 0)=false:=by simp;omega
 go_enter Tryz.func170,Tryz.ntmps170
 go_wp2
 go_ret
 exact⟨_,rfl,zJ.one w b c.out,(Fr.refl _ _).alloc _⟩
end Go.Proofs.YtklpdkpcocnglaaGreatDoor
