/-
 My texts Words2, Nat, Nat2 put together.
-/
import Derived.Test.YtklpdkpcocnglaaGreatDoorX02
import Derived.Deep.QuietTactic
import Derived.BigQuiet
import Derived.Test.YtklpdkpcocnglaaGreatDoorX01
import Derived.Lib.SliceRun
set_option maxRecDepth 100000
set_option maxHeartbeats 8000000
namespace Go.Proofs.YtklpdkpcocnglaaGreatDoor
open Go.RowKit
def cmpI (a b:Int):Int:=if a<b then -1 else if b<a then 1 else 0
theorem Zl9 (x y:Int)(w:World):yA 193 #[.int .i64 x,.int .i64 y] w fun e w'=>e=.returned (.int .i64 (cmpI x y))∧w'=w:=by
 go_enter Tryz.func193,Tryz.ntmps193
 go_wp2
 all_goals (go_ret;exact⟨by simp[cmpI, *];try omega,rfl⟩)
theorem Zf1 (x y:Int)(w:World):yA 194 #[.int .u64 x,.int .u64 y] w fun e w'=>e=.returned (.int .i64 (cmpI x y))∧w'=w:=by
 go_enter Tryz.func194,Tryz.ntmps194
 go_wp2
 all_goals (go_ret;exact⟨by simp[cmpI, *];try omega,rfl⟩)
theorem jS {a b:Int}(h:a<b):cmpI a b = -1:=by simp[cmpI,h]
theorem iO {a b:Int}(h:b<a):cmpI a b=1:=by unfold cmpI;rw[uJ (by omega),uL h]
theorem ZaP (a:Int):cmpI a a=0:=by simp[cmpI]
theorem Zg5 {xs ys:List Nat}(a:Dig W64 xs)(b:Dig W64 ys)(c:Trim xs)(d:Trim ys)(e:xs.length≠ys.length):cmpI xs.length ys.length=cmpI (val W64 xs) (val W64 ys):=by
 rcases qP e with h|h
 ·rw[jS (by omega),jS (by have:=gP zM a d h;omega)]
 rw[iO (by omega),iO (by have:=gP zM b c h;omega)]
theorem ZdS {xs ys:List Nat}(d:Dig W64 xs)(e:Dig W64 ys)(b:xs.length=ys.length){k x y:Nat}(f:k<xs.length)(c:xs.drop (k+1)=ys.drop (k+1))(ex:xs[k]?.getD 0=x)(g:ys[k]?.getD 0=y)(a:x≠y) :
 cmpI x y=cmpI (val W64 xs) (val W64 ys):=by
 subst ex g
 rcases qP a with h|h
 ·rw[jS (by omega),jS (by have:=dQ d b k f c h;omega)]
 rw[iO (by omega),iO (by have:=dQ e b.symm k (by omega) c.symm h;omega)]
theorem eP (A C:Option Addr)(xs ys:List Nat)(n m c c2:Nat)(w:World)(J:xs.length=n)(K:ys.length=m)(r:zF .u64 w A xs)(s:zF .u64 w C ys)(V:xs.length≤1099511627776)(_:ys.length≤1099511627776)(g:Dig W64 xs)(o:Dig W64 ys)(t:Trim xs)(u:Trim ys) :
 yA 164 #[.slice A n c,.slice C m c2] w fun e w'=>e=.returned (.int .i64 (cmpI (val W64 xs) (val W64 ys)))∧∃ n,w'=w.drewN n:=by
 subst J K
 by_cases p:xs.length=ys.length
 ·have L:=zh r
  have M:=zh s
  have d:=zh p
  have N:=zh g
  have O:=zh o
  have v:(((xs.length:Nat):Int) != (ys.length:Nat))=false:=by simp[p]
  clear r s g o t u p
  go_enter Tryz.func164,Tryz.ntmps164
  go_wp2
  go_loopw [5] (fun i wr=>∃ k n:Nat,k≤xs.length∧i=.int .i64 ((k:Int)-1)∧Hid (xs.drop k=ys.drop k)∧Hid (wr=w.drewN n)) (fun i _=>(intOf i+1).toNat)
  case atStart=>exact⟨xs.length,0,uM _,rfl,by unfold Hid;rw[uX (uM _),uX (by rw[d.out];exact uM _)],rfl⟩
  case round =>
   obtain⟨k,n,W,rfl,Q,D⟩:=hrel
   obtain rfl:=D.out
   clear D
   by_cases P:0<k
   ·obtain⟨j,rfl⟩:∃ j,k=j+1:=⟨k-1,by omega⟩
    have E:(((j+1:Nat):Int)-1)=(j:Int):=by omega
    rw[E]
    clear E
    obtain⟨b,R,rfl,_,z⟩:=L.out.at (i:=j) (by omega)
    obtain⟨X,F,rfl,_,B⟩:=M.out.at (i:=j) (by have:=d.out;omega)
    obtain⟨x,ex⟩:=yE (xs[j]?.getD 0)
    obtain⟨y,a⟩:=yE (ys[j]?.getD 0)
    rw[ex] at z
    rw[a] at B
    have S:(j:Int)<(ys.length:Nat):=by have:=d.out;omega
    have T:(j:Int)<(xs.length:Nat):=by omega
    by_cases G:x=y
    ·subst G
     have q:Hid (xs.drop j=ys.drop j):=by
      unfold Hid
      have H:j<xs.length:=by omega
      have I:j<ys.length:=by have:=d.out;omega
      rw[tJ H,tJ I,Q.out]
      rw[List.getElem?_eq_getElem H] at ex
      rw[List.getElem?_eq_getElem I] at a
      simp only[rP] at ex a
      rw[ex,a]
     clear ex a Q
     go_wp2
     go_quiet (fail)
     go_wp2
     go_roundw
     case rel=>exact⟨j,_,by omega,rfl,q,rfl⟩
     case measure=>simp[intOf]
    have f:=zh (ZdS N.out O.out d.out (by omega) Q.out ex a G)
    have U:(((x:Nat):Int) != (y:Nat))=true:=by simp;omega
    clear ex a Q
    go_wp2
    go_quiet (fail)
    go_wp2
    go_quiet ((go_at_call 194;first|exact Calls.quiet_of_same (Zf1 _ _ _)|exact (Zf1 _ _ _).mono (fun _ _ h=>⟨h.1,_,h.2⟩)))
    go_wp2
    go_ret
    exact⟨by rw[←f.out];rfl,by simp only[World.drewN_drewN];exact⟨_,rfl⟩⟩
   obtain rfl:k=0:=by omega
   have q:xs=ys:=by simpa using Q.out
   have f:=zh (vP (fun l=>cmpI (val W64 xs) (val W64 l)) q)
   clear Q q
   go_wp2
   go_ret
   exact⟨by rw[←(show _=cmpI (val W64 xs) (val W64 ys) from f.out),ZaP];rfl,_,rfl⟩
 have v:(((xs.length:Nat):Int) != (ys.length:Nat))=true:=by simp;omega
 have f:=zh (Zg5 g o t u p)
 clear r s g o t u
 go_enter Tryz.func164,Tryz.ntmps164
 go_wp2_with (go_at_call 193;refine (Zl9 _ _ _).mono ?_;rintro e w' ⟨rfl,rfl⟩)
 go_ret
 exact⟨by rw[←f.out];rfl,0,rfl⟩
def wl (n:Nat):Nat:=if n=0 then 0 else n.log2/64+1
theorem bD (k:Nat):W64^k=2^(64*k):=by rw[sZ,zO]
theorem kE {n k:Nat}:wl n≤k↔n<W64^k:=by
 unfold wl
 rw[bD]
 split
 ·rename_i h;subst h;simp[uT]
 rename_i h
 rw[←Nat.log2_lt h];omega
theorem ZeG (n:Nat):n<W64^wl n:=kE.1 (uM _)
theorem Zll:wl 0=0:=rfl
theorem wR {a b:Nat}(h:a≤b):wl a≤wl b:=kE.2 (vE h (ZeG b))
theorem ZaQ (a b:Nat):wl (a*b)≤wl a+wl b:=kE.2 (by rw[uS];exact qA (ZeG a) (ZeG b))
theorem Zf2 {a b k:Nat}(ha:wl a≤k)(c:wl b≤k):wl (a+b)≤k+1:=by
 rw[kE] at *
 have:W64^k*2≤W64^k*W64:=uK _ Zlj
 rw[uO]
 omega
theorem xR {xs:List Nat}(a:Dig W64 xs)(b:Trim xs):xs.length=wl (val W64 xs):=by
 have c:=jF (n:=wl (val W64 xs)) eA b (ZeG _)
 have d:wl (val W64 xs)≤xs.length:=kE.2 (xZ a)
 omega
theorem ZdT {n:Nat}(h:0<n):0<wl n:=by
 unfold wl;rw[uJ (by omega)];omega
theorem bL {n:Nat}:wl n≤1↔n<W64:=by rw[kE,Nat.pow_one]
def zK (w:World) (v:Value) (n:Nat):Prop :=
 ∃ (A:Option Addr) (xs:List Nat) (c:Nat),v=.slice A xs.length c∧xs.length≤c∧zF .u64 w A xs∧Dig W64 xs∧Trim xs∧val W64 xs=n
theorem zK.ext {w w':World}{v:Value}{n:Nat}(h:zK w v n)(a:Ext w w'):zK w' v n:=by
 obtain⟨A,b,c,d,e,f,g⟩:=h
 exact⟨A,b,c,d,e,f.ext a,g⟩
theorem zK.zero (w:World):zK w (.slice none 0 0) 0:=⟨none,[],0,rfl,by simp,zF.nil,Dig.nil,Trim.nil,rfl⟩
def wW (w:World) (n:Nat) (e:Ending) (w':World):Prop:=∃ v,e=.returned v∧zK w' v n∧Ext w w'
theorem dB:(Tryz.prog.info? 94).map (fun i=>(i.zero,i.size,i.bytes))=some (some (.int .u64 0),1,8):=by kernel_rfl
theorem Zqd:(Tryz.prog.info? 94).map (·.size)=some 1:=by kernel_rfl
theorem zK.of_own {w:World}{b:Nat}{xs:List Nat}(h:Own .u64 94 w b xs)(a:Dig W64 xs){c:Nat}(d:xs.length≤c):zK w (.slice (some ⟨b,0,none⟩) (wK xs xs.length) c) (val W64 xs):=by
 refine⟨_,wF xs,c,by rw[wH],by rw[wH];exact uE (gB _ _) d,h.shows0.take _,iD a,iG xs,wX _ _⟩
theorem Zrj (w:World)(a:Option Addr)(n c:Nat):(binOp .eql 76 (.slice a n c) (.slice none 0 0)).run Tryz.prog w=.ok (.bool a.isNone) w :=
 Lib.run_eql_slice_nil w 76 94 a n c 0 0 Tryz.underlying76
def Zja (w:World) (xs:List Nat) (e:Ending) (w':World):Prop :=
 ∃ A cap,e=.returned (.slice A xs.length cap)∧Buf .u64 94 w' A cap xs∧Ext w w'∧∀ b,xP A b→w.heap.size≤b
theorem gG (A:Option Addr)(xs:List Nat)(n c:Nat)(w:World)(o:xs.length=n)(p:zF .u64 w A xs)(x:n≤4294967296) :
 yA 165 #[.slice A n c] w (Zja w xs):=by
 have q:=zh p
 have r:=zh o
 clear p o
 have s:=Zrj
 cases A with
 | none =>
  have t:Hid (xs=[]):=by
   rcases xs with _|⟨y,z⟩
   ·rfl
   obtain⟨b,u,h,_⟩:=q.out (by simp);cases h
  go_enter Tryz.func165,Tryz.ntmps165
  go_wp2
  go_ret
  rw[t.out]
  exact⟨none,0,rfl,Buf.nil,Fr.refl _ _,fun b d=>by obtain⟨a,ha,_⟩:=d;cases ha⟩
 | some ad =>
  go_enter Tryz.func165,Tryz.ntmps165
  go_wp2_with (
   at_builtin
   refine wT rfl _ _ _ rfl _ .u64 8 Tryz.underlying76 dB (some ⟨w.heap.size,0,none⟩) (some ad) 0 n 0 c rfl rfl [] xs rfl r.out ?_ (q.out.alloc _) (by simp only[maxLen];omega) (by omega) ?_
   ·exact Or.inr ⟨_,rfl,Own.new w _ _ [] [],⟨#[],heap_alloc_new w _,rfl⟩,uM _,by simp only[maxLen];omega⟩
   intro v e B f g j
   have k:=zh f
   have l:=zh g
   have m:=zh j
   clear f g j)
  go_ret
  refine⟨v,e,?_,by simpa using k.out,?_,?_⟩
  ·rw[r.out];simp
  ·refine ((Fr.refl (fun _=>False) w).alloc _).next l.out (fun i C d=>?_)
   obtain⟨a,ha,d⟩:=d
   injection ha with ha
   subst ha
   simp at d;omega
  intro b d
  rcases m.out b d with ⟨a,ha,h⟩|h
  ·injection ha with ha;subst ha;simp at h;omega
  simp at h;omega
theorem zK.one (w:World){x:Nat}(b:x≠0)(c:x<W64):zK (w.alloc (.cells #[.int .u64 (x:Int)] 94)) (.slice (some ⟨w.heap.size,0,none⟩) 1 1) x:=by
 have d:Own .u64 94 (w.alloc (.cells #[.int .u64 (x:Int)] 94)) w.heap.size [x]:=Own.new w _ _ [x] []
 refine⟨_,[x],1,rfl,uM _,d.shows0,Dig.nil.cons c,?_,by simp⟩
 intro k a
 simp at a
 subst a
 simpa using b
theorem cC (x:Nat)(w:World)(a:x<W64):yA 170 #[.int .u64 (x:Int)] w (wW w x):=by
 have c:=zh a
 clear a
 by_cases b:x=0
 ·subst b
  go_enter Tryz.func170,Tryz.ntmps170
  go_wp2
  go_ret
  exact⟨_,rfl,zK.zero _,Fr.refl _ _⟩
 have d:(((x:Nat):Int) == 0)=false:=by simp;omega
 go_enter Tryz.func170,Tryz.ntmps170
 go_wp2
 go_ret
 exact⟨_,rfl,zK.one w b c.out,(Fr.refl _ _).alloc _⟩
end Go.Proofs.YtklpdkpcocnglaaGreatDoor
