/-
 My texts.
-/
import Derived.Test.YtmpffakfhcpjoaaGreatDoorF02
import Derived.BigQuiet
set_option maxRecDepth 100000
set_option maxHeartbeats 8000000
namespace Go.Proofs.YtmpffakfhcpjoaaGreatDoor
open Go.RowKit Tryz
def cmpI (a b:Int):Int:=if a<b then -1 else if b<a then 1 else 0
theorem ZmT (x y:Int)(w:World):Ζ 170 #[.int .i64 x,.int .i64 y] w fun e w'=>e=.returned (.int .i64 (cmpI x y))∧w'=w:=by
 go_enter func170,ntmps170
 go_wp2
 all_goals (go_ret;exact⟨by simp[cmpI, *];try omega,rfl⟩)
theorem Zga (x y:Int)(w:World):Ζ 171 #[.int .u64 x,.int .u64 y] w fun e w'=>e=.returned (.int .i64 (cmpI x y))∧w'=w:=by
 go_enter func171,ntmps171
 go_wp2
 all_goals (go_ret;exact⟨by simp[cmpI, *];try omega,rfl⟩)
theorem iJ {a b:Int}(h:a<b):cmpI a b = -1:=by simp[cmpI,h]
theorem gY {a b:Int}(h:b<a):cmpI a b=1:=by unfold cmpI;rw[uI qO,uM h]
theorem ZbY (a:Int):cmpI a a=0:=by simp[cmpI]
theorem Zhp {xs ys:qN}(a:Dig W64 xs)(b:Dig W64 ys)(c:Trim xs)(d:Trim ys)(e:xs.length≠ys.length):cmpI xs.length ys.length=cmpI (val W64 xs) (val W64 ys):=by
 rcases pL e with h|h
 ·rw[iJ qO,iJ (by have:=fA zK a d h;omega)]
 rw[gY qO,gY (by have:=fA zK b c h;omega)]
theorem Zd3 {xs ys:qN}(d:Dig W64 xs)(e:Dig W64 ys)(b:xs.length=ys.length){k x y:Nat}(f:k<xs.length)(c:xs.drop (k+1)=ys.drop (k+1))(ex:xs[k]?.getD 0=x)(g:ys[k]?.getD 0=y)(a:x≠y) :
 cmpI x y=cmpI (val W64 xs) (val W64 ys):=by
 subst ex g
 rcases pL a with h|h
 ·rw[iJ qO,iJ (by have:=cE d b k f c h;omega)]
 rw[gY qO,gY (by have:=cE e b.symm k qO c.symm h;omega)]
theorem dH (A C:qA)(xs ys:qN)(n m c c2:Nat)(w:World)(J:xs.length=n)(K:ys.length=m)(r:zI .u64 w A xs)(s:zI .u64 w C ys)(V:xs.length≤1099511627776)(_:ys.length≤1099511627776)(g:Dig W64 xs)(o:Dig W64 ys)(t:Trim xs)(u:Trim ys) :
 Ζ 139 #[.slice A n c,.slice C m c2] w fun e w'=>e=.returned (.int .i64 (cmpI (val W64 xs) (val W64 ys)))∧∃ n,w'=w.drewN n:=by
 subst J K
 by_cases p:xs.length=ys.length
 ·have L:=zh r
  have M:=zh s
  have d:=zh p
  have N:=zh g
  have O:=zh o
  have v:(((xs.length:Nat):Int) != (ys.length:Nat))=false:=by simp[p]
  clear r s g o t u p
  go_enter func139,ntmps139
  go_wp2
  go_loopw [5] (fun i wr=>∃ k n:Nat,k≤xs.length∧i=.int .i64 ((k:Int)-1)∧Hid (xs.drop k=ys.drop k)∧Hid (wr=w.drewN n)) (fun i _=>(intOf i+1).toNat)
  case atStart=>exact⟨xs.length,0,uF _,rfl,by unfold Hid;rw[vF (uF _),vF (by rw[d.out];exact uF _)],rfl⟩
  case round =>
   obtain⟨k,n,W,rfl,Q,D⟩:=hrel
   obtain rfl:=D.out
   clear D
   by_cases P:0<k
   ·obtain⟨j,rfl⟩:∃ j,k=j+1:=⟨k-1,qO⟩
    have E:(((j+1:Nat):Int)-1)=(j:Int):=qO
    rw[E]
    clear E
    obtain⟨b,R,rfl,_,z⟩:=L.out.at (i:=j) qO
    obtain⟨X,F,rfl,_,B⟩:=M.out.at (i:=j) (by have:=d.out;omega)
    obtain⟨x,ex⟩:=yE (xs[j]?.getD 0)
    obtain⟨y,a⟩:=yE (ys[j]?.getD 0)
    rw[ex] at z
    rw[a] at B
    have S:(j:Int)<(ys.length:Nat):=by have:=d.out;omega
    have T:(j:Int)<(xs.length:Nat):=qO
    by_cases G:x=y
    ·subst G
     have q:Hid (xs.drop j=ys.drop j):=by
      unfold Hid
      have H:j<xs.length:=qO
      have I:j<ys.length:=by have:=d.out;omega
      rw[tW H,tW I,Q.out]
      rw[uR H] at ex
      rw[uR I] at a
      simp only[qW] at ex a
      rw[ex,a]
     clear ex a Q
     go_wp2
     go_quiet (fail)
     go_wp2
     go_roundw
     case rel=>exact⟨j,_,qO,rfl,q,rfl⟩
     case measure=>simp[intOf]
    have f:=zh (Zd3 N.out O.out d.out qO Q.out ex a G)
    have U:(((x:Nat):Int) != (y:Nat))=true:=by simp;omega
    clear ex a Q
    go_wp2
    go_quiet (fail)
    go_wp2
    go_quiet ((go_at_call 171;first|exact Calls.quiet_of_same (Zga _ _ _)|exact (Zga _ _ _).mono (fun _ _ h=>⟨h.1,_,h.2⟩)))
    go_wp2
    go_ret
    exact⟨by rw[←f.out];rfl,by simp only[World.drewN_drewN];exact⟨_,rfl⟩⟩
   obtain rfl:k=0:=qO
   have q:xs=ys:=by simpa using Q.out
   have f:=zh (vP (fun l=>cmpI (val W64 xs) (val W64 l)) q)
   clear Q q
   go_wp2
   go_ret
   exact⟨by rw[←(show _=cmpI (val W64 xs) (val W64 ys) from f.out),ZbY];rfl,_,rfl⟩
 have v:(((xs.length:Nat):Int) != (ys.length:Nat))=true:=by simp;omega
 have f:=zh (Zhp g o t u p)
 clear r s g o t u
 go_enter func139,ntmps139
 go_wp2_with (go_at_call 170;refine (ZmT _ _ _).mono ?_;rintro e w' ⟨rfl,rfl⟩)
 go_ret
 exact⟨by rw[←f.out];rfl,0,rfl⟩
def wl (n:Nat):Nat:=if n=0 then 0 else n.log2/64+1
theorem bI (k:Nat):W64^k=2^(64*k):=by rw[qI,zN]
theorem kK {n k:Nat}:wl n≤k↔n<W64^k:=by
 unfold wl
 rw[bI]
 split
 ·rename_i h;subst h;simp[uZ]
 rename_i h
 rw[←Nat.log2_lt h];omega
theorem ZeW (n:Nat):n<W64^wl n:=kK.1 (uF _)
theorem ZlE:wl 0=0:=rfl
theorem lC {a b:Nat}(h:a≤b):wl a≤wl b:=kK.2 (vA h (ZeW b))
theorem ZaW (a b:Nat):wl (a*b)≤wl a+wl b:=kK.2 (by rw[uU];exact pY (ZeW a) (ZeW b))
theorem Zjg {a b k:Nat}(ha:wl a≤k)(c:wl b≤k):wl (a+b)≤k+1:=by
 rw[kK] at *
 have:W64^k*2≤W64^k*W64:=uK _ ZlC
 rw[uO]
 omega
theorem xT {xs:qN}(a:Dig W64 xs)(b:Trim xs):xs.length=wl (val W64 xs):=by
 have c:=jK (n:=wl (val W64 xs)) eJ b (ZeW _)
 have d:wl (val W64 xs)≤xs.length:=kK.2 (wF a)
 omega
theorem Zd4 {n:Nat}(h:0<n):0<wl n:=by
 unfold wl;rw[uI qO];omega
theorem aU {n:Nat}:wl n≤1↔n<W64:=by rw[kK,mK]
def zF (w:World) (v:Value) (n:Nat):Prop :=
 ∃ (A:Option Addr) (xs:List Nat) (c:Nat),v=.slice A xs.length c∧xs.length≤c∧zI .u64 w A xs∧Dig W64 xs∧Trim xs∧val W64 xs=n
theorem zF.ext {w w':World}{v:Value}{n:Nat}(h:zF w v n)(a:Ext w w'):zF w' v n:=by
 obtain⟨A,b,c,d,e,f,g⟩:=h
 exact⟨A,b,c,d,e,f.ext a,g⟩
theorem zF.zero (w:World):zF w (.slice none 0 0) 0:=⟨none,[],0,rfl,qS,zI.nil,Dig.nil,Trim.nil,rfl⟩
def lH (w:World) (n:Nat) (e:Ending) (w':World):Prop:=∃ v,e=.returned v∧zF w' v n∧Ext w w'
def ZcB (w:World) (A A2:Option Addr) (n:Nat) (e:Ending) (w':World):Prop:=∃ B l c,e=.returned (.slice B l c)∧zF w' (.slice B l c) n∧Ext w w'∧∀ a,B=some a→w.heap.size≤a.block∨B=A∨B=A2
theorem ZcB.ret {w w':World}{A a:qA}{n:Nat}{e:Ending}(h:ZcB w A a n e w'):lH w n e w':=by
 obtain⟨B,l,c,rfl,b,d,_⟩:=h
 exact⟨_,rfl,b,d⟩
theorem dR:(prog.info? 84).map (fun i=>(i.zero,i.size,i.bytes))=some (some (.int .u64 0),1,8):=qK
theorem Zr8:(prog.info? 84).map (·.size)=some 1:=qK
theorem zF.of_own {w:World}{b:Nat}{xs:qN}(h:Own .u64 84 w b xs)(a:Dig W64 xs){c:Nat}(d:xs.length≤c):zF w (.slice (some ⟨b,0,none⟩) (wU xs xs.length) c) (val W64 xs):=by
 refine⟨_,wL xs,c,by rw[wQ],by rw[wQ];exact uA (gN _ _) d,h.shows0.take _,iM a,iQ xs,lG _ _⟩
theorem ZtI (w:World)(a:qA)(n c:Nat):(binOp .eql 96 (.slice a n c) (.slice none 0 0)).run prog w=.ok (.bool a.isNone) w :=
 Lib.run_eql_slice_nil w 96 84 a n c 0 0 underlying96
def Zjh (w:World) (xs:List Nat) (e:Ending) (w':World):Prop :=
 ∃ A cap,e=.returned (.slice A xs.length cap)∧Buf .u64 84 w' A cap xs∧Ext w w'∧∀ b,xQ A b→w.heap.size≤b
theorem gT (A:qA)(xs:qN)(n c:Nat)(w:World)(o:xs.length=n)(p:zI .u64 w A xs)(x:n≤4294967296) :
 Ζ 140 #[.slice A n c] w (Zjh w xs):=by
 have q:=zh p
 have r:=zh o
 clear p o
 have s:=ZtI
 cases A with
 | none =>
  have t:Hid (xs=[]):=by
   rcases xs with _|⟨y,z⟩
   ·rfl
   obtain⟨b,u,h,_⟩:=q.out qS;cases h
  go_enter func140,ntmps140
  go_wp2
  go_ret
  rw[t.out]
  exact⟨none,0,rfl,Buf.nil,Fr.refl _ _,fun b d=>by obtain⟨a,ha,_⟩:=d;cases ha⟩
 | some ad =>
  go_enter func140,ntmps140
  go_wp2_with (
   at_builtin
   refine lF rfl _ _ _ rfl _ .u64 8 underlying96 dR (some ⟨w.heap.size,0,none⟩) (some ad) 0 n 0 c rfl rfl [] xs rfl r.out ?_ (q.out.alloc _) (by simp only[maxLen];omega) qO ?_
   ·exact Or.inr ⟨_,rfl,Own.new w _ _ [] [],⟨#[],heap_alloc_new w _,rfl⟩,uF _,by simp only[maxLen];omega⟩
   intro v e B f g j
   have k:=zh f
   have l:=zh g
   have m:=zh j
   clear f g j)
  go_ret
  refine⟨v,e,?_,by simpa using k.out,?_,?_⟩
  ·rw[r.out];simp
  ·refine ((Fr.refl (fun _=>False) w).alloc _).next l.out (fun i hi d=>?_)
   obtain⟨a,ha,d⟩:=d
   injection ha with ha
   subst ha
   simp at d;omega
  intro b d
  rcases m.out b d with ⟨a,ha,h⟩|h
  ·injection ha with ha;subst ha;simp at h;omega
  simp at h;omega
theorem zF.one (w:World){x:Nat}(b:x≠0)(c:x<W64):zF (w.alloc (.cells #[.int .u64 (x:Int)] 84)) (.slice (some ⟨w.heap.size,0,none⟩) 1 1) x:=by
 have d:Own .u64 84 (w.alloc (.cells #[.int .u64 (x:Int)] 84)) w.heap.size [x]:=Own.new w _ _ [x] []
 refine⟨_,[x],1,rfl,uF _,d.shows0,Dig.nil.cons c,?_,qS⟩
 intro k a
 simp at a
 subst a
 simpa using b
theorem ZdN (x:Nat)(w:World)(b:x<W64):Ζ 145 #[.int .u64 (x:Int)] w (ZcB w none none x):=by
 have d:=zh b
 clear b
 by_cases c:x=0
 ·subst c
  go_enter func145,ntmps145
  go_wp2
  go_ret
  exact⟨none,0,0,rfl,zF.zero _,Fr.refl _ _,fun a h=>by cases h⟩
 have e:(((x:Nat):Int) == 0)=false:=by simp;omega
 go_enter func145,ntmps145
 go_wp2
 go_ret
 exact⟨_,_,_,rfl,zF.one w c d.out,(Fr.refl _ _).alloc _,fun a h=>Or.inl (by injection h with h;subst h;exact uF _)⟩
theorem aV (x:Nat)(w:World)(a:x<W64):Ζ 145 #[.int .u64 (x:Int)] w (lH w x):=(ZdN x w a).mono fun _ _ h=>h.ret
end Go.Proofs.YtmpffakfhcpjoaaGreatDoor
