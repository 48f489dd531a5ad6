/-
 My texts.
-/
import Derived.Test.YtdlgidnkmbklcaaGreatDoorZ02
import Derived.BigQuiet
set_option maxRecDepth 100000
set_option maxHeartbeats 8000000
namespace Go.Proofs.YtdlgidnkmbklcaaGreatDoor
open Go.RowKit Tryz
def cmpI (a b:Int):Int:=if a<b then -1 else if b<a then 1 else 0
theorem ZlC (x y:Int)(w:World):yA 197 #[.int .i64 x,.int .i64 y] w fun e w'=>e=.returned (.int .i64 (cmpI x y))∧w'=w:=by
 go_enter func197,ntmps197
 go_wp2
 all_goals (go_ret;exact⟨by simp[cmpI, *];try omega,rfl⟩)
theorem Zfu (x y:Int)(w:World):yA 198 #[.int .u64 x,.int .u64 y] w fun e w'=>e=.returned (.int .i64 (cmpI x y))∧w'=w:=by
 go_enter func198,ntmps198
 go_wp2
 all_goals (go_ret;exact⟨by simp[cmpI, *];try omega,rfl⟩)
theorem iJ {a b:Int}(h:a<b):cmpI a b = -1:=by simp[cmpI,h]
theorem gU {a b:Int}(h:b<a):cmpI a b=1:=by unfold cmpI;rw[uQ qO,uZ h]
theorem Zdo (a:Int):cmpI a a=0:=by simp[cmpI]
theorem Zgx {xs ys:qN}(a:Dig W64 xs)(b:Dig W64 ys)(c:Trim xs)(d:Trim ys)(e:xs.length≠ys.length):cmpI xs.length ys.length=cmpI (val W64 xs) (val W64 ys):=by
 rcases pK e with h|h
 ·rw[iJ qO,iJ (by have:=gK zP a d h;omega)]
 rw[gU qO,gU (by have:=gK zP b c h;omega)]
theorem Zdp {xs ys:qN}(d:Dig W64 xs)(e:Dig W64 ys)(b:xs.length=ys.length){k x y:Nat}(f:k<xs.length)(c:xs.drop (k+1)=ys.drop (k+1))(g:xs[k]?.getD 0=x)(i:ys[k]?.getD 0=y)(a:x≠y) :
 cmpI x y=cmpI (val W64 xs) (val W64 ys):=by
 subst g i
 rcases pK a with h|h
 ·rw[iJ qO,iJ (by have:=dA d b k f c h;omega)]
 rw[gU qO,gU (by have:=dA e b.symm k qO c.symm h;omega)]
theorem eE (A D:qA)(xs ys:qN)(n m c c2:Nat)(w:World)(K:xs.length=n)(L:ys.length=m)(s:zH .u64 w A xs)(t:zH .u64 w D ys)(W:xs.length≤1099511627776)(_:ys.length≤1099511627776)(o:Dig W64 xs)(p:Dig W64 ys)(u:Trim xs)(v:Trim ys) :
 yA 153 #[.slice A n c,.slice D m c2] w fun e w'=>e=.returned (.int .i64 (cmpI (val W64 xs) (val W64 ys)))∧∃ n,w'=w.drewN n:=by
 subst K L
 by_cases q:xs.length=ys.length
 ·have M:=zh s
  have N:=zh t
  have f:=zh q
  have O:=zh o
  have P:=zh p
  have z:(((xs.length:Nat):Int) != (ys.length:Nat))=false:=by simp[q]
  clear s t o p u v q
  go_enter func153,ntmps153
  go_wp2
  go_loopw [5] (fun i wr=>∃ k n:Nat,k≤xs.length∧i=.int .i64 ((k:Int)-1)∧Hid (xs.drop k=ys.drop k)∧Hid (wr=w.drewN n)) (fun i _=>(intOf i+1).toNat)
  case atStart=>exact⟨xs.length,0,uF _,rfl,by unfold Hid;rw[vA (uF _),vA (by rw[f.out];exact uF _)],rfl⟩
  case round =>
   obtain⟨k,n,X,rfl,Q,E⟩:=hrel
   obtain rfl:=E.out
   clear E
   by_cases R:0<k
   ·obtain⟨j,rfl⟩:∃ j,k=j+1:=⟨k-1,qO⟩
    have F:(((j+1:Nat):Int)-1)=(j:Int):=qO
    rw[F]
    clear F
    obtain⟨b,S,rfl,_,B⟩:=M.out.at (i:=j) qO
    obtain⟨Y,G,rfl,_,C⟩:=N.out.at (i:=j) (by have:=f.out;omega)
    obtain⟨x,a⟩:=yE (xs[j]?.getD 0)
    obtain⟨y,d⟩:=yE (ys[j]?.getD 0)
    rw[a] at B
    rw[d] at C
    have T:(j:Int)<(ys.length:Nat):=by have:=f.out;omega
    have U:(j:Int)<(xs.length:Nat):=qO
    by_cases H:x=y
    ·subst H
     have r:Hid (xs.drop j=ys.drop j):=by
      unfold Hid
      have I:j<xs.length:=qO
      have J:j<ys.length:=by have:=f.out;omega
      rw[tR I,tR J,Q.out]
      rw[uV I] at a
      rw[uV J] at d
      simp only[qG] at a d
      rw[a,d]
     clear a d Q
     go_wp2
     go_quiet (fail)
     go_wp2
     go_roundw
     case rel=>exact⟨j,_,qO,rfl,r,rfl⟩
     case measure=>simp[intOf]
    have g:=zh (Zdp O.out P.out f.out qO Q.out a d H)
    have V:(((x:Nat):Int) != (y:Nat))=true:=by simp;omega
    clear a d Q
    go_wp2
    go_quiet (fail)
    go_wp2
    go_quiet ((go_at_call 198;first|exact Calls.quiet_of_same (Zfu _ _ _)|exact (Zfu _ _ _).mono (fun _ _ h=>⟨h.1,_,h.2⟩)))
    go_wp2
    go_ret
    exact⟨by rw[←g.out];rfl,by simp only[World.drewN_drewN];exact⟨_,rfl⟩⟩
   obtain rfl:k=0:=qO
   have r:xs=ys:=by simpa using Q.out
   have g:=zh (uX (fun l=>cmpI (val W64 xs) (val W64 l)) r)
   clear Q r
   go_wp2
   go_ret
   exact⟨by rw[←(show _=cmpI (val W64 xs) (val W64 ys) from g.out),Zdo];rfl,_,rfl⟩
 have z:(((xs.length:Nat):Int) != (ys.length:Nat))=true:=by simp;omega
 have g:=zh (Zgx o p u v q)
 clear s t o p u v
 go_enter func153,ntmps153
 go_wp2_with (go_at_call 197;refine (ZlC _ _ _).mono ?_;rintro e w' ⟨rfl,rfl⟩)
 go_ret
 exact⟨by rw[←g.out];rfl,0,rfl⟩
def wl (n:Nat):Nat:=if n=0 then 0 else n.log2/64+1
theorem cF (k:Nat):W64^k=2^(64*k):=by rw[rU,zR]
theorem jC {n k:Nat}:wl n≤k↔n<W64^k:=by
 unfold wl
 rw[cF]
 split
 ·rename_i h;subst h;simp[uY]
 rename_i h
 rw[←Nat.log2_lt h];omega
theorem Zd8 (n:Nat):n<W64^wl n:=jC.1 (uF _)
theorem ZkB:wl 0=0:=rfl
theorem lV {a b:Nat}(h:a≤b):wl a≤wl b:=jC.2 (vN h (Zd8 b))
theorem Zfv (a b:Nat):wl (a*b)≤wl a+wl b:=jC.2 (by rw[uW];exact nF (Zd8 a) (Zd8 b))
theorem ZmI {a b k:Nat}(ha:wl a≤k)(c:wl b≤k):wl (a+b)≤k+1:=by
 rw[jC] at *
 have:W64^k*2≤W64^k*W64:=uI _ Zkz
 rw[uP]
 omega
theorem xR {xs:qN}(a:Dig W64 xs)(b:Trim xs):xs.length=wl (val W64 xs):=by
 have c:=jB (n:=wl (val W64 xs)) fP b (Zd8 _)
 have d:wl (val W64 xs)≤xs.length:=jC.2 (xZ a)
 omega
theorem Zfw {n:Nat}(h:0<n):0<wl n:=by
 unfold wl;rw[uQ qO];omega
theorem Zaw {n:Nat}:wl n≤1↔n<W64:=by rw[jC,Nat.pow_one]
def zL (w:World) (v:Value) (n:Nat):Prop :=
 ∃ (A:Option Addr) (xs:List Nat) (c:Nat),v=.slice A xs.length c∧xs.length≤c∧zH .u64 w A xs∧Dig W64 xs∧Trim xs∧val W64 xs=n
theorem zL.ext {w w':World}{v:Value}{n:Nat}(h:zL w v n)(a:Ext w w'):zL w' v n:=by
 obtain⟨A,b,c,d,e,f,g⟩:=h
 exact⟨A,b,c,d,e,f.ext a,g⟩
theorem zL.zero (w:World):zL w (.slice none 0 0) 0:=⟨none,[],0,rfl,qS,zH.nil,Dig.nil,Trim.nil,rfl⟩
def lH (w:World) (n:Nat) (e:Ending) (w':World):Prop:=∃ v,e=.returned v∧zL w' v n∧Ext w w'
def Zb0 (w:World) (A A2:Option Addr) (n:Nat) (e:Ending) (w':World):Prop:=∃ B l c,e=.returned (.slice B l c)∧zL w' (.slice B l c) n∧Ext w w'∧∀ a,B=some a→w.heap.size≤a.block∨B=A∨B=A2
theorem Zb0.ret {w w':World}{A a:qA}{n:Nat}{e:Ending}(h:Zb0 w A a n e w'):lH w n e w':=by
 obtain⟨B,l,c,rfl,b,d,_⟩:=h
 exact⟨_,rfl,b,d⟩
theorem eL:(prog.info? 207).map (fun i=>(i.zero,i.size,i.bytes))=some (some (.int .u64 0),1,8):=qK
theorem Zqe:(prog.info? 207).map (·.size)=some 1:=qK
theorem zL.of_own {w:World}{b:Nat}{xs:qN}(h:Own .u64 207 w b xs)(a:Dig W64 xs){c:Nat}(d:xs.length≤c):zL w (.slice (some ⟨b,0,none⟩) (wO xs xs.length) c) (val W64 xs):=by
 refine⟨_,wL xs,c,by rw[wM],by rw[wM];exact uD (iY _ _) d,h.shows0.take _,iD a,iG xs,lC _ _⟩
theorem ZrF (w:World)(a:qA)(n c:Nat):(binOp .eql 83 (.slice a n c) (.slice none 0 0)).run prog w=.ok (.bool a.isNone) w :=
 Lib.run_eql_slice_nil w 83 207 a n c 0 0 underlying83
def Zix (w:World) (xs:List Nat) (e:Ending) (w':World):Prop :=
 ∃ A cap,e=.returned (.slice A xs.length cap)∧Buf .u64 207 w' A cap xs∧Ext w w'∧∀ b,xQ A b→w.heap.size≤b
theorem gC (A:qA)(xs:qN)(n c:Nat)(w:World)(o:xs.length=n)(p:zH .u64 w A xs)(x:n≤4294967296) :
 yA 154 #[.slice A n c] w (Zix w xs):=by
 have q:=zh p
 have r:=zh o
 clear p o
 have s:=ZrF
 cases A with
 | none =>
  have t:Hid (xs=[]):=by
   rcases xs with _|⟨y,z⟩
   ·rfl
   obtain⟨b,u,h,_⟩:=q.out qS;cases h
  go_enter func154,ntmps154
  go_wp2
  go_ret
  rw[t.out]
  exact⟨none,0,rfl,Buf.nil,Fr.refl _ _,fun b d=>by obtain⟨a,ha,_⟩:=d;cases ha⟩
 | some ad =>
  go_enter func154,ntmps154
  go_wp2_with (
   at_builtin
   refine lA rfl _ _ _ rfl _ .u64 8 underlying83 eL (some ⟨w.heap.size,0,none⟩) (some ad) 0 n 0 c rfl rfl [] xs rfl r.out ?_ (q.out.alloc _) (by simp only[maxLen];omega) qO ?_
   ·exact Or.inr ⟨_,rfl,Own.new w _ _ [] [],⟨#[],heap_alloc_new w _,rfl⟩,uF _,by simp only[maxLen];omega⟩
   intro v e B f g j
   have k:=zh f
   have l:=zh g
   have m:=zh j
   clear f g j)
  go_ret
  refine⟨v,e,?_,by simpa using k.out,?_,?_⟩
  ·rw[r.out];simp
  ·refine ((Fr.refl (fun _=>False) w).alloc _).next l.out (fun i hi d=>?_)
   obtain⟨a,ha,d⟩:=d
   injection ha with ha
   subst ha
   simp at d;omega
  intro b d
  rcases m.out b d with ⟨a,ha,h⟩|h
  ·injection ha with ha;subst ha;simp at h;omega
  simp at h;omega
theorem zL.one (w:World){x:Nat}(b:x≠0)(c:x<W64):zL (w.alloc (.cells #[.int .u64 (x:Int)] 207)) (.slice (some ⟨w.heap.size,0,none⟩) 1 1) x:=by
 have d:Own .u64 207 (w.alloc (.cells #[.int .u64 (x:Int)] 207)) w.heap.size [x]:=Own.new w _ _ [x] []
 refine⟨_,[x],1,rfl,uF _,d.shows0,Dig.nil.cons c,?_,qS⟩
 intro k a
 simp at a
 subst a
 simpa using b
theorem Zc6 (x:Nat)(w:World)(b:x<W64):yA 159 #[.int .u64 (x:Int)] w (Zb0 w none none x):=by
 have d:=zh b
 clear b
 by_cases c:x=0
 ·subst c
  go_enter func159,ntmps159
  go_wp2
  go_ret
  exact⟨none,0,0,rfl,zL.zero _,Fr.refl _ _,fun a h=>by cases h⟩
 have e:(((x:Nat):Int) == 0)=false:=by simp;omega
 go_enter func159,ntmps159
 go_wp2
 go_ret
 exact⟨_,_,_,rfl,zL.one w c d.out,(Fr.refl _ _).alloc _,fun a h=>Or.inl (by injection h with h;subst h;exact uF _)⟩
theorem aH (x:Nat)(w:World)(a:x<W64):yA 159 #[.int .u64 (x:Int)] w (lH w x):=(Zc6 x w a).mono fun _ _ h=>h.ret
end Go.Proofs.YtdlgidnkmbklcaaGreatDoor
