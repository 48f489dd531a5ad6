/-
 My texts MulWords, Mul, Madd, App put together.
-/
import Derived.Test.YtklpdkpcocnglaaGreatDoorX04
import Derived.Test.YtklpdkpcocnglaaGreatDoorX05
set_option maxRecDepth 100000
set_option maxHeartbeats 8000000
namespace Go.Proofs.YtklpdkpcocnglaaGreatDoor
open Go.RowKit
theorem wE (a:Nat)(ha:a<W64):IntKind.u64.wrap (a:Int)=(a:Int):=by rw[zO] at ha;rw[IntKind.wrap_u64];omega
theorem ZcZ {a b:Nat}(ha:a<W64)(c:b<W64):a*b+W64+W64≤W64*W64+1:=by
 have d:a*b≤(W64-1)*(W64-1):=vV (by omega) (by omega)
 rw[zO] at *
 omega
theorem aV (a:Nat){n:Nat}(h:W64*a<W64*n):a<n:=tW h
noncomputable def ZbZ (z x u c:Nat):Nat:=lJ z (xI (xE x u) c 0) 0
noncomputable def aJ (z x u c:Nat):Nat:=wI x u+xO (xE x u) c 0+lK z (xI (xE x u) c 0) 0
theorem ZhR {z:Nat}(a:z<W64)(x u c:Nat):ZbZ z x u c+x*u+c=z+W64*aJ z x u c:=by
 have b:=dY x u
 have d:=fR (xE x u) c 0
 have e:=Zby a (dX (xE x u) c 0) (c:=0) (by omega)
 unfold ZbZ aJ
 rw[uN,uN]
 omega
theorem ZdV {z x u c:Nat}(a:z<W64)(b:x<W64)(d:u<W64)(e:c<W64):aJ z x u c<W64:=by
 have f:=ZhR a x u c
 have g:=ZcZ b d
 have h:ZbZ z x u c<W64:=Zak _ _ _
 exact aV _ (by omega)
theorem ZoR {z x u c:Nat}(a:z<W64)(b:x<W64)(d:u<W64)(e:c<W64) :
 IntKind.u64.wrap (IntKind.u64.wrap ((wI x u:Int)+(xO (xE x u) c 0:Int))+(lK z (xI (xE x u) c 0) 0:Int))=(aJ z x u c:Int):=by
 have h:=ZdV a b d e
 unfold aJ at *
 rw[←sX,wE _ (by omega),← sX,wE _ h]
def eB (mid xs:List Nat) (u k:Nat) (m:List Nat) (c:Nat):Prop :=
 m.length=mid.length∧m.drop k=mid.drop k∧Dig W64 m∧c<W64∧val W64 (m.take k)+val W64 (xs.take k)*u=val W64 (mid.take k)+W64^k*c
theorem eB.start (mid xs:List Nat)(u:Nat)(h:Dig W64 mid):eB mid xs u 0 mid 0:=⟨rfl,rfl,h,zM,by simp⟩
theorem eB.at {mid xs m:List Nat}{u k c:Nat}(h:eB mid xs u k m c):m[k]?.getD 0=mid[k]?.getD 0:=by
 have:=vP (fun l=>l[0]?.getD 0) h.2.1
 simpa [List.getElem?_drop] using this
theorem eB.step {mid xs m:List Nat}{u k c z x:Nat}(h:eB mid xs u k m c)(i:k<mid.length)(e:m[k]?.getD 0=z)(f:xs[k]?.getD 0=x)(b:k<xs.length)(d:Dig W64 xs)(j:u<W64):eB mid xs u (k+1) (m.set k (ZbZ z x u c)) (aJ z x u c):=by
 have l:mid[k]?.getD 0=z:=h.at.symm.trans e
 obtain⟨n,o,g,p,q⟩:=h
 have a:z<W64:=e ▸ g.getD zM k
 refine⟨by simpa using n,?_,g.set k (Zak _ _ _),ZdV a (f ▸ d.getD zM k) j p,?_⟩
 ·rw[vX (by omega),← vM,← vM,o]
 rw[xL _ _ _ _ (by omega),zR k i,zR k b,l,f,uO]
 exact ZhQ _ _ _ _ _ _ _ _ _ _ _ q (ZhR a x u c)
def Zjb (mid xs:List Nat) (u cc:Nat) (m:List Nat):Prop:=val W64 m+val W64 xs*u=val W64 mid+W64^mid.length*cc
theorem eB.done {mid xs m:List Nat}{u c:Nat}(h:eB mid xs u xs.length m c)(b:xs.length=mid.length):Zjb mid xs u c m:=by
 obtain⟨d,e,f,g,a⟩:=h
 rw[uA (by omega),uA (by omega),uA (by omega),b] at a
 exact a
def ZoS (t:TypeId) (b:Nat) (pre mid post xs:List Nat) (u:Nat) (w:World) (e:Ending) (w':World):Prop :=
 ∃ cc,e=.returned (.int .u64 (cc:Nat))∧cc<W64∧Zqc t b pre post mid.length (Zjb mid xs u cc) w w'
theorem ZdJ (b c c2 off n m u:Nat)(d mid f xs:List Nat)(A:Option Addr)(w:World)(O:d.length=off)(P:mid.length=n)(y:xs.length=m)(G:Own .u64 94 w b (d ++ mid ++ f))(H:zF .u64 w A xs)(I:∀ a,A=some a→a.block≠b)(J:xs.length=mid.length)(hm:mid.length≤1099511627776)(l:Dig W64 mid)(o:Dig W64 xs)(K:u<W64) :
 yA 223 #[.slice (some ⟨b,off,none⟩) n c,.slice A m c2,.int .u64 (u:Int)] w (ZoS 94 b d mid f xs u w):=by
 subst O P y
 have Q:=zh G
 have R:=zh H
 have S:=zh I
 have B:=zh l
 have p:=zh o
 have T:=zh J
 have C:=zh K
 have U:xs.length≤mid.length:=by omega
 clear G H I l o J K
 go_enter Tryz.func223,Tryz.ntmps223
 go_wp2
 go_loopw [7,16] (fun V i wr=>∃ (k t:Nat) (m:List Nat),k≤xs.length∧i=.int .i64 k∧V=.int .u64 t∧Hid (eB mid xs u k m t)∧Hid (Own .u64 94 wr b (d ++ m ++ f))∧Hid (Fr (· = b) w wr)∧Hid (lS 94 b w wr)) (fun _ i _=>xs.length-(intOf i).toNat)
 case atStart=>exact⟨0,0,mid,by omega,rfl,rfl,eB.start _ _ _ B.out,Q.out,Fr.refl _ _,lS.refl _ _ _⟩
 case round =>
  obtain⟨k,t,m,hk,rfl,rfl,h,g,j,q⟩:=hrel
  by_cases r:k<xs.length
  ·obtain⟨b2,L,rfl,W,D⟩:=(R.out.fr j.out (fun a M _=>S.out a M)).at r
   obtain⟨x,ex⟩:=yE (xs[k]?.getD 0)
   obtain⟨z,v⟩:=yE (m[k]?.getD 0)
   have s:k<m.length:=by have:=h.out.1;omega
   have E:=g.out.mid (k:=k) s
   have X:=g.out.frozen (d.length+k)
   rw[ex] at D
   rw[v] at E
   have N:Hid (x<W64):=ex ▸ p.out.getD zM k
   have F:=zh (h.out.step (by omega) v ex r p.out C.out)
   have Y:=zh (ZoR (v ▸ h.out.2.2.1.getD zM k) N.out C.out h.out.2.2.2.1)
   clear ex v
   have M:=Zbz
   have Z:=Zi8
   go_wp2_with (go_at_call 145;refine (ZaO _ _ N.out C.out _).mono ?_;rintro e w' ⟨rfl,rfl⟩)
   go_roundw
   case rel=>exact⟨k+1,_,_,by omega,by go_num,by rw[Y.out],F,g.out.set_mid s _,j.out.setCell (Or.inl rfl) _,q.out.setCell _ _ _⟩
   case measure=>simp[intOf];omega
  obtain rfl:k=xs.length:=by omega
  go_wp2
  go_ret
  exact⟨t,rfl,h.out.2.2.2.1,j.out,q.out,m,g.out,h.out.1,h.out.2.2.1,h.out.done T.out⟩
theorem Znc (a:List Nat)(k n:Nat):a.take k ++ (a.drop k).take n ++ a.drop (k+n)=a:=by
 rw[tC,← vM,rK,rK]
noncomputable def maLo (x y c:Nat):Nat:=xI (xE x y) c 0
noncomputable def maHi (x y c:Nat):Nat:=wI x y+xO (xE x y) c 0
theorem ZeJ (x y c:Nat):maLo x y c+W64*maHi x y c=x*y+c:=by
 have a:=dY x y
 have b:=fR (xE x y) c 0
 unfold maLo maHi
 rw[uN]
 omega
theorem Zhe (x y c:Nat):maLo x y c<W64:=dX _ _ _
theorem ZcA {x y c:Nat}(a:x<W64)(b:y<W64)(d:c<W64):maHi x y c<W64:=by
 have e:=ZeJ x y c
 have f:=ZcZ a b
 exact aV _ (by omega)
theorem kI (x y c:Nat)(w:World)(a:x<W64)(b:y<W64)(d:c<W64) :
 yA 197 #[.int .u64 (x:Int),.int .u64 (y:Int),.int .u64 (c:Int)] w fun e w'=>e=.returned (.tuple #[.int .u64 (maLo x y c:Int),.int .u64 (maHi x y c:Int)])∧w=w':=by
 have f:=zh a
 have g:=zh b
 have i:Hid (IntKind.u64.wrap ((wI x y:Int)+(xO (xE x y) c 0:Int))=(maHi x y c:Int)):=by
  have h:=ZcA a b d
  unfold Hid maHi at *
  rw[←sX,wE _ h]
 clear a b d
 have j:=Zbz
 go_enter Tryz.func197,Tryz.ntmps197
 go_wp2_with (go_at_call 145;refine (ZaO _ _ f.out g.out _).mono ?_;rintro e w' ⟨rfl,rfl⟩)
 go_ret2
 exact⟨by rw[←i.out];rfl,rfl⟩
end Go.Proofs.YtklpdkpcocnglaaGreatDoor
namespace Go.Proofs.YtklpdkpcocnglaaGreatDoor
def iH (u v:Nat) (xs ys os:List Nat) (k:Nat) (zs:List Nat) (cM cN bo:Nat):Prop :=
 zs.length=os.length∧zs.drop k=os.drop k∧Dig W64 zs∧cM<W64∧cN<W64∧bo≤1 ∧
  val W64 (zs.take k)+u*val W64 (xs.take k)+W64^k*cN=v*val W64 (ys.take k)+W64^k*(cM+bo)
theorem iH.start {u v:Nat}{xs ys os:List Nat}(h:Dig W64 os):iH u v xs ys os 0 os 0 0 0:=⟨rfl,rfl,h,zM,zM,by omega,by simp⟩
theorem ZoY (a B V X Y u v x y b c e m n cM' cN' d bo':Nat)(h:V+u*X+a*c=v*Y+a*(b+e))(i:m+B*cM'=x*u+b)(j:n+B*cN'=y*v+c)(k:d+m+e=n+B*bo') :
 V+a*d+u*(X+a*x)+a*B*cN'=v*(Y+a*y)+a*B*(cM'+bo'):=by
 have f:=vP (a * ·) i
 have g:=vP (a * ·) j
 have e4:=vP (a * ·) k
 simp only[uN] at f g e4 h ⊢
 have l:u*(a*x)=a*(x*u):=by rw[vU,uF u]
 have o:v*(a*y)=a*(y*v):=by rw[vU,uF v]
 have p:a*(B*cM')=a*B*cM':=(uG _ _ _).symm
 have q:a*(B*cN')=a*B*cN':=(uG _ _ _).symm
 have r:a*(B*bo')=a*B*bo':=(uG _ _ _).symm
 rw[l,o]
 rw[p] at f
 rw[q] at g
 rw[r] at e4
 omega
theorem iH.step {u v:Nat}{xs ys os d:List Nat}{k a b e x y:Nat}(h:iH u v xs ys os k d a b e)(n:u<W64)(o:v<W64)(f:k<xs.length)(g:k<ys.length)(p:k<os.length)(dx:Dig W64 xs)(q:Dig W64 ys)(l:xs[k]?.getD 0=x)(m:ys[k]?.getD 0=y) :
 iH u v xs ys os (k+1) (d.set k (lJ (maLo y v b) (maLo x u a) e)) (maHi x u a) (maHi y v b) (lK (maLo y v b) (maLo x u a) e):=by
 obtain⟨r,s,t,w,z,A,B⟩:=h
 have i:x<W64:=l ▸ dx.getD zM k
 have j:y<W64:=m ▸ q.getD zM k
 have c:k<d.length:=by omega
 refine⟨by simpa using r,?_,t.set k (Zak _ _ _),ZcA i n w,ZcA j o z,ZcY _ _ _,?_⟩
 ·rw[vX (by omega)]
  have:=vP (List.drop 1) s
  simpa [vM,vL] using this
 rw[zR k (by simpa using c),zR k f,zR k g,l,m,sU (uM _),List.getElem?_set_self c,uO]
 exact ZoY _ _ _ _ _ _ _ _ _ _ _ _ _ _ _ _ _ _ B (ZeJ x u a) (ZeJ y v b) (Zby (Zhe _ _ _) (Zhe _ _ _) A)
theorem iH.at {u v:Nat}{xs ys os a:List Nat}{k b c d:Nat}(h:iH u v xs ys os k a b c d):a[k]?.getD 0=os[k]?.getD 0:=by
 have:=vP (fun l:List Nat=>l[0]?.getD 0) h.2.1
 simpa using this
theorem iH.done {u v R:Nat}{xs ys os zs:List Nat}{a b c:Nat}(h:iH u v xs ys os os.length zs a b c)(n:xs.length=os.length)(o:ys.length=os.length)(k:R+u*val W64 xs=v*val W64 ys)(d:R<W64^os.length):val W64 zs=R∧Dig W64 zs∧zs.length=os.length:=by
 obtain⟨f,_,g,_,_,_,l⟩:=h
 rw[uA (by omega),uA (by omega),uA (by omega),← k] at l
 have i:=xZ g
 rw[f] at i
 have e:val W64 zs+W64^os.length*b=R+W64^os.length*(a+c):=by omega
 have j:(val W64 zs+W64^os.length*b)%W64^os.length=val W64 zs:=by rw[rJ,vC i]
 have m:(R+W64^os.length*(a+c))%W64^os.length=R:=by rw[rJ,vC d]
 rw[e,m] at j
 exact⟨j.symm,g,f⟩
end Go.Proofs.YtklpdkpcocnglaaGreatDoor
