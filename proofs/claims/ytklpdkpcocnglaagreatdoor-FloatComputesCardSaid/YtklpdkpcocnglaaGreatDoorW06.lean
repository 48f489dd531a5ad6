/-
 My texts MulWords, Mul, Madd, App put together.
-/
import Derived.Test.YtklpdkpcocnglaaGreatDoorW04
import Derived.Test.YtklpdkpcocnglaaGreatDoorW05
set_option maxRecDepth 100000
set_option maxHeartbeats 8000000
namespace Go.Proofs.YtklpdkpcocnglaaGreatDoor
open Go.RowKit
theorem wC (a:Nat)(ha:a<W64):IntKind.u64.wrap (a:Int)=(a:Int):=by rw[zO] at ha;rw[IntKind.wrap_u64];omega
theorem Zci {a b:Nat}(ha:a<W64)(c:b<W64):a*b+W64+W64≤W64*W64+1:=by
 have d:a*b≤(W64-1)*(W64-1):=tJ (by omega) (by omega)
 rw[zO] at *
 omega
theorem bZ (a:Nat){n:Nat}(h:W64*a<W64*n):a<n:=tX h
noncomputable def Zbm (z x u c:Nat):Nat:=lQ z (xI (xB x u) c 0) 0
noncomputable def bQ (z x u c:Nat):Nat:=wL x u+xM (xB x u) c 0+lR z (xI (xB x u) c 0) 0
theorem Zgx {z:Nat}(a:z<W64)(x u c:Nat):Zbm z x u c+x*u+c=z+W64*bQ z x u c:=by
 have b:=dN x u
 have d:=fK (xB x u) c 0
 have e:=Za3 a (dM (xB x u) c 0) (c:=0) (by omega)
 unfold Zbm bQ
 rw[uL,uL]
 omega
theorem Zc7 {z x u c:Nat}(a:z<W64)(b:x<W64)(d:u<W64)(e:c<W64):bQ z x u c<W64:=by
 have f:=Zgx a x u c
 have g:=Zci b d
 have h:Zbm z x u c<W64:=aS _ _ _
 exact bZ _ (by omega)
theorem ZnB {z x u c:Nat}(a:z<W64)(b:x<W64)(d:u<W64)(e:c<W64) :
 IntKind.u64.wrap (IntKind.u64.wrap ((wL x u:Int)+(xM (xB x u) c 0:Int))+(lR z (xI (xB x u) c 0) 0:Int))=(bQ z x u c:Int):=by
 have h:=Zc7 a b d e
 unfold bQ at *
 rw[←sO,wC _ (by omega),← sO,wC _ h]
def fT (mid xs:List Nat) (u k:Nat) (m:List Nat) (c:Nat):Prop :=
 m.length=mid.length∧m.drop k=mid.drop k∧Dig W64 m∧c<W64∧val W64 (m.take k)+val W64 (xs.take k)*u=val W64 (mid.take k)+W64^k*c
theorem fT.start (mid xs:List Nat)(u:Nat)(h:Dig W64 mid):fT mid xs u 0 mid 0:=⟨rfl,rfl,h,zN,by simp⟩
theorem fT.at {mid xs m:List Nat}{u k c:Nat}(h:fT mid xs u k m c):m[k]?.getD 0=mid[k]?.getD 0:=by
 have:=vG (fun l=>l[0]?.getD 0) h.2.1
 simpa [List.getElem?_drop] using this
theorem fT.step {mid xs m:List Nat}{u k c z x:Nat}(h:fT mid xs u k m c)(i:k<mid.length)(e:m[k]?.getD 0=z)(f:xs[k]?.getD 0=x)(b:k<xs.length)(d:Dig W64 xs)(j:u<W64):fT mid xs u (k+1) (m.set k (Zbm z x u c)) (bQ z x u c):=by
 have l:mid[k]?.getD 0=z:=h.at.symm.trans e
 obtain⟨n,o,g,p,q⟩:=h
 have a:z<W64:=e ▸ g.getD zN k
 refine⟨by simpa using n,?_,g.set k (aS _ _ _),Zc7 a (f ▸ d.getD zN k) j p,?_⟩
 ·rw[vY (by omega),← vN,← vN,o]
 rw[xL _ _ _ _ (by omega),zR k i,zR k b,l,f,uR]
 exact Zgw _ _ _ _ _ _ _ _ _ _ _ q (Zgx a x u c)
def ZhL (mid xs:List Nat) (u cc:Nat) (m:List Nat):Prop:=val W64 m+val W64 xs*u=val W64 mid+W64^mid.length*cc
theorem fT.done {mid xs m:List Nat}{u c:Nat}(h:fT mid xs u xs.length m c)(b:xs.length=mid.length):ZhL mid xs u c m:=by
 obtain⟨d,e,f,g,a⟩:=h
 rw[uB (by omega),uB (by omega),uB (by omega),b] at a
 exact a
def ZnC (t:TypeId) (b:Nat) (pre mid post xs:List Nat) (u:Nat) (w:World) (e:Ending) (w':World):Prop :=
 ∃ cc,e=.returned (.int .u64 (cc:Nat))∧cc<W64∧ZoY t b pre post mid.length (ZhL mid xs u cc) w w'
theorem ZcX (b c c2 off n m u:Nat)(d mid f xs:List Nat)(A:Option Addr)(w:World)(P:d.length=off)(Q:mid.length=n)(B:xs.length=m)(H:Own .u64 94 w b (d ++ mid ++ f))(I:zH .u64 w A xs)(J:∀ a,A=some a→a.block≠b)(K:xs.length=mid.length)(hm:mid.length≤1099511627776)(l:Dig W64 mid)(o:Dig W64 xs)(L:u<W64) :
 yA 223 #[.slice (some ⟨b,off,none⟩) n c,.slice A m c2,.int .u64 (u:Int)] w (ZnC 94 b d mid f xs u w):=by
 subst P Q B
 have R:=zh H
 have S:=zh I
 have T:=zh J
 have C:=zh l
 have p:=zh o
 have U:=zh K
 have D:=zh L
 have V:xs.length≤mid.length:=by omega
 clear H I J l o K L
 go_enter Tryz.func223,Tryz.ntmps223
 go_wp2
 go_loopw [7,16] (fun W i wr=>∃ (k t:Nat) (m:List Nat),k≤xs.length∧i=.int .i64 k∧W=.int .u64 t∧Hid (fT mid xs u k m t)∧Hid (Own .u64 94 wr b (d ++ m ++ f))∧Hid (Fr (· = b) w wr)∧Hid (kD 94 b w wr)) (fun _ i _=>xs.length-(intOf i).toNat)
 case atStart=>exact⟨0,0,mid,by omega,rfl,rfl,fT.start _ _ _ C.out,R.out,Fr.refl _ _,kD.refl _ _ _⟩
 case round =>
  obtain⟨k,t,m,hk,rfl,rfl,h,g,j,q⟩:=hrel
  by_cases r:k<xs.length
  ·obtain⟨b2,M,rfl,X,E⟩:=(S.out.fr j.out (fun a N _=>T.out a N)).at r
   obtain⟨x,v⟩:=yE (xs[k]?.getD 0)
   obtain⟨z,y⟩:=yE (m[k]?.getD 0)
   have s:k<m.length:=by have:=h.out.1;omega
   have F:=g.out.mid (k:=k) s
   have Y:=g.out.frozen (d.length+k)
   rw[v] at E
   rw[y] at F
   have O:Hid (x<W64):=v ▸ p.out.getD zN k
   have G:=zh (h.out.step (by omega) y v r p.out D.out)
   have Z:=zh (ZnB (y ▸ h.out.2.2.1.getD zN k) O.out D.out h.out.2.2.2.1)
   clear v y
   have N:=Za4
   have a0:=ZhI
   go_wp2_with (go_at_call 145;refine (Zau _ _ O.out D.out _).mono ?_;rintro e w' ⟨rfl,rfl⟩)
   go_roundw
   case rel=>exact⟨k+1,_,_,by omega,by go_num,by rw[Z.out],G,g.out.set_mid s _,j.out.setCell (Or.inl rfl) _,q.out.setCell _ _ _⟩
   case measure=>simp[intOf];omega
  obtain rfl:k=xs.length:=by omega
  go_wp2
  go_ret
  exact⟨t,rfl,h.out.2.2.2.1,j.out,q.out,m,g.out,h.out.1,h.out.2.2.1,h.out.done U.out⟩
theorem ZlU (a:List Nat)(k n:Nat):a.take k ++ (a.drop k).take n ++ a.drop (k+n)=a:=by
 rw[tB,← vN,rB,rB]
noncomputable def maLo (x y c:Nat):Nat:=xI (xB x y) c 0
noncomputable def maHi (x y c:Nat):Nat:=wL x y+xM (xB x y) c 0
theorem ZdX (x y c:Nat):maLo x y c+W64*maHi x y c=x*y+c:=by
 have a:=dN x y
 have b:=fK (xB x y) c 0
 unfold maLo maHi
 rw[uL]
 omega
theorem Zf9 (x y c:Nat):maLo x y c<W64:=dM _ _ _
theorem ZbZ {x y c:Nat}(a:x<W64)(b:y<W64)(d:c<W64):maHi x y c<W64:=by
 have e:=ZdX x y c
 have f:=Zci a b
 exact bZ _ (by omega)
theorem kO (x y c:Nat)(w:World)(a:x<W64)(b:y<W64)(d:c<W64) :
 yA 197 #[.int .u64 (x:Int),.int .u64 (y:Int),.int .u64 (c:Int)] w fun e w'=>e=.returned (.tuple #[.int .u64 (maLo x y c:Int),.int .u64 (maHi x y c:Int)])∧w=w':=by
 have f:=zh a
 have g:=zh b
 have i:Hid (IntKind.u64.wrap ((wL x y:Int)+(xM (xB x y) c 0:Int))=(maHi x y c:Int)):=by
  have h:=ZbZ a b d
  unfold Hid maHi at *
  rw[←sO,wC _ h]
 clear a b d
 have j:=Za4
 go_enter Tryz.func197,Tryz.ntmps197
 go_wp2_with (go_at_call 145;refine (Zau _ _ f.out g.out _).mono ?_;rintro e w' ⟨rfl,rfl⟩)
 go_ret2
 exact⟨by rw[←i.out];rfl,rfl⟩
end Go.Proofs.YtklpdkpcocnglaaGreatDoor
namespace Go.Proofs.YtklpdkpcocnglaaGreatDoor
def iR (u v:Nat) (xs ys os:List Nat) (k:Nat) (zs:List Nat) (cM cN bo:Nat):Prop :=
 zs.length=os.length∧zs.drop k=os.drop k∧Dig W64 zs∧cM<W64∧cN<W64∧bo≤1 ∧
  val W64 (zs.take k)+u*val W64 (xs.take k)+W64^k*cN=v*val W64 (ys.take k)+W64^k*(cM+bo)
theorem iR.start {u v:Nat}{xs ys os:List Nat}(h:Dig W64 os):iR u v xs ys os 0 os 0 0 0:=⟨rfl,rfl,h,zN,zN,by omega,by simp⟩
theorem ZnI (a B V X Y u v x y b c e m n cM' cN' d bo':Nat)(h:V+u*X+a*c=v*Y+a*(b+e))(i:m+B*cM'=x*u+b)(j:n+B*cN'=y*v+c)(k:d+m+e=n+B*bo') :
 V+a*d+u*(X+a*x)+a*B*cN'=v*(Y+a*y)+a*B*(cM'+bo'):=by
 have f:=vG (a * ·) i
 have g:=vG (a * ·) j
 have e4:=vG (a * ·) k
 simp only[uL] at f g e4 h ⊢
 have l:u*(a*x)=a*(x*u):=by rw[vW,uG u]
 have o:v*(a*y)=a*(y*v):=by rw[vW,uG v]
 have p:a*(B*cM')=a*B*cM':=(uF _ _ _).symm
 have q:a*(B*cN')=a*B*cN':=(uF _ _ _).symm
 have r:a*(B*bo')=a*B*bo':=(uF _ _ _).symm
 rw[l,o]
 rw[p] at f
 rw[q] at g
 rw[r] at e4
 omega
theorem iR.step {u v:Nat}{xs ys os d:List Nat}{k a b e x y:Nat}(h:iR u v xs ys os k d a b e)(n:u<W64)(o:v<W64)(f:k<xs.length)(g:k<ys.length)(p:k<os.length)(dx:Dig W64 xs)(q:Dig W64 ys)(l:xs[k]?.getD 0=x)(m:ys[k]?.getD 0=y) :
 iR u v xs ys os (k+1) (d.set k (lQ (maLo y v b) (maLo x u a) e)) (maHi x u a) (maHi y v b) (lR (maLo y v b) (maLo x u a) e):=by
 obtain⟨r,s,t,w,z,A,B⟩:=h
 have i:x<W64:=l ▸ dx.getD zN k
 have j:y<W64:=m ▸ q.getD zN k
 have c:k<d.length:=by omega
 refine⟨by simpa using r,?_,t.set k (aS _ _ _),ZbZ i n w,ZbZ j o z,Zch _ _ _,?_⟩
 ·rw[vY (by omega)]
  have:=vG (List.drop 1) s
  simpa [vN,vL] using this
 rw[zR k (by simpa using c),zR k f,zR k g,l,m,sK (uK _),List.getElem?_set_self c,uR]
 exact ZnI _ _ _ _ _ _ _ _ _ _ _ _ _ _ _ _ _ _ B (ZdX x u a) (ZdX y v b) (Za3 (Zf9 _ _ _) (Zf9 _ _ _) A)
theorem iR.at {u v:Nat}{xs ys os a:List Nat}{k b c d:Nat}(h:iR u v xs ys os k a b c d):a[k]?.getD 0=os[k]?.getD 0:=by
 have:=vG (fun l:List Nat=>l[0]?.getD 0) h.2.1
 simpa using this
theorem iR.done {u v R:Nat}{xs ys os zs:List Nat}{a b c:Nat}(h:iR u v xs ys os os.length zs a b c)(n:xs.length=os.length)(o:ys.length=os.length)(k:R+u*val W64 xs=v*val W64 ys)(d:R<W64^os.length):val W64 zs=R∧Dig W64 zs∧zs.length=os.length:=by
 obtain⟨f,_,g,_,_,_,l⟩:=h
 rw[uB (by omega),uB (by omega),uB (by omega),← k] at l
 have i:=xV g
 rw[f] at i
 have e:val W64 zs+W64^os.length*b=R+W64^os.length*(a+c):=by omega
 have j:(val W64 zs+W64^os.length*b)%W64^os.length=val W64 zs:=by rw[tZ,vC i]
 have m:(R+W64^os.length*(a+c))%W64^os.length=R:=by rw[tZ,vC d]
 rw[e,m] at j
 exact⟨j.symm,g,f⟩
end Go.Proofs.YtklpdkpcocnglaaGreatDoor
