/-
 My texts MulWords, Mul, Madd, App, Ka, Wds put together.
-/
import Derived.Test.YtoanifijmlgcgaaGreatDoorD04
import Derived.Test.YtoanifijmlgcgaaGreatDoorD05
set_option maxRecDepth 100000
set_option maxHeartbeats 8000000
namespace Go.Proofs.YtoanifijmlgcgaaGreatDoor
open Go.RowKit
theorem xV (a:Nat)(b:a<W64):IntKind.u64.wrap (a:Int)=(a:Int):=by rw[zM] at b;rw[IntKind.wrap_u64];omega
theorem Zgq {a b:Nat}(c:a<W64)(d:b<W64):a*b+W64+W64≤W64*W64+1:=by
 have e:a*b≤(W64-1)*(W64-1):=sE (by omega) (by omega)
 rw[zM] at *
 omega
theorem ZbZ (a:Nat){n:Nat}(h:W64*a<W64*n):a<n:=sW h
noncomputable def Zax (z x u c:Nat):Nat:=Zaw z (fZ (iH x u) c 0) 0
noncomputable def eN (z x u c:Nat):Nat:=fM x u+fL (iH x u) c 0+cK z (fZ (iH x u) c 0) 0
theorem Zfq {z:Nat}(a:z<W64)(x u c:Nat):Zax z x u c+x*u+c=z+W64*eN z x u c:=by
 have b:=Zdm x u
 have d:=Zdj (iH x u) c 0
 have e:=Zgn a (Zdk (iH x u) c 0) (c:=0) (by omega)
 unfold Zax eN
 rw[uS,uS]
 omega
theorem Zb0 {z x u c:Nat}(a:z<W64)(b:x<W64)(d:u<W64)(e:c<W64):eN z x u c<W64:=by
 have f:=Zfq a x u c
 have g:=Zgq b d
 have h:Zax z x u c<W64:=Zdl _ _ _
 exact ZbZ _ (by omega)
theorem ZkZ {z x u c:Nat}(a:z<W64)(b:x<W64)(d:u<W64)(e:c<W64) :
 IntKind.u64.wrap (IntKind.u64.wrap ((fM x u:Int)+(fL (iH x u) c 0:Int))+(cK z (fZ (iH x u) c 0) 0:Int))=(eN z x u c:Int):=by
 have h:=Zb0 a b d e
 unfold eN at *
 rw[←rB,xV _ (by omega),← rB,xV _ h]
def iZ (mid xs:List Nat) (u k:Nat) (m:List Nat) (c:Nat):Prop :=
 m.length=mid.length∧m.drop k=mid.drop k∧Dig W64 m∧c<W64∧val W64 (m.take k)+val W64 (xs.take k)*u=val W64 (mid.take k)+W64^k*c
theorem iZ.start (mid xs:List Nat)(u:Nat)(h:Dig W64 mid):iZ mid xs u 0 mid 0:=⟨rfl,rfl,h,zZ,by simp⟩
theorem iZ.at {mid xs m:List Nat}{u k c:Nat}(h:iZ mid xs u k m c):m[k]?.getD 0=mid[k]?.getD 0:=by
 have:=tC (fun l=>l[0]?.getD 0) h.2.1
 simpa [List.getElem?_drop] using this
theorem iZ.step {mid xs m:List Nat}{u k c z x:Nat}(h:iZ mid xs u k m c)(i:k<mid.length)(e:m[k]?.getD 0=z)(f:xs[k]?.getD 0=x)(b:k<xs.length)(d:Dig W64 xs)(j:u<W64):iZ mid xs u (k+1) (m.set k (Zax z x u c)) (eN z x u c):=by
 have l:mid[k]?.getD 0=z:=h.at.symm.trans e
 obtain⟨n,o,g,p,q⟩:=h
 have a:z<W64:=e ▸ g.getD zZ k
 refine⟨by simpa using n,?_,g.set k (Zdl _ _ _),Zb0 a (f ▸ d.getD zZ k) j p,?_⟩
 ·rw[tU (by omega),← tH,← tH,o]
 rw[xU _ _ _ _ (by omega),zT k i,zT k b,l,f,uW]
 exact Zfn _ _ _ _ _ _ _ _ _ _ _ q (Zfq a x u c)
def Zgr (mid xs:List Nat) (u cc:Nat) (m:List Nat):Prop:=val W64 m+val W64 xs*u=val W64 mid+W64^mid.length*cc
theorem iZ.done {mid xs m:List Nat}{u c:Nat}(h:iZ mid xs u xs.length m c)(b:xs.length=mid.length):Zgr mid xs u c m:=by
 obtain⟨d,e,f,g,a⟩:=h
 rw[uB (by omega),uB (by omega),uB (by omega),b] at a
 exact a
def Zk0 (t:TypeId) (b:Nat) (pre mid post xs:List Nat) (u:Nat) (w:World) (e:Ending) (w':World):Prop :=
 ∃ cc,e=.returned (.int .u64 (cc:Nat))∧cc<W64∧Zmc t b pre post mid.length (Zgr mid xs u cc) w w'
theorem ZbP (b c c2 off n m u:Nat)(d mid f xs:List Nat)(A:Option Addr)(w:World)(P:d.length=off)(Q:mid.length=n)(B:xs.length=m)(H:Own .u64 297 w b (d ++ mid ++ f))(I:zV .u64 w A xs)(J:∀ a,A=some a→a.block≠b)(K:xs.length=mid.length)(hm:mid.length≤1099511627776)(l:Dig W64 mid)(o:Dig W64 xs)(L:u<W64) :
 yA 355 #[.slice (some ⟨b,off,none⟩) n c,.slice A m c2,.int .u64 (u:Int)] w (Zk0 297 b d mid f xs u w):=by
 subst P Q B
 have R:=zh H
 have S:=zh I
 have T:=zh J
 have C:=zh l
 have p:=zh o
 have U:=zh K
 have D:=zh L
 have V:xs.length≤mid.length:=by omega
 clear H I J l o K L
 go_enter Tryz.func355,Tryz.ntmps355
 go_wp2
 go_loopw [7,16] (fun W i wr=>∃ (k t:Nat) (m:List Nat),k≤xs.length∧i=.int .i64 k∧W=.int .u64 t∧Hid (iZ mid xs u k m t)∧Hid (Own .u64 297 wr b (d ++ m ++ f))∧Hid (Fr (· = b) w wr)∧Hid (lA 297 b w wr)) (fun _ i _=>xs.length-(intOf i).toNat)
 case atStart=>exact⟨0,0,mid,by omega,rfl,rfl,iZ.start _ _ _ C.out,R.out,Fr.refl _ _,lA.refl _ _ _⟩
 case round =>
  obtain⟨k,t,m,hk,rfl,rfl,h,g,j,q⟩:=hrel
  by_cases r:k<xs.length
  ·obtain⟨b2,M,rfl,X,E⟩:=(S.out.fr j.out (fun a N _=>T.out a N)).at r
   obtain⟨x,v⟩:=yE (xs[k]?.getD 0)
   obtain⟨z,y⟩:=yE (m[k]?.getD 0)
   have s:k<m.length:=by have:=h.out.1;omega
   have F:=g.out.mid (k:=k) s
   have Y:=g.out.frozen (d.length+k)
   rw[v] at E
   rw[y] at F
   have O:Hid (x<W64):=v ▸ p.out.getD zZ k
   have G:=zh (h.out.step (by omega) y v r p.out D.out)
   have Z:=zh (ZkZ (y ▸ h.out.2.2.1.getD zZ k) O.out D.out h.out.2.2.2.1)
   clear v y
   have N:=ZbU
   have a0:=Zgo
   go_wp2_with (go_at_call 343;refine (ZbW _ _ O.out D.out _).mono ?_;rintro e w' ⟨rfl,rfl⟩)
   go_roundw
   case rel=>exact⟨k+1,_,_,by omega,by go_num,by rw[Z.out],G,g.out.set_mid s _,j.out.setCell (Or.inl rfl) _,q.out.setCell _ _ _⟩
   case measure=>simp[intOf];omega
  obtain rfl:k=xs.length:=by omega
  go_wp2
  go_ret
  exact⟨t,rfl,h.out.2.2.2.1,j.out,q.out,m,g.out,h.out.1,h.out.2.2.1,h.out.done U.out⟩
theorem ZjH (zs:List Nat)(k n:Nat):zs.take k ++ (zs.drop k).take n ++ zs.drop (k+n)=zs:=by
 rw[uO,← tH,tT,tT]
noncomputable def maLo (x y c:Nat):Nat:=fZ (iH x y) c 0
noncomputable def maHi (x y c:Nat):Nat:=fM x y+fL (iH x y) c 0
theorem ZcG (x y c:Nat):maLo x y c+W64*maHi x y c=x*y+c:=by
 have a:=Zdm x y
 have b:=Zdj (iH x y) c 0
 unfold maLo maHi
 rw[uS]
 omega
theorem ZeW (x y c:Nat):maLo x y c<W64:=Zdk _ _ _
theorem ZcH {x y c:Nat}(a:x<W64)(b:y<W64)(d:c<W64):maHi x y c<W64:=by
 have e:=ZcG x y c
 have f:=Zgq a b
 exact ZbZ _ (by omega)
theorem lK (x y c:Nat)(w:World)(a:x<W64)(b:y<W64)(d:c<W64) :
 yA 332 #[.int .u64 (x:Int),.int .u64 (y:Int),.int .u64 (c:Int)] w fun e w'=>e=.returned (.tuple #[.int .u64 (maLo x y c:Int),.int .u64 (maHi x y c:Int)])∧w=w':=by
 have f:=zh a
 have g:=zh b
 have i:Hid (IntKind.u64.wrap ((fM x y:Int)+(fL (iH x y) c 0:Int))=(maHi x y c:Int)):=by
  have h:=ZcH a b d
  unfold Hid maHi at *
  rw[←rB,xV _ h]
 clear a b d
 have j:=ZbU
 go_enter Tryz.func332,Tryz.ntmps332
 go_wp2_with (go_at_call 343;refine (ZbW _ _ f.out g.out _).mono ?_;rintro e w' ⟨rfl,rfl⟩)
 go_ret2
 exact⟨by rw[←i.out];rfl,rfl⟩
end Go.Proofs.YtoanifijmlgcgaaGreatDoor
namespace Go.Proofs.YtoanifijmlgcgaaGreatDoor
def jA (u v:Nat) (xs ys os:List Nat) (k:Nat) (zs:List Nat) (cM cN bo:Nat):Prop :=
 zs.length=os.length∧zs.drop k=os.drop k∧Dig W64 zs∧cM<W64∧cN<W64∧bo≤1 ∧
  val W64 (zs.take k)+u*val W64 (xs.take k)+W64^k*cN=v*val W64 (ys.take k)+W64^k*(cM+bo)
theorem jA.start {u v:Nat}{xs a os:List Nat}(h:Dig W64 os):jA u v xs a os 0 os 0 0 0:=⟨rfl,rfl,h,zZ,zZ,by omega,by simp⟩
theorem Zk7 (a B V X Y u v x y b c e m n cM' cN' d bo':Nat)(i:V+u*X+a*c=v*Y+a*(b+e))(j:m+B*cM'=x*u+b)(k:n+B*cN'=y*v+c)(l:d+m+e=n+B*bo') :
 V+a*d+u*(X+a*x)+a*B*cN'=v*(Y+a*y)+a*B*(cM'+bo'):=by
 have f:=tC (a * ·) j
 have g:=tC (a * ·) k
 have h:=tC (a * ·) l
 simp only[uS] at f g h i ⊢
 have o:u*(a*x)=a*(x*u):=by rw[sB,uG u]
 have p:v*(a*y)=a*(y*v):=by rw[sB,uG v]
 have q:a*(B*cM')=a*B*cM':=(uQ _ _ _).symm
 have r:a*(B*cN')=a*B*cN':=(uQ _ _ _).symm
 have s:a*(B*bo')=a*B*bo':=(uQ _ _ _).symm
 rw[o,p]
 rw[q] at f
 rw[r] at g
 rw[s] at h
 omega
theorem jA.step {u v:Nat}{xs a os zs:List Nat}{k b c e x y:Nat}(h:jA u v xs a os k zs b c e)(n:u<W64)(o:v<W64)(f:k<xs.length)(g:k<a.length)(p:k<os.length)(dx:Dig W64 xs)(q:Dig W64 a)(l:xs[k]?.getD 0=x)(m:a[k]?.getD 0=y) :
 jA u v xs a os (k+1) (zs.set k (Zaw (maLo y v c) (maLo x u b) e)) (maHi x u b) (maHi y v c) (cK (maLo y v c) (maLo x u b) e):=by
 obtain⟨r,s,t,w,z,A,B⟩:=h
 have i:x<W64:=l ▸ dx.getD zZ k
 have j:y<W64:=m ▸ q.getD zZ k
 have d:k<zs.length:=by omega
 refine⟨by simpa using r,?_,t.set k (Zdl _ _ _),ZcH i n w,ZcH j o z,ZkW _ _ _,?_⟩
 ·rw[tU (by omega)]
  have:=tC (List.drop 1) s
  simpa [tH,vR] using this
 rw[zT k (by simpa using d),zT k f,zT k g,l,m,List.take_set_of_le (uR _),List.getElem?_set_self d,uW]
 exact Zk7 _ _ _ _ _ _ _ _ _ _ _ _ _ _ _ _ _ _ B (ZcG x u b) (ZcG y v c) (Zgn (ZeW _ _ _) (ZeW _ _ _) A)
theorem jA.at {u v:Nat}{xs a os zs:List Nat}{k b c d:Nat}(h:jA u v xs a os k zs b c d):zs[k]?.getD 0=os[k]?.getD 0:=by
 have:=tC (fun l:List Nat=>l[0]?.getD 0) h.2.1
 simpa using this
theorem jA.done {u v R:Nat}{xs a os zs:List Nat}{b c d:Nat}(h:jA u v xs a os os.length zs b c d)(o:xs.length=os.length)(p:a.length=os.length)(l:R+u*val W64 xs=v*val W64 a)(f:R<W64^os.length):val W64 zs=R∧Dig W64 zs∧zs.length=os.length:=by
 obtain⟨g,_,i,_,_,_,m⟩:=h
 rw[uB (by omega),uB (by omega),uB (by omega),← l] at m
 have j:=wH i
 rw[g] at j
 have e:val W64 zs+W64^os.length*c=R+W64^os.length*(b+d):=by omega
 have k:(val W64 zs+W64^os.length*c)%W64^os.length=val W64 zs:=by rw[Nat.add_mul_mod_self_left,vI j]
 have n:(R+W64^os.length*(b+d))%W64^os.length=R:=by rw[Nat.add_mul_mod_self_left,vI f]
 rw[e,n] at k
 exact⟨k.symm,i,g⟩
end Go.Proofs.YtoanifijmlgcgaaGreatDoor
namespace Go.Proofs.YtoanifijmlgcgaaGreatDoor
open Go.RowKit
end Go.Proofs.YtoanifijmlgcgaaGreatDoor
