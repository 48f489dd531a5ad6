/-
 My texts.
-/
import Derived.Test.YtmpffakfhcpjoaaGreatDoorF04
import Derived.Test.YtmpffakfhcpjoaaGreatDoorF05
set_option maxRecDepth 100000
set_option maxHeartbeats 8000000
namespace Go.Proofs.YtmpffakfhcpjoaaGreatDoor
open Go.RowKit Tryz
theorem wK (a:Nat)(ha:a<W64):IntKind.u64.wrap (a:Int)=(a:Int):=by rw[zN] at ha;rw[IntKind.wrap_u64];omega
theorem Zc6 {a b:Nat}(ha:a<W64)(c:b<W64):a*b+W64+W64≤W64*W64+1:=by
 have d:a*b≤(W64-1)*(W64-1):=vK qO qO
 rw[zN] at *
 omega
theorem aW (a:Nat){n:Nat}(h:W64*a<W64*n):a<n:=sR h
noncomputable def ZbZ (z x u c:Nat):Nat:=lW z (xJ (xF x u) c 0) 0
noncomputable def aG (z x u c:Nat):Nat:=wW x u+xN (xF x u) c 0+lX z (xJ (xF x u) c 0) 0
theorem Zh7 {z:Nat}(a:z<W64)(x u c:Nat):ZbZ z x u c+x*u+c=z+W64*aG z x u c:=by
 have b:=cL x u
 have d:=fZ (xF x u) c 0
 have e:=ZbA a (cK (xF x u) c 0) (c:=0) qO
 unfold ZbZ aG
 rw[uL,uL]
 omega
theorem Zd6 {z x u c:Nat}(a:z<W64)(b:x<W64)(d:u<W64)(e:c<W64):aG z x u c<W64:=by
 have f:=Zh7 a x u c
 have g:=Zc6 b d
 have h:ZbZ z x u c<W64:=Zaj _ _ _
 exact aW _ qO
theorem Zqe {z x u c:Nat}(a:z<W64)(b:x<W64)(d:u<W64)(e:c<W64) :
 IntKind.u64.wrap (IntKind.u64.wrap ((wW x u:Int)+(xN (xF x u) c 0:Int))+(lX z (xJ (xF x u) c 0) 0:Int))=(aG z x u c:Int):=by
 have h:=Zd6 a b d e
 unfold aG at *
 rw[←rX,wK _ qO,← rX,wK _ h]
def eL (mid xs:List Nat) (u k:Nat) (m:List Nat) (c:Nat):Prop :=
 m.length=mid.length∧m.drop k=mid.drop k∧Dig W64 m∧c<W64∧val W64 (m.take k)+val W64 (xs.take k)*u=val W64 (mid.take k)+W64^k*c
theorem eL.start (mid xs:qN)(u:Nat)(h:Dig W64 mid):eL mid xs u 0 mid 0:=⟨rfl,rfl,h,zK,qS⟩
theorem eL.at {mid xs m:qN}{u k c:Nat}(h:eL mid xs u k m c):m[k]?.getD 0=mid[k]?.getD 0:=by
 have:=vP (fun l=>l[0]?.getD 0) h.2.1
 simpa [vR] using this
theorem eL.step {mid xs m:qN}{u k c z x:Nat}(h:eL mid xs u k m c)(i:k<mid.length)(e:m[k]?.getD 0=z)(f:xs[k]?.getD 0=x)(b:k<xs.length)(d:Dig W64 xs)(j:u<W64):eL mid xs u (k+1) (m.set k (ZbZ z x u c)) (aG z x u c):=by
 have l:mid[k]?.getD 0=z:=h.at.symm.trans e
 obtain⟨n,o,g,p,q⟩:=h
 have a:z<W64:=e ▸ g.getD zK k
 refine⟨by simpa using n,?_,g.set k (Zaj _ _ _),Zd6 a (f ▸ d.getD zK k) j p,?_⟩
 ·rw[tN qO,← tA,← tA,o]
 rw[xL _ _ _ _ qO,zV k i,zV k b,l,f,uO]
 exact Zh6 _ _ _ _ _ _ _ _ _ _ _ q (Zh7 a x u c)
def Zji (mid xs:List Nat) (u cc:Nat) (m:List Nat):Prop:=val W64 m+val W64 xs*u=val W64 mid+W64^mid.length*cc
theorem eL.done {mid xs m:qN}{u c:Nat}(h:eL mid xs u xs.length m c)(b:xs.length=mid.length):Zji mid xs u c m:=by
 obtain⟨d,e,f,g,a⟩:=h
 rw[uB qO,uB qO,uB qO,b] at a
 exact a
def Zqf (t:TypeId) (b:Nat) (pre mid post xs:List Nat) (u:Nat) (w:World) (e:Ending) (w':World):Prop :=
 ∃ cc,e=.returned (.int .u64 (cc:Nat))∧cc<W64∧Zr7 t b pre post mid.length (Zji mid xs u cc) w w'
theorem ZdV (b c c2 off n m u:Nat)(d mid f xs:qN)(A:qA)(w:World)(O:d.length=off)(P:mid.length=n)(y:xs.length=m)(G:Own .u64 84 w b (d ++ mid ++ f))(H:zI .u64 w A xs)(I:∀ a,A=some a→a.block≠b)(J:xs.length=mid.length)(hm:mid.length≤1099511627776)(l:Dig W64 mid)(o:Dig W64 xs)(K:u<W64) :
 Ζ 201 #[.slice (some ⟨b,off,none⟩) n c,.slice A m c2,.int .u64 (u:Int)] w (Zqf 84 b d mid f xs u w):=by
 subst O P y
 have Q:=zh G
 have R:=zh H
 have S:=zh I
 have B:=zh l
 have p:=zh o
 have T:=zh J
 have C:=zh K
 have U:xs.length≤mid.length:=qO
 clear G H I l o J K
 go_enter func201,ntmps201
 go_wp2
 go_loopw [7,16] (fun V i wr=>∃ (k t:Nat) (m:List Nat),k≤xs.length∧i=.int .i64 k∧V=.int .u64 t∧Hid (eL mid xs u k m t)∧Hid (Own .u64 84 wr b (d ++ m ++ f))∧Hid (Fr (· = b) w wr)∧Hid (lT 84 b w wr)) (fun _ i _=>xs.length-(intOf i).toNat)
 case atStart=>exact⟨0,0,mid,qO,rfl,rfl,eL.start _ _ _ B.out,Q.out,Fr.refl _ _,lT.refl _ _ _⟩
 case round =>
  obtain⟨k,t,m,hk,rfl,rfl,h,g,j,q⟩:=hrel
  by_cases r:k<xs.length
  ·obtain⟨b2,L,rfl,W,D⟩:=(R.out.fr j.out (fun a M _=>S.out a M)).at r
   obtain⟨x,ex⟩:=yE (xs[k]?.getD 0)
   obtain⟨z,v⟩:=yE (m[k]?.getD 0)
   have s:k<m.length:=by have:=h.out.1;omega
   have E:=g.out.mid (k:=k) s
   have X:=g.out.frozen (d.length+k)
   rw[ex] at D
   rw[v] at E
   have N:Hid (x<W64):=ex ▸ p.out.getD zK k
   have F:=zh (h.out.step qO v ex r p.out C.out)
   have Y:=zh (Zqe (v ▸ h.out.2.2.1.getD zK k) N.out C.out h.out.2.2.2.1)
   clear ex v
   have M:=ZbB
   have Z:=Zje
   go_wp2_with (go_at_call 117;refine (ZaV _ _ N.out C.out _).mono ?_;rintro e w' ⟨rfl,rfl⟩)
   go_roundw
   case rel=>exact⟨k+1,_,_,qO,by go_num,by rw[Y.out],F,g.out.set_mid s _,j.out.setCell (Or.inl rfl) _,q.out.setCell _ _ _⟩
   case measure=>simp[intOf];omega
  obtain rfl:k=xs.length:=qO
  go_wp2
  go_ret
  exact⟨t,rfl,h.out.2.2.2.1,j.out,q.out,m,g.out,h.out.1,h.out.2.2.1,h.out.done T.out⟩
theorem Zn5 (zs:qN)(k n:Nat):zs.take k ++ (zs.drop k).take n ++ zs.drop (k+n)=zs:=by
 rw[tD,← tA,qQ,qQ]
noncomputable def maLo (x y c:Nat):Nat:=xJ (xF x y) c 0
noncomputable def maHi (x y c:Nat):Nat:=wW x y+xN (xF x y) c 0
theorem ZeZ (x y c:Nat):maLo x y c+W64*maHi x y c=x*y+c:=by
 have a:=cL x y
 have b:=fZ (xF x y) c 0
 unfold maLo maHi
 rw[uL]
 omega
theorem Zhx (x y c:Nat):maLo x y c<W64:=cK _ _ _
theorem ZcI {x y c:Nat}(a:x<W64)(b:y<W64)(d:c<W64):maHi x y c<W64:=by
 have e:=ZeZ x y c
 have f:=Zc6 a b
 exact aW _ qO
theorem kP (x y c:Nat)(w:World)(a:x<W64)(b:y<W64)(d:c<W64) :
 Ζ 174 #[.int .u64 (x:Int),.int .u64 (y:Int),.int .u64 (c:Int)] w fun e w'=>e=.returned (.tuple #[.int .u64 (maLo x y c:Int),.int .u64 (maHi x y c:Int)])∧w=w':=by
 have f:=zh a
 have g:=zh b
 have i:Hid (IntKind.u64.wrap ((wW x y:Int)+(xN (xF x y) c 0:Int))=(maHi x y c:Int)):=by
  have h:=ZcI a b d
  unfold Hid maHi at *
  rw[←rX,wK _ h]
 clear a b d
 have j:=ZbB
 go_enter func174,ntmps174
 go_wp2_with (go_at_call 117;refine (ZaV _ _ f.out g.out _).mono ?_;rintro e w' ⟨rfl,rfl⟩)
 go_ret2
 exact⟨by rw[←i.out];rfl,rfl⟩
end Go.Proofs.YtmpffakfhcpjoaaGreatDoor
namespace Go.Proofs.YtmpffakfhcpjoaaGreatDoor
def iR (u v:Nat) (xs ys os:List Nat) (k:Nat) (zs:List Nat) (cM cN bo:Nat):Prop :=
 zs.length=os.length∧zs.drop k=os.drop k∧Dig W64 zs∧cM<W64∧cN<W64∧bo≤1 ∧
  val W64 (zs.take k)+u*val W64 (xs.take k)+W64^k*cN=v*val W64 (ys.take k)+W64^k*(cM+bo)
theorem iR.start {u v:Nat}{xs ys os:qN}(h:Dig W64 os):iR u v xs ys os 0 os 0 0 0:=⟨rfl,rfl,h,zK,zK,qO,qS⟩
theorem Zql (a B V X Y u v x y b c e m n cM' cN' d bo':Nat)(h:V+u*X+a*c=v*Y+a*(b+e))(i:m+B*cM'=x*u+b)(j:n+B*cN'=y*v+c)(k:d+m+e=n+B*bo') :
 V+a*d+u*(X+a*x)+a*B*cN'=v*(Y+a*y)+a*B*(cM'+bo'):=by
 have f:=vP (a * ·) i
 have g:=vP (a * ·) j
 have e4:=vP (a * ·) k
 simp only[uL] at f g e4 h ⊢
 have l:u*(a*x)=a*(x*u):=by rw[tL,uG u]
 have o:v*(a*y)=a*(y*v):=by rw[tL,uG v]
 have p:a*(B*cM')=a*B*cM':=(uH _ _ _).symm
 have q:a*(B*cN')=a*B*cN':=(uH _ _ _).symm
 have r:a*(B*bo')=a*B*bo':=(uH _ _ _).symm
 rw[l,o]
 rw[p] at f
 rw[q] at g
 rw[r] at e4
 omega
theorem iR.step {u v:Nat}{xs ys os zs:qN}{k a b d x y:Nat}(h:iR u v xs ys os k zs a b d)(m:u<W64)(n:v<W64)(e:k<xs.length)(f:k<ys.length)(o:k<os.length)(dx:Dig W64 xs)(dy:Dig W64 ys)(j:xs[k]?.getD 0=x)(l:ys[k]?.getD 0=y) :
 iR u v xs ys os (k+1) (zs.set k (lW (maLo y v b) (maLo x u a) d)) (maHi x u a) (maHi y v b) (lX (maLo y v b) (maLo x u a) d):=by
 obtain⟨p,q,r,s,t,w,z⟩:=h
 have g:x<W64:=j ▸ dx.getD zK k
 have i:y<W64:=l ▸ dy.getD zK k
 have c:k<zs.length:=qO
 refine⟨by simpa using p,?_,r.set k (Zaj _ _ _),ZcI g m s,ZcI i n t,Zc5 _ _ _,?_⟩
 ·rw[tN qO]
  have:=vP (List.drop 1) q
  simpa [tA,vW] using this
 rw[zV k (by simpa using c),zV k e,zV k f,j,l,rR (uF _),sJ c,uO]
 exact Zql _ _ _ _ _ _ _ _ _ _ _ _ _ _ _ _ _ _ z (ZeZ x u a) (ZeZ y v b) (ZbA (Zhx _ _ _) (Zhx _ _ _) w)
theorem iR.at {u v:Nat}{xs ys os zs:qN}{k a b c:Nat}(h:iR u v xs ys os k zs a b c):zs[k]?.getD 0=os[k]?.getD 0:=by
 have:=vP (fun l:List Nat=>l[0]?.getD 0) h.2.1
 simpa using this
theorem iR.done {u v R:Nat}{xs ys os zs:qN}{a b c:Nat}(h:iR u v xs ys os os.length zs a b c)(n:xs.length=os.length)(o:ys.length=os.length)(k:R+u*val W64 xs=v*val W64 ys)(d:R<W64^os.length):val W64 zs=R∧Dig W64 zs∧zs.length=os.length:=by
 obtain⟨f,_,g,_,_,_,l⟩:=h
 rw[uB qO,uB qO,uB qO,← k] at l
 have i:=wF g
 rw[f] at i
 have e:val W64 zs+W64^os.length*b=R+W64^os.length*(a+c):=qO
 have j:(val W64 zs+W64^os.length*b)%W64^os.length=val W64 zs:=by rw[qP,vL i]
 have m:(R+W64^os.length*(a+c))%W64^os.length=R:=by rw[qP,vL d]
 rw[e,m] at j
 exact⟨j.symm,g,f⟩
end Go.Proofs.YtmpffakfhcpjoaaGreatDoor
namespace Go.Proofs.YtmpffakfhcpjoaaGreatDoor
open Go.RowKit
noncomputable def wds (n:Nat):List Nat:=if _h:n=0 then [] else (n%W64) :: wds (n/W64)
termination_by n
decreasing_by exact oL (by omega) eJ
theorem dK:∀ n,Dig W64 (wds n)∧val W64 (wds n)=n:=by
 intro n
 induction n using Nat.strongRecOn with
 | ind n ih =>
  rw[wds]
  split
  ·rename_i h;exact⟨Dig.nil,by simp[h]⟩
  rename_i h
  obtain⟨a,b⟩:=ih (n/W64) (oL qO eJ)
  exact⟨a.cons (uP _ zK),by rw[gZ,b];exact sM _ _⟩
theorem ZfP:∀ n,Trim (wds n):=by
 intro n
 induction n using Nat.strongRecOn with
 | ind n ih =>
  rw[wds]
  split
  ·exact Trim.nil
  rename_i h
  have b:=ih (n/W64) (oL qO eJ)
  intro k a
  rcases uJ (n/W64) with e|e
  ·rw[e,wds,dif_pos rfl] at a ⊢
   simp at a
   subst a
   have:=sM n W64
   rw[e] at this
   simp;omega
  obtain⟨m,rfl⟩:∃ m,k=m+1:=⟨k-1,by
   have:wds (n/W64)≠[]:=fun c=>by have:=(dK (n/W64)).2;rw[c] at this;simp at this;omega
   have:=rQ.2 this
   simp at a;omega⟩
  have:=b m (by simpa using a)
  simpa using this
theorem Zou {xs:qN}{n:Nat}(a:Dig W64 xs)(b:Trim xs)(c:val W64 xs=n):xs=wds n:=Zjd eJ a (dK n).1 b (ZfP n) (c.trans (dK n).2.symm)
theorem ZlQ (n:Nat):(wds n).length=wl n:=by rw[xT (dK n).1 (ZfP n),(dK n).2]
theorem zF.shows {w:World}{A:qA}{l c n:Nat}(h:zF w (.slice A l c) n):zI .u64 w A (wds n):=by
 obtain⟨g,i,j,e,k,a,b,d,f⟩:=h
 injection e with e1 e2 e3
 subst e1
 rw[←Zou b d f];exact a
theorem zF.lens {w:World}{A:qA}{l c n:Nat}(h:zF w (.slice A l c) n):l=(wds n).length∧(wds n).length≤c:=by
 obtain⟨g,i,j,e,a,k,b,d,f⟩:=h
 injection e with e1 e2 e3
 subst e3
 rw[←Zou b d f];exact⟨e2,a⟩
theorem zI.lt {k:IntKind}{w:World}{A:qA}{xs:qN}(h:zI k w A xs)(c:0<xs.length){a:Addr}(ha:A=some a):a.block<w.heap.size:=by
 obtain⟨b,o,e,d,_⟩:=h.at c
 rw[ha] at e;injection e with e;rw[e];exact d
end Go.Proofs.YtmpffakfhcpjoaaGreatDoor
