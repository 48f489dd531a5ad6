/-
 My texts.
-/
import Derived.Test.YtdlgidnkmbklcaaGreatDoorZ04
import Derived.Test.YtdlgidnkmbklcaaGreatDoorZ05
set_option maxRecDepth 100000
set_option maxHeartbeats 8000000
namespace Go.Proofs.YtdlgidnkmbklcaaGreatDoor
open Go.RowKit Tryz
theorem wK (a:Nat)(ha:a<W64):IntKind.u64.wrap (a:Int)=(a:Int):=by rw[zR] at ha;rw[IntKind.wrap_u64];omega
theorem Zct {a b:Nat}(ha:a<W64)(c:b<W64):a*b+W64+W64≤W64*W64+1:=by
 have d:a*b≤(W64-1)*(W64-1):=sI qO qO
 rw[zR] at *
 omega
theorem aI (a:Nat){n:Nat}(h:W64*a<W64*n):a<n:=sN h
noncomputable def Zbk (z x u c:Nat):Nat:=kL z (xO (xH x u) c 0) 0
noncomputable def bQ (z x u c:Nat):Nat:=wQ x u+xU (xH x u) c 0+kM z (xO (xH x u) c 0) 0
theorem Zg3 {z:Nat}(a:z<W64)(x u c:Nat):Zbk z x u c+x*u+c=z+W64*bQ z x u c:=by
 have b:=dG x u
 have d:=fG (xH x u) c 0
 have e:=Za0 a (dF (xH x u) c 0) (c:=0) qO
 unfold Zbk bQ
 rw[uK,uK]
 omega
theorem Zdr {z x u c:Nat}(a:z<W64)(b:x<W64)(d:u<W64)(e:c<W64):bQ z x u c<W64:=by
 have f:=Zg3 a x u c
 have g:=Zct b d
 have h:Zbk z x u c<W64:=aW _ _ _
 exact aI _ qO
theorem Zow {z x u c:Nat}(a:z<W64)(b:x<W64)(d:u<W64)(e:c<W64) :
 IntKind.u64.wrap (IntKind.u64.wrap ((wQ x u:Int)+(xU (xH x u) c 0:Int))+(kM z (xO (xH x u) c 0) 0:Int))=(bQ z x u c:Int):=by
 have h:=Zdr a b d e
 unfold bQ at *
 rw[←rS,wK _ qO,← rS,wK _ h]
def fQ (mid xs:List Nat) (u k:Nat) (m:List Nat) (c:Nat):Prop :=
 m.length=mid.length∧m.drop k=mid.drop k∧Dig W64 m∧c<W64∧val W64 (m.take k)+val W64 (xs.take k)*u=val W64 (mid.take k)+W64^k*c
theorem fQ.start (mid xs:qN)(u:Nat)(h:Dig W64 mid):fQ mid xs u 0 mid 0:=⟨rfl,rfl,h,zP,qS⟩
theorem fQ.at {mid xs m:qN}{u k c:Nat}(h:fQ mid xs u k m c):m[k]?.getD 0=mid[k]?.getD 0:=by
 have:=uX (fun l=>l[0]?.getD 0) h.2.1
 simpa [vJ] using this
theorem fQ.step {mid xs m:qN}{u k c z x:Nat}(h:fQ mid xs u k m c)(i:k<mid.length)(e:m[k]?.getD 0=z)(f:xs[k]?.getD 0=x)(b:k<xs.length)(d:Dig W64 xs)(j:u<W64):fQ mid xs u (k+1) (m.set k (Zbk z x u c)) (bQ z x u c):=by
 have l:mid[k]?.getD 0=z:=h.at.symm.trans e
 obtain⟨n,o,g,p,q⟩:=h
 have a:z<W64:=e ▸ g.getD zP k
 refine⟨by simpa using n,?_,g.set k (aW _ _ _),Zdr a (f ▸ d.getD zP k) j p,?_⟩
 ·rw[tJ qO,← vV,← vV,o]
 rw[xN _ _ _ _ qO,zU k i,zU k b,l,f,uP]
 exact Zg2 _ _ _ _ _ _ _ _ _ _ _ q (Zg3 a x u c)
def Ziy (mid xs:List Nat) (u cc:Nat) (m:List Nat):Prop:=val W64 m+val W64 xs*u=val W64 mid+W64^mid.length*cc
theorem fQ.done {mid xs m:qN}{u c:Nat}(h:fQ mid xs u xs.length m c)(b:xs.length=mid.length):Ziy mid xs u c m:=by
 obtain⟨d,e,f,g,a⟩:=h
 rw[uA qO,uA qO,uA qO,b] at a
 exact a
def Zox (t:TypeId) (b:Nat) (pre mid post xs:List Nat) (u:Nat) (w:World) (e:Ending) (w':World):Prop :=
 ∃ cc,e=.returned (.int .u64 (cc:Nat))∧cc<W64∧Zqd t b pre post mid.length (Ziy mid xs u cc) w w'
theorem Zde (b c c2 off n m u:Nat)(d mid f xs:qN)(A:qA)(w:World)(P:d.length=off)(Q:mid.length=n)(B:xs.length=m)(H:Own .u64 207 w b (d ++ mid ++ f))(I:zH .u64 w A xs)(J:∀ a,A=some a→a.block≠b)(K:xs.length=mid.length)(hm:mid.length≤1099511627776)(l:Dig W64 mid)(o:Dig W64 xs)(L:u<W64) :
 yA 231 #[.slice (some ⟨b,off,none⟩) n c,.slice A m c2,.int .u64 (u:Int)] w (Zox 207 b d mid f xs u w):=by
 subst P Q B
 have R:=zh H
 have S:=zh I
 have T:=zh J
 have C:=zh l
 have p:=zh o
 have U:=zh K
 have D:=zh L
 have V:xs.length≤mid.length:=qO
 clear H I J l o K L
 go_enter func231,ntmps231
 go_wp2
 go_loopw [7,16] (fun W i wr=>∃ (k t:Nat) (m:List Nat),k≤xs.length∧i=.int .i64 k∧W=.int .u64 t∧Hid (fQ mid xs u k m t)∧Hid (Own .u64 207 wr b (d ++ m ++ f))∧Hid (Fr (· = b) w wr)∧Hid (lT 207 b w wr)) (fun _ i _=>xs.length-(intOf i).toNat)
 case atStart=>exact⟨0,0,mid,qO,rfl,rfl,fQ.start _ _ _ C.out,R.out,Fr.refl _ _,lT.refl _ _ _⟩
 case round =>
  obtain⟨k,t,m,hk,rfl,rfl,h,g,j,q⟩:=hrel
  by_cases r:k<xs.length
  ·obtain⟨b2,M,rfl,X,E⟩:=(S.out.fr j.out (fun a N _=>T.out a N)).at r
   obtain⟨x,v⟩:=yE (xs[k]?.getD 0)
   obtain⟨z,y⟩:=yE (m[k]?.getD 0)
   have s:k<m.length:=by have:=h.out.1;omega
   have F:=g.out.mid (k:=k) s
   have Y:=g.out.frozen (d.length+k)
   rw[v] at E
   rw[y] at F
   have O:Hid (x<W64):=v ▸ p.out.getD zP k
   have G:=zh (h.out.step qO y v r p.out D.out)
   have Z:=zh (Zow (y ▸ h.out.2.2.1.getD zP k) O.out D.out h.out.2.2.2.1)
   clear v y
   have N:=Za1
   have a0:=Ziv
   go_wp2_with (go_at_call 117;refine (Zav _ _ O.out D.out _).mono ?_;rintro e w' ⟨rfl,rfl⟩)
   go_roundw
   case rel=>exact⟨k+1,_,_,qO,by go_num,by rw[Z.out],G,g.out.set_mid s _,j.out.setCell (Or.inl rfl) _,q.out.setCell _ _ _⟩
   case measure=>simp[intOf];omega
  obtain rfl:k=xs.length:=qO
  go_wp2
  go_ret
  exact⟨t,rfl,h.out.2.2.2.1,j.out,q.out,m,g.out,h.out.1,h.out.2.2.1,h.out.done U.out⟩
theorem ZmK (zs:qN)(k n:Nat):zs.take k ++ (zs.drop k).take n ++ zs.drop (k+n)=zs:=by
 rw[vU,← vV,qE,qE]
noncomputable def maLo (x y c:Nat):Nat:=xO (xH x y) c 0
noncomputable def maHi (x y c:Nat):Nat:=wQ x y+xU (xH x y) c 0
theorem Zeb (x y c:Nat):maLo x y c+W64*maHi x y c=x*y+c:=by
 have a:=dG x y
 have b:=fG (xH x y) c 0
 unfold maLo maHi
 rw[uK]
 omega
theorem ZgF (x y c:Nat):maLo x y c<W64:=dF _ _ _
theorem Zb5 {x y c:Nat}(a:x<W64)(b:y<W64)(d:c<W64):maHi x y c<W64:=by
 have e:=Zeb x y c
 have f:=Zct a b
 exact aI _ qO
theorem kN (x y c:Nat)(w:World)(a:x<W64)(b:y<W64)(d:c<W64) :
 yA 201 #[.int .u64 (x:Int),.int .u64 (y:Int),.int .u64 (c:Int)] w fun e w'=>e=.returned (.tuple #[.int .u64 (maLo x y c:Int),.int .u64 (maHi x y c:Int)])∧w=w':=by
 have f:=zh a
 have g:=zh b
 have i:Hid (IntKind.u64.wrap ((wQ x y:Int)+(xU (xH x y) c 0:Int))=(maHi x y c:Int)):=by
  have h:=Zb5 a b d
  unfold Hid maHi at *
  rw[←rS,wK _ h]
 clear a b d
 have j:=Za1
 go_enter func201,ntmps201
 go_wp2_with (go_at_call 117;refine (Zav _ _ f.out g.out _).mono ?_;rintro e w' ⟨rfl,rfl⟩)
 go_ret2
 exact⟨by rw[←i.out];rfl,rfl⟩
end Go.Proofs.YtdlgidnkmbklcaaGreatDoor
namespace Go.Proofs.YtdlgidnkmbklcaaGreatDoor
def iH (u v:Nat) (xs ys os:List Nat) (k:Nat) (zs:List Nat) (cM cN bo:Nat):Prop :=
 zs.length=os.length∧zs.drop k=os.drop k∧Dig W64 zs∧cM<W64∧cN<W64∧bo≤1 ∧
  val W64 (zs.take k)+u*val W64 (xs.take k)+W64^k*cN=v*val W64 (ys.take k)+W64^k*(cM+bo)
theorem iH.start {u v:Nat}{xs ys os:qN}(h:Dig W64 os):iH u v xs ys os 0 os 0 0 0:=⟨rfl,rfl,h,zP,zP,qO,qS⟩
theorem ZoD (a B V X Y u v x y b c e m n cM' cN' d bo':Nat)(h:V+u*X+a*c=v*Y+a*(b+e))(i:m+B*cM'=x*u+b)(j:n+B*cN'=y*v+c)(k:d+m+e=n+B*bo') :
 V+a*d+u*(X+a*x)+a*B*cN'=v*(Y+a*y)+a*B*(cM'+bo'):=by
 have f:=uX (a * ·) i
 have g:=uX (a * ·) j
 have e4:=uX (a * ·) k
 simp only[uK] at f g e4 h ⊢
 have l:u*(a*x)=a*(x*u):=by rw[tL,uG u]
 have o:v*(a*y)=a*(y*v):=by rw[tL,uG v]
 have p:a*(B*cM')=a*B*cM':=(uH _ _ _).symm
 have q:a*(B*cN')=a*B*cN':=(uH _ _ _).symm
 have r:a*(B*bo')=a*B*bo':=(uH _ _ _).symm
 rw[l,o]
 rw[p] at f
 rw[q] at g
 rw[r] at e4
 omega
theorem iH.step {u v:Nat}{xs ys os zs:qN}{k a b d x y:Nat}(h:iH u v xs ys os k zs a b d)(m:u<W64)(n:v<W64)(e:k<xs.length)(f:k<ys.length)(o:k<os.length)(dx:Dig W64 xs)(p:Dig W64 ys)(j:xs[k]?.getD 0=x)(l:ys[k]?.getD 0=y) :
 iH u v xs ys os (k+1) (zs.set k (kL (maLo y v b) (maLo x u a) d)) (maHi x u a) (maHi y v b) (kM (maLo y v b) (maLo x u a) d):=by
 obtain⟨q,r,s,t,w,z,A⟩:=h
 have g:x<W64:=j ▸ dx.getD zP k
 have i:y<W64:=l ▸ p.getD zP k
 have c:k<zs.length:=qO
 refine⟨by simpa using q,?_,s.set k (aW _ _ _),Zb5 g m t,Zb5 i n w,Zcs _ _ _,?_⟩
 ·rw[tJ qO]
  have:=uX (List.drop 1) r
  simpa [vV,vO] using this
 rw[zU k (by simpa using c),zU k e,zU k f,j,l,rP (uF _),tW c,uP]
 exact ZoD _ _ _ _ _ _ _ _ _ _ _ _ _ _ _ _ _ _ A (Zeb x u a) (Zeb y v b) (Za0 (ZgF _ _ _) (ZgF _ _ _) z)
theorem iH.at {u v:Nat}{xs ys os zs:qN}{k a b c:Nat}(h:iH u v xs ys os k zs a b c):zs[k]?.getD 0=os[k]?.getD 0:=by
 have:=uX (fun l:List Nat=>l[0]?.getD 0) h.2.1
 simpa using this
theorem iH.done {u v R:Nat}{xs ys os zs:qN}{a b c:Nat}(h:iH u v xs ys os os.length zs a b c)(n:xs.length=os.length)(o:ys.length=os.length)(k:R+u*val W64 xs=v*val W64 ys)(d:R<W64^os.length):val W64 zs=R∧Dig W64 zs∧zs.length=os.length:=by
 obtain⟨f,_,g,_,_,_,l⟩:=h
 rw[uA qO,uA qO,uA qO,← k] at l
 have i:=xZ g
 rw[f] at i
 have e:val W64 zs+W64^os.length*b=R+W64^os.length*(a+c):=qO
 have j:(val W64 zs+W64^os.length*b)%W64^os.length=val W64 zs:=by rw[rD,vH i]
 have m:(R+W64^os.length*(a+c))%W64^os.length=R:=by rw[rD,vH d]
 rw[e,m] at j
 exact⟨j.symm,g,f⟩
end Go.Proofs.YtdlgidnkmbklcaaGreatDoor
namespace Go.Proofs.YtdlgidnkmbklcaaGreatDoor
open Go.RowKit
noncomputable def wds (n:Nat):List Nat:=if _h:n=0 then [] else (n%W64) :: wds (n/W64)
termination_by n
decreasing_by exact oN (by omega) fP
theorem eG:∀ n,Dig W64 (wds n)∧val W64 (wds n)=n:=by
 intro n
 induction n using Nat.strongRecOn with
 | ind n ih =>
  rw[wds]
  split
  ·rename_i h;exact⟨Dig.nil,by simp[h]⟩
  rename_i h
  obtain⟨a,b⟩:=ih (n/W64) (oN qO fP)
  exact⟨a.cons (uO _ zP),by rw[iP,b];exact sH _ _⟩
theorem Zfa:∀ n,Trim (wds n):=by
 intro n
 induction n using Nat.strongRecOn with
 | ind n ih =>
  rw[wds]
  split
  ·exact Trim.nil
  rename_i h
  have b:=ih (n/W64) (oN qO fP)
  intro k a
  rcases uJ (n/W64) with e|e
  ·rw[e,wds,dif_pos rfl] at a ⊢
   simp at a
   subst a
   have:=sH n W64
   rw[e] at this
   simp;omega
  obtain⟨m,rfl⟩:∃ m,k=m+1:=⟨k-1,by
   have:wds (n/W64)≠[]:=fun c=>by have:=(eG (n/W64)).2;rw[c] at this;simp at this;omega
   have:=rO.2 this
   simp at a;omega⟩
  have:=b m (by simpa using a)
  simpa using this
theorem Zm9 {xs:qN}{n:Nat}(a:Dig W64 xs)(b:Trim xs)(c:val W64 xs=n):xs=wds n:=Ziu fP a (eG n).1 b (Zfa n) (c.trans (eG n).2.symm)
theorem ZkN (n:Nat):(wds n).length=wl n:=by rw[xR (eG n).1 (Zfa n),(eG n).2]
theorem zL.shows {w:World}{A:qA}{l c n:Nat}(h:zL w (.slice A l c) n):zH .u64 w A (wds n):=by
 obtain⟨g,i,j,e,k,a,b,d,f⟩:=h
 injection e with e1 e2 e3
 subst e1
 rw[←Zm9 b d f];exact a
theorem zL.lens {w:World}{A:qA}{l c n:Nat}(h:zL w (.slice A l c) n):l=(wds n).length∧(wds n).length≤c:=by
 obtain⟨g,i,j,e,a,k,b,d,f⟩:=h
 injection e with e1 e2 e3
 subst e3
 rw[←Zm9 b d f];exact⟨e2,a⟩
theorem zH.lt {k:IntKind}{w:World}{A:qA}{xs:qN}(h:zH k w A xs)(c:0<xs.length){a:Addr}(ha:A=some a):a.block<w.heap.size:=by
 obtain⟨b,o,e,d,_⟩:=h.at c
 rw[ha] at e;injection e with e;rw[e];exact d
end Go.Proofs.YtdlgidnkmbklcaaGreatDoor
