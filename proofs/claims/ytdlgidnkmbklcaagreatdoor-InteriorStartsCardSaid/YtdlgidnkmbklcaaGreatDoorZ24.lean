/-
 My texts.
-/
import Derived.Test.YtdlgidnkmbklcaaGreatDoorZ23
import Derived.Deep.Onto
set_option maxRecDepth 100000
set_option maxHeartbeats 8000000
namespace Go.Proofs.YtdlgidnkmbklcaaGreatDoor
open Go.RowKit Tryz
theorem ZpW {fn:Func}{a:Array Value}{w:World}{p q:Nat}{T:TypeId}{zs:List Value}{e:Int}(k:fn.results=#[ResultVar.cell 2 T,ResultVar.cell 3 36])(l:a[2]? = some (.pointer (some ⟨p,0,none⟩)))(m:a[3]? = some (.pointer (some ⟨q,0,none⟩)))(n:Blk T w p zs.toArray)(o:Blk 36 w q #[.int .i64 e])(r:(teOf prog T).map (fun e=>(e.agg,e.size))=some (true,zs.length)):(results fn a).run prog w=.ok (.tuple #[.agg zs.toArray,.int .i64 e]) w:=by
 obtain⟨u,b,s⟩:=vK.1 r
 injection s with ha hn
 have Q:(teOf prog 36).map (fun e=>e.agg)=some false:=qK
 obtain⟨v,d,f⟩:=vK.1 Q
 have h:=ZaG (P:=prog) (w:=w) b (g:=p) (off:=0) (cs:=zs) hn.symm (fun j t=>by rw[tA,n.cell];simp[t]) ha
 have i:=ZbS (P:=prog) (w:=w) d (g:=q) (off:=0) (c:=.int .i64 e) (by rw[o.cell];rfl) f
 simp only[Instr.loadAt,Instr.sureAddr,Sem.run_bind,Sem.run_pure,Result.andThen_ok] at h i
 rw[ZfS,k,Array.mapM_eq_mapM_toList]
 simp[Zcb,l,m,asAddr,h,i,Result.andThen_ok]
theorem Zlk {a:Value→Value}{r c m0:Nat}{d:List Fv3}{w w':World}{e:Ending}(f:m0≤w.heap.size)(h:Ziq a r c d w e w') :
 lG (fun x:{x:Nat × List Nb // x.2.map nbV=d∧m0≤x.1}=>a (.agg #[.int .i64 ((r:Nat):Int),.int .i64 ((c:Nat):Int),.slice (some ⟨x.1.1,0,none⟩) x.1.2.length x.1.2.length])) (fun x w=>OwnD w m0 86 3 (some ⟨x.1.1,0,none⟩) x.1.2.length x.1.2.length (x.1.2.flatMap nbC)∧wH w x.1.2) w e w':=by
 obtain⟨b,i,rfl,j,g,k,Q⟩:=h
 exact⟨⟨(b,i),j,uD f (g.blk rfl).1⟩,rfl,Q,(g.boxN f).and (boxn Q (fun S l m n=>k.nrb m n))⟩
theorem Zll {d:Value→Value}{r c m0:Nat}{a:List (ByteArray×Int)}{w w':World}{e:Ending}(f:m0≤w.heap.size)(h:ZpV d r c a w e w') :
 lG (fun b:{b:Nat // m0≤b}=>d (.agg #[.int .i64 ((r:Nat):Int),.int .i64 ((c:Nat):Int),.slice (some ⟨b.1,0,none⟩) a.length a.length])) (fun b w=>OwnD w m0 61 2 (some ⟨b.1,0,none⟩) a.length a.length (a.flatMap flC)) w e w':=by
 obtain⟨b,rfl,g,Q⟩:=h
 exact⟨⟨b,uD f (g.blk rfl).1⟩,rfl,Q,g.boxN f⟩
structure Fm where
 r:Nat
 c:Nat
 A:Option Addr
 cap:Nat
 fs:List (ByteArray×Int)
instance:Inhabited Fm:=⟨⟨0,0,none,0,[]⟩⟩
def fmC (x:Fm):List Value:=[.int .i64 ((x.r:Nat):Int),.int .i64 ((x.c:Nat):Int),.slice x.A x.fs.length x.cap]
theorem Zaf (x:Fm):(fmC x).length=3:=rfl
structure Mx where
 r:Nat
 c:Nat
 A:Option Addr
 cap:Nat
 xs:List Nb
def mx0:Mx:=⟨0,0,none,0,[]⟩
instance:Inhabited Mx:=⟨mx0⟩
def mxC (x:Mx):List Value:=[.int .i64 ((x.r:Nat):Int),.int .i64 ((x.c:Nat):Int),.slice x.A x.xs.length x.cap]
theorem Zeo (x:Mx):(mxC x).length=3:=rfl
def fmV (x:Fm):Nat × Nat × List Fv3:=(x.r,x.c,x.fs.map ldV)
def mxV (x:Mx):Nat × Nat × List Fv3:=(x.r,x.c,x.xs.map nbV)
structure FmG (x:Fm):Prop where
 hr:1≤x.r∧x.r≤32
 hc:1≤x.c∧x.c≤32
 hn:x.fs.length=x.r*x.c
 hv:∀ f∈x.fs,fvB (bytes f.1) f.2=true
 hs:∀ f∈x.fs,(bytes f.1).length≤1000
def MsOk (m:Nat) (w:World) (ys:List Mx):Prop:=∀ y∈ys,OwnD w m 86 3 y.A y.cap y.xs.length (y.xs.flatMap nbC)∧wH w y.xs
theorem Blk.same {T b:TypeId}{w:World}{i:Nat}{cs cs':Array Value}(h:Blk T w i cs)(c:Blk b w i cs'):T=b:=by
 have d:w.heap[i]? = some (.cells cs T (0,0)):=h
 have a:w.heap[i]? = some (.cells cs' b (0,0)):=c
 rw[d] at a
 injection a with a
 injection a with _ e _
theorem OwnD.apart {w w':World}{m g n j c l k o:Nat}{e d:TypeId}{A f:qA}{xs a:List Value}(h:OwnD w m e k A c n xs)(p:OwnD w g d o f l j a)(b:e≠d)(q:Fr (fun i=>f=some ⟨i,0,none⟩) w w'):OwnD w' m e k A c n xs :=
 h.fr q (fun i hi r=>by
  obtain⟨_,_,s,_⟩:=h.blk hi
  obtain⟨_,_,t,_⟩:=p.blk r
  exact b (Blk.same s t))
theorem MsOk.row {m e k c n:Nat}{w w':World}{ys:List Mx}{A:qA}{l:List Value}(h:MsOk m w ys)(a:OwnD w e 94 k A c n l)(b:Fr (fun i=>A=some ⟨i,0,none⟩) w w'):MsOk m w' ys:=fun y d =>
 ⟨(h y d).1.apart a qD b,(h y d).2.row a b⟩
theorem MsOk.snoc {m:Nat}{w:World}{ys:List Mx}{x:Mx}(h:MsOk m w ys)(b:OwnD w m 86 3 x.A x.cap x.xs.length (x.xs.flatMap nbC)∧wH w x.xs):MsOk m w (ys ++ [x]):=fun y a=>by
 rcases tI.1 a with a|a
 ·exact h y a
 rw[vX.1 a];exact b
structure Mr (α:Type) where
 A:Option Addr
 cap:Nat
 xs:List α
instance {α:Type}:Inhabited (Mr α):=⟨⟨none,0,[]⟩⟩
def mr0 {α:Type}:Mr α:=⟨none,0,[]⟩
def mrC {α:Type} (x:Mr α):List Value:=[.slice x.A x.xs.length x.cap]
theorem Zcn {α:Type}(x:Mr α):(mrC x).length=1:=rfl
theorem Zn9 {α:Type}(x:Mr α):∀ (k:IntKind) (z:Int),Value.int k z∈mrC x→k=.i64:=fun k z h=>by simp[mrC] at h
structure MrOk {α:Type} (e:TypeId) (k:Nat) (enc:α→List Value) (m:Nat) (w:World) (ys:List (Mr α)):Prop where
 own:∀ y∈ys,OwnD w m e k y.A y.cap y.xs.length (y.xs.flatMap enc)
 dif:ys.Pairwise (fun a b=>a.A≠b.A)
section
variable {α:Type} {e e':TypeId} {k k' m m' c n:Nat} {enc:α→List Value} {w w':World} {ys:List (Mr α)} {A:Option Addr} {l:List Value}
theorem MrOk.nil:MrOk e k enc m w []:=⟨fun _ h=>(by cases h),List.Pairwise.nil⟩
theorem MrOk.fr {S:Nat→Prop}(h:MrOk e k enc m w ys)(b:Fr S w w')(d:∀ y∈ys,∀ i,y.A=some ⟨i,0,none⟩→¬ S i):MrOk e k enc m w' ys:=⟨fun y a=>(h.own y a).fr b (d y a),h.dif⟩
theorem MrOk.ext (h:MrOk e k enc m w ys)(a:Ext w w'):MrOk e k enc m w' ys:=h.fr a (fun _ _ _ _ f=>f)
theorem MrOk.apart (h:MrOk e k enc m w ys)(b:OwnD w m' e' k' A c n l)(a:e≠e')(d:Fr (fun i=>A=some ⟨i,0,none⟩) w w'):MrOk e k enc m w' ys:=⟨fun y f=>(h.own y f).apart b a d,h.dif⟩
theorem MrOk.snoc {x:Mr α}(h:MrOk e k enc m w ys)(f:OwnD w m e k x.A x.cap x.xs.length (x.xs.flatMap enc))(g:∀ y∈ys,y.A≠x.A):MrOk e k enc m w (ys ++ [x]):=by
 refine⟨fun y d=>?_,List.pairwise_append.2 ⟨h.dif,List.pairwise_singleton _ _,fun a i b j=>by rw[vX.1 j];exact g a i⟩⟩
 rcases tI.1 d with d|d
 ·exact h.own y d
 rw[vX.1 d];exact f
theorem MrOk.boxN (h:MrOk e k enc w.heap.size w' ys)(b:m≤w.heap.size):BoxN w w' (fun v=>MrOk e k enc m v ys):=fun S d a f=>⟨fun y g=>(h.own y g).boxN b S d a f,h.dif⟩
theorem MrOk.at (h:MrOk e k enc m w ys){a:Nat}(ha:a<ys.length):OwnD w m e k ys[a]!.A ys[a]!.cap ys[a]!.xs.length (ys[a]!.xs.flatMap enc):=h.own _ (wJ ha)
theorem Zrc {a b:Nat}(h:ys.Pairwise (fun a b=>a.A≠b.A))(ha:a<ys.length)(d:b<ys.length)(f:a≠b):ys[a]!.A≠ys[b]!.A:=by
 rw[vT ys a ha,vT ys b d]
 have i:=oI.1 h
 rcases pK f with g|g
 ·exact i a b ha d g
 exact (i b a d ha g).symm
theorem MrOk.set {a:Nat}{xs:List α}(h:MrOk e k enc m w ys)(ha:a<ys.length)(z:Fr (fun i=>ys[a]!.A=some ⟨i,0,none⟩) w w')(B:xs.length=ys[a]!.xs.length)(C:OwnD w' m e k ys[a]!.A ys[a]!.cap ys[a]!.xs.length (xs.flatMap enc)):MrOk e k enc m w' (ys.set a ⟨ys[a]!.A,ys[a]!.cap,xs⟩):=by
 refine⟨fun y f=>?_,?_⟩
 ·obtain⟨b,g,f⟩:=oM f
  rw[sQ] at g
  rw[List.getElem_set] at f
  by_cases d:a=b
  ·rw[uZ d] at f
   subst f
   show OwnD w' m e k ys[a]!.A ys[a]!.cap xs.length _
   rw[B];exact C
  rw[uQ d] at f
  subst f
  have j:=Zrc h.dif ha g d
  rw[vT ys b g] at j
  exact (h.own _ (tZ g)).fr z (fun i D E=>j (by rw[D];exact E))
 rw[oI]
 intro b c g u p
 rw[sQ] at g u
 have v:∀ (q:Nat) (r:q<(ys.set a ⟨ys[a]!.A,ys[a]!.cap,xs⟩).length),((ys.set a ⟨ys[a]!.A,ys[a]!.cap,xs⟩)[q]).A=(ys[q]'(by rw[sQ] at r;exact r)).A:=fun q r=>by
  rw[List.getElem_set]
  by_cases d:a=q
  ·subst d;rw[uZ rfl];exact show ys[a]!.A=_ from uX Mr.A (vT ys a ha)
  rw[uQ d]
 rw[v,v]
 exact oI.1 h.dif b c g u p
theorem ZjE {a:Nat}{r:Mr α}{xs:List α}(ha:a<ys.length)(d:ys[a]! = r)(f:xs.length=r.xs.length):(ys.set a ⟨r.A,r.cap,xs⟩).flatMap mrC=ys.flatMap mrC:=by
 subst d
 rw[dR Zcn _ _ _ ha]
 have b:=dR Zcn ys a ys[a]! ha
 rw[show ys.set a ys[a]! = ys by rw[vT ys a ha];exact List.set_getElem_self ha] at b
 rw[show mrC (⟨ys[a]!.A,ys[a]!.cap,xs⟩:Mr α)=mrC ys[a]! by unfold mrC;rw[f]]
 exact b.symm
end
def RdD {α:Type} [Inhabited α] (e:TypeId) (k:Nat) (enc:α→List Value) (w:World) (A:Option Addr) (xs:List α):Prop:=∀ j i v,j<xs.length→(enc xs[j]!)[i]? = some v→∃ b off cur,A=some ⟨b,off,none⟩∧Blk e w b cur∧cur[off+(j*k+i)]? = some v
section
variable {P:Program} {o:Oper} {ρ:Operand→Value} {w:World} {t e:TypeId} {x:Operand}
theorem ZaX {α:Type}{A:qA}{m c n j:Nat}{ys:List (Mr α)}(h:OwnD w m e 1 A c n (ys.flatMap mrC))(a:j<ys.length)(d:o.op=Op.load t x:=by kernel_rfl)(f:ρ x=atA A (j*1):=by kernel_rfl)(ha:(teOf P t).map (fun e=>e.agg)=some false:=by kernel_rfl) :
 (execOp ρ o).run P w=.ok (.value (.slice ys[j]!.A ys[j]!.xs.length ys[j]!.cap)) w:=by
 have g:=aA Zcn ys j 0 a qD
 obtain⟨b,rfl,_,i⟩:=h.at (v:=.slice ys[j]!.A ys[j]!.xs.length ys[j]!.cap) g
 exact kV i d (by rw[f,atA,rK,jW];rfl) ha
end
theorem Zmx {α β:Type}[Inhabited α]{enc:α→List Value}{d:β→List Value}{P:Program}{o:Oper}{ρ:Operand→Value}{w:World}{m0 k k' n bytes:Nat}{t e e':TypeId}{kl kc:IntKind}{l c:Operand}{z:Value}{ys:List (Mr β)}(g:α)(F:∀ x,(enc x).length=k)(G:0<k)(H:z.cells.toList=enc g)(r:∀ x,∀ (k:IntKind) (z:Int),Value.int k z∈enc x→k=.i64)(I:MrOk e' k' d m0 w ys)(E:m0≤w.heap.size)(J:n≤maxLen)(u:bytes*n≤281474976710656)(K:o.op=Op.makeSlice t l c:=by kernel_rfl)(L:P.underlying t=some (.slice e):=by kernel_rfl)(a:(P.info? e).map (fun i=>(i.zero,i.size,i.bytes))=some (some z,k,bytes):=by kernel_rfl)(M:ρ l=.int kl (n:Int):=by kernel_rfl)(O:ρ c=.int kc (n:Int):=by kernel_rfl) :
 Does P o ρ w (DoR (fun b:{b:Nat // m0≤b∧∀ y∈ys,y.A≠some ⟨b,0,none⟩}=>.slice (some ⟨b.1,0,none⟩) n n) (fun b w=>OwnD w m0 e k (some ⟨b.1,0,none⟩) n n ((List.replicate n g).flatMap enc)) w):=by
 have j:∀ y w',DoR (fun b:{b:Nat // w.heap.size≤b}=>.slice (some ⟨b.1,0,none⟩) n n) (fun b v=>OwnD v w.heap.size e k (some ⟨b.1,0,none⟩) n n ((List.replicate n g).flatMap enc)) w y w' →
  DoR (fun b:{b:Nat // m0≤b∧∀ y∈ys,y.A≠some ⟨b,0,none⟩}=>.slice (some ⟨b.1,0,none⟩) n n) (fun b w=>OwnD w m0 e k (some ⟨b.1,0,none⟩) n n ((List.replicate n g).flatMap enc)) w y w':=fun y w' h=>by
  obtain⟨b,p,q,B⟩:=h
  refine⟨⟨b.1,uD E b.2,fun y R C=>?_⟩,p,q,fun S T D U=>(B S T D U).mono E⟩
  obtain⟨_,V,W,_⟩:=(I.own y R).blk C
  exact Nat.lt_irrefl _ (uS W.lt b.2)
 rcases cJ (P:=P) (w:=w) (m0:=w.heap.size) g F G H r (uF _) J u K L a M O with ⟨y,w',p,q⟩|⟨f,X,Y,p,q⟩
 ·exact Or.inl ⟨y,w',p,j _ _ q⟩
 refine Or.inr ⟨f,X,Y,p,q.mono (fun e w' h=>?_)⟩
 obtain⟨y,B,C⟩:=h
 exact⟨y,B,j _ _ C⟩
def ZpX {α:Type} (e eo:TypeId) (k:Nat) (enc:α→List Value) (n:Nat) (zs:List (List α)) (w:World) (en:Ending) (w':World):Prop:=∃ b ys,en=.returned (.slice (some ⟨b,0,none⟩) n n)∧ys.map (·.xs)=zs∧OwnD w' w.heap.size eo 1 (some ⟨b,0,none⟩) n n (ys.flatMap mrC)∧MrOk e k enc w.heap.size w' ys∧Ext w w'
theorem Zrd {α:Type}{e d:TypeId}{k n m0:Nat}{enc:α→List Value}{zs:List (List α)}{w w':World}{f:Ending}(a:m0≤w.heap.size)(h:ZpX e d k enc n zs w f w') :
 lG (fun x:{x:Nat × List (Mr α) // x.2.map (·.xs)=zs∧m0≤x.1}=>.slice (some ⟨x.1.1,0,none⟩) n n) (fun x w=>OwnD w m0 d 1 (some ⟨x.1.1,0,none⟩) n n (x.1.2.flatMap mrC)∧MrOk e k enc m0 w x.1.2) w f w':=by
 obtain⟨b,ys,rfl,i,g,j,Q⟩:=h
 exact⟨⟨(b,ys),i,uD a (g.blk rfl).1⟩,rfl,Q,(g.boxN a).and (j.boxN a)⟩
section
variable {N:Nat} {S0:Nat→Prop} {w0:World} {s:St} {Φ Φ2:World→Prop} {P:Program} {ops:Array Oper} {Q:Exit→Act→World→Prop}
theorem Zre {i k n c j:Nat}{t e:TypeId}{x y:Operand}{xs new:List Value}(base:Nat)(A:qA)(v:Value)(f:∀ w,Φ w→OwnD w base e k A c n xs)(u:j<n)(B:new.length=k)(C:0<k)(d:∀ b,base≤b→w0.heap.size≤b∨S0 b)(D:∀ c,c∈new→c.oneCell'=true)(g:∀ (k:IntKind) (z:Int),Value.int k z∈new→k=.i64)(E:v.cells.toList=new)(F:∀ w w',Φ w→Fr (fun i=>A=some ⟨i,0,none⟩) w w'→OwnD w' base e k A c n (lL xs (j*k) new)→Φ2 w')(K:SXi P N S0 w0 ops Q (i+1) s Φ2)(p:Nat.blt i ops.size=true:=by kernel_rfl)(G:s.wantB ops (opAt ops i)=some true:=by kernel_rfl)(H:(opAt ops i).op=.store t x y:=by kernel_rfl)(I:(opAt ops i).dst=none:=by kernel_rfl)(J:(teOf P t).map (fun e=>e.size)=some k:=by kernel_rfl)(M:s.eval x=some (.v (atA A (j*k))):=by kernel_rfl)(O:s.eval y=some (.v v):=by kernel_rfl):SXi P N S0 w0 ops Q i s Φ:=by
 intro L a w hi
 obtain⟨b,rfl,_⟩:=OwnD.blkSome (f w hi.box.self) qO
 have q:s.eval x=some (.v (.pointer (some ⟨b,0+j*k,none⟩))):=by rw[M,atA,rK,jW]
 exact Zce base b v (fun w'=>∃ w,Φ w∧Fr (fun i=>(some ⟨b,0,none⟩:Option Addr)=some ⟨i,0,none⟩) w w') f u B C (d b) D g E (fun w w' h r=>⟨w,h,r⟩) (K.facts (fun w' h=>by
  obtain⟨⟨w,h,r⟩,f⟩:=h
  exact F w w' h r f)) p G H I J q O L a w hi
theorem Zrf {α:Type}[Inhabited α]{enc:α→List Value}{i k a j:Nat}{t e:TypeId}{x y:Operand}{ys:List (Mr α)}{r:Mr α}(base:Nat)(new:α)(v:Value)(Ψ:World→Prop)(q:∀ x,(enc x).length=k)(D:0<k)(u:∀ w,Φ w→MrOk e k enc base w ys)(ha:a<ys.length)(E:ys[a]! = r)(B:j<r.xs.length)(d:∀ b,base≤b→w0.heap.size≤b∨S0 b)(F:∀ c,c∈enc new→c.oneCell'=true)(g:∀ (k:IntKind) (z:Int),Value.int k z∈enc new→k=.i64)(G:v.cells.toList=enc new)(H:∀ w w',Φ w→Fr (fun i=>r.A=some ⟨i,0,none⟩) w w'→Ψ w')(K:SXi P N S0 w0 ops Q (i+1) s (fun w=>Ψ w∧MrOk e k enc base w (ys.set a ⟨r.A,r.cap,r.xs.set j new⟩)))(p:Nat.blt i ops.size=true:=by kernel_rfl)(I:s.wantB ops (opAt ops i)=some true:=by kernel_rfl)(J:(opAt ops i).op=.store t x y:=by kernel_rfl)(L:(opAt ops i).dst=none:=by kernel_rfl)(M:(teOf P t).map (fun e=>e.size)=some k:=by kernel_rfl)(O:s.eval x=some (.v (atA r.A (j*k))):=by kernel_rfl)(R:s.eval y=some (.v v):=by kernel_rfl):SXi P N S0 w0 ops Q i s Φ:=by
 subst E
 exact Zre base ys[a]!.A v (fun w h=>(u w h).at ha) B (q new) D d F g G (fun w w' h C f=>⟨H w w' h C,by
  rw[←dR q _ _ _ B] at f
  exact (u w h).set ha C (sQ ..) f⟩) K p I J L M O R
end
structure Qv where
 c:ShQ
 q:Rat
def qv0:Qv:=⟨(false,none,0,0,false,none,0,0),0⟩
instance:Inhabited Qv:=⟨qv0⟩
def qvC (x:Qv):List Value:=[.bool x.c.1,.slice x.c.2.1 x.c.2.2.1 x.c.2.2.2.1,.bool x.c.2.2.2.2.1,.slice x.c.2.2.2.2.2.1 x.c.2.2.2.2.2.2.1 x.c.2.2.2.2.2.2.2]
def QsOk (w:World) (xs:List Qv):Prop:=∀ x∈xs,xD w (iF x.c) x.q
structure Qr where
 A:Option Addr
 cap:Nat
 xs:List Qv
def qr0:Qr:=⟨none,0,[]⟩
instance:Inhabited Qr:=⟨qr0⟩
theorem Zoa {α β:Type}[Inhabited α]{l:List α}{k:Nat}{f:α→List β}(a:k<l.length):(l.take (k+1)).flatMap f=(l.take k).flatMap f ++ f l[k]! := by
 rw[vY a,vR,vT l k a,nC]
theorem Zsf {f:ByteArray×Int}(a:fvB (bytes f.1) f.2=true)(c:(bytes f.1).length≤1000):FvOk (ldV f):=by
 have h:=Zfl a
 have b:ldR (bytes f.1) f.2=⟨(xE (bytes f.1)).1,zK (xE (bytes f.1)).2,f.2,0⟩:=uZ a
 refine⟨ZsF qO,?_,Zse,?_⟩
 ·unfold ldV;rw[b];exact⟨h.1,h.2.1⟩
 unfold ldV;rw[b];exact h.2.2.2
def ftW (v:Fv3):ByteArray×Int:=(⟨(Lib.itoa (sg v.1 v.2.1)).toArray⟩,v.2.2)
end Go.Proofs.YtdlgidnkmbklcaaGreatDoor
namespace Go.Proofs.YtdlgidnkmbklcaaGreatDoor
theorem few (s:Bool){n o j b:Nat}(e:Int)(d:0<b)(a:n=o*2^j)(c:o%2=1)(f:n<2^b)(g:okE (e+(j:Int))):wR s n 1 e b=⟨s,o,e+(j:Int),0⟩:=by
 have h:0<n:=by rw[a];exact rC qO (p2 j)
 rw[←kZ s n e d]
 unfold kG
 rw[uZ (kI.2 f)]
 unfold wG
 rw[uQ qO,a,ZdM c,Zei c,uZ g]
theorem aT {e:Int}(a : -1000≤e)(b:e≤1000):okE e:=by unfold okE;omega
theorem rd4:xW [52]=some ((4:Int):Rat):=Zbg.2 (dW (n:=4) qD qD qD)
theorem rd2:xW [50]=some ((2:Int):Rat):=Zbg.2 (dW (n:=2) qD qD qD)
theorem ZpY {l:List UInt8}{n o j:Nat}(h:xW l=some ((n:Int):Rat))(a:n=o*2^j)(b:o%2=1)(c:n<256)(d:j≤1000):Zck l 8=⟨false,o,(j:Int),0⟩:=by
 unfold Zck
 rw[uZ (by rw[h];rfl),uZ qO,jS h]
 unfold rndF
 rw[oO,nK]
 show wR (decide ((n:Int)<0)) n 1 0 8=_
 rw[show decide ((n:Int)<0)=false from uR qO,few false 0 qD a b c (aT qO qO),Int.zero_add]
theorem r4:Zck [52] 8=⟨false,1,2,0⟩:=ZpY (n:=4) (o:=1) (j:=2) rd4 qD qD qD qD
theorem r2:Zck [50] 8=⟨false,1,1,0⟩:=ZpY (n:=2) (o:=1) (j:=1) rd2 qD qD qD qD
theorem Zsg {n:Nat}{c:UInt8}(a:Lib.decDigits n=[c]):Lib.itoa ((n:Nat):Int)=[c]:=by rw[iB,a]
theorem it1:Lib.itoa 1=[49]:=Zsg (n:=1) (by rw[eZ qO];rfl)
def kA:List Fv3:=[(false,1,2),(false,1,1),(false,1,1),(false,5,0)]
theorem Zep {r:FR}{s:Bool}{m:Nat}{e:Int}(h:r=⟨s,m,e,0⟩):musT r=some (s,m,e):=by subst h;rfl
end Go.Proofs.YtdlgidnkmbklcaaGreatDoor
namespace Go.Proofs.YtdlgidnkmbklcaaGreatDoor
open Go.RowKit Tryz
instance {p q m0:Nat}:Nonempty {x:Nat × List Qr // x.2.map (fun r=>r.xs.map (·.q))=List.replicate p (List.replicate q 0)∧m0≤x.1}:=⟨⟨(m0,List.replicate p ⟨none,0,List.replicate q qv0⟩),by
 refine⟨?_,uF _⟩
 rw[oS,oS];rfl⟩⟩
theorem Zrg {w:World}{m c n:Nat}{A:qA}{ts:List ByteArray}(h:OwnD w m 9 1 A c n (ts.flatMap stC)):SRd w A ts:=fun i hi=>by
 have d:=aA Zq3 ts i 0 hi qD
 obtain⟨b,e,f,a⟩:=h.at (v:=.string ts[i]!) d
 exact⟨b,0,e,f,by rw[sU,tE] at a;exact a⟩
theorem rd0:xW [48]=some ((0:Int):Rat):=Zbg.2 (dW (n:=0) qD qD qD)
theorem r0:Zck [48] 8=⟨false,0,0,0⟩:=by
 unfold Zck
 rw[uZ (by rw[rd0];rfl),uZ qO,jS rd0]
 rfl
structure Ef where
 s:Bool
 A:Option Addr
 l:Nat
 c:Nat
 e:Int
 z:Int
def ef0:Ef:=⟨false,none,0,0,0,0⟩
instance:Inhabited Ef:=⟨ef0⟩
def efC (x:Ef):List Value:=[.bool x.s,.slice x.A x.l x.c,.int .i64 x.e]
theorem Zco (x:Ef):(efC x).length=3:=rfl
theorem ZjF (x:Ef):∀ (k:IntKind) (z:Int),Value.int k z∈efC x→k=.i64:=fun k z h=>by
 simp[efC] at h;exact h.1
instance {β:Type} {m:Nat} {ys:List (Mr β)}:Nonempty {b:Nat // m≤b∧∀ y∈ys,y.A≠some ⟨b,0,none⟩}:=by
 refine⟨⟨m+(ys.map (fun y=>match y.A with | some a=>a.block+1 | none=>0)).sum,Nat.le_add_right _ _,fun y hy h=>?_⟩⟩
 have h1:∀ (l:List (Mr β)),y∈l→(match y.A with | some a=>a.block+1 | none=>0)≤(l.map (fun y=>match y.A with | some a=>a.block+1 | none=>0)).sum:=fun l hl=>by
  induction l with
  | nil=>cases hl
  | cons x l ih =>
   rw[List.map_cons,List.sum_cons]
   rcases List.mem_cons.1 hl with e|e
   ·subst e;exact Nat.le_add_right _ _
   have:=ih e;omega
 have h2:=h1 ys hy
 rw[h] at h2
 dsimp only at h2
 omega
theorem Zpv (n c:Nat)(w:World)(K:n≤1000)(L:c≤1000) :
 yA 82 #[.int .i64 ((n:Nat):Int),.int .i64 ((c:Nat):Int)] w (ZpX 109 50 3 efC n (List.replicate n (List.replicate c ef0)) w):=by
 obtain⟨r,g⟩:∃ m,m=w.heap.size:=⟨_,rfl⟩
 refine zV (Φ:=fun w=>True) func82 rfl qK (fun w' M=>trivial) ?_
 refine yY (xq 1 [eS1 4 none 0 0] [] ?_)
 refine yZ (yY (xq 1 [yJ 7 n] [] ?_))
 refine yD (d:=8) (fun s:{b:Nat // r≤b}=>Υ s.1 n) (fun s w=>OwnD w r 50 1 (yL s.1) n n ((List.replicate n (mr0:Mr Ef)).flatMap mrC)) (fun w R Q=>cJ (t:=112) (e:=50) (kl:=.i64) (kc:=.i64) (l:=.tmp 7) (c:=.tmp 7) (bytes:=24) (z:=Ξ) (mr0:Mr Ef) Zcn qD rfl Zn9 (g ▸ R.size) (by simp only[maxLen];omega) qO) fun⟨a,D⟩=>?_
 refine xr 1 [yJ 1 c,eS1 4 none 0 0,eS1 5 (yL a) n n] [] ?_
 refine yZ (zD (yY (xq 3 [yJ 10 n,yJ 11 0] [] ?_)))
 refine yZ (zO ?_)
 refine xI (fun E F G=>∃ (k:Nat) (q:List (Mr Ef)),F=ofL [yJ 1 c,eS1 4 none 0 0,eS1 5 (yL a) n n,yJ 10 n,yJ 11 k] []∧G=(fun w=>(MrOk 109 3 efC r w q∧OwnD w r 50 1 (yL a) n n ((fill n (mr0:Mr Ef) q).flatMap mrC)))∧(k≤n)∧(q.length=k)∧(q.map (·.xs)=List.replicate k (List.replicate c ef0))∧E=(1+(n-k))) ((1+(n-0))) ⟨0,([]:List (Mr Ef)),rfl,rfl,(uT _),rfl,rfl,rfl⟩ (fun w Q=>⟨MrOk.nil,(by rw[Zfh];exact Q.2)⟩) ?_
 rintro E F G ⟨k,q,rfl,rfl,N,u,v,rfl⟩
 refine yY (xq 1 [yB 12 (decide ((k:Int)<(n:Int)))] [] ?_)
 refine yZ (zD ?_)
 refine yQ ((decide ((k:Int)<(n:Int)))) (fun o=>?_) fun o=>?_
 ·have p:k<n:=by have:=uB o;omega
  refine zG (zB (zD (zO (yY (xq 2 [yJ 6 k] [] ?_)))))
  refine yZ (zC (xq 3 [eS1 14 (yL a) n n,yJ 15 k,yJ 16 c] [] ?_))
  refine yD (d:=17) (fun s:{b:Nat // r≤b∧∀ y∈q,y.A≠yL b}=>Υ s.1 c) (fun s w=>OwnD w r 109 3 (yL s.1) c c ((List.replicate c ef0).flatMap efC)) (fun w R Q=>Zmx (t:=50) (e:=109) (kl:=.i64) (kc:=.i64) (l:=.tmp 16) (c:=.tmp 16) (bytes:=40) (z:=.agg #[.bool false,Ξ, yI 0]) ef0 Zco qD rfl ZjF Q.1 (g ▸ R.size) (by simp only[maxLen];omega) qO) fun⟨f,H,B⟩=>?_
  refine xr 0 [yJ 1 c,eS1 4 none 0 0,eS1 5 (yL a) n n,yJ 10 n,yJ 11 k,eS1 14 (yL a) n n,yJ 15 k,eS1 17 (yL f) c c] [] ?_
  refine xqk 18 (.pointer (some ⟨a,0+k*1,none⟩)) (fun w R Q=>ZcP (t:=112) (e:=50) (sz:=1) (x:=.tmp 14) (ix:=.tmp 15) (len:=n) (cap:=n) (i:=k) p) ?_
  refine Zce (t:=50) (x:=.tmp 18) (y:=.tmp 17) (j:=k) (new:=mrC ((⟨yL f,c,List.replicate c ef0⟩:Mr Ef))) r a (Υ f c) (fun w=>(MrOk 109 3 efC r w q∧OwnD w r 109 3 (yL f) c c ((List.replicate c ef0).flatMap efC))) (fun w Q=>Q.1.2) p rfl qD (fun h=>Or.inl (uD (g ▸ uF _) h)) (by simp[mrC,Value.oneCell']) (Zn9 _) (by unfold mrC;rw[tH];rfl) (fun w w' Q I=>⟨MrOk.apart Q.1.1 Q.1.2 qD I,OwnD.apart Q.2 Q.1.2 qD I⟩) ?_
  rw[←dR Zcn ((fill n (mr0:Mr Ef) q)) k ((⟨yL f,c,List.replicate c ef0⟩:Mr Ef)) (by rw[Zff qO];exact p),ZhK u p]
  refine xr 0 [yJ 1 c,eS1 4 none 0 0,eS1 5 (yL a) n n,yJ 10 n,yJ 11 k] [] ?_
  refine xe (xK (zB (zC (xq 1 [yJ 19 (IntKind.i64.wrap ((k:Int)+1))] [] ?_))))
  rw[yW ((k:Int)+1) (((k+1:Nat):Int)) qO]
  refine xq 1 [yJ 11 (k+1:Nat)] [] ?_
  refine xe ?_
  exact xC ((1+(n-(k+1)))) qO ⟨(k+1),(q ++ [(⟨yL f,c,List.replicate c ef0⟩:Mr Ef)]),rfl,rfl,p,(by rw[uN,u];rfl),(by rw[pO,v,pT];rfl),rfl⟩ (fun w Q=>⟨(MrOk.snoc Q.1.1 (by show OwnD _ _ _ _ _ _ (List.replicate c ef0).length _;rw[tH];exact Q.1.2) B),Q.2⟩)
 have C:k=n:=by have:=uC o;omega
 refine xJ (zE (zE (xL (zB (yY (xq 2 [eS1 4 (yL a) n n] [] ?_))))))
 refine yZ (zJ ?_)
 refine yR (Υ a n) fun w' R Q=>?_
 exact⟨a,q,rfl,by rw[C] at v;exact v,by have h:=Q.2;have J:=u;rw[C] at J;subst J;rw[Zfg] at h;exact g ▸ h,g ▸ Q.1,R⟩
instance {m:Nat} {ts:List ByteArray}:Nonempty {x:Nat × List Qv // x.2.map (·.q)=ts.map (fun t=>valF (bytes t))∧m≤x.1}:=⟨⟨(m,ts.map (fun t=>⟨qv0.c,valF (bytes t)⟩)),by rw[rM];rfl,uF _⟩⟩
theorem zN.rowD {w w':World}{v:Value}{z:Int}{m e k c n:Nat}{A:qA}{l:List Value}(h:zN w v z)(a:OwnD w m e k A c n l)(b:Fr (fun i=>A=some ⟨i,0,none⟩) w w'):zN w' v z:=h.nrb (fun _ hi=>a.nrb hi) b
theorem Zpy {v:Rat}{n:Nat}(d:0<n)(i:n≤4096)(ha:blen v.num.natAbs≤400000)(j:blen v.den≤400000):(rndF v n).err=0:=by
 have a:=v.den_pos
 rcases uJ v.num.natAbs with b|b
 ·unfold rndF
  rw[b,fE];rfl
 have e:=Zfe b a d
 have f:blen (rndM v.num.natAbs v.den n)≤n+1:=kI.2 (vN (Zrk b a d) (by rw[uP];have:=p2 n;omega))
 have g:tzn (rndM v.num.natAbs v.den n)+1≤blen (rndM v.num.natAbs v.den n):=by
  have l:=(jY e).2
  have h:0<oddM (rndM v.num.natAbs v.den n):=by have:=(jY e).1;omega
  have m:=uE (2^tzn (rndM v.num.natAbs v.den n)) h
  exact cK.2 qO
 have o:=Zlp (n:=v.num.natAbs) (k:=rndK v.num.natAbs v.den n) (Or.inr rfl)
 have c:okE (0+rndK v.num.natAbs v.den n+tzn (rndM v.num.natAbs v.den n)):=by constructor<;>omega
 unfold rndF wR wG
 rw[uQ qO,uQ qO,uZ c]
def efV (x:Ef):Int×Int:=(x.z,x.e)
def NfOk (w:World) (ms:List (Mr Ef)):Prop:=∀ y∈ms,∀ x∈y.xs,zN w (vI2 x.s x.A x.l x.c) x.z
theorem NfOk.nrb {S:Nat→Prop}{w w':World}{ms:List (Mr Ef)}(h:NfOk w ms)(a:∀ i,S i→NRB w i)(b:Fr S w w'):NfOk w' ms:=fun y c x d=>(h y c x d).nrb a b
theorem NfOk.ext {w w':World}{ms:List (Mr Ef)}(h:NfOk w ms)(a:Ext w w'):NfOk w' ms:=fun y b x c=>(h y b x c).ext a
theorem NfOk.row {w w':World}{ms:List (Mr Ef)}{m e k c n:Nat}{A:qA}{l:List Value}(h:NfOk w ms)(a:OwnD w m e k A c n l)(b:Fr (fun i=>A=some ⟨i,0,none⟩) w w'):NfOk w' ms:=h.nrb (fun _ hi=>a.nrb hi) b
theorem NfOk.zero {w:World}{ms:List (Mr Ef)}{n c:Nat}(h:ms.map (·.xs)=List.replicate n (List.replicate c ef0)):NfOk w ms:=fun y d x a=>by
 have b:y.xs∈ms.map (·.xs):=pH d
 rw[h] at b
 rw[(rE.1 b).2] at a
 rw[(rE.1 a).2]
 exact zN.nil w
theorem NfOk.set {w:World}{a:List (Mr Ef)}{i j:Nat}{y:Mr Ef}{x:Ef}(h:NfOk w a)(hi:i<a.length)(f:a[i]! = y)(g:zN w (vI2 x.s x.A x.l x.c) x.z):NfOk w (a.set i ⟨y.A,y.cap,y.xs.set j x⟩):=fun z k u e=>by
 rcases oG k with b|b
 ·exact h z b u e
 subst b
 rcases oG e with d|d
 ·exact h y (f ▸ wJ hi) u d
 subst d;exact g
def Zp0 (n:Nat) (zs:List (List (Int×Int))) (w:World) (en:Ending) (w':World):Prop:=∃ b ms,en=.returned (.slice (some ⟨b,0,none⟩) n n)∧ms.map (fun y=>y.xs.map efV)=zs∧OwnD w' w.heap.size 50 1 (some ⟨b,0,none⟩) n n (ms.flatMap mrC)∧MrOk 109 3 efC w.heap.size w' ms∧NfOk w' ms∧Ext w w'
def ftE (x:Ef):ByteArray×Int:=(⟨(Lib.itoa x.z).toArray⟩,x.e)
theorem Zrl {a:List (Mr Ef)}{i j:Nat}{y:Mr Ef}{x:Ef}{l:List (ByteArray×Int)}(c:a[i]! = y)(b:j<y.xs.length)(d:y.xs[j]! = x)(f:l=(a.take i).flatMap (fun y=>y.xs.map ftE) ++ (a[i]!.xs.take j).map ftE) :
 l ++ [(⟨(Lib.itoa x.z).toArray⟩,x.e)]=(a.take i).flatMap (fun y=>y.xs.map ftE) ++ (a[i]!.xs.take (j+1)).map ftE:=by
 subst c
 rw[f,vU,vY b,pO,pN,← vT a[i]!.xs j b,d]
 rfl
theorem Zrm {a:List (Mr Ef)}{i c:Nat}{l:List (ByteArray×Int)}(hi:i<a.length)(b:a[i]!.xs.length=c)(d:l=(a.take i).flatMap (fun y=>y.xs.map ftE) ++ (a[i]!.xs.take c).map ftE):l=(a.take (i+1)).flatMap (fun y=>y.xs.map ftE):=by
 rw[Zoa hi,d,← b,sP]
theorem Zsm {a:List (Mr Ef)}{i j c:Nat}{l:List (ByteArray×Int)}(hi:i≤a.length)(e:∀ y∈a,y.xs.length=c)(f:l=(a.take i).flatMap (fun y=>y.xs.map ftE) ++ (a[i]!.xs.take j).map ftE):l.length≤i*c+j:=by
 have g:∀ (zs:List (Mr Ef)),(∀ y∈zs,y.xs.length=c)→(zs.flatMap (fun y=>y.xs.map ftE)).length=zs.length*c:=fun zs d=>by
  induction zs with
  | nil=>simp
  | cons z zs ih=>rw[qC,uN,ih (fun y b=>d y (List.mem_cons_of_mem _ b)),uL,d z tT,sB,pF,vO]
 rw[f,uN,g _ (fun y b=>e y (sR b)),uL,uM,uM,uU hi]
 omega
def Zp1 (n c:Nat) (fs:List (ByteArray×Int)) (w:World) (e:Ending) (w':World):Prop:=∃ A cap,e=.returned (.agg #[.int .i64 ((n:Nat):Int),.int .i64 ((c:Nat):Int),.slice A fs.length cap])∧OwnD w' w.heap.size 61 2 A cap fs.length (fs.flatMap flC)∧Ext w w'
theorem eqFl (a b:ByteArray)(d c:Int)(w:World):(Op.equalIn 10000 61 (yS a d) (yS b c)).run prog w =
 .ok ((a.toList == b.toList) && (d == c)) w:=by
 have e:prog.underlying 61=some (.struct (prog.fieldsOf 61)):=qK
 have f:prog.stoodInHeld 61=false:=qK
 have g:=underlying3
 have h:=isAgg3
 have i:=underlying9
 have j:=isAgg9
 rw[show (10000:Nat)=9999+1 from rfl,run_equalIn_agg w 9999 _ _ _ e f]
 simp only[Program.fieldsOf,underlying61]
 go_simp
 cases h1:(a.toList == b.toList)<;>cases h3:(d == c)<;>simp_all
theorem Zg0 {o:Oper}{ρ:Operand→Value}{w:World}{x y:Operand}{k:TypeId}{a:ByteArray}{d:Int}(b:o.op=Op.binOp .neq 61 x y k:=by kernel_rfl)(c:ρ x=.agg #[.string a,.int .i64 d]:=by kernel_rfl)(e:ρ y=.agg #[.string a,.int .i64 d]:=by kernel_rfl) :
 (execOp ρ o).run prog w=.ok (.value (.bool false)) w:=by
 have f:prog.eqGuardType prog.depth 61=false:=qK
 have g:(!((a.toList == a.toList) && (d == d)))=false:=qS
 simp only[execOp,b,c,e,Sem.run_bind,run_eqGuard_agg w _ _ _ _ _ _ f,Result.andThen_ok,run_neq_struct,eqFl,Sem.run_pure,g]
theorem Zlu (D:Nat)(B:qA)(a n c:Nat)(ms:List (Mr Ef))(w:World)(hO:OwnD w D 50 1 B a n (ms.flatMap mrC))(hM:MrOk 109 3 efC D w ms)(hN:NfOk w ms)(u:ms.length=n)(J:0<n)(hn:n≤64)(d0:c≤64)(U:∀ y∈ms,y.xs.length=c)(hz:∀ y∈ms,∀ x∈y.xs,ml x.z.natAbs≤1000) :
 yA 41 #[.slice B n a] w (Zp1 n c (ms.flatMap (fun y=>y.xs.map ftE)) w):=by
 obtain⟨m0,K⟩:∃ m,m=w.heap.size:=⟨_,rfl⟩
 refine zV (Φ:=fun w=>((OwnD w D 50 1 B a n (ms.flatMap mrC)∧MrOk 109 3 efC D w ms)∧NfOk w ms)) func41 rfl qK (fun w' hf=>⟨⟨hO.ext hf,hM.ext hf⟩,hN.ext hf⟩) ?_
 refine yY (xq 1 [Δ 2] [(2,59,[Γ 0,Γ 0,Ω])] ?_)
 refine yZ (yY (xq 3 [yJ 7 n,eS1 8 B n a] [] ?_))
 refine xqk 9 _ (fun w R Q=>xM (t:=112) (e:=50) (sz:=1) (x:=.tmp 8) (ix:=(Operand.const (Value.int IntKind.i64 0))) (cap:=a) (Q.1.1.ne J) J) ?_
 obtain⟨L,O⟩:∃ x,ms[0]! = x:=⟨_,rfl⟩
 refine xqk 10 (.slice L.A L.xs.length L.cap) (fun w R Q=>by rw[←O];exact ZaX (t:=50) (x:=.tmp 9) Q.1.1 (u.symm ▸ J)) ?_
 have S:L.xs.length=c:=by rw[←O];exact U _ (wJ (u.symm ▸ J))
 rw[S]
 refine xq 4 [Δ 3] [(3,59,[Γ n,Γ c,Ω])] ?_
 refine yZ (zD (yY (xq 3 [yJ 14 n,yJ 15 0] [] ?_)))
 refine yZ (zO ?_)
 refine xI (fun V W X=>∃ (i:Nat) (A:Option Addr) (cap:Nat) (l:List (ByteArray×Int)) (p:Nat),W=ofL [eS1 0 B n a,Δ 2,Δ 3,yJ 14 n,yJ 15 i] [(3,59,[Γ n,Γ c,Λ A p cap]),(2,59,[Γ 0,Γ 0,Ω])]∧X=(fun w=>(((OwnD w D 50 1 B a n (ms.flatMap mrC)∧MrOk 109 3 efC D w ms)∧NfOk w ms)∧OwnD w m0 61 2 A cap p (l.flatMap flC)))∧(i≤n)∧(l=(ms.take i).flatMap (fun y=>y.xs.map ftE))∧(l.length=0→A=none)∧(l.length=p)∧V=(1+(n-i))) _ ⟨0,none,0,([]:List (ByteArray×Int)),0,rfl,rfl,(uT _),rfl,(fun _=>rfl),rfl,rfl⟩ (fun w Q=>⟨⟨⟨Q.1.1,Q.1.2⟩,Q.2⟩,(OwnD.nil _ _ _ _)⟩) ?_
 rintro V W X ⟨i,A,cap,l,p,rfl,rfl,hi,r,M,hp,rfl⟩
 subst hp
 refine yY (xq 1 [yB 16 (decide ((i:Int)<(n:Int)))] [] ?_)
 refine yZ (zD ?_)
 refine yQ ((decide ((i:Int)<(n:Int)))) (fun E=>?_) fun E=>?_
 ·have k:i<n:=by have:=uB E;omega
  refine zG (zB (zD (zO (yY (xq 2 [yJ 4 i] [] ?_)))))
  refine yZ (yY (xq 2 [eS1 18 B n a,yJ 19 i] [] ?_))
  refine xqk 20 _ (fun w R Q=>xM (t:=112) (e:=50) (sz:=1) (x:=.tmp 18) (ix:=.tmp 19) (len:=n) (cap:=a) (Q.1.1.1.ne k) k) ?_
  obtain⟨N,P⟩:∃ x,ms[i]! = x:=⟨_,rfl⟩
  refine xqk 21 (.slice N.A N.xs.length N.cap) (fun w R Q=>by rw[←P];exact ZaX (t:=50) (x:=.tmp 20) Q.1.1.1 (u.symm ▸ k)) ?_
  have T:N.xs.length=c:=by rw[←P];exact U _ (wJ (u.symm ▸ k))
  rw[T]
  refine xq 2 [yJ 22 c,yJ 23 0] [] ?_
  refine yZ (zO ?_)
  refine xI (fun V W X=>∃ (j:Nat) (A:Option Addr) (cap:Nat) (l:List (ByteArray×Int)) (p:Nat),W=ofL [eS1 0 B n a,Δ 2,Δ 3,yJ 4 i,yJ 14 n,yJ 15 i,yJ 22 c,yJ 23 j] [(3,59,[Γ n,Γ c,Λ A p cap]),(2,59,[Γ 0,Γ 0,Ω])]∧X=(fun w=>(((OwnD w D 50 1 B a n (ms.flatMap mrC)∧MrOk 109 3 efC D w ms)∧NfOk w ms)∧OwnD w m0 61 2 A cap p (l.flatMap flC)))∧(j≤c)∧(l=(ms.take i).flatMap (fun y=>y.xs.map ftE) ++ (ms[i]!.xs.take j).map ftE)∧(l.length=0→A=none)∧(l.length=p)∧V=(1+(c-j))) _ ⟨0,A,cap,l,l.length,rfl,rfl,(uT _),(by rw[r,List.take_zero,List.map_nil,rJ]),M,rfl,rfl⟩ (fun w Q=>⟨⟨⟨Q.1.1.1,Q.1.1.2⟩,Q.1.2⟩,Q.2⟩) ?_
  rintro V W X ⟨j,A,cap,l,p,rfl,rfl,hj,r,M,hp,rfl⟩
  subst hp
  refine yY (xq 1 [yB 24 (decide ((j:Int)<(c:Int)))] [] ?_)
  refine yZ (zD ?_)
  refine yQ ((decide ((j:Int)<(c:Int)))) (fun F=>?_) fun F=>?_
  ·have C:j<c:=by have:=uB F;omega
   refine zG (zB (zD (zO (yY (xq 2 [yJ 5 j] [] ?_)))))
   refine xe (zB ?_)
   have g0:=Zsm (u.symm ▸ hi) U r
   have h0:i*c≤64*64:=sI qO qO
   refine ZoQ 8 11 ?_
   refine xqg 4 [eS1 27 A l.length cap,eS1 28 B n a,yJ 29 i] ?_
   refine xqj 30 _ (fun w Q=>xM (t:=112) (e:=50) (sz:=1) (x:=.tmp 28) (ix:=.tmp 29) (len:=n) (cap:=a) (Q.1.1.1.ne k) k) ?_
   obtain⟨g,q⟩:∃ x,ms[i]! = x:=⟨_,rfl⟩
   refine xqj 31 (.slice g.A g.xs.length g.cap) (fun w Q=>by rw[←q];exact ZaX (t:=50) (x:=.tmp 30) Q.1.1.1 (u.symm ▸ k)) ?_
   have o:g.xs.length=c:=by rw[←q];exact U _ (wJ (u.symm ▸ k))
   refine xqg 1 [yJ 32 j] ?_
   refine xqj 33 _ (fun w Q=>xM (t:=50) (e:=109) (sz:=3) (x:=.tmp 31) (ix:=.tmp 32) (len:=g.xs.length) (cap:=g.cap) (OwnD.ne (show OwnD _ D 109 3 g.A g.cap g.xs.length (g.xs.flatMap efC) by rw[←q];exact MrOk.at Q.1.1.2 (u.symm ▸ k)) (o.symm ▸ C)) (o.symm ▸ C)) ?_
   obtain⟨f,G⟩:∃ x,g.xs[j]! = x:=⟨_,rfl⟩
   refine xqj 34 (yV f.s f.A f.l f.c f.e) (fun w Q=>by rw[←G];exact wX (t:=109) (x:=.tmp 33) (show OwnD _ D 109 3 g.A g.cap g.xs.length (g.xs.flatMap efC) by rw[←q];exact MrOk.at Q.1.1.2 (u.symm ▸ k)) Zco (o.symm ▸ C)) ?_
   have H:f∈g.xs:=by rw[←G];exact wJ (o.symm ▸ C)
   have I:g∈ms:=by rw[←q];exact wJ (u.symm ▸ k)
   refine xqd _ _ 35 (fun _:Unit=>.agg #[.string ⟨(Lib.itoa f.z).toArray⟩, yI f.e]) _ (fun w R Q=>yN (Zgp f.s f.A f.l f.c f.z f.e _ (Q.1.2 _ I _ H) (uD (hz _ I _ H) qD))) fun xx=>?_
   refine gI 36 (fun zb:{b:Nat // m0≤b}=>Υ zb.1 1) (fun zb zw=>Blk 61 zw zb.1 #[.string ⟨(Lib.itoa f.z).toArray⟩, yI f.e]) qK qK qK qK qK qK qK (fun w R Q=>wA (K ▸ R.size) (t:=33) (sz:=2) (z:=.agg #[.string ⟨#[]⟩, yI 0]) (parts:=#[(0,Operand.tmp 35)]) qK qK qK qK qK qK) fun⟨Y,e0⟩=>?_
   refine xf 0 [eS1 0 B n a,Δ 2,Δ 3,yJ 4 i,yJ 14 n,yJ 15 i,yJ 22 c,yJ 23 j,eS1 27 A l.length cap,eS1 36 (yL Y) 1 1] [(3,59,[Γ n,Γ c,Λ A l.length cap]),(2,59,[Γ 0,Γ 0,Ω])] ?_
   refine xz ?_
   refine ZaS (d:=37) (bytes:=24) (t:=33) (s0:=Operand.tmp 27) (x:=Operand.tmp 36) (z:=(yS ⟨#[]⟩ 0)) m0 A (fun j hj h=>Or.inl (K ▸ h)) Y 1 (fun w=>((OwnD w D 50 1 B a n (ms.flatMap mrC)∧MrOk 109 3 efC D w ms)∧NfOk w ms)) (fun w R Q=>K ▸ R.size) (fun w Q=>Q.1.1.2) (fun w Q=>Blk.news Q.2) rfl qD rfl (wW.list qS) qD (by simp[Value.oneCell']) qS (by simp only[maxLen];omega) qO M (fun w w2 R Q hF=>⟨⟨OwnD.apart Q.1.1.1.1.1 Q.1.1.2 qD hF,MrOk.apart Q.1.1.1.1.2 Q.1.1.2 qD hF⟩,NfOk.row Q.1.1.1.2 Q.1.1.2 hF⟩) fun Z a0 f0=>?_
   refine xr 2 [eS1 0 B n a,Δ 2,Δ 3,yJ 4 i,yJ 14 n,yJ 15 i,yJ 22 c,yJ 23 j] [(3,59,[Γ n,Γ c,Λ Z (l.length+1) a0]),(2,59,[Γ 0,Γ 0,Ω])] ?_
   refine xe (xK (zB (zC (xq 1 [yJ 39 (IntKind.i64.wrap ((j:Int)+1))] [] ?_))))
   rw[yW ((j:Int)+1) (((j+1:Nat):Int)) qO]
   refine xq 1 [yJ 23 (j+1:Nat)] [] ?_
   refine xe ?_
   exact xC _ qO ⟨(j+1),Z,a0,(l ++ [((⟨(Lib.itoa f.z).toArray⟩,f.e):ByteArray×Int)]),(l.length+1),rfl,rfl,C,(Zrl q (o.symm ▸ C) G r),(fun h=>by rw[uN] at h;simp at h),uN,rfl⟩ (fun w Q=>⟨⟨⟨Q.1.1.1,Q.1.1.2⟩,Q.1.2⟩,(by rw[vR];exact Q.2)⟩)
  have c0:j=c:=by have:=uC F;omega
  refine xJ (zE (zE (xL (xK (zB (zC (xq 1 [yJ 40 (IntKind.i64.wrap ((i:Int)+1))] [] ?_)))))))
  rw[yW ((i:Int)+1) (((i+1:Nat):Int)) qO]
  refine xq 1 [yJ 15 (i+1:Nat)] [] ?_
  refine xe ?_
  exact xC _ qO ⟨(i+1),A,cap,l,l.length,rfl,rfl,k,(Zrm (u.symm ▸ k) (U _ (wJ (u.symm ▸ k))) (c0 ▸ r)),M,rfl,rfl⟩ (fun w Q=>⟨⟨⟨Q.1.1.1,Q.1.1.2⟩,Q.1.2⟩,Q.2⟩)
 have b0:i=n:=by have:=uC E;omega
 refine xJ (zE (zE (xL (zB (yY (xq 2 [] [(2,59,[Γ n,Γ c,Λ A l.length cap])] ?_))))))
 refine yZ (zJ ?_)
 refine yR (.agg #[yI n, yI c,.slice A l.length cap]) fun w' R Q=>?_
 exact⟨A,cap,by rw[r,b0,← u,sP],by have h:=Q.2;rw[r,b0,← u,sP] at h;exact K ▸ h,R⟩
theorem Zgt (r c m o n:Nat)(A B:qA)(h i:Nat)(j:List (ByteArray×Int))(w:World)(D:OwnD w m 61 2 A h n (j.flatMap flC))(E:OwnD w o 61 2 B i n (j.flatMap flC))(q:j.length=n)(G:n≤4096) :
 yA 37 #[.agg #[.int .i64 ((r:Nat):Int),.int .i64 ((c:Nat):Int),.slice A n h],.agg #[.int .i64 ((r:Nat):Int),.int .i64 ((c:Nat):Int),.slice B n i]] w (RetV w (.bool true)):=by
 refine zV (Φ:=fun w=>(OwnD w m 61 2 A h n (j.flatMap flC)∧OwnD w o 61 2 B i n (j.flatMap flC))) func37 rfl qK (fun w' s=>⟨D.ext s,E.ext s⟩) ?_
 refine yY (xq 3 [Δ 2,Δ 3,yB 4 false] [(3,59,[Γ r,Γ c,Λ B n i]),(2,59,[Γ r,Γ c,Λ A n h])] ?_)
 refine yZ (zD (yY (xq 5 [yB 10 (((r:Int):Int) != (r:Int))] [] ?_)))
 rw[(show (((r:Int):Int) != (r:Int))=false from iC rfl)]
 refine xq 6 [yB 11 false,yB 16 (((c:Int):Int) != (c:Int))] [] ?_
 rw[(show (((c:Int):Int) != (c:Int))=false from iC rfl)]
 refine xq 9 [yB 18 false,yB 25 (((n:Int):Int) != (n:Int))] [] ?_
 rw[(show (((n:Int):Int) != (n:Int))=false from iC rfl)]
 refine xq 1 [yB 26 false] [] ?_
 refine yZ (xb (zG (zB (zD (yY (xq 4 [yJ 29 n,yJ 30 0] [] ?_))))))
 refine yZ (zO ?_)
 refine xI (fun u z C=>∃ (k:Nat),z=ofL [Δ 2,Δ 3,yB 4 false,yJ 29 n,yJ 30 k] [(3,59,[Γ r,Γ c,Λ B n i]),(2,59,[Γ r,Γ c,Λ A n h])]∧C=(fun w=>(OwnD w m 61 2 A h n (j.flatMap flC)∧OwnD w o 61 2 B i n (j.flatMap flC)))∧(k≤n)∧u=(1+(n-k))) _ ⟨0,rfl,rfl,(uT _),rfl⟩ (fun w Q=>⟨Q.1,Q.2⟩) ?_
 rintro u z C ⟨k,rfl,rfl,H,rfl⟩
 refine yY (xq 1 [yB 31 (decide ((k:Int)<(n:Int)))] [] ?_)
 refine yZ (zD ?_)
 refine yQ ((decide ((k:Int)<(n:Int)))) (fun g=>?_) fun g=>?_
 ·have b:k<n:=by have:=uB g;omega
  refine zG (zB (zD (zO (yY (xq 2 [yJ 5 k] [] ?_)))))
  refine yZ (zD ?_)
  refine yO 11 zQ ?_
  refine xqg 3 [eS1 34 A n h,yJ 35 k] ?_
  refine xqj 36 _ (fun w Q=>xM (t:=33) (e:=61) (sz:=2) (x:=.tmp 34) (ix:=.tmp 35) (len:=n) (cap:=h) (Q.1.ne b) b) ?_
  obtain⟨f,l⟩:∃ x,j[k]! = x:=⟨_,rfl⟩
  refine xqj 37 (yS f.1 f.2) (fun w Q=>by rw[←l];exact wX (t:=61) (x:=.tmp 36) Q.1 gX (q.symm ▸ b)) ?_
  refine xqg 3 [eS1 39 B n i,yJ 40 k] ?_
  refine xqj 41 _ (fun w Q=>xM (t:=33) (e:=61) (sz:=2) (x:=.tmp 39) (ix:=.tmp 40) (len:=n) (cap:=i) (Q.2.ne b) b) ?_
  refine xqj 42 (yS f.1 f.2) (fun w Q=>by rw[←l];exact wX (t:=61) (x:=.tmp 41) Q.2 gX (q.symm ▸ b)) ?_
  refine xqj 43 _ (fun w Q=>Zg0 (x:=.tmp 37) (y:=.tmp 42) (k:=61) (a:=f.1) (d:=f.2)) ?_
  refine xz (yZ (xb (zG (xK (zB (zC (xq 1 [yJ 44 (IntKind.i64.wrap ((k:Int)+1))] [] ?_)))))))
  rw[yW ((k:Int)+1) (((k+1:Nat):Int)) qO]
  refine xq 1 [yJ 30 (k+1:Nat)] [] ?_
  refine xe ?_
  exact xC _ qO ⟨(k+1),rfl,rfl,b,rfl⟩ (fun w Q=>⟨Q.1,Q.2⟩)
 have F:k=n:=by have:=uC g;omega
 refine xJ (zE (zE (xL (zB (yY (xq 1 [yB 4 true] [] ?_))))))
 refine yZ (zJ ?_)
 refine yR (.bool true) fun w' R Q=>?_
 exact⟨rfl,R⟩
structure Tap where
 g:Nat
 A:Option Addr
 l:Nat
 c:Nat
def TOld (wl:World) (τ:Tap):Prop:=∃ zs,jE wl τ.A zs∧zs.length=τ.l∧τ.l≤1000000∧wl.heap.size≤τ.g
def TOk (τ:Tap) (w:World):Prop:=∃ p,p≤τ.l∧TB w τ.g τ.A τ.l τ.c p
theorem TOk.fr {τ:Tap}{w w':World}{S:Nat→Prop}(h:TOk τ w)(a:Fr S w w')(b:¬ S τ.g):TOk τ w':=by
 obtain⟨p,c,d⟩:=h
 exact⟨p,c,Blk.fr d a b⟩
theorem TOk.ext {τ:Tap}{w w':World}(h:TOk τ w)(a:Ext w w'):TOk τ w':=h.fr a (fun f=>f)
theorem TOk.lt {τ:Tap}{w:World}(h:TOk τ w):τ.g<w.heap.size:=by
 obtain⟨p,b,a⟩:=h
 exact Blk.lt a
theorem TOk.nrb {τ:Tap}{w:World}(h:TOk τ w):NRB w τ.g:=by
 obtain⟨p,b,a⟩:=h
 exact⟨_,_,a,Zsn _ _ _ _⟩
theorem TOk.cell {τ:Tap}{w:World}(h:TOk τ w):w.cell? ⟨τ.g,0,none⟩=some (.slice τ.A τ.l τ.c):=by
 obtain⟨p,b,a⟩:=h
 rw[Blk.cell a];rfl
theorem TOk.boxT {τ:Tap}{w w':World}(h:TOk τ w'):BoxT τ.g w w' (TOk τ):=fun _ _ a b=>h.fr b (fun c=>(a _ c).2.1 rfl)
theorem TOld.old {wl a w:World}{τ:Tap}(h:TOld wl τ)(b:Ext wl a)(Q:Fr (fun i=>i=τ.g) a w):Ext wl w:=by
 obtain⟨_,_,_,_,c⟩:=h
 exact b.next Q (fun i hi e=>by have e:i=τ.g:=e;omega)
def RetT {α:Type} (τ:Tap) (sh:α→Value) (good:α→Prop) (φ:α→World→Prop) (w:World) (e:Ending) (w':World):Prop:=∃ x,good x∧e=.returned (sh x)∧Fr (fun i=>i=τ.g) w w'∧TOk τ w'∧φ x w'
theorem gS {α:Type}{τ:Tap}{b:α→Value}{a:α→Prop}{φ ψ:α→World→Prop}{w:World}{e:Ending}{w':World}(h:RetT τ b a φ w e w')(d:∀ x,Fr (fun i=>i=τ.g) w w'→φ x w'→BoxT τ.g w w' (ψ x)) :
 ∃ x:{x:α // a x},e=.returned (b x.1)∧Fr (fun i=>i=τ.g) w w'∧BoxT τ.g w w' (fun w=>TOk τ w∧ψ x.1 w):=by
 obtain⟨x,f,rfl,c,j,h⟩:=h
 exact⟨⟨x,f⟩,rfl,c,j.boxT.and (d x c h)⟩
theorem dY (τ:Tap)(wl:World)(n:Int)(w:World)(j:TOld wl τ)(k:Ext wl w)(m:TOk τ w)(a:0<n)(o:n≤1048576) :
 yA 19 #[.pointer (some ⟨τ.g,0,none⟩),.int .i64 n] w (RetT τ (fun v:Nat=>.int .i64 ((v:Nat):Int)) (fun v=>(v:Int)<n) (fun _ _=>True) w):=by
 obtain⟨q,d,r,s,t⟩:=j
 obtain⟨p,u,x⟩:=m
 refine (ZpB τ.g τ.A τ.l τ.c p q n w x u (jE.next d (k.mono (fun _ _ f=>f.elim):Fr (fun i=>i=τ.g) wl w) (d.apart t)) r s a o).mono ?_
 rintro e w' ⟨v,y,rfl,h,z,b⟩
 exact⟨v,h.1,rfl,z,⟨y,h.2,b⟩,trivial⟩
theorem OwnD.tape {w w':World}{m n c k g:Nat}{e:TypeId}{A:qA}{xs:List Value}(h:OwnD w m e k A c n xs)(a:Fr (fun i=>i=g) w w')(b:g<m):OwnD w' m e k A c n xs :=
 h.fr a (fun i hi e=>by have:=(h.blk hi).1;have e:i=g:=e;omega)
theorem TOk.row {w w':World}{τ:Tap}{m n c k:Nat}{e:TypeId}{A:qA}{xs:List Value}(h:TOk τ w)(a:OwnD w m e k A c n xs)(f:τ.g<m)(b:Fr (fun i=>A=some ⟨i,0,none⟩) w w'):TOk τ w' :=
 h.fr b (fun d=>by have:=(a.blk d).1;omega)
theorem TOk.nrb' {w:World}{τ:Tap}(h:TOk τ w):∀ i,i=τ.g→NRB w i:=fun i hi=>by rw[hi];exact h.nrb
theorem SXi.size {N:Nat}{S0:Nat→Prop}{c:World}{s:St}{Φ:World→Prop}{P:Program}{b:Array Oper}{Q:Exit→Act→World→Prop}{i:Nat}(p:Nat→Prop)(e:∀ w,Fr S0 c w→Φ w→p w.heap.size)(K:∀ m1,p m1→SXi P N S0 c b Q i s (fun w=>Φ w∧m1≤w.heap.size)):SXi P N S0 c b Q i s Φ:=fun L a w hi =>
 K w.heap.size (e w hi.mem.ext hi.box.self) L a w ⟨hi.size,hi.df,hi.sl,hi.mem,fun f d=>⟨hi.box f d,d.size⟩⟩
theorem TOld.new {wl:World}{τ:Tap}(h:TOld wl τ):wl.heap.size≤τ.g:=by obtain⟨_,_,_,_,h⟩:=h;exact h
theorem Zro (A:qA)(l c:Nat)(zs:List Int)(a w:World)(b:Nat)(f:jE a A zs)(q:zs.length=l)(i:l≤c)(j:Ext a w)(k:b≤w.heap.size) :
 yA 5 #[.slice A l c] w (lG (fun x:{τ:Tap // TOld a τ∧b≤τ.g}=>.pointer (some ⟨x.1.g,0,none⟩)) (fun x w=>TOk x.1 w) w):=by
 refine (Zrn A l c w i).mono ?_
 rintro e w' ⟨g,rfl,d,Q,m⟩
 refine⟨⟨⟨g,A,min l 400,c⟩,⟨zs.take 400,f.take 400,by rw[uM];show min 400 zs.length=min l 400;omega,by show min l 400≤1000000;omega,uD j.size d⟩,uD k d⟩,rfl,Q,fun S n o p=>?_⟩
 exact TOk.fr (τ:=⟨g,A,min l 400,c⟩) ⟨0,uT _,m⟩ p (fun h=>by have r:g<w.heap.size:=(n _ h).1;omega)
theorem OwnD.boxT {w w':World}{m n c k b:Nat}{e:TypeId}{A:qA}{xs:List Value}(h:OwnD w' w.heap.size e k A c n xs)(_:Fr (fun i=>i=b) w w')(a:m≤w.heap.size):BoxT b w w' (fun v=>OwnD v m e k A c n xs):=fun S d f g=>OwnD.mono (h.fr g (fun i hi j=>by
 have l:=(h.blk hi).1
 have o:=(f i j).1
 omega)) a
theorem Zoh {w:World}{s:Bool}{A:qA}{l c:Nat}{z:Int}(h:zN w (vI2 s A l c) z):xD w (.agg #[.bool s,.slice A l c,.bool false,Ξ]) ((z:Int):Rat):=⟨s,false,A,none,l,c,0,0,rfl,h,zN.nil w⟩
theorem xD.tape {w w':World}{τ:Tap}{v:Value}{z:Rat}(h:xD w v z)(a:TOk τ w)(b:Fr (fun i=>i=τ.g) w w'):xD w' v z:=h.nrb a.nrb' b
theorem xD.rowUp {w w':World}{m n c k:Nat}{e:TypeId}{A:qA}{xs:List Value}{v:Value}{z:Rat}(h:xD w v z)(a:OwnD w m e k A c n xs)(b:Fr (fun i=>A=some ⟨i,0,none⟩) w w'):xD w' v z:=h.nrb (fun _ hi=>a.nrb hi) b
section
variable {w w':World} {m m0 n c k i j:Nat} {e:TypeId} {A A':Option Addr} {l:List Value} {ms rs:List (Mr Qv)} {τ:Tap}
def QMs (w:World) (ms:List (Mr Qv)):Prop:=∀ y∈ms,QsOk w y.xs
theorem setg {α:Type}[Inhabited α]{l:List α}{i a:Nat}{x:α}(ha:a<l.length):(l.set i x)[a]! = if i=a then x else l[a]! := by
 rw[vT _ a (by rw[sQ];exact ha),List.getElem_set,vT l a ha]
def QG (n c:Nat) (ms:List (Mr Qv)) (Z:Nat→Nat→Int):Prop:=ms.length=n∧(∀ a,a<n→ms[a]!.xs.length=c)∧∀ a b,a<n→b<c→ms[a]!.xs[b]!.q=((Z a b:Int):Rat)
structure QIn (m:Nat) (w:World) (A:Option Addr) (cap n:Nat) (rs:List (Mr Qv)):Prop where
 row:∃ mq,OwnD w mq 179 1 A cap n (rs.flatMap mrC)
 rlt:∀ i,A=some ⟨i,0,none⟩→i<m
 rd:∀ y∈rs,RdD 43 4 qvC w y.A y.xs
 qs:QMs w rs
 lt:∀ y∈rs,∀ b off,y.A=some ⟨b,off,none⟩→b<m
end
instance {n c m0:Nat} {Z:Nat→Nat→Int}:Nonempty {x:Nat × List (Mr Qv) // QG n c x.2 Z∧m0≤x.1}:=by
 refine⟨⟨(m0,(List.range n).map (fun a=>⟨none,0,(List.range c).map (fun b=>⟨qv0.c,((Z a b:Int):Rat)⟩)⟩)),⟨by simp,fun a ha=>?_,fun a b ha hb=>?_⟩,uF _⟩⟩
 ·show (((List.range n).map _)[a]! : Mr Qv).xs.length=c
  rw[vT _ a (by simpa using ha)];simp
 show (((List.range n).map _)[a]! : Mr Qv).xs[b]!.q=_
 rw[vT _ a (by simpa using ha),sC,vT _ b (by simpa using hb),sC];simp
theorem Zso (n:Int)(w:World)(g : -9223372036854775808≤n)(h:n≤9223372036854775807) :
 yA 50 #[.int .i64 n] w (Zcc w ((n:Int):Rat)):=by
 refine zV (Φ:=fun w=>True) func50 rfl qK (fun w' q=>trivial) ?_
 refine yY (xq 1 [Δ 2] [Θ 2 43] ?_)
 refine yZ (yY (xq 1 [yJ 3 n] [] ?_))
 refine xqc _ _ 4 wN _ (fun w R Q=>yM kE (aO n _ g h)) fun⟨a,b,d,f⟩=>?_
 refine xq 2 [] [bR4 2 43 a b d f false none 0 0] ?_
 refine yZ (zJ ?_)
 refine yR (.agg #[.bool a,.slice b d f,.bool false,Ξ]) fun w' R Q=>?_
 exact⟨_,rfl,Zoh Q.2,R⟩
theorem Zc2 (τ:Tap)(wl w:World)(C:TOld wl τ)(E:Ext wl w)(F:TOk τ w)(k:Int)(G:0≤k)(J:k≤1000) :
 yA 23 #[.pointer (some ⟨τ.g,0,none⟩),.int .i64 k] w (RetT τ (fun x:ShQ×Int=>iF x.1) (fun x => -k≤x.2∧x.2≤k) (fun x w=>xD w (iF x.1) ((x.2:Int):Rat)) w):=by
 refine Zaz (fun i=>i=τ.g) func23 rfl qK (fun w' H=>F.ext H) ?_
 refine yY (xq 1 [Δ 4] [Θ 4 43] ?_)
 refine yZ (yY (xq 3 [(5,.v (.pointer (some ⟨τ.g,0,none⟩))),yJ 7 (IntKind.i64.wrap (2*k))] [] ?_))
 rw[(show IntKind.i64.wrap (2*k)=2*k by rw[IntKind.wrap_i64];omega)]
 refine xq 1 [yJ 8 (IntKind.i64.wrap ((2*k)+1))] [] ?_
 rw[(show IntKind.i64.wrap (2*k+1)=2*k+1 by rw[IntKind.wrap_i64];omega)]
 refine iV (d:=9) 19 [.pointer (some ⟨τ.g,0,none⟩), yI (2*k+1)] (fun x:{x:Nat // (fun v=>(v:Int)<(2*k+1)) x}=>(fun v=>yI v) x.1) (fun w=>True) (fun x w=>TOk τ w∧(fun _ _=>True) x.1 w) (fun w Q=>TOk.cell Q) (Or.inr rfl) (fun w R Q=>(dY τ wl ((2*k+1)) _ C (C.old E R) Q qO qO).mono (fun _ _ h=>gS h (fun x I h=>fun _ _ _ _=>trivial))) (fun w K R Q I=>trivial) fun⟨a,D⟩=>?_
 refine xr 2 [Δ 4,yJ 11 (IntKind.i64.wrap ((a:Int)-k))] [Θ 4 43] ?_
 rw[(show IntKind.i64.wrap ((a:Int)-k)=(a:Int)-k by rw[IntKind.wrap_i64];omega)]
 refine xqc _ _ 12 iF _ (fun w R Q=>yM Zhk (Zso ((a:Int)-k) _ qO qO)) fun⟨b,f,q,r,s,u,z,B⟩=>?_
 refine xq 1 [] [bR4 4 43 b f q r s u z B] ?_
 refine yZ (zJ ?_)
 refine yR (vR4 b f q r s u z B) fun w' R Q=>?_
 exact⟨(⟨b,f,q,r,s,u,z,B⟩,(a:Int)-k),⟨by show -k≤(a:Int)-k;omega,by show (a:Int)-k≤k;omega⟩,rfl,R,Q.1.2.1,Q.2⟩
theorem xP {N:Nat}{S0:Nat→Prop}{b:World}{P:Program}{a:Array Oper}{Q:Exit→Act→World→Prop}{i d:Nat}{x:AV}{sl:SlL}{f:BlL}{Φ:World→Prop}(K:SXi P N S0 b a Q i (ofL ((d,x) :: sl) f) Φ):SXi P N S0 b a Q i ((ofL sl f).put d x) Φ:=K
theorem xPg {N:Nat}{S0:Nat→Prop}{b:World}{P:Program}{a:Array Oper}{Q:Exit→Act→World→Prop}{Φ0:World→Prop}{n i d:Nat}{x:AV}{sl:SlL}{f:BlL}{Φ:World→Prop}(K:StI P N S0 b a Φ0 Q n i (ofL ((d,x) :: sl) f) Φ):StI P N S0 b a Φ0 Q n i ((ofL sl f).put d x) Φ:=K
structure En where
 b:Int
 r:Int
 c:Int
 v:ByteArray
instance:Inhabited En:=⟨⟨0,0,0,⟨#[]⟩⟩⟩
def enC (e:En):List Value:=[.int .i64 e.b,.int .i64 e.r,.int .i64 e.c,.string e.v]
theorem Zlw (e:En):(enC e).length=4:=rfl
structure Eqn where
 A:Option Addr
 cap:Nat
 es:List En
 fA:Option Addr
 fc:Nat
 fs:List ByteArray
 rhs:ByteArray
instance:Inhabited Eqn:=⟨⟨none,0,[],none,0,[],⟨#[]⟩⟩⟩
def eqC (e:Eqn):List Value:=[.slice e.A e.es.length e.cap,.slice e.fA e.fs.length e.fc,.string e.rhs]
theorem Zrp (e:Eqn):(eqC e).length=3:=rfl
def inC (z:Int):List Value:=[.int .i64 z]
theorem nd2 {a b:Int}{A:qA}{l c:Nat}:∀ (k:IntKind) (z:Int),Value.int k z ∈ [Value.int .i64 a,.int .i64 b,.slice A l c]→k=.i64:=fun k z h=>by
 simp at h;rcases h with h|h<;>exact h.1
theorem nd3 {a b d:Int}{s:ByteArray}:∀ (k:IntKind) (z:Int),Value.int k z ∈ [Value.int .i64 a,.int .i64 b,.int .i64 d,.string s]→k=.i64:=fun k z h=>by
 simp at h;rcases h with h|h|h<;>exact h.1
theorem Zrq (z:Int):(inC z).length=1:=rfl
section
variable {m m' m0 c n k:Nat} {w w':World} {e:TypeId} {A:Option Addr} {l:List Value} {qs:List Eqn} {τ:Tap}
def kH (m:Nat) (w:World) (qs:List Eqn):Prop:=∀ q∈qs,OwnD w m 130 4 q.A q.cap q.es.length (q.es.flatMap enC)∧OwnD w m 9 1 q.fA q.fc q.fs.length (q.fs.flatMap stC)
theorem kH.nil:kH m w []:=fun _ h=>nomatch h
theorem kH.ext (h:kH m w qs)(a:Ext w w'):kH m w' qs:=fun q b=>⟨(h q b).1.ext a,(h q b).2.ext a⟩
theorem kH.apart (h:kH m w qs)(a:OwnD w m' e k A c n l)(b:130≠e∧9≠e)(d:Fr (fun i=>A=some ⟨i,0,none⟩) w w'):kH m w' qs:=fun q f=>⟨(h q f).1.apart a b.1 d,(h q f).2.apart a b.2 d⟩
theorem kH.tape {g:Nat}(h:kH m w qs)(a:Fr (fun i=>i=g) w w')(b:g<m):kH m w' qs:=fun q d=>⟨(h q d).1.tape a b,(h q d).2.tape a b⟩
theorem kH.snoc {q:Eqn}(h:kH m w qs)(b:OwnD w m 130 4 q.A q.cap q.es.length (q.es.flatMap enC))(d:OwnD w m 9 1 q.fA q.fc q.fs.length (q.fs.flatMap stC)):kH m w (qs ++ [q]):=fun x a=>by
 rcases tI.1 a with a|a
 ·exact h x a
 rw[vX.1 a];exact⟨b,d⟩
end
structure Sdp where
 bA:Option Addr
 bc:Nat
 bs:List Int
 free:Int
 oA:Option Addr
 oc:Nat
 os:List En
 fA:Option Addr
 fc:Nat
 fs:List ByteArray
 eA:Option Addr
 ec:Nat
 qs:List Eqn
instance:Inhabited Sdp:=⟨⟨none,0,[],0,none,0,[],none,0,[],none,0,[]⟩⟩
structure SdpOk (m:Nat) (w:World) (p:Sdp):Prop where
 bl:OwnD w m 3 1 p.bA p.bc p.bs.length (p.bs.flatMap inC)
 ob:OwnD w m 130 4 p.oA p.oc p.os.length (p.os.flatMap enC)
 fr:OwnD w m 9 1 p.fA p.fc p.fs.length (p.fs.flatMap stC)
 eq:OwnD w m 76 3 p.eA p.ec p.qs.length (p.qs.flatMap eqC)
 es:kH m w p.qs
section
variable {m m' g:Nat} {w w':World} {p:Sdp}
theorem SdpOk.ext (h:SdpOk m w p)(a:Ext w w'):SdpOk m w' p:=⟨h.bl.ext a,h.ob.ext a,h.fr.ext a,h.eq.ext a,h.es.ext a⟩
end
def Zc3 (a b:En):Prop:=a.b<b.b∨(a.b=b.b∧(a.r<b.r∨(a.r=b.r∧a.c<b.c)))
def NumT (s:ByteArray):Prop:=(xW (bytes s)).isSome=true∧s.size≤60
def EnOk (bs:List Int) (e:En):Prop:=(0≤e.b∧e.b<((bs.length:Nat):Int))∧0≤e.r∧e.r≤e.c∧e.c<bs[e.b.toNat]! ∧ NumT e.v∧¬ bytes e.v=[48]
structure EnsOk (bs:List Int) (l:List En):Prop where
 len:l.length≤1000
 all:∀ e∈l,EnOk bs e
 asc:∀ i,i+1<l.length→Zc3 l[i]! l[i+1]!
structure SdpV (p:Sdp):Prop where
 b0:1≤p.bs.length∧p.bs.length≤64
 b1:∀ b∈p.bs,1≤b∧b≤32
 f0:((p.fs.length:Nat):Int)=p.free∧p.free≤512
 f1:∀ s∈p.fs,NumT s
 o1:EnsOk p.bs p.os
 q0:p.qs.length≤512
 q1:∀ q∈p.qs,((q.fs.length:Nat):Int)=p.free∧EnsOk p.bs q.es∧(∀ s∈q.fs,NumT s)∧NumT q.rhs
section
variable {P:Program} {o:Oper} {ρ:Operand→Value} {w:World} {t e:TypeId} {x:Operand}
theorem ZaY {A:qA}{m c n j:Nat}{zs:List Int}(h:OwnD w m e 1 A c n (zs.flatMap inC))(a:j<zs.length)(d:o.op=Op.load t x:=by kernel_rfl)(f:ρ x=atA A (j*1):=by kernel_rfl)(ha:(teOf P t).map (fun e=>e.agg)=some false:=by kernel_rfl) :
 (execOp ρ o).run P w=.ok (.value (.int .i64 zs[j]!)) w:=by
 have i:=aA Zrq zs j 0 a qD
 obtain⟨b,rfl,_,q⟩:=h.at (v:=.int .i64 zs[j]!) i
 exact kV q d (by rw[f,atA,rK,jW];rfl) ha
end
theorem Zd1 {w w':World}{v:Value}{q:Rat}{b:Nat}(h:xD w' v q)(d:Fr (fun i=>i=b) w w'):BoxT b w w' (fun w=>xD w v q):=fun _ _ e a=>h.nrb (fun i hi=>by
 obtain⟨m,f,t,g,j,k⟩:=e i hi
 exact⟨t,g,j.fr d f,k⟩) a
def tz (z:Int):ByteArray:=⟨(Lib.itoa z).toArray⟩
def TzS (s:ByteArray):Prop:=∃ z:Int,-4≤z∧z≤4∧s=tz z
theorem Zau (z:Int):xF ((z:Int):Rat)=Lib.itoa z:=by
 unfold xF
 rw[nK,uZ rfl,oO]
theorem Zir {z:Int}(h : -4≤z∧z≤4):((z:Int):Rat).num.natAbs<10^1∧1≤140737488355000:=by
 rw[oO];omega
theorem Zis {z:Int}:((z:Int):Rat).den<10^1∧1≤140737488355000:=by
 rw[nK];decide
theorem Zfq (z:Int):((z:Int):Rat).num.sign=z.sign:=by rw[oO]
theorem TzS.num {s:ByteArray}(h:TzS s):NumT s:=by
 obtain⟨z,a,d,rfl⟩:=h
 refine⟨by show (xW (Lib.itoa z)).isSome=true;rw[ZbD];rfl,?_⟩
 show (Lib.itoa z).toArray.size≤60
 rw[pE]
 exact uD (Zk0 (k:=1) qD qO) qD
theorem ZsK {z:Int}(d:z≠0):¬ bytes (tz z)=[48]:=fun e=>by
 have f:Lib.itoa z=Lib.itoa 0:=Eq.trans (show Lib.itoa z=[48] from e) (show [48]=Lib.itoa ((0:Nat):Int) by rw[iB,eZ qO];rfl)
 have a:=uX xW f
 rw[ZbD,ZbD] at a
 injection a with a
 exact d (Rat.intCast_inj.1 a)
theorem ZpC {l:List ByteArray}{z:Int}(h:∀ s∈l,TzS s)(d : -4≤z∧z≤4):∀ s∈l ++ [tz z],TzS s:=fun s a=>by
 rcases tI.1 a with a|a
 ·exact h s a
 exact⟨z,d.1,d.2,vX.1 a⟩
theorem ZpD {l:List Int}{z:Int}(h:∀ s∈l,1≤s∧s≤3)(d:1≤z∧z≤3):∀ s∈l ++ [z],1≤s∧s≤3:=fun s a=>by
 rcases tI.1 a with a|a
 ·exact h s a
 rw[vX.1 a];exact d
def bef (e:En) (b r c:Nat):Prop:=e.b<b∨(e.b=b∧(e.r<r∨(e.r=r∧e.c<c)))
structure EnP (bs:List Int) (l:List En) (b r c:Nat):Prop where
 len:l.length≤9*b+3*r+c
 bf:∀ e∈l,bef e b r c
 ok:∀ e∈l,EnOk bs e
 asc:∀ i,i+1<l.length→Zc3 l[i]! l[i+1]!
section
variable {bs:List Int} {l:List En} {b r c b' r' c':Nat}
theorem EnP.nil:EnP bs [] b r c:=⟨uT _,(fun _ h=>nomatch h),(fun _ h=>nomatch h),fun _ h=>absurd h (Nat.not_lt_zero _)⟩
theorem EnP.mono (h:EnP bs l b r c)(a:∀ {e:En},bef e b r c→bef e b' r' c')(d:9*b+3*r+c≤9*b'+3*r'+c'):EnP bs l b' r' c':=⟨uD h.len d,fun e f=>a (h.bf e f),h.ok,h.asc⟩
theorem EnP.snoc {v:ByteArray}(h:EnP bs l b r c)(f:EnOk bs ⟨((b:Nat):Int),((r:Nat):Int),((c:Nat):Int),v⟩):EnP bs (l ++ [(⟨((b:Nat):Int),((r:Nat):Int),((c:Nat):Int),v⟩:En)]) b r (c+1):=by
 refine⟨by rw[uN];have:=h.len;show l.length+1≤_;omega,fun e a=>?_,fun e a=>?_,fun i hi=>?_⟩
 ·rcases tI.1 a with a|a
  ·have:=h.bf e a;unfold bef at this ⊢;omega
  rw[vX.1 a];unfold bef;dsimp only;omega
 ·rcases tI.1 a with a|a
  ·exact h.ok e a
  rw[vX.1 a];exact f
 rw[uN] at hi
 have hi:i+1<l.length+1:=hi
 have g:(l ++ [(⟨(b:Int),(r:Int),(c:Int),v⟩:En)]).length=l.length+1:=uN
 by_cases d:i+1<l.length
 ·rw[vT _ i qO,vT _ (i+1) qO,qP qO,qP d]
  have:=h.asc i d
  rwa [vT l i qO,vT l (i+1) d] at this
 rw[vT _ i qO,vT _ (i+1) qO,qP qO,oH qO]
 have:=h.bf l[i] (tZ _)
 simp only[List.getElem_singleton]
 unfold bef at this
 unfold Zc3
 dsimp only
 omega
theorem EnP.ens (h:EnP bs l b r c)(a:9*b+3*r+c≤1000):EnsOk bs l:=⟨uD h.len a,h.ok,h.asc⟩
theorem Zp2 {n:Nat}{z:Int}(e:b<bs.length)(d:bs[b]! = ((n:Nat):Int))(f:r≤c)(g:c<n)(a : -4≤z∧z≤4∧z≠0):EnOk bs ⟨((b:Nat):Int),((r:Nat):Int),((c:Nat):Int),tz z⟩:=by
 refine⟨⟨by show (0:Int)≤(b:Int);omega,by show (b:Int)<_;omega⟩,by show (0:Int)≤(r:Int);omega,by show (r:Int)≤(c:Int);omega,?_,TzS.num ⟨z,a.1,a.2.1,rfl⟩,ZsK a.2.2⟩
 show (c:Int)<bs[(b:Int).toNat]!
 rw[qT,d];omega
end
def SdpT (p:Sdp):Prop:=SdpV p∧p.qs.length≤5∧0≤p.free∧p.free≤1∧p.bs.length≤2∧∀ b∈p.bs,1≤b∧b≤3
theorem ZpE {fr:Nat}{l:List Int}{e:List Eqn}{j k:qA}{m n:Nat}{f:List En}{d:List ByteArray}{z:Int}(h:∀ x∈e,x.fs.length=fr∧EnsOk l x.es∧(∀ s∈x.fs,TzS s)∧TzS x.rhs)(o:EnsOk l f)(g:d.length=fr∧∀ s∈d,TzS s)(i : -4≤z∧z≤4):∀ x∈e ++ [(⟨j,m,f,k,n,d,tz z⟩:Eqn)],x.fs.length=fr∧EnsOk l x.es∧(∀ s∈x.fs,TzS s)∧TzS x.rhs:=fun x a=>by
 rcases tI.1 a with a|a
 ·exact h x a
 rw[vX.1 a];exact⟨g.1,o,g.2,⟨z,i.1,i.2,rfl⟩⟩
theorem Zsp {fr:Nat}{A o p t:qA}{cap u v a:Nat}{l:List Int}{j:List En}{d:List ByteArray}{e:List Eqn}(k:1≤l.length∧l.length≤2)(E:fr≤1)(f:∀ z∈l,1≤z∧z≤3)(w:EnsOk l j)(m:d.length=fr∧∀ s∈d,TzS s)(g:e.length≤5)(y:∀ x∈e,x.fs.length=fr∧EnsOk l x.es∧(∀ s∈x.fs,TzS s)∧TzS x.rhs):SdpT ⟨A,cap,l,((fr:Nat):Int),o,u,j,p,v,d,t,a,e⟩:=by
 refine⟨⟨⟨k.1,by show l.length≤64;omega⟩,fun b n=>⟨(f b n).1,by have:=(f b n).2;omega⟩,⟨by show ((d.length:Nat):Int)=_;rw[m.1],by show (fr:Int)≤512;omega⟩,fun s h=>(m.2 s h).num,w,by show e.length≤512;omega,fun q i=>?_⟩,g,by show (0:Int)≤(fr:Int);omega,by show (fr:Int)≤1;omega,k.2,f⟩
 obtain⟨k1,B,C,D⟩:=y q i
 exact⟨by rw[k1],B,fun s h=>(C s h).num,D.num⟩
instance {n:Nat}:Nonempty {x:Option Addr×Nat × List ByteArray // (fun x:Option Addr×Nat × List ByteArray=>x.2.2.length=n∧∀ s∈x.2.2,TzS s) x}:=⟨⟨(none,0,List.replicate n (tz 0)),tH ..,fun s hs=>⟨0,by decide,by decide,(rE.1 hs).2⟩⟩⟩
instance {bs:List Int}:Nonempty {x:Option Addr×Nat × List En // (fun x:Option Addr×Nat × List En=>EnsOk bs x.2.2) x}:=⟨⟨(none,0,[]),⟨uT _,(fun _ h=>nomatch h),fun _ h=>absurd h (Nat.not_lt_zero _)⟩⟩⟩
instance {k:Nat}:Nonempty {v:Nat // (fun v:Nat=>(v:Int)<((k+1:Nat):Int)) v}:=⟨⟨0,by omega⟩⟩
instance:Nonempty {v:Nat // (fun v:Nat=>(v:Int)<2) v}:=⟨⟨0,by decide⟩⟩
instance:Nonempty {v:Nat // (fun v:Nat=>(v:Int)<3) v}:=⟨⟨0,by decide⟩⟩
instance:Nonempty {x:ShQ×Int // (fun x:ShQ×Int => -2≤x.2∧x.2≤2) x}:=⟨⟨(qv0.c,0),by decide⟩⟩
instance:Nonempty {x:ShQ×Int // (fun x:ShQ×Int => -4≤x.2∧x.2≤4) x}:=⟨⟨(qv0.c,0),by decide⟩⟩
theorem Zgu (τ:Tap)(wl w:World)(S:TOld wl τ)(h0:Ext wl w)(T:TOk τ w)(n:Nat)(hn:n≤64) :
 yA 21 #[.pointer (some ⟨τ.g,0,none⟩),.int .i64 ((n:Nat):Int)] w (RetT τ (fun x:Option Addr×Nat × List ByteArray=>.slice x.1 x.2.2.length x.2.1) (fun x=>x.2.2.length=n∧∀ s∈x.2.2,TzS s) (fun x w'=>OwnD w' w.heap.size 9 1 x.1 x.2.1 x.2.2.length (x.2.2.flatMap stC)) w):=by
 obtain⟨m0,f⟩:∃ m,m=w.heap.size:=⟨_,rfl⟩
 have u:τ.g<m0:=f ▸ T.lt
 refine Zaz (fun i=>i=τ.g) func21 rfl qK (fun w' hf=>T.ext hf) ?_
 refine yY (xq 1 [eS1 4 none 0 0] [] ?_)
 refine yZ (yY (xq 1 [eS1 5 none 0 0] [] ?_))
 refine yZ (zD (yY (xq 1 [yJ 6 0] [] ?_)))
 refine yZ (zO ?_)
 refine xI (fun U V W=>∃ (k:Nat) (A:Option Addr) (cap:Nat) (l:List ByteArray),V=ofL [(0,.v (.pointer (some ⟨τ.g,0,none⟩))),yJ 1 n,eS1 4 none 0 0,eS1 5 A k cap,yJ 6 k] []∧W=(fun w=>(TOk τ w∧OwnD w m0 9 1 A cap k (l.flatMap stC)))∧(k≤n)∧(∀ s∈l,TzS s)∧(l.length=k)∧(k=0→A=none)∧U=(1+(n-k))) _ ⟨0,none,0,([]:List ByteArray),rfl,rfl,(uT _),(fun _ h=>nomatch h),rfl,(fun _=>rfl),rfl⟩ (fun w Q=>⟨Q,(OwnD.nil _ _ _ _)⟩) ?_
 rintro U V W ⟨k,A,cap,l,rfl,rfl,hk,X,p,D,rfl⟩
 refine zD (yY (xq 3 [yB 9 (decide ((k:Int)<(n:Int)))] [] ?_))
 refine xe (zB ?_)
 refine yQ ((decide ((k:Int)<(n:Int)))) (fun o=>?_) fun o=>?_
 ·have E:k<n:=by have:=uB o;omega
  refine zG (zB (zD (zO (zC (xq 2 [eS1 12 A k cap,(13,.v (.pointer (some ⟨τ.g,0,none⟩)))] [] ?_)))))
  refine iV (d:=14) 23 [.pointer (some ⟨τ.g,0,none⟩), yI 2] (fun x:{x:ShQ×Int // (fun x => -2≤x.2∧x.2≤2) x}=>(fun x=>iF x.1) x.1) (fun w=>OwnD w m0 9 1 A cap k (l.flatMap stC)) (fun x w=>TOk τ w∧(fun x w=>xD w (iF x.1) ((x.2:Int):Rat)) x.1 w) (fun w Q=>TOk.cell Q.1) (Or.inr rfl) (fun w R Q=>(Zc2 τ wl _ S (S.old h0 R) Q.1 2 qD qD).mono (fun _ _ h=>gS h (fun x q h=>Zd1 h q))) (fun w w2 R Q q=>OwnD.tape Q.2 q u) fun Y=>?_
  obtain⟨⟨⟨F,G,H,I,J,K,L,M⟩,a⟩,y⟩:=Y
  dsimp only at y
  refine xP ?_
  refine xqc _ _ 15 (fun _:Unit=>.string (tz a)) _ (fun w R Q=>(eK _ ((a:Int):Rat) _ Q.2.2 1 1 (Zir qO) Zis).mono (fun _ _ h=>zI h (by rw[Zau];rfl))) fun Y=>?_
  refine yD (d:=16) (fun N:{b:Nat // m0≤b}=>Υ N.1 1) (fun N zw=>Blk 9 zw N.1 #[.string (tz a)]) (fun w R Q=>wA (f ▸ R.size) (t:=24) (sz:=1) (z:=.string ⟨#[]⟩) (parts:=#[(0,Operand.tmp 15)]) qK qK qK qK qK qK) fun⟨O,Z⟩=>?_
  refine xP ?_
  refine ZaS (d:=17) (cap:=cap) (bytes:=16) (t:=24) (e:=9) (s0:=Operand.tmp 12) (x:=Operand.tmp 16) (xs:=l.flatMap stC) (news:=[.string (tz a)]) (z:=(.string ⟨#[]⟩)) m0 A (fun j hj h=>Or.inl (f ▸ h)) O 1 (fun w=>(TOk τ w∧xD w (vR4 F G H I J K L M) (((a:Int):Rat)))) (fun w R Q=>f ▸ R.size) (fun w Q=>Q.1.1.1) (fun w Q=>Blk.news Q.2) rfl qD rfl (wW.list qS) qD (by simp[Value.oneCell']) qS (by simp only[maxLen];omega) qO D (fun w w2 R Q q=>⟨TOk.row Q.1.1.2.1 Q.1.1.1 u q,xD.rowUp Q.1.1.2.2 Q.1.1.1 q⟩) fun B C a0=>?_
  refine xP ?_
  refine xq 1 [eS1 5 B (k+1) C] [] ?_
  refine xe (xK (zB (zC (xq 2 [yJ 11 (IntKind.i64.wrap ((k:Int)+1))] [] ?_))))
  rw[yW ((k:Int)+1) (((k+1:Nat):Int)) qO]
  refine xq 1 [yJ 6 (k+1:Nat)] [] ?_
  refine xe ?_
  exact xC _ qO ⟨(k+1),B,C,(l ++ [tz a]),rfl,rfl,E,(ZpC X qO),(by rw[uN,p];rfl),(fun h=>absurd h (sG _)),rfl⟩ (fun w Q=>⟨Q.1.1,(by rw[vR];exact Q.2)⟩)
 have P:k=n:=by have:=uC o;omega
 refine xJ (zE (zE (xL (zB (yY (xq 2 [eS1 4 A k cap] [] ?_))))))
 refine yZ (zJ ?_)
 refine yR (.slice A k cap) fun w' R Q=>?_
 exact⟨(A,cap,l),⟨p.trans P,X⟩,by rw[←p],R,Q.1,by show OwnD _ _ _ _ _ _ l.length _;rw[p];exact f ▸ Q.2⟩
theorem ZeX (τ:Tap)(wl w:World)(W:TOld wl τ)(h0:Ext wl w)(hT:TOk τ w)(mb:Nat)(X:qA)(U:Nat)(bs:List Int)(hB:OwnD w mb 3 1 X U bs.length (bs.flatMap inC))(Z:τ.g<mb)(k0:∀ z∈bs,1≤z∧z≤3)(y0:bs.length≤2) :
 yA 20 #[.pointer (some ⟨τ.g,0,none⟩),.slice X bs.length U] w (RetT τ (fun x:Option Addr×Nat × List En=>.slice x.1 x.2.2.length x.2.1) (fun x=>EnsOk bs x.2.2) (fun x w'=>OwnD w' w.heap.size 130 4 x.1 x.2.1 x.2.2.length (x.2.2.flatMap enC)) w):=by
 obtain⟨m0,k⟩:∃ m,m=w.heap.size:=⟨_,rfl⟩
 have J:τ.g<m0:=k ▸ hT.lt
 refine Zaz (fun i=>i=τ.g) func20 rfl qK (fun w' hf=>hT.ext hf) ?_
 refine yY (xq 1 [eS1 4 none 0 0] [] ?_)
 refine yZ (yY (xq 1 [eS1 5 none 0 0] [] ?_))
 refine yZ (zD (yY (xq 3 [eS1 11 X bs.length U,yJ 12 bs.length,yJ 13 0] [] ?_)))
 refine yZ (zO ?_)
 refine xI (fun P S T=>∃ (b:Nat) (A:Option Addr) (cap:Nat) (l:List En) (q:Nat),S=ofL [(0,.v (.pointer (some ⟨τ.g,0,none⟩))),eS1 4 none 0 0,eS1 5 A q cap,eS1 11 X bs.length U,yJ 12 bs.length,yJ 13 b] []∧T=(fun w=>(TOk τ w∧OwnD w m0 130 4 A cap q (l.flatMap enC)))∧(b≤bs.length)∧(EnP bs l b 0 0)∧(l.length=0→A=none)∧(l.length=q)∧P=(1+(bs.length-b))) _ ⟨0,none,0,([]:List En),0,rfl,rfl,(uT _),EnP.nil,(fun _=>rfl),rfl,rfl⟩ (fun w Q=>⟨Q,(OwnD.nil _ _ _ _)⟩) ?_
 rintro P S T ⟨b,A,cap,l,q,rfl,rfl,hb,H,f,hq,rfl⟩
 subst hq
 refine yY (xq 1 [yB 14 (decide ((b:Int)<((bs.length:Nat):Int)))] [] ?_)
 refine yZ (zD ?_)
 refine yQ ((decide ((b:Int)<((bs.length:Nat):Int)))) (fun K=>?_) fun K=>?_
 ·have G:b<bs.length:=by have:=uB K;omega
  refine zG (zB (zD (zO (yY (xq 1 [yJ 15 b] [] ?_)))))
  refine xqk 16 _ (fun w R Q=>xM (t:=22) (e:=3) (sz:=1) (x:=.tmp 11) (ix:=.tmp 13) (cap:=U) (i:=b) ((OwnD.tape hB R Z).ne G) G) ?_
  obtain⟨L,I⟩:∃ x,bs[b]! = x:=⟨_,rfl⟩
  refine xqk 17 (yI L) (fun w R Q=>by rw[←I];exact ZaY (t:=3) (x:=.tmp 16) (OwnD.tape hB R Z) G) ?_
  have l0:1≤L∧L≤3:=by rw[←I];exact k0 _ (wJ G)
  obtain⟨n,en⟩:∃ n:Nat,L=(n:Int):=⟨L.toNat,qO⟩
  subst en
  have z0:1≤n∧n≤3:=qO
  refine xq 2 [yJ 6 b,yJ 7 n] [] ?_
  refine yZ (yY (xq 1 [yJ 8 0] [] ?_))
  refine yZ (zO ?_)
  refine xI (fun P S T=>∃ (r:Nat) (A:Option Addr) (cap:Nat) (l:List En) (q:Nat),S=ofL [(0,.v (.pointer (some ⟨τ.g,0,none⟩))),eS1 4 none 0 0,eS1 5 A q cap,yJ 6 b,yJ 7 n,yJ 8 r,eS1 11 X bs.length U,yJ 12 bs.length,yJ 13 b] []∧T=(fun w=>(TOk τ w∧OwnD w m0 130 4 A cap q (l.flatMap enC)))∧(r≤n)∧(EnP bs l b r 0)∧(l.length=0→A=none)∧(l.length=q)∧P=(1+(n-r))) _ ⟨0,A,cap,l,l.length,rfl,rfl,(uT _),H,f,rfl,rfl⟩ (fun w Q=>⟨Q.1,Q.2⟩) ?_
  rintro P S T ⟨r,A,cap,l,q,rfl,rfl,hr,H,f,hq,rfl⟩
  subst hq
  refine zD (yY (xq 3 [yB 20 (decide ((r:Int)<(n:Int)))] [] ?_))
  refine xe (zB ?_)
  refine yQ ((decide ((r:Int)<(n:Int)))) (fun M=>?_) fun M=>?_
  ·have A0:r<n:=by have:=uB M;omega
   refine zG (zB (zD (zO (yY (xq 2 [yJ 9 r] [] ?_)))))
   refine yZ (zO ?_)
   refine xI (fun P S T=>∃ (c:Nat) (A:Option Addr) (cap:Nat) (l:List En) (q:Nat),S=ofL [(0,.v (.pointer (some ⟨τ.g,0,none⟩))),eS1 4 none 0 0,eS1 5 A q cap,yJ 6 b,yJ 7 n,yJ 8 r,yJ 9 c,eS1 11 X bs.length U,yJ 12 bs.length,yJ 13 b] []∧T=(fun w=>(TOk τ w∧OwnD w m0 130 4 A cap q (l.flatMap enC)))∧(r≤c∧c≤n)∧(EnP bs l b r c)∧(l.length=0→A=none)∧(l.length=q)∧P=(1+(n-c))) _ ⟨r,A,cap,l,l.length,rfl,rfl,⟨uF _,qO⟩,(EnP.mono H (by unfold bef;omega) qO),f,rfl,rfl⟩ (fun w Q=>⟨Q.1,Q.2⟩) ?_
   rintro P S T ⟨c,A,cap,l,q,rfl,rfl,hc,H,f,hq,rfl⟩
   subst hq
   refine zD (yY (xq 3 [yB 26 (decide ((c:Int)<(n:Int)))] [] ?_))
   refine xe (zB ?_)
   refine yQ ((decide ((c:Int)<(n:Int)))) (fun N=>?_) fun N=>?_
   ·have O:c<n:=by have:=uB N;omega
    refine zG (zB (zD (zO (yY (xq 1 [(29,.v (.pointer (some ⟨τ.g,0,none⟩)))] [] ?_)))))
    refine iV (d:=30) 23 [.pointer (some ⟨τ.g,0,none⟩), yI 2] (fun x:{x:ShQ×Int // (fun x => -2≤x.2∧x.2≤2) x}=>(fun x=>iF x.1) x.1) (fun w=>OwnD w m0 130 4 A cap l.length (l.flatMap enC)) (fun x w=>TOk τ w∧(fun x w=>xD w (iF x.1) ((x.2:Int):Rat)) x.1 w) (fun w Q=>TOk.cell Q.1) (Or.inr rfl) (fun w R Q=>(Zc2 τ wl _ W (W.old h0 R) Q.1 2 qD qD).mono (fun _ _ h=>gS h (fun x o h=>Zd1 h o))) (fun w w2 R Q o=>OwnD.tape Q.2 o J) fun Y=>?_
    obtain⟨⟨⟨s,u,y,B,C,D,E,F⟩,a⟩,a0⟩:=Y
    dsimp only at a0
    refine xP ?_
    refine xq 2 [Δ 10] [bR4 10 43 s u y B C D E F] ?_
    refine yZ (yY (xq 1 [eR4 31 s u y B C D E F] [] ?_))
    rcases Int.lt_trichotomy a 0 with hz|hz|hz
    ·refine xqc _ _ 32 (fun _:Unit=>yI (-1)) _ (fun w R Q=>(cS _ _ _ Q.2.2).mono (fun _ _ h=>zI h (by rw[Zfq,pA hz]))) fun Y=>?_
     refine xq 3 [yB 34 true,(35,.v (.pointer (some ⟨τ.g,0,none⟩)))] [] ?_
     refine iV (d:=36) 19 [.pointer (some ⟨τ.g,0,none⟩), yI 2] (fun x:{x:Nat // (fun v=>(v:Int)<2) x}=>(fun v=>yI v) x.1) (fun w=>(OwnD w m0 130 4 A cap l.length (l.flatMap enC)∧xD w (vR4 s u y B C D E F) (((a:Int):Rat)))) (fun x w=>TOk τ w∧(fun _ _=>True) x.1 w) (fun w Q=>TOk.cell Q.1.2.1) (Or.inr rfl) (fun w R Q=>(dY τ wl (2) _ W (W.old h0 R) Q.1.2.1 qO qO).mono (fun _ _ h=>gS h (fun x o h=>fun _ _ _ _=>trivial))) (fun w w2 R Q o=>⟨OwnD.tape Q.1.1 o J,xD.tape Q.1.2.2 Q.1.2.1 o⟩) fun⟨b0,q0⟩=>?_
     refine xP ?_
     refine xq 2 [yB 38 (((b0:Int):Int) == 0)] [] ?_
     refine xe (zB ?_)
     refine yQ ((((b0:Int):Int) == 0)) (fun c0=>?_) fun c0=>?_
     ·refine zC (xq 5 [eS1 39 A l.length cap,yJ 40 b,yJ 41 r,yJ 42 c,eR4 43 s u y B C D E F] [] ?_)
      refine xqc _ _ 44 (fun _:Unit=>.string (tz a)) _ (fun w R Q=>(eK _ ((a:Int):Rat) _ Q.1.2 1 1 (Zir qO) Zis).mono (fun _ _ h=>zI h (by rw[Zau];rfl))) fun Y=>?_
      refine xq 1 [(45,.v (.agg #[yI b, yI r, yI c,.string (tz a)]))] [] ?_
      refine yD (d:=46) (fun V:{b:Nat // m0≤b}=>Υ V.1 1) (fun V zw=>Blk 130 zw V.1 #[yI b, yI r, yI c,.string (tz a)]) (fun w R Q=>wA (k ▸ R.size) (t:=23) (sz:=4) (z:=.agg #[yI 0, yI 0, yI 0,.string ⟨#[]⟩]) (parts:=#[(0,Operand.tmp 45)]) qK qK qK qK qK qK) fun⟨n0,r0⟩=>?_
      refine xP ?_
      have o0:=H.len
      refine ZaS (d:=47) (cap:=cap) (bytes:=40) (t:=23) (e:=130) (s0:=Operand.tmp 39) (x:=Operand.tmp 46) (xs:=l.flatMap enC) (news:=[yI b, yI r, yI c,.string (tz a)]) (z:=(.agg #[yI 0, yI 0, yI 0,.string ⟨#[]⟩])) m0 A (fun j hj h=>Or.inl (k ▸ h)) n0 1 (fun w=>(xD w (vR4 s u y B C D E F) (((a:Int):Rat))∧TOk τ w)) (fun w R Q=>k ▸ R.size) (fun w Q=>Q.1.1.1.1) (fun w Q=>Blk.news Q.2) rfl qD rfl (wW.list qS) qD (by simp[Value.oneCell']) nd3 (by simp only[maxLen];omega) qO f (fun w w2 R Q o=>⟨xD.rowUp Q.1.1.1.2 Q.1.1.1.1 o,TOk.row Q.1.1.2.1 Q.1.1.1.1 J o⟩) fun d0 e0 t0=>?_
      refine xP ?_
      refine xq 1 [eS1 5 d0 (l.length+1) e0] [] ?_
      refine xe (xK (zB (zC (xq 2 [yJ 28 (IntKind.i64.wrap ((c:Int)+1))] [] ?_))))
      rw[yW ((c:Int)+1) (((c+1:Nat):Int)) qO]
      refine xq 1 [yJ 9 (c+1:Nat)] [] ?_
      refine xe ?_
      exact xC _ qO ⟨(c+1),d0,e0,(l ++ [(⟨(b:Int),(r:Int),(c:Int),tz a⟩:En)]),(l.length+1),rfl,rfl,⟨qO,O⟩,(EnP.snoc H (Zp2 G I hc.1 qO qO)),(fun h=>by rw[uN] at h;simp at h),uN,rfl⟩ (fun w Q=>⟨Q.1.2,(by rw[vR];exact Q.2)⟩)
     refine zG (xK (zB (zC (xq 2 [yJ 28 (IntKind.i64.wrap ((c:Int)+1))] [] ?_))))
     rw[yW ((c:Int)+1) (((c+1:Nat):Int)) qO]
     refine xq 1 [yJ 9 (c+1:Nat)] [] ?_
     refine xe ?_
     exact xC _ qO ⟨(c+1),A,cap,l,l.length,rfl,rfl,⟨qO,O⟩,(EnP.mono H (by unfold bef;omega) qO),f,rfl,rfl⟩ (fun w Q=>⟨Q.2.1,Q.1.1⟩)
    ·refine xqc _ _ 32 (fun _:Unit=>yI (0)) _ (fun w R Q=>(cS _ _ _ Q.2.2).mono (fun _ _ h=>zI h (by rw[Zfq,sO.2 hz]))) fun Y=>?_
     refine xq 6 [yB 38 false] [] ?_
     refine yZ (xb (zG (xK (zB (zC (xq 2 [yJ 28 (IntKind.i64.wrap ((c:Int)+1))] [] ?_))))))
     rw[yW ((c:Int)+1) (((c+1:Nat):Int)) qO]
     refine xq 1 [yJ 9 (c+1:Nat)] [] ?_
     refine xe ?_
     exact xC _ qO ⟨(c+1),A,cap,l,l.length,rfl,rfl,⟨qO,O⟩,(EnP.mono H (by unfold bef;omega) qO),f,rfl,rfl⟩ (fun w Q=>⟨Q.1.2.1,Q.1.1⟩)
    refine xqc _ _ 32 (fun _:Unit=>yI (1)) _ (fun w R Q=>(cS _ _ _ Q.2.2).mono (fun _ _ h=>zI h (by rw[Zfq,qB hz]))) fun Y=>?_
    refine xq 3 [yB 34 true,(35,.v (.pointer (some ⟨τ.g,0,none⟩)))] [] ?_
    refine iV (d:=36) 19 [.pointer (some ⟨τ.g,0,none⟩), yI 2] (fun x:{x:Nat // (fun v=>(v:Int)<2) x}=>(fun v=>yI v) x.1) (fun w=>(OwnD w m0 130 4 A cap l.length (l.flatMap enC)∧xD w (vR4 s u y B C D E F) (((a:Int):Rat)))) (fun x w=>TOk τ w∧(fun _ _=>True) x.1 w) (fun w Q=>TOk.cell Q.1.2.1) (Or.inr rfl) (fun w R Q=>(dY τ wl (2) _ W (W.old h0 R) Q.1.2.1 qO qO).mono (fun _ _ h=>gS h (fun x o h=>fun _ _ _ _=>trivial))) (fun w w2 R Q o=>⟨OwnD.tape Q.1.1 o J,xD.tape Q.1.2.2 Q.1.2.1 o⟩) fun⟨f0,u0⟩=>?_
    refine xP ?_
    refine xq 2 [yB 38 (((f0:Int):Int) == 0)] [] ?_
    refine xe (zB ?_)
    refine yQ ((((f0:Int):Int) == 0)) (fun g0=>?_) fun g0=>?_
    ·refine zC (xq 5 [eS1 39 A l.length cap,yJ 40 b,yJ 41 r,yJ 42 c,eR4 43 s u y B C D E F] [] ?_)
     refine xqc _ _ 44 (fun _:Unit=>.string (tz a)) _ (fun w R Q=>(eK _ ((a:Int):Rat) _ Q.1.2 1 1 (Zir qO) Zis).mono (fun _ _ h=>zI h (by rw[Zau];rfl))) fun Y=>?_
     refine xq 1 [(45,.v (.agg #[yI b, yI r, yI c,.string (tz a)]))] [] ?_
     refine yD (d:=46) (fun V:{b:Nat // m0≤b}=>Υ V.1 1) (fun V zw=>Blk 130 zw V.1 #[yI b, yI r, yI c,.string (tz a)]) (fun w R Q=>wA (k ▸ R.size) (t:=23) (sz:=4) (z:=.agg #[yI 0, yI 0, yI 0,.string ⟨#[]⟩]) (parts:=#[(0,Operand.tmp 45)]) qK qK qK qK qK qK) fun⟨p0,v0⟩=>?_
     refine xP ?_
     have o0:=H.len
     refine ZaS (d:=47) (m:=1) (cap:=cap) (bytes:=40) (t:=23) (e:=130) (s0:=Operand.tmp 39) (x:=Operand.tmp 46) (xs:=l.flatMap enC) (news:=[yI b, yI r, yI c,.string (tz a)]) (z:=(.agg #[yI 0, yI 0, yI 0,.string ⟨#[]⟩])) m0 A (fun j hj h=>Or.inl (k ▸ h)) p0 1 (fun w=>(xD w (vR4 s u y B C D E F) (((a:Int):Rat))∧TOk τ w)) (fun w R Q=>k ▸ R.size) (fun w Q=>Q.1.1.1.1) (fun w Q=>Blk.news Q.2) rfl qD rfl (wW.list qS) qD (by simp[Value.oneCell']) nd3 (by simp only[maxLen];omega) qO f (fun w w2 R Q o=>⟨xD.rowUp Q.1.1.1.2 Q.1.1.1.1 o,TOk.row Q.1.1.2.1 Q.1.1.1.1 J o⟩) fun i0 j0 w0=>?_
     refine xP ?_
     refine xq 1 [eS1 5 i0 (l.length+1) j0] [] ?_
     refine xe (xK (zB (zC (xq 2 [yJ 28 (IntKind.i64.wrap ((c:Int)+1))] [] ?_))))
     rw[yW ((c:Int)+1) (((c+1:Nat):Int)) qO]
     refine xq 1 [yJ 9 (c+1:Nat)] [] ?_
     refine xe ?_
     exact xC _ qO ⟨(c+1),i0,j0,(l ++ [(⟨(b:Int),(r:Int),(c:Int),tz a⟩:En)]),(l.length+1),rfl,rfl,⟨qO,O⟩,(EnP.snoc H (Zp2 G I hc.1 qO qO)),(fun h=>by rw[uN] at h;simp at h),uN,rfl⟩ (fun w Q=>⟨Q.1.2,(by rw[vR];exact Q.2)⟩)
    refine zG (xK (zB (zC (xq 2 [yJ 28 (IntKind.i64.wrap ((c:Int)+1))] [] ?_))))
    rw[yW ((c:Int)+1) (((c+1:Nat):Int)) qO]
    refine xq 1 [yJ 9 (c+1:Nat)] [] ?_
    refine xe ?_
    exact xC _ qO ⟨(c+1),A,cap,l,l.length,rfl,rfl,⟨qO,O⟩,(EnP.mono H (by unfold bef;omega) qO),f,rfl,rfl⟩ (fun w Q=>⟨Q.2.1,Q.1.1⟩)
   have B0:c=n:=by have:=uC N;omega
   refine xJ (zE (zE (xL (xK (zB (zC (xq 2 [yJ 22 (IntKind.i64.wrap ((r:Int)+1))] [] ?_)))))))
   rw[yW ((r:Int)+1) (((r+1:Nat):Int)) qO]
   refine xq 1 [yJ 8 (r+1:Nat)] [] ?_
   refine xe ?_
   exact xC _ qO ⟨(r+1),A,cap,l,l.length,rfl,rfl,qO,(EnP.mono H (by unfold bef;omega) qO),f,rfl,rfl⟩ (fun w Q=>⟨Q.1,Q.2⟩)
  have C0:r=n:=by have:=uC M;omega
  refine xJ (zE (zE (xL (xK (zB (zC (xq 1 [yJ 48 (IntKind.i64.wrap ((b:Int)+1))] [] ?_)))))))
  rw[yW ((b:Int)+1) (((b+1:Nat):Int)) qO]
  refine xq 1 [yJ 13 (b+1:Nat)] [] ?_
  refine xe ?_
  exact xC _ qO ⟨(b+1),A,cap,l,l.length,rfl,rfl,G,(EnP.mono H (by unfold bef;omega) qO),f,rfl,rfl⟩ (fun w Q=>⟨Q.1,Q.2⟩)
 have x0:b=bs.length:=by have:=uC K;omega
 refine xJ (zE (zE (xL (zB (yY (xq 2 [eS1 4 A l.length cap] [] ?_))))))
 refine yZ (zJ ?_)
 refine yR (.slice A l.length cap) fun w' R Q=>?_
 exact⟨(A,cap,l),EnP.ens H qO,rfl,R,Q.1,k ▸ Q.2⟩
theorem Zkw (τ:Tap)(wl w:World)(O:TOld wl τ)(h0:Ext wl w)(hT:TOk τ w)(a:Nat)(E0:a≤1) :
 yA 6 #[.pointer (some ⟨τ.g,0,none⟩),.int .i64 1,.int .i64 ((a:Nat):Int)] w (RetT τ (fun p:Sdp=>.agg #[.slice p.bA p.bs.length p.bc,.int .i64 p.free,.slice p.oA p.os.length p.oc,.slice p.fA p.fs.length p.fc,.slice p.eA p.qs.length p.ec]) SdpT (fun p w'=>SdpOk w.heap.size w' p) w):=by
 obtain⟨m0,J⟩:∃ m,m=w.heap.size:=⟨_,rfl⟩
 have k:τ.g<m0:=J ▸ hT.lt
 refine Zaz (fun i=>i=τ.g) func6 rfl qK (fun w' hf=>hT.ext hf) ?_
 refine yY (xq 1 [Δ 6] [(6,27,[Ω,Γ 0,Ω,Ω,Ω])] ?_)
 refine yZ (yY (xq 3 [(10,.v (.pointer (some ⟨τ.g,0,none⟩))),yJ 12 (IntKind.i64.wrap (1+1))] [] ?_))
 rw[(show IntKind.i64.wrap (1+1)=2 by decide)]
 refine iV (d:=13) 19 [.pointer (some ⟨τ.g,0,none⟩), yI 2] (fun x:{x:Nat // (fun v=>(v:Int)<2) x}=>(fun v=>yI v) x.1) (fun w=>True) (fun x w=>TOk τ w∧(fun _ _=>True) x.1 w) (fun w Q=>TOk.cell Q) (Or.inr rfl) (fun w R Q=>(dY τ wl (2) _ O (O.old h0 R) Q qO qO).mono (fun _ _ h=>gS h (fun x o h=>fun _ _ _ _=>trivial))) (fun w w2 R Q o=>trivial) fun⟨C,w0⟩=>?_
 refine xP ?_
 refine xq 3 [Δ 7] [(7,27,[Ω,Γ C,Ω,Ω,Ω])] ?_
 refine yZ (zD (yY (xq 1 [(15,.v (.pointer (some ⟨τ.g,0,none⟩)))] [] ?_)))
 refine iV (d:=16) 19 [.pointer (some ⟨τ.g,0,none⟩), yI 2] (fun x:{x:Nat // (fun v=>(v:Int)<2) x}=>(fun v=>yI v) x.1) (fun w=>True) (fun x w=>TOk τ w∧(fun _ _=>True) x.1 w) (fun w Q=>TOk.cell Q.2.1) (Or.inr rfl) (fun w R Q=>(dY τ wl (2) _ O (O.old h0 R) Q.2.1 qO qO).mono (fun _ _ h=>gS h (fun x o h=>fun _ _ _ _=>trivial))) (fun w w2 R Q o=>trivial) fun⟨v11,x0⟩=>?_
 refine xP ?_
 obtain⟨n0,F0⟩:∃ n:Nat,n=1+v11:=⟨_,rfl⟩
 refine xq 1 [yJ 17 (IntKind.i64.wrap (1+(v11:Int)))] [] ?_
 rw[(show IntKind.i64.wrap (1+(v11:Int))=(n0:Int) by rw[IntKind.wrap_i64];omega)]
 refine xq 1 [yJ 8 n0] [] ?_
 refine yZ (zO ?_)
 refine xI (fun nn ss ff=>∃ (j:Nat) (A:Option Addr) (cap:Nat) (l:List Int) (q:Nat),ss=ofL [(0,.v (.pointer (some ⟨τ.g,0,none⟩))),yJ 2 a,Δ 6,Δ 7,yJ 8 j] [(7,27,[Λ A q cap,Γ C,Ω,Ω,Ω]),(6,27,[Ω,Γ 0,Ω,Ω,Ω])]∧ff=(fun w=>(TOk τ w∧OwnD w m0 3 1 A cap q (l.flatMap inC)))∧(j+l.length=n0)∧(∀ z∈l,1≤z∧z≤3)∧(l.length=0→A=none)∧(l.length=q)∧nn=(1+j)) _ ⟨n0,none,0,([]:List Int),0,rfl,rfl,(tE _),(fun _ h=>nomatch h),(fun _=>rfl),rfl,rfl⟩ (fun w Q=>⟨Q.2.1,(OwnD.nil _ _ _ _)⟩) ?_
 rintro nn ss ff ⟨j,A,cap,l,q,rfl,rfl,hj,hl,g0,hq,rfl⟩
 subst hq
 refine zD (yY (xq 2 [yB 19 (decide ((j:Int)>0))] [] ?_))
 refine xe (zB ?_)
 refine yQ ((decide ((j:Int)>0))) (fun V=>?_) fun V=>?_
 ·have G0:0<j:=by have:=uB V;omega
  refine zG (zB (zD (zO ?_)))
  refine yO 6 zQ ?_
  refine xqg 3 [eS1 23 A l.length cap,(24,.v (.pointer (some ⟨τ.g,0,none⟩)))] ?_
  refine Zc1 25 19 [.pointer (some ⟨τ.g,0,none⟩), yI 3] (fun x:{x:Nat // (fun v=>(v:Int)<3) x}=>(fun v=>yI v) x.1) (fun w=>OwnD w m0 3 1 A cap l.length (l.flatMap inC)) (fun x w=>TOk τ w∧(fun _ _=>True) x.1 w) (fun w Q=>TOk.cell Q.1) (Or.inr rfl) (fun w R Q=>(dY τ wl (3) _ O (O.old h0 R) Q.1 qO qO).mono (fun _ _ h=>gS h (fun x o h=>fun _ _ _ _=>trivial))) (fun w w2 R Q o=>OwnD.tape Q.2 o k) (fun x w Q=>⟨Q.2.1,Q.1⟩) fun⟨S,y0⟩=>?_
  refine xPg ?_
  refine xqg 1 [yJ 26 (IntKind.i64.wrap (1+(S:Int)))] ?_
  rw[(show IntKind.i64.wrap (1+(S:Int))=((1+S:Nat):Int) by rw[IntKind.wrap_i64];omega)]
  refine gI 27 (fun zb:{b:Nat // m0≤b}=>Υ zb.1 1) (fun zb zw=>Blk 3 zw zb.1 #[yI (1+S:Nat)]) qK qK qK qK qK qK qK (fun w R Q=>wA (J ▸ R.size) (t:=22) (sz:=1) (z:=yI 0) (parts:=#[(0,Operand.tmp 26)]) qK qK qK qK qK qK) fun⟨i0,z0⟩=>?_
  refine xPg ?_
  refine xz ?_
  refine ZaS (d:=28) (m:=1) (cap:=cap) (bytes:=8) (t:=22) (e:=3) (s0:=Operand.tmp 23) (x:=Operand.tmp 27) (xs:=l.flatMap inC) (news:=[yI (1+S:Nat)]) (z:=(yI 0)) m0 A (fun j hj h=>Or.inl (J ▸ h)) i0 1 (fun w=>TOk τ w) (fun w R Q=>J ▸ R.size) (fun w Q=>Q.1.1) (fun w Q=>Blk.news Q.2) rfl qD rfl (wW.list qS) qD (by simp[Value.oneCell']) qS (by simp only[maxLen];omega) qO g0 (fun w w2 R Q o=>TOk.row Q.1.2.1 Q.1.1 k o) fun b0 c0 A0=>?_
  refine xP ?_
  refine xq 2 [] [(7,27,[Λ b0 (l.length+1) c0,Γ C,Ω,Ω,Ω])] ?_
  refine xe (xK (zB (zC (xq 2 [yJ 21 (IntKind.i64.wrap ((j:Int)-1))] [] ?_))))
  rw[(show IntKind.i64.wrap ((j:Int)-1)=((j-1:Nat):Int) by rw[IntKind.wrap_i64];omega)]
  refine xq 1 [yJ 8 (j-1:Nat)] [] ?_
  refine xe ?_
  exact xC _ qO ⟨(j-1),b0,c0,(l ++ [((1+S:Nat):Int)]),(l.length+1),rfl,rfl,(by rw[uN];show j-1+(l.length+1)=n0;omega),(ZpD hl qO),(fun h=>by rw[uN] at h;simp at h),uN,rfl⟩ (fun w Q=>⟨Q.1,(by rw[vR];exact Q.2)⟩)
 have H0:j=0:=by have:=uC V;omega
 refine xJ (zE (zE (xL (zB (yY (xq 3 [(30,.v (.pointer (some ⟨τ.g,0,none⟩))),eS1 32 A l.length cap] [] ?_))))))
 refine iV (d:=33) 20 [.pointer (some ⟨τ.g,0,none⟩),.slice A l.length cap] (fun x:{x:Option Addr×Nat × List En // (fun x=>EnsOk l x.2.2) x}=>(fun x=>.slice x.1 x.2.2.length x.2.1) x.1) (fun w=>OwnD w m0 3 1 A cap l.length (l.flatMap inC)) (fun x w=>TOk τ w∧(fun x w=>OwnD w m0 130 4 x.1 x.2.1 x.2.2.length (x.2.2.flatMap enC)) x.1 w) (fun w Q=>TOk.cell Q.1) (Or.inr rfl) (fun w R Q=>(ZeX τ wl _ O (O.old h0 R) Q.1 m0 A cap l Q.2 k hl qO).mono (fun _ _ h=>gS h (fun x o h=>OwnD.boxT h o (J ▸ R.size)))) (fun w w2 R Q o=>OwnD.tape Q.2 o k) fun xx=>?_
 obtain⟨⟨y,B,f⟩,W⟩:=xx
 dsimp only at W
 refine xP ?_
 refine xq 2 [] [(7,27,[Λ A l.length cap,Γ C,Λ y f.length B,Ω,Ω])] ?_
 refine yZ (yY (xq 3 [(35,.v (.pointer (some ⟨τ.g,0,none⟩))),yJ 37 C] [] ?_))
 refine iV (d:=38) 21 [.pointer (some ⟨τ.g,0,none⟩), yI C] (fun x:{x:Option Addr×Nat × List ByteArray // (fun x=>x.2.2.length=C∧∀ s∈x.2.2,TzS s) x}=>(fun x=>.slice x.1 x.2.2.length x.2.1) x.1) (fun w=>(OwnD w m0 3 1 A cap l.length (l.flatMap inC)∧OwnD w m0 130 4 y B f.length (f.flatMap enC))) (fun x w=>TOk τ w∧(fun x w=>OwnD w m0 9 1 x.1 x.2.1 x.2.2.length (x.2.2.flatMap stC)) x.1 w) (fun w Q=>TOk.cell Q.2.1) (Or.inr rfl) (fun w R Q=>(Zgu τ wl _ O (O.old h0 R) Q.2.1 C qO).mono (fun _ _ h=>gS h (fun x o h=>OwnD.boxT h o (J ▸ R.size)))) (fun w w2 R Q o=>⟨OwnD.tape Q.1 o k,OwnD.tape Q.2.2 o k⟩) fun xx=>?_
 obtain⟨⟨D,E,u⟩,X⟩:=xx
 dsimp only at X
 refine xP ?_
 refine xq 2 [] [(7,27,[Λ A l.length cap,Γ C,Λ y f.length B,Λ D u.length E,Ω])] ?_
 refine yZ (zD (yY (xq 4 [yJ 40 a,(41,.v (.pointer (some ⟨τ.g,0,none⟩))),yJ 43 (IntKind.i64.wrap (5-(a:Int)))] [] ?_)))
 rw[(show IntKind.i64.wrap (5-(a:Int))=((5-a:Nat):Int) by rw[IntKind.wrap_i64];omega)]
 refine iV (d:=44) 19 [.pointer (some ⟨τ.g,0,none⟩), yI (5-a:Nat)] (fun x:{x:Nat // (fun v=>(v:Int)<((5-a:Nat):Int)) x}=>(fun v=>yI v) x.1) (fun w=>((OwnD w m0 3 1 A cap l.length (l.flatMap inC)∧OwnD w m0 130 4 y B f.length (f.flatMap enC))∧OwnD w m0 9 1 D E u.length (u.flatMap stC))) (fun x w=>TOk τ w∧(fun _ _=>True) x.1 w) (fun w Q=>TOk.cell Q.2.1) (Or.inr rfl) (fun w R Q=>(dY τ wl (((5-a:Nat):Int)) _ O (O.old h0 R) Q.2.1 qO qO).mono (fun _ _ h=>gS h (fun x o h=>fun _ _ _ _=>trivial))) (fun w w2 R Q o=>⟨⟨OwnD.tape Q.1.1 o k,OwnD.tape Q.1.2 o k⟩,OwnD.tape Q.2.2 o k⟩) fun⟨T,B0⟩=>?_
 refine xP ?_
 refine xq 1 [yJ 45 (IntKind.i64.wrap ((a:Int)+(T:Int)))] [] ?_
 rw[(show IntKind.i64.wrap ((a:Int)+(T:Int))=((a+T:Nat):Int) by rw[IntKind.wrap_i64];omega)]
 refine xq 1 [yJ 9 (a+T:Nat)] [] ?_
 refine yZ (zO ?_)
 refine xI (fun nn ss ff=>∃ (i:Nat) (U:Option Addr) (F:Nat) (H:List Eqn) (q:Nat),ss=ofL [(0,.v (.pointer (some ⟨τ.g,0,none⟩))),Δ 6,Δ 7,yJ 9 i] [(7,27,[Λ A l.length cap,Γ C,Λ y f.length B,Λ D u.length E,Λ U q F]),(6,27,[Ω,Γ 0,Ω,Ω,Ω])]∧ff=(fun w=>(((((TOk τ w∧OwnD w m0 3 1 A cap l.length (l.flatMap inC))∧OwnD w m0 130 4 y B f.length (f.flatMap enC))∧OwnD w m0 9 1 D E u.length (u.flatMap stC))∧OwnD w m0 76 3 U F q (H.flatMap eqC))∧kH m0 w H))∧(i+H.length≤5)∧(∀ x∈H,x.fs.length=C∧EnsOk l x.es∧(∀ s∈x.fs,TzS s)∧TzS x.rhs)∧(H.length=0→U=none)∧(H.length=q)∧nn=(1+i)) _ ⟨(a+T),none,0,([]:List Eqn),0,rfl,rfl,(by show a+T+0≤5;omega),(fun _ h=>nomatch h),(fun _=>rfl),rfl,rfl⟩ (fun w Q=>⟨⟨⟨⟨⟨Q.2.1,Q.1.1.1⟩,Q.1.1.2⟩,Q.1.2⟩,(OwnD.nil _ _ _ _)⟩,kH.nil⟩) ?_
 rintro nn ss ff ⟨i,U,F,H,q,rfl,rfl,hi,hQ,j0,hq,rfl⟩
 subst hq
 refine zD (yY (xq 2 [yB 47 (decide ((i:Int)>0))] [] ?_))
 refine xe (zB ?_)
 refine yQ ((decide ((i:Int)>0))) (fun Y=>?_) fun Y=>?_
 ·have I0:0<i:=by have:=uB Y;omega
  refine zG (zB (zD (zO ?_)))
  refine kR 15 [0,1,0,0,8,28,0,0,128,508,0,2044,4092,8188,16380] qK qK zQ ?_
  refine xqg 5 [eS1 51 U H.length F,(52,.v (.pointer (some ⟨τ.g,0,none⟩))),eS1 54 A l.length cap] ?_
  refine Zc1 55 20 [.pointer (some ⟨τ.g,0,none⟩),.slice A l.length cap] (fun x:{x:Option Addr×Nat × List En // (fun x=>EnsOk l x.2.2) x}=>(fun x=>.slice x.1 x.2.2.length x.2.1) x.1) (fun w=>((((OwnD w m0 3 1 A cap l.length (l.flatMap inC)∧OwnD w m0 130 4 y B f.length (f.flatMap enC))∧OwnD w m0 9 1 D E u.length (u.flatMap stC))∧OwnD w m0 76 3 U F H.length (H.flatMap eqC))∧kH m0 w H)) (fun x w=>TOk τ w∧(fun x w=>OwnD w m0 130 4 x.1 x.2.1 x.2.2.length (x.2.2.flatMap enC)) x.1 w) (fun w Q=>TOk.cell Q.1.1.1.1.1) (Or.inr rfl) (fun w R Q=>(ZeX τ wl _ O (O.old h0 R) Q.1.1.1.1.1 m0 A cap l Q.1.1.1.1.2 k hl qO).mono (fun _ _ h=>gS h (fun x o h=>OwnD.boxT h o (J ▸ R.size)))) (fun w w2 R Q o=>⟨⟨⟨⟨OwnD.tape Q.1.1.1.1.2 o k,OwnD.tape Q.1.1.1.2 o k⟩,OwnD.tape Q.1.1.2 o k⟩,OwnD.tape Q.1.2 o k⟩,kH.tape Q.2 o k⟩) (fun x w Q=>⟨⟨⟨⟨⟨Q.2.1,Q.1.1.1.1.1⟩,Q.1.1.1.1.2⟩,Q.1.1.1.2⟩,Q.1.1.2⟩,Q.1.2⟩) fun xx=>?_
  obtain⟨⟨K,L,G⟩,Z⟩:=xx
  dsimp only at Z
  refine xPg ?_
  refine xqg 3 [(56,.v (.pointer (some ⟨τ.g,0,none⟩))),yJ 58 C] ?_
  refine Zc1 59 21 [.pointer (some ⟨τ.g,0,none⟩), yI C] (fun x:{x:Option Addr×Nat × List ByteArray // (fun x=>x.2.2.length=C∧∀ s∈x.2.2,TzS s) x}=>(fun x=>.slice x.1 x.2.2.length x.2.1) x.1) (fun w=>(((((OwnD w m0 3 1 A cap l.length (l.flatMap inC)∧OwnD w m0 130 4 y B f.length (f.flatMap enC))∧OwnD w m0 9 1 D E u.length (u.flatMap stC))∧OwnD w m0 76 3 U F H.length (H.flatMap eqC))∧kH m0 w H)∧OwnD w m0 130 4 K L G.length (G.flatMap enC))) (fun x w=>TOk τ w∧(fun x w=>OwnD w m0 9 1 x.1 x.2.1 x.2.2.length (x.2.2.flatMap stC)) x.1 w) (fun w Q=>TOk.cell Q.2.1) (Or.inr rfl) (fun w R Q=>(Zgu τ wl _ O (O.old h0 R) Q.2.1 C qO).mono (fun _ _ h=>gS h (fun x o h=>OwnD.boxT h o (J ▸ R.size)))) (fun w w2 R Q o=>⟨⟨⟨⟨⟨OwnD.tape Q.1.1.1.1.1 o k,OwnD.tape Q.1.1.1.1.2 o k⟩,OwnD.tape Q.1.1.1.2 o k⟩,OwnD.tape Q.1.1.2 o k⟩,kH.tape Q.1.2 o k⟩,OwnD.tape Q.2.2 o k⟩) (fun x w Q=>⟨⟨⟨⟨⟨Q.2.1,Q.1.1.1.1.1.1⟩,Q.1.1.1.1.1.2⟩,Q.1.1.1.1.2⟩,Q.1.1.1.2⟩,Q.1.1.2⟩) fun xx=>?_
  obtain⟨⟨M,N,I⟩,a0⟩:=xx
  dsimp only at a0
  refine xPg ?_
  refine xqg 1 [(60,.v (.pointer (some ⟨τ.g,0,none⟩)))] ?_
  refine Zc1 61 23 [.pointer (some ⟨τ.g,0,none⟩), yI 4] (fun x:{x:ShQ×Int // (fun x => -4≤x.2∧x.2≤4) x}=>(fun x=>iF x.1) x.1) (fun w=>((((((OwnD w m0 3 1 A cap l.length (l.flatMap inC)∧OwnD w m0 130 4 y B f.length (f.flatMap enC))∧OwnD w m0 9 1 D E u.length (u.flatMap stC))∧OwnD w m0 76 3 U F H.length (H.flatMap eqC))∧kH m0 w H)∧OwnD w m0 130 4 K L G.length (G.flatMap enC))∧OwnD w m0 9 1 M N I.length (I.flatMap stC))) (fun x w=>TOk τ w∧(fun x w=>xD w (iF x.1) ((x.2:Int):Rat)) x.1 w) (fun w Q=>TOk.cell Q.2.1) (Or.inr rfl) (fun w R Q=>(Zc2 τ wl _ O (O.old h0 R) Q.2.1 4 qD qD).mono (fun _ _ h=>gS h (fun x o h=>Zd1 h o))) (fun w w2 R Q o=>⟨⟨⟨⟨⟨⟨OwnD.tape Q.1.1.1.1.1.1 o k,OwnD.tape Q.1.1.1.1.1.2 o k⟩,OwnD.tape Q.1.1.1.1.2 o k⟩,OwnD.tape Q.1.1.1.2 o k⟩,kH.tape Q.1.1.2 o k⟩,OwnD.tape Q.1.2 o k⟩,OwnD.tape Q.2.2 o k⟩) (fun x w Q=>⟨⟨⟨⟨⟨Q.2.1,Q.1.1.1.1.1.1.1⟩,Q.1.1.1.1.1.1.2⟩,Q.1.1.1.1.1.2⟩,Q.1.1.1.1.2⟩,Q.1.1.1.2⟩) fun xx=>?_
  obtain⟨⟨⟨k0,l0,o0,p0,q0,r0,t0,u0⟩,P⟩,d0⟩:=xx
  dsimp only at d0
  refine xPg ?_
  refine xqd _ _ 62 (fun _:Unit=>.string (tz P)) _ (fun w R Q=>(eK _ ((P:Int):Rat) _ Q.2.2 1 1 (Zir qO) Zis).mono (fun _ _ h=>zI h (by rw[Zau];rfl))) fun xx=>?_
  refine xqg 1 [(63,.v (.agg #[.slice K G.length L,.slice M I.length N,.string (tz P)]))] ?_
  refine gI 64 (fun zb:{b:Nat // m0≤b}=>Υ zb.1 1) (fun zb zw=>Blk 76 zw zb.1 #[.slice K G.length L,.slice M I.length N,.string (tz P)]) qK qK qK qK qK qK qK (fun w R Q=>wA (J ▸ R.size) (t:=25) (sz:=3) (z:=.agg #[Ξ,Ξ,.string ⟨#[]⟩]) (parts:=#[(0,Operand.tmp 63)]) qK qK qK qK qK qK) fun⟨v0,C0⟩=>?_
  refine xPg ?_
  refine xz ?_
  refine ZaS (d:=65) (m:=1) (cap:=F) (bytes:=64) (t:=25) (e:=76) (s0:=Operand.tmp 51) (x:=Operand.tmp 64) (xs:=H.flatMap eqC) (news:=[.slice K G.length L,.slice M I.length N,.string (tz P)]) (z:=(.agg #[Ξ,Ξ,.string ⟨#[]⟩])) m0 U (fun j hj h=>Or.inl (J ▸ h)) v0 1 (fun w=>(((((((OwnD w m0 3 1 A cap l.length (l.flatMap inC)∧OwnD w m0 130 4 y B f.length (f.flatMap enC))∧OwnD w m0 9 1 D E u.length (u.flatMap stC))∧kH m0 w H)∧OwnD w m0 130 4 K L G.length (G.flatMap enC))∧OwnD w m0 9 1 M N I.length (I.flatMap stC))∧TOk τ w)∧xD w (vR4 k0 l0 o0 p0 q0 r0 t0 u0) (((P:Int):Rat)))) (fun w R Q=>J ▸ R.size) (fun w Q=>Q.1.1.1.1.1.1.2) (fun w Q=>Blk.news Q.2) rfl qD rfl (wW.list qS) qD (by simp[Value.oneCell']) qS (by simp only[maxLen];omega) qO j0 (fun w w2 R Q o=>⟨⟨⟨⟨⟨⟨⟨OwnD.apart Q.1.1.1.1.1.1.1.1.1 Q.1.1.1.1.1.1.2 qD o,OwnD.apart Q.1.1.1.1.1.1.1.1.2 Q.1.1.1.1.1.1.2 qD o⟩,OwnD.apart Q.1.1.1.1.1.1.1.2 Q.1.1.1.1.1.1.2 qD o⟩,kH.apart Q.1.1.1.1.1.2 Q.1.1.1.1.1.1.2 qD o⟩,OwnD.apart Q.1.1.1.1.2 Q.1.1.1.1.1.1.2 qD o⟩,OwnD.apart Q.1.1.1.2 Q.1.1.1.1.1.1.2 qD o⟩,TOk.row Q.1.1.2.1 Q.1.1.1.1.1.1.2 k o⟩,xD.rowUp Q.1.1.2.2 Q.1.1.1.1.1.1.2 o⟩) fun e0 f0 D0=>?_
  refine xP ?_
  refine xq 2 [] [(7,27,[Λ A l.length cap,Γ C,Λ y f.length B,Λ D u.length E,Λ e0 (H.length+1) f0])] ?_
  refine xe (xK (zB (zC (xq 2 [yJ 49 (IntKind.i64.wrap ((i:Int)-1))] [] ?_))))
  rw[(show IntKind.i64.wrap ((i:Int)-1)=((i-1:Nat):Int) by rw[IntKind.wrap_i64];omega)]
  refine xq 1 [yJ 9 (i-1:Nat)] [] ?_
  refine xe ?_
  exact xC _ qO ⟨(i-1),e0,f0,(H ++ [(⟨K,L,G,M,N,I,tz P⟩:Eqn)]),(H.length+1),rfl,rfl,(by rw[uN];show i-1+(H.length+1)≤5;omega),(ZpE hQ Z a0 qO),(fun h=>by rw[uN] at h;simp at h),uN,rfl⟩ (fun w Q=>⟨⟨⟨⟨⟨Q.1.1.2,Q.1.1.1.1.1.1.1.1⟩,Q.1.1.1.1.1.1.1.2⟩,Q.1.1.1.1.1.1.2⟩,(by rw[vR];exact Q.2)⟩,(kH.snoc Q.1.1.1.1.1.2 Q.1.1.1.1.2 Q.1.1.1.2)⟩)
 have J0:i=0:=by have:=uC Y;omega
 refine xJ (zE (zE (xL (zB (yY (xq 2 [] [(6,27,[Λ A l.length cap,Γ C,Λ y f.length B,Λ D u.length E,Λ U H.length F])] ?_))))))
 refine yZ (zJ ?_)
 refine yR (.agg #[.slice A l.length cap, yI C,.slice y f.length B,.slice D u.length E,.slice U H.length F]) fun w' R Q=>?_
 exact⟨⟨A,cap,l,(C:Int),y,B,f,D,E,u,U,F,H⟩,Zsp qO qO hl W X qO hQ,rfl,R,Q.1.1.1.1.1,J ▸ ⟨Q.1.1.1.1.2,Q.1.1.1.2,Q.1.1.2,Q.1.2,Q.2⟩⟩
theorem Zid (a b:En)(w:World)(f:Zc3 a b) :
 yA 103 #[.agg #[.int .i64 a.b,.int .i64 a.r,.int .i64 a.c,.string a.v],.agg #[.int .i64 b.b,.int .i64 b.r,.int .i64 b.c,.string b.v]] w (RetV w (.bool true)):=by
 refine zV (Φ:=fun w=>True) func103 rfl qK (fun w' i=>trivial) ?_
 refine yY (xq 3 [Δ 2,Δ 3,yB 4 false] [(3,130,[Γ b.b,Γ b.r,Γ b.c,.v (.string b.v)]),(2,130,[Γ a.b,Γ a.r,Γ a.c,.v (.string a.v)])] ?_)
 refine yZ (zD (yY (xq 5 [yB 9 ((a.b:Int) != b.b)] [] ?_)))
 refine xe (zB ?_)
 refine yQ (((a.b:Int) != b.b)) (fun d=>?_) fun d=>?_
 ·have g:a.b≠b.b:=by simpa using d
  refine yY (xq 6 [yB 4 (decide (a.b<b.b))] [] ?_)
  refine yZ (zJ (zM ?_))
  refine yR (.bool (decide (a.b<b.b))) fun w' R Q=>?_
  exact⟨uX (fun b=>Ending.returned (.bool b)) (vP (by unfold Zc3 at f;omega)),R⟩
 have g:a.b=b.b:=by simpa using d
 refine zG (zB (zD (yY (xq 5 [yB 19 ((a.r:Int) != b.r)] [] ?_))))
 refine xe (zB ?_)
 refine yQ (((a.r:Int) != b.r)) (fun e=>?_) fun e=>?_
 ·have h:a.r≠b.r:=by simpa using e
  refine yY (xq 6 [yB 4 (decide (a.r<b.r))] [] ?_)
  refine yZ (zJ (zM ?_))
  refine yR (.bool (decide (a.r<b.r))) fun w' R Q=>?_
  exact⟨uX (fun b=>Ending.returned (.bool b)) (vP (by unfold Zc3 at f;omega)),R⟩
 have h:a.r=b.r:=by simpa using e
 refine zG (zB (yY (xq 6 [yB 4 (decide (a.c<b.c))] [] ?_)))
 refine yZ (zJ ?_)
 refine yR (.bool (decide (a.c<b.c))) fun w' R Q=>?_
 exact⟨uX (fun b=>Ending.returned (.bool b)) (vP (by unfold Zc3 at f;omega)),R⟩
theorem Zdc (z B:Nat)(A m:qA)(cap l:Nat)(a:List En)(bs:List Int)(w:World)(E:Glob w)(M:OwnD w z 130 4 A cap a.length (a.flatMap enC))(N:OwnD w B 3 1 m l bs.length (bs.flatMap inC))(C:EnsOk bs a) :
 yA 61 #[.slice A a.length cap,.slice m bs.length l] w (RetV w (.bool true)):=by
 have T:=C.len
 refine zV (Φ:=fun w=>(OwnD w z 130 4 A cap a.length (a.flatMap enC)∧OwnD w B 3 1 m l bs.length (bs.flatMap inC))) func61 rfl qK (fun w' F=>⟨M.ext F,N.ext F⟩) ?_
 refine yY (xq 1 [yB 4 false] [] ?_)
 refine yZ (zD (yY (xq 3 [eS1 7 A a.length cap,yJ 8 a.length,yJ 9 0] [] ?_)))
 refine yZ (zO ?_)
 refine xI (fun G H I=>∃ (k:Nat),H=ofL [eS1 0 A a.length cap,eS1 1 m bs.length l,yB 4 false,eS1 7 A a.length cap,yJ 8 a.length,yJ 9 k] []∧I=(fun w=>(OwnD w z 130 4 A cap a.length (a.flatMap enC)∧OwnD w B 3 1 m l bs.length (bs.flatMap inC)))∧(k≤a.length)∧G=(1+(a.length-k))) _ ⟨0,rfl,rfl,(uT _),rfl⟩ (fun w Q=>⟨Q.1,Q.2⟩) ?_
 rintro G H I ⟨k,rfl,rfl,U,rfl⟩
 refine yY (xq 1 [yB 10 (decide ((k:Int)<((a.length:Nat):Int)))] [] ?_)
 refine yZ (zD ?_)
 refine yQ ((decide ((k:Int)<((a.length:Nat):Int)))) (fun g=>?_) fun g=>?_
 ·have f:k<a.length:=by have:=uB g;omega
  refine zG (zB (zD (zO (yY (xq 1 [yJ 11 k] [] ?_)))))
  refine xqk 12 _ (fun w R Q=>xM (t:=23) (e:=130) (sz:=4) (x:=.tmp 7) (ix:=.tmp 9) (len:=a.length) (cap:=cap) (i:=k) (Q.1.ne f) f) ?_
  obtain⟨x11,j⟩:∃ x,a[k]! = x:=⟨_,rfl⟩
  refine xqk 13 (.agg #[yI x11.b, yI x11.r, yI x11.c,.string x11.v]) (fun w R Q=>by rw[←j];exact wX (t:=130) (x:=.tmp 12) Q.1 Zlw f) ?_
  have s:EnOk bs x11:=by rw[←j];exact C.all _ (wJ f)
  obtain⟨⟨V,O⟩,W,X,J,y,K⟩:=s
  obtain⟨q,D⟩:∃ q:Nat,x11.b=(q:Int):=⟨x11.b.toNat,qO⟩
  rw[D] at O J
  rw[qT] at J
  have Y:q<bs.length:=qO
  rw[D]
  refine xq 3 [yJ 5 k,Δ 6] [(6,130,[Γ q,Γ x11.r,Γ x11.c,.v (.string x11.v)])] ?_
  refine yZ (zD (zD ?_))
  refine kR 32 [0,1,3,7,15,31,15,79,255,511,1023,2047,4095,8191,16383,32767,65535,131071,65535,327679,1048575,2097151,4194303,8388607,16777215,8388607,8388607,75497471,243269631,511705087,1073741823,2147483647] qK qK zQ ?_
  refine xqg 3 [yB 16 (decide ((q:Int)<0))] ?_
  rw[(show decide ((q:Int)<0)=false from uR qO)]
  refine xqg 6 [yB 17 false,yB 22 (decide ((q:Int)≥((bs.length:Nat):Int)))] ?_
  rw[(show decide ((q:Int)≥((bs.length:Nat):Int))=false from uR qO)]
  refine xqg 5 [yB 24 false,yB 27 (decide (x11.r<0))] ?_
  rw[(show decide (x11.r<0)=false from uR qO)]
  refine xqg 7 [yB 29 false,yB 34 (decide (x11.r>x11.c))] ?_
  rw[(show decide (x11.r>x11.c)=false from uR qO)]
  refine xqg 7 [yB 36 false,yJ 38 x11.c,eS1 39 m bs.length l,yJ 41 q] ?_
  refine xqj 42 _ (fun w Q=>xM (t:=22) (e:=3) (sz:=1) (x:=.tmp 39) (ix:=.tmp 41) (len:=bs.length) (cap:=l) (Q.2.ne qO) qO) ?_
  obtain⟨x12,n⟩:∃ x,bs[q]! = x:=⟨_,rfl⟩
  refine xqj 43 (yI x12) (fun w Q=>by rw[←n];exact ZaY (t:=3) (x:=.tmp 42) Q.2 qO) ?_
  have u:¬ x11.c≥x12:=by rw[←n];omega
  refine xqg 1 [yB 44 (decide (x11.c≥x12))] ?_
  rw[(show decide (x11.c≥x12)=false from uR u)]
  refine xqg 1 [yB 45 false] ?_
  refine xz (yZ (xb (zG (zB (zD ?_)))))
  by_cases P:0<k
  ·refine kR 23 [0,1,3,7,7,23,63,127,7,511,1023,2047,4095,8191,16383,32767,65535,131071,262143,524287,1048575,2097151,4194303] qK qK zQ ?_
   refine xqg 2 [yB 47 (decide ((k:Int)>0))] ?_
   rw[(show decide ((k:Int)>0)=true from vP qO)]
   refine xqg 4 [yB 48 true,eS1 49 A a.length cap,yJ 51 (IntKind.i64.wrap ((k:Int)-1))] ?_
   rw[(show IntKind.i64.wrap ((k:Int)-1)=((k-1:Nat):Int) by rw[IntKind.wrap_i64];omega)]
   refine xqj 52 _ (fun w Q=>xM (t:=23) (e:=130) (sz:=4) (x:=.tmp 49) (ix:=.tmp 51) (len:=a.length) (cap:=cap) (i:=k-1) (Q.1.ne qO) qO) ?_
   obtain⟨d,o⟩:∃ x,a[k-1]! = x:=⟨_,rfl⟩
   refine xqj 53 (.agg #[yI d.b, yI d.r, yI d.c,.string d.v]) (fun w Q=>by rw[←o];exact wX (t:=130) (x:=.tmp 52) Q.1 Zlw qO) ?_
   refine xqg 1 [(54,.v (.agg #[yI q, yI x11.r, yI x11.c,.string x11.v]))] ?_
   refine xqd 103 [.agg #[yI d.b, yI d.r, yI d.c,.string d.v],.agg #[yI q, yI x11.r, yI x11.c,.string x11.v]] 55 (fun _:Unit=>.bool true) _ (fun w R Q=>yN ((show Calls _ _ _ _ (RetV _ (.bool true)) by rw[←D];exact Zid d x11 _ (by have h:=C.asc (k-1) qO;rw[o,show k-1+1=k by omega,j] at h;exact h)))) fun L=>?_
   refine xqg 5 [yB 58 false,yT 60 x11.v] ?_
   refine xqd _ _ 61 (fun _:Unit=>.bool true) _ (fun w R Q=>(jT x11.v _ (E.ext R) (uD (nB rfl) (uD y.2 qD))).mono (fun _ _ h=>zI h (by rw[y.1]))) fun L=>?_
   refine xqg 6 [yB 64 false,yB 67 ((x11.v:ByteArray).toList == (⟨#[48]⟩:ByteArray).toList)] ?_
   rw[Zch K]
   refine xqg 1 [yB 68 false] ?_
   refine xz (yZ (xb (zG (xK (zB (zC (xr 1 [eS1 0 A a.length cap,eS1 1 m bs.length l,yB 4 false,eS1 7 A a.length cap,yJ 8 a.length,yJ 9 k,yJ 69 (IntKind.i64.wrap ((k:Int)+1))] [] ?_)))))))
   rw[yW ((k:Int)+1) (((k+1:Nat):Int)) qO]
   refine xq 1 [yJ 9 (k+1:Nat)] [] ?_
   refine xe ?_
   exact xC _ qO ⟨(k+1),rfl,rfl,f,rfl⟩ (fun w Q=>⟨Q.1.1.1,Q.1.1.2⟩)
  refine kR 23 [0,1,3,7,7,23,63,127,7,511,1023,2047,4095,8191,16383,32767,65535,131071,262143,524287,1048575,2097151,4194303] qK qK zQ ?_
  refine xqg 2 [yB 47 (decide ((k:Int)>0))] ?_
  rw[(show decide ((k:Int)>0)=false from uR qO)]
  refine xqg 13 [yB 58 false,yT 60 x11.v] ?_
  refine xqd _ _ 61 (fun _:Unit=>.bool true) _ (fun w R Q=>(jT x11.v _ (E.ext R) (uD (nB rfl) (uD y.2 qD))).mono (fun _ _ h=>zI h (by rw[y.1]))) fun L=>?_
  refine xqg 6 [yB 64 false,yB 67 ((x11.v:ByteArray).toList == (⟨#[48]⟩:ByteArray).toList)] ?_
  rw[Zch K]
  refine xqg 1 [yB 68 false] ?_
  refine xz (yZ (xb (zG (xK (zB (zC (xr 1 [eS1 0 A a.length cap,eS1 1 m bs.length l,yB 4 false,eS1 7 A a.length cap,yJ 8 a.length,yJ 9 k,yJ 69 (IntKind.i64.wrap ((k:Int)+1))] [] ?_)))))))
  rw[yW ((k:Int)+1) (((k+1:Nat):Int)) qO]
  refine xq 1 [yJ 9 (k+1:Nat)] [] ?_
  refine xe ?_
  exact xC _ qO ⟨(k+1),rfl,rfl,f,rfl⟩ (fun w Q=>⟨Q.1.1,Q.1.2⟩)
 have S:k=a.length:=by have:=uC g;omega
 refine xJ (zE (zE (xL (zB (yY (xq 1 [yB 4 true] [] ?_))))))
 refine yZ (zJ ?_)
 refine yR (.bool true) fun w' R Q=>?_
 exact⟨rfl,R⟩
theorem ZeY (g:Nat)(A:qA)(cap:Nat)(a:List ByteArray)(w:World)(m:Glob w)(n:OwnD w g 9 1 A cap a.length (a.flatMap stC))(o:∀ s∈a,NumT s)(r:a.length≤100000) :
 yA 62 #[.slice A a.length cap] w (RetV w (.bool true)):=by
 refine zV (Φ:=fun w=>OwnD w g 9 1 A cap a.length (a.flatMap stC)) func62 rfl qK (fun w' p=>n.ext p) ?_
 refine yY (xq 1 [yB 2 false] [] ?_)
 refine yZ (zD (yY (xq 3 [eS1 5 A a.length cap,yJ 6 a.length,yJ 7 0] [] ?_)))
 refine yZ (zO ?_)
 refine xI (fun i j l=>∃ (k:Nat),j=ofL [yB 2 false,eS1 5 A a.length cap,yJ 6 a.length,yJ 7 k] []∧l=(fun w=>OwnD w g 9 1 A cap a.length (a.flatMap stC))∧(k≤a.length)∧i=(1+(a.length-k))) _ ⟨0,rfl,rfl,(uT _),rfl⟩ (fun w Q=>Q) ?_
 rintro i j l ⟨k,rfl,rfl,u,rfl⟩
 refine yY (xq 1 [yB 8 (decide ((k:Int)<((a.length:Nat):Int)))] [] ?_)
 refine yZ (zD ?_)
 refine yQ ((decide ((k:Int)<((a.length:Nat):Int)))) (fun b=>?_) fun b=>?_
 ·have c:k<a.length:=by have:=uB b;omega
  refine zG (zB (zD (zO (zD (zC ?_)))))
  refine xqk 9 _ (fun w R Q=>xM (t:=24) (e:=9) (sz:=1) (x:=.tmp 5) (ix:=.tmp 7) (len:=a.length) (cap:=cap) (Q.ne c) c) ?_
  obtain⟨x11,f⟩:∃ x,a[k]! = x:=⟨_,rfl⟩
  refine xqk 10 (.string x11) (fun w R Q=>by rw[←f];exact Zpe (t:=9) (x:=.tmp 9) (Zrg Q) c) ?_
  have d:NumT x11:=by rw[←f];exact o _ (wJ c)
  refine xq 1 [yT 4 x11] [] ?_
  refine yZ (yY (xq 1 [yT 11 x11] [] ?_))
  refine xqc _ _ 12 (fun _:Unit=>.bool true) _ (fun w R Q=>(jT x11 _ (m.ext R) (uD (nB rfl) (uD d.2 qD))).mono (fun _ _ h=>zI h (by rw[d.1]))) fun v=>?_
  refine xq 1 [yB 13 false] [] ?_
  refine yZ (xb (zG (xK (zB (zC (xq 1 [yJ 14 (IntKind.i64.wrap ((k:Int)+1))] [] ?_))))))
  rw[yW ((k:Int)+1) (((k+1:Nat):Int)) qO]
  refine xq 1 [yJ 7 (k+1:Nat)] [] ?_
  refine xe ?_
  exact xC _ qO ⟨(k+1),rfl,rfl,c,rfl⟩ (fun w Q=>Q.1)
 have q:k=a.length:=by have:=uC b;omega
 refine xJ (zE (zE (xL (zB (yY (xq 1 [yB 2 true] [] ?_))))))
 refine yZ (zJ ?_)
 refine yR (.bool true) fun w' R Q=>?_
 exact⟨rfl,R⟩
theorem dZ (m:Nat)(p:Sdp)(w:World)(n:Glob w)(o:SdpOk m w p)(i:SdpV p) :
 yA 25 #[.agg #[.slice p.bA p.bs.length p.bc,.int .i64 p.free,.slice p.oA p.os.length p.oc,.slice p.fA p.fs.length p.fc,.slice p.eA p.qs.length p.ec]] w (RetV w (.bool true)):=by
 have F:=i.b0
 have G:=i.f0
 have H:=i.q0
 refine zV (Φ:=fun w=>((((OwnD w m 3 1 p.bA p.bc p.bs.length (p.bs.flatMap inC)∧OwnD w m 130 4 p.oA p.oc p.os.length (p.os.flatMap enC))∧OwnD w m 9 1 p.fA p.fc p.fs.length (p.fs.flatMap stC))∧OwnD w m 76 3 p.eA p.ec p.qs.length (p.qs.flatMap eqC))∧kH m w p.qs)) func25 rfl qK (fun w' q=>⟨⟨⟨⟨o.bl.ext q,o.ob.ext q⟩,o.fr.ext q⟩,o.eq.ext q⟩,o.es.ext q⟩) ?_
 refine yY (xq 2 [Δ 1,yB 2 false] [(1,27,[Λ p.bA p.bs.length p.bc,Γ p.free,Λ p.oA p.os.length p.oc,Λ p.fA p.fs.length p.fc,Λ p.eA p.qs.length p.ec])] ?_)
 refine yZ (zD (yY (xq 4 [yB 10 (decide (((p.bs.length:Nat):Int)<1))] [] ?_)))
 rw[(show decide (((p.bs.length:Nat):Int)<1)=false from uR qO)]
 refine xq 5 [yB 11 false,yB 15 (decide (((p.bs.length:Nat):Int)>64))] [] ?_
 rw[(show decide (((p.bs.length:Nat):Int)>64)=false from uR qO)]
 refine xq 5 [yB 17 false,yB 20 (decide (p.free<0))] [] ?_
 rw[(show decide (p.free<0)=false from uR qO)]
 refine xq 5 [yB 22 false,yB 25 (decide (p.free>512))] [] ?_
 rw[(show decide (p.free>512)=false from uR qO)]
 refine xq 6 [yB 27 false,yB 31 (decide (((p.qs.length:Nat):Int)>512))] [] ?_
 rw[(show decide (((p.qs.length:Nat):Int)>512)=false from uR qO)]
 refine xq 1 [yB 32 false] [] ?_
 refine yZ (xb (zG (zB (zD (yY (xq 4 [eS1 34 p.bA p.bs.length p.bc,yJ 35 p.bs.length,yJ 36 0] [] ?_))))))
 refine yZ (zO ?_)
 refine xI (fun r s u=>∃ (k:Nat),s=ofL [Δ 1,yB 2 false,eS1 34 p.bA p.bs.length p.bc,yJ 35 p.bs.length,yJ 36 k] [(1,27,[Λ p.bA p.bs.length p.bc,Γ p.free,Λ p.oA p.os.length p.oc,Λ p.fA p.fs.length p.fc,Λ p.eA p.qs.length p.ec])]∧u=(fun w=>((((OwnD w m 3 1 p.bA p.bc p.bs.length (p.bs.flatMap inC)∧OwnD w m 130 4 p.oA p.oc p.os.length (p.os.flatMap enC))∧OwnD w m 9 1 p.fA p.fc p.fs.length (p.fs.flatMap stC))∧OwnD w m 76 3 p.eA p.ec p.qs.length (p.qs.flatMap eqC))∧kH m w p.qs))∧(k≤p.bs.length)∧r=(1+(p.bs.length-k))) _ ⟨0,rfl,rfl,(uT _),rfl⟩ (fun w Q=>⟨⟨⟨⟨Q.1.1.1.1,Q.1.1.1.2⟩,Q.1.1.2⟩,Q.1.2⟩,Q.2⟩) ?_
 rintro r s u ⟨k,rfl,rfl,I,rfl⟩
 refine yY (xq 1 [yB 37 (decide ((k:Int)<((p.bs.length:Nat):Int)))] [] ?_)
 refine yZ (zD ?_)
 refine yQ ((decide ((k:Int)<((p.bs.length:Nat):Int)))) (fun f=>?_) fun f=>?_
 ·have y:=uB f
  have b:k<p.bs.length:=qO
  refine zG (zB (zD (zO (zD (zC ?_)))))
  refine xqk 38 _ (fun w R Q=>xM (t:=22) (e:=3) (sz:=1) (x:=.tmp 34) (ix:=.tmp 36) (len:=p.bs.length) (cap:=p.bc) (Q.1.1.1.1.ne b) b) ?_
  obtain⟨c,j⟩:∃ x,p.bs[k]! = x:=⟨_,rfl⟩
  refine xqk 39 (yI c) (fun w R Q=>by rw[←j];exact ZaY (t:=3) (x:=.tmp 38) Q.1.1.1.1 b) ?_
  have C:1≤c∧c≤32:=by rw[←j];exact i.b1 _ (wJ b)
  refine xq 1 [yJ 4 c] [] ?_
  refine yZ (yY (xq 2 [yB 41 (decide (c<1))] [] ?_))
  rw[(show decide (c<1)=false from uR qO)]
  refine xq 3 [yB 42 false,yB 44 (decide (c>32))] [] ?_
  rw[(show decide (c>32)=false from uR qO)]
  refine xq 1 [yB 45 false] [] ?_
  refine yZ (xb (zG (xK (zB (zC (xq 1 [yJ 46 (IntKind.i64.wrap ((k:Int)+1))] [] ?_))))))
  rw[yW ((k:Int)+1) (((k+1:Nat):Int)) qO]
  refine xq 1 [yJ 36 (k+1:Nat)] [] ?_
  refine xe ?_
  exact xC _ qO ⟨(k+1),rfl,rfl,b,rfl⟩ (fun w Q=>⟨⟨⟨⟨Q.1.1.1.1,Q.1.1.1.2⟩,Q.1.1.2⟩,Q.1.2⟩,Q.2⟩)
 have z:=uC f
 have D:k=p.bs.length:=qO
 refine xJ (zE (zE (xL (zB (zD (yY (xq 6 [yB 52 ((((p.fs.length:Nat):Int):Int) != p.free)] [] ?_)))))))
 rw[(show ((((p.fs.length:Nat):Int):Int) != p.free)=false from iC i.f0.1)]
 refine xq 5 [yB 53 false,eS1 55 p.oA p.os.length p.oc,eS1 57 p.bA p.bs.length p.bc] [] ?_
 refine xqc _ _ 58 (fun _:Unit=>.bool true) _ (fun w R Q=>yN (Zdc m m p.oA p.bA p.oc p.bc p.os p.bs _ (n.ext R) Q.1.1.1.2 Q.1.1.1.1 i.o1)) fun B=>?_
 refine xq 5 [yB 61 false,eS1 63 p.fA p.fs.length p.fc] [] ?_
 refine xqc _ _ 64 (fun _:Unit=>.bool true) _ (fun w R Q=>yN (ZeY m p.fA p.fc p.fs _ (n.ext R) Q.1.1.1.2 i.f1 qO)) fun B=>?_
 refine xq 2 [yB 66 false] [] ?_
 refine yZ (xb (zG (zB (zD (yY (xq 4 [eS1 68 p.eA p.qs.length p.ec,yJ 69 p.qs.length,yJ 70 0] [] ?_))))))
 refine yZ (zO ?_)
 refine xI (fun r s u=>∃ (k:Nat),s=ofL [Δ 1,yB 2 false,eS1 68 p.eA p.qs.length p.ec,yJ 69 p.qs.length,yJ 70 k] [(1,27,[Λ p.bA p.bs.length p.bc,Γ p.free,Λ p.oA p.os.length p.oc,Λ p.fA p.fs.length p.fc,Λ p.eA p.qs.length p.ec])]∧u=(fun w=>((((OwnD w m 3 1 p.bA p.bc p.bs.length (p.bs.flatMap inC)∧OwnD w m 130 4 p.oA p.oc p.os.length (p.os.flatMap enC))∧OwnD w m 9 1 p.fA p.fc p.fs.length (p.fs.flatMap stC))∧OwnD w m 76 3 p.eA p.ec p.qs.length (p.qs.flatMap eqC))∧kH m w p.qs))∧(k≤p.qs.length)∧r=(1+(p.qs.length-k))) _ ⟨0,rfl,rfl,(uT _),rfl⟩ (fun w Q=>⟨⟨⟨⟨Q.1.1.1.1.1.1,Q.1.1.1.1.1.2⟩,Q.1.1.1.1.2⟩,Q.1.1.1.2⟩,Q.1.1.2⟩) ?_
 rintro r s u ⟨k,rfl,rfl,I,rfl⟩
 refine yY (xq 1 [yB 71 (decide ((k:Int)<((p.qs.length:Nat):Int)))] [] ?_)
 refine yZ (zD ?_)
 refine yQ ((decide ((k:Int)<((p.qs.length:Nat):Int)))) (fun g=>?_) fun g=>?_
 ·have y:=uB g
  have b:k<p.qs.length:=qO
  refine zG (zB (zD (zO (zD (zC ?_)))))
  refine xqk 72 _ (fun w R Q=>xM (t:=25) (e:=76) (sz:=3) (x:=.tmp 68) (ix:=.tmp 70) (len:=p.qs.length) (cap:=p.ec) (Q.1.2.ne b) b) ?_
  obtain⟨a,l⟩:∃ x,p.qs[k]! = x:=⟨_,rfl⟩
  refine xqk 73 (.agg #[.slice a.A a.es.length a.cap,.slice a.fA a.fs.length a.fc,.string a.rhs]) (fun w R Q=>by rw[←l];exact wX (t:=76) (x:=.tmp 72) Q.1.2 Zrp b) ?_
  have d:a∈p.qs:=by rw[←l];exact wJ b
  obtain⟨J,K,L,E⟩:=i.q1 _ d
  refine xq 2 [Δ 6] [(6,76,[Λ a.A a.es.length a.cap,Λ a.fA a.fs.length a.fc,.v (.string a.rhs)])] ?_
  refine yZ (yY (xq 6 [yB 79 ((((a.fs.length:Nat):Int):Int) != p.free)] [] ?_))
  rw[(show ((((a.fs.length:Nat):Int):Int) != p.free)=false from iC J)]
  refine xq 5 [yB 80 false,eS1 82 a.A a.es.length a.cap,eS1 84 p.bA p.bs.length p.bc] [] ?_
  refine xqc _ _ 85 (fun _:Unit=>.bool true) _ (fun w R Q=>yN (Zdc m m a.A p.bA a.cap p.bc a.es p.bs _ (n.ext R) (Q.2 _ d).1 Q.1.1.1.1 K)) fun B=>?_
  refine xq 5 [yB 88 false,eS1 90 a.fA a.fs.length a.fc] [] ?_
  refine xqc _ _ 91 (fun _:Unit=>.bool true) _ (fun w R Q=>yN (ZeY m a.fA a.fc a.fs _ (n.ext R) (Q.1.2 _ d).2 L qO)) fun B=>?_
  refine xq 5 [yB 94 false,yT 96 a.rhs] [] ?_
  refine xqc _ _ 97 (fun _:Unit=>.bool true) _ (fun w R Q=>(jT a.rhs _ (n.ext R) (uD (nB rfl) (uD E.2 qD))).mono (fun _ _ h=>zI h (by rw[E.1]))) fun B=>?_
  refine xq 2 [yB 99 false] [] ?_
  refine yZ (xb (zG (xK (zB (zC (xq 1 [yJ 100 (IntKind.i64.wrap ((k:Int)+1))] [] ?_))))))
  rw[yW ((k:Int)+1) (((k+1:Nat):Int)) qO]
  refine xq 1 [yJ 70 (k+1:Nat)] [] ?_
  refine xe ?_
  exact xC _ qO ⟨(k+1),rfl,rfl,b,rfl⟩ (fun w Q=>⟨⟨⟨⟨Q.1.1.1.1.1.1.1,Q.1.1.1.1.1.1.2⟩,Q.1.1.1.1.1.2⟩,Q.1.1.1.1.2⟩,Q.1.1.1.2⟩)
 have z:=uC g
 have D:k=p.qs.length:=qO
 refine xJ (zE (zE (xL (zB (yY (xq 1 [yB 2 true] [] ?_))))))
 refine yZ (zJ ?_)
 refine yR (.bool true) fun w' R Q=>?_
 exact⟨rfl,R⟩
def Gd (f:ByteArray×Int):Prop:=fvB (bytes f.1) f.2=true∧(bytes f.1).length≤1000
def lR (p:Sdp) (b:Int):Int:=if p.free≠0∨p.qs.length=0 then 11 else if b<8∨1024<b then 3 else 0
theorem pm_a {p:Sdp}{b:Int}(h:p.free≠0∨p.qs.length=0):lR p b=11:=uZ h
theorem pm_b {p:Sdp}{b:Int}(h:¬ (p.free≠0∨p.qs.length=0))(a:b<8∨1024<b):lR p b=3:=by unfold lR;rw[uQ h,uZ a]
theorem pm_c {p:Sdp}{b:Int}(h:¬ (p.free≠0∨p.qs.length=0))(a:¬ (b<8∨1024<b)):lR p b=0:=by unfold lR;rw[uQ h,uQ a]
def xG (m:Nat) (w:World) (xs:List Fm):Prop:=∀ x∈xs,OwnD w m 61 2 x.A x.cap x.fs.length (x.fs.flatMap flC)
section
variable {m m' k c n:Nat} {w w':World} {e:TypeId} {A:Option Addr} {l:List Value} {xs:List Fm}
theorem xG.ext (h:xG m w xs)(a:Ext w w'):xG m w' xs:=fun x b=>(h x b).ext a
theorem xG.apart (h:xG m w xs)(b:OwnD w m' e k A c n l)(a:61≠e)(d:Fr (fun i=>A=some ⟨i,0,none⟩) w w'):xG m w' xs:=fun x f=>(h x f).apart b a d
theorem xG.nil:xG m w []:=fun _ h=>nomatch h
theorem xG.snoc {x:Fm}(h:xG m w xs)(b:OwnD w m 61 2 x.A x.cap x.fs.length (x.fs.flatMap flC)):xG m w (xs ++ [x]):=fun y a=>by
 rcases tI.1 a with a|a
 ·exact h y a
 rw[vX.1 a];exact b
theorem xG.boxN (h:xG w.heap.size w' xs)(b:m≤w.heap.size):BoxN w w' (fun v=>xG m v xs):=fun S d a f x g=>(h x g).boxN b S d a f
end
def FmS (x:Fm):Prop:=FmG x∧x.c=x.r∧∀ i j,i<x.r→j<x.r→x.fs[i*x.r+j]! = x.fs[j*x.r+i]!
theorem ZaE (p:Sdp)(b:Int)(w:World)(d:p.qs.length≤32) :
 yA 28 #[.agg #[.slice p.bA p.bs.length p.bc,.int .i64 p.free,.slice p.oA p.os.length p.oc,.slice p.fA p.fs.length p.fc,.slice p.eA p.qs.length p.ec],.int .i64 b] w (RetV w (.int .i64 (lR p b))):=by
 refine zV (Φ:=fun w=>True) func28 rfl qK (fun w' f=>trivial) ?_
 refine yY (xq 2 [Δ 2,yJ 4 0] [(2,27,[Λ p.bA p.bs.length p.bc,Γ p.free,Λ p.oA p.os.length p.oc,Λ p.fA p.fs.length p.fc,Λ p.eA p.qs.length p.ec])] ?_)
 refine yZ (zD (zD ?_))
 rcases (show (p.free≠0)∨(p.free=0∧p.qs.length=0)∨(p.free=0∧p.qs.length≠0∧b<8)∨(p.free=0∧p.qs.length≠0∧¬ b<8∧1024<b)∨(p.free=0∧p.qs.length≠0∧¬ b<8∧¬ 1024<b) by omega) with a|a|a|a|a
 ·refine zC (xq 3 [yB 7 ((p.free:Int) != 0)] [] ?_)
  rw[(show (p.free != 0)=true from bne_iff_ne.2 a)]
  refine xq 12 [yB 19 true] [] ?_
  refine yZ (xa (yY (xq 1 [yJ 4 11] [] ?_)))
  refine yZ (zJ (zM ?_))
  refine yR (yI 11) fun w' R Q=>?_
  exact⟨by rw[pm_a (Or.inl a)],R⟩
 ·refine zC (xq 3 [yB 7 ((p.free:Int) != 0)] [] ?_)
  rw[(show (p.free != 0)=false from rQ.2 a.1)]
  refine xq 5 [yB 8 false,yB 12 ((((p.qs.length:Nat):Int):Int) == 0)] [] ?_
  rw[(show ((((p.qs.length:Nat):Int):Int) == 0)=true from sK.2 qO)]
  refine xq 7 [yB 19 true] [] ?_
  refine yZ (xa (yY (xq 1 [yJ 4 11] [] ?_)))
  refine yZ (zJ (zM ?_))
  refine yR (yI 11) fun w' R Q=>?_
  exact⟨by rw[pm_a (Or.inr a.2)],R⟩
 ·refine zC (xq 3 [yB 7 ((p.free:Int) != 0)] [] ?_)
  rw[(show (p.free != 0)=false from rQ.2 a.1)]
  refine xq 5 [yB 8 false,yB 12 ((((p.qs.length:Nat):Int):Int) == 0)] [] ?_
  rw[(show ((((p.qs.length:Nat):Int):Int) == 0)=false from tK.2 qO)]
  refine xq 6 [yB 14 false,yB 18 (decide (((p.qs.length:Nat):Int)>32))] [] ?_
  rw[(show decide (((p.qs.length:Nat):Int)>32)=false from uR qO)]
  refine xq 1 [yB 19 false] [] ?_
  refine yZ (xb (zG (zB (zD (yY (xq 2 [yB 21 (decide (b<8))] [] ?_))))))
  rw[(show decide (b<8)=true from vP qO)]
  refine xq 4 [yB 25 true] [] ?_
  refine yZ (xa (yY (xq 1 [yJ 4 3] [] ?_)))
  refine yZ (zJ (zM ?_))
  refine yR (yI 3) fun w' R Q=>?_
  exact⟨by rw[pm_b qO (Or.inl a.2.2)],R⟩
 ·refine zC (xq 3 [yB 7 ((p.free:Int) != 0)] [] ?_)
  rw[(show (p.free != 0)=false from rQ.2 a.1)]
  refine xq 5 [yB 8 false,yB 12 ((((p.qs.length:Nat):Int):Int) == 0)] [] ?_
  rw[(show ((((p.qs.length:Nat):Int):Int) == 0)=false from tK.2 qO)]
  refine xq 6 [yB 14 false,yB 18 (decide (((p.qs.length:Nat):Int)>32))] [] ?_
  rw[(show decide (((p.qs.length:Nat):Int)>32)=false from uR qO)]
  refine xq 1 [yB 19 false] [] ?_
  refine yZ (xb (zG (zB (zD (yY (xq 2 [yB 21 (decide (b<8))] [] ?_))))))
  rw[(show decide (b<8)=false from uR qO)]
  refine xq 3 [yB 22 false,yB 24 (decide (b>1024))] [] ?_
  rw[(show decide (b>1024)=true from vP qO)]
  refine xq 1 [yB 25 true] [] ?_
  refine yZ (xa (yY (xq 1 [yJ 4 3] [] ?_)))
  refine yZ (zJ (zM ?_))
  refine yR (yI 3) fun w' R Q=>?_
  exact⟨by rw[pm_b qO (Or.inr a.2.2.2)],R⟩
 refine zC (xq 3 [yB 7 ((p.free:Int) != 0)] [] ?_)
 rw[(show (p.free != 0)=false from rQ.2 a.1)]
 refine xq 5 [yB 8 false,yB 12 ((((p.qs.length:Nat):Int):Int) == 0)] [] ?_
 rw[(show ((((p.qs.length:Nat):Int):Int) == 0)=false from tK.2 qO)]
 refine xq 6 [yB 14 false,yB 18 (decide (((p.qs.length:Nat):Int)>32))] [] ?_
 rw[(show decide (((p.qs.length:Nat):Int)>32)=false from uR qO)]
 refine xq 1 [yB 19 false] [] ?_
 refine yZ (xb (zG (zB (zD (yY (xq 2 [yB 21 (decide (b<8))] [] ?_))))))
 rw[(show decide (b<8)=false from uR qO)]
 refine xq 3 [yB 22 false,yB 24 (decide (b>1024))] [] ?_
 rw[(show decide (b>1024)=false from uR qO)]
 refine xq 1 [yB 25 false] [] ?_
 refine yZ (xb (zG (zB (yY (xq 1 [yJ 4 0] [] ?_)))))
 refine yZ (zJ ?_)
 refine yR (yI 0) fun w' R Q=>?_
 exact⟨by rw[pm_c qO qO],R⟩
theorem Zdd (O N P:Nat)(A B:qA)(cap o:Nat)(xs:List Fm)(bs:List Int)(w:World)(Y:OwnD w O 59 3 A cap xs.length (xs.flatMap fmC))(Z:xG N w xs)(hB:OwnD w P 3 1 B o bs.length (bs.flatMap inC))(hl:xs.length=bs.length)(hd:∀ k,k<xs.length→bs[k]! = ((xs[k]!.r:Nat):Int))(hV:∀ x∈xs,FmS x)(hb:xs.length≤1000) :
 yA 43 #[.slice A xs.length cap,.slice B bs.length o] w (RetV w (.bool true)):=by
 refine zV (Φ:=fun w=>((OwnD w O 59 3 A cap xs.length (xs.flatMap fmC)∧xG N w xs)∧OwnD w P 3 1 B o bs.length (bs.flatMap inC))) func43 rfl qK (fun w' V=>⟨⟨Y.ext V,Z.ext V⟩,hB.ext V⟩) ?_
 refine yY (xq 1 [yB 4 false] [] ?_)
 refine yZ (zD (yY (xq 5 [yB 14 ((((xs.length:Nat):Int):Int) != ((bs.length:Nat):Int))] [] ?_)))
 rw[(show ((((xs.length:Nat):Int):Int) != ((bs.length:Nat):Int))=false from iC (by rw[hl]))]
 refine yZ (xb (zG (zB (zD (yY (xq 3 [eS1 15 A xs.length cap,yJ 16 xs.length,yJ 17 0] [] ?_))))))
 refine yZ (zO ?_)
 refine xI (fun D E F=>∃ (k:Nat),E=ofL [eS1 1 B bs.length o,yB 4 false,eS1 15 A xs.length cap,yJ 16 xs.length,yJ 17 k] []∧F=(fun w=>((OwnD w O 59 3 A cap xs.length (xs.flatMap fmC)∧xG N w xs)∧OwnD w P 3 1 B o bs.length (bs.flatMap inC)))∧(k≤xs.length)∧D=(1+(xs.length-k))) _ ⟨0,rfl,rfl,(uT _),rfl⟩ (fun w Q=>⟨⟨Q.1.1,Q.1.2⟩,Q.2⟩) ?_
 rintro D E F ⟨k,rfl,rfl,hk,rfl⟩
 refine yY (xq 1 [yB 18 (decide ((k:Int)<((xs.length:Nat):Int)))] [] ?_)
 refine yZ (zD ?_)
 refine yQ ((decide ((k:Int)<((xs.length:Nat):Int)))) (fun q=>?_) fun q=>?_
 ·have g:k<xs.length:=by have:=uB q;omega
  refine zG (zB (zD (zO (yY (xq 1 [yJ 19 k] [] ?_)))))
  refine xqk 20 _ (fun w R Q=>xM (t:=32) (e:=59) (sz:=3) (x:=.tmp 15) (ix:=.tmp 17) (len:=xs.length) (cap:=cap) (Q.1.1.ne g) g) ?_
  obtain⟨b,s⟩:∃ x,xs[k]! = x:=⟨_,rfl⟩
  refine xqk 21 (.agg #[yI b.r, yI b.c,.slice b.A b.fs.length b.cap]) (fun w R Q=>by rw[←s];exact wX (t:=59) (x:=.tmp 20) Q.1.1 Zaf g) ?_
  have f:b∈xs:=by rw[←s];exact wJ g
  obtain⟨G,K,S⟩:=hV _ f
  have W:bs[k]! = ((b.r:Nat):Int):=by rw[hd k g,s]
  have H:b.r≤32:=G.hr.2
  refine xq 3 [yJ 5 k,Δ 6] [(6,59,[Γ b.r,Γ b.c,Λ b.A b.fs.length b.cap])] ?_
  refine yZ (yY (xq 2 [eS1 22 B bs.length o,yJ 23 k] [] ?_))
  refine xqk 24 _ (fun w R Q=>xM (t:=22) (e:=3) (sz:=1) (x:=.tmp 22) (ix:=.tmp 23) (len:=bs.length) (cap:=o) (Q.2.ne (show k<bs.length by omega)) (show k<bs.length by omega)) ?_
  obtain⟨T,I⟩:∃ x,bs[k]! = x:=⟨_,rfl⟩
  refine xqk 25 (yI T) (fun w R Q=>by rw[←I];exact ZaY (t:=3) (x:=.tmp 24) Q.2 (show k<bs.length by omega)) ?_
  have U:T=((b.r:Nat):Int):=by rw[←I];exact W
  subst U
  refine xq 1 [yJ 7 b.r] [] ?_
  refine yZ (zD (yY (xq 4 [yB 29 ((((b.r:Nat):Int):Int) != ((b.r:Nat):Int))] [] ?_)))
  rw[(show ((((b.r:Nat):Int)) != ((b.r:Nat):Int))=false from iC rfl)]
  refine xq 5 [yB 30 false,yB 34 ((((b.c:Nat):Int):Int) != ((b.r:Nat):Int))] [] ?_
  rw[(show ((((b.c:Nat):Int)) != ((b.r:Nat):Int))=false from iC (by rw[K]))]
  refine xq 3 [yB 36 false,(37,.v (.agg #[yI b.r, yI b.c,.slice b.A b.fs.length b.cap]))] [] ?_
  refine xqc _ _ 38 (fun _:Unit=>.bool true) _ (fun w R Q=>yN (Zgn N b.r b.c b.A b.cap b.fs _ (Q.1.2 _ f) G.hr G.hc G.hn G.hv G.hs)) fun xx=>?_
  refine xq 2 [yB 40 false] [] ?_
  refine yZ (xb (zG (zB (yY (xq 2 [yJ 41 b.r,yJ 42 0] [] ?_)))))
  refine yZ (zO ?_)
  refine xI (fun D E F=>∃ (i:Nat),E=ofL [eS1 1 B bs.length o,yB 4 false,Δ 6,yJ 7 b.r,eS1 15 A xs.length cap,yJ 16 xs.length,yJ 17 k,yJ 41 b.r,yJ 42 i] [(6,59,[Γ b.r,Γ b.c,Λ b.A b.fs.length b.cap])]∧F=(fun w=>((OwnD w O 59 3 A cap xs.length (xs.flatMap fmC)∧xG N w xs)∧OwnD w P 3 1 B o bs.length (bs.flatMap inC)))∧(i≤b.r)∧D=(1+(b.r-i))) _ ⟨0,rfl,rfl,(uT _),rfl⟩ (fun w Q=>⟨⟨Q.1.1.1,Q.1.1.2⟩,Q.1.2⟩) ?_
  rintro D E F ⟨i,rfl,rfl,hi,rfl⟩
  refine yY (xq 1 [yB 43 (decide ((i:Int)<((b.r:Nat):Int)))] [] ?_)
  refine yZ (zD ?_)
  refine yQ ((decide ((i:Int)<((b.r:Nat):Int)))) (fun u=>?_) fun u=>?_
  ·have C:i<b.r:=by have:=uB u;omega
   refine zG (zB (zD (zO (yY (xq 2 [yJ 8 i] [] ?_)))))
   refine yZ (yY (xq 2 [yJ 45 i,yJ 46 0] [] ?_))
   refine yZ (zO ?_)
   refine xI (fun D E F=>∃ (j:Nat),E=ofL [eS1 1 B bs.length o,yB 4 false,Δ 6,yJ 7 b.r,yJ 8 i,eS1 15 A xs.length cap,yJ 16 xs.length,yJ 17 k,yJ 41 b.r,yJ 42 i,yJ 45 i,yJ 46 j] [(6,59,[Γ b.r,Γ b.c,Λ b.A b.fs.length b.cap])]∧F=(fun w=>((OwnD w O 59 3 A cap xs.length (xs.flatMap fmC)∧xG N w xs)∧OwnD w P 3 1 B o bs.length (bs.flatMap inC)))∧(j≤i)∧D=(1+(i-j))) _ ⟨0,rfl,rfl,(uT _),rfl⟩ (fun w Q=>⟨⟨Q.1.1,Q.1.2⟩,Q.2⟩) ?_
   rintro D E F ⟨j,rfl,rfl,hj,rfl⟩
   refine yY (xq 1 [yB 47 (decide ((j:Int)<(i:Int)))] [] ?_)
   refine yZ (zD ?_)
   refine yQ ((decide ((j:Int)<(i:Int)))) (fun z=>?_) fun z=>?_
   ·have X:j<i:=by have:=uB z;omega
    refine zG (zB (zD (zO (yY (xq 2 [yJ 9 j] [] ?_)))))
    refine yZ (zD ?_)
    have L:i*b.r+j<b.fs.length:=by rw[G.hn,K];exact gidx C qO
    have M:j*b.r+i<b.fs.length:=by rw[G.hn,K];exact gidx qO C
    have a0:i*b.r≤32*32:=sI qO H
    have b0:j*b.r≤32*32:=sI qO H
    refine kR 19 [0,1,0,0,12,0,60,127,255,0,512,0,0,6144,0,30720,65024,130560,262143] qK qK zQ ?_
    refine xqg 5 [eS1 50 b.A b.fs.length b.cap,yJ 53 (IntKind.i64.wrap ((i:Int)*((b.r:Nat):Int)))] ?_
    rw[(show IntKind.i64.wrap ((i:Int)*((b.r:Nat):Int))=((i*b.r:Nat):Int) from Zcl qO qO)]
    refine xqg 2 [yJ 55 (IntKind.i64.wrap (((i*b.r:Nat):Int)+(j:Int)))] ?_
    rw[(show IntKind.i64.wrap (((i*b.r:Nat):Int)+(j:Int))=((i*b.r+j:Nat):Int) by rw[IntKind.wrap_i64];omega)]
    refine xqj 56 _ (fun w Q=>xM (t:=33) (e:=61) (sz:=2) (x:=.tmp 50) (ix:=.tmp 55) (len:=b.fs.length) (cap:=b.cap) (OwnD.ne (Q.1.2 _ f) L) L) ?_
    obtain⟨h,J⟩:∃ x,b.fs[i*b.r+j]! = x:=⟨_,rfl⟩
    refine xqj 57 (yS h.1 h.2) (fun w Q=>by rw[←J];exact wX (t:=61) (x:=.tmp 56) (Q.1.2 _ f) gX L) ?_
    refine xqg 5 [eS1 59 b.A b.fs.length b.cap,yJ 62 (IntKind.i64.wrap ((j:Int)*((b.r:Nat):Int)))] ?_
    rw[(show IntKind.i64.wrap ((j:Int)*((b.r:Nat):Int))=((j*b.r:Nat):Int) from Zcl qO qO)]
    refine xqg 2 [yJ 64 (IntKind.i64.wrap (((j*b.r:Nat):Int)+(i:Int)))] ?_
    rw[(show IntKind.i64.wrap (((j*b.r:Nat):Int)+(i:Int))=((j*b.r+i:Nat):Int) by rw[IntKind.wrap_i64];omega)]
    refine xqj 65 _ (fun w Q=>xM (t:=33) (e:=61) (sz:=2) (x:=.tmp 59) (ix:=.tmp 64) (len:=b.fs.length) (cap:=b.cap) (OwnD.ne (Q.1.2 _ f) M) M) ?_
    refine xqj 66 (yS h.1 h.2) (fun w Q=>by rw[←J,S i j C qO];exact wX (t:=61) (x:=.tmp 65) (Q.1.2 _ f) gX M) ?_
    refine xqj 67 _ (fun w Q=>Zg0 (x:=.tmp 57) (y:=.tmp 66) (k:=61) (a:=h.1) (d:=h.2)) ?_
    refine xz (yZ (xb (zG (xK (zB (zC (xq 1 [yJ 68 (IntKind.i64.wrap ((j:Int)+1))] [] ?_)))))))
    rw[yW ((j:Int)+1) (((j+1:Nat):Int)) qO]
    refine xq 1 [yJ 46 (j+1:Nat)] [] ?_
    refine xe ?_
    exact xC _ qO ⟨(j+1),rfl,rfl,X,rfl⟩ (fun w Q=>⟨⟨Q.1.1,Q.1.2⟩,Q.2⟩)
   have c0:j=i:=by have:=uC z;omega
   refine xJ (zE (zE (xL (xK (zB (zC (xq 1 [yJ 69 (IntKind.i64.wrap ((i:Int)+1))] [] ?_)))))))
   rw[yW ((i:Int)+1) (((i+1:Nat):Int)) qO]
   refine xq 1 [yJ 42 (i+1:Nat)] [] ?_
   refine xe ?_
   exact xC _ qO ⟨(i+1),rfl,rfl,C,rfl⟩ (fun w Q=>⟨⟨Q.1.1,Q.1.2⟩,Q.2⟩)
  have d0:i=b.r:=by have:=uC u;omega
  refine xJ (zE (zE (xL (xK (zB (zC (xq 1 [yJ 70 (IntKind.i64.wrap ((k:Int)+1))] [] ?_)))))))
  rw[yW ((k:Int)+1) (((k+1:Nat):Int)) qO]
  refine xq 1 [yJ 17 (k+1:Nat)] [] ?_
  refine xe ?_
  exact xC _ qO ⟨(k+1),rfl,rfl,g,rfl⟩ (fun w Q=>⟨⟨Q.1.1,Q.1.2⟩,Q.2⟩)
 have e0:k=xs.length:=by have:=uC q;omega
 refine xJ (zE (zE (xL (zB (yY (xq 1 [yB 4 true] [] ?_))))))
 refine yZ (zJ ?_)
 refine yR (.bool true) fun w' R Q=>?_
 exact⟨rfl,R⟩
theorem ZbX (j m0:Nat)(p:Sdp)(s u o:qA)(xc sc q:Nat)(xs b:List Fm)(ys:List (ByteArray×Int))(w:World)(T:Glob w)(z:SdpOk j w p)(C:SdpV p)(D:OwnD w m0 59 3 s xc xs.length (xs.flatMap fmC))(E:xG m0 w xs)(F:OwnD w m0 59 3 u sc b.length (b.flatMap fmC))(G:xG m0 w b)(U:OwnD w m0 61 2 o q ys.length (ys.flatMap flC))(H:xs.length=p.bs.length)(I:b.length=p.bs.length)(J:∀ k,k<xs.length→p.bs[k]! = ((xs[k]!.r:Nat):Int))(K:∀ k,k<b.length→p.bs[k]! = ((b[k]!.r:Nat):Int))(L:∀ x∈xs,FmS x)(M:∀ x∈b,FmS x)(N:ys.length=p.qs.length)(B:∀ y∈ys,Gd y) :
 Calls Tryz.prog 15 #[.agg #[.slice p.bA p.bs.length p.bc,.int .i64 p.free,.slice p.oA p.os.length p.oc,.slice p.fA p.fs.length p.fc,.slice p.eA p.qs.length p.ec],.agg #[.slice s xs.length xc,.slice u b.length sc,.slice o ys.length q]] w (RetV w (.bool true)):=by
 have V:=C.b0
 have W:=C.q0
 refine zV (Φ:=fun w=>(((((((((OwnD w j 3 1 p.bA p.bc p.bs.length (p.bs.flatMap inC)∧OwnD w j 130 4 p.oA p.oc p.os.length (p.os.flatMap enC))∧OwnD w j 9 1 p.fA p.fc p.fs.length (p.fs.flatMap stC))∧OwnD w j 76 3 p.eA p.ec p.qs.length (p.qs.flatMap eqC))∧kH j w p.qs)∧OwnD w m0 59 3 s xc xs.length (xs.flatMap fmC))∧xG m0 w xs)∧OwnD w m0 59 3 u sc b.length (b.flatMap fmC))∧xG m0 w b)∧OwnD w m0 61 2 o q ys.length (ys.flatMap flC))) func15 rfl qK (fun w' i=>⟨⟨⟨⟨⟨⟨⟨⟨⟨z.bl.ext i,z.ob.ext i⟩,z.fr.ext i⟩,z.eq.ext i⟩,z.es.ext i⟩,D.ext i⟩,E.ext i⟩,F.ext i⟩,G.ext i⟩,U.ext i⟩) ?_
 refine yY (xq 3 [Δ 2,Δ 3,yB 4 false] [(3,35,[Λ s xs.length xc,Λ u b.length sc,Λ o ys.length q]),(2,27,[Λ p.bA p.bs.length p.bc,Γ p.free,Λ p.oA p.os.length p.oc,Λ p.fA p.fs.length p.fc,Λ p.eA p.qs.length p.ec])] ?_)
 refine yZ (zD (yY (xq 1 [(7,.v (.agg #[.slice p.bA p.bs.length p.bc, yI p.free,.slice p.oA p.os.length p.oc,.slice p.fA p.fs.length p.fc,.slice p.eA p.qs.length p.ec]))] [] ?_)))
 refine xqc _ _ 8 (fun _:Unit=>.bool true) _ (fun w R Q=>yN (dZ j p _ (T.ext R) ⟨Q.1.1.1.1.1.1.1.1.1,Q.1.1.1.1.1.1.1.1.2,Q.1.1.1.1.1.1.1.2,Q.1.1.1.1.1.1.2,Q.1.1.1.1.1.2⟩ C)) fun O=>?_
 refine xq 6 [yB 10 false,eS1 12 s xs.length xc,eS1 14 p.bA p.bs.length p.bc] [] ?_
 refine xqc _ _ 15 (fun _:Unit=>.bool true) _ (fun w R Q=>yN (Zdd m0 m0 j s p.bA xc p.bc xs p.bs _ Q.1.1.1.1.1.2 Q.1.1.1.1.2 Q.1.1.1.1.1.1.1.1.1.1 H J L qO)) fun O=>?_
 refine xq 7 [yB 18 false,eS1 20 u b.length sc,eS1 22 p.bA p.bs.length p.bc] [] ?_
 refine xqc _ _ 23 (fun _:Unit=>.bool true) _ (fun w R Q=>yN (Zdd m0 m0 j u p.bA sc p.bc b p.bs _ Q.1.1.1.1.2 Q.1.1.1.2 Q.1.1.1.1.1.1.1.1.1.1.1 I K M qO)) fun O=>?_
 refine xq 10 [yB 26 false,yB 33 ((((ys.length:Nat):Int):Int) != ((p.qs.length:Nat):Int))] [] ?_
 rw[(show ((((ys.length:Nat):Int):Int) != ((p.qs.length:Nat):Int))=false from iC (by rw[N]))]
 refine xq 1 [yB 34 false] [] ?_
 refine yZ (xb (zG (zB (zD (yY (xq 4 [eS1 36 o ys.length q,yJ 37 ys.length,yJ 38 0] [] ?_))))))
 refine yZ (zO ?_)
 refine xI (fun P b S=>∃ (k:Nat),b=ofL [yB 4 false,eS1 36 o ys.length q,yJ 37 ys.length,yJ 38 k] []∧S=(fun w=>OwnD w m0 61 2 o q ys.length (ys.flatMap flC))∧(k≤ys.length)∧P=(1+(ys.length-k))) _ ⟨0,rfl,rfl,(uT _),rfl⟩ (fun w Q=>Q.1.1.1.2) ?_
 rintro P b S ⟨k,rfl,rfl,Y,rfl⟩
 refine yY (xq 1 [yB 39 (decide ((k:Int)<((ys.length:Nat):Int)))] [] ?_)
 refine yZ (zD ?_)
 refine yQ ((decide ((k:Int)<((ys.length:Nat):Int)))) (fun f=>?_) fun f=>?_
 ·have d:k<ys.length:=by have:=uB f;omega
  refine zG (zB (zD (zO (zD (zC ?_)))))
  refine xqk 40 _ (fun w R Q=>xM (t:=33) (e:=61) (sz:=2) (x:=.tmp 36) (ix:=.tmp 38) (len:=ys.length) (cap:=q) (Q.ne d) d) ?_
  obtain⟨a,g⟩:∃ x,ys[k]! = x:=⟨_,rfl⟩
  refine xqk 41 (yS a.1 a.2) (fun w R Q=>by rw[←g];exact wX (t:=61) (x:=.tmp 40) Q gX d) ?_
  refine xq 2 [Δ 6] [yG 6 61 a.1 a.2] ?_
  refine yZ (yY (xq 1 [(42,.v (yS a.1 a.2))] [] ?_))
  refine xqc _ _ 43 (fun _:Unit=>.bool true) _ (fun w R Q=>(ZaP a.1 a.2 _ (uD (B _ (by rw[←g];exact wJ d)).2 qD)).mono (fun _ _ h=>zI h (by rw[show fvB (bytes a.1) a.2=true from (B _ (by rw[←g];exact wJ d)).1]))) fun O=>?_
  refine xq 1 [yB 44 false] [] ?_
  refine yZ (xb (zG (xK (zB (zC (xq 1 [yJ 45 (IntKind.i64.wrap ((k:Int)+1))] [] ?_))))))
  rw[yW ((k:Int)+1) (((k+1:Nat):Int)) qO]
  refine xq 1 [yJ 38 (k+1:Nat)] [] ?_
  refine xe ?_
  exact xC _ qO ⟨(k+1),rfl,rfl,d,rfl⟩ (fun w Q=>Q.1)
 have X:k=ys.length:=by have:=uC f;omega
 refine xJ (zE (zE (xL (zB (yY (xq 1 [yB 4 true] [] ?_))))))
 refine yZ (zJ ?_)
 refine yR (.bool true) fun w' R Q=>?_
 exact⟨rfl,R⟩
def Dis (A:Option Addr) (S:Nat→Prop):Prop:=∀ j,A=some ⟨j,0,none⟩→¬ S j
def bkA (B:Option Addr):Nat→Prop:=fun j=>B=some ⟨j,0,none⟩
def bkF (l:List Fm):Nat→Prop:=fun j=>∃ x∈l,x.A=some ⟨j,0,none⟩
section
variable {w w':World} {m c n k:Nat} {e:TypeId} {A B:Option Addr} {xs:List Value} {S S':Nat→Prop} {fs:List Fm}
theorem Dis.symm (h:Dis A (bkA B)):Dis B (bkA A):=fun j a b=>h j b a
theorem Dis.nil:Dis none S:=fun _ h=>nomatch h
theorem Dis.l (h:Dis A (fun j=>S j∨S' j)):Dis A S:=fun j a b=>h j a (Or.inl b)
theorem Dis.r (h:Dis A (fun j=>S j∨S' j)):Dis A S':=fun j a b=>h j a (Or.inr b)
theorem OwnD.lt (h:OwnD w m e k B c n xs):∀ j,bkA B j→j<w.heap.size:=fun j a=>by
 obtain⟨_,b,d,_⟩:=h.blk a
 exact d.lt
theorem OwnD.dis (h:OwnD w m e k B c n xs)(a:Dis A (bkA B))(b:Fr (fun i=>A=some ⟨i,0,none⟩) w w'):OwnD w' m e k B c n xs:=h.fr b (fun i hi d=>a i d hi)
theorem xG.lt (h:xG m w fs):∀ j,bkF fs j→j<w.heap.size:=fun j ⟨x,a,b⟩=>OwnD.lt (h x a) j b
theorem xG.dis (h:xG m w fs)(b:Dis A (bkF fs))(d:Fr (fun i=>A=some ⟨i,0,none⟩) w w'):xG m w' fs:=fun x a=>(h x a).fr d (fun i hi f=>b i f ⟨x,a,hi⟩)
theorem Zit {S S':Nat→Prop}{n:Nat}(h:∀ j,S j→j<n)(a:∀ j,S' j→j<n):∀ j,S j∨S' j→j<n:=fun j b=>b.elim (h j) (a j)
end
structure It where
 xA:Option Addr
 xc:Nat
 xs:List Fm
 sA:Option Addr
 sc:Nat
 ss:List Fm
 yA:Option Addr
 yc:Nat
 ys:List (ByteArray×Int)
instance:Inhabited It:=⟨⟨none,0,[],none,0,[],none,0,[]⟩⟩
def itC (x:It):Value:=.agg #[.slice x.xA x.xs.length x.xc,.slice x.sA x.ss.length x.sc,.slice x.yA x.ys.length x.yc]
structure ItOk (m:Nat) (w:World) (x:It):Prop where
 x1:OwnD w m 59 3 x.xA x.xc x.xs.length (x.xs.flatMap fmC)
 x2:xG m w x.xs
 s1:OwnD w m 59 3 x.sA x.sc x.ss.length (x.ss.flatMap fmC)
 s2:xG m w x.ss
 y1:OwnD w m 61 2 x.yA x.yc x.ys.length (x.ys.flatMap flC)
section
variable {w w':World} {m m':Nat} {x:It}
theorem ItOk.ext (h:ItOk m w x)(a:Ext w w'):ItOk m w' x:=⟨h.x1.ext a,h.x2.ext a,h.s1.ext a,h.s2.ext a,h.y1.ext a⟩
theorem ItOk.boxN (h:ItOk w.heap.size w' x)(b:m≤w.heap.size):BoxN w w' (fun v=>ItOk m v x):=fun S d a f=>⟨h.x1.boxN b S d a f,h.x2.boxN b S d a f,h.s1.boxN b S d a f,h.s2.boxN b S d a f,h.y1.boxN b S d a f⟩
theorem ItOk.nil:ItOk m w (default:It):=⟨OwnD.nil _ _ _ _,xG.nil,OwnD.nil _ _ _ _,xG.nil,OwnD.nil _ _ _ _⟩
end
def ZbM (sh:Value→Value) (G:It→Prop) (w:World) (e:Ending) (w':World):Prop:=∃ x,e=.returned (sh (itC x))∧G x∧ItOk w.heap.size w' x∧Ext w w'
theorem Zer {a:Value→Value}{G:It→Prop}{m0:Nat}{w w':World}{e:Ending}(b:m0≤w.heap.size)(h:ZbM a G w e w') :
 ∃ x:{x:It // G x},e=.returned (a (itC x.1))∧Ext w w'∧BoxN w w' (fun v=>ItOk m0 v x.1):=by
 obtain⟨x,rfl,d,f,Q⟩:=h
 exact⟨⟨x,d⟩,rfl,Q,f.boxN b⟩
def fmT (x:Fm):Nat × Nat × List (ByteArray×Int):=(x.r,x.c,x.fs)
def mxT (x:Mx):Nat × Nat × List (ByteArray×Int):=(x.r,x.c,x.xs.map ftV)
def lK {α:Type} (n:Nat) (z f:α):List α:=iO n n (fun a b=>if a=b then f else z)
def bM {α:Type} (n:Nat) (z f:α) (k:Nat):List α:=iO n n (fun a b=>if a=b∧a<k then f else z)
theorem ZbN {α:Type}(n:Nat)(z f:α):(lK n z f).length=n*n:=cE _ _ _
theorem ZbO {α:Type}(n:Nat)(z f:α)(k:Nat):(bM n z f k).length=n*n:=cE _ _ _
theorem Zoj {α β:Type}(g:α→β)(r c:Nat)(V:Nat→Nat→α):(iO r c V).map g=iO r c (fun a b=>g (V a b)):=by
 unfold iO
 rw[List.map_flatMap]
 congr 1
 funext i
 rw[rM];rfl
theorem ZbY {α:Type}{r c:Nat}{V V':Nat→Nat→α}(h:∀ i j,i<r→j<c→V i j=V' i j):iO r c V=iO r c V':=by
 unfold iO
 rw[List.flatMap_def,List.flatMap_def]
 congr 1
 refine sF fun i hi=>sF fun j a=>h i j (rB.1 hi) (rB.1 a)
theorem Zok {α β:Type}(g:α→β)(n:Nat)(z f:α):(lK n z f).map g=lK n (g z) (g f):=by
 unfold lK
 rw[Zoj]
 exact ZbY fun i j _ _=>by split<;>rfl
theorem Zmy {α:Type}(n:Nat)(z f:α):bM n z f 0=List.replicate (n*n) z:=by
 have h:bM n z f 0=iO n n (fun _ _=>z):=ZbY fun i j _ _=>uQ qO
 rw[h]
 refine List.eq_replicate_iff.2 ⟨cE _ _ _,fun x a=>?_⟩
 unfold iO at a
 obtain⟨i,_,hi⟩:=List.mem_flatMap.1 a
 obtain⟨j,_,b⟩:=oX.1 hi
 exact b.symm
theorem Zol {α:Type}(n:Nat)(z f:α):bM n z f n=lK n z f:=ZbY fun i j hi _=>by
 by_cases h:i=j
 ·rw[uZ ⟨h,hi⟩,uZ h]
 rw[uQ (fun q=>h q.1),uQ h]
theorem Zom {α:Type}[Inhabited α](n:Nat)(z f:α)(k:Nat)(d:k<n):(bM n z f k).set (k*n+k) f=bM n z f (k+1):=by
 refine Zoi (by rw[sQ,ZbO]) fun i j hi a=>?_
 have g:i*n+j<(bM n z f k).length:=by rw[ZbO];exact gidx hi a
 have b:0<n:=qO
 rw[setg g]
 have l:(bM n z f k)[i*n+j]! = if i=j∧i<k then f else z:=Zfr hi a
 rw[l]
 by_cases e:k*n+k=i*n+j
 ·rw[uZ e]
  have o:(k*n+k)/n=k:=by rw[vO,Nat.add_mul_div_right _ _ b,tF d,tA]
  have p:(i*n+j)/n=i:=by rw[vO,Nat.add_mul_div_right _ _ b,tF a,tA]
  have r:k=i:=by rw[←o,e,p]
  subst r
  rw[uZ ⟨qO,qO⟩]
 rw[uQ e]
 by_cases h:i=j∧i<k
 ·rw[uZ h,uZ ⟨h.1,qO⟩]
 rw[uQ h,uQ (fun q=>?_)]
 obtain⟨rfl,t⟩:=q
 by_cases s:i=k
 ·exact e (by rw[s])
 exact h ⟨rfl,qO⟩
def Zbj (bs:List Int) (q:Nat) (f z:ByteArray×Int) (x:It):Prop:=x.xs.map fmT=bs.map (fun b=>(b.toNat,b.toNat,lK b.toNat z f))∧x.ss.map fmT=bs.map (fun b=>(b.toNat,b.toNat,lK b.toNat z f))∧x.ys=List.replicate q z
theorem Zd2 {α:Type}{n:Nat}{z f x:α}(h:x∈lK n z f):x=f∨x=z:=by
 unfold lK iO at h
 obtain⟨i,_,hi⟩:=List.mem_flatMap.1 h
 obtain⟨j,_,a⟩:=oX.1 hi
 dsimp only at a
 by_cases e:i=j
 ·rw[uZ e] at a;exact Or.inl a.symm
 rw[uQ e] at a;exact Or.inr a.symm
theorem Zon {α:Type}[Inhabited α]{n i j:Nat}{z f:α}(hi:i<n)(a:j<n):(lK n z f)[i*n+j]! = (lK n z f)[j*n+i]! := by
 rw[show (lK n z f)[i*n+j]! = if i=j then f else z from Zfr hi a,show (lK n z f)[j*n+i]! = if j=i then f else z from Zfr a hi]
 by_cases e:i=j
 ·rw[uZ e,uZ e.symm]
 rw[uQ e,uQ (fun q=>e q.symm)]
theorem Zgv {bs:List Int}{xs:List Fm}{f z:ByteArray×Int}(v:∀ b∈bs,1≤b∧b≤32)(E:Gd f)(F:Gd z)(h:xs.map fmT=bs.map (fun b=>(b.toNat,b.toNat,lK b.toNat z f))) :
 xs.length=bs.length∧(∀ k,k<xs.length→bs[k]! = ((xs[k]!.r:Nat):Int))∧∀ x∈xs,FmS x:=by
 have d:xs.length=bs.length:=by have:=uX List.length h;rwa [uL,uL] at this
 have l:∀ k (a:k<xs.length),fmT xs[k]=((bs[k]'(d ▸ a)).toNat,(bs[k]'(d ▸ a)).toNat,lK (bs[k]'(d ▸ a)).toNat z f):=fun k a=>by
  have p:(xs.map fmT)[k]'(by rw[uL];exact a)=(bs.map (fun b=>(b.toNat,b.toNat,lK b.toNat z f)))[k]'(by rw[uL];exact d ▸ a):=by simp only[h]
  rwa [sC,sC] at p
 refine⟨d,fun k a=>?_,fun x G=>?_⟩
 ·have p:=uX Prod.fst (l k a)
  have H:=v _ (tZ (d ▸ a:k<bs.length))
  rw[vT bs k (d ▸ a),vT xs k a]
  have I:xs[k].r=(bs[k]'(d ▸ a)).toNat:=p
  omega
 obtain⟨k,a,rfl⟩:=oM G
 have H:=v _ (tZ (d ▸ a:k<bs.length))
 have s:=l k a
 have t:xs[k].r=(bs[k]'(d ▸ a)).toNat:=uX Prod.fst s
 have C:xs[k].c=(bs[k]'(d ▸ a)).toNat:=uX (fun q=>q.2.1) s
 have u:xs[k].fs=lK (bs[k]'(d ▸ a)).toNat z f:=uX (fun q=>q.2.2) s
 have o:∀ y∈xs[k].fs,Gd y:=fun y g=>by
  rw[u] at g
  rcases Zd2 g with rfl|rfl
  ·exact E
  exact F
 refine⟨⟨qO,qO,by rw[t,C,u];exact ZbN _ _ _,fun y g=>(o y g).1,fun y g=>(o y g).2⟩,by rw[t,C],fun i j hi D=>?_⟩
 rw[t] at hi D ⊢
 rw[u]
 exact Zon hi D
theorem Zsq {N M:Nat}(h:N<10*M):2^N<10^(4*M):=by
 have a:(2:Nat)^N<2^(10*M):=pX qD h
 have b:(2:Nat)^(10*M)≤10^(4*M):=by rw[rU,rU];exact sZ qD M
 exact uS a b
theorem Zd3 {s:Bool}{m N:Nat}{e:Int}(d:N≤1024)(a:m≤2^N)(h:(m=0∧e=0)∨(m%2=1∧okE e)):Gd (ftW (s,m,e)):=by
 refine⟨?_,?_⟩
 ·show fvB (Lib.itoa (sg s m)) e=true
  rw[ZkZ]
  refine vP (h.imp (fun q=>⟨by rw[q.1];unfold sg;split<;>rfl,q.2⟩) (fun q=>⟨ZnF q.1,q.2⟩))
 show (Lib.itoa (sg s m)).length≤1000
 have b:(sg s m).natAbs=m:=by unfold sg;split<;>omega
 exact uD (Zk0 (k:=4*103) qD (by rw[b];exact vN a (Zsq (M:=103) qO))) qD
theorem Zrr {s:Bool}{n N:Nat}{e:Int}(d:N≤1024)(h:n≤2^N)(a:(wG s n e).err=0):Gd (ftW (fvR (wG s n e))):=by
 unfold wG at a ⊢
 split
 ·exact Zd3 (N:=0) qD (uT _) (Or.inl ⟨rfl,rfl⟩)
 rename_i f
 rw[uQ f] at a
 have g:=jY (n:=n) qO
 split
 ·rename_i b
  exact Zd3 d (uD (vG _ _) h) (Or.inr ⟨g.1,b⟩)
 rename_i b
 rw[uQ b] at a
 exact absurd a qD
theorem Zsr {v:Rat}{n:Nat}(b:0<n)(d:n≤1024)(a:(rndF v n).err=0):Gd (ftW (fvR (rndF v n))):=by
 unfold rndF wR at a ⊢
 split
 ·exact Zd3 (N:=0) qD (uT _) (Or.inl ⟨rfl,rfl⟩)
 rename_i f
 rw[uQ f] at a
 exact Zrr d (Zfp qO v.den_pos b) a
theorem ZhQ {β γ:Type}[Inhabited β]{g:β→γ}{l:List γ}{a:List β}{k:Nat}{v:γ}(c:l=(a.take k).map g)(b:k<a.length)(d:v=g a[k]!):l ++ [v]=(a.take (k+1)).map g:=by
 rw[c,d,vT a k b,vY b,pO,pN]
theorem Zoo {α β:Type}(e:α→Nat × Nat × List (ByteArray×Int))(q:β→ByteArray×Int){h w:World}{m0 cap a b k f:Nat}{xs g:List α}{ys:List β}{l l2:List Fm}{c:List (ByteArray×Int)}{A B C:qA}(d:g.length=xs.length)(i:l.map fmT=(xs.take k).map e)(t:k=xs.length)(j:l2.map fmT=(g.take k).map e)(m:c=(ys.take f).map q)(n:f=ys.length)(u:OwnD w m0 59 3 A cap xs.length (l.flatMap fmC))(y:xG m0 w l)(r2:OwnD w m0 59 3 B a xs.length (l2.flatMap fmC))(z:xG m0 w l2)(D:OwnD w m0 61 2 C b f (c.flatMap flC))(o:m0=h.heap.size)(Q:Ext h w) :
 ZbM (fun v=>v) (fun x=>x.xs.map fmT=xs.map e∧x.ss.map fmT=g.map e∧x.ys=ys.map q) h (.returned (.agg #[.slice A xs.length cap,.slice B xs.length a,.slice C f b])) w:=by
 subst t n
 rw[sP] at i m
 rw[←d,sP] at j
 have r:l.length=xs.length:=by have:=uX List.length i;rwa [uL,uL] at this
 have p:l2.length=g.length:=by have:=uX List.length j;rwa [uL,uL] at this
 have s:c.length=ys.length:=by rw[m,uL]
 rw[d] at p
 refine⟨⟨A,cap,l,B,a,l2,C,b,c⟩,?_,⟨i,j,m⟩,o ▸ ⟨?_,y,?_,z,?_⟩,Q⟩
 ·show _=Ending.returned (.agg #[.slice A l.length cap,.slice B l2.length a,.slice C c.length b])
  rw[r,p,s]
 ·show OwnD w m0 _ 3 A cap l.length _;rw[r];exact u
 ·show OwnD w m0 _ 3 B a l2.length _;rw[p];exact r2
 show OwnD w m0 _ 2 C b c.length _;rw[s];exact D
theorem Zkx (H:Nat)(W X yA:qA)(xc sc yc:Nat)(xs us:List Mx)(ys:List Nb)(w:World)(hg:Glob w)(t0:OwnD w H 94 3 W xc xs.length (xs.flatMap mxC))(b0:MsOk H w xs)(u0:OwnD w H 94 3 X sc us.length (us.flatMap mxC))(c0:MsOk H w us)(d0:OwnD w H 86 3 yA yc ys.length (ys.flatMap nbC))(v0:wH w ys)(K:us.length=xs.length)(hn:xs.length≤64)(hq:ys.length≤512)(e0:∀ x∈xs,x.xs.length≤4096∧∀ y∈x.xs,FvOk (nbV y))(f0:∀ x∈us,x.xs.length≤4096∧∀ y∈x.xs,FvOk (nbV y))(g0:∀ y∈ys,FvOk (nbV y)) :
 Calls Tryz.prog 32 #[.agg #[.slice W xs.length xc,.slice X us.length sc,.slice yA ys.length yc]] w (ZbM (fun v=>v) (fun x=>x.xs.map fmT=xs.map mxT∧x.ss.map fmT=us.map mxT∧x.ys=ys.map ftV) w):=by
 obtain⟨o,q⟩:∃ m,m=w.heap.size:=⟨_,rfl⟩
 refine zV (Φ:=fun w=>(OwnD w H 94 3 W xc xs.length (xs.flatMap mxC)∧OwnD w H 94 3 X sc us.length (us.flatMap mxC))) func32 rfl qK (fun w' hf=>⟨t0.ext hf,u0.ext hf⟩) ?_
 refine yY (xq 2 [Δ 1,Δ 2] [(2,35,[Ω,Ω,Ω]),(1,92,[Λ W xs.length xc,Λ X us.length sc,Λ yA ys.length yc])] ?_)
 refine yZ (yY (xq 1 [Δ 3] [(3,35,[Ω,Ω,Ω])] ?_))
 refine yZ (zD (yY (xq 4 [yJ 9 xs.length,yJ 10 0] [] ?_)))
 refine yZ (zO ?_)
 refine xI (fun nn ss ff=>∃ (k:Nat) (A:Option Addr) (cap:Nat) (l:List Fm) (B:Option Addr) (n:Nat) (I:List Fm),ss=ofL [Δ 1,Δ 2,Δ 3,yJ 9 xs.length,yJ 10 k] [(3,35,[Λ A k cap,Λ B k n,Ω]),(2,35,[Ω,Ω,Ω]),(1,92,[Λ W xs.length xc,Λ X us.length sc,Λ yA ys.length yc])]∧ff=(fun w=>(((((OwnD w H 94 3 W xc xs.length (xs.flatMap mxC)∧OwnD w H 94 3 X sc us.length (us.flatMap mxC))∧OwnD w o 59 3 A cap k (l.flatMap fmC))∧xG o w l)∧OwnD w o 59 3 B n k (I.flatMap fmC))∧xG o w I))∧(k≤xs.length)∧(l.map fmT=(xs.take k).map mxT)∧(I.map fmT=(us.take k).map mxT)∧(k=0→A=none)∧(k=0→B=none)∧(Dis A (bkA B))∧nn=(1+(xs.length-k))) _ ⟨0,none,0,([]:List Fm),none,0,([]:List Fm),rfl,rfl,(uT _),rfl,rfl,(fun _=>rfl),(fun _=>rfl),Dis.nil,rfl⟩ (fun w Q=>⟨⟨⟨⟨⟨Q.1,Q.2⟩,(OwnD.nil _ _ _ _)⟩,xG.nil⟩,(OwnD.nil _ _ _ _)⟩,xG.nil⟩) ?_
 rintro nn ss ff ⟨k,A,cap,l,B,n,I,rfl,rfl,hk,h0,i0,w0,x0,j0,rfl⟩
 refine yY (xq 1 [yB 11 (decide ((k:Int)<((xs.length:Nat):Int)))] [] ?_)
 refine yZ (zD ?_)
 refine yQ ((decide ((k:Int)<((xs.length:Nat):Int)))) (fun N=>?_) fun N=>?_
 ·have u:k<xs.length:=by have:=uB N;omega
  refine zG (zB (zD (zO (yY (xq 2 [yJ 4 k] [] ?_)))))
  refine yZ (zD ?_)
  refine kR 9 [0,1,0,4,0,28,60,124,252] qK qK zQ ?_
  refine xqg 5 [eS1 14 A k cap,eS1 16 W xs.length xc,yJ 17 k] ?_
  refine xqj 18 _ (fun w Q=>xM (t:=90) (e:=94) (sz:=3) (x:=.tmp 16) (ix:=.tmp 17) (cap:=xc) (i:=k) (Q.1.1.1.1.1.ne u) u) ?_
  obtain⟨a,O⟩:∃ x,xs[k]! = x:=⟨_,rfl⟩
  refine xqj 19 (.agg #[yI a.r, yI a.c,.slice a.A a.xs.length a.cap]) (fun w Q=>by rw[←O];exact wX (t:=94) (x:=.tmp 18) Q.1.1.1.1.1 Zeo u) ?_
  have E:a∈xs:=by rw[←O];exact wJ u
  refine xqd _ _ 20 (fun b:{b:Nat // o≤b}=>.agg #[yI a.r, yI a.c,.slice (yL b.1) (a.xs.map ftV).length (a.xs.map ftV).length]) _ (fun w R Q=>(ZeV H a.r a.c a.A a.cap a.xs.length a.xs _ (OwnD.ext (b0 _ E).1 R) (wH.ext (b0 _ E).2 R) rfl (hg.ext R) (e0 _ E).1 (fun y hy=>(fun h=>⟨uD h.1 qD,h.2.2.2⟩:FvOk (nbV y)→_) ((e0 _ E).2 y hy))).mono (fun _ _ h=>Zll (q ▸ R.size) h)) fun⟨L,E0⟩=>?_
  refine gI 21 (fun P:{b:Nat // o≤b}=>Υ P.1 1) (fun P zw=>Blk 59 zw P.1 #[yI a.r, yI a.c,.slice (yL L) (a.xs.map ftV).length (a.xs.map ftV).length]) qK qK qK qK qK qK qK (fun w R Q=>wA (q ▸ R.size) (t:=32) (sz:=3) (z:=.agg #[yI 0, yI 0,Ξ]) (parts:=#[(0,Operand.tmp 20)]) qK qK qK qK qK qK) fun⟨y0,F0⟩=>?_
  refine xPg ?_
  refine xz ?_
  refine fS (d:=22) (bytes:=40) (t:=32) (e:=59) (s0:=Operand.tmp 14) (x:=Operand.tmp 21) (xs:=l.flatMap fmC) (news:=[yI a.r, yI a.c,.slice (yL L) (a.xs.map ftV).length (a.xs.map ftV).length]) (z:=(.agg #[yI 0, yI 0,Ξ])) o A (bkA B) (fun j hj h=>Or.inl (q ▸ h)) y0 1 (fun w=>(((((OwnD w H 94 3 W xc xs.length (xs.flatMap mxC)∧OwnD w H 94 3 X sc us.length (us.flatMap mxC))∧xG o w l)∧OwnD w o 59 3 B n k (I.flatMap fmC))∧xG o w I)∧OwnD w o 61 2 (yL L) (a.xs.map ftV).length (a.xs.map ftV).length ((a.xs.map ftV).flatMap flC))) (fun w R Q=>q ▸ R.size) (fun w Q=>Q.1.1.1.1.1.2) (fun w Q=>Blk.news Q.2) rfl qD rfl (wW.list qS) qD (by simp[Value.oneCell']) nd2 (by simp only[maxLen];omega) qO w0 (fun w Q=>OwnD.lt Q.1.1.1.2) j0 (fun w w2 R Q F=>⟨⟨⟨⟨⟨OwnD.apart Q.1.1.1.1.1.1.1 Q.1.1.1.1.1.2 qD F,OwnD.apart Q.1.1.1.1.1.1.2 Q.1.1.1.1.1.2 qD F⟩,xG.apart Q.1.1.1.1.2 Q.1.1.1.1.1.2 qD F⟩,OwnD.dis Q.1.1.1.2 j0 F⟩,xG.apart Q.1.1.2 Q.1.1.1.1.1.2 qD F⟩,OwnD.apart Q.1.2 Q.1.1.1.1.1.2 qD F⟩) fun S Y a0=>?_
  refine xP ?_
  refine xq 2 [] [(3,35,[Λ S (k+1) Y,Λ B k n,Ω])] ?_
  refine xe (zB ?_)
  refine kR 9 [0,1,0,4,0,28,60,124,252] qK qK zQ ?_
  refine xqg 5 [eS1 25 B k n,eS1 27 X us.length sc,yJ 28 k] ?_
  refine xqj 29 _ (fun w Q=>xM (t:=90) (e:=94) (sz:=3) (x:=.tmp 27) (ix:=.tmp 28) (cap:=sc) (i:=k) (Q.1.1.1.1.1.2.ne (K.symm ▸ u)) (K.symm ▸ u)) ?_
  obtain⟨g,T⟩:∃ x,us[k]! = x:=⟨_,rfl⟩
  refine xqj 30 (.agg #[yI g.r, yI g.c,.slice g.A g.xs.length g.cap]) (fun w Q=>by rw[←T];exact wX (t:=94) (x:=.tmp 29) Q.1.1.1.1.1.2 Zeo (K.symm ▸ u)) ?_
  have G:g∈us:=by rw[←T];exact wJ (K.symm ▸ u)
  refine xqd _ _ 31 (fun b:{b:Nat // o≤b}=>.agg #[yI g.r, yI g.c,.slice (yL b.1) (g.xs.map ftV).length (g.xs.map ftV).length]) _ (fun w R Q=>(ZeV H g.r g.c g.A g.cap g.xs.length g.xs _ (OwnD.ext (c0 _ G).1 R) (wH.ext (c0 _ G).2 R) rfl (hg.ext R) (f0 _ G).1 (fun y hy=>(fun h=>⟨uD h.1 qD,h.2.2.2⟩:FvOk (nbV y)→_) ((f0 _ G).2 y hy))).mono (fun _ _ h=>Zll (q ▸ R.size) h)) fun⟨Z,G0⟩=>?_
  refine gI 32 (fun P:{b:Nat // o≤b}=>Υ P.1 1) (fun P zw=>Blk 59 zw P.1 #[yI g.r, yI g.c,.slice (yL Z) (g.xs.map ftV).length (g.xs.map ftV).length]) qK qK qK qK qK qK qK (fun w R Q=>wA (q ▸ R.size) (t:=32) (sz:=3) (z:=.agg #[yI 0, yI 0,Ξ]) (parts:=#[(0,Operand.tmp 31)]) qK qK qK qK qK qK) fun⟨z0,H0⟩=>?_
  refine xPg ?_
  refine xz ?_
  refine fS (d:=33) (bytes:=40) (t:=32) (e:=59) (s0:=Operand.tmp 25) (x:=Operand.tmp 32) (xs:=I.flatMap fmC) (news:=[yI g.r, yI g.c,.slice (yL Z) (g.xs.map ftV).length (g.xs.map ftV).length]) (z:=(.agg #[yI 0, yI 0,Ξ])) o B (bkA S) (fun j hj h=>Or.inl (q ▸ h)) z0 1 (fun w=>((((((OwnD w H 94 3 W xc xs.length (xs.flatMap mxC)∧OwnD w H 94 3 X sc us.length (us.flatMap mxC))∧xG o w l)∧xG o w I)∧OwnD w o 61 2 (yL L) (a.xs.map ftV).length (a.xs.map ftV).length ((a.xs.map ftV).flatMap flC))∧OwnD w o 59 3 S Y (k+1) (l.flatMap fmC ++ [yI a.r, yI a.c,.slice (yL L) (a.xs.map ftV).length (a.xs.map ftV).length]))∧OwnD w o 61 2 (yL Z) (g.xs.map ftV).length (g.xs.map ftV).length ((g.xs.map ftV).flatMap flC))) (fun w R Q=>q ▸ R.size) (fun w Q=>Q.1.1.1.1.1.2) (fun w Q=>Blk.news Q.2) rfl qD rfl (wW.list qS) qD (by simp[Value.oneCell']) nd2 (by simp only[maxLen];omega) qO x0 (fun w Q=>OwnD.lt Q.1.1.2) (Dis.symm a0.2.2) (fun w w2 R Q F=>⟨⟨⟨⟨⟨⟨OwnD.apart Q.1.1.1.1.1.1.1.1 Q.1.1.1.1.1.2 qD F,OwnD.apart Q.1.1.1.1.1.1.1.2 Q.1.1.1.1.1.2 qD F⟩,xG.apart Q.1.1.1.1.1.1.2 Q.1.1.1.1.1.2 qD F⟩,xG.apart Q.1.1.1.1.2 Q.1.1.1.1.1.2 qD F⟩,OwnD.apart Q.1.1.1.2 Q.1.1.1.1.1.2 qD F⟩,OwnD.dis Q.1.1.2 (Dis.symm a0.2.2) F⟩,OwnD.apart Q.1.2 Q.1.1.1.1.1.2 qD F⟩) fun k0 l0 n0=>?_
  refine xP ?_
  refine xq 2 [] [(3,35,[Λ S (k+1) Y,Λ k0 (k+1) l0,Ω])] ?_
  refine xe (xK (zB (zC (xq 1 [yJ 35 (IntKind.i64.wrap ((k:Int)+1))] [] ?_))))
  rw[yW ((k:Int)+1) (((k+1:Nat):Int)) qO]
  refine xq 1 [yJ 10 (k+1:Nat)] [] ?_
  refine xe ?_
  exact xC _ qO ⟨(k+1),S,Y,(l ++ [(⟨a.r,a.c,yL L,(a.xs.map ftV).length,a.xs.map ftV⟩:Fm)]),k0,l0,(I ++ [(⟨g.r,g.c,yL Z,(g.xs.map ftV).length,g.xs.map ftV⟩:Fm)]),rfl,rfl,u,(fM h0 u (by rw[O];rfl)),(fM i0 (K.symm ▸ u) (by rw[T];rfl)),(fun h=>absurd h (sG _)),(fun h=>absurd h (sG _)),(Dis.symm n0.2.2),rfl⟩ (fun w Q=>⟨⟨⟨⟨⟨Q.1.1.1.1.1.1.1,Q.1.1.1.1.1.1.2⟩,(by rw[vR];exact Q.1.1.2)⟩,(xG.snoc Q.1.1.1.1.1.2 Q.1.1.1.2)⟩,(by rw[vR];exact Q.2)⟩,(xG.snoc Q.1.1.1.1.2 Q.1.2)⟩)
 have A0:k=xs.length:=by have:=uC N;omega
 refine xJ (zE (zE (xL (zB (zD (zD ?_))))))
 subst A0
 refine zC (xr 4 [Δ 2,Δ 3,eS1 37 yA ys.length yc,yJ 38 ys.length,yJ 39 0] [(3,35,[Λ A xs.length cap,Λ B xs.length n,Ω]),(2,35,[Ω,Ω,Ω])] ?_)
 refine yZ (zO ?_)
 refine xI (fun nn ss ff=>∃ (k:Nat) (C:Option Addr) (D:Nat) (l3:List (ByteArray×Int)),ss=ofL [Δ 2,Δ 3,eS1 37 yA ys.length yc,yJ 38 ys.length,yJ 39 k] [(3,35,[Λ A xs.length cap,Λ B xs.length n,Λ C k D]),(2,35,[Ω,Ω,Ω])]∧ff=(fun w=>((((OwnD w o 59 3 A cap xs.length (l.flatMap fmC)∧xG o w l)∧OwnD w o 59 3 B n xs.length (I.flatMap fmC))∧xG o w I)∧OwnD w o 61 2 C D k (l3.flatMap flC)))∧(k≤ys.length)∧(l3=(ys.take k).map ftV)∧(k=0→C=none)∧(Dis C (fun j=>bkF l j∨bkF I j))∧nn=(1+(ys.length-k))) _ ⟨0,none,0,([]:List (ByteArray×Int)),rfl,rfl,(uT _),rfl,(fun _=>rfl),Dis.nil,rfl⟩ (fun w Q=>⟨⟨⟨⟨Q.1.1.1.2,Q.1.1.2⟩,Q.1.2⟩,Q.2⟩,(OwnD.nil _ _ _ _)⟩) ?_
 rintro nn ss ff ⟨k,C,D,l3,rfl,rfl,hk,o0,B0,hC,rfl⟩
 refine yY (xq 1 [yB 40 (decide ((k:Int)<((ys.length:Nat):Int)))] [] ?_)
 refine yZ (zD ?_)
 refine yQ ((decide ((k:Int)<((ys.length:Nat):Int)))) (fun U=>?_) fun U=>?_
 ·have M:k<ys.length:=by have:=uB U;omega
  refine zG (zB (zD (zO (zD (zC ?_)))))
  refine xqk 41 _ (fun w R Q=>xM (t:=89) (e:=86) (sz:=3) (x:=.tmp 37) (ix:=.tmp 39) (len:=ys.length) (cap:=yc) (i:=k) ((OwnD.ext d0 R).ne M) M) ?_
  obtain⟨f,V⟩:∃ x,ys[k]! = x:=⟨_,rfl⟩
  refine xqk 42 (yV f.s f.A f.l f.c f.e) (fun w R Q=>by rw[←V];exact wX (t:=86) (x:=.tmp 41) (OwnD.ext d0 R) cO M) ?_
  refine xq 2 [Δ 6] [yF 6 86 f.s f.A f.l f.c f.e] ?_
  refine xe (zB ?_)
  have J:f∈ys:=by rw[←V];exact wJ M
  refine yO 5 zQ ?_
  refine xqg 3 [eS1 44 C k D,(45,.v (yV f.s f.A f.l f.c f.e))] ?_
  refine xqd _ _ 46 (fun _:Unit=>.agg #[.string ⟨(Lib.itoa (sg f.s f.m)).toArray⟩, yI f.e]) _ (fun w R Q=>yN (ZbW f.s f.A f.l f.c f.m f.e _ (hg.ext R) (zL.ext (v0 _ J) R) (uD (g0 _ J).1 qD) (g0 _ J).2.2.2)) fun xx=>?_
  refine gI 47 (fun P:{b:Nat // o≤b}=>Υ P.1 1) (fun P zw=>Blk 61 zw P.1 #[.string ⟨(Lib.itoa (sg f.s f.m)).toArray⟩, yI f.e]) qK qK qK qK qK qK qK (fun w R Q=>wA (q ▸ R.size) (t:=33) (sz:=2) (z:=.agg #[.string ⟨#[]⟩, yI 0]) (parts:=#[(0,Operand.tmp 46)]) qK qK qK qK qK qK) fun⟨C0,I0⟩=>?_
  refine xPg ?_
  refine xz ?_
  refine fS (d:=48) (cap:=D) (bytes:=24) (t:=33) (e:=61) (s0:=Operand.tmp 44) (x:=Operand.tmp 47) (xs:=l3.flatMap flC) (news:=[.string ⟨(Lib.itoa (sg f.s f.m)).toArray⟩, yI f.e]) (z:=(yS ⟨#[]⟩ 0)) o C (fun j=>bkF l j∨bkF I j) (fun j hj h=>Or.inl (q ▸ h)) C0 1 (fun w=>(((OwnD w o 59 3 A cap xs.length (l.flatMap fmC)∧xG o w l)∧OwnD w o 59 3 B n xs.length (I.flatMap fmC))∧xG o w I)) (fun w R Q=>q ▸ R.size) (fun w Q=>Q.1.1.2) (fun w Q=>Blk.news Q.2) rfl qD rfl (wW.list qS) qD (by simp[Value.oneCell']) qS (by simp only[maxLen];omega) qO B0 (fun w Q=>Zit (xG.lt Q.1.1.1.1.1.2) (xG.lt Q.1.1.1.2)) hC (fun w w2 R Q F=>⟨⟨⟨OwnD.apart Q.1.1.1.1.1.1 Q.1.1.2 qD F,xG.dis Q.1.1.1.1.1.2 hC.l F⟩,OwnD.apart Q.1.1.1.1.2 Q.1.1.2 qD F⟩,xG.dis Q.1.1.1.2 hC.r F⟩) fun p0 q0 r0=>?_
  refine xP ?_
  refine xq 2 [] [(3,35,[Λ A xs.length cap,Λ B xs.length n,Λ p0 (k+1) q0])] ?_
  refine xe (xK (zB (zC (xq 1 [yJ 50 (IntKind.i64.wrap ((k:Int)+1))] [] ?_))))
  rw[yW ((k:Int)+1) (((k+1:Nat):Int)) qO]
  refine xq 1 [yJ 39 (k+1:Nat)] [] ?_
  refine xe ?_
  exact xC _ qO ⟨(k+1),p0,q0,(l3 ++ [ftV f]),rfl,rfl,M,(ZhQ o0 M (by rw[V])),(fun h=>absurd h (sG _)),r0.2.2,rfl⟩ (fun w Q=>⟨⟨⟨⟨Q.1.1.1.1,Q.1.1.1.2⟩,Q.1.1.2⟩,Q.1.2⟩,(by rw[vR];exact Q.2)⟩)
 have D0:k=ys.length:=by have:=uC U;omega
 refine xJ (zE (zE (xL (zB (yY (xq 2 [] [(2,35,[Λ A xs.length cap,Λ B xs.length n,Λ C k D])] ?_))))))
 refine yZ (zJ ?_)
 refine yR (.agg #[.slice A xs.length cap,.slice B xs.length n,.slice C k D]) fun w' R Q=>?_
 exact Zoo mxT ftV K h0 rfl i0 o0 D0 Q.1.1.1.1 Q.1.1.1.2 Q.1.1.2 Q.1.2 Q.2 q R
def bkM (l:List Mx):Nat→Prop:=fun j=>∃ x∈l,x.A=some ⟨j,0,none⟩
theorem MsOk.lt {m:Nat}{w:World}{l:List Mx}(h:MsOk m w l):∀ j,bkM l j→j<w.heap.size:=fun j ⟨x,a,b⟩=>OwnD.lt (h x a).1 j b
theorem MsOk.old {m f b k c n:Nat}{w w':World}{l:List Mx}{e:TypeId}{xs:List Value}(h:MsOk m w l)(g:OwnD w f e k (some ⟨b,0,none⟩) c n xs)(d:Fr (fun i=>i=b) w w')(o:∀ j,bkM l j→¬ j=b):MsOk m w' l:=fun x a =>
 ⟨(h x a).1.fr d (fun i hi e=>o i ⟨x,a,hi⟩ e),wH.nrb (h x a).2 (fun i e=>by subst e;exact g.nrb rfl) d⟩
theorem wH.unit {w:World}{n:Nat}{z:Nb}(h:NbOk w z):wH w (lK n nb0 z):=fun y a=>by
 rcases Zd2 a with rfl|rfl
 ·exact h
 exact zL.zero w
theorem Zrs {n:Nat}:∀ y∈List.replicate n nb0,FvOk (nbV y):=fun y a=>by
 rw[(rE.1 a).2]
 exact Zcm
theorem Zly {n b:Nat}{z:Nb}:[(⟨n,n,some ⟨b,0,none⟩,n*n,lK n nb0 z⟩:Mx)].flatMap mxC=[.int .i64 ((n:Nat):Int),.int .i64 ((n:Nat):Int),.slice (some ⟨b,0,none⟩) (n*n) (n*n)]:=by
 simp[mxC,ZbN]
theorem ZpF {n b:Nat}{z:Nb}:mxT (⟨n,n,some ⟨b,0,none⟩,n*n,lK n nb0 z⟩:Mx)=((((n:Nat):Int)).toNat,(((n:Nat):Int)).toNat,lK (((n:Nat):Int)).toNat (ftV nb0) (ftV z)):=by
 show (n,n,(lK n nb0 z).map ftV)=(n,n,lK n (ftV nb0) (ftV z))
 rw[Zok]
theorem Zrt {n b:Nat}{z:Nb}{l:List Mx}(h:∀ x∈l,x.xs.length≤4096∧∀ y∈x.xs,FvOk (nbV y))(c:n≤32)(d:FvOk (nbV z)):∀ x∈l ++ [(⟨n,n,some ⟨b,0,none⟩,n*n,lK n nb0 z⟩:Mx)],x.xs.length≤4096∧∀ y∈x.xs,FvOk (nbV y):=fun x a=>by
 rcases tI.1 a with a|a
 ·exact h x a
 rw[vX.1 a]
 refine⟨by show (lK n nb0 z).length≤_;rw[ZbN];exact uD (sI c c) qD,fun y e=>?_⟩
 rcases Zd2 e with rfl|rfl
 ·exact d
 exact Zcm
theorem Zru {x:It}{l:List Mx}{bs:List Int}{q:Nat}{z:Nb}{f:ByteArray×Int}(h:x.xs.map fmT=l.map mxT∧x.ss.map fmT=l.map mxT∧x.ys=(List.replicate q nb0).map ftV)(a:l.map mxT=(bs.take bs.length).map (fun b=>(b.toNat,b.toNat,lK b.toNat (ftV nb0) (ftV z))))(c:f=ftV z):Zbj bs q f (ftW (false,0,0)) x:=by
 subst c
 rw[sP] at a
 exact⟨h.1.trans a,h.2.1.trans a,by rw[h.2.2,oS];rfl⟩
theorem Zop (c:Nat)(f g e:qA)(xc sc i n q:Nat)(xs d:List Mx)(ys:List Nb)(w:World)(A:Glob w)(j:OwnD w c 94 3 f xc n (xs.flatMap mxC))(k:MsOk c w xs)(l:OwnD w c 94 3 g sc n (d.flatMap mxC))(m:MsOk c w d)(o:OwnD w c 86 3 e i q (ys.flatMap nbC))(p:wH w ys)(r:xs.length=n)(b:d.length=n)(s:ys.length=q)(B:n≤64)(C:q≤512)(t:∀ x∈xs,x.xs.length≤4096∧∀ y∈x.xs,FvOk (nbV y))(u:∀ x∈d,x.xs.length≤4096∧∀ y∈x.xs,FvOk (nbV y))(z:∀ y∈ys,FvOk (nbV y)) :
 Calls Tryz.prog 32 #[.agg #[.slice f n xc,.slice g n sc,.slice e q i]] w (ZbM (fun v=>v) (fun x=>x.xs.map fmT=xs.map mxT∧x.ss.map fmT=d.map mxT∧x.ys=ys.map ftV) w):=by
 subst r s
 have a:=l
 rw[←b] at a
 have h:=Zkx c f g e xc sc i xs d ys w A j k a m o p b B C t u z
 rw[b] at h
 exact h
theorem Zd4 (m:Nat)(p:Sdp)(s:ByteArray)(b E:Int)(w:World)(c:Glob w)(f:SdpOk m w p)(e:SdpV p)(j:(bytes s).length≤570)(g:p.qs.length≤32)(a:((xW (bytes s)).isSome=false∧E=1)∨((xW (bytes s)).isSome=true∧(valF (bytes s)).num.sign≤0∧E=1)∨((xW (bytes s)).isSome=true∧0<(valF (bytes s)).num.sign∧lR p b=E∧lR p b≠0)) :
 yA 8 #[.agg #[.slice p.bA p.bs.length p.bc,.int .i64 p.free,.slice p.oA p.os.length p.oc,.slice p.fA p.fs.length p.fc,.slice p.eA p.qs.length p.ec],.string s,.int .i64 b] w (RetV w (.tuple #[.agg #[Ξ,Ξ,Ξ],.int .i64 E])):=by
 have i:=e.b0
 refine zV func8 rfl qK (fun w' k=>trivial) ?_
 refine yY (xq 3 [Δ 3,Δ 6,yJ 7 0] [(6,35,[Ω,Ω,Ω]),(3,27,[Λ p.bA p.bs.length p.bc,Γ p.free,Λ p.oA p.os.length p.oc,Λ p.fA p.fs.length p.fc,Λ p.eA p.qs.length p.ec])] ?_)
 refine yZ (zD (zD ?_))
 rcases a with a|a|a
 ·refine zC (xq 1 [(16,.v (.agg #[.slice p.bA p.bs.length p.bc, yI p.free,.slice p.oA p.os.length p.oc,.slice p.fA p.fs.length p.fc,.slice p.eA p.qs.length p.ec]))] [] ?_)
  refine xqc _ _ 17 (fun _:Unit=>.bool true) _ (fun w R Q=>yN (dZ m p _ (c.ext R) (f.ext R) e)) fun d=>?_
  refine xq 3 [yB 19 false,yT 20 s] [] ?_
  refine xqc _ _ 21 (fun _:Unit=>.bool false) _ (fun w R Q=>(jT s _ (c.ext R) qO).mono (fun _ _ h=>zI h (by rw[a.1]))) fun d=>?_
  refine xq 7 [yB 28 true] [] ?_
  refine yZ (xa (yY (xq 3 [yJ 7 1] [] ?_)))
  refine yZ (zJ (zM ?_))
  refine yR (.tuple #[.agg #[Ξ,Ξ,Ξ], yI 1]) fun w' R Q=>?_
  exact⟨by rw[a.2],R⟩
 ·refine zC (xq 1 [(16,.v (.agg #[.slice p.bA p.bs.length p.bc, yI p.free,.slice p.oA p.os.length p.oc,.slice p.fA p.fs.length p.fc,.slice p.eA p.qs.length p.ec]))] [] ?_)
  refine xqc _ _ 17 (fun _:Unit=>.bool true) _ (fun w R Q=>yN (dZ m p _ (c.ext R) (f.ext R) e)) fun d=>?_
  refine xq 3 [yB 19 false,yT 20 s] [] ?_
  refine xqc _ _ 21 (fun _:Unit=>.bool true) _ (fun w R Q=>(jT s _ (c.ext R) qO).mono (fun _ _ h=>zI h (by rw[a.1]))) fun d=>?_
  refine xq 4 [yB 24 false,yT 25 s] [] ?_
  refine xqc _ _ 26 (fun _:Unit=>yI (valF (bytes s)).num.sign) _ (fun w R Q=>yN (ZdT s _ (c.ext R) qO)) fun d=>?_
  refine xq 1 [yB 27 (decide ((valF (bytes s)).num.sign≤0))] [] ?_
  rw[(show decide ((valF (bytes s)).num.sign≤0)=true from vP (by have:=a.2;omega))]
  refine xq 1 [yB 28 true] [] ?_
  refine yZ (xa (yY (xq 3 [yJ 7 1] [] ?_)))
  refine yZ (zJ (zM ?_))
  refine yR (.tuple #[.agg #[Ξ,Ξ,Ξ], yI 1]) fun w' R Q=>?_
  exact⟨by rw[a.2.2],R⟩
 refine zC (xq 1 [(16,.v (.agg #[.slice p.bA p.bs.length p.bc, yI p.free,.slice p.oA p.os.length p.oc,.slice p.fA p.fs.length p.fc,.slice p.eA p.qs.length p.ec]))] [] ?_)
 refine xqc _ _ 17 (fun _:Unit=>.bool true) _ (fun w R Q=>yN (dZ m p _ (c.ext R) (f.ext R) e)) fun d=>?_
 refine xq 3 [yB 19 false,yT 20 s] [] ?_
 refine xqc _ _ 21 (fun _:Unit=>.bool true) _ (fun w R Q=>(jT s _ (c.ext R) qO).mono (fun _ _ h=>zI h (by rw[a.1]))) fun d=>?_
 refine xq 4 [yB 24 false,yT 25 s] [] ?_
 refine xqc _ _ 26 (fun _:Unit=>yI (valF (bytes s)).num.sign) _ (fun w R Q=>yN (ZdT s _ (c.ext R) qO)) fun d=>?_
 refine xq 1 [yB 27 (decide ((valF (bytes s)).num.sign≤0))] [] ?_
 rw[(show decide ((valF (bytes s)).num.sign≤0)=false from uR (by have:=a.2;omega))]
 refine xq 1 [yB 28 false] [] ?_
 refine yZ (xb (zG (zB (zD (yY (xq 2 [(30,.v (.agg #[.slice p.bA p.bs.length p.bc, yI p.free,.slice p.oA p.os.length p.oc,.slice p.fA p.fs.length p.fc,.slice p.eA p.qs.length p.ec])),yJ 31 b] [] ?_))))))
 refine xqc _ _ 32 (fun _:Unit=>yI (lR p b)) _ (fun w R Q=>yN (ZaE p b _ g)) fun d=>?_
 refine xq 1 [yJ 8 (lR p b)] [] ?_
 refine yZ (yY (xq 2 [yB 34 (((lR p b):Int) != 0)] [] ?_))
 rw[(show (lR p b != 0)=true by simpa using a.2.2.2)]
 refine yZ (xa (yY (xq 4 [yJ 7 (lR p b)] [] ?_)))
 refine yZ (zJ (zM ?_))
 refine yR (.tuple #[.agg #[Ξ,Ξ,Ξ], yI (lR p b)]) fun w' R Q=>?_
 exact⟨by rw[a.2.2.1],R⟩
theorem ZjK (m:Nat)(p:Sdp)(s:ByteArray)(v:Rat)(b:Nat)(w:World)(X:Glob w)(hp:SdpOk m w p)(hV:SdpV p)(hs:(bytes s).length≤570)(hq:p.qs.length≤32)(hv:xW (bytes s)=some v)(w0:0<(valF (bytes s)).num.sign)(x0:8≤b)(y0:b≤1024)(hP:lR p ((b:Nat):Int)=0)(Y:(rndF v b).err=0) :
 yA 8 #[.agg #[.slice p.bA p.bs.length p.bc,.int .i64 p.free,.slice p.oA p.os.length p.oc,.slice p.fA p.fs.length p.fc,.slice p.eA p.qs.length p.ec],.string s,.int .i64 ((b:Nat):Int)] w (ZbM (fun v=>.tuple #[v,.int .i64 0]) (Zbj p.bs p.qs.length (ftW (fvR (rndF v b))) (ftW (false,0,0))) w):=by
 obtain⟨o,E⟩:∃ m,m=w.heap.size:=⟨_,rfl⟩
 have z0:=hV.b0
 have h0:(xW (bytes s)).isSome=true:=by rw[hv];rfl
 refine zV func8 rfl qK (fun w' hf=>trivial) ?_
 refine yY (xq 3 [Δ 3,Δ 6,yJ 7 0] [(6,35,[Ω,Ω,Ω]),(3,27,[Λ p.bA p.bs.length p.bc,Γ p.free,Λ p.oA p.os.length p.oc,Λ p.fA p.fs.length p.fc,Λ p.eA p.qs.length p.ec])] ?_)
 refine yZ (zD (yY (xq 1 [(16,.v (.agg #[.slice p.bA p.bs.length p.bc, yI p.free,.slice p.oA p.os.length p.oc,.slice p.fA p.fs.length p.fc,.slice p.eA p.qs.length p.ec]))] [] ?_)))
 refine xqc _ _ 17 (fun _:Unit=>.bool true) _ (fun w R Q=>yN (dZ m p _ (X.ext R) (hp.ext R) hV)) fun xx=>?_
 refine xq 3 [yB 19 false,yT 20 s] [] ?_
 refine xqc _ _ 21 (fun _:Unit=>.bool true) _ (fun w R Q=>(jT s _ (X.ext R) qO).mono (fun _ _ h=>zI h (by rw[h0]))) fun xx=>?_
 refine xq 4 [yB 24 false,yT 25 s] [] ?_
 refine xqc _ _ 26 (fun _:Unit=>yI (valF (bytes s)).num.sign) _ (fun w R Q=>yN (ZdT s _ (X.ext R) qO)) fun xx=>?_
 refine xq 1 [yB 27 (decide ((valF (bytes s)).num.sign≤0))] [] ?_
 rw[(show decide ((valF (bytes s)).num.sign≤0)=false from uR qO)]
 refine xq 1 [yB 28 false] [] ?_
 refine yZ (xb (zG (zB (zD (yY (xq 2 [(30,.v (.agg #[.slice p.bA p.bs.length p.bc, yI p.free,.slice p.oA p.os.length p.oc,.slice p.fA p.fs.length p.fc,.slice p.eA p.qs.length p.ec])),yJ 31 b] [] ?_))))))
 refine xqc _ _ 32 (fun _:Unit=>yI 0) _ (fun w R Q=>(ZaE p b _ hq).mono (fun _ _ h=>zI h (by rw[hP]))) fun xx=>?_
 refine xq 1 [yJ 8 0] [] ?_
 refine yZ (yY (xq 2 [yB 34 false] [] ?_))
 refine yZ (xb (zG (zB (yY (xq 2 [yT 38 s,yJ 39 b] [] ?_)))))
 obtain⟨r,hr⟩:=yE (rndF v b)
 have he:r.err=0:=by rw[←hr];exact Y
 have hf:FvOk (fvR r):=by rw[←hr];exact ZaW v.den_pos qO qO Y
 refine xqc _ _ 40 (fun q:ShN=>.tuple #[yV r.s q.1 q.2.1 q.2.2 r.e, yI 0]) _ (fun w R Q=>((show Calls _ _ _ _ (lB w r) by rw[←hr];exact ZjA s v b _ (X.ext R) hs hv qO qO)).mono (fun _ _ h=>ZcZ he h)) fun⟨u,C,D⟩=>?_
 obtain⟨z,hz⟩:∃ z:Nb,z=⟨r.s,u,C,D,r.m,r.e⟩:=⟨_,rfl⟩
 refine xq 6 [Δ 9,yJ 10 0] [yF 9 86 r.s u C D r.e] ?_
 refine yZ (zD (yY (xq 2 [yB 44 false] [] ?_)))
 refine yZ (xb (zG (zB (yY (xr 3 [Δ 3,Δ 6,yJ 7 0,Δ 9,yJ 49 p.qs.length] [yF 9 86 r.s u C D r.e,(6,35,[Ω,Ω,Ω]),(3,27,[Λ p.bA p.bs.length p.bc,Γ p.free,Λ p.oA p.os.length p.oc,Λ p.fA p.fs.length p.fc,Λ p.eA p.qs.length p.ec])] ?_)))))
 refine yD (d:=50) (fun bb:{b:Nat // o≤b}=>Υ bb.1 p.qs.length) (fun bb w=>OwnD w o 86 3 (yL bb.1) p.qs.length p.qs.length ((List.replicate p.qs.length nb0).flatMap nbC)) (fun w R Q=>cJ (t:=89) (kl:=.i64) (kc:=.i64) (l:=.tmp 49) (c:=.tmp 49) (bytes:=40) (z:=.agg #[.bool false,Ξ, yI 0]) nb0 cO qD rfl Zgd (E ▸ R.size) (by simp only[maxLen];omega) qO) fun⟨g,t0⟩=>?_
 refine xP ?_
 refine xq 3 [Δ 11] [(11,92,[Ω,Ω,Λ (yL g) p.qs.length p.qs.length])] ?_
 refine yZ (zD (yY (xq 4 [eS1 53 p.bA p.bs.length p.bc,yJ 54 p.bs.length,yJ 55 0] [] ?_)))
 refine yZ (zO ?_)
 refine xI (fun Z ss ff=>∃ (k:Nat) (A:Option Addr) (cap:Nat) (B:Option Addr) (f:Nat) (l:List Mx),ss=ofL [Δ 6,yJ 7 0,Δ 9,Δ 11,eS1 53 p.bA p.bs.length p.bc,yJ 54 p.bs.length,yJ 55 k] [(11,92,[Λ A k cap,Λ B k f,Λ (yL g) p.qs.length p.qs.length]),yF 9 86 r.s u C D r.e,(6,35,[Ω,Ω,Ω])]∧ff=(fun w=>((((zL w (.slice u C D) r.m∧OwnD w o 94 3 A cap k (l.flatMap mxC))∧OwnD w o 94 3 B f k (l.flatMap mxC))∧MsOk o w l)∧OwnD w o 86 3 (yL g) p.qs.length p.qs.length ((List.replicate p.qs.length nb0).flatMap nbC)))∧(k≤p.bs.length)∧(l.map mxT=(p.bs.take k).map (fun b=>(b.toNat,b.toNat,lK b.toNat (ftV nb0) (ftV (⟨r.s,u,C,D,r.m,r.e⟩:Nb)))))∧(k=0→A=none)∧(k=0→B=none)∧(Dis A (bkA B))∧(∀ x∈l,x.xs.length≤4096∧∀ y∈x.xs,FvOk (nbV y))∧Z=(1+(p.bs.length-k))) _ ⟨0,none,0,none,0,([]:List Mx),rfl,rfl,(uT _),rfl,(fun _=>rfl),(fun _=>rfl),Dis.nil,(fun _ h=>nomatch h),rfl⟩ (fun w Q=>⟨⟨⟨⟨Q.1.2,(OwnD.nil _ _ _ _)⟩,(OwnD.nil _ _ _ _)⟩,(fun _ h=>nomatch h)⟩,Q.2⟩) ?_
 rintro Z ss ff ⟨k,A,cap,B,f,l,rfl,rfl,hk,hl,i0,j0,a0,U,rfl⟩
 refine yY (xq 1 [yB 56 (decide ((k:Int)<((p.bs.length:Nat):Int)))] [] ?_)
 refine yZ (zD ?_)
 refine yQ ((decide ((k:Int)<((p.bs.length:Nat):Int)))) (fun J=>?_) fun J=>?_
 ·have H:k<p.bs.length:=by have:=uB J;omega
  refine zG (zB (zD (zO (zD (zC ?_)))))
  refine xqk 57 _ (fun w R Q=>xM (t:=22) (e:=3) (sz:=1) (x:=.tmp 53) (ix:=.tmp 55) (cap:=p.bc) (i:=k) ((OwnD.ext hp.bl R).ne H) H) ?_
  obtain⟨K,L⟩:∃ x,p.bs[k]! = x:=⟨_,rfl⟩
  refine xqk 58 (yI K) (fun w R Q=>by rw[←L];exact ZaY (t:=3) (x:=.tmp 57) (OwnD.ext hp.bl R) H) ?_
  have k0:1≤K∧K≤32:=by rw[←L];exact hV.b1 _ (wJ H)
  obtain⟨n,en⟩:∃ n:Nat,K=(n:Int):=⟨K.toNat,qO⟩
  subst en
  have V:1≤n∧n≤32:=qO
  have A0:n*n≤32*32:=sI V.2 V.2
  refine xq 1 [yJ 13 n] [] ?_
  refine yZ (yY (xq 2 [yJ 59 n,yJ 60 n] [] ?_))
  refine SXi.size (fun O=>o≤O∧∀ j,bkA (yL g) j∨bkM l j→j<O) (fun w R Q=>⟨E ▸ R.size,Zit (OwnD.lt Q.2) (MsOk.lt Q.1.2)⟩) fun O P=>?_
  refine xqc _ _ 61 (fun b:{b:Nat // O≤b}=>.agg #[yI n, yI n,Υ b.1 (n*n)]) _ (fun w R Q=>(ZhI n n _ qO qO).mono (fun _ _ h=>ZhJ Q.2 rfl h)) fun⟨a,c0⟩=>?_
  refine xq 2 [Δ 14] [(14,94,[Γ n,Γ n,Λ (yL a) (n*n) (n*n)])] ?_
  refine yZ (zD (yY (xq 2 [yJ 62 n,yJ 63 0] [] ?_)))
  refine yZ (zO ?_)
  refine xI (fun Z ss ff=>∃ (i:Nat),ss=ofL [Δ 6,yJ 7 0,Δ 9,Δ 11,Δ 14,eS1 53 p.bA p.bs.length p.bc,yJ 54 p.bs.length,yJ 55 k,yJ 62 n,yJ 63 i] [(14,94,[Γ n,Γ n,Λ (yL a) (n*n) (n*n)]),(11,92,[Λ A k cap,Λ B k f,Λ (yL g) p.qs.length p.qs.length]),yF 9 86 r.s u C D r.e,(6,35,[Ω,Ω,Ω])]∧ff=(fun w=>(((((zL w (.slice u C D) r.m∧OwnD w o 94 3 A cap k (l.flatMap mxC))∧OwnD w o 94 3 B f k (l.flatMap mxC))∧MsOk o w l)∧OwnD w o 86 3 (yL g) p.qs.length p.qs.length ((List.replicate p.qs.length nb0).flatMap nbC))∧OwnD w O 86 3 (yL a) (n*n) (n*n) ((bM n nb0 (⟨r.s,u,C,D,r.m,r.e⟩:Nb) i).flatMap nbC)))∧(i≤n)∧Z=(1+(n-i))) _ ⟨0,rfl,rfl,(uT _),rfl⟩ (fun w Q=>⟨⟨⟨⟨⟨Q.1.1.1.1.1.1,Q.1.1.1.1.1.2⟩,Q.1.1.1.1.2⟩,Q.1.1.1.2⟩,Q.1.1.2⟩,(by rw[Zmy];exact Q.2)⟩) ?_
  rintro Z ss ff ⟨i,rfl,rfl,hi,rfl⟩
  refine yY (xq 1 [yB 64 (decide ((i:Int)<(n:Int)))] [] ?_)
  refine yZ (zD ?_)
  refine yQ ((decide ((i:Int)<(n:Int)))) (fun M=>?_) fun M=>?_
  ·have I:i<n:=by have:=uB M;omega
   refine zG (zB (zD (zO (yY (xq 2 [yJ 15 i] [] ?_)))))
   refine yZ (zC (xq 4 [(66,.v (.agg #[yI n, yI n,Υ a (n*n)])),yJ 67 i,yJ 68 i,(69,.v (yV r.s u C D r.e))] [] ?_))
   refine iV (d:=70) 31 [.agg #[yI n, yI n,Υ a (n*n)], yI i, yI i, yV r.s u C D r.e] (fun _:Unit=>.tuple #[]) (fun w=>((((zL w (.slice u C D) r.m∧OwnD w o 94 3 A cap k (l.flatMap mxC))∧OwnD w o 94 3 B f k (l.flatMap mxC))∧MsOk o w l)∧OwnD w o 86 3 (yL g) p.qs.length p.qs.length ((List.replicate p.qs.length nb0).flatMap nbC))) (fun _ w=>OwnD w O 86 3 (yL a) (n*n) (n*n) (((bM n nb0 (⟨r.s,u,C,D,r.m,r.e⟩:Nb) i).set (i*n+i) (⟨r.s,u,C,D,r.m,r.e⟩:Nb)).flatMap nbC)) (fun w Q=>Zn8 Q.2 (by rw[ZbO];have:=gidx I I;omega)) (Or.inl (E ▸ uD P.1 c0)) (fun w R Q=>yM Zpu (Zpp O n n a (n*n) (n*n) (bM n nb0 (⟨r.s,u,C,D,r.m,r.e⟩:Nb) i) i i (⟨r.s,u,C,D,r.m,r.e⟩:Nb) _ Q.2 (ZbO ..) qO qO (gidx I I) qO)) (fun w w' R Q G=>⟨⟨⟨⟨zL.nrb Q.1.1.1.1.1 (fun i e=>by subst e;exact OwnD.nrb Q.2 rfl) G,OwnD.apart Q.1.1.1.1.2 Q.2 qD (G.mono (fun _ _ (h:_=a)=>by rw[h]))⟩,OwnD.apart Q.1.1.1.2 Q.2 qD (G.mono (fun _ _ (h:_=a)=>by rw[h]))⟩,MsOk.old Q.1.1.2 Q.2 G (fun j hj e=>by have e:j=a:=e;have:=P.2 j (Or.inr hj);omega)⟩,OwnD.fr Q.1.2 G (fun i hi e=>by have e:i=a:=e;have:=P.2 i (Or.inl hi);omega)⟩) fun _=>?_
   refine xP ?_
   refine xe (xK (zB (zC (xq 1 [yJ 71 (IntKind.i64.wrap ((i:Int)+1))] [] ?_))))
   rw[yW ((i:Int)+1) (((i+1:Nat):Int)) qO]
   refine xq 1 [yJ 63 (i+1:Nat)] [] ?_
   refine xe ?_
   exact xC _ qO ⟨(i+1),rfl,rfl,I,rfl⟩ (fun w Q=>⟨⟨⟨⟨⟨Q.1.1.1.1.1,Q.1.1.1.1.2⟩,Q.1.1.1.2⟩,Q.1.1.2⟩,Q.1.2⟩,(by rw[←Zom _ _ _ _ I];exact Q.2)⟩)
  have l0:i=n:=by have:=uC M;omega
  refine xJ (zE (zE (xL (zB (zD ?_)))))
  have n0:bM n nb0 (⟨r.s,u,C,D,r.m,r.e⟩:Nb) i=lK n nb0 (⟨r.s,u,C,D,r.m,r.e⟩:Nb):=by rw[l0];exact Zol _ _ _
  rw[n0]
  refine zC (xr 3 [Δ 6,yJ 7 0,Δ 9,Δ 11,Δ 14,eS1 53 p.bA p.bs.length p.bc,yJ 54 p.bs.length,yJ 55 k,eS1 73 A k cap,(74,.v (.agg #[yI n, yI n,Υ a (n*n)]))] [(14,94,[Γ n,Γ n,Λ (yL a) (n*n) (n*n)]),(11,92,[Λ A k cap,Λ B k f,Λ (yL g) p.qs.length p.qs.length]),yF 9 86 r.s u C D r.e,(6,35,[Ω,Ω,Ω])] ?_)
  refine yD (d:=75) (fun W:{b:Nat // o≤b}=>Υ W.1 1) (fun W zw=>Blk 94 zw W.1 #[yI n, yI n,Υ a (n*n)]) (fun w R Q=>wA (E ▸ R.size) (t:=90) (sz:=3) (z:=.agg #[yI 0, yI 0,Ξ]) (parts:=#[(0,Operand.tmp 74)]) qK qK qK qK qK qK) fun⟨o0,u0⟩=>?_
  refine xP ?_
  refine fS (d:=76) (bytes:=40) (t:=90) (e:=94) (s0:=Operand.tmp 73) (x:=Operand.tmp 75) (xs:=l.flatMap mxC) (news:=[yI n, yI n,Υ a (n*n)]) (z:=(.agg #[yI 0, yI 0,Ξ])) o A (bkA B) (fun j hj h=>Or.inl (E ▸ h)) o0 1 (fun w=>((((zL w (.slice u C D) r.m∧OwnD w o 94 3 B f k (l.flatMap mxC))∧MsOk o w l)∧OwnD w o 86 3 (yL g) p.qs.length p.qs.length ((List.replicate p.qs.length nb0).flatMap nbC))∧OwnD w O 86 3 (yL a) (n*n) (n*n) ((lK n nb0 (⟨r.s,u,C,D,r.m,r.e⟩:Nb)).flatMap nbC))) (fun w R Q=>E ▸ R.size) (fun w Q=>Q.1.1.1.1.1.2) (fun w Q=>Blk.news Q.2) rfl qD rfl (wW.list qS) qD (by simp[Value.oneCell']) nd2 (by simp only[maxLen];omega) qO i0 (fun w Q=>OwnD.lt Q.1.1.1.1.2) a0 (fun w w2 R Q G=>⟨⟨⟨⟨zL.rowD Q.1.1.1.1.1.1 Q.1.1.1.1.1.2 G,OwnD.dis Q.1.1.1.1.2 a0 G⟩,MsOk.row Q.1.1.1.2 Q.1.1.1.1.1.2 G⟩,OwnD.apart Q.1.1.2 Q.1.1.1.1.1.2 qD G⟩,OwnD.apart Q.1.2 Q.1.1.1.1.1.2 qD G⟩) fun N S T=>?_
  refine xP ?_
  refine xq 2 [] [(11,92,[Λ N (k+1) S,Λ B k f,Λ (yL g) p.qs.length p.qs.length])] ?_
  refine yZ (zC (xq 3 [eS1 79 B k f,(80,.v (.agg #[yI n, yI n,Υ a (n*n)]))] [] ?_))
  refine yD (d:=81) (fun W:{b:Nat // o≤b}=>Υ W.1 1) (fun W zw=>Blk 94 zw W.1 #[yI n, yI n,Υ a (n*n)]) (fun w R Q=>wA (E ▸ R.size) (t:=90) (sz:=3) (z:=.agg #[yI 0, yI 0,Ξ]) (parts:=#[(0,Operand.tmp 80)]) qK qK qK qK qK qK) fun⟨p0,v0⟩=>?_
  refine xP ?_
  refine fS (d:=82) (bytes:=40) (t:=90) (e:=94) (s0:=Operand.tmp 79) (x:=Operand.tmp 81) (xs:=l.flatMap mxC) (news:=[yI n, yI n,Υ a (n*n)]) (z:=(.agg #[yI 0, yI 0,Ξ])) o B (bkA N) (fun j hj h=>Or.inl (E ▸ h)) p0 1 (fun w=>((((zL w (.slice u C D) r.m∧MsOk o w l)∧OwnD w o 86 3 (yL g) p.qs.length p.qs.length ((List.replicate p.qs.length nb0).flatMap nbC))∧OwnD w O 86 3 (yL a) (n*n) (n*n) ((lK n nb0 (⟨r.s,u,C,D,r.m,r.e⟩:Nb)).flatMap nbC))∧OwnD w o 94 3 N S (k+1) (l.flatMap mxC ++ [yI n, yI n,Υ a (n*n)]))) (fun w R Q=>E ▸ R.size) (fun w Q=>Q.1.1.1.1.1.2) (fun w Q=>Blk.news Q.2) rfl qD rfl (wW.list qS) qD (by simp[Value.oneCell']) nd2 (by simp only[maxLen];omega) qO j0 (fun w Q=>OwnD.lt Q.1.2) (Dis.symm T.2.2) (fun w w2 R Q G=>⟨⟨⟨⟨zL.rowD Q.1.1.1.1.1.1 Q.1.1.1.1.1.2 G,MsOk.row Q.1.1.1.1.2 Q.1.1.1.1.1.2 G⟩,OwnD.apart Q.1.1.1.2 Q.1.1.1.1.1.2 qD G⟩,OwnD.apart Q.1.1.2 Q.1.1.1.1.1.2 qD G⟩,OwnD.dis Q.1.2 (Dis.symm T.2.2) G⟩) fun d0 e0 f0=>?_
  refine xP ?_
  refine xq 2 [] [(11,92,[Λ N (k+1) S,Λ d0 (k+1) e0,Λ (yL g) p.qs.length p.qs.length])] ?_
  refine xe (xK (zB (zC (xq 1 [yJ 84 (IntKind.i64.wrap ((k:Int)+1))] [] ?_))))
  rw[yW ((k:Int)+1) (((k+1:Nat):Int)) qO]
  refine xq 1 [yJ 55 (k+1:Nat)] [] ?_
  refine xe ?_
  exact xC _ qO ⟨(k+1),N,S,d0,e0,(l ++ [(⟨n,n,yL a,n*n,lK n nb0 (⟨r.s,u,C,D,r.m,r.e⟩:Nb)⟩:Mx)]),rfl,rfl,H,(fM hl H (by rw[L];exact ZpF)),(fun h=>absurd h (sG _)),(fun h=>absurd h (sG _)),(Dis.symm f0.2.2),(Zrt U V.2 hf),rfl⟩ (fun w Q=>⟨⟨⟨⟨Q.1.1.1.1.1,(by rw[vR,Zly];exact Q.1.2)⟩,(by rw[vR,Zly];exact Q.2)⟩,(MsOk.snoc Q.1.1.1.1.2 ⟨by show OwnD _ _ _ _ _ _ (lK n nb0 (⟨r.s,u,C,D,r.m,r.e⟩:Nb)).length _;rw[ZbN];exact OwnD.mono Q.1.1.2 P.1,wH.unit Q.1.1.1.1.1⟩)⟩,Q.1.1.1.2⟩)
 have q0:k=p.bs.length:=by have:=uC J;omega
 refine xJ (zE (zE (xL (zB (zD ?_)))))
 have g0:l.length=k:=by have:=uX List.length hl;rw[uL,uL,uM] at this;omega
 refine zC (xq 1 [(85,.v (.agg #[.slice A k cap,.slice B k f,Υ g p.qs.length]))] [] ?_)
 refine xqc _ _ 86 (fun x:{x:It // x.xs.map fmT=l.map mxT∧x.ss.map fmT=l.map mxT∧x.ys=(List.replicate p.qs.length nb0).map ftV}=>.agg #[.slice x.1.xA x.1.xs.length x.1.xc,.slice x.1.sA x.1.ss.length x.1.sc,.slice x.1.yA x.1.ys.length x.1.yc]) _ (fun w R Q=>(Zop o A B (yL g) cap f p.qs.length k p.qs.length l l (List.replicate p.qs.length nb0) _ (X.ext R) Q.1.1.1.2 Q.1.2 Q.1.1.2 Q.1.2 Q.2 (wH.zero _ _) g0 g0 (tH ..) qO qO U U Zrs).mono (fun _ _ h=>Zer (E ▸ R.size) h)) fun⟨F,r0⟩=>?_
 refine xq 2 [yJ 7 0] [(6,35,[Λ F.xA F.xs.length F.xc,Λ F.sA F.ss.length F.sc,Λ F.yA F.ys.length F.yc])] ?_
 refine yZ (zJ ?_)
 refine yR (.tuple #[.agg #[.slice F.xA F.xs.length F.xc,.slice F.sA F.ss.length F.sc,.slice F.yA F.ys.length F.yc], yI 0]) fun w' R Q=>?_
 exact⟨F,rfl,Zru r0 (q0 ▸ hl) (by rw[←hr];rfl),E ▸ Q.2,R⟩
end Go.Proofs.YtdlgidnkmbklcaaGreatDoor
