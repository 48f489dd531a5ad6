/-
 My texts Pt, Nw, Fu, FlD, Nsh, Ro, Rg, Nss, Rb, Rnd, Sx14, Sx15, Sx16 put together.
-/
import Derived.Test.YtklpdkpcocnglaaGreatDoorX17
import Derived.Lib.Bytealg
import Derived.Test.YtklpdkpcocnglaaGreatDoorX16
import Derived.Test.YtklpdkpcocnglaaGreatDoorX08
import Derived.Test.YtklpdkpcocnglaaGreatDoorX14
import Derived.Test.YtklpdkpcocnglaaGreatDoorX07
set_option maxRecDepth 100000
set_option maxHeartbeats 8000000
namespace Go.Proofs.YtklpdkpcocnglaaGreatDoor
open Go.RowKit
theorem Zcu:∀ l:List UInt8,Lib.indexByte l 47=if (l.takeWhile zX).length<l.length then ((l.takeWhile zX).length:Int) else -1
 | []=>by simp[Lib.indexByte]
 | b :: l=>by
  have e:=Zcu l
  unfold Lib.indexByte
  by_cases a:b=47
  ·subst a;simp[zX]
  have f:(b == (47:UInt8))=false:=by simpa using a
  have g:zX b=true:=by simp[zX,a]
  rw[f,e]
  simp only[pG,g,sQ,pS,tT,qU]
  generalize (l.takeWhile zX).length=k
  generalize l.length=n
  by_cases d:k<n
  ·have c:k+1<n+1:=by omega
   have h:((k:Int) == -1)=false:=by simp
   rw[uL c,uL d]
   simp only[h,tT,qU]
   omega
  have c:¬ k+1<n+1:=by omega
  rw[uJ c,uJ d]
  rfl
theorem ZrO {s:ByteArray}(h:bytes s=[47]):(0:Int)=Lib.indexByte (bytes s) 47:=by rw[h];rfl
theorem ZqT {s:ByteArray}(h:bytes s=[47]):((⟨#[47]⟩:ByteArray).toList == s.toList)=true:=by
 rw[Lib.toList_data,Lib.toList_data,show s.data.toList=[47] from h];rfl
theorem ZqU {s:ByteArray}(h:¬ bytes s=[47]):((⟨#[47]⟩:ByteArray).toList == s.toList)=false:=by
 rw[Lib.toList_data,Lib.toList_data];exact rH.2 (fun e=>h e.symm)
theorem ZqV {p:Nat}(h:p≤1000000):IntKind.i64.wrap (((p:Nat):Int)+((⟨#[47]⟩:ByteArray).size:Int))=((p+1:Nat):Int):=by
 rw[show (((⟨#[47]⟩:ByteArray).size:Nat):Int)=1 from rfl,IntKind.wrap_i64];omega
theorem ZlS (z:Int):(Lib.itoa z).all zX=true:=by
 rcases pR z 0 with h|h
 ·rw[ZbR h,rY,Zae (jK _)];rfl
 rw[show z=((z.toNat:Nat):Int) by omega,jR];exact Zae (jK _)
theorem Zio {l:List UInt8}{q:Rat}(h:xS l=some q)(a:q.den=1):l=Lib.itoa q.num∧l.length≤(l.takeWhile zX).length:=by
 have b:xA q=l:=gV h
 have e:l=Lib.itoa q.num:=by rw[←b];unfold xA;rw[uL a]
 refine⟨e,?_⟩
 have:=ZlS q.num
 rw[←e] at this
 rw[(dF this).1]
 exact uM _
theorem Zoh {l:List UInt8}{q:Rat}(h:xS l=some q)(b:¬ q.den=1):l.takeWhile zX=Lib.itoa q.num∧l.drop ((l.takeWhile zX).length+1)=Lib.itoa (q.den:Int)∧(l.takeWhile zX).length<l.length:=by
 have d:xA q=l:=gV h
 have e:l=Lib.itoa q.num ++ 47 :: Lib.itoa (q.den:Int):=by rw[←d];unfold xA;rw[uJ b];simp
 obtain⟨a,f⟩:=Zaw (p:=zX) (r:=Lib.itoa (q.den:Int)) (c:=47) (ZlS q.num) (by decide)
 rw[←e] at a f
 refine⟨a,?_,?_⟩
 ·rw[a,e,← vM,List.drop_left];rfl
 rw[a,e];simp
theorem ZmX:Ending.returned (.tuple #[.string ⟨#[48]⟩,.string ⟨#[49]⟩])=Ending.returned (.tuple #[.string ⟨(Lib.itoa (0:Rat).num).toArray⟩,.string ⟨(Lib.itoa ((0:Rat).den:Int)).toArray⟩]):=by
 rw[show (0:Rat).num=((0:Nat):Int) from rfl,show ((0:Rat).den:Int)=((1:Nat):Int) from rfl,Zay (by decide),Zay (by decide)];rfl
theorem Zlb (s:ByteArray):Ending.returned (.tuple #[.string s,.string ⟨#[49]⟩])=Ending.returned (.tuple #[.string ⟨(bytes s).toArray⟩,.string ⟨(Lib.itoa ((1:Nat):Int)).toArray⟩]):=by
 rw[Zay (by decide)];rfl
theorem neg_zero:Ending.returned (.string ⟨#[48]⟩)=Ending.returned (.string ⟨(xA (-(0:Rat))).toArray⟩):=by
 rw[show -(0:Rat)=0 from rfl,zt]
theorem ZfN (x:Int):xA ((x:Int):Rat)=Lib.itoa x:=by unfold xA;exact uL rfl
theorem Zoi (s:ByteArray)(w:World):yA 224 #[.string s,.int .u8 (((47:UInt8).toNat:Nat):Int)] w (RetV w (.int .i64 (Lib.indexByte (bytes s) 47))):=by
 refine (Tryz.stringslite_IndexByte s (((47:UInt8).toNat:Nat):Int) w).mono ?_
 rintro e w' ⟨rfl,rfl⟩
 exact⟨rfl,Fr.refl _ _⟩
theorem ZcS (s:ByteArray)(w:World) :
 yA 198 #[.string s,.string ⟨#[47]⟩] w (RetV w (.int .i64 (Lib.indexByte (bytes s) 47))):=by
 refine zV (Φ:=fun w=>True) Tryz.func198 rfl (by kernel_rfl) (fun w' d=>trivial) ?_
 refine zC (zB (xr 1 [yT 0 s,yT 1 ⟨#[47]⟩,yJ 4 0] [] ?_))
 refine xe (zA (zC (zB (xr 2 [yT 0 s,yT 1 ⟨#[47]⟩,yJ 4 0,yJ 15 ((⟨#[47]⟩:ByteArray).size:Int)] [] ?_))))
 rw[(show (((⟨#[47]⟩:ByteArray).size:Nat):Int)=1 from rfl)]
 refine xr 1 [yT 0 s,yT 1 ⟨#[47]⟩,yJ 4 0,yJ 5 1] [] ?_
 refine xe (zA (zC (xM (zC ?_))))
 by_cases a:bytes s=[47]
 ·refine zB (xr 6 [yT 0 s,yT 1 ⟨#[47]⟩,yJ 4 0,yJ 5 1,yB 19 false,yB 22 ((⟨#[47]⟩:ByteArray).toList == (s:ByteArray).toList)] [] ?_)
  rw[ZqT a]
  refine xr 2 [yT 0 s,yT 1 ⟨#[47]⟩,yJ 4 0,yJ 5 1,yB 16 true] [] ?_
  refine xe (zA (xa (zC (zB (xr 1 [yT 0 s,yT 1 ⟨#[47]⟩,yJ 4 0,yJ 5 1] [] ?_)))))
  refine xe (zA (zG (wU (zI ?_))))
  refine yR (.int .i64 0) fun w' R Q=>?_
  exact⟨by rw[←ZrO a],R⟩
 refine zB (xr 6 [yT 0 s,yT 1 ⟨#[47]⟩,yJ 4 0,yJ 5 1,yB 19 false,yB 22 ((⟨#[47]⟩:ByteArray).toList == (s:ByteArray).toList)] [] ?_)
 rw[ZqU a]
 refine xr 2 [yT 0 s,yT 1 ⟨#[47]⟩,yJ 4 0,yJ 5 1,yB 16 false] [] ?_
 refine xe (zA (xb (zC (zB (xr 3 [yT 0 s,yT 1 ⟨#[47]⟩,yJ 4 0,yJ 5 1,yB 24 true] [] ?_)))))
 refine xe (zA (xa (zC (zB (xr 2 [yT 0 s,yT 1 ⟨#[47]⟩,yJ 4 0,yJ 5 1,yT 27 s,yT 28 ⟨#[47]⟩] [] ?_)))))
 refine yK 29 (.int .u8 (((47:UInt8).toNat:Nat):Int)) (fun w R Q=>bU (c:=47) (b:=⟨#[47]⟩) (t:=9) (x:=.tmp 28) (k:=0) (i:=.const (.int .i64 0)) (by kernel_rfl) (by kernel_rfl) (by kernel_rfl) (by rfl) (by rfl)) ?_
 refine xr 0 [yT 0 s,yT 1 ⟨#[47]⟩,yJ 4 0,yJ 5 1,yT 27 s,(29,.v (.int .u8 (((47:UInt8).toNat:Nat):Int)))] [] ?_
 refine xc 224 [.string s,.int .u8 (((47:UInt8).toNat:Nat):Int)] 30 (fun _:Unit=>.int .i64 (Lib.indexByte (bytes s) 47)) _ (fun w R Q=>yN (Zoi s _)) fun e=>?_
 refine xr 1 [yT 0 s,yT 1 ⟨#[47]⟩,yJ 4 (Lib.indexByte (bytes s) 47),yJ 5 1] [] ?_
 refine xe (zA (zG (wU (zI ?_))))
 refine yR (.int .i64 (Lib.indexByte (bytes s) 47)) fun w' R Q=>?_
 exact⟨rfl,R⟩
theorem Zj3 (s x y:ByteArray)(p:Nat)(w:World)(f:s.size≤100000)(c:p=((bytes s).takeWhile zX).length)(b:p<s.size)(d:s.extract 0 p=x)(e:s.extract (p+1) s.size=y) :
 yA 173 #[.string s,.string ⟨#[47]⟩] w (RetV w (.tuple #[.string x,.string y,.bool true])):=by
 have a:((bytes s).takeWhile zX).length<(bytes s).length:=by rw[←c,zP];exact b
 refine zV (Φ:=fun w=>True) Tryz.func173 rfl (by kernel_rfl) (fun w' g=>trivial) ?_
 refine zC (zB (xr 3 [yT 0 s,yT 1 ⟨#[47]⟩,yT 4 ⟨#[]⟩,yT 5 ⟨#[]⟩,yB 6 false] [] ?_))
 refine xe (zA (zC (zC (zB (xr 2 [yT 0 s,yT 1 ⟨#[47]⟩,yT 4 ⟨#[]⟩,yT 5 ⟨#[]⟩,yB 6 false,yT 8 s,yT 9 ⟨#[47]⟩] [] ?_)))))
 refine xc 198 [.string s,.string ⟨#[47]⟩] 10 (fun _:Unit=>.int .i64 (p:Int)) _ (fun w R Q=>(ZcS s _).mono (fun _ _ h=>zD h (by rw[Zcu,uL a,← c]))) fun i=>?_
 refine xr 1 [yT 0 s,yT 1 ⟨#[47]⟩,yT 4 ⟨#[]⟩,yT 5 ⟨#[]⟩,yB 6 false,yJ 7 (p:Int)] [] ?_
 refine xe (zA (zC (zB (xr 2 [yT 0 s,yT 1 ⟨#[47]⟩,yT 4 ⟨#[]⟩,yT 5 ⟨#[]⟩,yB 6 false,yJ 7 (p:Int),yB 12 (decide ((p:Int)≥0))] [] ?_))))
 rw[(show decide ((p:Int)≥0)=true from uW (by omega))]
 refine xr 0 [yT 0 s,yT 1 ⟨#[47]⟩,yT 4 ⟨#[]⟩,yT 5 ⟨#[]⟩,yB 6 false,yJ 7 (p:Int),yB 12 true] [] ?_
 refine xe (zA (xa (zC ?_)))
 refine yO 12 zL ?_
 refine xf 2 [yT 0 s,yT 1 ⟨#[47]⟩,yT 4 ⟨#[]⟩,yT 5 ⟨#[]⟩,yB 6 false,yJ 7 (p:Int),yT 13 s,yJ 14 (p:Int)] [] ?_
 refine Zbn 15 (.string x) (by kernel_rfl) (by kernel_rfl) (by kernel_rfl) (by kernel_rfl) (by kernel_rfl) (by kernel_rfl) (fun w Q=>gU 0 p (t:=9) (x:=.tmp 13) (lo:=none) (hi:=(some (Operand.tmp 14))) (by kernel_rfl) (by kernel_rfl) (by kernel_rfl) (Or.inl ⟨rfl,rfl⟩) (Or.inr (by kernel_rfl)) (by omega) (by omega) d) ?_
 refine xf 5 [yT 0 s,yT 4 ⟨#[]⟩,yT 5 ⟨#[]⟩,yB 6 false,yT 15 x,yT 16 s,yJ 20 (IntKind.i64.wrap ((p:Int)+((⟨#[47]⟩:ByteArray).size:Int)))] [] ?_
 rw[ZqV (p:=p) (by omega)]
 refine Zbn 21 (.string y) (by kernel_rfl) (by kernel_rfl) (by kernel_rfl) (by kernel_rfl) (by kernel_rfl) (by kernel_rfl) (fun w Q=>gU (p+1) _ (t:=9) (x:=.tmp 16) (lo:=(some (Operand.tmp 20))) (hi:=none) (by kernel_rfl) (by kernel_rfl) (by kernel_rfl) (Or.inr (by kernel_rfl)) (Or.inl ⟨rfl,rfl⟩) (by omega) (uM _) e) ?_
 refine xf 3 [yT 0 s,yT 4 x,yT 5 y,yB 6 true] [] ?_
 refine xz (xe (zA (zG (zI ?_))))
 refine yR (.tuple #[.string x,.string y,.bool true]) fun w' R Q=>?_
 exact⟨rfl,R⟩
theorem Zlc (s:ByteArray)(w:World)(a:¬ ((bytes s).takeWhile zX).length<(bytes s).length) :
 yA 173 #[.string s,.string ⟨#[47]⟩] w (RetV w (.tuple #[.string s,.string ⟨#[]⟩,.bool false])):=by
 refine zV (Φ:=fun w=>True) Tryz.func173 rfl (by kernel_rfl) (fun w' b=>trivial) ?_
 refine zC (zB (xr 3 [yT 0 s,yT 1 ⟨#[47]⟩,yT 4 ⟨#[]⟩,yT 5 ⟨#[]⟩,yB 6 false] [] ?_))
 refine xe (zA (zC (zC (zB (xr 2 [yT 0 s,yT 1 ⟨#[47]⟩,yT 4 ⟨#[]⟩,yT 5 ⟨#[]⟩,yB 6 false,yT 8 s,yT 9 ⟨#[47]⟩] [] ?_)))))
 refine xc 198 [.string s,.string ⟨#[47]⟩] 10 (fun _:Unit=>.int .i64 (-1)) _ (fun w R Q=>(ZcS s _).mono (fun _ _ h=>zD h (by rw[Zcu,uJ a]))) fun c=>?_
 refine xr 1 [yT 0 s,yT 1 ⟨#[47]⟩,yT 4 ⟨#[]⟩,yT 5 ⟨#[]⟩,yB 6 false,yJ 7 (-1)] [] ?_
 refine xe (zA (zC (zB (xr 2 [yT 0 s,yT 1 ⟨#[47]⟩,yT 4 ⟨#[]⟩,yT 5 ⟨#[]⟩,yB 6 false,yJ 7 (-1),yB 12 false] [] ?_))))
 refine xe (zA (xb (zN (zA (zC (zB (xr 4 [yT 4 s,yT 5 ⟨#[]⟩,yB 6 false] [] ?_)))))))
 refine xe (zA (zG ?_))
 refine yR (.tuple #[.string s,.string ⟨#[]⟩,.bool false]) fun w' R Q=>?_
 exact⟨rfl,R⟩
theorem ZmY (s x y:ByteArray)(p:Nat)(w:World)(b:s.size≤100000)(c:p=((bytes s).takeWhile zX).length)(a:p<s.size)(d:s.extract 0 p=x)(e:s.extract (p+1) s.size=y) :
 yA 141 #[.string s,.string ⟨#[47]⟩] w (RetV w (.tuple #[.string x,.string y,.bool true])):=by
 refine zV (Φ:=fun w=>True) Tryz.func141 rfl (by kernel_rfl) (fun w' f=>trivial) ?_
 refine zC (zB (xr 3 [yT 0 s,yT 1 ⟨#[47]⟩,yT 4 ⟨#[]⟩,yT 5 ⟨#[]⟩,yB 6 false] [] ?_))
 refine xe (zA (zC (zB (xr 2 [yT 4 ⟨#[]⟩,yT 5 ⟨#[]⟩,yB 6 false,yT 7 s,yT 8 ⟨#[47]⟩] [] ?_))))
 refine xc 173 [.string s,.string ⟨#[47]⟩] 9 (fun _:Unit=>.tuple #[.string x,.string y,.bool true]) _ (fun w R Q=>yN (Zj3 s x y p _ b c a d e)) fun g=>?_
 refine xr 6 [yT 4 x,yT 5 y,yB 6 true] [] ?_
 refine xe (zA (zG ?_))
 refine yR (.tuple #[.string x,.string y,.bool true]) fun w' R Q=>?_
 exact⟨rfl,R⟩
theorem Zoj (s:ByteArray)(w:World)(a:¬ ((bytes s).takeWhile zX).length<(bytes s).length) :
 yA 141 #[.string s,.string ⟨#[47]⟩] w (RetV w (.tuple #[.string s,.string ⟨#[]⟩,.bool false])):=by
 refine zV (Φ:=fun w=>True) Tryz.func141 rfl (by kernel_rfl) (fun w' b=>trivial) ?_
 refine zC (zB (xr 3 [yT 0 s,yT 1 ⟨#[47]⟩,yT 4 ⟨#[]⟩,yT 5 ⟨#[]⟩,yB 6 false] [] ?_))
 refine xe (zA (zC (zB (xr 2 [yT 4 ⟨#[]⟩,yT 5 ⟨#[]⟩,yB 6 false,yT 7 s,yT 8 ⟨#[47]⟩] [] ?_))))
 refine xc 173 [.string s,.string ⟨#[47]⟩] 9 (fun _:Unit=>.tuple #[.string s,.string ⟨#[]⟩,.bool false]) _ (fun w R Q=>yN (Zlc s _ a)) fun c=>?_
 refine xr 6 [yT 4 s,yT 5 ⟨#[]⟩,yB 6 false] [] ?_
 refine xe (zA (zG ?_))
 refine yR (.tuple #[.string s,.string ⟨#[]⟩,.bool false]) fun w' R Q=>?_
 exact⟨rfl,R⟩
theorem ZmZ (s:ByteArray)(w:World)(n:Glob w)(i:(bytes s).length≤570) :
 yA 98 #[.string s] w (RetV w (.tuple #[.string ⟨(Lib.itoa (valF (bytes s)).num).toArray⟩,.string ⟨(Lib.itoa ((valF (bytes s)).den:Int)).toArray⟩])):=by
 refine zV (Φ:=fun w=>Glob w) Tryz.func98 rfl (by kernel_rfl) (fun w' o=>n.ext o) ?_
 refine zC (zB (xr 2 [yT 0 s,yT 2 ⟨#[]⟩,yT 3 ⟨#[]⟩] [] ?_))
 refine xe (zA (zC (zC (zB (xr 1 [yT 0 s,yT 2 ⟨#[]⟩,yT 3 ⟨#[]⟩,yT 7 s] [] ?_)))))
 by_cases b:(xS (bytes s)).isSome=true
 ·obtain⟨q,c⟩:=tP.1 b
  have d:=cU c
  refine xc 54 [.string s] 8 (fun _:Unit=>.bool true) _ (fun w R Q=>(Zcj s _ Q i).mono (fun _ _ h=>zD h (by rw[b]))) fun f=>?_
  refine xr 1 [yT 0 s,yT 2 ⟨#[]⟩,yT 3 ⟨#[]⟩,yB 9 false] [] ?_
  refine xe (zA (xb (zN (zA (zC (zB (xr 1 [yT 2 ⟨#[]⟩,yT 3 ⟨#[]⟩,yT 11 s] [] ?_)))))))
  by_cases a:q.den=1
  ·refine xc 141 [.string s,.string ⟨#[47]⟩] 12 (fun _:Unit=>.tuple #[.string s,.string ⟨#[]⟩,.bool false]) _ (fun w R Q=>yN (Zoj s _ (by have:=(Zio c a).2;omega))) fun f=>?_
   refine xr 7 [yT 2 ⟨#[]⟩,yT 3 ⟨#[]⟩,yT 4 s,yT 5 ⟨#[]⟩,yB 6 false] [] ?_
   refine xe (zA (zC (zC (zB (xr 2 [yT 2 ⟨#[]⟩,yT 3 ⟨#[]⟩,yT 4 s,yT 5 ⟨#[]⟩,yB 17 true] [] ?_)))))
   refine xe (zA (xa (zC (zB (xr 3 [yT 2 s,yT 3 ⟨#[49]⟩,yT 4 s,yT 5 ⟨#[]⟩] [] ?_)))))
   refine xe (zA (zG (zI ?_)))
   refine yR (.tuple #[.string s,.string ⟨#[49]⟩]) fun w' R Q=>?_
   exact⟨by rw[d,a,← (Zio c a).1];exact Zlb s,R⟩
  obtain⟨r,j,k⟩:=Zoh c a
  obtain⟨p,e⟩:∃ p,p=((bytes s).takeWhile zX).length:=⟨_,rfl⟩
  rw[←e] at j k
  have g:p<s.size:=by rw[←zP];exact k
  obtain⟨x,l⟩:=yE (s.extract 0 p)
  obtain⟨y,m⟩:=yE (s.extract (p+1) s.size)
  have t:x=⟨(Lib.itoa (q.num)).toArray⟩:=ZcQ (by rw[←l,(ZgM e).1,r,zJ])
  have u:y=⟨(Lib.itoa (q.den:Int)).toArray⟩:=ZcQ (by rw[←m,(ZgM e).2,j,zJ])
  refine xc 141 [.string s,.string ⟨#[47]⟩] 12 (fun _:Unit=>.tuple #[.string x,.string y,.bool true]) _ (fun w R Q=>yN (ZmY s x y p _ (by rw[←zP];omega) e g l m)) fun f=>?_
  refine xr 7 [yT 2 ⟨#[]⟩,yT 3 ⟨#[]⟩,yT 4 x,yT 5 y,yB 6 true] [] ?_
  refine xe (zA (zC (zC (zB (xr 2 [yT 2 ⟨#[]⟩,yT 3 ⟨#[]⟩,yT 4 x,yT 5 y,yB 17 false] [] ?_)))))
  refine xe (zA (xb (zN (zA (zC (zB (xr 4 [yT 2 x,yT 3 y] [] ?_)))))))
  refine xe (zA (zG ?_))
  refine yR (.tuple #[.string x,.string y]) fun w' R Q=>?_
  exact⟨by rw[d,t,u],R⟩
 have d:valF (bytes s)=0:=Zih (by cases h:xS (bytes s) with|none=>rfl|some q=>rw[h] at b;exact absurd rfl b)
 refine xc 54 [.string s] 8 (fun _:Unit=>.bool false) _ (fun w R Q=>(Zcj s _ Q i).mono (fun _ _ h=>zD h (by rw[vK.2 b]))) fun f=>?_
 refine xr 1 [yT 0 s,yT 2 ⟨#[]⟩,yT 3 ⟨#[]⟩,yB 9 true] [] ?_
 refine xe (zA (xa (zC (zB (xr 2 [yT 0 s,yT 2 ⟨#[48]⟩,yT 3 ⟨#[49]⟩] [] ?_)))))
 refine xe (zA (zG (zI ?_)))
 refine yR (.tuple #[.string ⟨#[48]⟩,.string ⟨#[49]⟩]) fun w' R Q=>?_
 exact⟨by rw[d];exact ZmX,R⟩
def ZlT (s:ByteArray) (w:World) (e:Ending) (w':World):Prop:=∃ (r:ByteArray) (neg:Bool),e=.returned (.tuple #[.bool neg,.string r])∧zQ (bytes s)=(neg,bytes r)∧Ext w w'
def Zes (x:ByteArray×Bool):Value:=.tuple #[.bool x.2,.string x.1]
theorem Zcl {s:ByteArray}{w w':World}{e:Ending}(h:ZlT s w e w'):kM Zes (fun x _=>zQ (bytes s)=(x.2,bytes x.1)) w e w':=by
 obtain⟨r,neg,rfl,h,Q⟩:=h
 exact⟨(r,neg),rfl,Q,BoxN.pure h⟩
theorem ZpB {t:ByteArray}{i:Nat}{c:UInt8}(e:((bytes t).take i).all zU=true)(hc:t[i]? = some c)(f:¬ (c.toNat:Int)<48)(g:¬ (c.toNat:Int)>57):((bytes t).take (i+1)).all zU=true:=by
 have b:i<t.size:=by
  rcases vJ i t.size with d|d
  ·exact d
  rw[getElem?_neg t i (by omega)] at hc;cases hc
 have a:t[i]=c:=by
  rw[getElem?_pos t i b] at hc
  injection hc
 rw[ZaS _ _ b,rY,e,a]
 have:zU c=true:=by unfold zU;simp;omega
 simp[this]
theorem ZlU {t:ByteArray}{i:Nat}{c:UInt8}(hc:t[i]? = some c)(h:(c.toNat:Int)<48∨(c.toNat:Int)>57):¬ (bytes t).all zU=true:=by
 have b:i<t.size:=by
  rcases vJ i t.size with d|d
  ·exact d
  rw[getElem?_neg t i (by omega)] at hc;cases hc
 have a:t[i]=c:=by
  rw[getElem?_pos t i b] at hc
  injection hc
 intro e
 have f:t[i]∈bytes t:=by
  rw[←Zc6 t b];exact rO _
 have:=cI (vR.1 e _ f)
 rw[a] at this
 unfold zU at *
 have g:=vR.1 e _ f
 rw[a] at g
 simp at g
 omega
section
variable {s r:ByteArray} {neg:Bool} {x:Int}
theorem Zsb (h:bytes s=[48]):fvB (bytes s) x=(x == 0):=by unfold fvB;rw[uL h];rfl
theorem ZcT (h:¬ bytes s=[48])(b:zQ (bytes s)=(neg,bytes r))(a:bytes r=[]∨(bytes r).head? = some 48∨¬ okE x∨¬ (bytes r).all zU=true):fvB (bytes s) x=false:=by
 unfold fvB
 rw[uJ h,b]
 refine vF ?_
 rintro⟨c,d,e,f,_⟩
 rcases a with a|a|a|a
 ·exact c a
 ·exact d a
 ·exact a e
 exact a f
theorem ZqW {c c0:UInt8}(h:¬ bytes s=[48])(i:zQ (bytes s)=(neg,bytes r))(b:r[0]? = some c0)(o:¬ (c0.toNat:Int)=48)(p:¬ x < -1048576)(t:¬ x>1048576)(f:(bytes r).all zU=true){k:Nat}(u:r.size=k+1)(d:r[k]? = some c):fvB (bytes s) x=(((c.toNat % 2:Nat):Int) == 1):=by
 have e:bytes r=(bytes r).take k ++ [c]:=by
  have a:k<r.size:=by omega
  have:=ZaS r k a
  rw[uA (by rw[zP];omega)] at this
  rw[getElem?_pos r k a] at d
  injection d with d
  rw[d] at this
  exact this
 have g:zH (bytes r)%2=c.toNat % 2:=by
  rw[e] at f ⊢
  exact Zpx f
 have j:(bytes r).head? = some c0:=by
  have a:0<r.size:=by omega
  rw[getElem?_pos r 0 a] at b
  injection b with b
  rw[←b];exact ZaT a
 unfold fvB
 rw[uJ h,i]
 have l:c0.toNat≠48:=by omega
 show decide _=decide _
 refine qM.2 ⟨fun q=>?_,fun q=>⟨?_,?_,⟨by omega,by omega⟩,f,?_⟩⟩
 ·have:=q.2.2.2.2
  show ((c.toNat % 2:Nat):Int)=1
  rw[g] at this;omega
 ·intro m
  have n:bytes r=[]:=m
  have:(bytes r).length=0:=by rw[n];rfl
  rw[zP] at this;omega
 ·rw[j];intro e;injection e with e;exact l (by rw[e];rfl)
 have v:((c.toNat % 2:Nat):Int)=1:=q
 show zH (bytes r)%2=1
 rw[g];omega
end
theorem ZpC {P:Program}{o:Oper}{ρ:Operand→Value}{w:World}{t k:TypeId}{x y:Operand}{c:UInt8}(a:o.op=Op.binOp .and t x y k)(b:ρ x=.int .u8 (c.toNat:Int))(d:ρ y=.int .u8 1):(execOp ρ o).run P w=.ok (.value (.int .u8 ((c.toNat % 2:Nat):Int))) w:=by
 have h:bits .and .u8 (c.toNat:Int) 1=((c.toNat % 2:Nat):Int):=by
  have f:=c.toNat_lt
  have e:(BitVec.ofInt 8 (c.toNat:Int)).toNat=c.toNat:=by
   rw[qG,qR];exact vC (by omega)
  show IntKind.u8.wrap ((BitVec.ofInt 8 (c.toNat:Int) &&& BitVec.ofInt 8 1).toNat:Int)=_
  rw[BitVec.toNat_and,e,show (BitVec.ofInt 8 1).toNat=1 from rfl,Nat.and_one_is_mod,IntKind.wrap_u8];omega
 rw[←h]
 simp only[execOp,a,b,d,eqGuard,binOp]
 rfl
theorem Zcm (s:ByteArray)(w:World) :
 yA 63 #[.string s] w (ZlT s w):=by
 refine zV (Φ:=fun w=>True) Tryz.func63 rfl (by kernel_rfl) (fun w' a=>trivial) ?_
 refine zC (zB (xr 2 [yT 0 s,yB 2 false,yT 3 ⟨#[]⟩] [] ?_))
 refine xe (zA (zC (zB (xr 1 [yB 2 false,yT 3 ⟨#[]⟩,yT 7 s] [] ?_))))
 refine xc 104 [.string s,.string ⟨#[45]⟩] 8 (fun x:ByteArray×Bool=>.tuple #[.string x.1,.bool x.2]) _ (fun w R Q=>yM ZmQ (Zd3 s _)) fun⟨r,neg⟩=>?_
 refine xr 5 [yB 2 false,yT 3 ⟨#[]⟩,yT 4 r,yB 5 neg] [] ?_
 refine xe (zA (zC (zB (xr 4 [yB 2 neg,yT 3 r] [] ?_))))
 refine xe (zA (zG ?_))
 refine yR (.tuple #[.bool neg,.string r]) fun w' R Q=>?_
 exact⟨r,neg,rfl,Q.2,R⟩
theorem fP (s:ByteArray)(x:Int)(w:World)(P:(bytes s).length≤1000000) :
 yA 19 #[yS s x] w (RetV w (.bool (fvB (bytes s) x))):=by
 refine zV (Φ:=fun w=>True) Tryz.func19 rfl (by kernel_rfl) (fun w' S=>trivial) ?_
 refine zC (zB (xq 2 [(1,.p 1 0),yB 2 false] [yG 1 24 s x] ?_))
 refine xe (zA (zC (zC ?_)))
 by_cases a:bytes s=[48]
 ·refine zB (xq 3 [yB 8 ((s:ByteArray).toList == (⟨#[48]⟩:ByteArray).toList)] [] ?_)
  rw[Zhw a]
  refine xe (zA (xa (zC (zB (xq 4 [yB 2 ((x:Int) == 0)] [] ?_)))))
  refine xe (zA (zG (zI ?_)))
  refine yR (.bool ((x:Int) == 0)) fun w' R Q=>?_
  exact⟨by rw[Zsb a],R⟩
 refine zB (xq 3 [yB 8 ((s:ByteArray).toList == (⟨#[48]⟩:ByteArray).toList)] [] ?_)
 rw[Zhx a]
 refine xe (zA (xb (zN (zA (zC (zB (xq 2 [yT 14 s] [] ?_)))))))
 refine xqc 63 [.string s] 15 Zes _ (fun w R Q=>yM Zcl (Zcm s _)) fun⟨r,neg⟩=>?_
 refine xq 5 [yT 4 r] [] ?_
 refine xe (zA (zC (zC ?_)))
 refine SXc.know (p:=zQ (bytes s)=(neg,bytes r)) (fun w _ Q=>Q.2) fun l=>?_
 have K:r.size≤1000000:=by have:=ZhX l;rw[zP] at this;omega
 by_cases B:bytes r=[]
 ·refine zB (xq 2 [yB 19 ((r:ByteArray).toList == (⟨#[]⟩:ByteArray).toList)] [] ?_)
  rw[ZlK B]
  refine xq 15 [yB 34 true] [] ?_
  refine xe (zA (xa (zC (zB (xq 1 [yB 2 false] [] ?_)))))
  refine xe (zA (zG (zI ?_)))
  refine yR (.bool false) fun w' R Q=>?_
  exact⟨by rw[ZcT a l (Or.inl B)],R⟩
 obtain⟨C,L,D⟩:=Zj0 B
 have M:=ZfM B
 refine zB (xq 2 [yB 19 ((r:ByteArray).toList == (⟨#[]⟩:ByteArray).toList)] [] ?_)
 rw[ZlL B]
 refine xq 2 [yB 20 false,yT 21 r] [] ?_
 refine xqk 22 (.int .u8 (C.toNat:Int)) (fun w R Q=>bU (t:=9) (x:=.tmp 21) (k:=0) (i:=.const (.int .i64 0)) (by kernel_rfl) (by kernel_rfl) (by kernel_rfl) (by rfl) D) ?_
 refine xq 3 [yB 25 (((C.toNat:Int):Int) == 48)] [] ?_
 rcases bl2 ((((C.toNat:Int):Int) == 48)) with b|b
 ·rw[b]
  have n:=tY.1 b
  refine xq 9 [yB 34 true] [] ?_
  refine xe (zA (xa (zC (zB (xq 1 [yB 2 false] [] ?_)))))
  refine xe (zA (zG (zI ?_)))
  refine yR (.bool false) fun w' R Q=>?_
  exact⟨by rw[ZcT a l (Or.inr (Or.inl (by rw[L,show C=48 from UInt8.toNat_inj.1 (by show C.toNat=48;omega)])))],R⟩
 rw[b]
 have n:=wY b
 refine xq 5 [yB 30 (decide (x<(-1048576)))] [] ?_
 rcases bl2 ((decide (x<(-1048576)))) with d|d
 ·rw[d]
  have o:=uD d
  refine xq 4 [yB 34 true] [] ?_
  refine xe (zA (xa (zC (zB (xq 1 [yB 2 false] [] ?_)))))
  refine xe (zA (zG (zI ?_)))
  refine yR (.bool false) fun w' R Q=>?_
  exact⟨by rw[ZcT a l (Or.inr (Or.inr (Or.inl (by rintro⟨N,O⟩;omega))))],R⟩
 rw[d]
 have o:=uH d
 refine xq 4 [yB 34 (decide (x>1048576))] [] ?_
 refine xe (zA ?_)
 refine yQ ((decide (x>1048576))) (fun f=>?_) fun f=>?_
 ·have q:=uD f
  refine zC (zB (xq 1 [yB 2 false] [] ?_))
  refine xe (zA (zG (zI ?_)))
  refine yR (.bool false) fun w' R Q=>?_
  exact⟨by rw[ZcT a l (Or.inr (Or.inr (Or.inl (by rintro⟨N,O⟩;omega))))],R⟩
 have q:=uH f
 refine zN (zA (zC (zC (zB (xq 3 [yJ 36 ((r).size:Int),yJ 37 0] [] ?_)))))
 refine xe (zA (xM ?_))
 refine yC [yB 2 false,yT 4 r,yJ 36 ((r).size:Int),yJ 37 ((0:Nat):Int)] [] (fun w=>True) (fun w Q=>trivial) ?_
 refine kW (fun nn H I=>∃ (k:Nat),H=ofL [yB 2 false,yT 4 r,yJ 36 ((r).size:Int),yJ 37 (k:Int)] []∧I=(fun w=>True)∧(k≤r.size)∧(((bytes r).take k).all zU=true)∧nn=(r.size-k)) ((r.size-0)) ⟨0,rfl,rfl,(rV _),rfl,rfl⟩ ?_
 rintro nn H I ⟨k,rfl,rfl,T,J,rfl⟩
 refine zC (zB (xq 1 [yB 38 (decide ((k:Int)<((r).size:Int)))] [] ?_))
 refine xe (zA (zC ?_))
 refine yQ ((decide ((k:Int)<((r).size:Int)))) (fun g=>?_) fun g=>?_
 ·have u:=uD g
  have E:k<r.size:=by omega
  obtain⟨c,m⟩:∃ c,r[k]? = some c:=⟨r[k],by simp[E]⟩
  refine zN (zA (zC (xM (zC (zB (xq 2 [yJ 5 (k:Int)] [] ?_))))))
  refine xe (zA (zC (zB (xq 2 [yT 40 r,yJ 41 (k:Int)] [] ?_))))
  refine xqk 42 (.int .u8 (c.toNat:Int)) (fun w R Q=>bU (t:=9) (x:=.tmp 40) (k:=k) (i:=.tmp 41) (by kernel_rfl) (by kernel_rfl) (by kernel_rfl) (by kernel_rfl) m) ?_
  refine xq 2 [yB 44 (decide ((c.toNat:Int)<48))] [] ?_
  rcases bl2 ((decide ((c.toNat:Int)<48))) with e|e
  ·rw[e]
   have v:=uD e
   refine xq 5 [yB 49 true] [] ?_
   refine xe (zA (xa (zC (zB (xq 1 [yB 2 false] [] ?_)))))
   refine xe (zA (zG (wU (zI (zI (wU (zI ?_)))))))
   refine yR (.bool false) fun w' R Q=>?_
   exact⟨by rw[ZcT a l (Or.inr (Or.inr (Or.inr (ZlU m (by omega)))))],R⟩
  rw[e]
  have v:=uH e
  refine xq 2 [yT 45 r,yJ 46 (k:Int)] [] ?_
  refine xqk 47 (.int .u8 (c.toNat:Int)) (fun w R Q=>bU (t:=9) (x:=.tmp 45) (k:=k) (i:=.tmp 46) (by kernel_rfl) (by kernel_rfl) (by kernel_rfl) (by kernel_rfl) m) ?_
  refine xq 2 [yB 49 (decide ((c.toNat:Int)>57))] [] ?_
  refine xe (zA ?_)
  refine yQ ((decide ((c.toNat:Int)>57))) (fun j=>?_) fun j=>?_
  ·have z:=uD j
   refine zC (zB (xq 1 [yB 2 false] [] ?_))
   refine xe (zA (zG (wU (zI (zI (wU (zI ?_)))))))
   refine yR (.bool false) fun w' R Q=>?_
   exact⟨by rw[ZcT a l (Or.inr (Or.inr (Or.inr (ZlU m (by omega)))))],R⟩
  have z:=uH j
  refine zN (lN (zA (zB (xq 1 [yJ 50 (IntKind.i64.wrap ((k:Int)+1))] [] ?_))))
  rw[yW ((k:Int)+1) (((k+1:Nat):Int)) (by omega)]
  refine xq 1 [yJ 37 ((k+1:Nat):Int)] [] ?_
  refine xe ?_
  refine yP [yB 2 false,yT 4 r,yJ 36 ((r).size:Int),yJ 37 (((k+1):Nat):Int)] [] (fun w=>True) (fun w Q=>trivial) ?_
  exact lE ((r.size-(k+1))) (by omega) ⟨(k+1),rfl,rfl,E,(ZpB J m (by omega) (by omega)),rfl⟩
 have u:=uH g
 have F:(bytes r).all zU=true:=by have h:=J;rw[uA (by rw[zP];omega)] at h;exact h
 refine lO (xC (xC (kQ (zA (zC ?_)))))
 obtain⟨A,G⟩:∃ A,r.size=A+1:=⟨r.size-1,by omega⟩
 obtain⟨c,m⟩:∃ c,r[A]? = some c:=⟨r[A],by simp[G]⟩
 refine zB (xq 4 [yT 51 r,yJ 54 (IntKind.i64.wrap (((r).size:Int)-1))] [] ?_)
 rw[yW ((r.size:Int)-1) ((A:Int)) (by omega)]
 refine xqk 55 (.int .u8 (c.toNat:Int)) (fun w R Q=>bU (t:=9) (x:=.tmp 51) (k:=A) (i:=.tmp 54) (by kernel_rfl) (by kernel_rfl) (by kernel_rfl) (by kernel_rfl) m) ?_
 refine xqk 56 (.int .u8 ((c.toNat % 2:Nat):Int)) (fun w R Q=>ZpC (t:=5) (k:=5) (x:=.tmp 55) (y:=.const (.int .u8 1)) (by kernel_rfl) (by kernel_rfl) (by kernel_rfl)) ?_
 refine xq 2 [yB 2 ((((c.toNat % 2:Nat):Int):Int) == 1)] [] ?_
 refine xe (zA (zG ?_))
 refine yR (.bool ((((c.toNat % 2:Nat):Int):Int) == 1)) fun w' R Q=>?_
 exact⟨by rw[ZqW a l D (by omega) (by omega) (by omega) F G m],R⟩
theorem jN (b:Int)(w:World) :
 yA 55 #[.int .i64 b] w (RetV w (.bool (decide (8≤b∧b≤1024)))):=by
 refine zV (Φ:=fun w=>True) Tryz.func55 rfl (by kernel_rfl) (fun w' d=>trivial) ?_
 refine zC (zB (xq 1 [yB 2 false] [] ?_))
 refine xe (zA (zC (zB (xq 3 [yB 5 (decide (b≥8))] [] ?_))))
 rcases bl2 ((decide (b≥8))) with a|a
 ·rw[a]
  have c:=uD a
  refine xq 4 [yB 2 (decide (b≤1024))] [] ?_
  refine xe (zA (zG ?_))
  refine yR (.bool (decide (b≤1024))) fun w' R Q=>?_
  exact⟨vP (fun b=>Ending.returned (Value.bool b)) (qM.2 ⟨fun h=>⟨by omega,h⟩,fun h=>h.2⟩),R⟩
 rw[a]
 have c:=uH a
 refine xq 4 [yB 2 false] [] ?_
 refine xe (zA (zG ?_))
 refine yR (.bool false) fun w' R Q=>?_
 exact⟨by rw[vF (p:=8≤b∧b≤1024) (by omega)],R⟩
end Go.Proofs.YtklpdkpcocnglaaGreatDoor
namespace Go.Proofs.YtklpdkpcocnglaaGreatDoor
open Go.RowKit Go.Sort
def ZbS (w:World) (l:List UInt8) (e:Ending) (w':World):Prop:=e=.returned (.string ⟨l.toArray⟩)∧Ext w w'
theorem ZdK (u:Nat)(w:World)(a:u<100) :
 yA 151 #[.int .u64 (u:Int),.int .i64 10] w (ZbS w (Lib.decDigits u)):=by
 have b:(u:Int)<100:=by omega
 go_enter Tryz.func151,Tryz.ntmps151
 go_wp2_with (go_at_call 179;refine (Tryz.internal_strconv_small u a _).mono ?_;rintro e w' ⟨rfl,rfl⟩)
 go_ret
 exact⟨rfl,Fr.refl _ _⟩
theorem Ze1 (u i:Nat)(w:World)(v:Glob w)(C:100≤u)(a:u<18446744073709551616)(c:Lib.nDigits u=i) :
 yA 151 #[.int .u64 (u:Int),.int .i64 10] w (ZbS w (Lib.decDigits u)):=by
 have n:=Zjd u (by rw[zO];exact a)
 have g:=Lib.decDigits_length u
 rw[c] at g
 rw[g] at n
 have o:Tryz.prog.arrayLen 202=24:=by simp[Program.arrayLen,Tryz.underlying202]
 have z:∀ W,(Instr.sliceAt 202 (.pointer (some ⟨w.heap.size,0,none⟩)) none (some (.int .i64 (i:Int))) none).run Tryz.prog W=.ok (.slice (some ⟨w.heap.size,0,none⟩) i 24) W:=fun W=>by
  rw[run_sliceAt_array_h W 202 ⟨w.heap.size,0,none⟩ (by simp[Program.arrayLen,Program.elem,Tryz.underlying202]) .i64 (i:Int) (by omega) (by rw[o];omega)]
  go_simp
 have l:=Lib.holds_zero0 w 202 i (by omega)
 have d:=Tryz.internal_strconv_formatBase10 w.heap.size 0 24 u (Array.replicate i 0) (w.alloc (.cells Lib.zeros24 202)) l (by rw[pC,← c];exact Lib.lt_pow_nDigits u) a (by rw[pC];omega)
 have f:=Tryz.internal_strconv_numDigits u (by omega) a (w.alloc (.cells Lib.zeros24 202)) (Lib.tabIs_alloc v.1 _)
 rw[pC] at d
 rw[c] at f
 have q:=zh l
 have x:=zh g
 have r:=zh c
 have D:(100:Int)≤(u:Int):=by omega
 clear l o g c v
 go_enter Tryz.func151,Tryz.ntmps151
 go_wp2_with (go_at_call 180;refine f.mono ?_;rintro e w' ⟨rfl,rfl⟩)
 go_at_call 181
 refine d.mono ?_
 rintro e w' ⟨rfl,k,E,m,rfl,p⟩
 have s:(convert 143 9 (.slice (some ⟨w.heap.size,0,none⟩) i 24)).run Tryz.prog ((putRow (fun (b:UInt8)=>Value.int .u8 (b.toNat:Int)) (w.alloc (.cells Lib.zeros24 202)) w.heap.size 0 m).drewN k)=.ok (.string ⟨(Lib.decDigits u).toArray⟩) ((putRow (fun (b:UInt8)=>Value.int .u8 (b.toNat:Int)) (w.alloc (.cells Lib.zeros24 202)) w.heap.size 0 m).drewN k):=by
  have h:=run_convert_bytes_back (P:=Tryz.prog) ((putRow (fun (b:UInt8)=>Value.int .u8 (b.toNat:Int)) (w.alloc (.cells Lib.zeros24 202)) w.heap.size 0 m).drewN k) 143 9 5 ⟨w.heap.size,0,none⟩ 24 (Lib.decDigits u) Tryz.underlying143 Tryz.underlying5 Tryz.underlying9 (fun j t=>by
   rw[Lib.row_is_numeral (by rw[r.out];exact p) j t,Lib.add_plain,World.cell?_drewN]
   exact cell?_putRow (fun (b:UInt8)=>Value.int .u8 (b.toNat:Int)) _ w.heap.size 0 _ m q.out (by rw[p.size,pC]) j (by rw[p.size];rw[x.out] at t;exact t))
  rw[x.out] at h
  exact h
 obtain⟨A,y⟩:=Lib.fin_at w (.cells Lib.zeros24 202) m k 0
 have Q:Ext w ((putRow (fun (b:UInt8)=>Value.int .u8 (b.toNat:Int)) (w.alloc (.cells Lib.zeros24 202)) w.heap.size 0 m).drewN k):=by
  rw[y];exact Fr.ofBelow (Lib.below_grow _ w (uM _) k A)
 generalize (putRow (fun (b:UInt8)=>Value.int .u8 (b.toNat:Int)) (w.alloc (.cells Lib.zeros24 202)) w.heap.size 0 m).drewN k=w1 at Q s ⊢
 have B:=zh Q
 clear Q y p d f
 go_wp2
 go_ret
 exact⟨rfl,B.out⟩
theorem Zhz (u:Nat)(w:World)(b:Glob w)(a:u<W64) :
 yA 110 #[.int .u64 (u:Int),.int .i64 10] w (ZbS w (Lib.decDigits u)):=by
 have h:yA 151 #[.int .u64 (u:Int),.int .i64 10] w (ZbS w (Lib.decDigits u)):=by
  rcases vJ u 100 with h|h
  ·exact ZdK u w h
  exact Ze1 u _ w b h (by rw[zO] at a;exact a) rfl
 have H:=zh h
 clear h b a
 go_enter Tryz.func110,Tryz.ntmps110
 go_wp2_with fail
 refine H.out.mono ?_
 rintro e w' ⟨rfl,Q⟩
 have c:=zh Q
 clear Q
 go_wp2
 go_ret
 exact⟨rfl,c.out⟩
end Go.Proofs.YtklpdkpcocnglaaGreatDoor
namespace Go.Proofs.YtklpdkpcocnglaaGreatDoor
open Go.RowKit
def chV:List Nat→Nat
 | []=>0
 | c :: cs=>c+10^19*chV cs
theorem Zdu (c:Nat):∀ a:List Nat,chV (a ++ [c])=chV a+(10^19)^a.length*c
 | []=>by simp[chV]
 | d :: a=>by
  show d+10^19*chV (a ++ [c])=d+10^19*chV a+(10^19)^(a.length+1)*c
  rw[Zdu c a,uO (m:=a.length) (n:=10^19),uN,← uG,uF (10^19) ((10^19)^a.length),tO]
structure ChR (n:Nat) (cs:List Nat) (r:Nat):Prop where
 eq:n=chV cs+(10^19)^cs.length*r
 lt:∀ c∈cs,c<10^19
 top:r=0→cs≠[]→∃ l c,cs=l ++ [c]∧0<c
theorem ChR.start (n:Nat):ChR n [] n:=⟨by simp[chV],fun c h=>by simp at h,fun _ h=>absurd rfl h⟩
theorem ChR.step {n r:Nat}{cs:List Nat}(h:ChR n cs r)(e:0<r):ChR n (cs ++ [r%10^19]) (r/10^19):=by
 refine⟨?_,fun c b=>?_,fun d _=>⟨cs,_,rfl,?_⟩⟩
 ·rw[Zdu,vH,sW,uO (m:=cs.length) (n:=10^19),uG,tO,← uN,tR]
  exact h.eq
 ·rcases List.mem_append.1 b with a|a
  ·exact h.lt c a
  rw[List.mem_singleton.1 a];exact uP _ (by decide)
 have a:=tR r (10^19)
 rw[d,tK,tA] at a
 omega
theorem ZlV {cs:List Nat}(h:∃ l c,cs=l ++ [c]∧0<c):0<chV cs:=by
 obtain⟨l,c,rfl,a⟩:=h
 rw[Zdu]
 have:=tV (uT (n:=l.length) (show 0<10^19 by decide)) a
 omega
theorem Zj6 {cs:List Nat}{i:Nat}(hi:i<cs.length)(h:∃ l c,cs=l ++ [c]∧0<c):∃ l c,cs.drop i=l ++ [c]∧0<c:=by
 obtain⟨l,c,rfl,a⟩:=h
 rw[vH,sW] at hi
 exact⟨l.drop i,c,List.drop_append_of_le_length (by omega),a⟩
theorem ZpD {cs:List Nat}{i c:Nat}(hi:i<cs.length)(a:cs[i]?.getD 0=c)(d:∀ c∈cs,c<10^19)(e:∃ l c,cs=l ++ [c]∧0<c) :
 wL (chV (cs.drop i))=if i+1<cs.length then wL (chV (cs.drop (i+1))) ++ (List.replicate (19-(Lib.decDigits c).length) 48 ++ Lib.decDigits c) else Lib.decDigits c:=by
 have f:cs.drop i=c :: cs.drop (i+1):=by
  rw[tJ hi]
  rw[List.getElem?_eq_getElem hi] at a
  simp only[rP] at a
  rw[a]
 have b:c<10^19:=by
  rw[List.getElem?_eq_getElem hi] at a
  simp only[rP] at a
  rw[←a];exact d _ (rO hi)
 rw[f]
 show wL (c+10^19*chV (cs.drop (i+1)))=_
 by_cases h:i+1<cs.length
 ·rw[uL h,vL,uF,Ziw (ZlV (Zj6 h e)) 19 c b,ZoU (by omega) b]
 rw[uJ h,uX (by omega)]
 show wL (c+10^19*0)=_
 have g:=ZlV (Zj6 hi e)
 rw[f,uX (by omega)] at g
 rw[tK,tA]
 exact jM (by simp[chV] at g;omega)
def RowD (w:World) (v:Value) (m:Nat):Prop:=∃ xs,fY w v xs∧Dig W32 xs∧val W32 xs=m
theorem RowD.nrb {S:Nat→Prop}{w w':World}{v:Value}{m:Nat}(h:RowD w v m)(a:∀ i,S i→NRB w i)(b:Fr S w w'):RowD w' v m:=by
 obtain⟨c,d,e⟩:=h
 exact⟨c,d.nrb a b,e⟩
theorem ZpH {w w':World}{e:Ending}{m:Nat}(h:bR w m e w'):kM xH (fun x w=>zS w (xH x) m) w e w':=by
 obtain⟨v,rfl,b,Q⟩:=h
 obtain⟨A,a,c,rfl,h⟩:=b
 exact⟨(A,a.length,c),rfl,Q,boxn Q (fun S d f g=>zS.nrb (u:=.slice A a.length c) ⟨A,a,c,rfl,h⟩ f g)⟩
theorem Zoo {A:Option Addr}{l c m s:Nat}(w:World)(h:zS w (.slice A l c) m)(x:l≤17592186044416)(a:s≤31) :
 yA 72 #[.slice A l c,.int .u64 (s:Int)] w (kM (fun b:Nat=>.slice (some ⟨b,0,none⟩) (l+1) (l+1)) (fun b w=>RowD w (.slice (some ⟨b,0,none⟩) (l+1) (l+1)) (m*2^s)) w):=by
 obtain⟨d,f,g,_,i⟩:=h.row
 obtain⟨j,y,k⟩:=f.shows
 refine (Zd5 A d l c s w j k (by omega) g a).mono ?_
 rintro e w' ⟨n,rfl,o,p,q,r,Q⟩
 refine⟨w.heap.size,rfl,Q,boxn Q (fun S t u v=>RowD.nrb ⟨n,?_,q,by rw[r,i]⟩ u v)⟩
 have:=p.row (c:=l+1) (by omega)
 rw[o] at this;exact this
theorem ZfO {P:Program}{o:Oper}{ρ:Operand→Value}{w:World}{x y:Operand}{t e:TypeId}(u:o.op=.call { callee:=.builtin .append,args:=#[x,y],argTypes:=#[t,t] })(B:P.underlying t=some (.slice e))(a:(P.info? e).map (fun i=>(i.zero,i.size,i.bytes))=some (some (.int .u32 0),1,4)){b:Addr}{A:Option Addr}{n k cap c m:Nat}(C:ρ x=.slice (some b) n cap)(D:ρ y=.slice A k c)(E:fY w (.slice (some b) n cap) (List.replicate n 0))(F:RowD w (.slice A k c) m)(G:cap<n+k)(h:n+k≤35184372088832) :
 Does P o ρ w (DoR (fun z:Option Addr×Nat=>.slice z.1 (n+k) z.2) (fun z w=>RowD w (.slice z.1 (n+k) z.2) (W32^n*m)) w):=by
 obtain⟨r,s,H,I⟩:=F
 have g:∀ {w:World} {z:ShN},z.2.1=n+k→fY w (xH z) (List.replicate n 0 ++ r)→RowD w (.slice z.1 (n+k) z.2.2) (W32^n*m):=fun {w z} e hR =>
  ⟨_,by rw[←e];exact hR,(Dig.replicate zY n).append H,by rw[kH,kS,qE,I,sC]⟩
 have len:∀ {w:World} {z:ShN},fY w (xH z) (List.replicate n 0 ++ r)→z.2.1=n+k:=fun {w z} hR=>by
  have J:=hR.shows.1
  have M:=s.shows.1
  simp at J;omega
 rcases ZiD u B a C D E s G h with ⟨v,w',l,z,rfl,Q,j⟩|⟨f,args,K,l,L⟩
 ·have e:=len (j (fun _=>False) (fun _ f=>f.elim) w' (Fr.refl _ _))
  exact Or.inl ⟨_,w',l,(z.1,z.2.2),by simp[xH,e],Q,fun S p d q=>g e (j S p d q)⟩
 exact Or.inr ⟨f,args,K,l,L.mono (fun N w' h=>by
  obtain⟨v,rfl,z,rfl,Q,j⟩:=h
  have e:=len (j (fun _=>False) (fun _ f=>f.elim) w' (Fr.refl _ _))
  exact⟨_,rfl,(z.1,z.2.2),by simp[xH,e],Q,fun S p d q=>g e (j S p d q)⟩)⟩
theorem Zop {A:Option Addr}{l c m:Nat}(w:World)(h:RowD w (.slice A l c) m)(k:l≤70368744177664):yA 71 #[.slice A l c] w (bR w m):=by
 obtain⟨a,f,g,i⟩:=h
 obtain⟨j,b,d⟩:=f.shows
 refine (lU A a l c w j d b (by omega)).mono ?_
 rintro e w' ⟨rfl,rfl⟩
 exact⟨_,rfl,⟨A,wF a,c,by rw[wH],by rw[wH];exact uE (gB _ _) b,d.take _,iD g,iG a,by rw[wX,i]⟩,Fr.refl _ _⟩
theorem ZpI {w:World}{s:Bool}{A:Option Addr}{l c k:Nat}{z:Int}(h:zZ w (.agg #[.bool s,.slice A l c]) z):sg s (W32^(k/32)*(z.natAbs*2^(k%32)))=z*2^k:=by
 obtain⟨_,h2,_⟩:=h.opn
 have e:W32^(k/32)*(z.natAbs*2^(k%32))=z.natAbs*2^k:=by
  rw[xB,show (4294967296:Nat)=2^32 from rfl,← sZ,vU,← uS,vO]
 rw[e]
 have b:(z.natAbs:Int)=z∧s=false∨(z.natAbs:Int) = -z∧s=true:=by
  cases s<;>simp[sg] at h2 ⊢<;>omega
 rcases b with ⟨a,rfl⟩|⟨a,rfl⟩
 ·simp only[sg,qU,tT,tB,a,vI];rfl
 simp only[sg,pS,tB,a,vI];rw[pL,Int.neg_neg];rfl
theorem Zsc {k:Nat}(a:k≤1099511627776):IntKind.i64.wrap ((k:Int).tdiv 32)=((k/32:Nat):Int):=by
 rw[sH (by omega),IntWalk.i64_in _ (by omega)];omega
theorem Zsd {k:Nat}:(k:Int).tmod 32=((k%32:Nat):Int):=by
 rw[tM (by omega)];omega
theorem ZrS {k:Nat}:IntKind.u64.wrap ((k%32:Nat):Int)=((k%32:Nat):Int):=by
 rw[IntKind.wrap_u64];omega
theorem Zir (a:Value)(x:Int)(k:Nat)(w:World)(ha:zZ w a x)(D:wG x)(E:k≤1099511627776) :
 yA 25 #[a,.int .i64 (k:Int)] w (lW w (x*2^k)):=by
 obtain⟨f,g,e,i,rfl⟩:=ha.shp
 have F:e≤17592186044416:=by obtain⟨M,G,H,I,J⟩:=ha.mag.row;have N:=G.shows.1;have K:=kX H I;rw[J] at K;unfold wG at D;omega
 have B:decide ((k:Int)≥0)=true:=uW (by omega)
 refine zV (Φ:=fun w=>zZ w (.agg #[.bool f,.slice g e i]) (x)) Tryz.func25 rfl (by kernel_rfl) (fun w' L=>ha.ext L) ?_
 refine zC (zB (xr 2 [yJ 1 (k:Int),(2,.p 2 0),(4,.p 4 0)] [bI2 4 32 false none 0 0,bI2 2 32 f g e i] ?_))
 refine xe (zA (zC (zC (zB (xr 2 [yJ 1 (k:Int),(2,.p 2 0),(4,.p 4 0),yB 11 (decide ((k:Int)≥0))] [bI2 4 32 false none 0 0,bI2 2 32 f g e i] ?_)))))
 rw[B]
 refine xr 0 [yJ 1 (k:Int),(2,.p 2 0),(4,.p 4 0),yB 11 true] [bI2 4 32 false none 0 0,bI2 2 32 f g e i] ?_
 refine xe (zA (xa (zC (zB (xr 2 [yJ 1 (k:Int),(2,.p 2 0),(4,.p 4 0),yJ 13 (IntKind.i64.wrap (((k:Int)).tdiv 32))] [bI2 4 32 false none 0 0,bI2 2 32 f g e i] ?_)))))
 rw[Zsc E]
 refine yD (d:=14) (fun b:Nat=>.slice (some ⟨b,0,none⟩) (k/32) (k/32)) (fun b w=>fY w (.slice (some ⟨b,0,none⟩) (k/32) (k/32)) (List.replicate (k/32) 0)) (fun w R Q=>ZkW (l:=.tmp 13) (c:=.tmp 13) (kl:=.i64) (kc:=.i64) (by kernel_rfl) Tryz.underlying30 cH (by kernel_rfl) (by kernel_rfl) (by omega)) fun j=>?_
 refine xr 1 [yJ 1 (k:Int),(2,.p 2 0),(4,.p 4 0),eS1 5 (some ⟨j,0,none⟩) (k/32) (k/32)] [bI2 4 32 false none 0 0,bI2 2 32 f g e i] ?_
 refine xe (zA (zC ?_))
 refine yO 13 zL ?_
 refine xf 7 [yJ 1 (k:Int),(2,.p 2 0),(4,.p 4 0),yB 16 f,eS1 17 (some ⟨j,0,none⟩) (k/32) (k/32),eS1 19 g e i,yJ 21 (((k:Int)).tmod 32)] [bI2 4 32 false none 0 0,bI2 2 32 f g e i] ?_
 rw[Zsd]
 refine xf 1 [yJ 1 (k:Int),(2,.p 2 0),(4,.p 4 0),yB 16 f,eS1 17 (some ⟨j,0,none⟩) (k/32) (k/32),eS1 19 g e i,yU 22 (IntKind.u64.wrap (((k%32:Nat):Int)))] [bI2 4 32 false none 0 0,bI2 2 32 f g e i] ?_
 rw[ZrS]
 refine xd 72 [.slice g e i,.int .u64 ((k%32:Nat):Int)] 23 (fun b:Nat=>.slice (some ⟨b,0,none⟩) (e+1) (e+1)) _ (fun w R Q=>Zoo (s:=k%32) _ Q.1.mag F (by omega)) fun C=>?_
 refine xf 0 [yJ 1 (k:Int),(2,.p 2 0),(4,.p 4 0),yB 16 f,eS1 17 (some ⟨j,0,none⟩) (k/32) (k/32),eS1 23 (some ⟨C,0,none⟩) (e+1) (e+1)] [bI2 4 32 false none 0 0,bI2 2 32 f g e i] ?_
 refine ZlE 24 (fun z:Option Addr×Nat=>.slice z.1 (k/32+(e+1)) z.2) (fun z w=>RowD w (.slice z.1 (k/32+(e+1)) z.2) (W32^(k/32)*((x).natAbs*2^(k%32)))) (by kernel_rfl) (by kernel_rfl) (by kernel_rfl) (by kernel_rfl) (by kernel_rfl) (by kernel_rfl) (by kernel_rfl) (fun w R Q=>ZfO (x:=.tmp 17) (y:=.tmp 23) (by kernel_rfl) Tryz.underlying30 cH (by kernel_rfl) (by kernel_rfl) Q.1.2 Q.2 (by omega) (by omega)) fun⟨m,n⟩=>?_
 refine xf 0 [yJ 1 (k:Int),(2,.p 2 0),(4,.p 4 0),yB 16 f,eS1 24 m (k/32+(e+1)) n] [bI2 4 32 false none 0 0,bI2 2 32 f g e i] ?_
 refine xd 71 [.slice m (k/32+(e+1)) n] 25 xH _ (fun w R Q=>yM ZpH (Zop _ Q.2 (by omega))) fun⟨o,q,r⟩=>?_
 refine xf 0 [yJ 1 (k:Int),(2,.p 2 0),(4,.p 4 0),yB 16 f,eS1 25 o q r] [bI2 4 32 false none 0 0,bI2 2 32 f g e i] ?_
 refine xd 61 [.bool f,.slice o q r] 26 xW _ (fun w R Q=>(cJ _ _ (W32^(k/32)*((x).natAbs*2^(k%32))) _ Q.2).mono (fun _ _ h=>xQ (by rw[ZpI Q.1.1.1.1] at h;exact h))) fun⟨t,u,v,A⟩=>?_
 refine xf 1 [yJ 1 (k:Int),(2,.p 2 0),(4,.p 4 0)] [bI2 4 32 t u v A,bI2 4 32 false none 0 0,bI2 2 32 f g e i] ?_
 refine xz (xe (zA (zG (zI ?_))))
 refine yR (.agg #[.bool t,.slice u v A]) fun w' R Q=>?_
 exact⟨_,rfl,Q.2,R⟩
/-! ### Newton's step -/
theorem Zl3 {x r:Nat}(a:0<r)(k:0<x):x<((r+x/r)/2^1+1)*((r+x/r)/2^1+1)∧0<(r+x/r)/2^1:=by
 obtain⟨q,c⟩:=yE (x/r)
 have f:=vO x r
 have l:=uP x a
 rw[c] at f ⊢
 obtain⟨m,g⟩:=yE ((r+q)/2^1)
 rw[g]
 have i:r+q≤2*m+1:=by omega
 have j:x<r*(q+1):=by rw[uN,sB];omega
 have n:4*(r*(q+1))≤(r+q+1)*(r+q+1):=by
  rcases Nat.le_total r (q+1) with h|h
  ·obtain⟨d,b⟩:=pM h
   have e:r+q+1=r+(r+d):=by omega
   rw[e,b]
   simp only[uN,uU]
   have:=rV (d*d)
   rw[uF d r];omega
  obtain⟨d,b⟩:=pM h
  have e:r+q+1=(q+1+d)+(q+1):=by omega
  rw[e,b]
  generalize q+1=p
  simp only[uN,uU]
  have:=rV (d*d)
  rw[uF d p];omega
 have o:(r+q+1)*(r+q+1)≤(2*(m+1))*(2*(m+1)):=vV (by omega) (by omega)
 have s:(2*(m+1))*(2*(m+1))=4*((m+1)*(m+1)):=by
  rw[rC]
 refine⟨by omega,?_⟩
 rcases uI m with e|e
 ·exfalso
  subst e
  have:r=1:=by omega
  subst this
  have:q=0:=by omega
  subst this
  omega
 exact e
theorem ZrW {x r r0:Nat}(h:¬ (r+x/r)/2^1<r)(c:x<(r+1)*(r+1))(d:r0*r0≤x)(e:x<(r0+1)*(r0+1)):r=r0:=by
 have b:r≤x/r:=by omega
 have f:r*r≤x:=by
  have:=rZ x r
  have:=uC r b
  omega
 rcases rW r r0 with a|a|a
 ·have:=vV (show r+1≤r0 by omega) (show r+1≤r0 by omega);omega
 ·exact a
 have:=vV (show r0+1≤r by omega) (show r0+1≤r by omega);omega
theorem Zkk {x k:Nat}(h:x<2^k):x<(1*2^((k+1)/2)+1)*(1*2^((k+1)/2)+1)∧0<1*2^((k+1)/2):=by
 rw[sV]
 have b:2^k≤2^((k+1)/2)*2^((k+1)/2):=by rw[←uS];exact uR (by omega) (by omega)
 have a:=uT (n:=(k+1)/2) (show 0<2 by omega)
 refine⟨?_,a⟩
 have:=vV (Nat.le_succ (2^((k+1)/2))) (Nat.le_succ (2^((k+1)/2)))
 simp only[pF] at this
 omega
theorem Zsf {k m:Nat}(h:k≤64*m):wl (1*2^((k+1)/2))≤m+1:=by
 rw[sV]
 refine kE.2 ?_
 rw[zO,show (18446744073709551616:Nat)=2^64 from rfl,← sZ]
 exact Nat.pow_lt_pow_right (by omega) (by omega)
theorem Zow {q r:Nat}{w w':World}{e:Ending}(h:ZaR w q r e w'):kM (fun x:ShN×ShN=>.tuple #[xH x.1,xH x.2]) (fun x w=>zK w (xH x.1) q∧zK w (xH x.2) r) w e w':=by
 obtain⟨u,v,rfl,a,b,Q⟩:=h
 obtain⟨A,l,c,rfl⟩:=a.slice
 obtain⟨g,i,j,rfl⟩:=b.slice
 exact⟨((A,l,c),(g,i,j)),rfl,Q,boxn Q (fun S k d f=>⟨a.nrb d f,b.nrb d f⟩)⟩
theorem rw1 {k:Nat}(h:k≤100000):IntKind.i64.wrap ((k:Int)+1)=((k+1:Nat):Int):=by rw[IntKind.wrap_i64];omega
section
variable {a b:Value} {x r k:Nat} {w:World}
end
inductive RootIs (p:Rat):ByteArray→Bool→Prop
 | neg (h:p.num<0):RootIs p ⟨#[]⟩ false
 | no1 (n d:Nat) (h0:0≤p.num) (hn1:n*n≤p.num.natAbs) (hn2:p.num.natAbs<(n+1)*(n+1)) (hd1:d*d≤(p.den:Int).natAbs) (hd2:(p.den:Int).natAbs<(d+1)*(d+1)) (h:¬ n*n=p.num.natAbs):RootIs p ⟨#[]⟩ false
 | no2 (n d:Nat) (h0:0≤p.num) (hn1:n*n≤p.num.natAbs) (hn2:p.num.natAbs<(n+1)*(n+1)) (hd1:d*d≤(p.den:Int).natAbs) (hd2:(p.den:Int).natAbs<(d+1)*(d+1)) (hnn:n*n=p.num.natAbs) (h:¬ d*d=(p.den:Int).natAbs):RootIs p ⟨#[]⟩ false
 | yes (n d:Nat) (Q:Rat) (h0:0≤p.num) (hn1:n*n≤p.num.natAbs) (hn2:p.num.natAbs<(n+1)*(n+1)) (hd1:d*d≤(p.den:Int).natAbs) (hd2:(p.den:Int).natAbs<(d+1)*(d+1)) (hnn:n*n=p.num.natAbs) (hdd:d*d=(p.den:Int).natAbs) (hQn:Q.num=(n:Int)) (hQd:(Q.den:Int)=(d:Int)):RootIs p ⟨(xA Q).toArray⟩ true
section
variable {N:Nat} {S0:Nat→Prop} {w0:World} {s:St} {Φ Ψ:World→Prop} {L:Nat→Nat} {a:Act} {w:World} {P:Program} {ops:Array Oper} {Q:Exit→Act→World→Prop}
theorem cZ {i d b:Nat}{t:TypeId}{cs:Array Value}{α:Type}(f:FuncId)(args:List Value)(m:α→Value)(g:α→Array Value)(φ:α→World→Prop)(Ψ:World→Prop)(q:∀ w,Φ w→Blk t w b cs)(r:0<cs.size)(k:w0.heap.size≤b∨S0 b)(u:∀ w,Fr S0 w0 w→Φ w→Calls P f args.toArray w (fun en w'=>∃ x,en=.returned (m x)∧Fr (fun i=>i=b) w w'∧Blk t w' b (g x)∧BoxN w w' (φ x)))(y:∀ w w',Φ w→Fr (fun i=>i=b) w w'→Ψ w')(K:∀ x,SXi P N S0 w0 ops Q (i+1) (s.put d (.v (m x))) (fun w=>(Ψ w∧Blk t w b (g x))∧φ x w))(n:Nat.blt i ops.size=true:=by kernel_rfl)(h:eG P N ops (opAt ops i) s=some (f,args,d):=by kernel_rfl):SXi P N S0 w0 ops Q i s Φ:=by
 obtain⟨z,A,B,C,D,E,F⟩:=cO h
 unfold SXi
 rw[eJ n]
 intro L a w e
 refine wpList_step fun V G=>?_
 rw[uL (e.want z)]
 unfold Oper.wp
 rw[e.exec C D,Zcd A E,Oper.upon_enter]
 refine Calls.mono (u w e.mem.ext e.box.self) fun en w' H=>?_
 obtain⟨x,rfl,I,o,p⟩:=H
 simp only[B]
 have J:=e.app0 (d:=d) F (al_v (s:=s) (m x))
 have l:=J.eff (Ψ:=fun w=>Ψ w∧Blk t w b (g x)) I (e.notOwn (c:=cs[0]'r) (j:=0) (fun w R=>by have:=(q w R).cell 0;rw[this];simp[r])) k (q w e.box.self).lt (fun M O S T U=>⟨y M O S T,U.trans o⟩)
 exact G _ _ (K x L _ _ ⟨l.size,l.df,l.sl,l.mem,l.box.and (p _ (fun i h=>e.own_nrb h))⟩)
end
def frz (b g:Nat):AV→AV
 | .v x=>.v x
 | .p b' off=>bif Nat.beq b' b then .v (.pointer (some ⟨g,off,none⟩)) else .p b' off
theorem ZpN (L:Nat→Nat)(b:Nat)(x:AV):(frz b (L b) x).conc L=x.conc L:=by
 cases x with
 | v x=>rfl
 | p b' off =>
  show (bif Nat.beq b' b then AV.v (.pointer (some ⟨L b,off,none⟩)) else .p b' off).conc L=_
  cases h:Nat.beq b' b with
  | true =>
   have e:=Nat.eq_of_beq_eq_true h
   subst e
   rfl
  | false=>rfl
section
variable {N:Nat} {S0:Nat→Prop} {w0:World} {s:St} {Φ:World→Prop} {P:Program} {Q:Exit→Act→World→Prop}
theorem SXc.freeze {c:Code}(b:Nat)(t:TypeId)(cs:List Value)(k:Nat→SlL)(j:BlL)(A:s.bl b=some (t,cs.map .v))(F:∀ g,(k g).map (fun q=>(s.sl q.1).map (frz b g))=(k g).map (fun q=>some q.2))(G:j.map (fun q=>s.bl q.1)=j.map (fun q=>some q.2))(H:j.all (fun q => !(Nat.beq q.1 b))=true)(I:∀ g,wfB (k g) j=true)(h:∀ g,SXc P N S0 w0 Q c (ofL (k g) j) (fun w=>Φ w∧Blk t w g cs.toArray)):SXc P N S0 w0 Q c s Φ:=by
 intro L a w m
 refine h (L b) L a w ?_
 have n:=I (L b)
 unfold wfB at n
 rw[sL] at n
 have u:∀ i x,(ofL (k (L b)) j).bl i=some x→s.bl i=some x:=fun i x p=>Zaa (f:=fun q:Nat × TypeId×List AV=>s.bl q.1) (g:=fun q=>some q.2) G (iK p)
 have B:∀ i x,(ofL (k (L b)) j).bl i=some x→i≠b:=fun i x p e=>by
  have:=vR.1 H _ (iK p)
  simp[e] at this
 have l:∀ i,((ofL (k (L b)) j).bl i).isSome=true→(s.bl i).isSome=true∧i≠b:=fun i z=>by
  obtain⟨q,e⟩:=tP.1 z
  exact⟨by rw[u i q e];rfl,B i q e⟩
 have o:(s.bl b).isSome=true:=by rw[A];rfl
 have J:=m.mem.blk b t _ A
 refine⟨m.size,m.df,fun i x p=>?_,⟨fun c t cs e=>m.mem.blk c t cs (u c _ e),fun c d r K=>m.mem.inj c d (l c r).1 (l d K).1,fun c r=>m.mem.old c (l c r).1,m.mem.ext,fun i c C e=>?_,fun c t cs e x p=>⟨(m.mem.cel c t cs (u c _ e) x p).1,fun d C M=>?_⟩⟩,fun w' D=>⟨m.box w' (D.mono (fun i _ z=>?_)),?_⟩⟩
 ·have E:=Zaa (f:=fun q:Nat × AV=>(s.sl q.1).map (frz b (L b))) (g:=fun q=>some q.2) (F (L b)) (iK p)
  simp only at E
  obtain⟨y,O,e⟩:=sD.1 E
  have:=m.sl i y O
  rw[this,← e,ZpN]
 ·exact vR.1 n.1 _ (iK e)
 ·have:=vR.1 (vR.1 n.2 _ (iK e)) x p
  rw[M] at this
  exact this
 ·obtain⟨c,r,e⟩:=z
  exact⟨c,(l c r).1,e⟩
 have:Blk t w (L b) cs.toArray:=by simpa [List.map_map,Function.comp_def,AV.conc] using J
 refine this.fr D fun⟨c,r,e⟩=>?_
 exact (l c r).2 (m.mem.inj c b (l c r).1 o e)
end
section
variable {N:Nat} {S0:Nat→Prop} {w0:World} {s:St} {Φ Ψ:World→Prop} {L:Nat→Nat} {a:Act} {w:World} {P:Program} {ops:Array Oper} {Q:Exit→Act→World→Prop}
theorem Zq7 {i:Nat}{t bt:TypeId}{x y:Operand}{cs:List Value}(b off:Nat)(v:Value)(Ψ:World→Prop)(q:∀ w,Φ w→Blk bt w b cs.toArray)(m:off<cs.length)(f:w0.heap.size≤b∨S0 b)(u:v.oneCell'=true)(l:v.cells.toList=[v])(z:∀ w w',Φ w→Fr (fun i=>i=b) w w'→Ψ w')(K:SXi P N S0 w0 ops Q (i+1) s (fun w=>Ψ w∧Blk bt w b (cs.set off v).toArray))(n:Nat.blt i ops.size=true:=by kernel_rfl)(A:s.wantB ops (opAt ops i)=some true:=by kernel_rfl)(B:(opAt ops i).op=.store t x y:=by kernel_rfl)(C:(opAt ops i).dst=none:=by kernel_rfl)(D:(teOf P t).map (fun e=>e.size)=some 1:=by kernel_rfl)(E:s.eval x=some (.v (.pointer (some ⟨b,off,none⟩))):=by kernel_rfl)(F:s.eval y=some (.v v):=by kernel_rfl):SXi P N S0 w0 ops Q i s Φ:=by
 unfold SXi
 rw[eJ n]
 intro L a w d
 refine wpList_step fun W G=>?_
 rw[uL (d.want A)]
 obtain⟨X,o,H⟩:=sD.1 D
 have r:=q w d.box.self
 obtain⟨w',I,h,J⟩:=Zct (P:=P) o (g:=b) (bt:=bt) (off:=off) (cur:=cs) (v:=v) r (by rw[l];exact H.symm) (by rw[l];simp;omega) (fun c p=>by rw[l] at p;simp at p;rw[p];exact u)
 rw[l,Zgy _ _ _ m] at h
 unfold Oper.wp
 have ex:=d.eval E
 have M:=d.eval F
 have k:(execOp a.eval (opAt ops i)).run P w=.ok .skip w':=by simp only[execOp,B,Sem.run_bind,ex,M,AV.conc,I,Result.andThen_ok,Sem.run_pure]
 rw[k,Oper.upon_skip,C]
 refine G _ _ (K L _ _ (d.eff J (d.notOwn (c:=cs[off]'m) (j:=off) (fun w R=>by have:=(q w R).cell off;rw[this];simp[m])) f r.lt (fun O S T U V=>⟨z O S T U,V.trans h⟩)))
end
end Go.Proofs.YtklpdkpcocnglaaGreatDoor
