/-
 My texts Mul64 put together.
-/
import Derived.Test.YtoanifijmlgcgaaGreatDoorD02
import Derived.Lib.Mul64
import Derived.Laws.Bits64b
set_option maxRecDepth 100000
set_option maxHeartbeats 8000000
namespace Go.Proofs.YtoanifijmlgcgaaGreatDoor
open Go.RowKit
noncomputable def fM (x y:Nat):Nat:=x*y/W64
noncomputable def iH (x y:Nat):Nat:=x*y%W64
theorem Zdm (x y:Nat):iH x y+W64*fM x y=x*y:=sG _ _
theorem ZkX (x y:Nat):iH x y<W64:=uP _ zZ
namespace M64
theorem maskN (a:Nat)(b:a<18446744073709551616):bits .and .u64 (a:Int) 4294967295=((a%4294967296:Nat):Int):=by
 have h:=bits_and_u64_nat a 4294967295 b (by omega)
 have e:a &&& 4294967295=a%4294967296:=Nat.and_two_pow_sub_one_eq_mod a 32
 rw[e] at h
 exact h
theorem divN (a:Nat):(a:Int)/4294967296=((a/4294967296:Nat):Int):=by omega
theorem mulN (a b:Nat):(a:Int)*(b:Int)=((a*b:Nat):Int):=(tW a b).symm
theorem addN (a b:Nat):(a:Int)+(b:Int)=((a+b:Nat):Int):=(rB a b).symm
theorem wrapN (a:Nat)(b:a<18446744073709551616):IntKind.u64.wrap (a:Int)=(a:Int):=by rw[IntKind.wrap_u64];omega
theorem wrapM (a:Nat):IntKind.u64.wrap (a:Int)=((a%18446744073709551616:Nat):Int):=by rw[IntKind.wrap_u64];omega
end M64
theorem ZjE (x y:Nat)(i:x<18446744073709551616)(j:y<18446744073709551616)(w:World) :
 Calls Tryz.prog 343 #[.int .u64 (x:Int),.int .u64 (y:Int)] w fun e w'=>e=.returned (.tuple #[.int .u64 ((x*y/18446744073709551616:Nat):Int),.int .u64 ((x*y%18446744073709551616:Nat):Int)])∧w'=w:=by
 obtain⟨l,k,m,c⟩:=Lib.mul64_hi x y i j
 have o:=Lib.half_mul_le (a:=x/4294967296) (b:=y/4294967296) (by omega) (by omega)
 have p:=Lib.half_mul_le (a:=x/4294967296) (b:=y%4294967296) (by omega) (by omega)
 have q:=Lib.half_mul_le (a:=x%4294967296) (b:=y/4294967296) (by omega) (by omega)
 have d:x/4294967296*(y/4294967296)<18446744073709551616:=by omega
 have f:x/4294967296*(y%4294967296)<18446744073709551616:=by omega
 have g:x%4294967296*(y/4294967296)<18446744073709551616:=by omega
 have h:x/4294967296*(y/4294967296)+(x/4294967296*(y%4294967296)+x%4294967296*(y%4294967296)/4294967296)/4294967296<18446744073709551616:=by omega
 have n:x/4294967296*(y/4294967296)+(x/4294967296*(y%4294967296)+x%4294967296*(y%4294967296)/4294967296)/4294967296+((x/4294967296*(y%4294967296)+x%4294967296*(y%4294967296)/4294967296)%4294967296+x%4294967296*(y/4294967296))/4294967296<18446744073709551616:=by omega
 go_enter Tryz.func343,Tryz.ntmps343
 go_wp2
 simp only[M64.maskN x i,M64.maskN y j,M64.divN,M64.mulN,M64.addN,M64.wrapN _ l,M64.wrapN _ f,M64.wrapN _ k,M64.maskN _ k,M64.wrapN _ g,M64.wrapN _ m,M64.wrapN _ d,M64.wrapN _ h,M64.wrapN _ n,M64.wrapM (x*y)]
 rw[c]
 go_ret2
 exact⟨rfl,rfl⟩
theorem ZbW (x y:Nat)(a:x<W64)(b:y<W64)(w:World) :
 Calls Tryz.prog 343 #[.int .u64 (x:Int),.int .u64 (y:Int)] w fun e w'=>e=.returned (.tuple #[.int .u64 (fM x y:Nat),.int .u64 (iH x y:Nat)])∧w=w':=by
 rw[zM] at a b
 refine (ZjE x y a b w).mono ?_
 rintro e w' ⟨rfl,rfl⟩
 exact⟨by rw[fM,iH,zM],rfl⟩
end Go.Proofs.YtoanifijmlgcgaaGreatDoor
