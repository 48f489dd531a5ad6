/-
 My texts.
-/
import Derived.Test.YtmpffakfhcpjoaaGreatDoorF02
import Derived.Lib.Mul64
set_option maxRecDepth 100000
set_option maxHeartbeats 8000000
namespace Go.Proofs.YtmpffakfhcpjoaaGreatDoor
open Go.RowKit Tryz
noncomputable def wW (x y:Nat):Nat:=x*y/W64
noncomputable def xF (x y:Nat):Nat:=x*y%W64
theorem cL (x y:Nat):xF x y+W64*wW x y=x*y:=sM _ _
theorem Zqd (x y:Nat):xF x y<W64:=uP _ zK
namespace M64
theorem maskN (a:Nat)(ha:a<18446744073709551616):bits .and .u64 (a:Int) 4294967295=((a%4294967296:Nat):Int):=by
 have h:=bits_and_u64_nat a 4294967295 ha qO
 have e:a &&& 4294967295=a%4294967296:=Nat.and_two_pow_sub_one_eq_mod a 32
 rw[e] at h
 exact h
theorem divN (a:Nat):(a:Int)/4294967296=((a/4294967296:Nat):Int):=qO
theorem mulN (a b:Nat):(a:Int)*(b:Int)=((a*b:Nat):Int):=(tG a b).symm
theorem addN (a b:Nat):(a:Int)+(b:Int)=((a+b:Nat):Int):=(rX a b).symm
theorem wrapN (a:Nat)(ha:a<18446744073709551616):IntKind.u64.wrap (a:Int)=(a:Int):=by rw[IntKind.wrap_u64];omega
theorem wrapM (a:Nat):IntKind.u64.wrap (a:Int)=((a%18446744073709551616:Nat):Int):=by rw[IntKind.wrap_u64];omega
end M64
theorem Zn3 (x y:Nat)(i:x<18446744073709551616)(j:y<18446744073709551616)(w:World) :
 Calls prog 117 #[.int .u64 (x:Int),.int .u64 (y:Int)] w fun e w'=>e=.returned (.tuple #[.int .u64 ((x*y/18446744073709551616:Nat):Int),.int .u64 ((x*y%18446744073709551616:Nat):Int)])∧w'=w:=by
 obtain⟨l,k,m,c⟩:=Lib.mul64_hi x y i j
 have o:=Lib.half_mul_le (a:=x/4294967296) (b:=y/4294967296) qO qO
 have p:=Lib.half_mul_le (a:=x/4294967296) (b:=y%4294967296) qO qO
 have q:=Lib.half_mul_le (a:=x%4294967296) (b:=y/4294967296) qO qO
 have d:x/4294967296*(y/4294967296)<18446744073709551616:=qO
 have f:x/4294967296*(y%4294967296)<18446744073709551616:=qO
 have g:x%4294967296*(y/4294967296)<18446744073709551616:=qO
 have h:x/4294967296*(y/4294967296)+(x/4294967296*(y%4294967296)+x%4294967296*(y%4294967296)/4294967296)/4294967296<18446744073709551616:=qO
 have n:x/4294967296*(y/4294967296)+(x/4294967296*(y%4294967296)+x%4294967296*(y%4294967296)/4294967296)/4294967296+((x/4294967296*(y%4294967296)+x%4294967296*(y%4294967296)/4294967296)%4294967296+x%4294967296*(y/4294967296))/4294967296<18446744073709551616:=qO
 go_enter func117,ntmps117
 go_wp2
 simp only[M64.maskN x i,M64.maskN y j,M64.divN,M64.mulN,M64.addN,M64.wrapN _ l,M64.wrapN _ f,M64.wrapN _ k,M64.maskN _ k,M64.wrapN _ g,M64.wrapN _ m,M64.wrapN _ d,M64.wrapN _ h,M64.wrapN _ n,M64.wrapM (x*y)]
 rw[c]
 go_ret2
 exact⟨rfl,rfl⟩
theorem ZaV (x y:Nat)(a:x<W64)(b:y<W64)(w:World) :
 Calls prog 117 #[.int .u64 (x:Int),.int .u64 (y:Int)] w fun e w'=>e=.returned (.tuple #[.int .u64 (wW x y:Nat),.int .u64 (xF x y:Nat)])∧w=w':=by
 rw[zN] at a b
 refine (Zn3 x y a b w).mono ?_
 rintro e w' ⟨rfl,rfl⟩
 exact⟨by rw[wW,xF,zN],rfl⟩
end Go.Proofs.YtmpffakfhcpjoaaGreatDoor
