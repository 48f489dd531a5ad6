/-
 My texts Sx12, Sx13, Fna, Whole2, Whole3, Rec, Recon, Awake put together.
-/
import Derived.Test.YthlipnahcbcjkaaGreatDoorM16
import Derived.Test.YthlipnahcbcjkaaGreatDoorM06
import Derived.Test.YthlipnahcbcjkaaGreatDoorM07
import Derived.Deep.DeepCutAuto
import Derived.Deep.LoopGhost
import Derived.Test.YthlipnahcbcjkaaGreatDoorM14
import Derived.Test.YthlipnahcbcjkaaGreatDoorM12
import Derived.Test.YthlipnahcbcjkaaGreatDoorM02
set_option maxRecDepth 100000
namespace Go.Proofs.YthlipnahcbcjkaaGreatDoor
open Go.RowKit
section
variable {N:Nat} {S0:Nat→Prop} {w0:World} {s:St} {Φ Ψ:World→Prop} {L:Nat→Nat} {a:Act} {w:World} {P:Program} {ops:Array Oper} {Q:Exit→Act→World→Prop}
end
def atA (A:Option Addr) (i:Nat):Value:=.pointer (A.map (·.add i))
section
variable {P:Program} {o:Oper} {ρ:Operand→Value} {w:World} {t e:TypeId} {x ix:Operand} {k:IntKind} {xs:List Nat}
theorem Zsd {A:Option Addr} {len cap i:Nat} (hA:A≠none) (h:i < len) (ho:o.op=Op.indexAddr t x ix:=by kernel_rfl) (ht:P.underlying t=some (.slice e):=by kernel_rfl) (hs:(P.info? e).map (fun i=>i.size)=some 1:=by kernel_rfl)
 (hx:ρ x=.slice A len cap:=by kernel_rfl) (hi:ρ ix=.int .i64 ((i:Nat):Int):=by kernel_rfl):(execOp ρ o).run P w=.ok (.value (atA A i)) w:=by
 obtain ⟨inf,hinf,h1⟩:=Option.map_eq_some_iff.1 hs
 obtain ⟨a,rfl⟩:∃ a,A=some a:=by cases A; exact absurd rfl hA; exact ⟨_,rfl⟩
 have h2:(0:Int)≤(i:Int)∧(i:Int) < (len:Int):=by omega
 simp [execOp,ho,Instr.indexAt,asIntOf,underlying,ht,hx,hi,h,sizeOf,typeInfo,hinf,h1,Result.andThen,atA]
theorem Zt4 {g off:Nat} {c:Value} (hc:w.cell? ⟨g,off,none⟩=some c) (ho:o.op=Op.load t x:=by kernel_rfl) (hx:ρ x=.pointer (some ⟨g,off,none⟩):=by kernel_rfl) (ha:(teOf P t).map (fun e=>e.agg)=some false:=by kernel_rfl) :
 (execOp ρ o).run P w=.ok (.value c) w:=by
 obtain ⟨e,he,h1⟩:=Option.map_eq_some_iff.1 ha
 have:=Zja (P:=P) (w:=w) he hc h1
 simp only [execOp,ho,hx,Sem.run_bind,this,Result.andThen_ok,Sem.run_pure]
theorem Ztg {A:Option Addr} {j:Nat} (hS:Zar k w A xs) (hj:j < xs.length) (ho:o.op=Op.load t x:=by kernel_rfl) (hx:ρ x=atA A j:=by kernel_rfl) (ha:(teOf P t).map (fun e=>e.agg)=some false:=by kernel_rfl) :
 (execOp ρ o).run P w=.ok (.value (.int k ((xs[j]?.getD 0:Nat):Int))) w:=by
 obtain ⟨g,off,rfl,_,hc⟩:=hS.at hj
 exact Zt4 hc ho (by rw [hx,atA,Option.map_some,Zg9]) ha
end
end Go.Proofs.YthlipnahcbcjkaaGreatDoor

namespace Go.Proofs.YthlipnahcbcjkaaGreatDoor
open Go.RowKit
section
variable {N:Nat} {S0:Nat→Prop} {w0:World} {sl:SlL} {bl:BlL} {Φ Φ0:World→Prop} {P:Program} {ops:Array Oper} {Q:Exit→Act→World→Prop}
end
end Go.Proofs.YthlipnahcbcjkaaGreatDoor

namespace Go.Proofs.YthlipnahcbcjkaaGreatDoor
open Go.RowKit
section
variable {P:Program} {o:Oper} {ρ:Operand→Value} {w:World} {x y:Operand} {t k:TypeId}
theorem Zt5 {a n:Nat} (hn:n≤64) (ho:o.op=Op.binOp .shl t x y k:=by kernel_rfl) (hx:ρ x=.int .u64 ((a:Nat):Int):=by kernel_rfl) {ky:IntKind} (hy:ρ y=.int ky ((n:Nat):Int):=by kernel_rfl):(execOp ρ o).run P w=.ok (.value (.int .u64 ((a * 2 ^ n % W64:Nat):Int))) w:=by
 have h0:¬ ((n:Int) < 0):=by omega
 have h1:min ((n:Int)).toNat IntKind.u64.bits=n:=by show min ((n:Int)).toNat 64=n; omega
 simp only [execOp,ho,hx,hy,eqGuard,binOp,Op.shift,if_neg h0,h1,ZeV]
 rfl
theorem Zun {a b r:Nat} (ha:a < W64) (hb:b < W64) (h:a ||| b=r) (ho:o.op=Op.binOp .or t x y k:=by kernel_rfl) (hx:ρ x=.int .u64 ((a:Nat):Int):=by kernel_rfl) (hy:ρ y=.int .u64 ((b:Nat):Int):=by kernel_rfl):(execOp ρ o).run P w=.ok (.value (.int .u64 ((r:Nat):Int))) w:=by
 have:=Zd8 ha hb
 rw [h] at this
 rw [← this]
 simp only [execOp,ho,hx,hy,eqGuard,binOp]
 rfl
end
/-! ### plus,minus -/
/-! ### times -/
end Go.Proofs.YthlipnahcbcjkaaGreatDoor

namespace Go.Proofs.YthlipnahcbcjkaaGreatDoor
open Go.RowKit
end Go.Proofs.YthlipnahcbcjkaaGreatDoor

namespace Go.Proofs.YthlipnahcbcjkaaGreatDoor
open Go.RowKit
end Go.Proofs.YthlipnahcbcjkaaGreatDoor

namespace Go.Proofs.YthlipnahcbcjkaaGreatDoor
open Go.RowKit
inductive RecRun (m:Int):Int→Int→Int→Int→Int→Int→Prop
 | done {r0 r1 t0 t1:Int} (h:r1 * r1 * 2 < m):RecRun m r0 r1 t0 t1 r1 t1
 | step {r0 r1 t0 t1 r t:Int} (h:¬ r1 * r1 * 2 < m) (k:RecRun m r1 (r0.tmod r1) t1 (t0 - r0.tdiv r1 * t1) r t):RecRun m r0 r1 t0 t1 r t
structure RecInv (m r0 r1 t0 t1:Int):Prop where
 nonneg:0≤r1
 lt:r1 < r0
 le:r0≤m
 sum:(t1.natAbs:Int) * r0 + (t0.natAbs:Int) * r1=m
 alt:(0≤t0∧t1≤0)∨(t0≤0∧0≤t1)
structure RecMem (w wr:World) (M R b r f g:Nat) (m r0 r1 t0 t1:Int):Prop where
 ext:Ext w wr
 mod:Zkj wr M m
 res:Blk 107 wr R #[.bool false, .slice none 0 0, .bool false, .slice none 0 0]
 rest0:Zkj wr b r0
 rest1:Zkj wr r r1
 fac0:Zkj wr f t0
 fac1:Zkj wr g t1
section
variable {w wr:World} {M R b r f g:Nat} {m r0 r1 t0 t1 z:Int} {s:Bool} {A:Option Addr} {l c:Nat}
end
section
variable {wb w1:World} {x y:Int} {s s':Bool} {A A':Option Addr} {l c l' c':Nat}
end
end Go.Proofs.YthlipnahcbcjkaaGreatDoor

namespace Go.Proofs.YthlipnahcbcjkaaGreatDoor
open Go.RowKit
section
variable {wb wr:World} {g:Nat} {q:Rat} {s t:Bool} {A B:Option Addr} {l c l' c':Nat}
end
end Go.Proofs.YthlipnahcbcjkaaGreatDoor

namespace Go.Proofs.YthlipnahcbcjkaaGreatDoor
open Go.RowKit
end Go.Proofs.YthlipnahcbcjkaaGreatDoor
