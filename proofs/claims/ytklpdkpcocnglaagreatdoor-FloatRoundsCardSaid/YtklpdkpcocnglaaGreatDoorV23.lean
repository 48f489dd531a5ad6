/-
 My texts Rn1, Rn2, Rn3, Rn4 put together.
-/
import Derived.Test.YtklpdkpcocnglaaGreatDoorV16
import Derived.Test.YtklpdkpcocnglaaGreatDoorV22
import Derived.Test.YtklpdkpcocnglaaGreatDoorV18
import Derived.Test.YtklpdkpcocnglaaGreatDoorV19
set_option maxRecDepth 100000
namespace Go.Proofs.YtklpdkpcocnglaaGreatDoor
open Go.RowKit
theorem Zlk (s:Bool):sg s 0=0:=by cases s<;>rfl
theorem ZrY (a:Nat):IntKind.u32.wrap (((a % W64:Nat):Int))=((a % W32:Nat):Int):=by
 rw [IntKind.wrap_u32,Zam,Zaq]; omega
section
variable {P:Program} {o:Oper} {ρ:Operand→Value} {w:World} {x y:Operand} {t k:TypeId}
theorem ZnX {a n:Nat} (hn:n≤32) (ho:o.op=Op.binOp .shr t x y k:=by kernel_rfl) (hx:ρ x=.int .u32 ((a:Nat):Int):=by kernel_rfl) {ky:IntKind} (hy:ρ y=.int ky ((n:Nat):Int):=by kernel_rfl):(execOp ρ o).run P w=.ok (.value (.int .u32 ((a / 2 ^ n:Nat):Int))) w:=by
 have h0:¬ ((n:Int) < 0):=by omega
 have h1:min ((n:Int)).toNat IntKind.u32.bits=n:=by show min ((n:Int)).toNat 32=n; omega
 have h2:((a:Int)).fdiv (2 ^ n)=((a / 2 ^ n:Nat):Int):=by
  rw [Int.fdiv_eq_ediv_of_nonneg _ (by rw [show ((2:Int) ^ n)=((2 ^ n:Nat):Int) by rw [Int.natCast_pow]; rfl]; exact Int.natCast_nonneg _)]
  exact ZfS a n
 simp only [execOp,ho,hx,hy,eqGuard,binOp,Op.shift,if_neg h0,h1,h2]
 rfl
theorem Zt4 {a b r:Nat} (ha:a < W32) (hb:b < W32) (h:a ||| b=r) (ho:o.op=Op.binOp .or t x y k:=by kernel_rfl) (hx:ρ x=.int .u32 ((a:Nat):Int):=by kernel_rfl) (hy:ρ y=.int .u32 ((b:Nat):Int):=by kernel_rfl):(execOp ρ o).run P w=.ok (.value (.int .u32 ((r:Nat):Int))) w:=by
 have:=Znf ha hb
 rw [h] at this
 rw [← this]
 simp only [execOp,ho,hx,hy,eqGuard,binOp]
 rfl
theorem ZsP {a:Nat} (ho:o.op=Op.binOp .and t x y k:=by kernel_rfl) (hx:ρ x=.int .u32 ((a:Nat):Int):=by kernel_rfl) (hy:ρ y=.int .u32 1:=by kernel_rfl) (ha:a < W32:=by assumption):(execOp ρ o).run P w=.ok (.value (.int .u32 ((a % 2:Nat):Int))) w:=Zip ho hx hy (by rw [Zaq] at ha; exact ha)
end
theorem ZiZ {a:Int} (h:a≤0):decide (a.sign > 0)=false:=decide_eq_false (fun e=>by have:=Int.sign_eq_one_iff_pos.1 (show a.sign=1 by have:=Int.sign_trichotomy a; omega); omega)
theorem len_zero {w:World} {s:Bool} {A:Option Addr} {l c:Nat} {z:Int} (h:Zai w (.agg #[.bool s, .slice A l c]) z) (h0:z=0):l=0:=by
 subst h0
 obtain ⟨A',xs,c',he,hc,hS,hd,ht,hv⟩:=h.opn.1
 injection he with e1 e2 e3
 have:=Zby hd ht
 rw [hv,show (0:Int).natAbs=0 from rfl,show ml 0=0 from Nat.le_zero.1 (ZaW.2 (by rw [Nat.pow_zero]; decide))] at this
 omega
theorem ZrZ {b n v:Nat} {xs:List Nat} {w:World} (hO:Own .u32 102 w b xs) (hd:Dig W32 xs) (hn:xs.length=n) (hv:val W32 xs=v) (hl:n≤1099511627776):Calls Tryz.prog 71 #[.slice (some ⟨b,0,none⟩) n n] w (ZdU w v):=by
 subst hn hv
 exact Zl7 w ⟨xs,hO.row (Nat.le_refl _),hd,rfl⟩ hl
theorem Zr0 (s0:Bool) (A:Option Addr) (xs:List Nat) (c k:Nat) (w:World) (hX:Zae .u32 w A xs) (hl:xs.length≤1048576) (hc:xs.length≤c) (hd:Dig W32 xs) (hk0:0 < k) (hk:k≤1099511627776) :
 Calls Tryz.prog 25 #[.agg #[.bool s0, .slice A xs.length c], .int .i64 (-((k:Nat):Int))] w (Zba w (sg s0 (val W32 xs / 2 ^ k))):=by
 refine Zaz (Φ:=fun w=>Zae .u32 w A xs) Tryz.func25 rfl (by kernel_rfl) (fun w' hf=>hX.ext hf) ?_
 refine Zac (Zab (xq 2 [(2, .p 2 0),(4, .p 4 0)] [bI2 4 32 false none 0 0,bI2 2 32 s0 A xs.length c] ?_))
 refine xe (Zaa (Zac (Zac (Zab (xq 2 [(11, .v (.bool (decide ((-((k:Nat):Int)) ≥ 0))))] [] ?_)))))
 rw [show decide (-((k:Nat):Int) ≥ 0)=false from decide_eq_false (by omega)]
 refine xe (Zaa (xb (Zap (Zaa (Zac (Zab (xq 2 [(28, .v (.int .i64 (IntKind.i64.wrap (0 - ((-((k:Nat):Int)))))))] [] ?_)))))))
 rw [show IntKind.i64.wrap (0 - (-((k:Nat):Int)))=((k:Nat):Int) from by rw [IntKind.wrap_i64]; omega]
 refine xq 1 [(1, .v (.int .i64 ((k:Nat):Int)))] [] ?_
 refine xe (Zaa (Zac (Zac (Zab (xq 2 [(30, .v (.int .i64 (IntKind.i64.wrap ((((k:Nat):Int)).tdiv 32))))] [] ?_)))))
 rw [show IntKind.i64.wrap (((((k:Nat):Int)).tdiv 32))=((k / 32:Nat):Int) from tdq (k) 32 (by omega)]
 refine xq 4 [(34, .v (.bool (decide (((k / 32:Nat):Int) ≥ ((xs.length:Nat):Int)))))] [] ?_
 refine xe (Zaa ?_)
 refine ZaA ((decide (((k / 32:Nat):Int) ≥ ((xs.length:Nat):Int)))) (by kernel_rfl) (fun hb10=>?_) (fun hb10=>?_)
 ·have hb10':=of_decide_eq_true hb10
  refine Zac (Zab (xq 2 [] [] ?_))
  refine xe (Zaa (Zaj (Zak ?_)))
  refine Zaf (v:=.agg #[.bool false, .slice none 0 0]) (by kernel_rfl) (fun w' R Q=>?_)
  exact ⟨_,rfl,by rw [Zp1 hd (by omega),Zlk]; exact Zai.nil _,R⟩
 ·have hb10':=of_decide_eq_false hb10
  refine Zap (Zaa (Zac ?_))
  obtain ⟨ys,hys⟩:∃ ys,xs.drop (k / 32)=ys:=⟨_,rfl⟩
  have hyl:ys.length=xs.length - k / 32:=by rw [← hys,List.length_drop]
  have hdy:Dig W32 ys:=by rw [← hys]; exact hd.drop _
  obtain ⟨B,hB⟩:∃ B,(if c=k / 32 then A else A.map (·.add (k / 32)))=B:=⟨_,rfl⟩
  obtain ⟨d,hdd⟩:∃ d,c - k / 32=d:=⟨_,rfl⟩
  have hsl:Value.slice (if c=k / 32 then A else A.map (·.add (k / 32))) (xs.length - k / 32) (c - k / 32)=.slice B ys.length d:=by rw [hB,hyl,hdd]
  refine SXc.weak [(1, .v (.int .i64 ((k:Nat):Int))),(2, .p 2 0),(4, .p 4 0)] [(4,32,[.v (.bool false), .v (.slice none 0 0)]),(2,32,[.v (.bool s0), .v (.slice A xs.length c)])] (Ψ:=fun w=>Zae .u32 w B ys) (ZaG.of (by kernel_rfl)) (by kernel_rfl) (fun w Q=>by rw [← hB,← hys]; exact Zae.cut (Q) (by omega) hc) ?_
  refine Zab (xq 4 [eS1 37 A xs.length c,(39, .v (.int .i64 (IntKind.i64.wrap ((((k:Nat):Int)).tdiv 32))))] [] ?_)
  rw [show IntKind.i64.wrap (((((k:Nat):Int)).tdiv 32))=((k / 32:Nat):Int) from tdq (k) 32 (by omega)]
  refine xqk 40 (.slice B ys.length d) (fun w R Q=>by rw [← hsl]; exact Zsg (t:=30) (e:=102) (x:=(Operand.tmp 37)) (len:=xs.length) (cap:=c) (l:=k / 32) (lo:=(Operand.tmp 39)) (by omega)) ?_
  refine xq 1 [eS1 6 B ys.length d] [] ?_
  refine xe (Zaa (Zac (Zab (xq 2 [(42, .v (.int .i64 ((((k:Nat):Int)).tmod 32)))] [] ?_))))
  rw [show (((k:Nat):Int)).tmod 32=((k % 32:Nat):Int) from tdr (k) 32]
  refine xq 1 [(43, .v (.int .u64 (IntKind.u64.wrap (((k % 32:Nat):Int)))))] [] ?_
  rw [show IntKind.u64.wrap (((k % 32:Nat):Int))=((k % 32:Nat):Int) from by rw [IntKind.wrap_u64]; omega]
  refine xq 1 [(7, .v (.int .u64 ((k % 32:Nat):Int)))] [] ?_
  refine xe (Zaa (Zac (Zab (xq 2 [(45, .v (.int .i64 ((ys.length:Nat):Int)))] [] ?_))))
  refine ZiL (d:=46) (t:=30) (e:=102) (k:=.u32) (kl:=.i64) (kc:=.i64) (l:=(Operand.tmp 45)) (c:=(Operand.tmp 45)) (ys.length) 4 (by omega) (by decide) (fun r11 hr11 _=>?_)
  refine xr 1 [(2, .p 2 0),(4, .p 4 0),eS1 6 B ys.length d,(7, .v (.int .u64 ((k % 32:Nat):Int))),eS1 8 (some ⟨r11,0,none⟩) (ys.length) (ys.length)] [bI2 4 32 false none 0 0,bI2 2 32 s0 A xs.length c] ?_
  refine xe (Zaa (Zac (Zac (Zab (xq 1 [(9, .v (.int .i64 0))] [] ?_)))))
  refine xe (Zaa (ZaO ?_))
  refine SXc.weak [(2, .p 2 0),(4, .p 4 0),(6, .v (.slice B ys.length d)),(7, .v (.int .u64 ((k % 32:Nat):Int))),(8, .v (.slice (some ⟨r11,0,none⟩) (ys.length) (ys.length))),(9, .v (.int .i64 ((0:Nat):Int)))] [(4,32,[.v (.bool false), .v (.slice none 0 0)]),(2,32,[.v (.bool s0), .v (.slice A xs.length c)])] (Ψ:=fun w=>(Box (fun j=>r11≤j) w (fun w=>Zae .u32 w B (ys))∧Own .u32 102 w r11 ((List.replicate (ys.length) 0)))) (ZaG.of (by kernel_rfl)) (by kernel_rfl) (fun w Q=>⟨Q.1,Q.2⟩) ?_
  refine ZbR (fun nn ss ff=>∃ (i:Nat) (zs:List Nat),ss=ofL [(2, .p 2 0),(4, .p 4 0),(6, .v (.slice B ys.length d)),(7, .v (.int .u64 ((k % 32:Nat):Int))),(8, .v (.slice (some ⟨r11,0,none⟩) (ys.length) (ys.length))),(9, .v (.int .i64 ((i:Nat):Int)))] [(4,32,[.v (.bool false), .v (.slice none 0 0)]),(2,32,[.v (.bool s0), .v (.slice A xs.length c)])]∧ff=(fun w=>(Box (fun j=>r11≤j) w (fun w=>Zae .u32 w B (ys))∧Own .u32 102 w r11 (zs)))∧(Zcx ys (k % 32) i zs)∧(i≤ys.length)∧nn=(ys.length - i)) ((ys.length - 0)) ⟨0,(List.replicate (ys.length) 0),rfl,rfl,(Zcx.start ys (k % 32)),by omega,rfl⟩ ?_
  rintro nn ss ff ⟨i,zs,rfl,rfl,HR,hi,rfl⟩
  refine Zac (Zac (Zab (xq 4 [(50, .v (.bool (decide (((i:Nat):Int) < ((ys.length:Nat):Int)))))] [] ?_)))
  refine xe (Zaa ?_)
  refine ZaA ((decide (((i:Nat):Int) < ((ys.length:Nat):Int)))) (by kernel_rfl) (fun hb12=>?_) (fun hb12=>?_)
  ·have hb12':=of_decide_eq_true hb12
   have hzl:zs.length=ys.length:=HR.1
   refine Zap (Zaa (Zac (ZaO (Zac (Zab (xq 4 [eS1 53 (some ⟨r11,0,none⟩) (ys.length) (ys.length),(54, .v (.int .i64 ((i:Nat):Int))),eS1 55 B ys.length d,(56, .v (.int .i64 ((i:Nat):Int)))] [] ?_))))))
   refine xqk 57 (atA B i) (fun w R Q=>Za1 (t:=30) (e:=102) (x:=(Operand.tmp 55)) (ix:=(Operand.tmp 56)) (len:=ys.length) (cap:=d) (i:=i) (((Q.1).self).ne (j:=i) (by omega)) (by omega)) ?_
   obtain ⟨x13,hx13⟩:∃ x,ys[i]?.getD 0=x:=⟨_,rfl⟩
   refine xqk 58 (.int .u32 ((x13:Nat):Int)) (fun w R Q=>by rw [← hx13]; exact Zbb (t:=102) (x:=(Operand.tmp 57)) ((Q.1).self) (j:=i) (by omega)) ?_
   have hwx13:x13 < W32:=by rw [← hx13]; exact hdy.getD Zau _
   have hvx13:x13 < 4294967296:=by have:=hwx13; rw [Zaq] at this; exact this
   refine xq 1 [(59, .v (.int .u64 ((k % 32:Nat):Int)))] [] ?_
   refine xqk 60 (.int .u32 ((x13 / 2 ^ (k % 32):Nat):Int)) (fun w R Q=>ZnX (t:=102) (x:=(Operand.tmp 58)) (y:=(Operand.tmp 59)) (k:=103) (ky:=.u64) (a:=x13) (n:=(k % 32)) (by omega)) ?_
   refine xqk 61 (.pointer (some ⟨r11,i,none⟩)) (fun w R Q=>ZbP (t:=30) (e:=102) (x:=(Operand.tmp 53)) (ix:=(Operand.tmp 54)) (len:=(ys.length)) (cap:=(ys.length)) (i:=i) (by omega)) ?_
   refine ZcL (t:=102) (x:=(Operand.tmp 61)) (y:=(Operand.tmp 60)) r11 (i) (x13 / 2 ^ (k % 32)) (fun w=>(Box (fun j=>r11≤j) w (fun w=>Zae .u32 w B (ys))∧Own .u32 102 w r11 ((zs).set (i) (x13 / 2 ^ (k % 32))))) (fun w Q=>Q.2) (by omega) (Or.inl hr11) (fun w w' Q hF hO=>⟨((Q.1).fr (hF.mono (fun _ _ e=>by rw [e]; exact Nat.le_refl _))),hO⟩) ?_
   refine xe (Zaa (Zac (Zab (xq 2 [(63, .v (.int .i64 (IntKind.i64.wrap (((i:Nat):Int) + 1))))] [] ?_))))
   rw [show IntKind.i64.wrap ((((i:Nat):Int) + 1))=((i + 1:Nat):Int) from by rw [IntKind.wrap_i64]; omega]
   refine xq 3 [(66, .v (.bool (decide (((i + 1:Nat):Int) < ((ys.length:Nat):Int)))))] [] ?_
   refine xe (Zaa ?_)
   refine ZaA ((decide (((i + 1:Nat):Int) < ((ys.length:Nat):Int)))) (by kernel_rfl) (fun hb14=>?_) (fun hb14=>?_)
   ·have hb14':=of_decide_eq_true hb14
    refine ZcI 16 [0,0,3,7,0,0,32,112,240,496,0,1024,4080,8176,16383,32767] (by kernel_rfl) (by kernel_rfl) Zah ?_
    refine xqg 2 [eS1 67 (some ⟨r11,0,none⟩) (ys.length) (ys.length),(68, .v (.int .i64 ((i:Nat):Int)))] ?_
    refine xqj 69 (.pointer (some ⟨r11,i,none⟩)) (fun w Q=>ZbP (t:=30) (e:=102) (x:=(Operand.tmp 67)) (ix:=(Operand.tmp 68)) (len:=(ys.length)) (cap:=(ys.length)) (i:=i) (by omega)) ?_
    obtain ⟨x15,hx15⟩:∃ x,((zs).set (i) (x13 / 2 ^ (k % 32)))[i]?.getD 0=x:=⟨_,rfl⟩
    refine xqj 70 (.int .u32 ((x15:Nat):Int)) (fun w Q=>by rw [← hx15]; exact ZcR (t:=102) (x:=(Operand.tmp 69)) (Q.2) (j:=i) (by simp only [List.length_set]; omega)) ?_
    obtain rfl:x15=x13 / 2 ^ (k % 32):=by rw [← hx15,List.getElem?_set_self (by omega)]; rfl
    refine xqg 3 [eS1 71 B ys.length d,(73, .v (.int .i64 (IntKind.i64.wrap (((i:Nat):Int) + 1))))] ?_
    rw [show IntKind.i64.wrap ((((i:Nat):Int) + 1))=((i + 1:Nat):Int) from by rw [IntKind.wrap_i64]; omega]
    refine xqj 74 (atA B (i + 1)) (fun w Q=>Za1 (t:=30) (e:=102) (x:=(Operand.tmp 71)) (ix:=(Operand.tmp 73)) (len:=ys.length) (cap:=d) (i:=i + 1) (((Q.1).self).ne (j:=i + 1) (by omega)) (by omega)) ?_
    obtain ⟨x16,hx16⟩:∃ x,ys[i + 1]?.getD 0=x:=⟨_,rfl⟩
    refine xqj 75 (.int .u32 ((x16:Nat):Int)) (fun w Q=>by rw [← hx16]; exact Zbb (t:=102) (x:=(Operand.tmp 74)) ((Q.1).self) (j:=i + 1) (by omega)) ?_
    have hwx16:x16 < W32:=by rw [← hx16]; exact hdy.getD Zau _
    have hvx16:x16 < 4294967296:=by have:=hwx16; rw [Zaq] at this; exact this
    refine xqg 1 [(76, .v (.int .u64 (IntKind.u64.wrap (((x16:Nat):Int)))))] ?_
    rw [show IntKind.u64.wrap (((x16:Nat):Int))=((x16:Nat):Int) from by rw [IntKind.wrap_u64]; omega]
    refine xqg 2 [(78, .v (.int .u64 (IntKind.u64.wrap (32 - ((k % 32:Nat):Int)))))] ?_
    rw [show IntKind.u64.wrap ((32 - ((k % 32:Nat):Int)))=((32 - (k % 32):Nat):Int) from by rw [IntKind.wrap_u64]; have:=Zam; omega]
    refine xqj 79 (.int .u64 ((x16 * 2 ^ (32 - (k % 32)) % W64:Nat):Int)) (fun w Q=>Znc (t:=94) (x:=(Operand.tmp 76)) (y:=(Operand.tmp 78)) (k:=103) (ky:=.u64) (a:=x16) (n:=(32 - (k % 32))) (by omega)) ?_
    refine xqg 1 [(80, .v (.int .u32 (IntKind.u32.wrap (((x16 * 2 ^ (32 - (k % 32)) % W64:Nat):Int)))))] ?_
    rw [show IntKind.u32.wrap (((x16 * 2 ^ (32 - (k % 32)) % W64:Nat):Int))=((x16 * 2 ^ (32 - k % 32) % W32:Nat):Int) from ZrY _]
    have HS:=HR.step (x:=x13) (y:=x16) (by omega) (by omega) hx13 hx16 hwx13
    refine xqj 81 (.int .u32 ((x13 / 2 ^ (k % 32) + x16 % 2 ^ (k % 32) * 2 ^ (32 - k % 32):Nat):Int)) (fun w Q=>Zt4 (t:=102) (x:=(Operand.tmp 70)) (y:=(Operand.tmp 80)) (k:=102) (a:=((x13 / 2 ^ (k % 32)))) (b:=(x16 * 2 ^ (32 - k % 32) % W32)) (Nat.lt_of_le_of_lt (Nat.div_le_self _ _) hwx13) (Nat.mod_lt _ Zau) (Znd (by omega) hwx13)) ?_
    refine xqj 82 (.pointer (some ⟨r11,i,none⟩)) (fun w Q=>ZbP (t:=30) (e:=102) (x:=(Operand.tmp 67)) (ix:=(Operand.tmp 68)) (len:=(ys.length)) (cap:=(ys.length)) (i:=i) (by omega)) ?_
    refine xz ?_
    refine ZcL (t:=102) (x:=(Operand.tmp 82)) (y:=(Operand.tmp 81)) r11 (i) (x13 / 2 ^ (k % 32) + x16 % 2 ^ (k % 32) * 2 ^ (32 - k % 32)) (fun w=>(Box (fun j=>r11≤j) w (fun w=>Zae .u32 w B (ys))∧Own .u32 102 w r11 (((zs).set (i) (x13 / 2 ^ (k % 32))).set (i) (x13 / 2 ^ (k % 32) + x16 % 2 ^ (k % 32) * 2 ^ (32 - k % 32))))) (fun w Q=>Q.2) (by simp only [List.length_set]; omega) (Or.inl hr11) (fun w w' Q hF hO=>⟨((Q.1).fr (hF.mono (fun _ _ e=>by rw [e]; exact Nat.le_refl _))),hO⟩) ?_
    refine xe (ZbK (Zaa (Zab (xq 2 [(52, .v (.int .i64 (IntKind.i64.wrap (((i:Nat):Int) + 1))))] [] ?_))))
    rw [show IntKind.i64.wrap ((((i:Nat):Int) + 1))=((i + 1:Nat):Int) from by rw [IntKind.wrap_i64]; omega]
    refine xq 1 [(9, .v (.int .i64 ((i + 1:Nat):Int)))] [] ?_
    refine xe ?_
    refine SXq.weak [(2, .p 2 0),(4, .p 4 0),(6, .v (.slice B ys.length d)),(7, .v (.int .u64 ((k % 32:Nat):Int))),(8, .v (.slice (some ⟨r11,0,none⟩) (ys.length) (ys.length))),(9, .v (.int .i64 (((i + 1):Nat):Int)))] [(4,32,[.v (.bool false), .v (.slice none 0 0)]),(2,32,[.v (.bool s0), .v (.slice A xs.length c)])] (Ψ:=fun w=>(Box (fun j=>r11≤j) w (fun w=>Zae .u32 w B (ys))∧Own .u32 102 w r11 ((((zs).set (i) (x13 / 2 ^ (k % 32))).set (i) (x13 / 2 ^ (k % 32) + x16 % 2 ^ (k % 32) * 2 ^ (32 - k % 32)))))) (ZaG.of (by kernel_rfl)) (by kernel_rfl) (fun w Q=>⟨Q.1,Q.2⟩) ?_
    exact Zbc ((ys.length - (i + 1))) (by omega) ⟨(i + 1),(((zs).set (i) (x13 / 2 ^ (k % 32))).set (i) (x13 / 2 ^ (k % 32) + x16 % 2 ^ (k % 32) * 2 ^ (32 - k % 32))),rfl,rfl,(by rw [List.set_set]; exact HS),by omega,rfl⟩
   ·have hb14':=of_decide_eq_false hb14
    have HS:=HR.step (x:=x13) (y:=0) (by omega) (by omega) hx13 (by rw [List.getElem?_eq_none (by omega)]; rfl) hwx13
    rw [Nat.zero_mod,Nat.zero_mul,Nat.add_zero] at HS
    refine Zap (ZbK (Zaa (Zab (xq 2 [(52, .v (.int .i64 (IntKind.i64.wrap (((i:Nat):Int) + 1))))] [] ?_))))
    rw [show IntKind.i64.wrap ((((i:Nat):Int) + 1))=((i + 1:Nat):Int) from by rw [IntKind.wrap_i64]; omega]
    refine xq 1 [(9, .v (.int .i64 ((i + 1:Nat):Int)))] [] ?_
    refine xe ?_
    refine SXq.weak [(2, .p 2 0),(4, .p 4 0),(6, .v (.slice B ys.length d)),(7, .v (.int .u64 ((k % 32:Nat):Int))),(8, .v (.slice (some ⟨r11,0,none⟩) (ys.length) (ys.length))),(9, .v (.int .i64 (((i + 1):Nat):Int)))] [(4,32,[.v (.bool false), .v (.slice none 0 0)]),(2,32,[.v (.bool s0), .v (.slice A xs.length c)])] (Ψ:=fun w=>(Box (fun j=>r11≤j) w (fun w=>Zae .u32 w B (ys))∧Own .u32 102 w r11 (((zs).set (i) (x13 / 2 ^ (k % 32)))))) (ZaG.of (by kernel_rfl)) (by kernel_rfl) (fun w Q=>⟨Q.1,Q.2⟩) ?_
    exact Zbc ((ys.length - (i + 1))) (by omega) ⟨(i + 1),((zs).set (i) (x13 / 2 ^ (k % 32))),rfl,rfl,HS,by omega,rfl⟩
  ·have hb12':=of_decide_eq_false hb12
   have hzl:zs.length=ys.length:=HR.1
   obtain rfl:i=ys.length:=by omega
   have HD:=HR.done
   rw [← hys,ZlL xs (k / 32) (k % 32) hd (by omega),show 32 * (k / 32) + k % 32=k by omega] at HD
   refine Zbp (Zax (Zax (ZbA (Zaa (Zac ?_)))))
   refine ZaC 6 (by kernel_rfl) (by kernel_rfl) Zah ?_
   refine xqg 3 [(84, .v (.bool s0)),eS1 85 (some ⟨r11,0,none⟩) (ys.length) (ys.length)] ?_
   refine xqd 71 [.slice (some ⟨r11,0,none⟩) (ys.length) (ys.length)] 86 Za7 _ (fun w R Q=>(ZrZ Q.2 HR.2.1 hzl HD (by omega)).mono (fun _ _=>ZnT)) (fun xx=>?_)
   obtain ⟨A17,l17,c17⟩:=xx
   refine xqd 61 [.bool s0, .slice A17 l17 c17] 87 ZaE _ (fun w R Q=>(Zc9 s0 _ (val W32 xs / 2 ^ k) _ Q.2).mono (fun _ _=>ZaH)) (fun xx=>?_)
   obtain ⟨s18,A18,l18,c18⟩:=xx
   refine xqf 1 [] [bI2 4 32 s18 A18 l18 c18,bI2 4 32 false none 0 0,bI2 2 32 s0 A xs.length c] ?_
   refine xz (xe (Zaa (Zaj ?_)))
   refine Zaf (v:=.agg #[.bool s18, .slice A18 l18 c18]) (by kernel_rfl) (fun w' R Q=>?_)
   exact ⟨_,rfl,Q.2,R⟩
theorem ZsQ (a:Value) (z:Int) (k:Nat) (w:World) (ha:Zai w a z) (hx:ZaM z) (hk:k≤1099511627776):Calls Tryz.prog 25 #[a, .int .i64 (-((k:Nat):Int))] w (Zba w (sg (decide (z < 0)) (z.natAbs / 2 ^ k))):=by
 rcases Nat.eq_zero_or_pos k with rfl | hk0
 ·have h:=ZeA a z 0 w ha hx (by omega)
  rw [Int.pow_zero,Int.mul_one] at h
  rw [Nat.pow_zero,Nat.div_one,Zih]
  exact h
 ·obtain ⟨s0,A,l,c,rfl,hN,hz1,hs0⟩:=ha.open
  obtain ⟨A',xs,c',he,hc,hS,hd,ht,hv⟩:=hN
  injection he with e1 e2 e3
  subst e1 e2 e3
  have hml:=Zby hd ht
  rw [hv] at hml
  have h:=Zr0 s0 A xs c k w hS (by unfold ZaM at hx; omega) hc hd hk0 hk
  rw [hv] at h
  have es:sg s0 (z.natAbs / 2 ^ k)=sg (decide (z < 0)) (z.natAbs / 2 ^ k):=by
   by_cases h0:z=0
   ·subst h0
    rw [show (0:Int).natAbs=0 from rfl,Nat.zero_div,Zlk,Zlk]
   ·congr 1
    generalize z.natAbs=n at *
    subst hz1
    unfold sg at *
    cases s0
    ·simp
    ·simp; simp at h0; omega
  rwa [es] at h
theorem ZnY (b:Bool) (A:Option Addr) (xs:List Nat) (c:Nat) (z e:Int) (w:World) (hN:Zai w (.agg #[.bool b, .slice A xs.length c]) z) (hX:Zae .u32 w A xs) (hd:Dig W32 xs) (hv:val W32 xs=z.natAbs) (h0:z≠0) (hz:ZaM z) (htz:tzn z.natAbs≤1099511627776) (he1 : -1152921504606846976≤e) (he2:e≤1152921504606846976) :
 Calls Tryz.prog 135 #[.agg #[.bool b, .slice A xs.length c], .int .i64 e] w (ZqC w (sg (decide (z < 0)) (oddM z.natAbs)) (e + ((tzn z.natAbs:Nat):Int))):=by
 refine Zaz (Φ:=fun w=>(Zai w (.agg #[.bool b, .slice A xs.length c]) (z)∧Zae .u32 w A xs)) Tryz.func135 rfl (by kernel_rfl) (fun w' hf=>⟨hN.ext hf,hX.ext hf⟩) ?_
 refine Zac (Zab (xq 2 [(2, .p 2 0),(4, .p 4 0)] [(4,52,[.v (.bool false), .v (.slice none 0 0), .v (.int .i64 0)]),bI2 2 32 b A xs.length c] ?_))
 refine xe (Zaa (Zac (Zac (Zab (xq 1 [eI2 6 b A xs.length c] [] ?_)))))
 refine xqc 62 [vI2 b A xs.length c] 7 (fun _:Unit=>.int .i64 (Int.sign z)) _ (fun w R Q=>(ZcD _ z _ Q.1).mono (fun _ _ h=>Zad h rfl)) (fun xx=>?_)
 refine xq 1 [(8, .v (.bool (((Int.sign z):Int) == 0)))] [] ?_
 rw [(show (((Int.sign z):Int) == 0)=false from by have:=mt Int.sign_eq_zero_iff_zero.1 h0; simpa using this)]
 refine xe (Zaa (xb (Zap (Zaa (Zac (Zab (xq 1 [(5, .v (.int .i64 0))] [] ?_)))))))
 refine xe (Zaa (Zac (ZaO ?_)))
 refine SXc.weak [(1, .v (.int .i64 e)),(2, .p 2 0),(4, .p 4 0),(5, .v (.int .i64 ((0:Nat):Int)))] [(4,52,[.v (.bool false), .v (.slice none 0 0), .v (.int .i64 0)]),(2,32,[.v (.bool b), .v (.slice A xs.length c)])] (Ψ:=fun w=>(Zai w (.agg #[.bool b, .slice A xs.length c]) (z)∧Zae .u32 w A (xs))) (ZaG.of (by kernel_rfl)) (by kernel_rfl) (fun w Q=>⟨Q.1.1,Q.1.2⟩) ?_
 refine ZbR (fun nn ss ff=>∃ (k:Nat),ss=ofL [(1, .v (.int .i64 e)),(2, .p 2 0),(4, .p 4 0),(5, .v (.int .i64 ((k:Nat):Int)))] [(4,52,[.v (.bool false), .v (.slice none 0 0), .v (.int .i64 0)]),(2,32,[.v (.bool b), .v (.slice A xs.length c)])]∧ff=(fun w=>(Zai w (.agg #[.bool b, .slice A xs.length c]) (z)∧Zae .u32 w A (xs)))∧(k≤tzn z.natAbs)∧nn=(tzn z.natAbs - k)) ((tzn z.natAbs - 0)) ⟨0,rfl,rfl,Nat.zero_le _,rfl⟩ ?_
 rintro nn ss ff ⟨k,rfl,rfl,hk,rfl⟩
 refine Zac (Zac ?_)
 have hlt:k / 32 < xs.length:=ZrX hd (by omega) (by rw [hv]; exact hk)
 refine Zab (xq 4 [eS1 11 A xs.length c,(13, .v (.int .i64 (IntKind.i64.wrap ((((k:Nat):Int)).tdiv 32))))] [] ?_)
 rw [show IntKind.i64.wrap (((((k:Nat):Int)).tdiv 32))=((k / 32:Nat):Int) from tdq (k) 32 (by omega)]
 refine xqk 14 (atA A (k / 32)) (fun w R Q=>Za1 (t:=30) (e:=102) (x:=(Operand.tmp 11)) (ix:=(Operand.tmp 13)) (len:=xs.length) (cap:=c) (i:=k / 32) ((Q.2).ne (j:=k / 32) (by omega)) (by omega)) ?_
 obtain ⟨x10,hx10⟩:∃ x,xs[k / 32]?.getD 0=x:=⟨_,rfl⟩
 refine xqk 15 (.int .u32 ((x10:Nat):Int)) (fun w R Q=>by rw [← hx10]; exact Zbb (t:=102) (x:=(Operand.tmp 14)) (Q.2) (j:=k / 32) (by omega)) ?_
 have hwx10:x10 < W32:=by rw [← hx10]; exact hd.getD Zau _
 refine xq 2 [(17, .v (.int .i64 ((((k:Nat):Int)).tmod 32)))] [] ?_
 rw [show (((k:Nat):Int)).tmod 32=((k % 32:Nat):Int) from tdr (k) 32]
 refine xqk 18 (.int .u32 ((x10 / 2 ^ (k % 32):Nat):Int)) (fun w R Q=>ZnX (t:=102) (x:=(Operand.tmp 15)) (y:=(Operand.tmp 17)) (k:=3) (ky:=.i64) (a:=x10) (n:=(k % 32)) (by omega)) ?_
 refine xqk 19 (.int .u32 (((x10 / 2 ^ (k % 32)) % 2:Nat):Int)) (fun w R Q=>ZsP (t:=102) (x:=(Operand.tmp 18)) (y:=(Operand.const (Value.int IntKind.u32 1))) (k:=102) (a:=(x10 / 2 ^ (k % 32))) (ha:=Nat.lt_of_le_of_lt (Nat.div_le_self _ _) hwx10)) ?_
 refine xq 1 [(20, .v (.bool (((((x10 / 2 ^ (k % 32)) % 2:Nat):Int):Int) == 0)))] [] ?_
 refine xe (Zaa ?_)
 refine ZaA ((((((x10 / 2 ^ (k % 32)) % 2:Nat):Int):Int) == 0)) (by kernel_rfl) (fun hb11=>?_) (fun hb11=>?_)
 ·have hb11':=beq_iff_eq.1 hb11
  have hbv:=Zmd hd hlt hx10
  rw [hv] at hbv
  have hk1:k + 1≤tzn z.natAbs:=Zt0 (by omega) hk (by omega)
  refine Zap (Zaa (ZaO (Zab (xq 2 [(22, .v (.int .i64 (IntKind.i64.wrap (((k:Nat):Int) + 1))))] [] ?_))))
  rw [show IntKind.i64.wrap ((((k:Nat):Int) + 1))=((k + 1:Nat):Int) from by rw [IntKind.wrap_i64]; omega]
  refine xq 1 [(5, .v (.int .i64 ((k + 1:Nat):Int)))] [] ?_
  refine xe (ZbK ?_)
  refine SXq.weak [(1, .v (.int .i64 e)),(2, .p 2 0),(4, .p 4 0),(5, .v (.int .i64 (((k + 1):Nat):Int)))] [(4,52,[.v (.bool false), .v (.slice none 0 0), .v (.int .i64 0)]),(2,32,[.v (.bool b), .v (.slice A xs.length c)])] (Ψ:=fun w=>(Zai w (.agg #[.bool b, .slice A xs.length c]) (z)∧Zae .u32 w A (xs))) (ZaG.of (by kernel_rfl)) (by kernel_rfl) (fun w Q=>⟨Q.1,Q.2⟩) ?_
  exact Zbc ((tzn z.natAbs - (k + 1))) (by omega) ⟨(k + 1),rfl,rfl,hk1,rfl⟩
 ·have hb11':=ZbS hb11
  have hbv:=Zmd hd hlt hx10
  rw [hv] at hbv
  have hke:k=tzn z.natAbs:=Zt1 (by omega) hk (by omega)
  subst hke
  refine Zbp (Zax (Zax (ZbA (Zaa (Zac (Zab (xq 3 [eI2 23 b A xs.length c,(25, .v (.int .i64 (IntKind.i64.wrap (0 - ((((tzn z.natAbs):Nat):Int))))))] [] ?_)))))))
  rw [show IntKind.i64.wrap (0 - ((tzn z.natAbs:Nat):Int)) = -((tzn z.natAbs:Nat):Int) from by rw [IntKind.wrap_i64]; omega]
  refine xqc 25 [vI2 b A xs.length c, .int .i64 (-((tzn z.natAbs:Nat):Int))] 26 ZaE _ (fun w R Q=>(ZsQ _ z (tzn z.natAbs) _ Q.1 hz (by omega)).mono (fun _ _=>ZaH)) (fun xx=>?_)
  obtain ⟨s12,A12,l12,c12⟩:=xx
  refine xq 3 [(29, .v (.int .i64 (IntKind.i64.wrap (e + (((tzn z.natAbs):Nat):Int)))))] [] ?_
  rw [show IntKind.i64.wrap (e + ((tzn z.natAbs:Nat):Int))=e + ((tzn z.natAbs:Nat):Int) from by rw [IntKind.wrap_i64]; omega]
  refine xq 2 [] [(4,52,[.v (.bool s12), .v (.slice A12 l12 c12), .v (.int .i64 (e + ((tzn z.natAbs:Nat):Int)))])] ?_
  refine xe (Zaa (Zaj ?_))
  refine Zaf (v:=.agg #[.bool s12, .slice A12 l12 c12, .int .i64 (e + ((tzn z.natAbs:Nat):Int))]) (by kernel_rfl) (fun w' R Q=>?_)
  exact ⟨(s12,A12,l12,c12),rfl,Q.2,R⟩
theorem Zjr (b:Bool) (A:Option Addr) (l c:Nat) (z e:Int) (w:World) (hN:Zai w (.agg #[.bool b, .slice A l c]) z) (h0:z≠0) (hz:ZaM z) (he1 : -1152921504606846976≤e) (he2:e≤1152921504606846976) :
 Calls Tryz.prog 135 #[.agg #[.bool b, .slice A l c], .int .i64 e] w (ZqC w (sg (decide (z < 0)) (oddM z.natAbs)) (e + ((tzn z.natAbs:Nat):Int))):=by
 obtain ⟨A',xs,c',he,hc,hS,hd,ht,hv⟩:=hN.opn.1
 injection he with e1 e2 e3
 subst e1 e2 e3
 have hml:=Zby hd ht
 rw [hv] at hml
 have hl:xs.length≤1048576:=by unfold ZaM at hz; omega
 have htl:=ZrX hd (by rw [hv]; omega) (k:=tzn (val W32 xs)) (Nat.le_refl _)
 rw [hv] at htl
 exact ZnY b A xs c z e w hN hS hd hv h0 hz (by omega) he1 he2
theorem Zix (s1:Bool) (A1:Option Addr) (l1 c1:Nat) (s2:Bool) (A2:Option Addr) (l2 c2:Nat) (a b:Nat) (w:World) (hA:Zai w (.agg #[.bool s1, .slice A1 l1 c1]) ((a:Nat):Int)) (hB:Zai w (.agg #[.bool s2, .slice A2 l2 c2]) ((b:Nat):Int)) (ha:ml a≤90000) (hb:ml b≤90000) (hb0:0 < b) :
 Calls Tryz.prog 147 #[.agg #[.bool s1, .slice A1 l1 c1], .agg #[.bool s2, .slice A2 l2 c2]] w (Zba w ((Zb0 a b:Nat):Int)):=by
 have h2r:ml (2 * (a % b))≤90001:=Nat.le_trans (Zq0 _ _) (by have h1:ml 2≤1:=ZaW.2 (by rw [Zaq]; decide); have h2:=ZbF (Nat.le_of_lt (Nat.mod_lt a hb0)); omega)
 have ha':ml a≤100000:=by omega
 have hb':ml b≤100000:=by omega
 refine Zaz (Φ:=fun w=>(Zai w (.agg #[.bool s1, .slice A1 l1 c1]) (((a:Nat):Int))∧Zai w (.agg #[.bool s2, .slice A2 l2 c2]) (((b:Nat):Int)))) Tryz.func147 rfl (by kernel_rfl) (fun w' hf=>⟨hA.ext hf,hB.ext hf⟩) ?_
 refine Zac (Zab (xq 3 [(2, .p 2 0),(3, .p 3 0),(4, .p 4 0)] [bI2 4 32 false none 0 0,bI2 3 32 s2 A2 l2 c2,bI2 2 32 s1 A1 l1 c1] ?_))
 refine xe (Zaa (Zac (Zab (xq 2 [eI2 9 s1 A1 l1 c1,eI2 10 s2 A2 l2 c2] [] ?_))))
 refine xqc 70 [vI2 s1 A1 l1 c1,vI2 s2 A2 l2 c2] 11 Zfl _ (fun w R Q=>(ZjR Q.1 Q.2 ha' hb' hb0).mono (fun _ _=>Zd0)) (fun xx=>?_)
 obtain ⟨⟨s10,A10,l10,c10⟩,⟨s11,A11,l11,c11⟩⟩:=xx
 refine xq 7 [(5, .p 5 0),(6, .p 6 0)] [bI2 6 32 s11 A11 l11 c11,bI2 5 32 s10 A10 l10 c10] ?_
 refine xe (Zaa (Zac ?_))
 refine SXc.weak [(3, .p 3 0),(4, .p 4 0),(5, .p 5 0),(6, .p 6 0)] [(6,32,[.v (.bool s11), .v (.slice A11 l11 c11)]),(5,32,[.v (.bool s10), .v (.slice A10 l10 c10)]),(4,32,[.v (.bool false), .v (.slice none 0 0)]),(3,32,[.v (.bool s2), .v (.slice A2 l2 c2)])] (ZaG.of (by kernel_rfl)) (by kernel_rfl) (fun _ h=>h) ?_
 refine ZaC 5 (by kernel_rfl) (by kernel_rfl) Zah ?_
 refine xqg 1 [eI2 14 s11 A11 l11 c11] ?_
 refine xqd 25 [vI2 s11 A11 l11 c11, .int .i64 1] 15 ZaE _ (fun w R Q=>(ZeA _ ((a % b:Nat):Int) 1 _ Q.2.2 (nfit (mlc (Nat.le_trans (ZbF (Nat.le_of_lt (Nat.mod_lt a hb0))) hb)) (by decide)) (by omega)).mono (fun _ _ h=>ZaH (by rw [show ((a % b:Nat):Int) * 2 ^ 1=((2 * (a % b):Nat):Int) from by omega] at h; exact h))) (fun xx=>?_)
 obtain ⟨s12,A12,l12,c12⟩:=xx
 refine xqg 1 [eI2 16 s2 A2 l2 c2] ?_
 refine xqd 133 [vI2 s12 A12 l12 c12,vI2 s2 A2 l2 c2] 17 (fun _:Unit=>.int .i64 (((2 * (a % b):Nat):Int) - ((b:Nat):Int)).sign) _ (fun w R Q=>(Zsp _ _ ((2 * (a % b):Nat):Int) ((b:Nat):Int) _ Q.2 Q.1.1.2 (nfit (mlc h2r) (by decide)) (nfit (mlc hb) (by decide))).mono (fun _ _ h=>Zad h rfl)) (fun xx=>?_)
 refine xqg 1 [(7, .v (.int .i64 (((2 * (a % b):Nat):Int) - ((b:Nat):Int)).sign))] ?_
 refine xz (xe (Zaa (Zac (Zac ?_))))
 by_cases hgt:b < 2 * (a % b)
 ·refine Zab (xq 2 [(19, .v (.bool (decide ((((2 * (a % b):Nat):Int) - ((b:Nat):Int)).sign > 0))))] [] ?_)
  rw [show decide ((((2 * (a % b):Nat):Int) - ((b:Nat):Int)).sign > 0)=true from decide_eq_true (by rw [Int.sign_eq_one_of_pos (by omega)]; decide)]
  refine xq 18 [(37, .v (.bool true))] [] ?_
  refine xe (Zaa (xa ?_))
  refine SXc.weak [(4, .p 4 0),(5, .p 5 0)] [(5,32,[.v (.bool s10), .v (.slice A10 l10 c10)]),(4,32,[.v (.bool false), .v (.slice none 0 0)])] (ZaG.of (by kernel_rfl)) (by kernel_rfl) (fun _ h=>h) ?_
  refine ZaC 3 (by kernel_rfl) (by kernel_rfl) Zah ?_
  refine xqg 1 [eI2 38 s10 A10 l10 c10] ?_
  refine xqd 24 [.int .i64 1] 39 ZaE _ (fun w R Q=>(ZeH 1 _ (by decide) (by decide)).mono (fun _ _=>ZaH)) (fun xx=>?_)
  obtain ⟨s13,A13,l13,c13⟩:=xx
  refine xqd 77 [vI2 s10 A10 l10 c10,vI2 s13 A13 l13 c13] 40 ZaE _ (fun w R Q=>(ZnW (x:=a / b) (r:=1) Q.1.1.1.2.1 Q.2 (Nat.le_trans (ZbF (Nat.div_le_self a b)) ha') (Nat.le_trans (ZaW.2 (show (1:Nat) < W32 ^ 1 by rw [Zaq]; decide)) (by decide))).mono (fun _ _=>ZaH)) (fun xx=>?_)
  obtain ⟨s14,A14,l14,c14⟩:=xx
  refine xz (xq 1 [] [bI2 5 32 s14 A14 l14 c14] ?_)
  refine xe (Zaa (Zac (Zab (xq 2 [] [bI2 4 32 s14 A14 l14 c14] ?_))))
  refine xe (Zaa (Zaj ?_))
  refine Zaf (v:=.agg #[.bool s14, .slice A14 l14 c14]) (by kernel_rfl) (fun w' R Q=>?_)
  exact ⟨_,rfl,by rw [ZpA (by omega)]; exact Q.2,R⟩
 ·by_cases heq:2 * (a % b)=b
  ·by_cases hq0:a / b=0
   ·refine SXc.know (p:=l10=0) (fun w _ Q=>len_zero (Q.1.1.2.1) (by omega)) (fun hl0=>?_)
    refine Zab (xq 2 [(19, .v (.bool (decide ((((2 * (a % b):Nat):Int) - ((b:Nat):Int)).sign > 0))))] [] ?_)
    rw [show decide ((((2 * (a % b):Nat):Int) - ((b:Nat):Int)).sign > 0)=false from ZiZ (by omega)]
    refine xq 3 [(20, .v (.bool false)),(22, .v (.bool (((((2 * (a % b):Nat):Int) - ((b:Nat):Int)).sign:Int) == 0)))] [] ?_
    rw [show ((((2 * (a % b):Nat):Int) - ((b:Nat):Int)).sign == 0)=true from beq_iff_eq.2 (Int.sign_eq_zero_iff_zero.2 (by omega))]
    refine xq 5 [(23, .v (.bool true)),(27, .v (.bool (decide (((l10:Nat):Int) > 0))))] [] ?_
    rw [show decide (((l10:Nat):Int) > 0)=false from decide_eq_false (by omega)]
    refine xq 10 [(37, .v (.bool false))] [] ?_
    refine xe (Zaa (xb (Zap (Zaa (Zac (Zab (xq 2 [] [bI2 4 32 s10 A10 l10 c10] ?_)))))))
    refine xe (Zaa (Zaj ?_))
    refine Zaf (v:=.agg #[.bool s10, .slice A10 l10 c10]) (by kernel_rfl) (fun w' R Q=>?_)
    exact ⟨_,rfl,by rw [Zlj (by omega)]; exact Q.1.1.2.1,R⟩
   ·by_cases hodd:a / b % 2=1
    ·refine SXc.know (p:=0 < l10) (fun w _ Q=>(Q.1.1.2.1).lenp (by omega)) (fun hl0=>?_)
     refine Zab (xq 2 [(19, .v (.bool (decide ((((2 * (a % b):Nat):Int) - ((b:Nat):Int)).sign > 0))))] [] ?_)
     rw [show decide ((((2 * (a % b):Nat):Int) - ((b:Nat):Int)).sign > 0)=false from ZiZ (by omega)]
     refine xq 3 [(20, .v (.bool false)),(22, .v (.bool (((((2 * (a % b):Nat):Int) - ((b:Nat):Int)).sign:Int) == 0)))] [] ?_
     rw [show ((((2 * (a % b):Nat):Int) - ((b:Nat):Int)).sign == 0)=true from beq_iff_eq.2 (Int.sign_eq_zero_iff_zero.2 (by omega))]
     refine xq 5 [(23, .v (.bool true)),(27, .v (.bool (decide (((l10:Nat):Int) > 0))))] [] ?_
     rw [show decide (((l10:Nat):Int) > 0)=true from decide_eq_true (by omega)]
     refine xq 4 [(29, .v (.bool true)),eS1 31 A10 l10 c10] [] ?_
     refine xqk 32 (atA A10 0) (fun w R Q=>(by obtain ⟨zs,hS,h1,h2,h3,h4⟩:=ZgV (Q.1.1.2.1) (z:=((a / b:Nat):Int)) (by omega); exact Za1 (t:=30) (e:=102) (x:=.tmp 31) (ix:=.const (.int .i64 0)) (len:=l10) (cap:=c10) (i:=0) h4 (by have h5:l10=zs.length:=h3; omega))) ?_
     refine xqk 33 (.int .u32 (((a / b) % W32:Nat):Int)) (fun w R Q=>(by obtain ⟨zs,hS,h1,h2,h3,h4⟩:=ZgV (Q.1.1.2.1) (z:=((a / b:Nat):Int)) (by omega); rw [Int.natAbs_natCast] at h2; rw [← h2]; exact Zbb (t:=102) (x:=.tmp 32) hS (j:=0) h1)) ?_
     refine xqk 34 (.int .u32 (((a / b) % W32 % 2:Nat):Int)) (fun w R Q=>Zip (t:=102) (k:=102) (x:=.tmp 33) (y:=.const (.int .u32 1)) (by kernel_rfl) (by kernel_rfl) (by kernel_rfl) (by have:=Nat.mod_lt (a / b) (show 0 < W32 by rw [Zaq]; decide); rw [Zaq] at this ⊢; exact this)) ?_
     refine xq 1 [(35, .v (.bool (((((a / b) % W32 % 2:Nat):Int):Int) == 1)))] [] ?_
     rw [(show ((((a / b) % W32 % 2:Nat):Int) == 1)=true from beq_iff_eq.2 (by rw [Zaq]; omega))]
     refine xq 2 [(37, .v (.bool true))] [] ?_
     refine xe (Zaa (xa ?_))
     refine SXc.weak [(4, .p 4 0),(5, .p 5 0)] [(5,32,[.v (.bool s10), .v (.slice A10 l10 c10)]),(4,32,[.v (.bool false), .v (.slice none 0 0)])] (ZaG.of (by kernel_rfl)) (by kernel_rfl) (fun _ h=>h) ?_
     refine ZaC 3 (by kernel_rfl) (by kernel_rfl) Zah ?_
     refine xqg 1 [eI2 38 s10 A10 l10 c10] ?_
     refine xqd 24 [.int .i64 1] 39 ZaE _ (fun w R Q=>(ZeH 1 _ (by decide) (by decide)).mono (fun _ _=>ZaH)) (fun xx=>?_)
     obtain ⟨s15,A15,l15,c15⟩:=xx
     refine xqd 77 [vI2 s10 A10 l10 c10,vI2 s15 A15 l15 c15] 40 ZaE _ (fun w R Q=>(ZnW (x:=a / b) (r:=1) Q.1.1.1.2.1 Q.2 (Nat.le_trans (ZbF (Nat.div_le_self a b)) ha') (Nat.le_trans (ZaW.2 (show (1:Nat) < W32 ^ 1 by rw [Zaq]; decide)) (by decide))).mono (fun _ _=>ZaH)) (fun xx=>?_)
     obtain ⟨s16,A16,l16,c16⟩:=xx
     refine xz (xq 1 [] [bI2 5 32 s16 A16 l16 c16] ?_)
     refine xe (Zaa (Zac (Zab (xq 2 [] [bI2 4 32 s16 A16 l16 c16] ?_))))
     refine xe (Zaa (Zaj ?_))
     refine Zaf (v:=.agg #[.bool s16, .slice A16 l16 c16]) (by kernel_rfl) (fun w' R Q=>?_)
     exact ⟨_,rfl,by rw [ZpA (by omega)]; exact Q.2,R⟩
    ·refine SXc.know (p:=0 < l10) (fun w _ Q=>(Q.1.1.2.1).lenp (by omega)) (fun hl0=>?_)
     refine Zab (xq 2 [(19, .v (.bool (decide ((((2 * (a % b):Nat):Int) - ((b:Nat):Int)).sign > 0))))] [] ?_)
     rw [show decide ((((2 * (a % b):Nat):Int) - ((b:Nat):Int)).sign > 0)=false from ZiZ (by omega)]
     refine xq 3 [(20, .v (.bool false)),(22, .v (.bool (((((2 * (a % b):Nat):Int) - ((b:Nat):Int)).sign:Int) == 0)))] [] ?_
     rw [show ((((2 * (a % b):Nat):Int) - ((b:Nat):Int)).sign == 0)=true from beq_iff_eq.2 (Int.sign_eq_zero_iff_zero.2 (by omega))]
     refine xq 5 [(23, .v (.bool true)),(27, .v (.bool (decide (((l10:Nat):Int) > 0))))] [] ?_
     rw [show decide (((l10:Nat):Int) > 0)=true from decide_eq_true (by omega)]
     refine xq 4 [(29, .v (.bool true)),eS1 31 A10 l10 c10] [] ?_
     refine xqk 32 (atA A10 0) (fun w R Q=>(by obtain ⟨zs,hS,h1,h2,h3,h4⟩:=ZgV (Q.1.1.2.1) (z:=((a / b:Nat):Int)) (by omega); exact Za1 (t:=30) (e:=102) (x:=.tmp 31) (ix:=.const (.int .i64 0)) (len:=l10) (cap:=c10) (i:=0) h4 (by have h5:l10=zs.length:=h3; omega))) ?_
     refine xqk 33 (.int .u32 (((a / b) % W32:Nat):Int)) (fun w R Q=>(by obtain ⟨zs,hS,h1,h2,h3,h4⟩:=ZgV (Q.1.1.2.1) (z:=((a / b:Nat):Int)) (by omega); rw [Int.natAbs_natCast] at h2; rw [← h2]; exact Zbb (t:=102) (x:=.tmp 32) hS (j:=0) h1)) ?_
     refine xqk 34 (.int .u32 (((a / b) % W32 % 2:Nat):Int)) (fun w R Q=>Zip (t:=102) (k:=102) (x:=.tmp 33) (y:=.const (.int .u32 1)) (by kernel_rfl) (by kernel_rfl) (by kernel_rfl) (by have:=Nat.mod_lt (a / b) (show 0 < W32 by rw [Zaq]; decide); rw [Zaq] at this ⊢; exact this)) ?_
     refine xq 1 [(35, .v (.bool (((((a / b) % W32 % 2:Nat):Int):Int) == 1)))] [] ?_
     rw [(show ((((a / b) % W32 % 2:Nat):Int) == 1)=false from beq_eq_false_iff_ne.2 (by rw [Zaq]; omega))]
     refine xq 2 [(37, .v (.bool false))] [] ?_
     refine xe (Zaa (xb (Zap (Zaa (Zac (Zab (xq 2 [] [bI2 4 32 s10 A10 l10 c10] ?_)))))))
     refine xe (Zaa (Zaj ?_))
     refine Zaf (v:=.agg #[.bool s10, .slice A10 l10 c10]) (by kernel_rfl) (fun w' R Q=>?_)
     exact ⟨_,rfl,by rw [Zlj (by omega)]; exact Q.1.1.2.1,R⟩
  ·refine Zab (xq 2 [(19, .v (.bool (decide ((((2 * (a % b):Nat):Int) - ((b:Nat):Int)).sign > 0))))] [] ?_)
   rw [show decide ((((2 * (a % b):Nat):Int) - ((b:Nat):Int)).sign > 0)=false from ZiZ (by omega)]
   refine xq 3 [(20, .v (.bool false)),(22, .v (.bool (((((2 * (a % b):Nat):Int) - ((b:Nat):Int)).sign:Int) == 0)))] [] ?_
   rw [show ((((2 * (a % b):Nat):Int) - ((b:Nat):Int)).sign == 0)=false from beq_eq_false_iff_ne.2 (fun e=>by have:=Int.sign_eq_zero_iff_zero.1 e; omega)]
   refine xq 15 [(37, .v (.bool false))] [] ?_
   refine xe (Zaa (xb (Zap (Zaa (Zac (Zab (xq 2 [] [bI2 4 32 s10 A10 l10 c10] ?_)))))))
   refine xe (Zaa (Zaj ?_))
   refine Zaf (v:=.agg #[.bool s10, .slice A10 l10 c10]) (by kernel_rfl) (fun w' R Q=>?_)
   exact ⟨_,rfl,by rw [Zlj (by omega)]; exact Q.1.1.2.1,R⟩
end Go.Proofs.YtklpdkpcocnglaaGreatDoor

namespace Go.Proofs.YtklpdkpcocnglaaGreatDoor
open Go.RowKit
theorem Zai.absv {w:World} {s:Bool} {A:Option Addr} {l c:Nat} {z:Int} (h:Zai w (.agg #[.bool s, .slice A l c]) z):Zai w (.agg #[.bool false, .slice A l c]) ((z.natAbs:Nat):Int) :=
 ⟨false,_,z.natAbs,rfl,h.opn.1,fun _=>rfl,rfl⟩
theorem Zai.sgn {w:World} {A:Option Addr} {l c n:Nat} (h:Zai w (.agg #[.bool false, .slice A l c]) ((n:Nat):Int)) (h0:0 < n) (t:Bool):Zai w (.agg #[.bool t, .slice A l c]) (sg t n):=by
 have h1:=h.opn.1
 rw [Int.natAbs_natCast] at h1
 exact ⟨t,_,n,rfl,h1,fun e=>by omega,rfl⟩
theorem Zai.signb {w:World} {s:Bool} {A:Option Addr} {l c:Nat} {z:Int} (h:Zai w (.agg #[.bool s, .slice A l c]) z):s=decide (z < 0):=by
 obtain ⟨_,h1,h2⟩:=h.opn
 cases s
 ·have:z=(z.natAbs:Int):=h1
  exact (decide_eq_false (by omega)).symm
 ·have h3:z = -(z.natAbs:Int):=h1
  have h4:z≠0:=fun e=>by have:=h2 e; cases this
  exact (decide_eq_true (by omega)).symm
abbrev CB (w:World) (g:Nat) (bits err:Int):Prop:=Blk 84 w g #[.int .i64 bits, .int .i64 err]
def RetC (w:World) (g:Nat) (bits:Int) (r:FR) (e:Ending) (w':World):Prop:=∃ y:ShI,e=.returned (shF r.e y)∧Zai w' (ZaE y) (sg r.s r.m)∧Fr (fun i=>i=g) w w'∧CB w' g bits r.err
theorem ZuL (a b:Int):ZpJ #[.int .i64 a, .int .i64 b]:=by
 intro i k z h; rcases i with _ | _ | i<;>simp at h
 ·exact h.1.symm
 ·exact h.1.symm
theorem ZuX {t:TypeId} {w w':World} {g:Nat} {cs:Array Value} {φ:World→Prop} (hF:Fr (fun i=>i=g) w w') (hB:Blk t w' g cs) (hn:ZpJ cs) (h:∀ S w'',(∀ i,S i→NRB w' i)→Fr S w' w''→φ w''):BoxN w w' φ:=fun S hS w'' hf=>h S w'' (fun i hi=>by
 by_cases e:i=g
 ·subst e; exact ⟨_,_,hB,hn⟩
 ·obtain ⟨t',cs',hb,hd⟩:=(hS i hi).2
  exact ⟨t',cs',hb.fr hF e,hd⟩) hf
theorem ZkN {w w':World} {g:Nat} {bits:Int} {r:FR} {e:Ending} (h:RetC w g bits r e w'):∃ y:ShI,e=.returned (shF r.e y)∧Fr (fun i=>i=g) w w'∧Blk 84 w' g #[.int .i64 bits, .int .i64 r.err]∧BoxN w w' (fun w=>Zai w (ZaE y) (sg r.s r.m)):=by
 obtain ⟨y,rfl,hN,hF,hB⟩:=h
 exact ⟨y,rfl,hF,hB,ZuX hF hB (ZuL _ _) (fun S w'' hS hf=>hN.nrb hS hf)⟩
theorem ZnZ {w w':World} {e:Ending} {z x:Int} (h:ZqC w z x e w'):Zbx (shF x) (fun y w=>Zai w (ZaE y) z) w e w':=by
 obtain ⟨y,rfl,hI,Q⟩:=h
 exact ⟨y,rfl,Q,boxn Q (fun S w'' hS hF=>hI.nrb hS hF)⟩
set_option maxHeartbeats 1000000 in
theorem Zme (g:Nat) (bits e:Int) (w:World) (h:CB w g bits 0):Calls Tryz.prog 161 #[.pointer (some ⟨g,0,none⟩), .int .i64 e] w (fun en w'=>∃ x:Unit,en=.returned ((fun _:Unit=>Value.tuple #[]) x)∧Fr (fun i=>i=g) w w'∧Blk 84 w' g ((fun _:Unit=>#[.int .i64 bits, .int .i64 e]) x)∧BoxN w w' (fun _=>True)):=by
 have h2:=h.set_ 1 (.int .i64 e)
 have c1:=h.cell 1
 have f1:=h.frozen 1
 go_enter Tryz.func161,Tryz.ntmps161
 go_wp2
 exact ⟨rfl, .tuple #[],by simp [results,Tryz.f161],⟨(),rfl,(show Fr (fun i=>i=g) w w from Fr.refl _ _).setCell (p:=⟨g,1,none⟩) (Or.inl rfl) _,h2,BoxN.pure trivial⟩⟩
def limR (s:Bool) (m:Nat) (e:Int):FR:=if okE e then ⟨s,m,e,0⟩ else ⟨false,0,0,2⟩
theorem Zn0 {s:Bool} {n:Nat} {e:Int} (h:0 < n):ZbU s n e=limR s (oddM n) (e + tzn n):=by
 unfold ZbU limR
 rw [if_neg (by omega)]; rfl
theorem ZkO {s:Bool} {n:Nat} (h:0 < n):decide (sg s n < 0)=s:=by
 unfold sg; cases s<;>simp<;>omega
theorem Zfp (s:Bool) (n:Nat):(sg s n).natAbs=n:=by unfold sg; cases s<;>simp
theorem Zs8 {s:Bool} {n:Nat} (h:0 < n):sg s n≠0:=by unfold sg; cases s<;>simp<;>omega
theorem ZpB {n k b j:Nat} (hn:ml n≤b) (hk:k < 32 * j):ml (n * 2 ^ k)≤b + j:=Zl8 hn (Zir hk)
theorem Zn1 {n k:Nat} (h:ml n≤k):blen n≤32 * k:=by have:=Zt3 n; omega
theorem ZpC {a b k:Nat} (ha:ml a≤k) (hk:1≤k):ml (Zb0 a b)≤k + 1:=by
 have h1:ml 1≤1:=ZaW.2 (by rw [Zaq]; decide)
 exact Nat.le_trans (ZbF (ZiO a b).2) (Zq1 (Nat.le_trans (ZbF (Nat.div_le_self a b)) ha) (Nat.le_trans h1 hk))
theorem Ziy (g bits:Nat) (b:Bool) (A:Option Addr) (l c:Nat) (s:Bool) (m:Nat) (e:Int) (w:World) (hC:CB w g ((bits:Nat):Int) 0) (hN:Zai w (.agg #[.bool b, .slice A l c]) (sg s m)) :
 Calls Tryz.prog 134 #[.pointer (some ⟨g,0,none⟩), .agg #[.bool b, .slice A l c, .int .i64 e]] w (RetC w g ((bits:Nat):Int) (limR s m e)):=by
 refine ZdZ (fun i=>i=g) (Φ:=fun w=>(CB w g ((bits:Nat):Int) 0∧Zai w (.agg #[.bool b, .slice A l c]) (sg s m))) Tryz.func134 rfl (by kernel_rfl) (fun w' hf=>⟨hC.ext hf,hN.ext hf⟩) ?_
 refine Zac (Zab (xq 2 [(3, .p 3 0),(4, .p 4 0)] [(4,52,[.v (.bool false), .v (.slice none 0 0), .v (.int .i64 0)]),(3,52,[.v (.bool b), .v (.slice A l c), .v (.int .i64 e)])] ?_))
 refine xe (Zaa (Zac (Zac (Zab (xq 4 [(8, .v (.bool (decide (e < (-1048576)))))] [] ?_)))))
 rcases bl2 ((decide (e < (-1048576)))) with hb10 | hb10
 ·rw [hb10]
  have hb10':=of_decide_eq_true hb10
  refine xq 4 [(12, .v (.bool true))] [] ?_
  refine xe (Zaa (xa (Zac (Zab (xq 1 [(13, .v (.pointer (some ⟨g,0,none⟩)))] [] ?_)))))
  refine Zf7 161 [.pointer (some ⟨g,0,none⟩), .int .i64 2] (d:=14) (fun _:Unit=>.tuple #[]) (fun _:Unit=>#[.int .i64 ((bits:Nat):Int), .int .i64 2]) (fun _ _=>True) (fun _=>True) (fun w Q=>Q.1) (Nat.zero_lt_succ _) (Or.inr rfl) (fun w R Q=>Zme g _ 2 _ Q.1) (fun _ _ _ _=>trivial) (fun _=>?_)
  refine xr 0 [(3, .p 3 0),(4, .p 4 0)] [(4,52,[.v (.bool false), .v (.slice none 0 0), .v (.int .i64 0)]),(3,52,[.v (.bool b), .v (.slice A l c), .v (.int .i64 e)])] ?_
  refine xe (Zaa (Zac (Zab (xq 2 [] [] ?_))))
  refine xe (Zaa (Zaj (Zak ?_)))
  refine Zaf (v:=.agg #[.bool false, .slice none 0 0, .int .i64 0]) (by kernel_rfl) (fun w' R Q=>?_)
  rw [show limR s m e=⟨false,0,0,2⟩ from if_neg (by rintro ⟨h1,h2⟩; omega)]
  exact ⟨(false,none,0,0),rfl,Zai.nil _,R,Q.1.2⟩
 ·rw [hb10]
  have hb10':=of_decide_eq_false hb10
  refine xq 4 [(12, .v (.bool (decide (e > 1048576))))] [] ?_
  refine xe (Zaa ?_)
  refine ZaA ((decide (e > 1048576))) (by kernel_rfl) (fun hb12=>?_) (fun hb12=>?_)
  ·have hb12':=of_decide_eq_true hb12
   refine Zac (Zab (xq 1 [(13, .v (.pointer (some ⟨g,0,none⟩)))] [] ?_))
   refine Zf7 161 [.pointer (some ⟨g,0,none⟩), .int .i64 2] (d:=14) (fun _:Unit=>.tuple #[]) (fun _:Unit=>#[.int .i64 ((bits:Nat):Int), .int .i64 2]) (fun _ _=>True) (fun _=>True) (fun w Q=>Q.1) (Nat.zero_lt_succ _) (Or.inr rfl) (fun w R Q=>Zme g _ 2 _ Q.1) (fun _ _ _ _=>trivial) (fun _=>?_)
   refine xr 0 [(3, .p 3 0),(4, .p 4 0)] [(4,52,[.v (.bool false), .v (.slice none 0 0), .v (.int .i64 0)]),(3,52,[.v (.bool b), .v (.slice A l c), .v (.int .i64 e)])] ?_
   refine xe (Zaa (Zac (Zab (xq 2 [] [] ?_))))
   refine xe (Zaa (Zaj (Zak ?_)))
   refine Zaf (v:=.agg #[.bool false, .slice none 0 0, .int .i64 0]) (by kernel_rfl) (fun w' R Q=>?_)
   rw [show limR s m e=⟨false,0,0,2⟩ from if_neg (by rintro ⟨h1,h2⟩; omega)]
   exact ⟨(false,none,0,0),rfl,Zai.nil _,R,Q.1.2⟩
  ·have hb12':=of_decide_eq_false hb12
   refine Zap (Zaa (Zac (Zab (xq 2 [] [(4,52,[.v (.bool b), .v (.slice A l c), .v (.int .i64 e)])] ?_))))
   refine xe (Zaa (Zaj ?_))
   refine Zaf (v:=.agg #[.bool b, .slice A l c, .int .i64 e]) (by kernel_rfl) (fun w' R Q=>?_)
   rw [show limR s m e=⟨s,m,e,0⟩ from if_pos ⟨by omega,by omega⟩]
   exact ⟨(b,A,l,c),rfl,Q.2,R,Q.1⟩
theorem Zmv (g bits:Nat) (b:Bool) (A:Option Addr) (l c:Nat) (z:Int) (b2:Bool) (B:Option Addr) (m f d:Nat) (e:Int) (w:World) (hC:CB w g ((bits:Nat):Int) 0) (hN:Zai w (.agg #[.bool b, .slice A l c]) z) (hD:Zai w (.agg #[.bool b2, .slice B m f]) ((d:Nat):Int)) (hz:ml z.natAbs≤10000) (hd:ml d≤10000) (hd0:0 < d) (hb0:0 < bits) (hb:bits≤4096) (he1 : -1073741824≤e) (he2:e≤1073741824) :
 Calls Tryz.prog 101 #[.pointer (some ⟨g,0,none⟩), .agg #[.bool b, .slice A l c], .agg #[.bool b2, .slice B m f], .int .i64 e] w (RetC w g ((bits:Nat):Int) (Zcf (decide (z < 0)) z.natAbs d e bits)):=by
 refine ZdZ (fun i=>i=g) (Φ:=fun w=>((CB w g ((bits:Nat):Int) 0∧Zai w (.agg #[.bool b, .slice A l c]) (z))∧Zai w (.agg #[.bool b2, .slice B m f]) (((d:Nat):Int)))) Tryz.func101 rfl (by kernel_rfl) (fun w' hf=>⟨⟨hC.ext hf,hN.ext hf⟩,hD.ext hf⟩) ?_
 refine Zac ?_
 by_cases hz0:z=0
 ·refine Zab (xq 3 [(5, .p 5 0),(6, .p 6 0),(8, .p 8 0)] [(8,52,[.v (.bool false), .v (.slice none 0 0), .v (.int .i64 0)]),bI2 6 32 b2 B m f,bI2 5 32 b A l c] ?_)
  refine xe (Zaa (Zac (Zac (Zab (xq 1 [eI2 16 b A l c] [] ?_)))))
  refine xqc 62 [vI2 b A l c] 17 (fun _:Unit=>.int .i64 0) _ (fun w R Q=>(ZcD _ z _ Q.1.2).mono (fun _ _ h=>Zad h (by rw [hz0]; rfl))) (fun xx=>?_)
  refine xq 1 [(18, .v (.bool true))] [] ?_
  refine xe (Zaa (xa (Zac (Zab (xq 2 [] [] ?_)))))
  refine xe (Zaa (Zaj (Zak ?_)))
  refine Zaf (v:=.agg #[.bool false, .slice none 0 0, .int .i64 0]) (by kernel_rfl) (fun w' R Q=>?_)
  rw [hz0,show (0:Int).natAbs=0 from rfl,ZkA]
  exact ⟨(false,none,0,0),rfl,Zai.nil _,R,Q.1.1.1⟩
 ·refine Zab (xq 3 [(5, .p 5 0),(6, .p 6 0),(8, .p 8 0)] [(8,52,[.v (.bool false), .v (.slice none 0 0), .v (.int .i64 0)]),bI2 6 32 b2 B m f,bI2 5 32 b A l c] ?_)
  refine xe (Zaa (Zac (Zac (Zab (xq 1 [eI2 16 b A l c] [] ?_)))))
  refine xqc 62 [vI2 b A l c] 17 (fun _:Unit=>.int .i64 (Int.sign z)) _ (fun w R Q=>(ZcD _ z _ Q.1.2).mono (fun _ _ h=>Zad h rfl)) (fun xx=>?_)
  refine xq 1 [(18, .v (.bool (((Int.sign z):Int) == 0)))] [] ?_
  rw [(show (((Int.sign z):Int) == 0)=false from by have:=mt Int.sign_eq_zero_iff_zero.1 hz0; simpa using this)]
  refine xe (Zaa (xb (Zap (Zaa (Zac (Zab (xq 3 [(9, .p 9 0)] [bI2 9 32 b A l c] ?_)))))))
  refine xe (Zaa (Zac (Zab (xq 2 [] [bI2 9 32 false A l c] ?_))))
  refine xe (Zaa (Zac ?_))
  have hbz:=Zn1 hz
  have hbd:=Zn1 hd
  refine ZaC 11 (by kernel_rfl) (by kernel_rfl) Zah ?_
  refine xqg 1 [eI2 22 false A l c] ?_
  refine xqd 37 [vI2 false A l c] 23 (fun _:Unit=>.int .i64 ((blen z.natAbs:Nat):Int)) _ (fun w R Q=>(ZbT _ _ _ (Q.1.1.2).absv (nfit (mlc hz) (by decide))).mono (fun _ _ h=>Zad h rfl)) (fun xx=>?_)
  refine xqg 1 [eI2 24 b2 B m f] ?_
  refine xqd 37 [vI2 b2 B m f] 25 (fun _:Unit=>.int .i64 ((blen d:Nat):Int)) _ (fun w R Q=>(ZbT _ _ _ Q.1.1.2 (nfit (mlc hd) (by decide))).mono (fun _ _ h=>Zad h rfl)) (fun xx=>?_)
  refine xqg 1 [(26, .v (.int .i64 (IntKind.i64.wrap (((blen z.natAbs:Nat):Int) - ((blen d:Nat):Int)))))] ?_
  rw [show IntKind.i64.wrap (((blen z.natAbs:Nat):Int) - ((blen d:Nat):Int))=((blen z.natAbs:Nat):Int) - ((blen d:Nat):Int) from by rw [IntKind.wrap_i64]; omega]
  refine xqg 3 [(29, .v (.pointer (some ⟨g,0,none⟩)))] ?_
  refine xqj 30 (.int .i64 ((bits:Nat):Int)) (fun w Q=>Zh3 (t:=3) (x:=(Operand.tmp 29)) (g:=g) (off:=0) (Blk.cell (Q.1.1.1) 0)) ?_
  refine xqg 1 [(31, .v (.int .i64 (IntKind.i64.wrap ((((blen z.natAbs:Nat):Int) - ((blen d:Nat):Int)) - ((bits:Nat):Int)))))] ?_
  rw [show IntKind.i64.wrap ((((blen z.natAbs:Nat):Int) - ((blen d:Nat):Int)) - ((bits:Nat):Int))=rk0 z.natAbs d bits from by unfold rk0; rw [IntKind.wrap_i64]; omega]
  refine xqg 1 [(10, .v (.int .i64 (rk0 z.natAbs d bits)))] ?_
  refine xz (xe (Zaa (ZaO ?_)))
  refine SXc.weak [(0, .v (.pointer (some ⟨g,0,none⟩))),(3, .v (.int .i64 e)),(5, .p 5 0),(6, .p 6 0),(8, .p 8 0),(9, .p 9 0),(10, .v (.int .i64 ((rk0 z.natAbs d bits))))] [(9,32,[.v (.bool false), .v (.slice A l c)]),(8,52,[.v (.bool false), .v (.slice none 0 0), .v (.int .i64 0)]),(6,32,[.v (.bool b2), .v (.slice B m f)]),(5,32,[.v (.bool b), .v (.slice A l c)])] (Ψ:=fun w=>((CB w g ((bits:Nat):Int) 0∧Zai w (.agg #[.bool b, .slice A l c]) (z))∧Zai w (.agg #[.bool b2, .slice B m f]) (((d:Nat):Int)))) (ZaG.of (by kernel_rfl)) (by kernel_rfl) (fun w Q=>⟨⟨Q.1.1.1.1.1,Q.1.1.1.1.2⟩,Q.1.1.1.2⟩) ?_
  refine ZbR (fun nn ss ff=>∃ (k:Int),ss=ofL [(0, .v (.pointer (some ⟨g,0,none⟩))),(3, .v (.int .i64 e)),(5, .p 5 0),(6, .p 6 0),(8, .p 8 0),(9, .p 9 0),(10, .v (.int .i64 k))] [(9,32,[.v (.bool false), .v (.slice A l c)]),(8,52,[.v (.bool false), .v (.slice none 0 0), .v (.int .i64 0)]),(6,32,[.v (.bool b2), .v (.slice B m f)]),(5,32,[.v (.bool b), .v (.slice A l c)])]∧ff=(fun w=>((CB w g ((bits:Nat):Int) 0∧Zai w (.agg #[.bool b, .slice A l c]) (z))∧Zai w (.agg #[.bool b2, .slice B m f]) (((d:Nat):Int))))∧(k=rk0 z.natAbs d bits∨k=rndK z.natAbs d bits)∧nn=((rndK z.natAbs d bits - k).toNat)) (((rndK z.natAbs d bits - ((rk0 z.natAbs d bits))).toNat)) ⟨((rk0 z.natAbs d bits)),rfl,rfl,(Or.inl rfl),rfl⟩ ?_
  rintro nn ss ff ⟨k,rfl,rfl,hk,rfl⟩
  refine ZaO (Zac ?_)
  have hsz:=Zt2 hk
  refine ZaC 6 (by kernel_rfl) (by kernel_rfl) Zah ?_
  refine xqf 6 [(11, .p 11 0),(12, .p 12 0)] [bI2 12 32 b2 B m f,bI2 11 32 false A l c,bI2 12 32 false none 0 0,bI2 11 32 false none 0 0,bI2 9 32 false A l c,(8,52,[.v (.bool false), .v (.slice none 0 0), .v (.int .i64 0)]),bI2 6 32 b2 B m f,bI2 5 32 b A l c] ?_
  refine xz (xe (Zaa (Zac (Zac (Zab (xq 2 [(35, .v (.bool (decide (k ≥ 0))))] [bI2 12 32 b2 B m f,bI2 11 32 false A l c] ?_))))))
  refine xe (Zaa ?_)
  refine ZaA ((decide (k ≥ 0))) (by kernel_rfl) (fun hb10=>?_) (fun hb10=>?_)
  ·have hb10':=of_decide_eq_true hb10
   obtain ⟨j,rfl⟩:=Int.eq_ofNat_of_zero_le hb10'
   have hfa:fa z.natAbs ((j:Nat):Int)=z.natAbs:=ZuJ (by omega)
   have hfb:fb d ((j:Nat):Int)=d * 2 ^ j:=by unfold fb; rw [Int.toNat_natCast]
   have hj:j≤700000:=by omega
   have hmX:ml z.natAbs≤90000:=by omega
   have hmY:ml (d * 2 ^ j)≤90000:=Nat.le_trans (ZpB (j:=30000) hd (by omega)) (by omega)
   have hY0:0 < d * 2 ^ j:=Nat.mul_pos hd0 (p2 j)
   have hfq:fq z.natAbs d (((j:Nat):Int))=z.natAbs / (d * 2 ^ j):=by unfold fq; rw [hfa,hfb]
   refine Zab (xq 2 [eI2 36 b2 B m f,(37, .v (.int .i64 ((j:Nat):Int)))] [] ?_)
   refine xqc 25 [vI2 b2 B m f, .int .i64 ((j:Nat):Int)] 38 ZaE _ (fun w R Q=>(ZeA _ ((d:Nat):Int) j _ Q.2 (nfit (mlc hd) (by decide)) (by omega)).mono (fun _ _ h=>ZaH (by rw [show ((d:Nat):Int) * 2 ^ j=((d * 2 ^ j:Nat):Int) from by rw [Int.natCast_mul,Int.natCast_pow]; rfl] at h; exact h))) (fun xx=>?_)
   obtain ⟨s11,A11,l11,c11⟩:=xx
   refine xq 1 [] [bI2 12 32 s11 A11 l11 c11] ?_
   refine xe (Zaa (Zac (Zab (xq 2 [eI2 44 false A l c,eI2 45 s11 A11 l11 c11] [] ?_))))
   refine xqc 70 [vI2 false A l c,vI2 s11 A11 l11 c11] 46 Zfl _ (fun w R Q=>(ZjR (x:=z.natAbs) (r:=d * 2 ^ j) (Q.1.1.2).absv Q.2 (by omega) (by omega) hY0).mono (fun _ _=>Zd0)) (fun xx=>?_)
   obtain ⟨⟨s12,A12,l12,c12⟩,⟨s13,A13,l13,c13⟩⟩:=xx
   refine xq 7 [(13, .p 13 0)] [bI2 13 32 s12 A12 l12 c12] ?_
   refine xe (Zaa (Zac (Zac ?_)))
   refine ZaC 7 (by kernel_rfl) (by kernel_rfl) Zah ?_
   refine xqg 1 [eI2 49 s12 A12 l12 c12] ?_
   refine xqd 37 [vI2 s12 A12 l12 c12] 50 (fun _:Unit=>.int .i64 ((blen (z.natAbs / (d * 2 ^ j)):Nat):Int)) _ (fun w R Q=>(ZbT _ _ _ Q.2.1 (nfit (mlc (Nat.le_trans (ZbF (Nat.div_le_self _ _)) hmX)) (by decide))).mono (fun _ _ h=>Zad h rfl)) (fun xx=>?_)
   refine xqg 3 [(53, .v (.pointer (some ⟨g,0,none⟩)))] ?_
   refine xqj 54 (.int .i64 ((bits:Nat):Int)) (fun w Q=>Zh3 (t:=3) (x:=(Operand.tmp 53)) (g:=g) (off:=0) (Blk.cell (Q.1.1.1.1) 0)) ?_
   refine xqg 1 [(55, .v (.bool (decide (((blen (z.natAbs / (d * 2 ^ j)):Nat):Int) > ((bits:Nat):Int)))))] ?_
   refine xz (xe (Zaa ?_))
   refine ZaA ((decide (((blen (z.natAbs / (d * 2 ^ j)):Nat):Int) > ((bits:Nat):Int)))) (by kernel_rfl) (fun hb14=>?_) (fun hb14=>?_)
   ·have hb14':=of_decide_eq_true hb14
    have hst:=Zpy (by omega) hd0 hb0 hk (by rw [hfq]; omega)
    refine Zac (Zab (xq 2 [(57, .v (.int .i64 (IntKind.i64.wrap (((j:Nat):Int) + 1))))] [] ?_))
    rw [show IntKind.i64.wrap (((j:Nat):Int) + 1)=((j:Nat):Int) + 1 from by rw [IntKind.wrap_i64]; omega]
    refine xq 1 [(10, .v (.int .i64 (((j:Nat):Int) + 1)))] [] ?_
    refine xe (Zaa (Zbp (Zax (ZbA ?_))))
    refine SXq.weak [(0, .v (.pointer (some ⟨g,0,none⟩))),(3, .v (.int .i64 e)),(5, .p 5 0),(6, .p 6 0),(8, .p 8 0),(9, .p 9 0),(10, .v (.int .i64 ((((j:Nat):Int) + 1))))] [(9,32,[.v (.bool false), .v (.slice A l c)]),(8,52,[.v (.bool false), .v (.slice none 0 0), .v (.int .i64 0)]),(6,32,[.v (.bool b2), .v (.slice B m f)]),(5,32,[.v (.bool b), .v (.slice A l c)])] (Ψ:=fun w=>((CB w g ((bits:Nat):Int) 0∧Zai w (.agg #[.bool b, .slice A l c]) (z))∧Zai w (.agg #[.bool b2, .slice B m f]) (((d:Nat):Int)))) (ZaG.of (by kernel_rfl)) (by kernel_rfl) (fun w Q=>⟨⟨Q.1.1.1.1.1,Q.1.1.1.1.2⟩,Q.1.1.1.2⟩) ?_
    exact Zbc (((rndK z.natAbs d bits - ((((j:Nat):Int) + 1))).toNat)) (by have:=hst.2; omega) ⟨((((j:Nat):Int) + 1)),rfl,rfl,(Or.inr hst.1),rfl⟩
   ·have hb14':=of_decide_eq_false hb14
    have hke:=Zpz (by omega) hd0 hb0 hk (by rw [hfq]; omega)
    have hm0:=Znl (n:=z.natAbs) (d:=d) (bits:=bits) (by omega) hd0 hb0
    have hml:ml (rndM z.natAbs d bits)≤1048576:=by unfold rndM; rw [← hke,hfa,hfb]; exact Nat.le_trans (ZpC hmX (by decide)) (by omega)
    refine Zap (Zaa (Zac (Zab (xq 2 [eI2 58 false A l c,eI2 59 s11 A11 l11 c11] [] ?_))))
    refine xqc 147 [vI2 false A l c,vI2 s11 A11 l11 c11] 60 ZaE _ (fun w R Q=>(Zix false A l c s11 A11 l11 c11 (z.natAbs) (d * 2 ^ j) _ (Q.1.1.1.1.2).absv Q.1.1.2 (by omega) (by omega) hY0).mono (fun _ _ h=>ZaH (by rw [show Zb0 (z.natAbs) (d * 2 ^ j)=rndM z.natAbs d bits from by unfold rndM; rw [← hke,hfa,hfb]] at h; exact h))) (fun xx=>?_)
    obtain ⟨s15,A15,l15,c15⟩:=xx
    refine xq 2 [(15, .p 15 0)] [bI2 15 32 s15 A15 l15 c15] ?_
    refine xe (Zaa (Zac (Zab (xq 4 [] [bI2 15 32 b A15 l15 c15] ?_))))
    refine xe (Zaa (Zac (Zab (xr 5 [(0, .v (.pointer (some ⟨g,0,none⟩))),(3, .v (.int .i64 e)),(5, .p 5 0),(6, .p 6 0),(8, .p 8 0),(9, .p 9 0),(10, .v (.int .i64 ((j:Nat):Int))),(64, .v (.pointer (some ⟨g,0,none⟩))),eI2 65 b A15 l15 c15,(68, .v (.int .i64 (IntKind.i64.wrap (e + ((j:Nat):Int)))))] [bI2 9 32 false A l c,(8,52,[.v (.bool false), .v (.slice none 0 0), .v (.int .i64 0)]),bI2 6 32 b2 B m f,bI2 5 32 b A l c] ?_))))
    rw [show IntKind.i64.wrap (e + ((j:Nat):Int))=e + ((j:Nat):Int) from by rw [IntKind.wrap_i64]; omega]
    refine xqc 135 [vI2 b A15 l15 c15, .int .i64 (e + ((j:Nat):Int))] 69 (shF ((e + ((j:Nat):Int)) + ((tzn (rndM z.natAbs d bits):Nat):Int))) _ (fun w R Q=>(Zjr b A15 l15 c15 (sg b (rndM z.natAbs d bits)) ((e + ((j:Nat):Int))) _ (by have h1:Zai _ (.agg #[.bool s15, .slice A15 l15 c15]) _:=Q.2; have h2:=h1.spos (Int.natCast_nonneg _); rw [h2] at h1; exact h1.sgn hm0 b) (Zs8 hm0) (by unfold ZaM; rw [Zfp]; exact hml) (by omega) (by omega)).mono (fun _ _ h=>ZnZ (by rw [Zfp,ZkO hm0] at h; exact h))) (fun xx=>?_)
    obtain ⟨s16,A16,l16,c16⟩:=xx
    obtain ⟨r17,hr17⟩:∃ r',limR b (oddM (rndM z.natAbs d bits)) (((e + ((j:Nat):Int)) + ((tzn (rndM z.natAbs d bits):Nat):Int)))=r':=⟨_,rfl⟩
    refine Zf7 134 [.pointer (some ⟨g,0,none⟩), .agg #[.bool s16, .slice A16 l16 c16, .int .i64 ((e + ((j:Nat):Int)) + ((tzn (rndM z.natAbs d bits):Nat):Int))]] (d:=70) (shF r17.e) (fun _=>#[.int .i64 ((bits:Nat):Int), .int .i64 r17.err]) (fun y w=>Zai w (ZaE y) (sg r17.s r17.m)) (fun _=>True) (fun w Q=>Q.1.1.1.1.1.1.1) (Nat.zero_lt_succ _) (Or.inr rfl) (fun w R Q=>(show Calls _ _ _ _ (RetC w g ((bits:Nat):Int) r17) from by rw [← hr17]; exact Ziy g bits s16 A16 l16 c16 b (oddM (rndM z.natAbs d bits)) (((e + ((j:Nat):Int)) + ((tzn (rndM z.natAbs d bits):Nat):Int))) _ Q.1.1.1.1.1.1.1 Q.2).mono (fun _ _=>ZkN)) (fun _ _ _ _=>trivial) (fun xx=>?_)
    obtain ⟨s17,A17,l17,c17⟩:=xx
    refine xr 1 [(0, .v (.pointer (some ⟨g,0,none⟩))),(3, .v (.int .i64 e)),(5, .p 5 0),(6, .p 6 0),(8, .p 8 0),(9, .p 9 0),(10, .v (.int .i64 ((j:Nat):Int)))] [bI2 9 32 false A l c,(8,52,[.v (.bool s17), .v (.slice A17 l17 c17), .v (.int .i64 r17.e)]),bI2 6 32 b2 B m f,bI2 5 32 b A l c] ?_
    refine xe (Zaa (Zaj (Zbv (Zak (Zbv ?_)))))
    refine Zaf (v:=.agg #[.bool s17, .slice A17 l17 c17, .int .i64 r17.e]) (by kernel_rfl) (fun w' R Q=>?_)
    have hsb:=hN.signb
    have hkz:Zcf (decide (z < 0)) z.natAbs d e bits=r17:=by unfold Zcf; rw [if_neg (by omega),Zn0 hm0,← hr17,← hke,← hsb]
    rw [hkz]
    exact ⟨(s17,A17,l17,c17),rfl,Q.2,R,Q.1.2⟩
  ·have hb10':=of_decide_eq_false hb10
   obtain ⟨j,hj0⟩:∃ j:Nat,-k=j:=Int.eq_ofNat_of_zero_le (by omega)
   have hfa:fa z.natAbs k=z.natAbs * 2 ^ j:=by unfold fa; rw [hj0,Int.toNat_natCast]
   have hfb:fb d k=d:=ZuK (by omega)
   have hj:j≤700000:=by omega
   have hmX:ml (z.natAbs * 2 ^ j)≤90000:=Nat.le_trans (ZpB (j:=30000) hz (by omega)) (by omega)
   have hmY:ml d≤90000:=by omega
   have hY0:=hd0
   have hfq:fq z.natAbs d k=(z.natAbs * 2 ^ j) / (d):=by unfold fq; rw [hfa,hfb]
   refine Zab (xq 3 [eI2 39 false A l c,(41, .v (.int .i64 (IntKind.i64.wrap (0 - (k)))))] [] ?_)
   rw [show IntKind.i64.wrap (0 - (k))=((j:Nat):Int) from by rw [IntKind.wrap_i64]; omega]
   refine xqc 25 [vI2 false A l c, .int .i64 ((j:Nat):Int)] 42 ZaE _ (fun w R Q=>(ZeA _ ((z.natAbs:Nat):Int) j _ (Q.1.2).absv (nfit (mlc hz) (by decide)) (by omega)).mono (fun _ _ h=>ZaH (by rw [show ((z.natAbs:Nat):Int) * 2 ^ j=((z.natAbs * 2 ^ j:Nat):Int) from by rw [Int.natCast_mul,Int.natCast_pow]; rfl] at h; exact h))) (fun xx=>?_)
   obtain ⟨s18,A18,l18,c18⟩:=xx
   refine xq 1 [] [bI2 11 32 s18 A18 l18 c18] ?_
   refine xe (Zaa (Zac (Zab (xq 2 [eI2 44 s18 A18 l18 c18,eI2 45 b2 B m f] [] ?_))))
   refine xqc 70 [vI2 s18 A18 l18 c18,vI2 b2 B m f] 46 Zfl _ (fun w R Q=>(ZjR (x:=z.natAbs * 2 ^ j) (r:=d) Q.2 Q.1.2 (by omega) (by omega) hY0).mono (fun _ _=>Zd0)) (fun xx=>?_)
   obtain ⟨⟨s19,A19,l19,c19⟩,⟨s20,A20,l20,c20⟩⟩:=xx
   refine xq 7 [(13, .p 13 0)] [bI2 13 32 s19 A19 l19 c19] ?_
   refine xe (Zaa (Zac (Zac ?_)))
   refine ZaC 7 (by kernel_rfl) (by kernel_rfl) Zah ?_
   refine xqg 1 [eI2 49 s19 A19 l19 c19] ?_
   refine xqd 37 [vI2 s19 A19 l19 c19] 50 (fun _:Unit=>.int .i64 ((blen (z.natAbs * 2 ^ j / d):Nat):Int)) _ (fun w R Q=>(ZbT _ _ _ Q.2.1 (nfit (mlc (Nat.le_trans (ZbF (Nat.div_le_self _ _)) hmX)) (by decide))).mono (fun _ _ h=>Zad h rfl)) (fun xx=>?_)
   refine xqg 3 [(53, .v (.pointer (some ⟨g,0,none⟩)))] ?_
   refine xqj 54 (.int .i64 ((bits:Nat):Int)) (fun w Q=>Zh3 (t:=3) (x:=(Operand.tmp 53)) (g:=g) (off:=0) (Blk.cell (Q.1.1.1.1) 0)) ?_
   refine xqg 1 [(55, .v (.bool (decide (((blen (z.natAbs * 2 ^ j / d):Nat):Int) > ((bits:Nat):Int)))))] ?_
   refine xz (xe (Zaa ?_))
   refine ZaA ((decide (((blen (z.natAbs * 2 ^ j / d):Nat):Int) > ((bits:Nat):Int)))) (by kernel_rfl) (fun hb21=>?_) (fun hb21=>?_)
   ·have hb21':=of_decide_eq_true hb21
    have hst:=Zpy (by omega) hd0 hb0 hk (by rw [hfq]; omega)
    refine Zac (Zab (xq 2 [(57, .v (.int .i64 (IntKind.i64.wrap (k + 1))))] [] ?_))
    rw [show IntKind.i64.wrap (k + 1)=k + 1 from by rw [IntKind.wrap_i64]; omega]
    refine xq 1 [(10, .v (.int .i64 (k + 1)))] [] ?_
    refine xe (Zaa (Zbp (Zax (ZbA ?_))))
    refine SXq.weak [(0, .v (.pointer (some ⟨g,0,none⟩))),(3, .v (.int .i64 e)),(5, .p 5 0),(6, .p 6 0),(8, .p 8 0),(9, .p 9 0),(10, .v (.int .i64 ((k + 1))))] [(9,32,[.v (.bool false), .v (.slice A l c)]),(8,52,[.v (.bool false), .v (.slice none 0 0), .v (.int .i64 0)]),(6,32,[.v (.bool b2), .v (.slice B m f)]),(5,32,[.v (.bool b), .v (.slice A l c)])] (Ψ:=fun w=>((CB w g ((bits:Nat):Int) 0∧Zai w (.agg #[.bool b, .slice A l c]) (z))∧Zai w (.agg #[.bool b2, .slice B m f]) (((d:Nat):Int)))) (ZaG.of (by kernel_rfl)) (by kernel_rfl) (fun w Q=>⟨⟨Q.1.1.1.1.1,Q.1.1.1.1.2⟩,Q.1.1.1.2⟩) ?_
    exact Zbc (((rndK z.natAbs d bits - ((k + 1))).toNat)) (by have:=hst.2; omega) ⟨((k + 1)),rfl,rfl,(Or.inr hst.1),rfl⟩
   ·have hb21':=of_decide_eq_false hb21
    have hke:=Zpz (by omega) hd0 hb0 hk (by rw [hfq]; omega)
    have hm0:=Znl (n:=z.natAbs) (d:=d) (bits:=bits) (by omega) hd0 hb0
    have hml:ml (rndM z.natAbs d bits)≤1048576:=by unfold rndM; rw [← hke,hfa,hfb]; exact Nat.le_trans (ZpC hmX (by decide)) (by omega)
    refine Zap (Zaa (Zac (Zab (xq 2 [eI2 58 s18 A18 l18 c18,eI2 59 b2 B m f] [] ?_))))
    refine xqc 147 [vI2 s18 A18 l18 c18,vI2 b2 B m f] 60 ZaE _ (fun w R Q=>(Zix s18 A18 l18 c18 b2 B m f (z.natAbs * 2 ^ j) (d) _ Q.1.1.2 Q.1.1.1.2 (by omega) (by omega) hY0).mono (fun _ _ h=>ZaH (by rw [show Zb0 (z.natAbs * 2 ^ j) (d)=rndM z.natAbs d bits from by unfold rndM; rw [← hke,hfa,hfb]] at h; exact h))) (fun xx=>?_)
    obtain ⟨s22,A22,l22,c22⟩:=xx
    refine xq 2 [(15, .p 15 0)] [bI2 15 32 s22 A22 l22 c22] ?_
    refine xe (Zaa (Zac (Zab (xq 4 [] [bI2 15 32 b A22 l22 c22] ?_))))
    refine xe (Zaa (Zac (Zab (xr 5 [(0, .v (.pointer (some ⟨g,0,none⟩))),(3, .v (.int .i64 e)),(5, .p 5 0),(6, .p 6 0),(8, .p 8 0),(9, .p 9 0),(10, .v (.int .i64 k)),(64, .v (.pointer (some ⟨g,0,none⟩))),eI2 65 b A22 l22 c22,(68, .v (.int .i64 (IntKind.i64.wrap (e + k))))] [bI2 9 32 false A l c,(8,52,[.v (.bool false), .v (.slice none 0 0), .v (.int .i64 0)]),bI2 6 32 b2 B m f,bI2 5 32 b A l c] ?_))))
    rw [show IntKind.i64.wrap (e + k)=e + k from by rw [IntKind.wrap_i64]; omega]
    refine xqc 135 [vI2 b A22 l22 c22, .int .i64 (e + k)] 69 (shF ((e + k) + ((tzn (rndM z.natAbs d bits):Nat):Int))) _ (fun w R Q=>(Zjr b A22 l22 c22 (sg b (rndM z.natAbs d bits)) ((e + k)) _ (by have h1:Zai _ (.agg #[.bool s22, .slice A22 l22 c22]) _:=Q.2; have h2:=h1.spos (Int.natCast_nonneg _); rw [h2] at h1; exact h1.sgn hm0 b) (Zs8 hm0) (by unfold ZaM; rw [Zfp]; exact hml) (by omega) (by omega)).mono (fun _ _ h=>ZnZ (by rw [Zfp,ZkO hm0] at h; exact h))) (fun xx=>?_)
    obtain ⟨s23,A23,l23,c23⟩:=xx
    obtain ⟨r24,hr24⟩:∃ r',limR b (oddM (rndM z.natAbs d bits)) (((e + k) + ((tzn (rndM z.natAbs d bits):Nat):Int)))=r':=⟨_,rfl⟩
    refine Zf7 134 [.pointer (some ⟨g,0,none⟩), .agg #[.bool s23, .slice A23 l23 c23, .int .i64 ((e + k) + ((tzn (rndM z.natAbs d bits):Nat):Int))]] (d:=70) (shF r24.e) (fun _=>#[.int .i64 ((bits:Nat):Int), .int .i64 r24.err]) (fun y w=>Zai w (ZaE y) (sg r24.s r24.m)) (fun _=>True) (fun w Q=>Q.1.1.1.1.1.1.1) (Nat.zero_lt_succ _) (Or.inr rfl) (fun w R Q=>(show Calls _ _ _ _ (RetC w g ((bits:Nat):Int) r24) from by rw [← hr24]; exact Ziy g bits s23 A23 l23 c23 b (oddM (rndM z.natAbs d bits)) (((e + k) + ((tzn (rndM z.natAbs d bits):Nat):Int))) _ Q.1.1.1.1.1.1.1 Q.2).mono (fun _ _=>ZkN)) (fun _ _ _ _=>trivial) (fun xx=>?_)
    obtain ⟨s24,A24,l24,c24⟩:=xx
    refine xr 1 [(0, .v (.pointer (some ⟨g,0,none⟩))),(3, .v (.int .i64 e)),(5, .p 5 0),(6, .p 6 0),(8, .p 8 0),(9, .p 9 0),(10, .v (.int .i64 k))] [bI2 9 32 false A l c,(8,52,[.v (.bool s24), .v (.slice A24 l24 c24), .v (.int .i64 r24.e)]),bI2 6 32 b2 B m f,bI2 5 32 b A l c] ?_
    refine xe (Zaa (Zaj (Zbv (Zak (Zbv ?_)))))
    refine Zaf (v:=.agg #[.bool s24, .slice A24 l24 c24, .int .i64 r24.e]) (by kernel_rfl) (fun w' R Q=>?_)
    have hsb:=hN.signb
    have hkz:Zcf (decide (z < 0)) z.natAbs d e bits=r24:=by unfold Zcf; rw [if_neg (by omega),Zn0 hm0,← hr24,← hke,← hsb]
    rw [hkz]
    exact ⟨(s24,A24,l24,c24),rfl,Q.2,R,Q.1.2⟩
end Go.Proofs.YtklpdkpcocnglaaGreatDoor

namespace Go.Proofs.YtklpdkpcocnglaaGreatDoor
open Go.RowKit
theorem ZoN (g bits:Nat) (s:Bool) (A:Option Addr) (l c:Nat) (t:Bool) (B:Option Addr) (m d:Nat) (v:Rat) (w:World) (hC:CB w g ((bits:Nat):Int) 0) (hV:Zaw w (.agg #[.bool s, .slice A l c, .bool t, .slice B m d]) v) (hz:ml v.num.natAbs≤10000) (hd:ml v.den≤10000) (hb0:0 < bits) (hb:bits≤4096) :
 Calls Tryz.prog 59 #[.pointer (some ⟨g,0,none⟩), .agg #[.bool s, .slice A l c, .bool t, .slice B m d]] w (RetC w g ((bits:Nat):Int) (Zcf (decide (v.num < 0)) v.num.natAbs v.den 0 bits)):=by
 refine ZdZ (fun i=>i=g) (Φ:=fun w=>(CB w g ((bits:Nat):Int) 0∧Zaw w (.agg #[.bool s, .slice A l c, .bool t, .slice B m d]) (v))) Tryz.func59 rfl (by kernel_rfl) (fun w' hf=>⟨hC.ext hf,hV.ext hf⟩) ?_
 refine Zac (Zab (xq 2 [(3, .p 3 0),(4, .p 4 0)] [(4,52,[.v (.bool false), .v (.slice none 0 0), .v (.int .i64 0)]),bR4 3 34 s A l c t B m d] ?_))
 refine xe (Zaa (Zac ?_))
 refine ZaC 5 (by kernel_rfl) (by kernel_rfl) Zah ?_
 refine xqg 4 [(5, .v (.pointer (some ⟨g,0,none⟩))),eI2 7 s A l c,eR4 8 s A l c t B m d] ?_
 refine xqd 79 [vR4 s A l c t B m d] 9 ZaE _ (fun w R Q=>(Zhg _ (v) _ Q.2).mono (fun _ _=>ZaH)) (fun xx=>?_)
 obtain ⟨s10,A10,l10,c10⟩:=xx
 refine xz ?_
 obtain ⟨r11,hr11⟩:∃ r',Zcf (decide (((v).num) < 0)) ((v).num).natAbs (v.den) (0) bits=r':=⟨_,rfl⟩
 refine Zf7 101 [.pointer (some ⟨g,0,none⟩), .agg #[.bool s, .slice A l c], .agg #[.bool s10, .slice A10 l10 c10], .int .i64 0] (d:=10) (shF r11.e) (fun _=>#[.int .i64 ((bits:Nat):Int), .int .i64 r11.err]) (fun y w=>Zai w (ZaE y) (sg r11.s r11.m)) (fun _=>True) (fun w Q=>Q.1.1) (Nat.zero_lt_succ _) (Or.inr rfl) (fun w R Q=>(show Calls _ _ _ _ (RetC w g ((bits:Nat):Int) r11) from by rw [← hr11]; exact Zmv g bits s A l c ((v).num) s10 A10 l10 c10 (v.den) (0) _ Q.1.1 Q.1.2.num Q.2 hz hd v.den_pos (by omega) (by omega) (by omega) (by omega)).mono (fun _ _=>ZkN)) (fun _ _ _ _=>trivial) (fun xx=>?_)
 obtain ⟨s11,A11,l11,c11⟩:=xx
 refine xr 1 [(4, .p 4 0)] [(4,52,[.v (.bool s11), .v (.slice A11 l11 c11), .v (.int .i64 r11.e)])] ?_
 refine xe (Zaa (Zaj ?_))
 refine Zaf (v:=.agg #[.bool s11, .slice A11 l11 c11, .int .i64 r11.e]) (by kernel_rfl) (fun w' R Q=>?_)
 rw [hr11]
 exact ⟨(s11,A11,l11,c11),rfl,Q.2,R,Q.1.2⟩
end Go.Proofs.YtklpdkpcocnglaaGreatDoor

namespace Go.Proofs.YtklpdkpcocnglaaGreatDoor
open Go.RowKit
theorem ZuM {w w':World} {g:Nat} {bits:Int} {r:FR} {e:Ending} (h:RetC w g bits r e w'):∃ y:ShI,e=.returned (shF r.e y)∧Fr (fun i=>i=g) w w'∧Blk 84 w' g [Value.int .i64 bits, .int .i64 r.err].toArray∧(∀ c,c ∈ [Value.int .i64 bits, .int .i64 r.err]→Zb5 (.v c)=true)∧BoxN w w' (fun w=>Zai w (ZaE y) (sg r.s r.m)):=by
 obtain ⟨y,h1,h2,h3,h4⟩:=ZkN h
 refine ⟨y,h1,h2,h3,fun c hc=>?_,h4⟩
 simp at hc
 rcases hc with rfl | rfl<;>rfl
theorem ZpD {z:Int} {k:Nat} (h:(Lib.itoa z).length≤k):ml z.natAbs≤k:=Zl6 (Nat.le_trans (Zps z) h)
theorem Zt5 {s:Bool} {n k:Nat} {e:Int} (h:ml n≤k):ml (ZbU s n e).m≤k:=by
 unfold ZbU
 split
 ·exact ZaW.2 (Nat.pow_pos Zau)
 ·split
  ·exact Nat.le_trans (ZbF (Nat.div_le_self _ _)) h
  ·exact ZaW.2 (Nat.pow_pos Zau)
theorem Zt6 {n d bits:Nat} (hn:0 < n) (hd:0 < d) (hb:0 < bits):rndM n d bits≤2 ^ bits:=by
 have h1:=Zfn hn hd hb
 have h2:=(ZiO (fa n (rndK n d bits)) (fb d (rndK n d bits))).2
 have h3:=Zc6 (fq n d (rndK n d bits))
 rw [h1] at h3
 unfold rndM
 unfold fq at h3
 omega
theorem Zt7 {s:Bool} {n d bits:Nat} {e:Int} (hd:0 < d) (hb:0 < bits) (hb2:bits≤4096):ml (Zcf s n d e bits).m≤129:=by
 unfold Zcf
 split
 ·exact ZaW.2 (Nat.pow_pos Zau)
 ·exact Zt5 (Nat.le_trans (ZbF (Zt6 (by omega) hd hb)) (Zir (by omega)))
theorem ZuN {r:FR} (h:r.err=0):frT r=Lib.itoa (sg r.s r.m):=if_pos h
theorem ZuO {r:FR} (h:r.err=0):frE r=r.e:=if_pos h
theorem ZuP {r:FR} (h:r.err≠0):frT r=[]:=if_neg h
theorem ZuQ {r:FR} (h:r.err≠0):frE r=0:=if_neg h
theorem Ziz (b:Int) (w:World) :
 Calls Tryz.prog 58 #[.int .i64 b] w (RetV w (.bool (decide (8≤b∧b≤1024)))):=by
 refine Zaz (Φ:=fun w=>True) Tryz.func58 rfl (by kernel_rfl) (fun w' hf=>trivial) ?_
 refine Zac (Zab (xq 1 [(2, .v (.bool false))] [] ?_))
 refine xe (Zaa (Zac (Zab (xq 3 [(5, .v (.bool (decide (b ≥ 8))))] [] ?_))))
 rcases bl2 ((decide (b ≥ 8))) with hb10 | hb10
 ·rw [hb10]
  have hb10':=of_decide_eq_true hb10
  refine xq 4 [(2, .v (.bool (decide (b≤1024))))] [] ?_
  refine xe (Zaa (Zaj ?_))
  refine Zaf (v:=.bool (decide (b≤1024))) (by kernel_rfl) (fun w' R Q=>?_)
  exact ⟨congrArg (fun b=>Ending.returned (Value.bool b)) (decide_eq_decide.2 ⟨fun h=>⟨by omega,h⟩,fun h=>h.2⟩),R⟩
 ·rw [hb10]
  have hb10':=of_decide_eq_false hb10
  refine xq 4 [(2, .v (.bool false))] [] ?_
  refine xe (Zaa (Zaj ?_))
  refine Zaf (v:=.bool false) (by kernel_rfl) (fun w' R Q=>?_)
  exact ⟨by rw [decide_eq_false (p:=8≤b∧b≤1024) (by omega)],R⟩
theorem Zn2 (s:ByteArray) (b:Int) (w:World) (hs:(bytes s).length≤570) :
 Calls Tryz.prog 16 #[.string s, .int .i64 b] w (ZiR w (Zb7 (bytes s) b)):=by
 have hsz:s.size≤65536:=by rw [← Zao]; omega
 refine Zaz (Φ:=fun w=>True) Tryz.func16 rfl (by kernel_rfl) (fun w' hf=>trivial) ?_
 refine Zac (Zab (xq 2 [(4, .p 4 0),(5, .v (.int .i64 0))] [(4,24,[.v (.string ⟨#[]⟩), .v (.int .i64 0)])] ?_))
 refine xe (Zaa (Zac ?_))
 by_cases hv:(ZaU (bytes s)).isSome=true
 ·obtain ⟨v,hrd⟩:=Option.isSome_iff_exists.1 hv
  have hl:=Zio hrd
  have hmn:=ZpD hl.1
  have hmd:ml v.den≤(bytes s).length + 1:=by have h:=ZpD hl.2; rwa [Int.natAbs_natCast] at h
  refine Zab (xq 1 [(11, .v (.string s))] [] ?_)
  refine xqc 18 [.string s] 12 (fun x:ShQ=>.tuple #[Zbf x, .bool true]) _ (fun w R Q=>(Zey s _ hsz).mono (fun _ _ h=>ZdH h hrd)) (fun xx=>?_)
  obtain ⟨s10,A11,l12,c13,t14,B15,m16,d17⟩:=xx
  refine xq 6 [(6, .p 6 0),(7, .v (.bool true))] [bR4 6 34 s10 A11 l12 c13 t14 B15 m16 d17] ?_
  refine xe (Zaa (Zac (Zac (Zab (xq 2 [(16, .v (.bool false))] [] ?_)))))
  refine xe (Zaa (xb (Zap (Zaa (Zac (Zac ?_))))))
  by_cases hb:8≤b∧b≤1024
  ·obtain ⟨n,hn⟩:∃ n:Nat,b=n:=⟨b.toNat,by omega⟩
   subst hn
   refine Zab (xq 1 [(18, .v (.int .i64 ((n:Nat):Int)))] [] ?_)
   refine xqc 58 [.int .i64 ((n:Nat):Int)] 19 (fun _:Unit=>.bool true) _ (fun w R Q=>(Ziz _ _).mono (fun _ _ h=>Zad h (by rw [decide_eq_true hb]))) (fun xx=>?_)
   refine xq 1 [(20, .v (.bool false))] [] ?_
   refine xe (Zaa (xb (Zap (Zaa (Zac (Zab (xq 4 [(8, .p 24 0)] [(24,84,[.v (.int .i64 ((n:Nat):Int)), .v (.int .i64 0)])] ?_)))))))
   refine xe (Zaa (Zac (Zab (xq 2 [(25, .p 24 0),eR4 26 s10 A11 l12 c13 t14 B15 m16 d17] [] ?_))))
   obtain ⟨r18,hr18⟩:∃ r',rndF v n=r':=⟨_,rfl⟩
   refine ZsR (b:=24) (t:=84) (cs:=[.v (.int .i64 ((n:Nat):Int)), .v (.int .i64 0)]) 59 [.agg #[.bool s10, .slice A11 l12 c13, .bool t14, .slice B15 m16 d17]] (d:=27) (shF r18.e) (fun _=>[.int .i64 ((n:Nat):Int), .int .i64 r18.err]) (fun y w=>Zai w (ZaE y) (sg r18.s r18.m)) (by kernel_rfl) (by kernel_rfl) (by kernel_rfl) (fun w q_ R Q hB=>(show Calls _ _ _ _ (RetC w q_ ((n:Nat):Int) r18) from by rw [← hr18]; exact ZoN q_ n s10 A11 l12 c13 t14 B15 m16 d17 v _ hB Q.1.2 (by omega) (by omega) (by omega) (by omega)).mono (fun _ _=>ZuM)) (fun xx=>?_)
   obtain ⟨s18,A18,l18,c18⟩:=xx
   refine xr 2 [(4, .p 4 0),(5, .v (.int .i64 0)),(8, .p 24 0),(9, .p 9 0)] [(9,52,[.v (.bool s18), .v (.slice A18 l18 c18), .v (.int .i64 r18.e)]),(24,84,[.v (.int .i64 ((n:Nat):Int)), .v (.int .i64 r18.err)]),(4,24,[.v (.string ⟨#[]⟩), .v (.int .i64 0)])] ?_
   refine xe (Zaa (Zac (Zac (Zab (xq 5 [(32, .v (.bool ((r18.err:Int) != 0)))] [] ?_)))))
   refine xe (Zaa ?_)
   refine ZaA (((r18.err:Int) != 0)) (by kernel_rfl) (fun hb19=>?_) (fun hb19=>?_)
   ·have hb19':=ZdW hb19
    refine Zac ?_
    refine ZaC 7 (by kernel_rfl) (by kernel_rfl) Zah ?_
    refine xqf 7 [(5, .v (.int .i64 r18.err))] [(4,24,[.v (.string ⟨#[]⟩), .v (.int .i64 0)]),(9,52,[.v (.bool s18), .v (.slice A18 l18 c18), .v (.int .i64 r18.e)]),(24,84,[.v (.int .i64 ((n:Nat):Int)), .v (.int .i64 r18.err)]),(4,24,[.v (.string ⟨#[]⟩), .v (.int .i64 0)])] ?_
    refine xz (xe (Zaa (Zaj (Zak ?_))))
    refine Zaf (v:=.tuple #[.agg #[.string ⟨#[]⟩, .int .i64 0], .int .i64 r18.err]) (by kernel_rfl) (fun w' R Q=>?_)
    rw [show Zb7 (bytes s) ((n:Nat):Int)=rndF v n from by unfold Zb7; rw [if_pos hv,if_pos hb,Zew hrd]; rfl,hr18]
    exact ⟨by rw [ZuP hb19',ZuQ hb19'],R⟩
   ·have hb19':=ZdX hb19
    refine Zap (Zaa (Zac (Zab (xq 1 [(38, .v (.agg #[.bool s18, .slice A18 l18 c18, .int .i64 r18.e]))] [] ?_))))
    refine xqc 38 [.agg #[.bool s18, .slice A18 l18 c18, .int .i64 r18.e]] 39 (fun _:Unit=>.agg #[.string ⟨(Lib.itoa (sg r18.s r18.m)).toArray⟩, .int .i64 r18.e]) _ (fun w R Q=>(Zbi s18 A18 l18 c18 (sg r18.s r18.m) r18.e _ Q.2 (by rw [Zfp,← hr18]; exact Nat.le_trans (Zt7 v.den_pos (by omega) (by omega)) (by decide))).mono (fun _ _ h=>Zad h rfl)) (fun xx=>?_)
    refine xq 2 [(5, .v (.int .i64 0))] [(4,24,[.v (.string ⟨(Lib.itoa (sg r18.s r18.m)).toArray⟩), .v (.int .i64 r18.e)])] ?_
    refine xe (Zaa (Zaj ?_))
    refine Zaf (v:=.tuple #[.agg #[.string ⟨(Lib.itoa (sg r18.s r18.m)).toArray⟩, .int .i64 r18.e], .int .i64 0]) (by kernel_rfl) (fun w' R Q=>?_)
    rw [show Zb7 (bytes s) ((n:Nat):Int)=rndF v n from by unfold Zb7; rw [if_pos hv,if_pos hb,Zew hrd]; rfl,hr18]
    exact ⟨by rw [ZuN hb19',ZuO hb19',hb19'],R⟩
  ·refine Zab (xq 1 [(18, .v (.int .i64 b))] [] ?_)
   refine xqc 58 [.int .i64 b] 19 (fun _:Unit=>.bool false) _ (fun w R Q=>(Ziz _ _).mono (fun _ _ h=>Zad h (by rw [decide_eq_false hb]))) (fun xx=>?_)
   refine xq 1 [(20, .v (.bool true))] [] ?_
   refine xe (Zaa (xa (Zac (Zab (xq 3 [(5, .v (.int .i64 3))] [] ?_)))))
   refine xe (Zaa (Zaj (Zak ?_)))
   refine Zaf (v:=.tuple #[.agg #[.string ⟨#[]⟩, .int .i64 0], .int .i64 3]) (by kernel_rfl) (fun w' R Q=>?_)
   rw [show Zb7 (bytes s) b=⟨false,0,0,3⟩ from by unfold Zb7; rw [if_pos hv,if_neg hb]]
   exact ⟨rfl,R⟩
 ·have hrd:ZaU (bytes s)=none:=by cases h:ZaU (bytes s) with | none=>rfl | some q=>rw [h] at hv; exact absurd rfl hv
  refine Zab (xq 1 [(11, .v (.string s))] [] ?_)
  refine xqc 18 [.string s] 12 (fun x:ShQ=>.tuple #[Zbf x, .bool false]) _ (fun w R Q=>(Zey s _ hsz).mono (fun _ _ h=>Zgv h hrd)) (fun xx=>?_)
  obtain ⟨s20,A21,l22,c23,t24,B25,m26,d27⟩:=xx
  refine xq 6 [(6, .p 6 0),(7, .v (.bool false))] [bR4 6 34 s20 A21 l22 c23 t24 B25 m26 d27] ?_
  refine xe (Zaa (Zac (Zac (Zab (xq 2 [(16, .v (.bool true))] [] ?_)))))
  refine xe (Zaa (xa (Zac (Zab (xq 3 [(5, .v (.int .i64 1))] [] ?_)))))
  refine xe (Zaa (Zaj (Zak ?_)))
  refine Zaf (v:=.tuple #[.agg #[.string ⟨#[]⟩, .int .i64 0], .int .i64 1]) (by kernel_rfl) (fun w' R Q=>?_)
  rw [show Zb7 (bytes s) b=⟨false,0,0,1⟩ from if_neg hv]
  exact ⟨rfl,R⟩
theorem ZkP (s:ByteArray) (b:Int) (w:World) (hg:Glob w) :
 Calls Tryz.prog 3 #[.string s, .int .i64 b] w (RetV w (.bool true)):=by
 refine Zaz (Φ:=fun w=>Glob w) Tryz.func3 rfl (by kernel_rfl) (fun w' hf=>hg.ext hf) ?_
 refine Zac (Zab (xq 1 [(4, .v (.bool false))] [] ?_))
 refine xe (Zaa (Zac (Zac (Zab (xq 3 [(11, .v (.bool (decide (((s).size:Int) > 150))))] [] ?_)))))
 refine xe (Zaa ?_)
 refine ZaA ((decide (((s).size:Int) > 150))) (by kernel_rfl) (fun hb10=>?_) (fun hb10=>?_)
 ·have hb10':=of_decide_eq_true hb10
  refine Zac (Zab ?_)
  refine xqc 14 [] 12 (fun _:Unit=>.bool true) _ (fun w R Q=>(ZbL _ Q).mono (fun _ _ h=>Zad h rfl)) (fun xx=>?_)
  refine xq 1 [(4, .v (.bool true))] [] ?_
  refine xe (Zaa (Zaj (Zak ?_)))
  refine Zaf (v:=.bool true) (by kernel_rfl) (fun w' R Q=>?_)
  exact ⟨rfl,R⟩
 ·have hb10':=of_decide_eq_false hb10
  refine Zap (Zaa (Zac ?_))
  have hs:(bytes s).length≤150:=by rw [Zao]; omega
  obtain ⟨r,hr⟩:∃ r,Zb7 (bytes s) b=r:=⟨_,rfl⟩
  refine Zab (xq 2 [(14, .v (.string s)),(15, .v (.int .i64 b))] [] ?_)
  refine xqc 15 [.string s, .int .i64 b] 16 (fun _:Unit=>.tuple #[.agg #[.string ⟨(frT r).toArray⟩, .int .i64 (frE r)], .int .i64 r.err]) _ (fun w R Q=>((show Calls _ _ _ _ (ZiR _ r) from by rw [← hr]; exact ZkK s b _ Q (by omega))).mono (fun _ _ h=>Zad h rfl)) (fun xx=>?_)
  refine xq 6 [(5, .p 5 0),(6, .v (.int .i64 r.err))] [(5,24,[.v (.string ⟨(frT r).toArray⟩), .v (.int .i64 (frE r))])] ?_
  refine xe (Zaa (Zac (Zab (xq 2 [(20, .v (.string s)),(21, .v (.int .i64 b))] [] ?_))))
  refine xqc 16 [.string s, .int .i64 b] 22 (fun _:Unit=>.tuple #[.agg #[.string ⟨(frT r).toArray⟩, .int .i64 (frE r)], .int .i64 r.err]) _ (fun w R Q=>((show Calls _ _ _ _ (ZiR _ r) from by rw [← hr]; exact Zn2 s b _ (by omega))).mono (fun _ _ h=>Zad h rfl)) (fun xx=>?_)
  refine xq 6 [(7, .p 7 0),(8, .v (.int .i64 r.err))] [(7,24,[.v (.string ⟨(frT r).toArray⟩), .v (.int .i64 (frE r))])] ?_
  refine xe (Zaa (Zac (Zab ?_)))
  refine xqc 14 [] 25 (fun _:Unit=>.bool true) _ (fun w R Q=>(ZbL _ Q.1.1).mono (fun _ _ h=>Zad h rfl)) (fun xx=>?_)
  refine xq 5 [(26, .v (.bool true)),(27, .v (.agg #[.string ⟨(frT r).toArray⟩, .int .i64 (frE r)])),(28, .v (.int .i64 r.err)),(29, .v (.agg #[.string ⟨(frT r).toArray⟩, .int .i64 (frE r)])),(30, .v (.int .i64 r.err))] [] ?_
  refine xqc 17 [.agg #[.string ⟨(frT r).toArray⟩, .int .i64 (frE r)], .int .i64 r.err, .agg #[.string ⟨(frT r).toArray⟩, .int .i64 (frE r)], .int .i64 r.err] 31 (fun _:Unit=>.bool true) _ (fun w R Q=>(ZqB _ _ _ _).mono (fun _ _ h=>Zad h rfl)) (fun xx=>?_)
  refine xq 2 [(4, .v (.bool true))] [] ?_
  refine xe (Zaa (Zaj ?_))
  refine Zaf (v:=.bool true) (by kernel_rfl) (fun w' R Q=>?_)
  exact ⟨rfl,R⟩
end Go.Proofs.YtklpdkpcocnglaaGreatDoor
