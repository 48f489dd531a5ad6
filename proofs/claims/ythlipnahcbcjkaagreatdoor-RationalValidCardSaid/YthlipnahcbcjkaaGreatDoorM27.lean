/-
 My texts Rv put together.
-/
import Derived.Test.YthlipnahcbcjkaaGreatDoorM16
import Derived.Test.YthlipnahcbcjkaaGreatDoorM25
import Derived.Test.YthlipnahcbcjkaaGreatDoorM19
import Derived.Test.YthlipnahcbcjkaaGreatDoorM26
import Derived.Test.YthlipnahcbcjkaaGreatDoorM20
set_option maxRecDepth 100000
namespace Go.Proofs.YthlipnahcbcjkaaGreatDoor
open Go.RowKit
def i64F (l:List UInt8):Int × Bool:=match ZaI l with
 | some q=>if q.den=1∧ZcB q.num then (q.num,true) else (0,false)
 | none=>(0,false)
section
variable {l t d:List UInt8} {neg:Bool} {q:Rat}
theorem ZjQ (h:ZaI l=none):i64F l=(0,false):=by unfold i64F; rw [h]
theorem Zhy (h:ZaI l=some q) (h1:q.den=1) (h2:ZcB q.num):i64F l=(q.num,true):=by unfold i64F; rw [h]; exact if_pos ⟨h1,h2⟩
theorem ZiO (h:ZaI l=some q) (h2:¬ ZcB q.num):i64F l=(0,false):=by unfold i64F; rw [h]; exact if_neg (fun e=>h2 e.2)
theorem ZnP (h:ZaI l=some q) (h1:¬ q.den=1):i64F l=(0,false):=by unfold i64F; rw [h]; exact if_neg (fun e=>h1 e.1)
theorem Zth (h:ZaP l=(neg,t,d,false)):i64F l=(0,false):=ZjQ (ZlZ h)
theorem Zti (b:Bool) (n:Nat):(sg b n).natAbs=n:=by unfold sg; split<;>omega
theorem Ztj (h:ZaP l=(neg,t,d,true)) (hd:¬ d=[]):i64F l=(0,false):=by
 by_cases hg:Nat.gcd (Zad t) (Zad d)=1
 ·have h2:=(ZdZ h).1 hd
  have hr:ZaI l=some (mkRat (sg neg (Zad t)) (Zad d)):=by unfold ZaI; rw [h]; simp only [if_neg hd]; rw [if_pos hg]
  refine ZnP hr (fun e=>?_)
  have hc:=(ZdU (sg neg (Zad t)) (Zad d) (by omega)).2
  rw [Zti,hg,Nat.div_one,e] at hc
  omega
 ·exact ZjQ (by unfold ZaI; rw [h]; simp only [if_neg hd]; rw [if_neg hg])
theorem ZnQ (h:ZaP l=(neg,t,[],true)):ZaI l=some ((sg neg (Zad t):Int):Rat):=by unfold ZaI; rw [h]; simp
theorem Ztk (h:ZaP l=(neg,t,[],true)) (hz:ZcB (sg neg (Zad t))):i64F l=(sg neg (Zad t),true):=Zhy (ZnQ h) rfl hz
theorem Zt6 (h:ZaP l=(neg,t,[],true)) (hz:¬ ZcB (sg neg (Zad t))):i64F l=(0,false):=ZiO (ZnQ h) hz
theorem Zse (n:Int) (h1 : -9223372036854775808≤n) (h2:n≤9223372036854775807):i64F (Lib.itoa n)=(n,true):=Zhy (ZlJ n) rfl ⟨h1,h2⟩
end
def ErrG (w:World):Prop:=∃ tp p,w.cell? ⟨1,0,none⟩=some (.iface tp p)
theorem ErrG.ext {w w':World} (h:ErrG w) (hf:Ext w w'):ErrG w':=by
 obtain ⟨tp,p,h⟩:=h
 exact ⟨tp,p,(hf.toBelow.cell (Lib.lt_of_cell h)).trans h⟩
theorem Ztl {s:ByteArray} {neg:Bool} {t:List UInt8} {w:World} (h:ZaP (bytes s)=(neg,t,[],true)) (hz:ZcB (sg neg (Zad t))) (hs:s.size≤1099511627776) :
 Calls Tryz.prog 120 #[.string s, .int .i64 10, .int .i64 64] w (RetV w (.tuple #[.int .i64 (sg neg (Zad t)), .nilIface])):=by
 refine (Tryz.strconv_ParseInt_10_at64_ok s (by omega) (sg neg (Zad t)) (by rw [show s.data.toList=bytes s from rfl,pib h,if_pos hz]) w).mono ?_
 rintro e w' ⟨rfl,hw⟩
 refine ⟨rfl,?_⟩
 rcases hw with rfl | ⟨t,rfl⟩
 ·exact Fr.refl _ _
 ·exact Fr.ofBelow (Lib.bytesWorld_below _ _ _)
def Zsr (w:World) (e:Ending) (w':World):Prop:=∃ (c:Int) (N:Nat),e=.returned (.tuple #[.int .i64 c, .iface 272 (.pointer (some ⟨N,0,none⟩))])∧Ext w w'
theorem Ztm {s:ByteArray} {neg:Bool} {t:List UInt8} {w:World} (hG:ErrG w) (h:ZaP (bytes s)=(neg,t,[],true)) (hz:¬ ZcB (sg neg (Zad t))) (hs:s.size≤1099511627776) :
 Calls Tryz.prog 120 #[.string s, .int .i64 10, .int .i64 64] w (Zsr w):=by
 obtain ⟨tp,p,hG⟩:=hG
 refine (Tryz.strconv_ParseInt_10_at64_range s (by omega) (by rw [show s.data.toList=bytes s from rfl,pib h,if_neg hz]) (.iface tp p) w hG (Or.inr ⟨tp,p,rfl⟩)).mono ?_
 rintro e w' ⟨N,rfl,_,_,hB⟩
 exact ⟨_,N,rfl,Fr.ofBelow hB⟩
theorem Ztn {w w':World} {e:Ending} (h:Zsr w e w'):Zby (fun x:Int × Nat=>.tuple #[.int .i64 x.1, .iface 272 (.pointer (some ⟨x.2,0,none⟩))]) (fun _ _=>True) w e w':=by
 obtain ⟨c,N,rfl,Q⟩:=h
 exact ⟨(c,N),rfl,Q,BoxN.pure trivial⟩
/-! ### the digits of a number -/
theorem Zto {B:Nat} {xs:List Nat} (hB:0 < B) (hd:Dig B xs) {i:Nat} (h:i < xs.length):xs[i]?.getD 0=val B xs / B ^ i % B:=by
 have h1:=ZaQ (B:=B) (xs:=xs) i
 rw [Nat.min_eq_left (Nat.le_of_lt h),ZaR i h] at h1
 have h2:val B (xs.take i) < B ^ i:=by
  have:=ZaX (B:=B) (xs:=xs.take i) (fun x hx=>hd x (List.mem_of_mem_take hx))
  rwa [List.length_take,Nat.min_eq_left (Nat.le_of_lt h)] at this
 have hp:=Nat.pow_pos (n:=i) hB
 rw [h1,Nat.add_mul_div_left _ _ hp,Nat.div_eq_of_lt h2,Nat.zero_add,Nat.add_mul_mod_self_left,Nat.mod_eq_of_lt (hd.getD hB i)]
section
variable {w:World} {s t:Bool} {A B:Option Addr} {l c m d:Nat} {q:Rat}
theorem lenN (h:Zaz w (.agg #[.bool s, .slice A l c, .bool t, .slice B m d]) q):l=ml q.num.natAbs:=h.num.mag.len
theorem Zuo (h:Zaz w (.agg #[.bool s, .slice A l c, .bool t, .slice B m d]) q):(q.num < 0→s=true)∧(¬ q.num < 0→s=false):=⟨fun h1=>h.num.sneg h1,fun h1=>h.num.spos (by omega)⟩
theorem rowN (h:Zaz w (.agg #[.bool s, .slice A l c, .bool t, .slice B m d]) q):∃ xs,Zar .u32 w A xs∧xs.length=l∧Dig W32 xs∧val W32 xs=q.num.natAbs:=by
 obtain ⟨xs,hR,hd,_,hv⟩:=h.num.mag.row
 exact ⟨xs,hR.shows.2.2,hR.shows.1,hd,hv⟩
theorem Zup (h:Zaz w (.agg #[.bool s, .slice A l c, .bool t, .slice B m d]) q) (hl:0 < l):A≠none:=by
 obtain ⟨xs,hS,hl2,_⟩:=rowN h
 obtain ⟨g,o,rfl,_⟩:=hS.at (i:=0) (by omega)
 exact fun e=>by cases e
theorem Zuq {P:Program} {o:Oper} {ρ:Operand→Value} {ty:TypeId} {x:Operand} {j r:Nat} (h:Zaz w (.agg #[.bool s, .slice A l c, .bool t, .slice B m d]) q) (hj:j < l) (hr:q.num.natAbs / W32 ^ j % W32=r) (ho:o.op=Op.load ty x:=by kernel_rfl) (hx:ρ x=atA A j:=by kernel_rfl) (ha:(teOf P ty).map (fun e=>e.agg)=some false:=by kernel_rfl) :
 (execOp ρ o).run P w=.ok (.value (.int .u32 ((r:Nat):Int))) w:=by
 obtain ⟨xs,hS,hl,hd,hv⟩:=rowN h
 have:=Ztg hS (j:=j) (by omega) ho hx ha
 rwa [Zto (by rw [Zaw]; decide) hd (by omega),hv,hr] at this
end
theorem Zur {u x:Nat} (hu:u < W32) (hx:x < W32):u * 2 ^ 32 % W64 ||| x=u * 2 ^ 32 + x:=by
 rw [Zaw] at hu hx
 rw [Nat.mod_eq_of_lt (by rw [Zai]; omega),Nat.mul_comm,Nat.two_pow_add_eq_or_of_lt hx]
theorem Ztp {n u x j:Nat} (hu:u=n / W32 ^ (j + 1)) (hx:n / W32 ^ j % W32=x):u * 2 ^ 32 + x=n / W32 ^ j:=by
 have h:=Nat.div_add_mod (n / W32 ^ j) W32
 rw [Nat.div_div_eq_div_mul,← Nat.pow_succ,← hu,hx] at h
 generalize n / W32 ^ j=D at h ⊢
 rw [Zaw] at h
 omega
theorem Zus {n u j:Nat} (hu:u=n / W32 ^ (j + 1)) (hn:n < W32 ^ 2):u < W32:=by
 rw [hu,Nat.div_lt_iff_lt_mul (Nat.pow_pos (by rw [Zaw]; decide))]
 refine Nat.lt_of_lt_of_le hn ?_
 rw [← Nat.pow_succ']
 exact Nat.pow_le_pow_right (by rw [Zaw]; decide) (by omega)
theorem Ztq {n l:Nat} (h:l=ml n):0=n / W32 ^ l:=by rw [h,Nat.div_eq_of_lt (Zgh n)]
theorem Zt7 {x:Nat} (h:x < W32):IntKind.u64.wrap ((x:Nat):Int)=((x:Nat):Int):=by rw [Zaw] at h; rw [IntKind.wrap_u64]; omega
theorem Zre {k:Nat} (h:k≤2):IntKind.i64.wrap (((k:Nat):Int) - 1)=((k:Nat):Int) - 1:=by rw [IntKind.wrap_i64]; omega
theorem Zt8 {u:Nat} (h:u≤9223372036854775808):IntKind.i64.wrap (IntKind.u64.wrap (0 - ((u:Nat):Int))) = -((u:Nat):Int):=by rw [IntKind.wrap_i64,IntKind.wrap_u64]; omega
theorem Zt9 {u:Nat} (h:u < 9223372036854775808):IntKind.i64.wrap ((u:Nat):Int)=((u:Nat):Int):=by rw [IntKind.wrap_i64]; omega
theorem Ztr {l:Nat} (h:l≤2):decide (((l:Nat):Int) > 2)=false:=decide_eq_false (by omega)
theorem Zts {l:Nat} (h:¬ l≤2):decide (((l:Nat):Int) > 2)=true:=decide_eq_true (by omega)
theorem Zua (k:Nat):decide (((k + 1:Nat):Int) > 0)=true:=decide_eq_true (by omega)
theorem Ztt {q:Rat} (h:¬ ml q.num.natAbs≤2):¬ ZcB q.num:=fun e=>h (ZbK.2 (by unfold ZcB at e; rw [Zaw]; omega))
theorem Zut {n:Nat} (h:ml n≤2):n < W32 ^ 2:=ZbK.1 h
theorem ZkW (s:ByteArray) (w:World) (hg:ErrG w) (hs:(bytes s).length≤570) :
 Calls Tryz.prog 51 #[.string s] w (RetV w (.tuple #[.int .i64 (i64F (bytes s)).1, .bool (i64F (bytes s)).2])):=by
 have hs8:s.size≤1099511627776:=by rw [Zah] at hs; omega
 refine ZaB (Φ:=fun w=>ErrG w) Tryz.func51 rfl (by kernel_rfl) (fun w' hf=>hg.ext hf) ?_
 refine Zac (Zab (xr 2 [(0, .v (.string s)),(2, .v (.int .i64 0)),(3, .v (.bool false))] [] ?_))
 refine xe (Zaa (Zac (Zab (xr 1 [(0, .v (.string s)),(2, .v (.int .i64 0)),(3, .v (.bool false)),(9, .v (.string s))] [] ?_))))
 refine xc 119 [.string s] 10 (fun x:ShSp=>.tuple #[.agg #[.bool x.1, .string x.2.1, .string x.2.2.1], .bool x.2.2.2]) _ (fun w R Q=>(Zgf s _ hs8).mono (fun _ _=>ZkH)) (fun xx=>?_)
 obtain ⟨xneg,xt,sd,yok⟩:=xx
 rcases yok with _ | _
 ·refine xr 6 [(0, .v (.string s)),(2, .v (.int .i64 0)),(3, .v (.bool false)),(4, .p 4 0),(5, .v (.bool false))] [(4,158,[.v (.bool xneg), .v (.string xt), .v (.string sd)])] ?_
  refine xe (Zaa (Zac (Zac ?_)))
  refine SXc.know (p:=ZaP (bytes s)=(xneg,bytes xt,bytes sd,false)) (fun w _ Q=>Q.2) (fun HK=>?_)
  refine Zab (xr 7 [(0, .v (.string s)),(2, .v (.int .i64 0)),(3, .v (.bool false)),(19, .v (.bool true))] [] ?_)
  refine xe (Zaa (xa (Zac (Zab (xr 2 [(0, .v (.string s)),(2, .v (.int .i64 0)),(3, .v (.bool false))] [] ?_)))))
  refine xe (Zaa (Zan (Zao ?_)))
  refine Zag (v:=.tuple #[.int .i64 0, .bool false]) (by kernel_rfl) (fun w' R Q=>?_)
  exact ⟨by rw [Zth HK],R⟩
 ·refine xr 6 [(0, .v (.string s)),(2, .v (.int .i64 0)),(3, .v (.bool false)),(4, .p 4 0),(5, .v (.bool true))] [(4,158,[.v (.bool xneg), .v (.string xt), .v (.string sd)])] ?_
  refine xe (Zaa (Zac (Zac ?_)))
  refine SXc.know (p:=ZaP (bytes s)=(xneg,bytes xt,bytes sd,true)) (fun w _ Q=>Q.2) (fun HK=>?_)
  by_cases hd:bytes sd=[]
  ·rw [hd] at HK
   refine Zab (xr 6 [(0, .v (.string s)),(2, .v (.int .i64 0)),(3, .v (.bool false)),(15, .v (.bool false)),(18, .v (.bool (!((sd:ByteArray).toList == (⟨#[]⟩:ByteArray).toList))))] [] ?_)
   rw [ZoK hd,Bool.not_true]
   refine xr 1 [(0, .v (.string s)),(2, .v (.int .i64 0)),(3, .v (.bool false)),(19, .v (.bool false))] [] ?_
   refine xe (Zaa (xb (ZaA (Zaa (Zac (Zab (xr 1 [(2, .v (.int .i64 0)),(3, .v (.bool false)),(21, .v (.string s))] [] ?_)))))))
   by_cases hz:ZcB (sg xneg (Zad (bytes xt)))
   ·refine xc 120 [.string s, .int .i64 10, .int .i64 64] 22 (fun _:Unit=>.tuple #[.int .i64 (sg xneg (Zad (bytes xt))), .nilIface]) _ (fun w R Q=>(Ztl HK hz hs8).mono (fun _ _ h=>Zae h rfl)) (fun xx=>?_)
    refine xr 5 [(2, .v (.int .i64 0)),(3, .v (.bool false)),(6, .v (.int .i64 (sg xneg (Zad (bytes xt))))),(7, .v (.nilIface))] [] ?_
    refine xe (Zaa (Zac (Zac (Zab (xr 2 [(2, .v (.int .i64 0)),(3, .v (.bool false)),(6, .v (.int .i64 (sg xneg (Zad (bytes xt))))),(26, .v (.bool false))] [] ?_)))))
    refine xe (Zaa (xb (ZaA (Zaa (Zac (Zab (xr 3 [(2, .v (.int .i64 (sg xneg (Zad (bytes xt))))),(3, .v (.bool true))] [] ?_)))))))
    refine xe (Zaa (Zan ?_))
    refine Zag (v:=.tuple #[.int .i64 (sg xneg (Zad (bytes xt))), .bool true]) (by kernel_rfl) (fun w' R Q=>?_)
    exact ⟨by rw [Ztk HK hz],R⟩
   ·refine xc 120 [.string s, .int .i64 10, .int .i64 64] 22 (fun x:Int × Nat=>.tuple #[.int .i64 x.1, .iface 272 (.pointer (some ⟨x.2,0,none⟩))]) _ (fun w R Q=>(Ztm Q.1 HK hz hs8).mono (fun _ _=>Ztn)) (fun xx=>?_)
    obtain ⟨pc,pN⟩:=xx
    refine xr 5 [(2, .v (.int .i64 0)),(3, .v (.bool false)),(6, .v (.int .i64 pc)),(7, .v (.iface 272 (.pointer (some ⟨pN,0,none⟩))))] [] ?_
    refine xe (Zaa (Zac (Zac (Zab (xr 2 [(2, .v (.int .i64 0)),(3, .v (.bool false)),(6, .v (.int .i64 pc)),(26, .v (.bool true))] [] ?_)))))
    refine xe (Zaa (xa (Zac (Zab (xr 2 [(2, .v (.int .i64 0)),(3, .v (.bool false)),(6, .v (.int .i64 pc))] [] ?_)))))
    refine xe (Zaa (Zan (Zao ?_)))
    refine Zag (v:=.tuple #[.int .i64 0, .bool false]) (by kernel_rfl) (fun w' R Q=>?_)
    exact ⟨by rw [Zt6 HK hz],R⟩
  ·refine Zab (xr 6 [(0, .v (.string s)),(2, .v (.int .i64 0)),(3, .v (.bool false)),(15, .v (.bool false)),(18, .v (.bool (!((sd:ByteArray).toList == (⟨#[]⟩:ByteArray).toList))))] [] ?_)
   rw [ZoL hd,Bool.not_false]
   refine xr 1 [(0, .v (.string s)),(2, .v (.int .i64 0)),(3, .v (.bool false)),(19, .v (.bool true))] [] ?_
   refine xe (Zaa (xa (Zac (Zab (xr 2 [(0, .v (.string s)),(2, .v (.int .i64 0)),(3, .v (.bool false))] [] ?_)))))
   refine xe (Zaa (Zan (Zao ?_)))
   refine Zag (v:=.tuple #[.int .i64 0, .bool false]) (by kernel_rfl) (fun w' R Q=>?_)
   exact ⟨by rw [Ztj HK hd],R⟩
theorem ZpL (s:ByteArray) (w:World) (hs:s.size≤570) :
 Calls Tryz.prog 55 #[.string s] w (RetV w (.bool (ZaI (bytes s)).isSome)):=by
 refine ZaB (Φ:=fun w=>True) Tryz.func55 rfl (by kernel_rfl) (fun w' hf=>trivial) ?_
 refine Zac (Zab (xr 1 [(0, .v (.string s)),(2, .v (.bool false))] [] ?_))
 refine xe (Zaa (Zac (Zab (xr 1 [(2, .v (.bool false)),(6, .v (.string s))] [] ?_))))
 rcases Zlv (ZaI (bytes s)) with hr | ⟨q,hr⟩
 ·refine xc 94 [.string s] 7 (fun x:ShQ=>.tuple #[ZaJ x, .bool false]) _ (fun w R Q=>(ZeA s _ (by omega)).mono (fun _ _ h=>ZeP h hr)) (fun xx=>?_)
  obtain ⟨s10,A10,l10,c10,t10,B10,m10,d10⟩:=xx
  refine xr 6 [(2, .v (.bool false)),(4, .v (.bool false))] [] ?_
  refine xe (Zaa (Zac (Zab (xr 2 [(2, .v (.bool false))] [] ?_))))
  refine xe (Zaa (Zan ?_))
  refine Zag (v:=.bool false) (by kernel_rfl) (fun w' R Q=>?_)
  exact ⟨by rw [hr]; rfl,R⟩
 ·refine xc 94 [.string s] 7 (fun x:ShQ=>.tuple #[ZaJ x, .bool true]) _ (fun w R Q=>(ZeA s _ (by omega)).mono (fun _ _ h=>ZeQ h hr)) (fun xx=>?_)
  obtain ⟨s11,A11,l11,c11,t11,B11,m11,d11⟩:=xx
  refine xr 6 [(2, .v (.bool false)),(4, .v (.bool true))] [] ?_
  refine xe (Zaa (Zac (Zab (xr 2 [(2, .v (.bool true))] [] ?_))))
  refine xe (Zaa (Zan ?_))
  refine Zag (v:=.bool true) (by kernel_rfl) (fun w' R Q=>?_)
  exact ⟨by rw [hr]; rfl,R⟩
theorem ZpM (s:ByteArray) (w:World) (hs:s.size≤570) :
 Calls Tryz.prog 52 #[.string s] w (RetV w (.tuple #[.int .i64 (i64F (bytes s)).1, .bool (i64F (bytes s)).2])):=by
 refine ZaB (Φ:=fun w=>True) Tryz.func52 rfl (by kernel_rfl) (fun w' hf=>trivial) ?_
 refine Zac (Zab (xr 2 [(0, .v (.string s)),(2, .v (.int .i64 0)),(3, .v (.bool false))] [] ?_))
 refine xe (Zaa (Zac (Zab (xr 1 [(2, .v (.int .i64 0)),(3, .v (.bool false)),(9, .v (.string s))] [] ?_))))
 rcases Zlv (ZaI (bytes s)) with hr | ⟨q,hr⟩
 ·refine xc 94 [.string s] 10 (fun x:ShQ=>.tuple #[ZaJ x, .bool false]) _ (fun w R Q=>(ZeA s _ (by omega)).mono (fun _ _ h=>ZeP h hr)) (fun xx=>?_)
  obtain ⟨s10,A10,l10,c10,t10,B10,m10,d10⟩:=xx
  refine xr 6 [(2, .v (.int .i64 0)),(3, .v (.bool false)),(4, .p 4 0),(5, .v (.bool false))] [bR4 4 45 s10 A10 l10 c10 t10 B10 m10 d10] ?_
  refine xe (Zaa (Zac (Zac (Zab (xr 16 [(2, .v (.int .i64 0)),(3, .v (.bool false)),(4, .p 4 0),(28, .v (.bool true))] [bR4 4 45 s10 A10 l10 c10 t10 B10 m10 d10] ?_)))))
  refine xe (Zaa (xa (Zac (Zab (xr 2 [(2, .v (.int .i64 0)),(3, .v (.bool false)),(4, .p 4 0)] [bR4 4 45 s10 A10 l10 c10 t10 B10 m10 d10] ?_)))))
  refine xe (Zaa (Zan (Zao ?_)))
  refine Zag (v:=.tuple #[.int .i64 0, .bool false]) (by kernel_rfl) (fun w' R Q=>?_)
  exact ⟨by rw [ZjQ hr],R⟩
 ·refine xc 94 [.string s] 10 (fun x:ShQ=>.tuple #[ZaJ x, .bool true]) _ (fun w R Q=>(ZeA s _ (by omega)).mono (fun _ _ h=>ZeQ h hr)) (fun xx=>?_)
  obtain ⟨s11,A11,l11,c11,t11,B11,m11,d11⟩:=xx
  refine xr 6 [(2, .v (.int .i64 0)),(3, .v (.bool false)),(4, .p 4 0),(5, .v (.bool true))] [bR4 4 45 s11 A11 l11 c11 t11 B11 m11 d11] ?_
  refine xe (Zaa (Zac (Zac ?_)))
  refine SXc.know (p:=((q.den=1→m11=0)∧(¬ q.den=1→0 < m11))∧l11=ml q.num.natAbs∧((q.num < 0→s11=true)∧(¬ q.num < 0→s11=false))) (fun w _ Q=>⟨lenD Q.2,lenN Q.2,Zuo Q.2⟩) (fun HK=>?_)
  by_cases hd:q.den=1
  ·obtain rfl:m11=0:=HK.1.1 hd
   by_cases hl:l11≤2
   ·have hw2:q.num.natAbs < W32 ^ 2:=Zut (by rw [← HK.2.1]; exact hl)
    refine Zab (xr 15 [(2, .v (.int .i64 0)),(3, .v (.bool false)),(4, .p 4 0),(22, .v (.bool false)),(27, .v (.bool (decide (((l11:Nat):Int) > 2))))] [bR4 4 45 s11 A11 l11 c11 t11 B11 0 d11] ?_)
    rw [Ztr hl]
    refine xr 1 [(2, .v (.int .i64 0)),(3, .v (.bool false)),(4, .p 4 0),(28, .v (.bool false))] [bR4 4 45 s11 A11 l11 c11 t11 B11 0 d11] ?_
    refine xe (Zaa (xb (ZaA (Zaa (Zac (Zab (xr 1 [(2, .v (.int .i64 0)),(3, .v (.bool false)),(4, .p 4 0),(6, .v (.int .u64 0))] [bR4 4 45 s11 A11 l11 c11 t11 B11 0 d11] ?_)))))))
    refine xe (Zaa (Zac (Zac (Zab (xr 5 [(2, .v (.int .i64 0)),(3, .v (.bool false)),(4, .p 4 0),(6, .v (.int .u64 0)),(33, .v (.int .i64 (IntKind.i64.wrap (((l11:Nat):Int) - 1))))] [bR4 4 45 s11 A11 l11 c11 t11 B11 0 d11] ?_)))))
    rw [Zre hl]
    refine xr 1 [(2, .v (.int .i64 0)),(3, .v (.bool false)),(4, .p 4 0),(6, .v (.int .u64 0)),(7, .v (.int .i64 (((l11:Nat):Int) - 1)))] [bR4 4 45 s11 A11 l11 c11 t11 B11 0 d11] ?_
    refine xe (Zaa (ZbD ?_))
    refine SXc.weak [(2, .v (.int .i64 0)),(3, .v (.bool false)),(4, .p 4 0),(6, .v (.int .u64 ((0:Nat):Int))),(7, .v (.int .i64 (((l11:Nat):Int) - 1)))] [(4,45,[.v (.bool s11), .v (.slice A11 l11 c11), .v (.bool t11), .v (.slice B11 0 d11)])] (Ψ:=fun w=>Zaz w (.agg #[.bool s11, .slice A11 l11 c11, .bool t11, .slice B11 0 d11]) (q)) (Zb8.of (by kernel_rfl)) (by kernel_rfl) (fun w Q=>Q.2) ?_
    refine ZiH (fun nn ss ff=>∃ (u j:Nat),ss=ofL [(2, .v (.int .i64 0)),(3, .v (.bool false)),(4, .p 4 0),(6, .v (.int .u64 ((u:Nat):Int))),(7, .v (.int .i64 (((j:Nat):Int) - 1)))] [(4,45,[.v (.bool s11), .v (.slice A11 l11 c11), .v (.bool t11), .v (.slice B11 0 d11)])]∧ff=(fun w=>Zaz w (.agg #[.bool s11, .slice A11 l11 c11, .bool t11, .slice B11 0 d11]) (q))∧(j≤l11)∧(u=q.num.natAbs / W32 ^ j)∧nn=(1 + j)) ((1 + l11)) ⟨0,l11,rfl,rfl,Nat.le_refl _,(Ztq HK.2.1),rfl⟩ ?_
    rintro nn ss ff ⟨u,j,rfl,rfl,hj,hu,rfl⟩
    refine Zac (Zac (Zab (xr 2 [(2, .v (.int .i64 0)),(3, .v (.bool false)),(4, .p 4 0),(6, .v (.int .u64 ((u:Nat):Int))),(7, .v (.int .i64 (((j:Nat):Int) - 1))),(35, .v (.bool (decide ((((j:Nat):Int) - 1) ≥ 0))))] [bR4 4 45 s11 A11 l11 c11 t11 B11 0 d11] ?_)))
    refine xe (Zaa ?_)
    refine ZcF ((decide ((((j:Nat):Int) - 1) ≥ 0))) (by kernel_rfl) (fun hb12=>?_) (fun hb12=>?_)
    ·obtain ⟨m,rfl⟩:∃ m,j=m + 1:=⟨j - 1,by have:=of_decide_eq_true hb12; omega⟩
     have hu32:=Zus hu hw2
     obtain ⟨x,hx⟩:∃ x,q.num.natAbs / W32 ^ m % W32=x:=⟨_,rfl⟩
     have hx32:x < W32:=by rw [← hx]; exact Nat.mod_lt _ (by rw [Zaw]; decide)
     have hx64:x < W64:=by rw [Zaw] at hx32; rw [Zai]; omega
     refine ZaA (Zaa (Zac (ZbD ?_)))
     rw [show (((m + 1:Nat):Int) - 1)=((m:Nat):Int) from by omega]
     refine Zab (xr 1 [(2, .v (.int .i64 0)),(3, .v (.bool false)),(4, .p 4 0),(6, .v (.int .u64 ((u:Nat):Int))),(7, .v (.int .i64 ((m:Nat):Int))),(38, .v (.int .u64 ((u:Nat):Int)))] [bR4 4 45 s11 A11 l11 c11 t11 B11 0 d11] ?_)
     refine Zb9 39 (.int .u64 ((u * 2 ^ 32 % W64:Nat):Int)) (by kernel_rfl) (by kernel_rfl) (by kernel_rfl) (by kernel_rfl) (by kernel_rfl) (by kernel_rfl) (fun w R Q=>Zt5 (a:=u) (n:=32) (t:=88) (x:=.tmp 38) (y:=.const (.int .u64 32)) (k:=165) (ky:=.u64) (by decide)) ?_
     refine xr 4 [(2, .v (.int .i64 0)),(3, .v (.bool false)),(4, .p 4 0),(6, .v (.int .u64 ((u:Nat):Int))),(7, .v (.int .i64 ((m:Nat):Int))),(39, .v (.int .u64 ((u * 2 ^ 32 % W64:Nat):Int))),eS1 42 A11 l11 c11,(43, .v (.int .i64 ((m:Nat):Int)))] [bR4 4 45 s11 A11 l11 c11 t11 B11 0 d11] ?_
     refine Zb9 44 (atA A11 m) (by kernel_rfl) (by kernel_rfl) (by kernel_rfl) (by kernel_rfl) (by kernel_rfl) (by kernel_rfl) (fun w R Q=>Zsd (len:=l11) (cap:=c11) (i:=m) (t:=41) (e:=166) (x:=.tmp 42) (ix:=.tmp 43) (Zup Q (by omega)) (by omega)) ?_
     refine xr 0 [(2, .v (.int .i64 0)),(3, .v (.bool false)),(4, .p 4 0),(6, .v (.int .u64 ((u:Nat):Int))),(7, .v (.int .i64 ((m:Nat):Int))),(39, .v (.int .u64 ((u * 2 ^ 32 % W64:Nat):Int))),(44, .v (atA A11 m))] [bR4 4 45 s11 A11 l11 c11 t11 B11 0 d11] ?_
     refine Zb9 45 (.int .u32 ((x:Nat):Int)) (by kernel_rfl) (by kernel_rfl) (by kernel_rfl) (by kernel_rfl) (by kernel_rfl) (by kernel_rfl) (fun w R Q=>Zuq (ty:=166) (x:=.tmp 44) Q (by omega) hx) ?_
     refine xr 1 [(2, .v (.int .i64 0)),(3, .v (.bool false)),(4, .p 4 0),(6, .v (.int .u64 ((u:Nat):Int))),(7, .v (.int .i64 ((m:Nat):Int))),(39, .v (.int .u64 ((u * 2 ^ 32 % W64:Nat):Int))),(46, .v (.int .u64 (IntKind.u64.wrap (((x:Nat):Int)))))] [bR4 4 45 s11 A11 l11 c11 t11 B11 0 d11] ?_
     rw [Zt7 hx32]
     refine Zb9 47 (.int .u64 ((u * 2 ^ 32 + x:Nat):Int)) (by kernel_rfl) (by kernel_rfl) (by kernel_rfl) (by kernel_rfl) (by kernel_rfl) (by kernel_rfl) (fun w R Q=>Zun (a:=u * 2 ^ 32 % W64) (b:=x) (t:=88) (x:=.tmp 39) (y:=.tmp 46) (k:=88) (Nat.mod_lt _ Zat) hx64 (Zur hu32 hx32)) ?_
     refine xr 1 [(2, .v (.int .i64 0)),(3, .v (.bool false)),(4, .p 4 0),(6, .v (.int .u64 ((u * 2 ^ 32 + x:Nat):Int))),(7, .v (.int .i64 ((m:Nat):Int)))] [bR4 4 45 s11 A11 l11 c11 t11 B11 0 d11] ?_
     refine xe (ZeM (Zaa (Zab (xr 2 [(2, .v (.int .i64 0)),(3, .v (.bool false)),(4, .p 4 0),(6, .v (.int .u64 ((u * 2 ^ 32 + x:Nat):Int))),(7, .v (.int .i64 ((m:Nat):Int))),(37, .v (.int .i64 (IntKind.i64.wrap (((m:Nat):Int) - 1))))] [bR4 4 45 s11 A11 l11 c11 t11 B11 0 d11] ?_))))
     rw [Zre (k:=m) (by omega)]
     refine xr 1 [(2, .v (.int .i64 0)),(3, .v (.bool false)),(4, .p 4 0),(6, .v (.int .u64 ((u * 2 ^ 32 + x:Nat):Int))),(7, .v (.int .i64 (((m:Nat):Int) - 1)))] [bR4 4 45 s11 A11 l11 c11 t11 B11 0 d11] ?_
     refine xe ?_
     refine SXq.weak [(2, .v (.int .i64 0)),(3, .v (.bool false)),(4, .p 4 0),(6, .v (.int .u64 (((u * 2 ^ 32 + x):Nat):Int))),(7, .v (.int .i64 (((m:Nat):Int) - 1)))] [(4,45,[.v (.bool s11), .v (.slice A11 l11 c11), .v (.bool t11), .v (.slice B11 0 d11)])] (Ψ:=fun w=>Zaz w (.agg #[.bool s11, .slice A11 l11 c11, .bool t11, .slice B11 0 d11]) (q)) (Zb8.of (by kernel_rfl)) (by kernel_rfl) (fun w Q=>Q) ?_
     exact Zhn ((1 + m)) (by omega) ⟨(u * 2 ^ 32 + x),m,rfl,rfl,(by omega),(Ztp hu hx),rfl⟩
    ·obtain rfl:j=0:=by have:=of_decide_eq_false hb12; omega
     refine Zlk (Zdo (Zdo (Znb (Zaa (Zac (ZbD (Zac ?_)))))))
     obtain rfl:u=q.num.natAbs:=by rw [hu,Nat.pow_zero,Nat.div_one]
     by_cases hs:q.num < 0
     ·obtain rfl:=HK.2.2.1 hs
      by_cases hb:q.num.natAbs≤9223372036854775808
      ·refine Zab (xr 6 [(2, .v (.int .i64 0)),(3, .v (.bool false)),(4, .p 4 0),(6, .v (.int .u64 ((q.num.natAbs:Nat):Int))),(52, .v (.bool true)),(54, .v (.bool (decide (((q.num.natAbs:Nat):Int)≤9223372036854775808))))] [bR4 4 45 true A11 l11 c11 t11 B11 0 d11] ?_)
       rw [decide_eq_true (show ((q.num.natAbs:Nat):Int)≤9223372036854775808 from by omega)]
       refine xr 2 [(2, .v (.int .i64 0)),(3, .v (.bool false)),(4, .p 4 0),(6, .v (.int .u64 ((q.num.natAbs:Nat):Int))),(48, .v (.bool true))] [bR4 4 45 true A11 l11 c11 t11 B11 0 d11] ?_
       refine xe (Zaa (xa (Zac (Zab (xr 3 [(2, .v (.int .i64 0)),(3, .v (.bool false)),(58, .v (.int .i64 (IntKind.i64.wrap ((IntKind.u64.wrap (0 - ((q.num.natAbs:Nat):Int)))))))] [] ?_)))))
       rw [Zt8 hb]
       refine xr 2 [(2, .v (.int .i64 (-((q.num.natAbs:Nat):Int)))),(3, .v (.bool true))] [] ?_
       refine xe (Zaa (Zan (Zcj (Zao ?_))))
       refine Zag (v:=.tuple #[.int .i64 (-((q.num.natAbs:Nat):Int)), .bool true]) (by kernel_rfl) (fun w' R Q=>?_)
       exact ⟨by rw [Zhy hr hd (by unfold ZcB; omega),show -((q.num.natAbs:Nat):Int)=q.num by omega],R⟩
      ·refine Zab (xr 6 [(2, .v (.int .i64 0)),(3, .v (.bool false)),(4, .p 4 0),(6, .v (.int .u64 ((q.num.natAbs:Nat):Int))),(52, .v (.bool true)),(54, .v (.bool (decide (((q.num.natAbs:Nat):Int)≤9223372036854775808))))] [bR4 4 45 true A11 l11 c11 t11 B11 0 d11] ?_)
       rw [decide_eq_false (show ¬ (((q.num.natAbs:Nat):Int)≤9223372036854775808) from by omega)]
       refine xr 2 [(2, .v (.int .i64 0)),(3, .v (.bool false)),(4, .p 4 0),(6, .v (.int .u64 ((q.num.natAbs:Nat):Int))),(48, .v (.bool false))] [bR4 4 45 true A11 l11 c11 t11 B11 0 d11] ?_
       refine xe (Zaa (xb (Zac (Zab (xr 9 [(2, .v (.int .i64 0)),(3, .v (.bool false)),(6, .v (.int .u64 ((q.num.natAbs:Nat):Int))),(59, .v (.bool false))] [] ?_)))))
       refine xe (Zaa (xb (ZaA (ZeM (Zaa (Zac (Zab (xr 2 [(2, .v (.int .i64 0)),(3, .v (.bool false))] [] ?_))))))))
       refine xe (Zaa (Zan ?_))
       refine Zag (v:=.tuple #[.int .i64 0, .bool false]) (by kernel_rfl) (fun w' R Q=>?_)
       exact ⟨by rw [ZiO hr (by unfold ZcB; omega)],R⟩
     ·obtain rfl:=HK.2.2.2 hs
      by_cases hb:q.num.natAbs < 9223372036854775808
      ·refine Zab (xr 8 [(2, .v (.int .i64 0)),(3, .v (.bool false)),(4, .p 4 0),(6, .v (.int .u64 ((q.num.natAbs:Nat):Int))),(48, .v (.bool false))] [bR4 4 45 false A11 l11 c11 t11 B11 0 d11] ?_)
       refine xe (Zaa (xb (Zac (Zab (xr 7 [(2, .v (.int .i64 0)),(3, .v (.bool false)),(6, .v (.int .u64 ((q.num.natAbs:Nat):Int))),(64, .v (.bool true)),(66, .v (.bool (decide (((q.num.natAbs:Nat):Int) < 9223372036854775808))))] [] ?_)))))
       rw [decide_eq_true (show ((q.num.natAbs:Nat):Int) < 9223372036854775808 from by omega)]
       refine xr 2 [(2, .v (.int .i64 0)),(3, .v (.bool false)),(6, .v (.int .u64 ((q.num.natAbs:Nat):Int))),(59, .v (.bool true))] [] ?_
       refine xe (Zaa (xa (Zac (Zab (xr 2 [(2, .v (.int .i64 0)),(3, .v (.bool false)),(69, .v (.int .i64 (IntKind.i64.wrap (((q.num.natAbs:Nat):Int)))))] [] ?_)))))
       rw [Zt9 hb]
       refine xr 2 [(2, .v (.int .i64 ((q.num.natAbs:Nat):Int))),(3, .v (.bool true))] [] ?_
       refine xe (Zaa (Zan (Zcj (Zao ?_))))
       refine Zag (v:=.tuple #[.int .i64 ((q.num.natAbs:Nat):Int), .bool true]) (by kernel_rfl) (fun w' R Q=>?_)
       exact ⟨by rw [Zhy hr hd (by unfold ZcB; omega),show ((q.num.natAbs:Nat):Int)=q.num by omega],R⟩
      ·refine Zab (xr 8 [(2, .v (.int .i64 0)),(3, .v (.bool false)),(4, .p 4 0),(6, .v (.int .u64 ((q.num.natAbs:Nat):Int))),(48, .v (.bool false))] [bR4 4 45 false A11 l11 c11 t11 B11 0 d11] ?_)
       refine xe (Zaa (xb (Zac (Zab (xr 7 [(2, .v (.int .i64 0)),(3, .v (.bool false)),(6, .v (.int .u64 ((q.num.natAbs:Nat):Int))),(64, .v (.bool true)),(66, .v (.bool (decide (((q.num.natAbs:Nat):Int) < 9223372036854775808))))] [] ?_)))))
       rw [decide_eq_false (show ¬ (((q.num.natAbs:Nat):Int) < 9223372036854775808) from by omega)]
       refine xr 2 [(2, .v (.int .i64 0)),(3, .v (.bool false)),(6, .v (.int .u64 ((q.num.natAbs:Nat):Int))),(59, .v (.bool false))] [] ?_
       refine xe (Zaa (xb (ZaA (ZeM (Zaa (Zac (Zab (xr 2 [(2, .v (.int .i64 0)),(3, .v (.bool false))] [] ?_))))))))
       refine xe (Zaa (Zan ?_))
       refine Zag (v:=.tuple #[.int .i64 0, .bool false]) (by kernel_rfl) (fun w' R Q=>?_)
       exact ⟨by rw [ZiO hr (by unfold ZcB; omega)],R⟩
   ·refine Zab (xr 15 [(2, .v (.int .i64 0)),(3, .v (.bool false)),(4, .p 4 0),(22, .v (.bool false)),(27, .v (.bool (decide (((l11:Nat):Int) > 2))))] [bR4 4 45 s11 A11 l11 c11 t11 B11 0 d11] ?_)
    rw [Zts hl]
    refine xr 1 [(2, .v (.int .i64 0)),(3, .v (.bool false)),(4, .p 4 0),(28, .v (.bool true))] [bR4 4 45 s11 A11 l11 c11 t11 B11 0 d11] ?_
    refine xe (Zaa (xa (Zac (Zab (xr 2 [(2, .v (.int .i64 0)),(3, .v (.bool false)),(4, .p 4 0)] [bR4 4 45 s11 A11 l11 c11 t11 B11 0 d11] ?_)))))
    refine xe (Zaa (Zan (Zao ?_)))
    refine Zag (v:=.tuple #[.int .i64 0, .bool false]) (by kernel_rfl) (fun w' R Q=>?_)
    exact ⟨by rw [ZiO hr (Ztt (by rw [← HK.2.1]; exact hl))],R⟩
  ·obtain ⟨k13,rfl⟩:∃ k,m11=k + 1:=⟨m11 - 1,by have:=HK.1.2 hd; omega⟩
   refine Zab (xr 8 [(2, .v (.int .i64 0)),(3, .v (.bool false)),(4, .p 4 0),(15, .v (.bool false)),(20, .v (.bool (decide (((k13 + 1:Nat):Int) > 0))))] [bR4 4 45 s11 A11 l11 c11 t11 B11 (k13 + 1) d11] ?_)
   rw [Zua k13]
   refine xr 8 [(2, .v (.int .i64 0)),(3, .v (.bool false)),(4, .p 4 0),(28, .v (.bool true))] [bR4 4 45 s11 A11 l11 c11 t11 B11 (k13 + 1) d11] ?_
   refine xe (Zaa (xa (Zac (Zab (xr 2 [(2, .v (.int .i64 0)),(3, .v (.bool false)),(4, .p 4 0)] [bR4 4 45 s11 A11 l11 c11 t11 B11 (k13 + 1) d11] ?_)))))
   refine xe (Zaa (Zan (Zao ?_)))
   refine Zag (v:=.tuple #[.int .i64 0, .bool false]) (by kernel_rfl) (fun w' R Q=>?_)
   exact ⟨by rw [ZnP hr hd],R⟩
end Go.Proofs.YthlipnahcbcjkaaGreatDoor
