/-
 My texts Nsh, Nss put together.
-/
import Derived.Test.YthlipnahcbcjkaaGreatDoorM16
import Derived.Test.YthlipnahcbcjkaaGreatDoorM19
set_option maxRecDepth 100000
namespace Go.Proofs.YthlipnahcbcjkaaGreatDoor
open Go.RowKit
def RowD (w:World) (v:Value) (m:Nat):Prop:=∃ xs,Zdf w v xs∧Dig W32 xs∧val W32 xs=m
theorem RowD.nrb {S:Nat→Prop} {w w':World} {v:Value} {m:Nat} (h:RowD w v m) (hS:∀ i,S i→NRB w i) (hF:Fr S w w'):RowD w' v m:=by
 obtain ⟨xs,h1,h2⟩:=h
 exact ⟨xs,h1.nrb hS hF,h2⟩
theorem Zr3 {w w':World} {e:Ending} {m:Nat} (h:Zeg w m e w'):Zby Zbz (fun x w=>Zas w (Zbz x) m) w e w':=by
 obtain ⟨v,rfl,hI,Q⟩:=h
 obtain ⟨A,xs,c,rfl,h⟩:=hI
 exact ⟨(A,xs.length,c),rfl,Q,boxn Q (fun S w'' hS hF=>Zas.nrb (u:=.slice A xs.length c) ⟨A,xs,c,rfl,h⟩ hS hF)⟩
theorem ZqT {A:Option Addr} {l c m s:Nat} (w:World) (h:Zas w (.slice A l c) m) (hl:l≤1048576) (hs:s≤31) :
 Calls Tryz.prog 227 #[.slice A l c, .int .u64 (s:Int)] w (Zby (fun b:Nat=>.slice (some ⟨b,0,none⟩) (l + 1) (l + 1)) (fun b w=>RowD w (.slice (some ⟨b,0,none⟩) (l + 1) (l + 1)) (m * 2 ^ s)) w):=by
 obtain ⟨xs,hR,hd,_,hv⟩:=h.row
 obtain ⟨x1,x2,x3⟩:=hR.shows
 refine (Zin A xs l c s w x1 x3 (by omega) hd hs).mono ?_
 rintro e w' ⟨us,rfl,hu,hO,hD,hV,Q⟩
 refine ⟨w.heap.size,rfl,Q,boxn Q (fun S w'' hS hF=>RowD.nrb ⟨us,?_,hD,by rw [hV,hv]⟩ hS hF)⟩
 have:=hO.row (c:=l + 1) (by omega)
 rw [hu] at this; exact this
theorem ZjP {P:Program} {o:Oper} {ρ:Operand→Value} {w:World} {x y:Operand} {t e:TypeId} (ho:o.op=.call { callee:=.builtin .append,args:=#[x,y],argTypes:=#[t,t] }) (ht:P.underlying t=some (.slice e))
 (hinfo:(P.info? e).map (fun i=>(i.zero,i.size,i.bytes))=some (some (.int .u32 0),1,4)) {b:Addr} {A:Option Addr} {n k cap c m:Nat} (hx:ρ x=.slice (some b) n cap) (hy:ρ y=.slice A k c)
 (hB:Zdf w (.slice (some b) n cap) (List.replicate n 0)) (hX:RowD w (.slice A k c) m) (hg:cap < n + k) (h:n + k≤35184372088832) :
 Does P o ρ w (DoR (fun z:Option Addr × Nat=>.slice z.1 (n + k) z.2) (fun z w=>RowD w (.slice z.1 (n + k) z.2) (W32 ^ n * m)) w):=by
 obtain ⟨ys,hY,hd,hv⟩:=hX
 have key:∀ {w:World} {z:ShN},z.2.1=n + k→Zdf w (Zbz z) (List.replicate n 0 ++ ys)→RowD w (.slice z.1 (n + k) z.2.2) (W32 ^ n * m):=fun {w z} e hR =>
  ⟨_,by rw [← e]; exact hR,(Dig.replicate Zax n).append hd,by rw [Za6,ZbO,List.length_replicate,hv,Nat.zero_add]⟩
 have len:∀ {w:World} {z:ShN},Zdf w (Zbz z) (List.replicate n 0 ++ ys)→z.2.1=n + k:=fun {w z} hR=>by
  have h1:=hR.shows.1
  have h2:=hY.shows.1
  simp at h1; omega
 rcases Zmo ho ht hinfo hx hy hB hY hg h with ⟨v,w',hr,z,rfl,Q,hb⟩ | ⟨f,args,w1,hr,hc⟩
 ·have e:=len (hb (fun _=>False) (fun _ f=>f.elim) w' (Fr.refl _ _))
  exact Or.inl ⟨_,w',hr,(z.1,z.2.2),by simp [Zbz,e],Q,fun S hS w'' hf=>key e (hb S hS w'' hf)⟩
 ·exact Or.inr ⟨f,args,w1,hr,hc.mono (fun e' w' h=>by
   obtain ⟨v,rfl,z,rfl,Q,hb⟩:=h
   have e:=len (hb (fun _=>False) (fun _ f=>f.elim) w' (Fr.refl _ _))
   exact ⟨_,rfl,(z.1,z.2.2),by simp [Zbz,e],Q,fun S hS w'' hf=>key e (hb S hS w'' hf)⟩)⟩
theorem ZqU {A:Option Addr} {l c m:Nat} (w:World) (h:RowD w (.slice A l c) m) (hl:l≤1099511627776):Calls Tryz.prog 180 #[.slice A l c] w (Zeg w m):=by
 obtain ⟨xs,hR,hd,hv⟩:=h
 obtain ⟨x1,x2,x3⟩:=hR.shows
 refine (Zbl A xs l c w x1 x3 x2 (by omega)).mono ?_
 rintro e w' ⟨rfl,rfl⟩
 exact ⟨_,rfl,⟨A,ZaY xs,c,by rw [ZaZ],by rw [ZaZ]; exact Nat.le_trans (Zcy _ _) x2,x3.take _,Zcc hd,Zce xs,by rw [Za9,hv]⟩,Fr.refl _ _⟩
theorem Zr4 {w:World} {s:Bool} {A:Option Addr} {l c k:Nat} {z:Int} (h:Zap w (.agg #[.bool s, .slice A l c]) z):sg s (W32 ^ (k / 32) * (z.natAbs * 2 ^ (k % 32)))=z * 2 ^ k:=by
 obtain ⟨_,h2,_⟩:=h.opn
 have e:W32 ^ (k / 32) * (z.natAbs * 2 ^ (k % 32))=z.natAbs * 2 ^ k:=by
  rw [Zaw,show (4294967296:Nat)=2 ^ 32 from rfl,← Nat.pow_mul,Nat.mul_left_comm,← Nat.pow_add,Nat.div_add_mod]
 rw [e]
 have h3:(z.natAbs:Int)=z∧s=false∨(z.natAbs:Int) = -z∧s=true:=by
  cases s<;>simp [sg] at h2 ⊢<;>omega
 rcases h3 with ⟨h4,rfl⟩ | ⟨h4,rfl⟩
 ·simp only [sg,if_false,Bool.false_eq_true,Int.natCast_mul,h4,Int.natCast_pow]; rfl
 ·simp only [sg,if_true,Int.natCast_mul,h4,Int.natCast_pow]; rw [Int.neg_mul,Int.neg_neg]; rfl
theorem Zuk {k:Nat} (hk:k≤1099511627776):IntKind.i64.wrap ((k:Int).tdiv 32)=((k / 32:Nat):Int):=by
 rw [Int.tdiv_eq_ediv_of_nonneg (by omega),IntWalk.i64_in _ (by omega)]; omega
theorem Zul {k:Nat}:(k:Int).tmod 32=((k % 32:Nat):Int):=by
 rw [Int.tmod_eq_emod_of_nonneg (by omega)]; omega
theorem Zt1 {k:Nat}:IntKind.u64.wrap ((k % 32:Nat):Int)=((k % 32:Nat):Int):=by
 rw [IntKind.wrap_u64]; omega
theorem ZqV (a:Value) (x:Int) (k:Nat) (w:World) (ha:Zap w a x) (hx:ZaT x) (hk:k≤1099511627776) :
 Calls Tryz.prog 157 #[a, .int .i64 (k:Int)] w (Za1 w (x * 2 ^ k)):=by
 obtain ⟨s0,A0,l0,c0,rfl⟩:=ha.shp
 have hl:l0≤1048576:=by obtain ⟨xs,hR,hd,ht,hv⟩:=ha.mag.row; have h1:=hR.shows.1; have h2:=ZbI hd ht; rw [hv] at h2; unfold ZaT at hx; omega
 have hk0:decide ((k:Int) ≥ 0)=true:=decide_eq_true (by omega)
 refine ZaB (Φ:=fun w=>Zap w (.agg #[.bool s0, .slice A0 l0 c0]) (x)) Tryz.func157 rfl (by kernel_rfl) (fun w' hf=>ha.ext hf) ?_
 refine Zac (Zab (xr 2 [(1, .v (.int .i64 (k:Int))),(2, .p 2 0),(4, .p 4 0)] [bI2 4 43 false none 0 0,bI2 2 43 s0 A0 l0 c0] ?_))
 refine xe (Zaa (Zac (Zac (Zab (xr 2 [(1, .v (.int .i64 (k:Int))),(2, .p 2 0),(4, .p 4 0),(11, .v (.bool (decide ((k:Int) ≥ 0))))] [bI2 4 43 false none 0 0,bI2 2 43 s0 A0 l0 c0] ?_)))))
 rw [hk0]
 refine xr 0 [(1, .v (.int .i64 (k:Int))),(2, .p 2 0),(4, .p 4 0),(11, .v (.bool true))] [bI2 4 43 false none 0 0,bI2 2 43 s0 A0 l0 c0] ?_
 refine xe (Zaa (xa (Zac (Zab (xr 2 [(1, .v (.int .i64 (k:Int))),(2, .p 2 0),(4, .p 4 0),(13, .v (.int .i64 (IntKind.i64.wrap (((k:Int)).tdiv 32))))] [bI2 4 43 false none 0 0,bI2 2 43 s0 A0 l0 c0] ?_)))))
 rw [Zuk hk]
 refine ZgJ (d:=14) (fun b:Nat=>.slice (some ⟨b,0,none⟩) (k / 32) (k / 32)) (fun b w=>Zdf w (.slice (some ⟨b,0,none⟩) (k / 32) (k / 32)) (List.replicate (k / 32) 0)) (by kernel_rfl) (by kernel_rfl) (by kernel_rfl) (by kernel_rfl) (by kernel_rfl) (by kernel_rfl) (fun w R Q=>Zol (l:=.tmp 13) (c:=.tmp 13) (kl:=.i64) (kc:=.i64) (by kernel_rfl) Tryz.underlying41 ZdB (by kernel_rfl) (by kernel_rfl) (by omega)) (fun b10=>?_)
 refine xr 1 [(1, .v (.int .i64 (k:Int))),(2, .p 2 0),(4, .p 4 0),eS1 5 (some ⟨b10,0,none⟩) (k / 32) (k / 32)] [bI2 4 43 false none 0 0,bI2 2 43 s0 A0 l0 c0] ?_
 refine xe (Zaa (Zac ?_))
 refine ZaE 13 (by kernel_rfl) (by kernel_rfl) Zaj ?_
 refine xf 7 [(1, .v (.int .i64 (k:Int))),(2, .p 2 0),(4, .p 4 0),(16, .v (.bool s0)),eS1 17 (some ⟨b10,0,none⟩) (k / 32) (k / 32),eS1 19 A0 l0 c0,(21, .v (.int .i64 (((k:Int)).tmod 32)))] [bI2 4 43 false none 0 0,bI2 2 43 s0 A0 l0 c0] ?_
 rw [Zul]
 refine xf 1 [(1, .v (.int .i64 (k:Int))),(2, .p 2 0),(4, .p 4 0),(16, .v (.bool s0)),eS1 17 (some ⟨b10,0,none⟩) (k / 32) (k / 32),eS1 19 A0 l0 c0,(22, .v (.int .u64 (IntKind.u64.wrap (((k % 32:Nat):Int)))))] [bI2 4 43 false none 0 0,bI2 2 43 s0 A0 l0 c0] ?_
 rw [Zt1]
 refine xd 227 [.slice A0 l0 c0, .int .u64 ((k % 32:Nat):Int)] 23 (fun b:Nat=>.slice (some ⟨b,0,none⟩) (l0 + 1) (l0 + 1)) _ (fun w R Q=>ZqT (s:=k % 32) _ Q.1.mag hl (by omega)) (fun b11=>?_)
 refine xf 0 [(1, .v (.int .i64 (k:Int))),(2, .p 2 0),(4, .p 4 0),(16, .v (.bool s0)),eS1 17 (some ⟨b10,0,none⟩) (k / 32) (k / 32),eS1 23 (some ⟨b11,0,none⟩) (l0 + 1) (l0 + 1)] [bI2 4 43 false none 0 0,bI2 2 43 s0 A0 l0 c0] ?_
 refine ZsV 24 (fun z:Option Addr × Nat=>.slice z.1 (k / 32 + (l0 + 1)) z.2) (fun z w=>RowD w (.slice z.1 (k / 32 + (l0 + 1)) z.2) (W32 ^ (k / 32) * ((x).natAbs * 2 ^ (k % 32)))) (by kernel_rfl) (by kernel_rfl) (by kernel_rfl) (by kernel_rfl) (by kernel_rfl) (by kernel_rfl) (by kernel_rfl) (fun w R Q=>ZjP (x:=.tmp 17) (y:=.tmp 23) (by kernel_rfl) Tryz.underlying41 ZdB (by kernel_rfl) (by kernel_rfl) Q.1.2 Q.2 (by omega) (by omega)) (fun xx=>?_)
 obtain ⟨A12,c12⟩:=xx
 refine xf 0 [(1, .v (.int .i64 (k:Int))),(2, .p 2 0),(4, .p 4 0),(16, .v (.bool s0)),(24, .v (.slice A12 (k / 32 + (l0 + 1)) c12))] [bI2 4 43 false none 0 0,bI2 2 43 s0 A0 l0 c0] ?_
 refine xd 180 [.slice A12 (k / 32 + (l0 + 1)) c12] 25 Zbz _ (fun w R Q=>(ZqU _ Q.2 (by omega)).mono (fun _ _=>Zr3)) (fun xx=>?_)
 obtain ⟨A13,l13,c13⟩:=xx
 refine xf 0 [(1, .v (.int .i64 (k:Int))),(2, .p 2 0),(4, .p 4 0),(16, .v (.bool s0)),eS1 25 A13 l13 c13] [bI2 4 43 false none 0 0,bI2 2 43 s0 A0 l0 c0] ?_
 refine xd 162 [.bool s0, .slice A13 l13 c13] 26 Zam _ (fun w R Q=>(ZdV _ _ (W32 ^ (k / 32) * ((x).natAbs * 2 ^ (k % 32))) _ Q.2).mono (fun _ _ h=>ZaK (by rw [Zr4 Q.1.1.1.1] at h; exact h))) (fun xx=>?_)
 obtain ⟨s14,A14,l14,c14⟩:=xx
 refine xf 1 [(1, .v (.int .i64 (k:Int))),(2, .p 2 0),(4, .p 4 0)] [bI2 4 43 s14 A14 l14 c14,bI2 4 43 false none 0 0,bI2 2 43 s0 A0 l0 c0] ?_
 refine xz (xe (Zaa (Zan (Zao ?_))))
 refine Zag (v:=.agg #[.bool s14, .slice A14 l14 c14]) (by kernel_rfl) (fun w' R Q=>?_)
 exact ⟨_,rfl,Q.2,R⟩
end Go.Proofs.YthlipnahcbcjkaaGreatDoor

namespace Go.Proofs.YthlipnahcbcjkaaGreatDoor
open Go.RowKit
theorem Zar.cellAt {k:IntKind} {w:World} {b o:Nat} {xs:List Nat} (h:Zar k w (some ⟨b,o,none⟩) xs) {i:Nat} (hi:i < xs.length):w.cell? ⟨b,o + i,none⟩=some (.int k ((xs[i]?.getD 0:Nat):Int)):=by
 obtain ⟨b',o',e,_,h1⟩:=h.at hi
 injection e with e
 injection e with e1 e2
 rw [e1,e2]; exact h1
theorem Zt2 {x:Nat}:((x / 2:Nat):Int)=sg false (x / 2):=by simp [sg]
set_option maxHeartbeats 4000000 in
theorem Zr5 (a:Value) (x:Nat) (z:Int) (w:World) (ha:Zap w a (x:Int)) (hx:ZaT (x:Int)) (h0:0 < x) (hz:z=sg false (x / 2)):Calls Tryz.prog 157 #[a, .int .i64 (-1)] w (Za1 w z):=by
 obtain ⟨s0,A,l,c,rfl,hN,hz1,hs0⟩:=ha.open
 obtain rfl:=ha.spos (by omega)
 rw [Int.natAbs_natCast] at hN
 obtain ⟨A',xs,c',he,hc,hS,hd,ht,hv⟩:=hN
 injection he with e1 e2 e3
 subst e1 e2 e3
 have hml:=ZbI hd ht
 rw [hv] at hml
 have hl:xs.length≤1048576:=by unfold ZaT at hx; rw [Int.natAbs_natCast] at hx; omega
 have hl0:0 < xs.length:=by have:=Zh9 h0; omega
 obtain ⟨b,o,rfl,hb,_⟩:=hS.at hl0
 obtain ⟨s,hs⟩:∃ s:Nat,s=1:=⟨1,rfl⟩
 have HZ:Hid (z=sg false (val W32 xs / 2 ^ s)):=by rw [hs,hv]; exact hz
 have HS1:=zh hs
 have HS:=zh hS
 have Hd:=zh hd
 have HB:=zh hb
 clear hS hd ht hv hml hz hz1 hs0 ha hx hc hb hs h0
 obtain ⟨L,eL⟩:∃ L,xs.length=L:=⟨_,rfl⟩
 rw [eL] at hl hl0 ⊢
 have HL:=zh eL
 clear eL
 have hll:decide ((0:Int) ≥ (L:Int))=false:=by rw [decide_eq_false_iff_not]; omega
 have hll':¬ ((L:Int)≤0):=by omega
 go_enter Tryz.func157,Tryz.ntmps157
 go_wp2_with (at_make
              generalize hwb:World.alloc (World.alloc w _) _=wb
              obtain ⟨hBx,hBr,Q⟩:=Zfq hwb
              have HBx:=zh hBx
              have HBr:=zh hBr
              have HE:=zh Q
              have HSz:Hid (wb.heap.size=w.heap.size + 1 + 1):=by subst hwb; unfold Hid; simp
              clear hwb hBx hBr Q
              refine ZaN rfl _ _ _ rfl _ _ _ Tryz.underlying41 ZdB _ _ _ _ L rfl rfl (by omega) (by omega) (by omega) (by omega) ?_
              intro R w4 hR hO4 _ hF4 hs4
              have HO4:=zh hO4
              have HF4:=zh (HE.out.trans hF4)
              have HBx4:=zh (HBx.out.ext hF4)
              have HBr4:=zh (HBr.out.ext hF4)
              have HR:=zh hR
              clear hO4 hF4 hR hs4)
 have HRw:Hid (w.heap.size + 2≤R):=by have:=HR.out; have:=HSz.out; unfold Hid; omega
 have HX:Hid (∀ wz,Fr (· = R) w4 wz→Ext w wz):=fun wz h=>HF4.out.next h (fun i hi e=>by have:=HRw.out; have e:i=R:=e; omega)
 have HShr:Hid (Zca xs s 0 (List.replicate L 0)):=by have:=Zca.start xs s; rw [HL.out] at this; exact this
 have e7:(Value.int .u64 1)=.int .u64 (s:Int):=by rw [HS1.out]; rfl
 rw [e7]
 clear e7
 go_loopw [9] (fun iv wr=>∃ (k:Nat) (zs:List Nat),k≤L∧iv=.int .i64 (k:Int)∧Hid (Zca xs s k zs)∧Hid (Own .u32 166 wr R zs)∧Hid (Fr (· = R) w4 wr)) (fun iv _=>L - (intOf iv).toNat)
 case atStart=>exact ⟨0,_,by omega,rfl,HShr,HO4,Fr.refl _ _⟩
 case round =>
  obtain ⟨k,zs,hkl,rfl,hR,hO5,hF5⟩:=hrel
  clear HShr HO4
  have hs:s≤31:=by have:=HS1.out; omega
  have hel:=HL.out
  have hzl:zs.length=xs.length:=hR.out.1
  by_cases hlt2:k < L
  ·obtain ⟨x,ex⟩:∃ x,xs[k]?.getD 0=x:=⟨_,rfl⟩
   have hx32:x < W32:=ex ▸ Hd.out.getD Zax _
   have hkL:k < zs.length:=by omega
   have hc1:=(HS.out.ext (HX.out _ hF5.out)).cellAt (i:=k) (by omega)
   rw [ex] at hc1
   have hc0:=hO5.out.cell hkL
   have hf1:=hO5.out.frozen k
   have q3:=Zgz x s
   by_cases hlast:k + 1 < L
   ·obtain ⟨y,ey⟩:∃ y,xs[k + 1]?.getD 0=y:=⟨_,rfl⟩
    have hy32:y < W32:=ey ▸ Hd.out.getD Zax _
    have HS2:=zh (hR.out.step hs (by omega) ex ey hx32)
    have q1:=Zim hy32 (by omega:32 - s≤32)
    have q1':=ZbY (y * 2 ^ (32 - s))
    have q2:=ZnA (a:=x / 2 ^ s) (b:=y * 2 ^ (32 - s) % W32) (Nat.lt_of_le_of_lt (Nat.div_le_self _ _) hx32) (Nat.mod_lt _ Zax)
    rw [Zny hs hx32] at q2
    obtain ⟨lo,elo⟩:∃ lo,x / 2 ^ s=lo:=⟨_,rfl⟩
    obtain ⟨hi,ehi⟩:∃ hi,y * 2 ^ (32 - s) % W32=hi:=⟨_,rfl⟩
    obtain ⟨yy,eyy⟩:∃ yy,y * 2 ^ (32 - s)=yy:=⟨_,rfl⟩
    obtain ⟨d,ed⟩:∃ d,x / 2 ^ s + y % 2 ^ s * 2 ^ (32 - s)=d:=⟨_,rfl⟩
    rw [ed] at q2 HS2
    rw [elo] at q2 q3
    rw [ehi] at q1' q2
    rw [eyy] at q1 q1'
    have hO6:=hO5.out.set k lo hkL
    have hf3:=hO6.frozen k
    have hc3:=hO6.cell (i:=k) (by simpa using hkL)
    rw [List.getElem?_set_self hkL,Option.getD_some] at hc3
    have hc4:=(HS.out.ext (HX.out _ (hF5.out.setCell (p:=⟨R,k,none⟩) (Or.inl rfl) (.int .u32 (lo:Int))))).cellAt (i:=k + 1) (by omega)
    rw [ey] at hc4
    have hO7:=hO6.set k d (by simpa using hkL)
    rw [List.set_set] at hO7
    have HO7:=zh hO7
    have q0:=ZaV y (by have:=Zai; have:=Zaw; omega)
    have i1:IntKind.u64.wrap ((32:Int) - (s:Int))=((32 - s:Nat):Int):=by rw [IntKind.wrap_u64]; omega
    obtain ⟨r,er⟩:∃ r,32 - s=r:=⟨_,rfl⟩
    rw [er] at i1 q1
    have i4:min r 64=r:=by omega
    have i2:IntKind.i64.wrap ((k:Int) + 1)=(k:Int) + 1:=IntWalk.i64_in _ (by omega)
    have i3:((k:Int) + 1).toNat=k + 1:=by omega
    have hF7:Hid (∀ n,Fr (· = R) w4 (((wr.setCell ⟨R,k,none⟩ (.int .u32 (lo:Int))).drewN n).setCell ⟨R,k,none⟩ (.int .u32 (d:Int)))):=fun n=>((hF5.out.setCell (p:=⟨R,k,none⟩) (Or.inl rfl) _).drewN _).setCell (p:=⟨R,k,none⟩) (Or.inl rfl) _
    clear ex hx32 hkL ey hy32 elo ehi eyy ed hO6 hO7 er
    have hkI:(k:Int) + 1 < (L:Int):=by omega
    go_wp2
    go_region
    all_goals
     go_wp2
     go_roundw
     case rel=>exact ⟨k + 1,_,by omega,by go_num,HS2,HO7.out.drewN _,hF7.out _⟩
     case measure=>simp [intOf]; omega
   ·have HS2:=zh (hR.out.step hs (by omega) ex (show xs[k + 1]?.getD 0=0 by rw [List.getElem?_eq_none (by omega)]; rfl) hx32)
    have e0:x / 2 ^ s + 0 % 2 ^ s * 2 ^ (32 - s)=x / 2 ^ s:=by simp
    rw [e0] at HS2
    obtain ⟨lo,elo⟩:∃ lo,x / 2 ^ s=lo:=⟨_,rfl⟩
    rw [elo] at HS2 q3
    have hO6:=hO5.out.set k lo hkL
    have HO6:=zh hO6
    have hF7:Hid (Fr (· = R) w4 (wr.setCell ⟨R,k,none⟩ (.int .u32 (lo:Int)))):=hF5.out.setCell (p:=⟨R,k,none⟩) (Or.inl rfl) _
    have hkI:¬ ((k:Int) + 1 < (L:Int)):=by omega
    have hkB:decide ((k:Int) + 1 < (L:Int))=false:=by rw [decide_eq_false_iff_not]; omega
    clear ex hx32 hkL e0 elo hO6
    go_wp2
    go_roundw
    case rel=>exact ⟨k + 1,_,by omega,by go_num,HS2,HO6.out,hF7.out⟩
    case measure=>simp [intOf]; omega
  ·obtain rfl:k=L:=by omega
   have hzd:=hR.out
   rw [← HL.out] at hzd
   replace hzd:=hzd.done
   have NR:=Zas.of_own (c:=k) hO5.out hR.out.2.1 (by omega)
   rw [hzd] at NR
   have HT0:=fun wz (hO:Own .u32 166 wz R zs)=>Zbl (some ⟨R,0,none⟩) zs k k wz (by omega) hO.shows0 (by omega) (by omega)
   obtain ⟨tl,etl⟩:∃ tl,Zbd zs zs.length=tl:=⟨_,rfl⟩
   rw [etl] at NR
   simp only [etl] at HT0
   have HT:=zh HT0
   have HNR:=zh NR
   clear etl HT0
   have HFE:=zh (HX.out _ hF5.out)
   have hkI:¬ ((k:Int) < (k:Int)):=by omega
   have HBx5:Hid (Blk 43 wr w.heap.size _):=HBx4.out.fr hF5.out (by have:=HRw.out; omega)
   have HBr5:Hid (Blk 43 wr (w.heap.size + 1) _):=HBr4.out.fr hF5.out (by have:=HRw.out; omega)
   clear hzd NR hR
   go_wp2
   refine Zgs 5 (fun W'=>Blk 43 W' w.heap.size #[.bool false, .slice (some ⟨b,o,none⟩) k c]∧Blk 43 W' (w.heap.size + 1) #[.bool false, .slice none 0 0]) Zaj ?_
   have B3:=HBx5.out.ext (Fr.refl _ _).drew
   have B4:=HBr5.out.ext (Fr.refl _ _).drew
   have hO7:=hO5.out.drew
   have MN:=HNR.out.ext (Fr.refl _ _).drew
   have Q:=HFE.out.drew
   clear HBx5 HBr5 hO5 HNR HFE hF5
   generalize wr.drew=w20 at *
   have hS:=(⟨B3,B4⟩:(fun W'=>Blk 43 W' w.heap.size #[.bool false, .slice (some ⟨b,o,none⟩) k c]∧Blk 43 W' (w.heap.size + 1) #[.bool false, .slice none 0 0]) w20)
   refine ZbZ 0 rfl (by kernel_rfl) (fun _ _ _ h=>h) hS (fun _=>Zfu (g:=w.heap.size) (off:=0) rfl rfl (by kernel_rfl)) (fun hS=>?_)
   refine ZbZ 1 rfl (by kernel_rfl) (fun _ _ _ h=>h) hS (fun _=>ZiG (g:=w.heap.size) (off:=0) (x:=.bool false) rfl rfl (by kernel_rfl) (fun _ h=>Blk.one' (h.1) 0 rfl)) (fun hS=>?_)
   refine ZbZ 2 rfl (by kernel_rfl) (fun _ _ _ h=>h) hS (fun _=>ym (v:=.slice (some ⟨R,0,none⟩) k k) rfl rfl (by kernel_rfl)) (fun hS=>?_)
   refine Ze1 3 rfl (by kernel_rfl) rfl (fun K hK=>?_)
   go_simp
   clear hS
   refine (HT.out _ hO7).mono ?_
   rintro e w1 ⟨rfl,rfl⟩
   refine hK _ _ (⟨B3,B4⟩:(fun W'=>Blk 43 W' w.heap.size #[.bool false, .slice (some ⟨b,o,none⟩) k c]∧Blk 43 W' (w.heap.size + 1) #[.bool false, .slice none 0 0]) _) ?_
   clear hK
   refine Ze1 4 rfl (by kernel_rfl) rfl (fun K hK=>?_)
   go_simp
   refine (ZbL _ _ _ _ MN).mono ?_
   rintro e w2 ⟨s2,rfl,hs2,hF2⟩
   refine hK _ _ (⟨B3.ext hF2,B4.ext hF2⟩:(fun W'=>Blk 43 W' w.heap.size #[.bool false, .slice (some ⟨b,o,none⟩) k c]∧Blk 43 W' (w.heap.size + 1) #[.bool false, .slice none 0 0]) _) ?_
   clear hK
   refine Zjz (l:=[_]) 5 rfl (by kernel_rfl) ?_
   obtain ⟨z0,z1,z2,z3⟩:=(B4.ext hF2).cell2
   go_wp2
   exact ZcH rfl rfl (by omega) Q B4 hF2 (MN.ext hF2) hs2.out HZ.out
end Go.Proofs.YthlipnahcbcjkaaGreatDoor
