/-
 My texts Nsh put together.
-/
import Derived.Test.YtklpdkpcocnglaaGreatDoorY16
set_option maxRecDepth 100000
namespace Go.Proofs.YtklpdkpcocnglaaGreatDoor
open Go.RowKit
def RowD (w:World) (v:Value) (m:Nat):Prop:=∃ xs,Zc0 w v xs∧Dig W32 xs∧val W32 xs=m
theorem RowD.nrb {S:Nat→Prop} {w w':World} {v:Value} {m:Nat} (h:RowD w v m) (hS:∀ i,S i→NRB w i) (hF:Fr S w w'):RowD w' v m:=by
 obtain ⟨xs,h1,h2⟩:=h
 exact ⟨xs,h1.nrb hS hF,h2⟩
theorem Zsv {w w':World} {e:Ending} {m:Nat} (h:Zed w m e w'):Zbx Za3 (fun x w=>Zar w (Za3 x) m) w e w':=by
 obtain ⟨v,rfl,hI,Q⟩:=h
 obtain ⟨A,xs,c,rfl,h⟩:=hI
 exact ⟨(A,xs.length,c),rfl,Q,boxn Q (fun S w'' hS hF=>Zar.nrb (u:=.slice A xs.length c) ⟨A,xs,c,rfl,h⟩ hS hF)⟩
theorem ZrF {A:Option Addr} {l c m s:Nat} (w:World) (h:Zar w (.slice A l c) m) (hl:l≤1048576) (hs:s≤31) :
 Calls Tryz.prog 72 #[.slice A l c, .int .u64 (s:Int)] w (Zbx (fun b:Nat=>.slice (some ⟨b,0,none⟩) (l + 1) (l + 1)) (fun b w=>RowD w (.slice (some ⟨b,0,none⟩) (l + 1) (l + 1)) (m * 2 ^ s)) w):=by
 obtain ⟨xs,hR,hd,_,hv⟩:=h.row
 obtain ⟨x1,x2,x3⟩:=hR.shows
 refine (Zih A xs l c s w x1 x3 (by omega) hd hs).mono ?_
 rintro e w' ⟨us,rfl,hu,hO,hD,hV,Q⟩
 refine ⟨w.heap.size,rfl,Q,boxn Q (fun S w'' hS hF=>RowD.nrb ⟨us,?_,hD,by rw [hV,hv]⟩ hS hF)⟩
 have:=hO.row (c:=l + 1) (by omega)
 rw [hu] at this; exact this
theorem ZjT {P:Program} {o:Oper} {ρ:Operand→Value} {w:World} {x y:Operand} {t e:TypeId} (ho:o.op=.call { callee:=.builtin .append,args:=#[x,y],argTypes:=#[t,t] }) (ht:P.underlying t=some (.slice e))
 (hinfo:(P.info? e).map (fun i=>(i.zero,i.size,i.bytes))=some (some (.int .u32 0),1,4)) {b:Addr} {A:Option Addr} {n k cap c m:Nat} (hx:ρ x=.slice (some b) n cap) (hy:ρ y=.slice A k c)
 (hB:Zc0 w (.slice (some b) n cap) (List.replicate n 0)) (hX:RowD w (.slice A k c) m) (hg:cap < n + k) (h:n + k≤35184372088832) :
 Does P o ρ w (DoR (fun z:Option Addr × Nat=>.slice z.1 (n + k) z.2) (fun z w=>RowD w (.slice z.1 (n + k) z.2) (W32 ^ n * m)) w):=by
 obtain ⟨ys,hY,hd,hv⟩:=hX
 have key:∀ {w:World} {z:ShN},z.2.1=n + k→Zc0 w (Za3 z) (List.replicate n 0 ++ ys)→RowD w (.slice z.1 (n + k) z.2.2) (W32 ^ n * m):=fun {w z} e hR =>
  ⟨_,by rw [← e]; exact hR,(Dig.replicate Zaw n).append hd,by rw [Zbw,ZbK,List.length_replicate,hv,Nat.zero_add]⟩
 have len:∀ {w:World} {z:ShN},Zc0 w (Za3 z) (List.replicate n 0 ++ ys)→z.2.1=n + k:=fun {w z} hR=>by
  have h1:=hR.shows.1
  have h2:=hY.shows.1
  simp at h1; omega
 rcases Zmn ho ht hinfo hx hy hB hY hg h with ⟨v,w',hr,z,rfl,Q,hb⟩ | ⟨f,args,w1,hr,hc⟩
 ·have e:=len (hb (fun _=>False) (fun _ f=>f.elim) w' (Fr.refl _ _))
  exact Or.inl ⟨_,w',hr,(z.1,z.2.2),by simp [Za3,e],Q,fun S hS w'' hf=>key e (hb S hS w'' hf)⟩
 ·exact Or.inr ⟨f,args,w1,hr,hc.mono (fun e' w' h=>by
   obtain ⟨v,rfl,z,rfl,Q,hb⟩:=h
   have e:=len (hb (fun _=>False) (fun _ f=>f.elim) w' (Fr.refl _ _))
   exact ⟨_,rfl,(z.1,z.2.2),by simp [Za3,e],Q,fun S hS w'' hf=>key e (hb S hS w'' hf)⟩)⟩
theorem ZrG {A:Option Addr} {l c m:Nat} (w:World) (h:RowD w (.slice A l c) m) (hl:l≤1099511627776):Calls Tryz.prog 71 #[.slice A l c] w (Zed w m):=by
 obtain ⟨xs,hR,hd,hv⟩:=h
 obtain ⟨x1,x2,x3⟩:=hR.shows
 refine (Zbp A xs l c w x1 x3 x2 (by omega)).mono ?_
 rintro e w' ⟨rfl,rfl⟩
 exact ⟨_,rfl,⟨A,ZaR xs,c,by rw [ZaU],by rw [ZaU]; exact Nat.le_trans (ZcA _ _) x2,x3.take _,Zca hd,Zcf xs,by rw [Za7,hv]⟩,Fr.refl _ _⟩
theorem Zsw {w:World} {s:Bool} {A:Option Addr} {l c k:Nat} {z:Int} (h:Zao w (.agg #[.bool s, .slice A l c]) z):sg s (W32 ^ (k / 32) * (z.natAbs * 2 ^ (k % 32)))=z * 2 ^ k:=by
 obtain ⟨_,h2,_⟩:=h.opn
 have e:W32 ^ (k / 32) * (z.natAbs * 2 ^ (k % 32))=z.natAbs * 2 ^ k:=by
  rw [Zav,show (4294967296:Nat)=2 ^ 32 from rfl,← Nat.pow_mul,Nat.mul_left_comm,← Nat.pow_add,Nat.div_add_mod]
 rw [e]
 have h3:(z.natAbs:Int)=z∧s=false∨(z.natAbs:Int) = -z∧s=true:=by
  cases s<;>simp [sg] at h2 ⊢<;>omega
 rcases h3 with ⟨h4,rfl⟩ | ⟨h4,rfl⟩
 ·simp only [sg,if_false,Bool.false_eq_true,Int.natCast_mul,h4,Int.natCast_pow]; rfl
 ·simp only [sg,if_true,Int.natCast_mul,h4,Int.natCast_pow]; rw [Int.neg_mul,Int.neg_neg]; rfl
theorem Zut {k:Nat} (hk:k≤1099511627776):IntKind.i64.wrap ((k:Int).tdiv 32)=((k / 32:Nat):Int):=by
 rw [Int.tdiv_eq_ediv_of_nonneg (by omega),IntWalk.i64_in _ (by omega)]; omega
theorem Zuu {k:Nat}:(k:Int).tmod 32=((k % 32:Nat):Int):=by
 rw [Int.tmod_eq_emod_of_nonneg (by omega)]; omega
theorem Zuj {k:Nat}:IntKind.u64.wrap ((k % 32:Nat):Int)=((k % 32:Nat):Int):=by
 rw [IntKind.wrap_u64]; omega
theorem Zma (a:Value) (x:Int) (k:Nat) (w:World) (ha:Zao w a x) (hx:ZaW x) (hk:k≤1099511627776) :
 Calls Tryz.prog 25 #[a, .int .i64 (k:Int)] w (Zbl w (x * 2 ^ k)):=by
 obtain ⟨s0,A0,l0,c0,rfl⟩:=ha.shp
 have hl:l0≤1048576:=by obtain ⟨xs,hR,hd,ht,hv⟩:=ha.mag.row; have h1:=hR.shows.1; have h2:=ZbJ hd ht; rw [hv] at h2; unfold ZaW at hx; omega
 have hk0:decide ((k:Int) ≥ 0)=true:=decide_eq_true (by omega)
 refine Zay (Φ:=fun w=>Zao w (.agg #[.bool s0, .slice A0 l0 c0]) (x)) Tryz.func25 rfl (by kernel_rfl) (fun w' hf=>ha.ext hf) ?_
 refine Zac (Zab (xr 2 [(1, .v (.int .i64 (k:Int))),(2, .p 2 0),(4, .p 4 0)] [bI2 4 32 false none 0 0,bI2 2 32 s0 A0 l0 c0] ?_))
 refine xe (Zaa (Zac (Zac (Zab (xr 2 [(1, .v (.int .i64 (k:Int))),(2, .p 2 0),(4, .p 4 0),(11, .v (.bool (decide ((k:Int) ≥ 0))))] [bI2 4 32 false none 0 0,bI2 2 32 s0 A0 l0 c0] ?_)))))
 rw [hk0]
 refine xr 0 [(1, .v (.int .i64 (k:Int))),(2, .p 2 0),(4, .p 4 0),(11, .v (.bool true))] [bI2 4 32 false none 0 0,bI2 2 32 s0 A0 l0 c0] ?_
 refine xe (Zaa (xa (Zac (Zab (xr 2 [(1, .v (.int .i64 (k:Int))),(2, .p 2 0),(4, .p 4 0),(13, .v (.int .i64 (IntKind.i64.wrap (((k:Int)).tdiv 32))))] [bI2 4 32 false none 0 0,bI2 2 32 s0 A0 l0 c0] ?_)))))
 rw [Zut hk]
 refine Zd2 (d:=14) (fun b:Nat=>.slice (some ⟨b,0,none⟩) (k / 32) (k / 32)) (fun b w=>Zc0 w (.slice (some ⟨b,0,none⟩) (k / 32) (k / 32)) (List.replicate (k / 32) 0)) (by kernel_rfl) (by kernel_rfl) (by kernel_rfl) (by kernel_rfl) (by kernel_rfl) (by kernel_rfl) (fun w R Q=>Zog (l:=.tmp 13) (c:=.tmp 13) (kl:=.i64) (kc:=.i64) (by kernel_rfl) Tryz.underlying30 ZdR (by kernel_rfl) (by kernel_rfl) (by omega)) (fun b10=>?_)
 refine xr 1 [(1, .v (.int .i64 (k:Int))),(2, .p 2 0),(4, .p 4 0),eS1 5 (some ⟨b10,0,none⟩) (k / 32) (k / 32)] [bI2 4 32 false none 0 0,bI2 2 32 s0 A0 l0 c0] ?_
 refine xe (Zaa (Zac ?_))
 refine ZaD 13 (by kernel_rfl) (by kernel_rfl) Zaj ?_
 refine xf 7 [(1, .v (.int .i64 (k:Int))),(2, .p 2 0),(4, .p 4 0),(16, .v (.bool s0)),eS1 17 (some ⟨b10,0,none⟩) (k / 32) (k / 32),eS1 19 A0 l0 c0,(21, .v (.int .i64 (((k:Int)).tmod 32)))] [bI2 4 32 false none 0 0,bI2 2 32 s0 A0 l0 c0] ?_
 rw [Zuu]
 refine xf 1 [(1, .v (.int .i64 (k:Int))),(2, .p 2 0),(4, .p 4 0),(16, .v (.bool s0)),eS1 17 (some ⟨b10,0,none⟩) (k / 32) (k / 32),eS1 19 A0 l0 c0,(22, .v (.int .u64 (IntKind.u64.wrap (((k % 32:Nat):Int)))))] [bI2 4 32 false none 0 0,bI2 2 32 s0 A0 l0 c0] ?_
 rw [Zuj]
 refine xd 72 [.slice A0 l0 c0, .int .u64 ((k % 32:Nat):Int)] 23 (fun b:Nat=>.slice (some ⟨b,0,none⟩) (l0 + 1) (l0 + 1)) _ (fun w R Q=>ZrF (s:=k % 32) _ Q.1.mag hl (by omega)) (fun b11=>?_)
 refine xf 0 [(1, .v (.int .i64 (k:Int))),(2, .p 2 0),(4, .p 4 0),(16, .v (.bool s0)),eS1 17 (some ⟨b10,0,none⟩) (k / 32) (k / 32),eS1 23 (some ⟨b11,0,none⟩) (l0 + 1) (l0 + 1)] [bI2 4 32 false none 0 0,bI2 2 32 s0 A0 l0 c0] ?_
 refine ZiR 24 (fun z:Option Addr × Nat=>.slice z.1 (k / 32 + (l0 + 1)) z.2) (fun z w=>RowD w (.slice z.1 (k / 32 + (l0 + 1)) z.2) (W32 ^ (k / 32) * ((x).natAbs * 2 ^ (k % 32)))) (by kernel_rfl) (by kernel_rfl) (by kernel_rfl) (by kernel_rfl) (by kernel_rfl) (by kernel_rfl) (by kernel_rfl) (fun w R Q=>ZjT (x:=.tmp 17) (y:=.tmp 23) (by kernel_rfl) Tryz.underlying30 ZdR (by kernel_rfl) (by kernel_rfl) Q.1.2 Q.2 (by omega) (by omega)) (fun xx=>?_)
 obtain ⟨A12,c12⟩:=xx
 refine xf 0 [(1, .v (.int .i64 (k:Int))),(2, .p 2 0),(4, .p 4 0),(16, .v (.bool s0)),(24, .v (.slice A12 (k / 32 + (l0 + 1)) c12))] [bI2 4 32 false none 0 0,bI2 2 32 s0 A0 l0 c0] ?_
 refine xd 71 [.slice A12 (k / 32 + (l0 + 1)) c12] 25 Za3 _ (fun w R Q=>(ZrG _ Q.2 (by omega)).mono (fun _ _=>Zsv)) (fun xx=>?_)
 obtain ⟨A13,l13,c13⟩:=xx
 refine xf 0 [(1, .v (.int .i64 (k:Int))),(2, .p 2 0),(4, .p 4 0),(16, .v (.bool s0)),eS1 25 A13 l13 c13] [bI2 4 32 false none 0 0,bI2 2 32 s0 A0 l0 c0] ?_
 refine xd 61 [.bool s0, .slice A13 l13 c13] 26 ZaM _ (fun w R Q=>(ZdT _ _ (W32 ^ (k / 32) * ((x).natAbs * 2 ^ (k % 32))) _ Q.2).mono (fun _ _ h=>ZaS (by rw [Zsw Q.1.1.1.1] at h; exact h))) (fun xx=>?_)
 obtain ⟨s14,A14,l14,c14⟩:=xx
 refine xf 1 [(1, .v (.int .i64 (k:Int))),(2, .p 2 0),(4, .p 4 0)] [bI2 4 32 s14 A14 l14 c14,bI2 4 32 false none 0 0,bI2 2 32 s0 A0 l0 c0] ?_
 refine xz (xe (Zaa (Zai (Zah ?_))))
 refine Zaf (v:=.agg #[.bool s14, .slice A14 l14 c14]) (by kernel_rfl) (fun w' R Q=>?_)
 exact ⟨_,rfl,Q.2,R⟩
end Go.Proofs.YtklpdkpcocnglaaGreatDoor
