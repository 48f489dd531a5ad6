/-
 My texts Rps, Fz, FzL put together.
-/
import Derived.Test.YtcpjeaaapocoeaaGreatDoorG21
import Derived.Test.YtcpjeaaapocoeaaGreatDoorG19
import Derived.Deep.Onto
set_option maxRecDepth 100000
namespace Go.Proofs.YtcpjeaaapocoeaaGreatDoor
open Go.RowKit
theorem ZhF (p q:Nat) (w:World) :
 CallsD Tryz.prog 138 #[.pointer (some ⟨p,0,none⟩), .pointer (some ⟨q,0,none⟩)] .returning w fun e u' w'=>e=.returned (.tuple #[])∧u'=.returning∧Ext w w':=by
 refine callsD_of_wpS Tryz.func138 rfl fun c₀ cs hu=>?_
 apply wpS_seq
 apply wpS_region
 simp [wpOpsS,go_sem,recoverD,hu,Tryz.ntmps138,Exit.thenS]
 refine wpS_of_wp ?_
 rw [show (#[Value.pointer (some ⟨p,0,none⟩), .pointer (some ⟨q,0,none⟩)] ++ ((Array.replicate 15 undef).setIfInBounds 4 .nilIface).setIfInBounds 0 .nilIface)=#[.pointer (some ⟨p,0,none⟩), .pointer (some ⟨q,0,none⟩), .nilIface,undef,undef,undef, .nilIface,undef,undef,undef,undef,undef,undef,undef,undef,undef,undef] from rfl]
 refine Zmo (N:=17) (S0:=fun _=>False) (sl:=[(0, .v (.pointer (some ⟨p,0,none⟩))),(1, .v (.pointer (some ⟨q,0,none⟩))),(2, .v .nilIface)]) (Φ:=fun w=>True) rfl rfl (fun w' hf=>trivial) ?_
 refine Zad (Zab (xr 2 [(0, .v (.pointer (some ⟨p,0,none⟩))),(1, .v (.pointer (some ⟨q,0,none⟩))),(2, .v .nilIface),(8, .v (.bool false))] [] ?_))
 refine xe (Zaa (xb (ZaK (fun L a w' hi=>?_))))
 exact ⟨hi.df,_,rfl, .tuple #[],by simp [results,Tryz.results138],rfl,hu,hi.mem.ext⟩
def PRow (m0:Nat) (A:Option Addr) (c:Nat) (us:List TermR) (w:World):Prop:=ORow m0 w A c us.length us∧IEs m0 w us
theorem PRow.mono {m m0 c:Nat} {A:Option Addr} {us:List TermR} {w:World} (hm:m≤m0) (h:PRow m0 A c us w):PRow m A c us w :=
 ⟨h.1.mono hm,fun t ht=>by obtain ⟨e,h1,h2⟩:=h.2 t ht; exact ⟨e,by omega,h2⟩⟩
theorem PRow.fr {m0 c:Nat} {A:Option Addr} {us:List TermR} {w w':World} {T:Nat→Prop} (h:PRow m0 A c us w) (hF:Fr T w w') (hT:∀ i,T i→i < m0):PRow m0 A c us w':=⟨h.1.fr hF hT,h.2.fr hF hT⟩
theorem ORow.ext' {m0 cap n:Nat} {w w':World} {A:Option Addr} {us:List TermR} (h:ORow m0 w A cap n us) (hF:Ext w w'):ORow m0 w' A cap n us:=h.fr hF (fun _ f=>f.elim)
set_option maxHeartbeats 4000000 in
theorem ZhG (s:ByteArray) (v:Int) (ts:List TermR) (w:World) (hg:Glob w) (hs:s.data.toList=ZaF v ts) (hok:Zar v ts=true) (hc:∀ i,i < ts.length→(bytes ts[i]!.coef).length≤570) (hsz:s.size≤1048576) :
 Calls Tryz.prog 65 #[.string s, .func (.func 66) #[] #[]] w fun e w'=>∃ A c us,e=.returned (.tuple #[.agg #[.int .i64 v, .slice A us.length c], .int .i64 0])∧us.map keyT=ts.map keyT∧PRow w.heap.size A c us w'∧Ext w w':=by
 have hmf:∀ (fn:Fn) (first cap:Array Value) (w:World),(Instr.makeFunc fn first cap).run Tryz.prog w=.ok (.func fn first cap) w:=fun _ _ _ _=>rfl
 have hlim:((s.size:Nat):Int)≤1048576:=by omega
 go_enter_defers Tryz.func65,Tryz.ntmps65
 go_wp2_with fail
 generalize hwb:World.alloc (World.alloc (World.alloc w _) _) _=wb
 obtain ⟨hP,hQ,hR,Q⟩:=ZlI hwb
 have HP:=zh hP
 have HQ:=zh hQ
 have HE:=zh Q
 have hbl:w.heap.size≤w.heap.size + 2:=by omega
 have hsb:w.heap.size + 2 < wb.heap.size:=Blk.lt hR
 clear hP hQ Q hwb
 refine (ZkK w _ s v ts wb hg HE.out hbl hR hs hok hc hsz).mono ?_
 rintro e w2 ⟨A,c,us,rfl,hk,hT,hR2,hF⟩
 have HP2:=zh (Blk.fr HP.out hF (fun h=>by omega))
 have HQ2:=zh (Blk.fr HQ.out hF (fun h=>by omega))
 have HR2:=zh hR2
 have HT:=zh hT
 have HK:=zh hk
 have HF:=zh hF
 have cP0:w2.cell? ⟨w.heap.size,0,none⟩=some (.int .i64 0):=by rw [Blk.cell HP2.out]; rfl
 have cP1:w2.cell? ⟨w.heap.size,1,none⟩=some (.slice none 0 0):=by rw [Blk.cell HP2.out]; rfl
 have fP0:=Blk.frozen HP2.out 0
 have fP1:=Blk.frozen HP2.out 1
 have cQ0:w2.cell? ⟨w.heap.size + 1,0,none⟩=some (.int .i64 0):=by rw [Blk.cell HQ2.out]; rfl
 have fQ0:=Blk.frozen HQ2.out 0
 have cR1:w2.cell? ⟨w.heap.size + 1 + 1,1,none⟩=some (.int .i64 ((s.size:Nat):Int)):=by rw [Blk.cell HR2.out]; rfl
 clear hk hT hR2 hF
 go_wp2_with fail
 have HP3:Hid (Blk 43 ((w2.setCell ⟨w.heap.size,0,none⟩ (.int .i64 v)).setCell ⟨w.heap.size,1,none⟩ (.slice A us.length c)) w.heap.size #[.int .i64 v, .slice A us.length c]):=zh (Blk.set_ (Blk.set_ HP2.out 0 (.int .i64 v)) 1 (.slice A us.length c))
 have HF3:Hid (Fr (fun i=>i=w.heap.size) w2 ((w2.setCell ⟨w.heap.size,0,none⟩ (.int .i64 v)).setCell ⟨w.heap.size,1,none⟩ (.slice A us.length c))):=zh (Fr.setCell (S:=fun i=>i=w.heap.size) (p:=⟨w.heap.size,1,none⟩) (Fr.setCell (S:=fun i=>i=w.heap.size) (p:=⟨w.heap.size,0,none⟩) (Fr.refl _ _) (Or.inl rfl) _) (Or.inl rfl) _)
 generalize (w2.setCell ⟨w.heap.size,0,none⟩ (.int .i64 v)).setCell ⟨w.heap.size,1,none⟩ (.slice A us.length c)=w3 at *
 have cP0:w3.cell? ⟨w.heap.size,0,none⟩=some (.int .i64 v):=by rw [Blk.cell HP3.out]; rfl
 have cP1:w3.cell? ⟨w.heap.size,1,none⟩=some (.slice A us.length c):=by rw [Blk.cell HP3.out]; rfl
 have fP0:=Blk.frozen HP3.out 0
 have fP1:=Blk.frozen HP3.out 1
 have HQ3:=zh (Blk.fr HQ2.out HF3.out (fun h=>by have h:w.heap.size + 1=w.heap.size:=h; omega))
 have cQ0:w3.cell? ⟨w.heap.size + 1,0,none⟩=some (.int .i64 0):=by rw [Blk.cell HQ3.out]; rfl
 have fQ0:=Blk.frozen HQ3.out 0
 refine (ZaV _ _).mono ?_
 rintro e w4 ⟨rfl,rfl⟩
 go_wp2_with fail
 have HP5:Hid (Blk 43 ((w4.setCell ⟨w.heap.size,0,none⟩ (.int .i64 v)).setCell ⟨w.heap.size,1,none⟩ (.slice A us.length c)) w.heap.size #[.int .i64 v, .slice A us.length c]):=zh (Blk.set_ (Blk.set_ HP3.out 0 (.int .i64 v)) 1 (.slice A us.length c))
 have HF5:Hid (Fr (fun i=>i=w.heap.size) w4 ((w4.setCell ⟨w.heap.size,0,none⟩ (.int .i64 v)).setCell ⟨w.heap.size,1,none⟩ (.slice A us.length c))):=zh (Fr.setCell (S:=fun i=>i=w.heap.size) (p:=⟨w.heap.size,1,none⟩) (Fr.setCell (S:=fun i=>i=w.heap.size) (p:=⟨w.heap.size,0,none⟩) (Fr.refl _ _) (Or.inl rfl) _) (Or.inl rfl) _)
 generalize (w4.setCell ⟨w.heap.size,0,none⟩ (.int .i64 v)).setCell ⟨w.heap.size,1,none⟩ (.slice A us.length c)=w5 at *
 have HQ5:=zh (Blk.fr HQ3.out HF5.out (fun h=>by have h:w.heap.size + 1=w.heap.size:=h; omega))
 have HQ6:Hid (Blk 30 (w5.setCell ⟨w.heap.size + 1,0,none⟩ (.int .i64 0)) (w.heap.size + 1) #[.int .i64 0]):=zh (Blk.set_ HQ5.out 0 (.int .i64 0))
 have HF6:Hid (Fr (fun i=>i=w.heap.size + 1) w5 (w5.setCell ⟨w.heap.size + 1,0,none⟩ (.int .i64 0))):=zh (Fr.setCell (S:=fun i=>i=w.heap.size + 1) (p:=⟨w.heap.size + 1,0,none⟩) (Fr.refl _ _) (Or.inl rfl) _)
 generalize w5.setCell ⟨w.heap.size + 1,0,none⟩ (.int .i64 0)=w6 at *
 have HP6:=zh (Blk.fr HP5.out HF6.out (fun h=>by have h:w.heap.size=w.heap.size + 1:=h; omega))
 have HX:Hid (Fr (fun i=>i=w.heap.size∨i=w.heap.size + 1) w2 w6):=zh (((HF3.out.mono (fun _ _ h=>Or.inl h)).trans (HF5.out.mono (fun _ _ h=>Or.inl h))).trans (HF6.out.mono (fun _ _ h=>Or.inr h)))
 refine leaves_cons (f:=138) (args:=#[.pointer (some ⟨w.heap.size,0,none⟩), .pointer (some ⟨w.heap.size + 1,0,none⟩)]) (by simp) (by simp [go_sem]) ?_
 refine (ZhF _ _ _).mono ?_
 rintro e u' w7 ⟨rfl,rfl,hE7⟩
 have hwb2:wb.heap.size≤w2.heap.size:=HF.out.size
 have hW:Ext w w7:=((HE.out.next HF.out (fun i hi h=>by omega)).next HX.out (fun i hi h=>by rcases h with h | h<;>omega)).trans hE7
 have hlt:∀ i,(i=w.heap.size∨i=w.heap.size + 1)→i < wb.heap.size:=fun i h=>by rcases h with h | h<;>omega
 exact ⟨_,res2 (p:=w.heap.size) (q:=w.heap.size + 1) (T:=43) (zs:=[.int .i64 v, .slice A us.length c]) Tryz.results65 rfl rfl (HP6.out.ext hE7) (HQ6.out.ext hE7) (by kernel_rfl),A,c,us,rfl,HK.out,PRow.mono (show w.heap.size≤wb.heap.size by omega) ⟨(HT.out.1.fr HX.out hlt).ext' hE7,(HT.out.2.fr HX.out hlt).ext hE7⟩,hW⟩
end Go.Proofs.YtcpjeaaapocoeaaGreatDoor

namespace Go.Proofs.YtcpjeaaapocoeaaGreatDoor
open Go.RowKit
theorem ZdN (x:Int):(x != x)=false:=by simp
abbrev PRet (_m0:Nat) (ts:List TermR):Type:=Option Addr × Nat × {us:List TermR // us.map keyT=ts.map keyT}
instance (m0:Nat) (ts:List TermR):Nonempty (PRet m0 ts):=⟨(none,0,⟨ts,rfl⟩)⟩
theorem ZjP {m0:Nat} {v:Int} {ts:List TermR} {w w':World} {e:Ending} (hm:m0≤w.heap.size) (h:∃ A c us,e=.returned (.tuple #[.agg #[.int .i64 v, .slice A us.length c], .int .i64 0])∧us.map keyT=ts.map keyT∧PRow w.heap.size A c us w'∧Ext w w') :
 Zba (fun x:PRet m0 ts=>.tuple #[.agg #[.int .i64 v, .slice x.1 x.2.2.1.length x.2.1], .int .i64 0]) (fun x w=>PRow m0 x.1 x.2.1 x.2.2.1 w) w e w':=by
 obtain ⟨A,c,us,rfl,hk,hP,Q⟩:=h
 exact ⟨(A,c,⟨us,hk⟩),rfl,Q,fun S hS w2 hF=>PRow.mono hm (hP.fr hF (fun i hi=>(hS i hi).1))⟩
section
variable {P:Program} {o:Oper} {ρ:Operand→Value} {w:World} {t e:TypeId} {x ix:Operand} {A:Option Addr} {b off:Nat}
theorem Zix (hA:A=some ⟨b,off,none⟩) {ts:List TermR} {j:Nat} (hS:TRow w A ts) (hj:j < ts.length) (ho:o.op=Op.load t x:=by kernel_rfl) (hx:ρ x=.pointer (some ⟨b,off + j * 2,none⟩):=by kernel_rfl) (ha:(teOf P t).map (fun e=>e.agg)=some false:=by kernel_rfl) :
 (execOp ρ o).run P w=.ok (.value (.string ts[j]!.coef)) w:=by
 obtain ⟨b2,off2,e2,_,h1,_⟩:=hS j hj
 rw [hA] at e2
 injection e2 with e2
 injection e2 with e3 e4
 subst e3 e4
 exact ZgA h1 ho hx ha
end
theorem ZhH (s:ByteArray) (v:Int) (ts:List TermR) (w:World) (hg:Glob w) (hs:s.data.toList=ZaF v ts) (hok:Zar v ts=true) (hc:∀ i,i < ts.length→(bytes ts[i]!.coef).length≤570) (hsz:s.size≤1048576) :
 Calls Tryz.prog 21 #[.string s] w (fun e w'=>∃ A c us,e=.returned (.tuple #[.agg #[.int .i64 v, .slice A us.length c], .int .i64 0])∧us.map keyT=ts.map keyT∧PRow w.heap.size A c us w'∧Ext w w'):=by
 refine Za9 (Φ:=fun w=>Glob w) Tryz.func21 rfl (by kernel_rfl) (fun w' hf=>hg.ext hf) ?_
 refine Zad (Zab (xq 2 [(2, .p 2 0),(3, .v (.int .i64 0))] [(2,43,[.v (.int .i64 0), .v (.slice none 0 0)])] ?_))
 refine xe (Zaa (Zad (Zab (xq 1 [(4, .v (.string s))] [] ?_))))
 refine xqc 65 [.string s, .func (.func 66) #[] #[]] 5 (fun x:PRet w.heap.size ts=>.tuple #[.agg #[.int .i64 v, .slice x.1 x.2.2.1.length x.2.1], .int .i64 0]) _ (fun w R Q=>(ZhG s v ts _ Q hs hok hc hsz).mono (fun _ _ h=>ZjP R.size h)) (fun x=>?_)
 refine xq 4 [(3, .v (.int .i64 0))] [(2,43,[.v (.int .i64 v), .v (.slice x.1 x.2.2.1.length x.2.1)])] ?_
 refine xe (Zaa (Zau ?_))
 refine Zaq (v:=.tuple #[.agg #[.int .i64 v, .slice x.1 x.2.2.1.length x.2.1], .int .i64 0]) (by kernel_rfl) (fun w' R Q=>?_)
 exact ⟨x.1,x.2.1,x.2.2.1,rfl,x.2.2.2,Q.2,R⟩
theorem Ziy (A B:Option Addr) (c d:Nat) (zs:List Int) (w:World) (hA:IRow w A zs) (hB:IRow w B zs) (hl:zs.length≤1000000) :
 Calls Tryz.prog 47 #[.slice A zs.length c, .slice B zs.length d] w (RetV w (.bool true)):=by
 refine Za9 (Φ:=fun w=>(IRow w A zs∧IRow w B zs)) Tryz.func47 rfl (by kernel_rfl) (fun w' hf=>⟨hA.ext hf,hB.ext hf⟩) ?_
 refine Zad (Zab (xq 1 [(4, .v (.bool false))] [] ?_))
 refine xe (Zaa (Zad (Zad (Zab (xq 5 [(10, .v (.bool ((((zs.length:Nat):Int):Int) != ((zs.length:Nat):Int))))] [] ?_)))))
 rw [ZdN]
 refine xe (Zaa (xb (ZaK (Zaa (Zad (Zad (Zab (xq 3 [(12, .v (.int .i64 ((zs.length:Nat):Int))),(13, .v (.int .i64 0))] [] ?_))))))))
 refine xe (Zaa (Za8 ?_))
 refine SXc.weak [(0, .v (.slice A zs.length c)),(1, .v (.slice B zs.length d)),(4, .v (.bool false)),(12, .v (.int .i64 ((zs.length:Nat):Int))),(13, .v (.int .i64 ((0:Nat):Int)))] [] (Ψ:=fun w=>(IRow w A zs∧IRow w B zs)) (ZaX.of (by kernel_rfl)) (by kernel_rfl) (fun w Q=>⟨Q.1,Q.2⟩) ?_
 refine ZcR (fun nn ss ff=>∃ (k:Nat),ss=ofL [(0, .v (.slice A zs.length c)),(1, .v (.slice B zs.length d)),(4, .v (.bool false)),(12, .v (.int .i64 ((zs.length:Nat):Int))),(13, .v (.int .i64 ((k:Nat):Int)))] []∧ff=(fun w=>(IRow w A zs∧IRow w B zs))∧(k≤zs.length)∧nn=(1 + (zs.length - k))) ((1 + (zs.length - 0))) ⟨0,rfl,rfl,(Nat.zero_le _),rfl⟩ ?_
 rintro nn ss ff ⟨k,rfl,rfl,hk,rfl⟩
 refine Zad (Zab (xq 1 [(14, .v (.bool (decide (((k:Nat):Int) < ((zs.length:Nat):Int)))))] [] ?_))
 refine xe (Zaa (Zad ?_))
 refine Zcz ((decide (((k:Nat):Int) < ((zs.length:Nat):Int)))) (by kernel_rfl) (fun hb10=>?_) (fun hb10=>?_)
 ·have hlt:k < zs.length:=by have:=of_decide_eq_true hb10; omega
  refine ZaK (Zaa (Zad (Za8 (Zad (Zab (xq 2 [(5, .v (.int .i64 ((k:Nat):Int)))] [] ?_))))))
  refine xe (Zaa (Zad ?_))
  refine Zfh 9 (by kernel_rfl) (by kernel_rfl) ZaD ?_
  refine xqg 2 [eS1 16 A zs.length c,(17, .v (.int .i64 ((k:Nat):Int)))] ?_
  refine xqj 18 (atA A (k * 1)) (fun w Q=>ZbS (t:=22) (e:=3) (sz:=1) (x:=.tmp 16) (ix:=.tmp 17) (len:=zs.length) (cap:=c) (i:=k) ((Q.1).ne hlt) hlt) ?_
  refine xqj 19 (.int .i64 (nth zs k)) (fun w Q=>Zd7 (t:=3) (x:=.tmp 18) (zs:=zs) (j:=k) (Q.1) hlt) ?_
  refine xqg 2 [eS1 20 B zs.length d,(21, .v (.int .i64 ((k:Nat):Int)))] ?_
  refine xqj 22 (atA B (k * 1)) (fun w Q=>ZbS (t:=22) (e:=3) (sz:=1) (x:=.tmp 20) (ix:=.tmp 21) (len:=zs.length) (cap:=d) (i:=k) ((Q.2).ne hlt) hlt) ?_
  refine xqj 23 (.int .i64 (nth zs k)) (fun w Q=>Zd7 (t:=3) (x:=.tmp 22) (zs:=zs) (j:=k) (Q.2) hlt) ?_
  refine xqg 1 [(24, .v (.bool (((nth zs k):Int) != (nth zs k))))] ?_
  rw [ZdN]
  refine xz (xe (Zaa (xb (ZaK (Zc3 (Zaa (Zab (xq 1 [(25, .v (.int .i64 (IntKind.i64.wrap (((k:Nat):Int) + 1))))] [] ?_))))))))
  rw [(show IntKind.i64.wrap (((k:Nat):Int) + 1)=((k + 1:Nat):Int) from by rw [IntKind.wrap_i64]; omega)]
  refine xq 1 [(13, .v (.int .i64 ((k + 1:Nat):Int)))] [] ?_
  refine xe ?_
  refine SXq.weak [(0, .v (.slice A zs.length c)),(1, .v (.slice B zs.length d)),(4, .v (.bool false)),(12, .v (.int .i64 ((zs.length:Nat):Int))),(13, .v (.int .i64 (((k + 1):Nat):Int)))] [] (Ψ:=fun w=>(IRow w A zs∧IRow w B zs)) (ZaX.of (by kernel_rfl)) (by kernel_rfl) (fun w Q=>⟨Q.1,Q.2⟩) ?_
  exact Zcb ((1 + (zs.length - (k + 1)))) (by omega) ⟨(k + 1),rfl,rfl,hlt,rfl⟩
 ·have hge:zs.length≤k:=by have:=of_decide_eq_false hb10; omega
  refine ZcQ (ZaE (ZaE (Zdq (Zaa (Zad (Zab (xq 1 [(4, .v (.bool true))] [] ?_)))))))
  refine xe (Zaa (Zau ?_))
  refine Zaq (v:=.bool true) (by kernel_rfl) (fun w' R Q=>?_)
  exact ⟨rfl,R⟩
theorem Ziz (A B:Option Addr) (c d n:Nat) (ts us:List TermR) (v:Int) (w:World) (hT:TRow w A ts) (hU:TRow w B us) (hk0:ts.map keyT=us.map keyT) (hn:ts.length=n) (hn2:us.length=n) (hl:n≤1000000) (hx:∀ i,i < ts.length→ts[i]!.exps.length≤1000000) :
 Calls Tryz.prog 22 #[.agg #[.int .i64 v, .slice A n c], .agg #[.int .i64 v, .slice B n d]] w (RetV w (.bool true)):=by
 refine Za9 (Φ:=fun w=>(TRow w A ts∧TRow w B us)) Tryz.func22 rfl (by kernel_rfl) (fun w' hf=>⟨hT.ext hf,hU.ext hf⟩) ?_
 refine Zad (Zab (xq 3 [(2, .p 2 0),(3, .p 3 0),(4, .v (.bool false))] [(3,43,[.v (.int .i64 v), .v (.slice B n d)]),(2,43,[.v (.int .i64 v), .v (.slice A n c)])] ?_))
 refine xe (Zaa (Zad (Zad (Zab (xq 5 [(10, .v (.bool ((v:Int) != v)))] [] ?_)))))
 rw [ZdN]
 refine xq 8 [(11, .v (.bool false)),(18, .v (.bool ((((n:Nat):Int):Int) != ((n:Nat):Int))))] [] ?_
 rw [ZdN]
 refine xq 1 [(19, .v (.bool false))] [] ?_
 refine xe (Zaa (xb (ZaK (Zaa (Zad (Zad (Zab (xq 4 [(22, .v (.int .i64 ((n:Nat):Int))),(23, .v (.int .i64 0))] [] ?_))))))))
 refine xe (Zaa (Za8 ?_))
 refine SXc.weak [(2, .p 2 0),(3, .p 3 0),(4, .v (.bool false)),(22, .v (.int .i64 ((n:Nat):Int))),(23, .v (.int .i64 ((0:Nat):Int)))] [(3,43,[.v (.int .i64 v), .v (.slice B n d)]),(2,43,[.v (.int .i64 v), .v (.slice A n c)])] (Ψ:=fun w=>(TRow w A ts∧TRow w B us)) (ZaX.of (by kernel_rfl)) (by kernel_rfl) (fun w Q=>⟨Q.1,Q.2⟩) ?_
 refine ZcR (fun nn ss ff=>∃ (k:Nat),ss=ofL [(2, .p 2 0),(3, .p 3 0),(4, .v (.bool false)),(22, .v (.int .i64 ((n:Nat):Int))),(23, .v (.int .i64 ((k:Nat):Int)))] [(3,43,[.v (.int .i64 v), .v (.slice B n d)]),(2,43,[.v (.int .i64 v), .v (.slice A n c)])]∧ff=(fun w=>(TRow w A ts∧TRow w B us))∧(k≤n)∧nn=(1 + (n - k))) ((1 + (n - 0))) ⟨0,rfl,rfl,(Nat.zero_le _),rfl⟩ ?_
 rintro nn ss ff ⟨k,rfl,rfl,hk,rfl⟩
 refine Zad (Zab (xq 1 [(24, .v (.bool (decide (((k:Nat):Int) < ((n:Nat):Int)))))] [] ?_))
 refine xe (Zaa (Zad ?_))
 refine Zcz ((decide (((k:Nat):Int) < ((n:Nat):Int)))) (by kernel_rfl) (fun hb10=>?_) (fun hb10=>?_)
 ·have hlt:k < n:=by have:=of_decide_eq_true hb10; omega
  obtain ⟨t,ht⟩:∃ x,ts[k]! = x:=⟨_,rfl⟩
  obtain ⟨u,hu⟩:∃ x,us[k]! = x:=⟨_,rfl⟩
  have hkk:=Zdt hk0 k
  rw [ht,hu] at hkk
  have huc:u.coef=t.coef:=hkk.1.symm
  have hux:u.exps=t.exps:=hkk.2.symm
  have hlu:k < us.length:=by omega
  have hxl:=ht ▸ hx k (by omega)
  have hlt0:k < ts.length:=by omega
  refine ZaK (Zaa (Zad (Za8 (Zad ?_))))
  refine SXc.know (p:=(∃ b off,A=some ⟨b,off,none⟩)∧∃ b off,B=some ⟨b,off,none⟩) (fun w _ Q=>⟨TRow.at_ Q.1 hlt0,TRow.at_ Q.2 hlu⟩) (fun hAB=>?_)
  obtain ⟨⟨ta,tf,hA⟩,ub,uf,hB⟩:=hAB
  refine Zab (xq 2 [(5, .v (.int .i64 ((k:Nat):Int)))] [] ?_)
  refine xe (Zaa (Zad ?_))
  refine Zcu 29 [0,1,0,7,15,31,0,64,0,448,960,1984,4095,8191,16383,32767,16383,131071,262143,524287,16383,1064959,16383,7356415,15745023,32522239,67108863,134217727,268435455] (by kernel_rfl) (by kernel_rfl) ZaD ?_
  refine xqg 3 [eS1 27 A n c,(28, .v (.int .i64 ((k:Nat):Int)))] ?_
  refine xqj 29 (.pointer (some ⟨ta,tf + k * 2,none⟩)) (fun w Q=>Zcc hA (t:=41) (e:=53) (sz:=2) (x:=.tmp 27) (ix:=.tmp 28) (len:=n) (cap:=c) (i:=k) hlt) ?_
  refine xqg 1 [(30, .v (.pointer (some ⟨ta,tf + k * 2,none⟩)))] ?_
  refine xqj 31 (.string t.coef) (fun w Q=>by rw [← ht]; exact Zix hA (t:=9) (x:=.tmp 30) (ts:=ts) (j:=k) (Q.1) (by omega)) ?_
  refine xqg 3 [eS1 33 B n d,(34, .v (.int .i64 ((k:Nat):Int)))] ?_
  refine xqj 35 (.pointer (some ⟨ub,uf + k * 2,none⟩)) (fun w Q=>Zcc hB (t:=41) (e:=53) (sz:=2) (x:=.tmp 33) (ix:=.tmp 34) (len:=n) (cap:=d) (i:=k) hlt) ?_
  refine xqg 1 [(36, .v (.pointer (some ⟨ub,uf + k * 2,none⟩)))] ?_
  refine xqj 37 (.string t.coef) (fun w Q=>by rw [← huc,← hu]; exact Zix hB (t:=9) (x:=.tmp 36) (ts:=us) (j:=k) (Q.2) (by omega)) ?_
  refine xqg 1 [(38, .v (.bool (!((t.coef:ByteArray).toList == (t.coef:ByteArray).toList))))] ?_
  rw [Zeh,Bool.not_true]
  refine xqg 4 [(39, .v (.bool false)),eS1 41 A n c,(42, .v (.int .i64 ((k:Nat):Int)))] ?_
  refine xqj 43 (.pointer (some ⟨ta,tf + k * 2,none⟩)) (fun w Q=>Zcc hA (t:=41) (e:=53) (sz:=2) (x:=.tmp 41) (ix:=.tmp 42) (len:=n) (cap:=c) (i:=k) hlt) ?_
  refine xqg 1 [(44, .v (.pointer (some ⟨ta,tf + k * 2 + 1,none⟩)))] ?_
  refine xqj 45 (.slice t.A t.exps.length t.cap) (fun w Q=>by rw [← ht]; exact Zds hA (t:=22) (x:=.tmp 44) (ts:=ts) (j:=k) (Q.1) (by omega)) ?_
  refine xqg 3 [eS1 47 B n d,(48, .v (.int .i64 ((k:Nat):Int)))] ?_
  refine xqj 49 (.pointer (some ⟨ub,uf + k * 2,none⟩)) (fun w Q=>Zcc hB (t:=41) (e:=53) (sz:=2) (x:=.tmp 47) (ix:=.tmp 48) (len:=n) (cap:=d) (i:=k) hlt) ?_
  refine xqg 1 [(50, .v (.pointer (some ⟨ub,uf + k * 2 + 1,none⟩)))] ?_
  refine xqj 51 (.slice u.A t.exps.length u.cap) (fun w Q=>by rw [← hux,← hu]; exact Zds hB (t:=22) (x:=.tmp 50) (ts:=us) (j:=k) (Q.2) (by omega)) ?_
  refine xqd 47 [.slice t.A t.exps.length t.cap, .slice u.A t.exps.length u.cap] 52 (fun _:Unit=>.bool true) _ (fun w R Q=>(Ziy t.A u.A t.cap u.cap t.exps _ (ht ▸ TRow.exps Q.1 hlt0) (hux ▸ (hu ▸ TRow.exps Q.2 hlu)) (by omega)).mono (fun _ _ h=>ZaB h rfl)) (fun xx=>?_)
  refine xqg 2 [(54, .v (.bool false))] ?_
  refine xz (xe (Zaa (xb (ZaK (Zc3 (Zaa (Zab (xr 1 [(2, .p 2 0),(3, .p 3 0),(4, .v (.bool false)),(22, .v (.int .i64 ((n:Nat):Int))),(23, .v (.int .i64 ((k:Nat):Int))),(55, .v (.int .i64 (IntKind.i64.wrap (((k:Nat):Int) + 1))))] [(3,43,[.v (.int .i64 v), .v (.slice B n d)]),(2,43,[.v (.int .i64 v), .v (.slice A n c)])] ?_))))))))
  rw [(show IntKind.i64.wrap (((k:Nat):Int) + 1)=((k + 1:Nat):Int) from by rw [IntKind.wrap_i64]; omega)]
  refine xq 1 [(23, .v (.int .i64 ((k + 1:Nat):Int)))] [] ?_
  refine xe ?_
  refine SXq.weak [(2, .p 2 0),(3, .p 3 0),(4, .v (.bool false)),(22, .v (.int .i64 ((n:Nat):Int))),(23, .v (.int .i64 (((k + 1):Nat):Int)))] [(3,43,[.v (.int .i64 v), .v (.slice B n d)]),(2,43,[.v (.int .i64 v), .v (.slice A n c)])] (Ψ:=fun w=>(TRow w A ts∧TRow w B us)) (ZaX.of (by kernel_rfl)) (by kernel_rfl) (fun w Q=>⟨Q.1.1,Q.1.2⟩) ?_
  exact Zcb ((1 + (n - (k + 1)))) (by omega) ⟨(k + 1),rfl,rfl,hlt,rfl⟩
 ·have hge:n≤k:=by have:=of_decide_eq_false hb10; omega
  refine ZcQ (ZaE (ZaE (Zdq (Zaa (Zad (Zab (xq 1 [(4, .v (.bool true))] [] ?_)))))))
  refine xe (Zaa (Zau ?_))
  refine Zaq (v:=.bool true) (by kernel_rfl) (fun w' R Q=>?_)
  exact ⟨rfl,R⟩
theorem ZjQ (v:Int) (w:World) :
 Calls Tryz.prog 23 #[.agg #[.int .i64 v, .slice none 0 0]] w (RetV w (.agg #[.int .i64 v, .slice none 0 0])):=by
 refine Za9 (Φ:=fun w=>True) Tryz.func23 rfl (by kernel_rfl) (fun w' hf=>trivial) ?_
 refine Zad (Zab (xq 2 [(1, .p 1 0),(2, .p 2 0)] [(2,43,[.v (.int .i64 0), .v (.slice none 0 0)]),(1,50,[.v (.int .i64 v), .v (.slice none 0 0)])] ?_))
 refine xe (Zaa (Zad (Zab (xq 5 [(3, .p 3 0)] [(3,43,[.v (.int .i64 v), .v (.slice none 0 0)])] ?_))))
 refine xe (Zaa (Zad (Zad (Zab (xq 1 [(4, .v (.int .i64 0))] [] ?_)))))
 refine xe (Zaa (Za8 ?_))
 refine SXc.weak [(1, .p 1 0),(2, .p 2 0),(3, .p 3 0),(4, .v (.int .i64 0))] [(3,43,[.v (.int .i64 v), .v (.slice none 0 0)]),(2,43,[.v (.int .i64 0), .v (.slice none 0 0)]),(1,50,[.v (.int .i64 v), .v (.slice none 0 0)])] (Ψ:=fun w=>True) (ZaX.of (by kernel_rfl)) (by kernel_rfl) (fun w Q=>trivial) ?_
 refine ZcR (fun nn ss ff=>∃ (k:Nat),ss=ofL [(1, .p 1 0),(2, .p 2 0),(3, .p 3 0),(4, .v (.int .i64 0))] [(3,43,[.v (.int .i64 v), .v (.slice none 0 0)]),(2,43,[.v (.int .i64 0), .v (.slice none 0 0)]),(1,50,[.v (.int .i64 v), .v (.slice none 0 0)])]∧ff=(fun w=>True)∧nn=k) (0) ⟨0,rfl,rfl,rfl⟩ ?_
 rintro nn ss ff ⟨k,rfl,rfl,rfl⟩
 refine Zad (Zad (Zab (xq 5 [(12, .v (.bool false))] [] ?_)))
 refine xe (Zaa (xb (ZcQ (ZaE (ZaE (Zdq (Zaa (Zad (Zab (xq 2 [] [(2,43,[.v (.int .i64 v), .v (.slice none 0 0)])] ?_))))))))))
 refine xe (Zaa (Zau ?_))
 refine Zaq (v:=.agg #[.int .i64 v, .slice none 0 0]) (by kernel_rfl) (fun w' R Q=>?_)
 exact ⟨rfl,R⟩
end Go.Proofs.YtcpjeaaapocoeaaGreatDoor

namespace Go.Proofs.YtcpjeaaapocoeaaGreatDoor
open Go.RowKit
theorem Zeq {v:Int} (h0:0≤v) (h6:v≤6):(ZaF v []).length≤1048576:=by
 have h1:(bytes (Zae v)).length≤18:=by
  show (Lib.itoa v).length≤18
  rw [Zch h0]; exact ZdE 17 v.toNat (by omega)
 have h2:(bytes (Zae 0)).length≤18:=by
  show (Lib.itoa 0).length≤18
  rw [Zch (by decide)]; exact ZdE 17 0 (by decide)
 have e:ZaF v []=bytes ZaY ++ ((32 :: bytes (Zae v)) ++ ((32 :: bytes (Zae 0)) ++ [])) ++ [10] ++ []:=rfl
 have h3:(bytes ZaY).length=4:=rfl
 rw [e]
 simp only [List.length_append,List.length_cons,List.length_nil,h3]
 omega
theorem ZkL {v:Int} (h0:0≤v) (h6:v≤6):(⟨(ZaF v []).toArray⟩:ByteArray).size≤1048576:=by
 show (ZaF v []).toArray.size≤_
 rw [List.size_toArray]; exact Zeq h0 h6
theorem Zjj {v:Int} (h0:0≤v) (h6:v≤6):Zar v []=true:=by
 unfold Zar
 rw [decide_eq_true h0,decide_eq_true h6]; rfl
theorem Zlo {v:Int} (h0:0≤v) (h6:v≤6):fpV v []=.tuple #[.string ⟨(ZaF v []).toArray⟩, .int .i64 0]:=by
 unfold fpV; rw [if_pos (Zjj h0 h6)]
theorem Zjk {v:Int} (h:v < 0∨6 < v):fpV v []=.tuple #[.string ⟨#[]⟩, .int .i64 1]:=by
 have e:Zar v []=false:=Zjg (ZjI h)
 unfold fpV; rw [e]; rfl
theorem ZkM {v:Int} {w w':World} {e:Ending} (h:∃ A c us,e=.returned (.tuple #[.agg #[.int .i64 v, .slice A us.length c], .int .i64 0])∧us.map keyT=([]:List TermR).map keyT∧PRow w.heap.size A c us w'∧Ext w w') :
 Zba (fun x:Option Addr × Nat=>.tuple #[.agg #[.int .i64 v, .slice x.1 0 x.2], .int .i64 0]) (fun _ _=>True) w e w':=by
 obtain ⟨A,c,us,rfl,hk,_,Q⟩:=h
 obtain rfl:us=[]:=by cases us with
  | nil=>rfl
  | cons _ _=>cases hk
 exact ⟨(A,c),rfl,Q,BoxN.pure trivial⟩
theorem Zg8 (v:Int) (w:World) (hg:Glob w) :
 Calls Tryz.prog 5 #[.int .i64 v] w (RetV w (.bool true)):=by
 refine Za9 (Φ:=fun w=>Glob w) Tryz.func5 rfl (by kernel_rfl) (fun w' hf=>hg.ext hf) ?_
 refine Zad (Zab (xq 1 [(2, .v (.bool false))] [] ?_))
 refine xe (Zaa (Zad ?_))
 by_cases h0:0≤v
 ·by_cases h6:v≤6
  ·refine Zab (xq 2 [(9, .v (.agg #[.int .i64 v, .slice none 0 0]))] [] ?_)
   refine xqc 20 [.agg #[.int .i64 v, .slice none 0 0]] 10 (fun _:Unit=>.tuple #[.string ⟨(ZaF v []).toArray⟩, .int .i64 0]) _ (fun w R Q=>(ZdM none 0 [] v _ Q (fun i hi=>absurd hi (Nat.not_lt_zero i)) (fun i hi=>absurd hi (Nat.not_lt_zero i)) (fun i hi=>absurd hi (Nat.not_lt_zero i)) (fun h=>Zeq (Zar.parts h).1.1 (Zar.parts h).1.2)).mono (fun _ _ h=>ZaB h (Zlo (by omega) (by omega)))) (fun xx=>?_)
   refine xq 5 [(3, .v (.string ⟨(ZaF v []).toArray⟩)),(4, .v (.int .i64 0))] [] ?_
   refine xe (Zaa (Zad (Zad (Zab (xq 2 [(14, .v (.bool (decide (v < 0))))] [] ?_)))))
   rw [(show decide (v < 0)=false from decide_eq_false (by omega))]
   refine xq 3 [(15, .v (.bool false)),(17, .v (.bool (decide (v > 6))))] [] ?_
   rw [(show decide (v > 6)=false from decide_eq_false (by omega))]
   refine xq 1 [(18, .v (.bool false))] [] ?_
   refine xe (Zaa (xb (ZaK (Zaa (Zad (Zab (xq 1 [(29, .v (.string ⟨(ZaF v []).toArray⟩))] [] ?_)))))))
   refine xqc 21 [.string ⟨(ZaF v []).toArray⟩] 30 (fun x:Option Addr × Nat=>.tuple #[.agg #[.int .i64 v, .slice x.1 0 x.2], .int .i64 0]) _ (fun w R Q=>(ZhH ⟨(ZaF v []).toArray⟩ v [] _ Q.1 rfl (Zjj (by omega) (by omega)) (fun i hi=>absurd hi (Nat.not_lt_zero i)) (ZkL (by omega) (by omega))).mono (fun _ _=>ZkM)) (fun x=>?_)
   refine xq 6 [(5, .p 5 0),(6, .v (.int .i64 0))] [(5,43,[.v (.int .i64 v), .v (.slice x.1 0 x.2)])] ?_
   refine xe (Zaa (Zad ?_))
   refine Zcu 17 [0,1,3,7,15,31,63,127,255,511,1023,1023,3071,7167,16383,32767,65535] (by kernel_rfl) (by kernel_rfl) ZaD ?_
   refine xqd 15 [] 33 (fun _:Unit=>.bool true) _ (fun w R Q=>(ZdU _ Q.1.1).mono (fun _ _ h=>ZaB h rfl)) (fun xx=>?_)
   refine xqg 12 [(42, .v (.bool true)),(43, .v (.agg #[.int .i64 v, .slice x.1 0 x.2])),(45, .v (.agg #[.int .i64 v, .slice none 0 0]))] ?_
   refine xqd 23 [.agg #[.int .i64 v, .slice none 0 0]] 46 (fun _:Unit=>.agg #[.int .i64 v, .slice none 0 0]) _ (fun w R Q=>(ZjQ v _).mono (fun _ _ h=>ZaB h rfl)) (fun xx=>?_)
   refine xqd 22 [.agg #[.int .i64 v, .slice x.1 0 x.2], .agg #[.int .i64 v, .slice none 0 0]] 47 (fun _:Unit=>.bool true) _ (fun w R Q=>(Ziz x.1 none x.2 0 0 [] [] v _ (fun i hi=>absurd hi (Nat.not_lt_zero i)) (fun i hi=>absurd hi (Nat.not_lt_zero i)) rfl rfl rfl (by decide) (fun i hi=>absurd hi (Nat.not_lt_zero i))).mono (fun _ _ h=>ZaB h rfl)) (fun xx=>?_)
   refine xqg 2 [(2, .v (.bool true))] ?_
   refine xz (xe (Zaa (Zau ?_)))
   refine Zaq (v:=.bool true) (by kernel_rfl) (fun w' R Q=>?_)
   exact ⟨rfl,R⟩
  ·refine Zab (xq 2 [(9, .v (.agg #[.int .i64 v, .slice none 0 0]))] [] ?_)
   refine xqc 20 [.agg #[.int .i64 v, .slice none 0 0]] 10 (fun _:Unit=>.tuple #[.string ⟨#[]⟩, .int .i64 1]) _ (fun w R Q=>(ZdM none 0 [] v _ Q (fun i hi=>absurd hi (Nat.not_lt_zero i)) (fun i hi=>absurd hi (Nat.not_lt_zero i)) (fun i hi=>absurd hi (Nat.not_lt_zero i)) (fun h=>Zeq (Zar.parts h).1.1 (Zar.parts h).1.2)).mono (fun _ _ h=>ZaB h (Zjk (by omega)))) (fun xx=>?_)
   refine xq 5 [(3, .v (.string ⟨#[]⟩)),(4, .v (.int .i64 1))] [] ?_
   refine xe (Zaa (Zad (Zad (Zab (xq 2 [(14, .v (.bool (decide (v < 0))))] [] ?_)))))
   rw [(show decide (v < 0)=false from decide_eq_false (by omega))]
   refine xq 3 [(15, .v (.bool false)),(17, .v (.bool (decide (v > 6))))] [] ?_
   rw [(show decide (v > 6)=true from decide_eq_true (by omega))]
   refine xq 1 [(18, .v (.bool true))] [] ?_
   refine xe (Zaa (xa (Zad (Zab ?_))))
   refine xqc 15 [] 19 (fun _:Unit=>.bool true) _ (fun w R Q=>(ZdU _ Q.1).mono (fun _ _ h=>ZaB h rfl)) (fun xx=>?_)
   refine xq 7 [(24, .v (.bool true)),(26, .v (.bool ((⟨#[]⟩:ByteArray).toList == (⟨#[]⟩:ByteArray).toList)))] [] ?_
   rw [Zeh]
   refine xq 2 [(2, .v (.bool true))] [] ?_
   refine xe (Zaa (Zau (Zak ?_)))
   refine Zaq (v:=.bool true) (by kernel_rfl) (fun w' R Q=>?_)
   exact ⟨rfl,R⟩
 ·refine Zab (xq 2 [(9, .v (.agg #[.int .i64 v, .slice none 0 0]))] [] ?_)
  refine xqc 20 [.agg #[.int .i64 v, .slice none 0 0]] 10 (fun _:Unit=>.tuple #[.string ⟨#[]⟩, .int .i64 1]) _ (fun w R Q=>(ZdM none 0 [] v _ Q (fun i hi=>absurd hi (Nat.not_lt_zero i)) (fun i hi=>absurd hi (Nat.not_lt_zero i)) (fun i hi=>absurd hi (Nat.not_lt_zero i)) (fun h=>Zeq (Zar.parts h).1.1 (Zar.parts h).1.2)).mono (fun _ _ h=>ZaB h (Zjk (by omega)))) (fun xx=>?_)
  refine xq 5 [(3, .v (.string ⟨#[]⟩)),(4, .v (.int .i64 1))] [] ?_
  refine xe (Zaa (Zad (Zad (Zab (xq 2 [(14, .v (.bool (decide (v < 0))))] [] ?_)))))
  rw [(show decide (v < 0)=true from decide_eq_true (by omega))]
  refine xq 4 [(18, .v (.bool true))] [] ?_
  refine xe (Zaa (xa (Zad (Zab ?_))))
  refine xqc 15 [] 19 (fun _:Unit=>.bool true) _ (fun w R Q=>(ZdU _ Q.1).mono (fun _ _ h=>ZaB h rfl)) (fun xx=>?_)
  refine xq 7 [(24, .v (.bool true)),(26, .v (.bool ((⟨#[]⟩:ByteArray).toList == (⟨#[]⟩:ByteArray).toList)))] [] ?_
  rw [Zeh]
  refine xq 2 [(2, .v (.bool true))] [] ?_
  refine xe (Zaa (Zau (Zak ?_)))
  refine Zaq (v:=.bool true) (by kernel_rfl) (fun w' R Q=>?_)
  exact ⟨rfl,R⟩
end Go.Proofs.YtcpjeaaapocoeaaGreatDoor
