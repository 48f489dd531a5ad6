/-
 My texts Rps, Fz, Rf6, Rf7, R42, R43, R44, FpL put together.
-/
import Derived.Test.YtcpjeaaapocoeaaGreatDoorP22
import Derived.Test.YtcpjeaaapocoeaaGreatDoorP21
import Derived.Deep.Onto
import Derived.Test.YtcpjeaaapocoeaaGreatDoorP19
import Derived.Test.YtcpjeaaapocoeaaGreatDoorP17
set_option maxRecDepth 100000
namespace Go.Proofs.YtcpjeaaapocoeaaGreatDoor
open Go.RowKit
theorem Zkt (p q:Nat) (w:World) :
 CallsD Tryz.prog 138 #[.pointer (some ⟨p,0,none⟩), .pointer (some ⟨q,0,none⟩)] .returning w fun e u' w'=>e=.returned (.tuple #[])∧u'=.returning∧Ext w w':=by
 refine callsD_of_wpS Tryz.func138 rfl fun c₀ cs hu=>?_
 apply wpS_seq
 apply wpS_region
 simp [wpOpsS,go_sem,recoverD,hu,Tryz.ntmps138,Exit.thenS]
 refine wpS_of_wp ?_
 rw [show (#[Value.pointer (some ⟨p,0,none⟩), .pointer (some ⟨q,0,none⟩)] ++ ((Array.replicate 15 undef).setIfInBounds 4 .nilIface).setIfInBounds 0 .nilIface)=#[.pointer (some ⟨p,0,none⟩), .pointer (some ⟨q,0,none⟩), .nilIface,undef,undef,undef, .nilIface,undef,undef,undef,undef,undef,undef,undef,undef,undef,undef] from rfl]
 refine Zq2 (N:=17) (S0:=fun _=>False) (sl:=[(0, .v (.pointer (some ⟨p,0,none⟩))),(1, .v (.pointer (some ⟨q,0,none⟩))),(2, .v .nilIface)]) (Φ:=fun w=>True) rfl rfl (fun w' hf=>trivial) ?_
 refine Zac (Zab (xr 2 [(0, .v (.pointer (some ⟨p,0,none⟩))),(1, .v (.pointer (some ⟨q,0,none⟩))),(2, .v .nilIface),(8, .v (.bool false))] [] ?_))
 refine xe (Zaa (xb (Zav (fun L a w' hi=>?_))))
 exact ⟨hi.df,_,rfl, .tuple #[],by simp [results,Tryz.results138],rfl,hu,hi.mem.ext⟩
def PRow (m0:Nat) (A:Option Addr) (c:Nat) (us:List TermR) (w:World):Prop:=ORow m0 w A c us.length us∧IEs m0 w us
theorem PRow.mono {m m0 c:Nat} {A:Option Addr} {us:List TermR} {w:World} (hm:m≤m0) (h:PRow m0 A c us w):PRow m A c us w :=
 ⟨h.1.mono hm,fun t ht=>by obtain ⟨e,h1,h2⟩:=h.2 t ht; exact ⟨e,by omega,h2⟩⟩
theorem PRow.fr {m0 c:Nat} {A:Option Addr} {us:List TermR} {w w':World} {T:Nat→Prop} (h:PRow m0 A c us w) (hF:Fr T w w') (hT:∀ i,T i→i < m0):PRow m0 A c us w':=⟨h.1.fr hF hT,h.2.fr hF hT⟩
theorem PRow.row {m0 c:Nat} {A:Option Addr} {us:List TermR} {w:World} (h:PRow m0 A c us w):TRow w A us:=TRow.of h.1 h.2
theorem ORow.ext' {m0 cap n:Nat} {w w':World} {A:Option Addr} {us:List TermR} (h:ORow m0 w A cap n us) (hF:Ext w w'):ORow m0 w' A cap n us:=h.fr hF (fun _ f=>f.elim)
set_option maxHeartbeats 4000000 in
theorem Zku (s:ByteArray) (v:Int) (ts:List TermR) (w:World) (hg:Glob w) (hs:s.data.toList=ZaI v ts) (hok:ZaG v ts=true) (hc:∀ i,i < ts.length→(bytes ts[i]!.coef).length≤570) (hsz:s.size≤1048576) :
 Calls Tryz.prog 65 #[.string s, .func (.func 66) #[] #[]] w fun e w'=>∃ A c us,e=.returned (.tuple #[.agg #[.int .i64 v, .slice A us.length c], .int .i64 0])∧us.map keyT=ts.map keyT∧PRow w.heap.size A c us w'∧Ext w w':=by
 have hmf:∀ (fn:Fn) (first cap:Array Value) (w:World),(Instr.makeFunc fn first cap).run Tryz.prog w=.ok (.func fn first cap) w:=fun _ _ _ _=>rfl
 have hlim:((s.size:Nat):Int)≤1048576:=by omega
 go_enter_defers Tryz.func65,Tryz.ntmps65
 go_wp2_with fail
 generalize hwb:World.alloc (World.alloc (World.alloc w _) _) _=wb
 obtain ⟨hP,hQ,hR,Q⟩:=Zjm hwb
 have HP:=zh hP
 have HQ:=zh hQ
 have HE:=zh Q
 have hbl:w.heap.size≤w.heap.size + 2:=by omega
 have hsb:w.heap.size + 2 < wb.heap.size:=Blk.lt hR
 clear hP hQ Q hwb
 refine (Zo1 w _ s v ts wb hg HE.out hbl hR hs hok hc hsz).mono ?_
 rintro e w2 ⟨A,c,us,rfl,hk,hT,hR2,hF⟩
 have HP2:=zh (Blk.fr HP.out hF (fun h=>by omega))
 have HQ2:=zh (Blk.fr HQ.out hF (fun h=>by omega))
 have HR2:=zh hR2
 have HT:=zh hT
 have HK:=zh hk
 have HF:=zh hF
 have cP0:w2.cell? ⟨w.heap.size,0,none⟩=some (.int .i64 0):=by rw [Blk.cell HP2.out]; rfl
 have cP1:w2.cell? ⟨w.heap.size,1,none⟩=some (.slice none 0 0):=by rw [Blk.cell HP2.out]; rfl
 have fP0:=Blk.frozen HP2.out 0
 have fP1:=Blk.frozen HP2.out 1
 have cQ0:w2.cell? ⟨w.heap.size + 1,0,none⟩=some (.int .i64 0):=by rw [Blk.cell HQ2.out]; rfl
 have fQ0:=Blk.frozen HQ2.out 0
 have cR1:w2.cell? ⟨w.heap.size + 1 + 1,1,none⟩=some (.int .i64 ((s.size:Nat):Int)):=by rw [Blk.cell HR2.out]; rfl
 clear hk hT hR2 hF
 go_wp2_with fail
 have HP3:Hid (Blk 43 ((w2.setCell ⟨w.heap.size,0,none⟩ (.int .i64 v)).setCell ⟨w.heap.size,1,none⟩ (.slice A us.length c)) w.heap.size #[.int .i64 v, .slice A us.length c]):=zh (Blk.set_ (Blk.set_ HP2.out 0 (.int .i64 v)) 1 (.slice A us.length c))
 have HF3:Hid (Fr (fun i=>i=w.heap.size) w2 ((w2.setCell ⟨w.heap.size,0,none⟩ (.int .i64 v)).setCell ⟨w.heap.size,1,none⟩ (.slice A us.length c))):=zh (Fr.setCell (S:=fun i=>i=w.heap.size) (p:=⟨w.heap.size,1,none⟩) (Fr.setCell (S:=fun i=>i=w.heap.size) (p:=⟨w.heap.size,0,none⟩) (Fr.refl _ _) (Or.inl rfl) _) (Or.inl rfl) _)
 generalize (w2.setCell ⟨w.heap.size,0,none⟩ (.int .i64 v)).setCell ⟨w.heap.size,1,none⟩ (.slice A us.length c)=w3 at *
 have cP0:w3.cell? ⟨w.heap.size,0,none⟩=some (.int .i64 v):=by rw [Blk.cell HP3.out]; rfl
 have cP1:w3.cell? ⟨w.heap.size,1,none⟩=some (.slice A us.length c):=by rw [Blk.cell HP3.out]; rfl
 have fP0:=Blk.frozen HP3.out 0
 have fP1:=Blk.frozen HP3.out 1
 have HQ3:=zh (Blk.fr HQ2.out HF3.out (fun h=>by have h:w.heap.size + 1=w.heap.size:=h; omega))
 have cQ0:w3.cell? ⟨w.heap.size + 1,0,none⟩=some (.int .i64 0):=by rw [Blk.cell HQ3.out]; rfl
 have fQ0:=Blk.frozen HQ3.out 0
 refine (Zbt _ _).mono ?_
 rintro e w4 ⟨rfl,rfl⟩
 go_wp2_with fail
 have HP5:Hid (Blk 43 ((w4.setCell ⟨w.heap.size,0,none⟩ (.int .i64 v)).setCell ⟨w.heap.size,1,none⟩ (.slice A us.length c)) w.heap.size #[.int .i64 v, .slice A us.length c]):=zh (Blk.set_ (Blk.set_ HP3.out 0 (.int .i64 v)) 1 (.slice A us.length c))
 have HF5:Hid (Fr (fun i=>i=w.heap.size) w4 ((w4.setCell ⟨w.heap.size,0,none⟩ (.int .i64 v)).setCell ⟨w.heap.size,1,none⟩ (.slice A us.length c))):=zh (Fr.setCell (S:=fun i=>i=w.heap.size) (p:=⟨w.heap.size,1,none⟩) (Fr.setCell (S:=fun i=>i=w.heap.size) (p:=⟨w.heap.size,0,none⟩) (Fr.refl _ _) (Or.inl rfl) _) (Or.inl rfl) _)
 generalize (w4.setCell ⟨w.heap.size,0,none⟩ (.int .i64 v)).setCell ⟨w.heap.size,1,none⟩ (.slice A us.length c)=w5 at *
 have HQ5:=zh (Blk.fr HQ3.out HF5.out (fun h=>by have h:w.heap.size + 1=w.heap.size:=h; omega))
 have HQ6:Hid (Blk 30 (w5.setCell ⟨w.heap.size + 1,0,none⟩ (.int .i64 0)) (w.heap.size + 1) #[.int .i64 0]):=zh (Blk.set_ HQ5.out 0 (.int .i64 0))
 have HF6:Hid (Fr (fun i=>i=w.heap.size + 1) w5 (w5.setCell ⟨w.heap.size + 1,0,none⟩ (.int .i64 0))):=zh (Fr.setCell (S:=fun i=>i=w.heap.size + 1) (p:=⟨w.heap.size + 1,0,none⟩) (Fr.refl _ _) (Or.inl rfl) _)
 generalize w5.setCell ⟨w.heap.size + 1,0,none⟩ (.int .i64 0)=w6 at *
 have HP6:=zh (Blk.fr HP5.out HF6.out (fun h=>by have h:w.heap.size=w.heap.size + 1:=h; omega))
 have HX:Hid (Fr (fun i=>i=w.heap.size∨i=w.heap.size + 1) w2 w6):=zh (((HF3.out.mono (fun _ _ h=>Or.inl h)).trans (HF5.out.mono (fun _ _ h=>Or.inl h))).trans (HF6.out.mono (fun _ _ h=>Or.inr h)))
 refine leaves_cons (f:=138) (args:=#[.pointer (some ⟨w.heap.size,0,none⟩), .pointer (some ⟨w.heap.size + 1,0,none⟩)]) (by simp) (by simp [go_sem]) ?_
 refine (Zkt _ _ _).mono ?_
 rintro e u' w7 ⟨rfl,rfl,hE7⟩
 have hwb2:wb.heap.size≤w2.heap.size:=HF.out.size
 have hW:Ext w w7:=((HE.out.next HF.out (fun i hi h=>by omega)).next HX.out (fun i hi h=>by rcases h with h | h<;>omega)).trans hE7
 have hlt:∀ i,(i=w.heap.size∨i=w.heap.size + 1)→i < wb.heap.size:=fun i h=>by rcases h with h | h<;>omega
 exact ⟨_,res2 (p:=w.heap.size) (q:=w.heap.size + 1) (T:=43) (zs:=[.int .i64 v, .slice A us.length c]) Tryz.results65 rfl rfl (HP6.out.ext hE7) (HQ6.out.ext hE7) (by kernel_rfl),A,c,us,rfl,HK.out,PRow.mono (show w.heap.size≤wb.heap.size by omega) ⟨(HT.out.1.fr HX.out hlt).ext' hE7,(HT.out.2.fr HX.out hlt).ext hE7⟩,hW⟩
end Go.Proofs.YtcpjeaaapocoeaaGreatDoor

namespace Go.Proofs.YtcpjeaaapocoeaaGreatDoor
open Go.RowKit
theorem Ze9 (x:Int):(x != x)=false:=by simp
abbrev PRet (_m0:Nat) (ts:List TermR):Type:=Option Addr × Nat × {us:List TermR // us.map keyT=ts.map keyT}
instance (m0:Nat) (ts:List TermR):Nonempty (PRet m0 ts):=⟨(none,0,⟨ts,rfl⟩)⟩
theorem ZnI {m0:Nat} {v:Int} {ts:List TermR} {w w':World} {e:Ending} (hm:m0≤w.heap.size) (h:∃ A c us,e=.returned (.tuple #[.agg #[.int .i64 v, .slice A us.length c], .int .i64 0])∧us.map keyT=ts.map keyT∧PRow w.heap.size A c us w'∧Ext w w') :
 Zbh (fun x:PRet m0 ts=>.tuple #[.agg #[.int .i64 v, .slice x.1 x.2.2.1.length x.2.1], .int .i64 0]) (fun x w=>PRow m0 x.1 x.2.1 x.2.2.1 w) w e w':=by
 obtain ⟨A,c,us,rfl,hk,hP,Q⟩:=h
 exact ⟨(A,c,⟨us,hk⟩),rfl,Q,fun S hS w2 hF=>PRow.mono hm (hP.fr hF (fun i hi=>(hS i hi).1))⟩
section
variable {P:Program} {o:Oper} {ρ:Operand→Value} {w:World} {t e:TypeId} {x ix:Operand} {A:Option Addr} {b off:Nat}
theorem Zh6 (hA:A=some ⟨b,off,none⟩) {ts:List TermR} {j:Nat} (hS:TRow w A ts) (hj:j < ts.length) (ho:o.op=Op.load t x:=by kernel_rfl) (hx:ρ x=.pointer (some ⟨b,off + j * 2,none⟩):=by kernel_rfl) (ha:(teOf P t).map (fun e=>e.agg)=some false:=by kernel_rfl) :
 (execOp ρ o).run P w=.ok (.value (.string ts[j]!.coef)) w:=by
 obtain ⟨b2,off2,e2,_,h1,_⟩:=hS j hj
 rw [hA] at e2
 injection e2 with e2
 injection e2 with e3 e4
 subst e3 e4
 exact Zgz h1 ho hx ha
end
theorem Zkv (s:ByteArray) (v:Int) (ts:List TermR) (w:World) (hg:Glob w) (hs:s.data.toList=ZaI v ts) (hok:ZaG v ts=true) (hc:∀ i,i < ts.length→(bytes ts[i]!.coef).length≤570) (hsz:s.size≤1048576) :
 Calls Tryz.prog 21 #[.string s] w (fun e w'=>∃ A c us,e=.returned (.tuple #[.agg #[.int .i64 v, .slice A us.length c], .int .i64 0])∧us.map keyT=ts.map keyT∧PRow w.heap.size A c us w'∧Ext w w'):=by
 refine Za6 (Φ:=fun w=>Glob w) Tryz.func21 rfl (by kernel_rfl) (fun w' hf=>hg.ext hf) ?_
 refine Zac (Zab (xq 2 [(2, .p 2 0),(3, .v (.int .i64 0))] [(2,43,[.v (.int .i64 0), .v (.slice none 0 0)])] ?_))
 refine xe (Zaa (Zac (Zab (xq 1 [(4, .v (.string s))] [] ?_))))
 refine xqc 65 [.string s, .func (.func 66) #[] #[]] 5 (fun x:PRet w.heap.size ts=>.tuple #[.agg #[.int .i64 v, .slice x.1 x.2.2.1.length x.2.1], .int .i64 0]) _ (fun w R Q=>(Zku s v ts _ Q hs hok hc hsz).mono (fun _ _ h=>ZnI R.size h)) (fun x=>?_)
 refine xq 4 [(3, .v (.int .i64 0))] [(2,43,[.v (.int .i64 v), .v (.slice x.1 x.2.2.1.length x.2.1)])] ?_
 refine xe (Zaa (Zau ?_))
 refine Zai (v:=.tuple #[.agg #[.int .i64 v, .slice x.1 x.2.2.1.length x.2.1], .int .i64 0]) (by kernel_rfl) (fun w' R Q=>?_)
 exact ⟨x.1,x.2.1,x.2.2.1,rfl,x.2.2.2,Q.2,R⟩
theorem Zlz (A B:Option Addr) (c d:Nat) (zs:List Int) (w:World) (hA:IRow w A zs) (hB:IRow w B zs) (hl:zs.length≤1000000) :
 Calls Tryz.prog 47 #[.slice A zs.length c, .slice B zs.length d] w (RetV w (.bool true)):=by
 refine Za6 (Φ:=fun w=>(IRow w A zs∧IRow w B zs)) Tryz.func47 rfl (by kernel_rfl) (fun w' hf=>⟨hA.ext hf,hB.ext hf⟩) ?_
 refine Zac (Zab (xq 1 [(4, .v (.bool false))] [] ?_))
 refine xe (Zaa (Zac (Zac (Zab (xq 5 [(10, .v (.bool ((((zs.length:Nat):Int):Int) != ((zs.length:Nat):Int))))] [] ?_)))))
 rw [Ze9]
 refine xe (Zaa (xb (Zav (Zaa (Zac (Zac (Zab (xq 3 [(12, .v (.int .i64 ((zs.length:Nat):Int))),(13, .v (.int .i64 0))] [] ?_))))))))
 refine xe (Zaa (ZaP ?_))
 refine SXc.weak [(0, .v (.slice A zs.length c)),(1, .v (.slice B zs.length d)),(4, .v (.bool false)),(12, .v (.int .i64 ((zs.length:Nat):Int))),(13, .v (.int .i64 ((0:Nat):Int)))] [] (Ψ:=fun w=>(IRow w A zs∧IRow w B zs)) (ZaM.of (by kernel_rfl)) (by kernel_rfl) (fun w Q=>⟨Q.1,Q.2⟩) ?_
 refine ZbU (fun nn ss ff=>∃ (k:Nat),ss=ofL [(0, .v (.slice A zs.length c)),(1, .v (.slice B zs.length d)),(4, .v (.bool false)),(12, .v (.int .i64 ((zs.length:Nat):Int))),(13, .v (.int .i64 ((k:Nat):Int)))] []∧ff=(fun w=>(IRow w A zs∧IRow w B zs))∧(k≤zs.length)∧nn=(1 + (zs.length - k))) ((1 + (zs.length - 0))) ⟨0,rfl,rfl,(Nat.zero_le _),rfl⟩ ?_
 rintro nn ss ff ⟨k,rfl,rfl,hk,rfl⟩
 refine Zac (Zab (xq 1 [(14, .v (.bool (decide (((k:Nat):Int) < ((zs.length:Nat):Int)))))] [] ?_))
 refine xe (Zaa (Zac ?_))
 refine Zbc ((decide (((k:Nat):Int) < ((zs.length:Nat):Int)))) (by kernel_rfl) (fun hb10=>?_) (fun hb10=>?_)
 ·have hlt:k < zs.length:=by have:=of_decide_eq_true hb10; omega
  refine Zav (Zaa (Zac (ZaP (Zac (Zab (xq 2 [(5, .v (.int .i64 ((k:Nat):Int)))] [] ?_))))))
  refine xe (Zaa (Zac ?_))
  refine ZbJ 9 (by kernel_rfl) (by kernel_rfl) Zas ?_
  refine xqg 2 [eS1 16 A zs.length c,(17, .v (.int .i64 ((k:Nat):Int)))] ?_
  refine xqj 18 (atA A (k * 1)) (fun w Q=>ZaN (t:=22) (e:=3) (sz:=1) (x:=.tmp 16) (ix:=.tmp 17) (len:=zs.length) (cap:=c) (i:=k) ((Q.1).ne hlt) hlt) ?_
  refine xqj 19 (.int .i64 (nth zs k)) (fun w Q=>Zbd (t:=3) (x:=.tmp 18) (zs:=zs) (j:=k) (Q.1) hlt) ?_
  refine xqg 2 [eS1 20 B zs.length d,(21, .v (.int .i64 ((k:Nat):Int)))] ?_
  refine xqj 22 (atA B (k * 1)) (fun w Q=>ZaN (t:=22) (e:=3) (sz:=1) (x:=.tmp 20) (ix:=.tmp 21) (len:=zs.length) (cap:=d) (i:=k) ((Q.2).ne hlt) hlt) ?_
  refine xqj 23 (.int .i64 (nth zs k)) (fun w Q=>Zbd (t:=3) (x:=.tmp 22) (zs:=zs) (j:=k) (Q.2) hlt) ?_
  refine xqg 1 [(24, .v (.bool (((nth zs k):Int) != (nth zs k))))] ?_
  rw [Ze9]
  refine xz (xe (Zaa (xb (Zav (ZbP (Zaa (Zab (xq 1 [(25, .v (.int .i64 (IntKind.i64.wrap (((k:Nat):Int) + 1))))] [] ?_))))))))
  rw [(show IntKind.i64.wrap (((k:Nat):Int) + 1)=((k + 1:Nat):Int) from by rw [IntKind.wrap_i64]; omega)]
  refine xq 1 [(13, .v (.int .i64 ((k + 1:Nat):Int)))] [] ?_
  refine xe ?_
  refine SXq.weak [(0, .v (.slice A zs.length c)),(1, .v (.slice B zs.length d)),(4, .v (.bool false)),(12, .v (.int .i64 ((zs.length:Nat):Int))),(13, .v (.int .i64 (((k + 1):Nat):Int)))] [] (Ψ:=fun w=>(IRow w A zs∧IRow w B zs)) (ZaM.of (by kernel_rfl)) (by kernel_rfl) (fun w Q=>⟨Q.1,Q.2⟩) ?_
  exact Zbm ((1 + (zs.length - (k + 1)))) (by omega) ⟨(k + 1),rfl,rfl,hlt,rfl⟩
 ·have hge:zs.length≤k:=by have:=of_decide_eq_false hb10; omega
  refine ZbL (Zaw (Zaw (Zcb (Zaa (Zac (Zab (xq 1 [(4, .v (.bool true))] [] ?_)))))))
  refine xe (Zaa (Zau ?_))
  refine Zai (v:=.bool true) (by kernel_rfl) (fun w' R Q=>?_)
  exact ⟨rfl,R⟩
theorem ZlA (A B:Option Addr) (c d n:Nat) (ts us:List TermR) (v:Int) (w:World) (hT:TRow w A ts) (hU:TRow w B us) (hk0:ts.map keyT=us.map keyT) (hn:ts.length=n) (hn2:us.length=n) (hl:n≤1000000) (hx:∀ i,i < ts.length→ts[i]!.exps.length≤1000000) :
 Calls Tryz.prog 22 #[.agg #[.int .i64 v, .slice A n c], .agg #[.int .i64 v, .slice B n d]] w (RetV w (.bool true)):=by
 refine Za6 (Φ:=fun w=>(TRow w A ts∧TRow w B us)) Tryz.func22 rfl (by kernel_rfl) (fun w' hf=>⟨hT.ext hf,hU.ext hf⟩) ?_
 refine Zac (Zab (xq 3 [(2, .p 2 0),(3, .p 3 0),(4, .v (.bool false))] [(3,43,[.v (.int .i64 v), .v (.slice B n d)]),(2,43,[.v (.int .i64 v), .v (.slice A n c)])] ?_))
 refine xe (Zaa (Zac (Zac (Zab (xq 5 [(10, .v (.bool ((v:Int) != v)))] [] ?_)))))
 rw [Ze9]
 refine xq 8 [(11, .v (.bool false)),(18, .v (.bool ((((n:Nat):Int):Int) != ((n:Nat):Int))))] [] ?_
 rw [Ze9]
 refine xq 1 [(19, .v (.bool false))] [] ?_
 refine xe (Zaa (xb (Zav (Zaa (Zac (Zac (Zab (xq 4 [(22, .v (.int .i64 ((n:Nat):Int))),(23, .v (.int .i64 0))] [] ?_))))))))
 refine xe (Zaa (ZaP ?_))
 refine SXc.weak [(2, .p 2 0),(3, .p 3 0),(4, .v (.bool false)),(22, .v (.int .i64 ((n:Nat):Int))),(23, .v (.int .i64 ((0:Nat):Int)))] [(3,43,[.v (.int .i64 v), .v (.slice B n d)]),(2,43,[.v (.int .i64 v), .v (.slice A n c)])] (Ψ:=fun w=>(TRow w A ts∧TRow w B us)) (ZaM.of (by kernel_rfl)) (by kernel_rfl) (fun w Q=>⟨Q.1,Q.2⟩) ?_
 refine ZbU (fun nn ss ff=>∃ (k:Nat),ss=ofL [(2, .p 2 0),(3, .p 3 0),(4, .v (.bool false)),(22, .v (.int .i64 ((n:Nat):Int))),(23, .v (.int .i64 ((k:Nat):Int)))] [(3,43,[.v (.int .i64 v), .v (.slice B n d)]),(2,43,[.v (.int .i64 v), .v (.slice A n c)])]∧ff=(fun w=>(TRow w A ts∧TRow w B us))∧(k≤n)∧nn=(1 + (n - k))) ((1 + (n - 0))) ⟨0,rfl,rfl,(Nat.zero_le _),rfl⟩ ?_
 rintro nn ss ff ⟨k,rfl,rfl,hk,rfl⟩
 refine Zac (Zab (xq 1 [(24, .v (.bool (decide (((k:Nat):Int) < ((n:Nat):Int)))))] [] ?_))
 refine xe (Zaa (Zac ?_))
 refine Zbc ((decide (((k:Nat):Int) < ((n:Nat):Int)))) (by kernel_rfl) (fun hb10=>?_) (fun hb10=>?_)
 ·have hlt:k < n:=by have:=of_decide_eq_true hb10; omega
  obtain ⟨t,ht⟩:∃ x,ts[k]! = x:=⟨_,rfl⟩
  obtain ⟨u,hu⟩:∃ x,us[k]! = x:=⟨_,rfl⟩
  have hkk:=ZeN hk0 k
  rw [ht,hu] at hkk
  have huc:u.coef=t.coef:=hkk.1.symm
  have hux:u.exps=t.exps:=hkk.2.symm
  have hlu:k < us.length:=by omega
  have hxl:=ht ▸ hx k (by omega)
  have hlt0:k < ts.length:=by omega
  refine Zav (Zaa (Zac (ZaP (Zac ?_))))
  refine SXc.know (p:=(∃ b off,A=some ⟨b,off,none⟩)∧∃ b off,B=some ⟨b,off,none⟩) (fun w _ Q=>⟨TRow.at_ Q.1 hlt0,TRow.at_ Q.2 hlu⟩) (fun hAB=>?_)
  obtain ⟨⟨ta,tf,hA⟩,ub,uf,hB⟩:=hAB
  refine Zab (xq 2 [(5, .v (.int .i64 ((k:Nat):Int)))] [] ?_)
  refine xe (Zaa (Zac ?_))
  refine ZbK 29 [0,1,0,7,15,31,0,64,0,448,960,1984,4095,8191,16383,32767,16383,131071,262143,524287,16383,1064959,16383,7356415,15745023,32522239,67108863,134217727,268435455] (by kernel_rfl) (by kernel_rfl) Zas ?_
  refine xqg 3 [eS1 27 A n c,(28, .v (.int .i64 ((k:Nat):Int)))] ?_
  refine xqj 29 (.pointer (some ⟨ta,tf + k * 2,none⟩)) (fun w Q=>ZaV hA (t:=41) (e:=53) (sz:=2) (x:=.tmp 27) (ix:=.tmp 28) (len:=n) (cap:=c) (i:=k) hlt) ?_
  refine xqg 1 [(30, .v (.pointer (some ⟨ta,tf + k * 2,none⟩)))] ?_
  refine xqj 31 (.string t.coef) (fun w Q=>by rw [← ht]; exact Zh6 hA (t:=9) (x:=.tmp 30) (ts:=ts) (j:=k) (Q.1) (by omega)) ?_
  refine xqg 3 [eS1 33 B n d,(34, .v (.int .i64 ((k:Nat):Int)))] ?_
  refine xqj 35 (.pointer (some ⟨ub,uf + k * 2,none⟩)) (fun w Q=>ZaV hB (t:=41) (e:=53) (sz:=2) (x:=.tmp 33) (ix:=.tmp 34) (len:=n) (cap:=d) (i:=k) hlt) ?_
  refine xqg 1 [(36, .v (.pointer (some ⟨ub,uf + k * 2,none⟩)))] ?_
  refine xqj 37 (.string t.coef) (fun w Q=>by rw [← huc,← hu]; exact Zh6 hB (t:=9) (x:=.tmp 36) (ts:=us) (j:=k) (Q.2) (by omega)) ?_
  refine xqg 1 [(38, .v (.bool (!((t.coef:ByteArray).toList == (t.coef:ByteArray).toList))))] ?_
  rw [ZfJ,Bool.not_true]
  refine xqg 4 [(39, .v (.bool false)),eS1 41 A n c,(42, .v (.int .i64 ((k:Nat):Int)))] ?_
  refine xqj 43 (.pointer (some ⟨ta,tf + k * 2,none⟩)) (fun w Q=>ZaV hA (t:=41) (e:=53) (sz:=2) (x:=.tmp 41) (ix:=.tmp 42) (len:=n) (cap:=c) (i:=k) hlt) ?_
  refine xqg 1 [(44, .v (.pointer (some ⟨ta,tf + k * 2 + 1,none⟩)))] ?_
  refine xqj 45 (.slice t.A t.exps.length t.cap) (fun w Q=>by rw [← ht]; exact Zbk hA (t:=22) (x:=.tmp 44) (ts:=ts) (j:=k) (Q.1) (by omega)) ?_
  refine xqg 3 [eS1 47 B n d,(48, .v (.int .i64 ((k:Nat):Int)))] ?_
  refine xqj 49 (.pointer (some ⟨ub,uf + k * 2,none⟩)) (fun w Q=>ZaV hB (t:=41) (e:=53) (sz:=2) (x:=.tmp 47) (ix:=.tmp 48) (len:=n) (cap:=d) (i:=k) hlt) ?_
  refine xqg 1 [(50, .v (.pointer (some ⟨ub,uf + k * 2 + 1,none⟩)))] ?_
  refine xqj 51 (.slice u.A t.exps.length u.cap) (fun w Q=>by rw [← hux,← hu]; exact Zbk hB (t:=22) (x:=.tmp 50) (ts:=us) (j:=k) (Q.2) (by omega)) ?_
  refine xqd 47 [.slice t.A t.exps.length t.cap, .slice u.A t.exps.length u.cap] 52 (fun _:Unit=>.bool true) _ (fun w R Q=>(Zlz t.A u.A t.cap u.cap t.exps _ (ht ▸ TRow.exps Q.1 hlt0) (hux ▸ (hu ▸ TRow.exps Q.2 hlu)) (by omega)).mono (fun _ _ h=>Zay h rfl)) (fun xx=>?_)
  refine xqg 2 [(54, .v (.bool false))] ?_
  refine xz (xe (Zaa (xb (Zav (ZbP (Zaa (Zab (xr 1 [(2, .p 2 0),(3, .p 3 0),(4, .v (.bool false)),(22, .v (.int .i64 ((n:Nat):Int))),(23, .v (.int .i64 ((k:Nat):Int))),(55, .v (.int .i64 (IntKind.i64.wrap (((k:Nat):Int) + 1))))] [(3,43,[.v (.int .i64 v), .v (.slice B n d)]),(2,43,[.v (.int .i64 v), .v (.slice A n c)])] ?_))))))))
  rw [(show IntKind.i64.wrap (((k:Nat):Int) + 1)=((k + 1:Nat):Int) from by rw [IntKind.wrap_i64]; omega)]
  refine xq 1 [(23, .v (.int .i64 ((k + 1:Nat):Int)))] [] ?_
  refine xe ?_
  refine SXq.weak [(2, .p 2 0),(3, .p 3 0),(4, .v (.bool false)),(22, .v (.int .i64 ((n:Nat):Int))),(23, .v (.int .i64 (((k + 1):Nat):Int)))] [(3,43,[.v (.int .i64 v), .v (.slice B n d)]),(2,43,[.v (.int .i64 v), .v (.slice A n c)])] (Ψ:=fun w=>(TRow w A ts∧TRow w B us)) (ZaM.of (by kernel_rfl)) (by kernel_rfl) (fun w Q=>⟨Q.1.1,Q.1.2⟩) ?_
  exact Zbm ((1 + (n - (k + 1)))) (by omega) ⟨(k + 1),rfl,rfl,hlt,rfl⟩
 ·have hge:n≤k:=by have:=of_decide_eq_false hb10; omega
  refine ZbL (Zaw (Zaw (Zcb (Zaa (Zac (Zab (xq 1 [(4, .v (.bool true))] [] ?_)))))))
  refine xe (Zaa (Zau ?_))
  refine Zai (v:=.bool true) (by kernel_rfl) (fun w' R Q=>?_)
  exact ⟨rfl,R⟩
end Go.Proofs.YtcpjeaaapocoeaaGreatDoor

namespace Go.Proofs.YtcpjeaaapocoeaaGreatDoor
open Go.RowKit
theorem Zrf {w:World} {m e n:Nat} {v:Value} {xs:List Value} (h:w.ownsRow m e 5 v n xs):xs.length=n * 5:=h.1
def Zcx (m:Nat) (B:Option Addr) (n:Nat) (s0:Value) (w:World):Prop:=0 < n→∃ rb cur,m≤rb∧B=some ⟨rb,0,none⟩∧Blk 159 w rb cur∧cur[4]? = some s0
theorem Zcx.fr {m n:Nat} {B:Option Addr} {s0:Value} {w w':World} {T:Nat→Prop} (h:Zcx m B n s0 w) (hF:Fr T w w') (hT:∀ i,T i→i < m):Zcx m B n s0 w':=fun hn=>by
 obtain ⟨rb,cur,h1,h2,h3,h4⟩:=h hn
 exact ⟨rb,cur,h1,h2,h3.fr hF (fun h=>by have:=hT _ h; omega),h4⟩
theorem Zcx.mono {m m' n:Nat} {B:Option Addr} {s0:Value} {w:World} (hm:m'≤m) (h:Zcx m B n s0 w):Zcx m' B n s0 w:=fun hn=>by
 obtain ⟨rb,cur,h1,h2⟩:=h hn
 exact ⟨rb,cur,by omega,h2⟩
theorem Zcx.of {m m0 n cp:Nat} {B:Option Addr} {s0:Value} {xs:List Value} {w:World} (hm:m=m0) (h:w.ownsRow m0 159 5 (.slice B n cp) n xs) (hx:0 < n→xs[4]? = some s0):Zcx m B n s0 w:=fun hn=>by
 subst hm
 rcases h.2 with ⟨_,h3⟩ | ⟨b,c3,cur,h3,h4,h5,_,_,_,h6⟩
 ·omega
 ·injection h3 with h3
  refine ⟨b,cur,h4,h3,h5,?_⟩
  have:=hx hn
  rw [← h6,List.getElem?_take_of_lt (by omega)] at this
  simpa using this
theorem ZlD {xs:List Value} {ts:List TermR} {t:TermR} {j:Nat} {a b c d:Value} (hx:0 < j→xs[4]? = some (.slice ts[0]!.A ts[0]!.exps.length ts[0]!.cap)) (hj:j=0∨0 < j) (ht:ts[j]! = t) (hl:j=0→xs=[]) :
 0 < j + 1→(xs ++ [a,b,c,d, .slice t.A t.exps.length t.cap])[4]? = some (.slice ts[0]!.A ts[0]!.exps.length ts[0]!.cap):=fun _=>by
 rcases hj with hj | hj
 ·rw [hl hj]
  subst hj
  rw [ht]; rfl
 ·have h:=hx hj
  rw [List.getElem?_append_left (List.getElem?_eq_some_iff.1 h).1]
  exact h
def ZbG (w:World) (v:Int) (ts:List TermR) (e:Ending) (w':World):Prop :=
 if (decide (0≤v) && (decide (v≤6) && wfT v ts ts.length))=true then ∃ B d,e=.returned (.tuple #[.agg #[.int .i64 v, .slice B ts.length d], .bool true])∧Zcx w.heap.size B ts.length (.slice ts[0]!.A ts[0]!.exps.length ts[0]!.cap) w'∧Ext w w'
 else e=.returned (.tuple #[.agg #[.int .i64 0, .slice none 0 0], .bool false])∧Ext w w'
theorem ZbG.no {w w':World} {v:Int} {ts:List TermR} (h:(decide (0≤v) && (decide (v≤6) && wfT v ts ts.length))=false) (Q:Ext w w'):ZbG w v ts (.returned (.tuple #[.agg #[.int .i64 0, .slice none 0 0], .bool false])) w':=by
 unfold ZbG; rw [h]; exact ⟨rfl,Q⟩
theorem ZbG.yes {w w':World} {v x:Int} {j d:Nat} {B:Option Addr} {ts:List TermR} (h:(decide (0≤v) && (decide (v≤6) && wfT v ts ts.length))=true) (hx:x=v) (hj:j=ts.length) (hR:Zcx w.heap.size B j (.slice ts[0]!.A ts[0]!.exps.length ts[0]!.cap) w') (Q:Ext w w'):ZbG w v ts (.returned (.tuple #[.agg #[.int .i64 x, .slice B j d], .bool true])) w':=by
 subst hx hj
 unfold ZbG; rw [if_pos h]; exact ⟨B,d,rfl,hR,Q⟩
set_option maxHeartbeats 1000000 in
theorem Zkc (A:Option Addr) (c:Nat) (ts:List TermR) (v:Int) (w:World) (hT:TRow w A ts) (hn:ts.length≤4096) (hc:∀ i,i < ts.length→(bytes ts[i]!.coef).length≤570) :
 Calls Tryz.prog 321 #[.agg #[.int .i64 v, .slice A ts.length c]] w (ZbG w v ts):=by
 obtain ⟨m0,hm0⟩:∃ m,m=w.heap.size:=⟨_,rfl⟩
 refine Za6 (Φ:=fun w=>TRow w A ts) Tryz.func321 rfl (by kernel_rfl) (fun w' hf=>hT.ext hf) ?_
 refine Zac (Zab (xq 3 [(1, .p 1 0),(2, .p 2 0),(3, .v (.bool false))] [(2,50,[.v (.int .i64 0), .v (.slice none 0 0)]),(1,43,[.v (.int .i64 v), .v (.slice A ts.length c)])] ?_))
 refine xe (Zaa (Zac (Zab (xq 5 [(4, .p 4 0)] [(4,50,[.v (.int .i64 v), .v (.slice none 0 0)])] ?_))))
 refine xe (Zaa (Zac (Zac ?_)))
 by_cases hv0:v < 0
 ·refine Zab (xq 3 [(14, .v (.bool (decide (v < 0))))] [] ?_)
  rw [(show decide (v < 0)=true from decide_eq_true hv0)]
  refine xq 5 [(19, .v (.bool true))] [] ?_
  refine xe (Zaa (xa (Zac (Zab (xq 3 [(3, .v (.bool false))] [] ?_)))))
  refine xe (Zaa (Zau (Zae ?_)))
  refine Zai (v:=.tuple #[.agg #[.int .i64 0, .slice none 0 0], .bool false]) (by kernel_rfl) (fun w' R Q=>?_)
  exact ZbG.no (ZkB (by omega)) R
 ·by_cases hv7:v > 6
  ·refine Zab (xq 3 [(14, .v (.bool (decide (v < 0))))] [] ?_)
   rw [(show decide (v < 0)=false from decide_eq_false hv0)]
   refine xq 4 [(15, .v (.bool false)),(18, .v (.bool (decide (v > 6))))] [] ?_
   rw [(show decide (v > 6)=true from decide_eq_true hv7)]
   refine xq 1 [(19, .v (.bool true))] [] ?_
   refine xe (Zaa (xa (Zac (Zab (xq 3 [(3, .v (.bool false))] [] ?_)))))
   refine xe (Zaa (Zau (Zae ?_)))
   refine Zai (v:=.tuple #[.agg #[.int .i64 0, .slice none 0 0], .bool false]) (by kernel_rfl) (fun w' R Q=>?_)
   exact ZbG.no (ZkB (by omega)) R
  ·refine Zab (xq 3 [(14, .v (.bool (decide (v < 0))))] [] ?_)
   rw [(show decide (v < 0)=false from decide_eq_false hv0)]
   refine xq 4 [(15, .v (.bool false)),(18, .v (.bool (decide (v > 6))))] [] ?_
   rw [(show decide (v > 6)=false from decide_eq_false hv7)]
   refine xq 1 [(19, .v (.bool false))] [] ?_
   refine xe (Zaa (xb (Zav (Zaa (Zac (Zac (Zab (xq 1 [(5, .v (.int .i64 0))] [] ?_))))))))
   refine xe (Zaa (ZaP ?_))
   refine SXc.weak [(1, .p 1 0),(2, .p 2 0),(3, .v (.bool false)),(4, .p 4 0),(5, .v (.int .i64 ((0:Nat):Int)))] [(4,50,[.v (.int .i64 v), .v (.slice none 0 0)]),(2,50,[.v (.int .i64 0), .v (.slice none 0 0)]),(1,43,[.v (.int .i64 v), .v (.slice A ts.length c)])] (Ψ:=fun w=>(TRow w A ts∧w.ownsRow m0 159 5 (.slice none 0 0) 0 [])) (ZaM.of (by kernel_rfl)) (by kernel_rfl) (fun w Q=>⟨Q,World.ownsRow_nil w m0 159 5⟩) ?_
   refine ZbU (fun nn ss ff=>∃ (j cp:Nat) (B:Option Addr) (xs:List Value),ss=ofL [(1, .p 1 0),(2, .p 2 0),(3, .v (.bool false)),(4, .p 4 0),(5, .v (.int .i64 ((j:Nat):Int)))] [(4,50,[.v (.int .i64 v), .v (.slice B j cp)]),(2,50,[.v (.int .i64 0), .v (.slice none 0 0)]),(1,43,[.v (.int .i64 v), .v (.slice A ts.length c)])]∧ff=(fun w=>(TRow w A ts∧w.ownsRow m0 159 5 (.slice B j cp) j xs))∧(j≤ts.length)∧(wfT v ts j=true)∧(j=0→B=none)∧(0 < j→xs[4]? = some (.slice ts[0]!.A ts[0]!.exps.length ts[0]!.cap))∧nn=(1 + (ts.length - j))) ((1 + (ts.length - 0))) ⟨0,0,none,[],rfl,rfl,(Nat.zero_le _),rfl,(fun _=>rfl),(fun h=>absurd h (Nat.lt_irrefl 0)),rfl⟩ ?_
   rintro nn ss ff ⟨j,cp,B,xs,rfl,rfl,hj,hwf,hB,hx0,rfl⟩
   refine Zac (Zac (Zab (xq 5 [(25, .v (.bool (decide (((j:Nat):Int) < ((ts.length:Nat):Int)))))] [] ?_)))
   refine xe (Zaa ?_)
   refine Zbc ((decide (((j:Nat):Int) < ((ts.length:Nat):Int)))) (by kernel_rfl) (fun hb10=>?_) (fun hb10=>?_)
   ·have hlt:j < ts.length:=by have:=of_decide_eq_true hb10; omega
    obtain ⟨t,ht⟩:∃ x,ts[j]! = x:=⟨_,rfl⟩
    refine Zav (Zaa (Zac (ZaP (Zac ?_))))
    refine SXc.know (p:=∃ ta tf,A=some ⟨ta,tf,none⟩) (fun w _ Q=>TRow.at_ Q.1 hlt) (fun hAe=>?_)
    obtain ⟨ta,tf,hAt⟩:=hAe
    refine SXc.know (p:=xs.length=j * 5) (fun w _ Q=>Zrf Q.2) (fun hxs5=>?_)
    refine Zab (xq 3 [eS1 30 A ts.length c,(31, .v (.int .i64 ((j:Nat):Int)))] [] ?_)
    refine xqk 32 (.pointer (some ⟨ta,tf + j * 2,none⟩)) (fun w R Q=>ZaV hAt (t:=41) (e:=53) (sz:=2) (x:=.tmp 30) (ix:=.tmp 31) (len:=ts.length) (cap:=c) (i:=j) (by omega)) ?_
    refine xq 1 [(33, .v (.pointer (some ⟨ta,tf + j * 2,none⟩)))] [] ?_
    refine xqk 34 (.string t.coef) (fun w R Q=>by rw [← ht]; exact Zh6 hAt (t:=9) (x:=.tmp 33) (ts:=ts) (j:=j) (Q.1) hlt) ?_
    rcases ZmN (ZaB (bytes t.coef)) with hr | ⟨q,hr⟩
    ·refine xqc 271 [.string t.coef] 35 (fun x:ShQ=>.tuple #[ZcL x, .bool false]) _ (fun w R Q=>(Zj8 t.coef _ (by have:=hc j hlt; rw [ht,Zag] at this; omega)).mono (fun _ _ h=>ZiU h hr)) (fun xx=>?_)
     obtain ⟨s11,A11,l11,c11,t11,B11,m11,d11⟩:=xx
     refine xq 6 [(6, .p 6 0),(7, .v (.bool false))] [bR4 6 157 s11 A11 l11 c11 t11 B11 m11 d11] ?_
     refine xe (Zaa (Zac (Zac ?_)))
     refine ZbK 19 [0,1,3,7,15,31,63,127,255,511,255,2047,4095,8191,16383,255,33023,131071,262143] (by kernel_rfl) (by kernel_rfl) Zas ?_
     refine xqg 19 [(56, .v (.bool true))] ?_
     refine xz (xe (Zaa (xa (Zac (Zab (xq 3 [(3, .v (.bool false))] [] ?_))))))
     refine xe (Zaa (Zau (Zae (ZaC (Zae (Zae (ZaC (Zae ?_))))))))
     refine Zai (v:=.tuple #[.agg #[.int .i64 0, .slice none 0 0], .bool false]) (by kernel_rfl) (fun w' R Q=>?_)
     exact ZbG.no (Ze6 (Zde (k:=j + 1) (Zew ht (Zju hr)) _ hlt)) R
    ·refine xqc 271 [.string t.coef] 35 (fun x:ShQ=>.tuple #[ZcL x, .bool true]) _ (fun w R Q=>(Zj8 t.coef _ (by have:=hc j hlt; rw [ht,Zag] at this; omega)).mono (fun _ _ h=>ZiV h hr)) (fun xx=>?_)
     obtain ⟨s12,A12,l12,c12,t12,B12,m12,d12⟩:=xx
     refine xq 6 [(6, .p 6 0),(7, .v (.bool true))] [bR4 6 157 s12 A12 l12 c12 t12 B12 m12 d12] ?_
     refine xe (Zaa (Zac (Zac ?_)))
     by_cases hz:q.num=0
     ·refine ZbK 19 [0,1,3,7,15,31,63,127,255,511,255,2047,4095,8191,16383,255,33023,131071,262143] (by kernel_rfl) (by kernel_rfl) Zas ?_
      refine xqg 4 [(40, .v (.bool false)),eR4 41 s12 A12 l12 c12 t12 B12 m12 d12] ?_
      refine xqd 165 [vR4 s12 A12 l12 c12 t12 B12 m12 d12] 42 (fun _:Unit=>.int .i64 q.num.sign) _ (fun w R Q=>(ZfR _ q _ Q.2).mono (fun _ _ h=>Zay h rfl)) (fun xx=>?_)
      refine xqg 1 [(43, .v (.bool ((q.num.sign:Int) == 0)))] ?_
      rw [(show ((q.num.sign:Int) == 0)=true from by simp [hz])]
      refine xqg 13 [(56, .v (.bool true))] ?_
      refine xz (xe (Zaa (xa (Zac (Zab (xq 3 [(3, .v (.bool false))] [] ?_))))))
      refine xe (Zaa (Zau (Zae (ZaC (Zae (Zae (ZaC (Zae ?_))))))))
      refine Zai (v:=.tuple #[.agg #[.int .i64 0, .slice none 0 0], .bool false]) (by kernel_rfl) (fun w' R Q=>?_)
      exact ZbG.no (Ze6 (Zde (k:=j + 1) (Zew ht (Zjv hr hz)) _ hlt)) R
     ·by_cases hlen:(t.exps.length:Int)=v
      ·refine ZbK 19 [0,1,3,7,15,31,63,127,255,511,255,2047,4095,8191,16383,255,33023,131071,262143] (by kernel_rfl) (by kernel_rfl) Zas ?_
       refine xqg 4 [(40, .v (.bool false)),eR4 41 s12 A12 l12 c12 t12 B12 m12 d12] ?_
       refine xqd 165 [vR4 s12 A12 l12 c12 t12 B12 m12 d12] 42 (fun _:Unit=>.int .i64 q.num.sign) _ (fun w R Q=>(ZfR _ q _ Q.2).mono (fun _ _ h=>Zay h rfl)) (fun xx=>?_)
       refine xqg 1 [(43, .v (.bool ((q.num.sign:Int) == 0)))] ?_
       rw [(show ((q.num.sign:Int) == 0)=false from by simp [hz])]
       refine xqg 5 [(45, .v (.bool false)),eS1 47 A ts.length c,(48, .v (.int .i64 ((j:Nat):Int)))] ?_
       refine xqj 49 (.pointer (some ⟨ta,tf + j * 2,none⟩)) (fun w Q=>ZaV hAt (t:=41) (e:=53) (sz:=2) (x:=.tmp 47) (ix:=.tmp 48) (len:=ts.length) (cap:=c) (i:=j) (by omega)) ?_
       refine xqg 1 [(50, .v (.pointer (some ⟨ta,tf + j * 2 + 1,none⟩)))] ?_
       refine xqj 51 (.slice t.A t.exps.length t.cap) (fun w Q=>by rw [← ht]; exact Zbk hAt (t:=22) (x:=.tmp 50) (ts:=ts) (j:=j) (Q.1.1) (by omega)) ?_
       refine xqg 4 [(55, .v (.bool ((((t.exps.length:Nat):Int):Int) != v)))] ?_
       rw [(show ((((t.exps.length:Nat):Int):Int) != v)=false from by simp [hlen])]
       refine xqg 1 [(56, .v (.bool false))] ?_
       refine xz (xe (Zaa (xb (Zav (Zaa (Zac (Zac (Zab (xq 1 [(8, .v (.int .i64 0))] [] ?_)))))))))
       refine xe (Zaa (ZaP ?_))
       refine SXc.weak [(1, .p 1 0),(2, .p 2 0),(3, .v (.bool false)),(4, .p 4 0),(5, .v (.int .i64 ((j:Nat):Int))),(6, .p 6 0),(8, .v (.int .i64 ((0:Nat):Int)))] [(6,157,[.v (.bool s12), .v (.slice A12 l12 c12), .v (.bool t12), .v (.slice B12 m12 d12)]),(4,50,[.v (.int .i64 v), .v (.slice B j cp)]),(2,50,[.v (.int .i64 0), .v (.slice none 0 0)]),(1,43,[.v (.int .i64 v), .v (.slice A ts.length c)])] (Ψ:=fun w=>(TRow w A ts∧w.ownsRow m0 159 5 (.slice B j cp) j xs)) (ZaM.of (by kernel_rfl)) (by kernel_rfl) (fun w Q=>⟨Q.1.1.1,Q.1.1.2⟩) ?_
       refine ZbU (fun nn ss ff=>∃ (k:Nat),ss=ofL [(1, .p 1 0),(2, .p 2 0),(3, .v (.bool false)),(4, .p 4 0),(5, .v (.int .i64 ((j:Nat):Int))),(6, .p 6 0),(8, .v (.int .i64 ((k:Nat):Int)))] [(6,157,[.v (.bool s12), .v (.slice A12 l12 c12), .v (.bool t12), .v (.slice B12 m12 d12)]),(4,50,[.v (.int .i64 v), .v (.slice B j cp)]),(2,50,[.v (.int .i64 0), .v (.slice none 0 0)]),(1,43,[.v (.int .i64 v), .v (.slice A ts.length c)])]∧ff=(fun w=>(TRow w A ts∧w.ownsRow m0 159 5 (.slice B j cp) j xs))∧(k≤t.exps.length)∧(∀ i,i < k→expB (nth t.exps i)=true)∧nn=(1 + (t.exps.length - k))) ((1 + (t.exps.length - 0))) ⟨0,rfl,rfl,(Nat.zero_le _),(fun i hi=>absurd hi (Nat.not_lt_zero i)),rfl⟩ ?_
       rintro nn ss ff ⟨k,rfl,rfl,hk,hall,rfl⟩
       refine Zac (Zac (Zab (xq 4 [(61, .v (.bool (decide (((k:Nat):Int) < v))))] [] ?_)))
       refine xe (Zaa ?_)
       refine Zbc ((decide (((k:Nat):Int) < v))) (by kernel_rfl) (fun hb13=>?_) (fun hb13=>?_)
       ·have hk2:k < t.exps.length:=by have:=of_decide_eq_true hb13; omega
        refine Zav (Zaa (Zac (ZaP (Zac ?_))))
        by_cases h0:nth t.exps k < 0
        ·refine Zab (xq 3 [eS1 65 A ts.length c,(66, .v (.int .i64 ((j:Nat):Int)))] [] ?_)
         refine xqk 67 (.pointer (some ⟨ta,tf + j * 2,none⟩)) (fun w R Q=>ZaV hAt (t:=41) (e:=53) (sz:=2) (x:=.tmp 65) (ix:=.tmp 66) (len:=ts.length) (cap:=c) (i:=j) (by omega)) ?_
         refine xq 1 [(68, .v (.pointer (some ⟨ta,tf + j * 2 + 1,none⟩)))] [] ?_
         refine xqk 69 (.slice t.A t.exps.length t.cap) (fun w R Q=>by rw [← ht]; exact Zbk hAt (t:=22) (x:=.tmp 68) (ts:=ts) (j:=j) (Q.1) (by omega)) ?_
         refine xq 1 [(70, .v (.int .i64 ((k:Nat):Int)))] [] ?_
         refine xqk 71 (atA t.A (k * 1)) (fun w R Q=>ZaN (t:=22) (e:=3) (sz:=1) (x:=.tmp 69) (ix:=.tmp 70) (len:=t.exps.length) (cap:=t.cap) (i:=k) ((ht ▸ TRow.exps Q.1 hlt:IRow _ t.A t.exps).ne (i:=k) hk2) hk2) ?_
         refine xqk 72 (.int .i64 (nth t.exps k)) (fun w R Q=>Zbd (t:=3) (x:=.tmp 71) (zs:=t.exps) (j:=k) (ht ▸ TRow.exps Q.1 hlt) hk2) ?_
         refine xq 1 [(73, .v (.bool (decide ((nth t.exps k) < 0))))] [] ?_
         rw [(show decide (nth t.exps k < 0)=true from decide_eq_true h0)]
         refine xq 12 [(85, .v (.bool true))] [] ?_
         refine xe (Zaa (xa (Zac (Zab (xq 3 [(3, .v (.bool false))] [] ?_)))))
         refine xe (Zaa (Zau (ZaC (Zae (Zae (ZaC (Zae (ZaC (Zae (Zae (ZaC (Zae ?_))))))))))))
         refine Zai (v:=.tuple #[.agg #[.int .i64 0, .slice none 0 0], .bool false]) (by kernel_rfl) (fun w' R Q=>?_)
         exact ZbG.no (Ze6 (Zde (k:=j + 1) (Zew ht (Zhj (ZfO hk2 (Zhk (Or.inl h0))))) _ hlt)) R
        ·by_cases h1:nth t.exps k > 1048576
         ·refine Zab (xq 3 [eS1 65 A ts.length c,(66, .v (.int .i64 ((j:Nat):Int)))] [] ?_)
          refine xqk 67 (.pointer (some ⟨ta,tf + j * 2,none⟩)) (fun w R Q=>ZaV hAt (t:=41) (e:=53) (sz:=2) (x:=.tmp 65) (ix:=.tmp 66) (len:=ts.length) (cap:=c) (i:=j) (by omega)) ?_
          refine xq 1 [(68, .v (.pointer (some ⟨ta,tf + j * 2 + 1,none⟩)))] [] ?_
          refine xqk 69 (.slice t.A t.exps.length t.cap) (fun w R Q=>by rw [← ht]; exact Zbk hAt (t:=22) (x:=.tmp 68) (ts:=ts) (j:=j) (Q.1) (by omega)) ?_
          refine xq 1 [(70, .v (.int .i64 ((k:Nat):Int)))] [] ?_
          refine xqk 71 (atA t.A (k * 1)) (fun w R Q=>ZaN (t:=22) (e:=3) (sz:=1) (x:=.tmp 69) (ix:=.tmp 70) (len:=t.exps.length) (cap:=t.cap) (i:=k) ((ht ▸ TRow.exps Q.1 hlt:IRow _ t.A t.exps).ne (i:=k) hk2) hk2) ?_
          refine xqk 72 (.int .i64 (nth t.exps k)) (fun w R Q=>Zbd (t:=3) (x:=.tmp 71) (zs:=t.exps) (j:=k) (ht ▸ TRow.exps Q.1 hlt) hk2) ?_
          refine xq 1 [(73, .v (.bool (decide ((nth t.exps k) < 0))))] [] ?_
          rw [(show decide (nth t.exps k < 0)=false from decide_eq_false h0)]
          refine xq 4 [(74, .v (.bool false)),eS1 76 A ts.length c,(77, .v (.int .i64 ((j:Nat):Int)))] [] ?_
          refine xqk 78 (.pointer (some ⟨ta,tf + j * 2,none⟩)) (fun w R Q=>ZaV hAt (t:=41) (e:=53) (sz:=2) (x:=.tmp 76) (ix:=.tmp 77) (len:=ts.length) (cap:=c) (i:=j) (by omega)) ?_
          refine xq 1 [(79, .v (.pointer (some ⟨ta,tf + j * 2 + 1,none⟩)))] [] ?_
          refine xqk 80 (.slice t.A t.exps.length t.cap) (fun w R Q=>by rw [← ht]; exact Zbk hAt (t:=22) (x:=.tmp 79) (ts:=ts) (j:=j) (Q.1) (by omega)) ?_
          refine xq 1 [(81, .v (.int .i64 ((k:Nat):Int)))] [] ?_
          refine xqk 82 (atA t.A (k * 1)) (fun w R Q=>ZaN (t:=22) (e:=3) (sz:=1) (x:=.tmp 80) (ix:=.tmp 81) (len:=t.exps.length) (cap:=t.cap) (i:=k) ((ht ▸ TRow.exps Q.1 hlt:IRow _ t.A t.exps).ne (i:=k) hk2) hk2) ?_
          refine xqk 83 (.int .i64 (nth t.exps k)) (fun w R Q=>Zbd (t:=3) (x:=.tmp 82) (zs:=t.exps) (j:=k) (ht ▸ TRow.exps Q.1 hlt) hk2) ?_
          refine xq 1 [(84, .v (.bool (decide ((nth t.exps k) > 1048576))))] [] ?_
          rw [(show decide (nth t.exps k > 1048576)=true from decide_eq_true h1)]
          refine xq 1 [(85, .v (.bool true))] [] ?_
          refine xe (Zaa (xa (Zac (Zab (xq 3 [(3, .v (.bool false))] [] ?_)))))
          refine xe (Zaa (Zau (ZaC (Zae (Zae (ZaC (Zae (ZaC (Zae (Zae (ZaC (Zae ?_))))))))))))
          refine Zai (v:=.tuple #[.agg #[.int .i64 0, .slice none 0 0], .bool false]) (by kernel_rfl) (fun w' R Q=>?_)
          exact ZbG.no (Ze6 (Zde (k:=j + 1) (Zew ht (Zhj (ZfO hk2 (Zhk (Or.inr h1))))) _ hlt)) R
         ·refine Zab (xq 3 [eS1 65 A ts.length c,(66, .v (.int .i64 ((j:Nat):Int)))] [] ?_)
          refine xqk 67 (.pointer (some ⟨ta,tf + j * 2,none⟩)) (fun w R Q=>ZaV hAt (t:=41) (e:=53) (sz:=2) (x:=.tmp 65) (ix:=.tmp 66) (len:=ts.length) (cap:=c) (i:=j) (by omega)) ?_
          refine xq 1 [(68, .v (.pointer (some ⟨ta,tf + j * 2 + 1,none⟩)))] [] ?_
          refine xqk 69 (.slice t.A t.exps.length t.cap) (fun w R Q=>by rw [← ht]; exact Zbk hAt (t:=22) (x:=.tmp 68) (ts:=ts) (j:=j) (Q.1) (by omega)) ?_
          refine xq 1 [(70, .v (.int .i64 ((k:Nat):Int)))] [] ?_
          refine xqk 71 (atA t.A (k * 1)) (fun w R Q=>ZaN (t:=22) (e:=3) (sz:=1) (x:=.tmp 69) (ix:=.tmp 70) (len:=t.exps.length) (cap:=t.cap) (i:=k) ((ht ▸ TRow.exps Q.1 hlt:IRow _ t.A t.exps).ne (i:=k) hk2) hk2) ?_
          refine xqk 72 (.int .i64 (nth t.exps k)) (fun w R Q=>Zbd (t:=3) (x:=.tmp 71) (zs:=t.exps) (j:=k) (ht ▸ TRow.exps Q.1 hlt) hk2) ?_
          refine xq 1 [(73, .v (.bool (decide ((nth t.exps k) < 0))))] [] ?_
          rw [(show decide (nth t.exps k < 0)=false from decide_eq_false h0)]
          refine xq 4 [(74, .v (.bool false)),eS1 76 A ts.length c,(77, .v (.int .i64 ((j:Nat):Int)))] [] ?_
          refine xqk 78 (.pointer (some ⟨ta,tf + j * 2,none⟩)) (fun w R Q=>ZaV hAt (t:=41) (e:=53) (sz:=2) (x:=.tmp 76) (ix:=.tmp 77) (len:=ts.length) (cap:=c) (i:=j) (by omega)) ?_
          refine xq 1 [(79, .v (.pointer (some ⟨ta,tf + j * 2 + 1,none⟩)))] [] ?_
          refine xqk 80 (.slice t.A t.exps.length t.cap) (fun w R Q=>by rw [← ht]; exact Zbk hAt (t:=22) (x:=.tmp 79) (ts:=ts) (j:=j) (Q.1) (by omega)) ?_
          refine xq 1 [(81, .v (.int .i64 ((k:Nat):Int)))] [] ?_
          refine xqk 82 (atA t.A (k * 1)) (fun w R Q=>ZaN (t:=22) (e:=3) (sz:=1) (x:=.tmp 80) (ix:=.tmp 81) (len:=t.exps.length) (cap:=t.cap) (i:=k) ((ht ▸ TRow.exps Q.1 hlt:IRow _ t.A t.exps).ne (i:=k) hk2) hk2) ?_
          refine xqk 83 (.int .i64 (nth t.exps k)) (fun w R Q=>Zbd (t:=3) (x:=.tmp 82) (zs:=t.exps) (j:=k) (ht ▸ TRow.exps Q.1 hlt) hk2) ?_
          refine xq 1 [(84, .v (.bool (decide ((nth t.exps k) > 1048576))))] [] ?_
          rw [(show decide (nth t.exps k > 1048576)=false from decide_eq_false h1)]
          refine xq 1 [(85, .v (.bool false))] [] ?_
          refine xe (Zaa (xb (Zav (ZbP (Zaa (Zab (xq 2 [(63, .v (.int .i64 (IntKind.i64.wrap (((k:Nat):Int) + 1))))] [] ?_)))))))
          rw [(show IntKind.i64.wrap (((k:Nat):Int) + 1)=((k + 1:Nat):Int) from by rw [IntKind.wrap_i64]; omega)]
          refine xq 1 [(8, .v (.int .i64 ((k + 1:Nat):Int)))] [] ?_
          refine xe ?_
          refine SXq.weak [(1, .p 1 0),(2, .p 2 0),(3, .v (.bool false)),(4, .p 4 0),(5, .v (.int .i64 ((j:Nat):Int))),(6, .p 6 0),(8, .v (.int .i64 (((k + 1):Nat):Int)))] [(6,157,[.v (.bool s12), .v (.slice A12 l12 c12), .v (.bool t12), .v (.slice B12 m12 d12)]),(4,50,[.v (.int .i64 v), .v (.slice B j cp)]),(2,50,[.v (.int .i64 0), .v (.slice none 0 0)]),(1,43,[.v (.int .i64 v), .v (.slice A ts.length c)])] (Ψ:=fun w=>(TRow w A ts∧w.ownsRow m0 159 5 (.slice B j cp) j xs)) (ZaM.of (by kernel_rfl)) (by kernel_rfl) (fun w Q=>⟨Q.1,Q.2⟩) ?_
          exact Zbm ((1 + (t.exps.length - (k + 1)))) (by omega) ⟨(k + 1),rfl,rfl,hk2,(fun i hi=>by rcases (by omega:i < k∨i=k) with h | rfl; exact hall i h; exact Zmz h0 h1),rfl⟩
       ·have hkge:t.exps.length≤k:=by have:=of_decide_eq_false hb13; omega
        refine ZbL (Zaw (Zaw (Zcb (Zaa (Zac (Zac ?_))))))
        have htok:ZaF v t=true:=ZmP hr hz hlen (Zmy (fun i hi=>hall i (by omega)))
        by_cases hj0:j=0
        ·refine ZbK 19 [0,1,3,7,15,7,39,127,255,511,7,1031,7,7175,15367,31751,65535,131071,262143] (by kernel_rfl) (by kernel_rfl) Zas ?_
         refine xqg 2 [(88, .v (.bool (decide (((j:Nat):Int) > 0))))] ?_
         rw [(show decide (((j:Nat):Int) > 0)=false from decide_eq_false (by omega))]
         refine xqg 17 [(105, .v (.bool false))] ?_
         refine xz (xe (Zaa (xb (Zav (Zaa ?_)))))
         refine ZlC 8 11 ?_
         refine xqg 6 [eS1 108 B j cp,eR4 109 s12 A12 l12 c12 t12 B12 m12 d12,eS1 111 A ts.length c,(112, .v (.int .i64 ((j:Nat):Int)))] ?_
         refine xqj 113 (.pointer (some ⟨ta,tf + j * 2,none⟩)) (fun w Q=>ZaV hAt (t:=41) (e:=53) (sz:=2) (x:=.tmp 111) (ix:=.tmp 112) (len:=ts.length) (cap:=c) (i:=j) (by omega)) ?_
         refine xqg 1 [(114, .v (.pointer (some ⟨ta,tf + j * 2 + 1,none⟩)))] ?_
         refine xqj 115 (.slice t.A t.exps.length t.cap) (fun w Q=>by rw [← ht]; exact Zbk hAt (t:=22) (x:=.tmp 114) (ts:=ts) (j:=j) (Q.1) (by omega)) ?_
         refine xqg 1 [(116, .v (.agg #[.bool s12, .slice A12 l12 c12, .bool t12, .slice B12 m12 d12, .slice t.A t.exps.length t.cap]))] ?_
         refine Zhd 117 (fun zb:Nat=>.slice (some ⟨zb,0,none⟩) 1 1) (fun zb zw=>Blk 159 zw zb #[.bool s12, .slice A12 l12 c12, .bool t12, .slice B12 m12 d12, .slice t.A t.exps.length t.cap]) (by kernel_rfl) (by kernel_rfl) (by kernel_rfl) (by kernel_rfl) (by kernel_rfl) (by kernel_rfl) (by kernel_rfl) (fun w R Q=>Zbs (t:=48) (e:=159) (n:=1) (sz:=5) (z:=.agg #[.bool false, .slice none 0 0, .bool false, .slice none 0 0, .slice none 0 0]) (parts:=#[(0,Operand.tmp 116)]) (by kernel_rfl) (by kernel_rfl) (by kernel_rfl) (by kernel_rfl) (by kernel_rfl) (by kernel_rfl)) (fun b14=>?_)
         refine xf 0 [(1, .p 1 0),(2, .p 2 0),(3, .v (.bool false)),(4, .p 4 0),(5, .v (.int .i64 ((j:Nat):Int))),eS1 108 B j cp,eS1 117 (some ⟨b14,0,none⟩) 1 1] [bR4 6 157 s12 A12 l12 c12 t12 B12 m12 d12,(4,50,[.v (.int .i64 v), .v (.slice B j cp)]),(2,50,[.v (.int .i64 0), .v (.slice none 0 0)]),(1,43,[.v (.int .i64 v), .v (.slice A ts.length c)])] ?_
         refine xz ?_
         have hxl:j=0→xs=[]:=fun h=>List.eq_nil_of_length_eq_zero (by rw [hxs5,h])
         refine Zhe (base:=m0) (d:=118) (k:=5) (n:=j) (m:=1) (cap:=cp) (bytes:=88) (t:=48) (e:=159) (s0:=.tmp 108) (x:=.tmp 117) (xs:=xs) (news:=[.bool s12, .slice A12 l12 c12, .bool t12, .slice B12 m12 d12, .slice t.A t.exps.length t.cap]) (z:=(.agg #[.bool false, .slice none 0 0, .bool false, .slice none 0 0, .slice none 0 0])) hm0.symm B b14 1 (fun w=>TRow w A ts) (fun w Q=>Q.1.2) (fun w Q=>Q.2) rfl (by decide) rfl (by decide) (by simp [Value.oneCell']) (by simp only [maxLen]; omega) (by omega) hB (fun w w2 R Q hF=>hT.ext R) (fun B' cp' hB'=>?_)
         refine xr 2 [(1, .p 1 0),(2, .p 2 0),(3, .v (.bool false)),(4, .p 4 0),(5, .v (.int .i64 ((j:Nat):Int)))] [(4,50,[.v (.int .i64 v), .v (.slice B' (j + 1) cp')]),(2,50,[.v (.int .i64 0), .v (.slice none 0 0)]),(1,43,[.v (.int .i64 v), .v (.slice A ts.length c)])] ?_
         refine xe (ZbP (Zaa (Zab (xq 2 [(27, .v (.int .i64 (IntKind.i64.wrap (((j:Nat):Int) + 1))))] [] ?_))))
         rw [(show IntKind.i64.wrap (((j:Nat):Int) + 1)=((j + 1:Nat):Int) from by rw [IntKind.wrap_i64]; omega)]
         refine xq 1 [(5, .v (.int .i64 ((j + 1:Nat):Int)))] [] ?_
         refine xe ?_
         refine SXq.weak [(1, .p 1 0),(2, .p 2 0),(3, .v (.bool false)),(4, .p 4 0),(5, .v (.int .i64 (((j + 1):Nat):Int)))] [(4,50,[.v (.int .i64 v), .v (.slice B' (j + 1) cp')]),(2,50,[.v (.int .i64 0), .v (.slice none 0 0)]),(1,43,[.v (.int .i64 v), .v (.slice A ts.length c)])] (Ψ:=fun w=>(TRow w A ts∧w.ownsRow m0 159 5 (.slice B' (j + 1) cp') (j + 1) (xs ++ [.bool s12, .slice A12 l12 c12, .bool t12, .slice B12 m12 d12, .slice t.A t.exps.length t.cap]))) (ZaM.of (by kernel_rfl)) (by kernel_rfl) (fun w Q=>⟨Q.1,Q.2⟩) ?_
         exact Zbm ((1 + (ts.length - (j + 1)))) (by omega) ⟨(j + 1),cp',B',(xs ++ [.bool s12, .slice A12 l12 c12, .bool t12, .slice B12 m12 d12, .slice t.A t.exps.length t.cap]),rfl,rfl,hlt,(ZfW hwf ht htok (Or.inl hj0)),(fun h=>by omega),(ZlD hx0 (Or.inl hj0) ht hxl),rfl⟩
        ·obtain ⟨u,hu⟩:∃ x,ts[j - 1]! = x:=⟨_,rfl⟩
         have hul:=Zlm hwf (by omega) hu htok (by omega)
         by_cases ho:0 < ordF u.exps t.exps
         ·refine ZbK 19 [0,1,3,7,15,7,39,127,255,511,7,1031,7,7175,15367,31751,65535,131071,262143] (by kernel_rfl) (by kernel_rfl) Zas ?_
          refine xqg 2 [(88, .v (.bool (decide (((j:Nat):Int) > 0))))] ?_
          rw [(show decide (((j:Nat):Int) > 0)=true from decide_eq_true (by omega))]
          refine xqg 5 [(89, .v (.bool true)),eS1 91 A ts.length c,(93, .v (.int .i64 (IntKind.i64.wrap (((j:Nat):Int) - 1))))] ?_
          rw [(show IntKind.i64.wrap (((j:Nat):Int) - 1)=(((j - 1):Nat):Int) from by rw [IntKind.wrap_i64]; omega)]
          refine xqj 94 (.pointer (some ⟨ta,tf + (j - 1) * 2,none⟩)) (fun w Q=>ZaV hAt (t:=41) (e:=53) (sz:=2) (x:=.tmp 91) (ix:=.tmp 93) (len:=ts.length) (cap:=c) (i:=(j - 1)) (by omega)) ?_
          refine xqg 1 [(95, .v (.pointer (some ⟨ta,tf + (j - 1) * 2 + 1,none⟩)))] ?_
          refine xqj 96 (.slice u.A u.exps.length u.cap) (fun w Q=>by rw [← hu]; exact Zbk hAt (t:=22) (x:=.tmp 95) (ts:=ts) (j:=(j - 1)) (Q.1) (by omega)) ?_
          refine xqg 3 [eS1 98 A ts.length c,(99, .v (.int .i64 ((j:Nat):Int)))] ?_
          refine xqj 100 (.pointer (some ⟨ta,tf + j * 2,none⟩)) (fun w Q=>ZaV hAt (t:=41) (e:=53) (sz:=2) (x:=.tmp 98) (ix:=.tmp 99) (len:=ts.length) (cap:=c) (i:=j) (by omega)) ?_
          refine xqg 1 [(101, .v (.pointer (some ⟨ta,tf + j * 2 + 1,none⟩)))] ?_
          refine xqj 102 (.slice t.A t.exps.length t.cap) (fun w Q=>by rw [← ht]; exact Zbk hAt (t:=22) (x:=.tmp 101) (ts:=ts) (j:=j) (Q.1) (by omega)) ?_
          refine xqd 291 [.slice u.A u.exps.length u.cap, .slice t.A t.exps.length t.cap] 103 (fun _:Unit=>.int .i64 (ordF u.exps t.exps)) _ (fun w R Q=>(Zj9 u.A t.A u.cap t.cap u.exps t.exps _ hul.2.symm (hu ▸ TRow.exps Q.1 (by omega)) (ht ▸ TRow.exps Q.1 hlt) hul.1.1 hul.1.2).mono (fun _ _ h=>Zay h rfl)) (fun xx=>?_)
          refine xqg 1 [(104, .v (.bool (decide ((ordF u.exps t.exps)≤0))))] ?_
          rw [(show decide (ordF u.exps t.exps≤0)=false from decide_eq_false (by omega))]
          refine xqg 1 [(105, .v (.bool false))] ?_
          refine xz (xe (Zaa (xb (Zav (Zaa ?_)))))
          refine ZlC 8 11 ?_
          refine xqg 6 [eS1 108 B j cp,eR4 109 s12 A12 l12 c12 t12 B12 m12 d12,eS1 111 A ts.length c,(112, .v (.int .i64 ((j:Nat):Int)))] ?_
          refine xqj 113 (.pointer (some ⟨ta,tf + j * 2,none⟩)) (fun w Q=>ZaV hAt (t:=41) (e:=53) (sz:=2) (x:=.tmp 111) (ix:=.tmp 112) (len:=ts.length) (cap:=c) (i:=j) (by omega)) ?_
          refine xqg 1 [(114, .v (.pointer (some ⟨ta,tf + j * 2 + 1,none⟩)))] ?_
          refine xqj 115 (.slice t.A t.exps.length t.cap) (fun w Q=>by rw [← ht]; exact Zbk hAt (t:=22) (x:=.tmp 114) (ts:=ts) (j:=j) (Q.1.1) (by omega)) ?_
          refine xqg 1 [(116, .v (.agg #[.bool s12, .slice A12 l12 c12, .bool t12, .slice B12 m12 d12, .slice t.A t.exps.length t.cap]))] ?_
          refine Zhd 117 (fun zb:Nat=>.slice (some ⟨zb,0,none⟩) 1 1) (fun zb zw=>Blk 159 zw zb #[.bool s12, .slice A12 l12 c12, .bool t12, .slice B12 m12 d12, .slice t.A t.exps.length t.cap]) (by kernel_rfl) (by kernel_rfl) (by kernel_rfl) (by kernel_rfl) (by kernel_rfl) (by kernel_rfl) (by kernel_rfl) (fun w R Q=>Zbs (t:=48) (e:=159) (n:=1) (sz:=5) (z:=.agg #[.bool false, .slice none 0 0, .bool false, .slice none 0 0, .slice none 0 0]) (parts:=#[(0,Operand.tmp 116)]) (by kernel_rfl) (by kernel_rfl) (by kernel_rfl) (by kernel_rfl) (by kernel_rfl) (by kernel_rfl)) (fun b15=>?_)
          refine xf 0 [(1, .p 1 0),(2, .p 2 0),(3, .v (.bool false)),(4, .p 4 0),(5, .v (.int .i64 ((j:Nat):Int))),eS1 108 B j cp,eS1 117 (some ⟨b15,0,none⟩) 1 1] [bR4 6 157 s12 A12 l12 c12 t12 B12 m12 d12,(4,50,[.v (.int .i64 v), .v (.slice B j cp)]),(2,50,[.v (.int .i64 0), .v (.slice none 0 0)]),(1,43,[.v (.int .i64 v), .v (.slice A ts.length c)])] ?_
          refine xz ?_
          have hxl:j=0→xs=[]:=fun h=>List.eq_nil_of_length_eq_zero (by rw [hxs5,h])
          refine Zhe (base:=m0) (d:=118) (k:=5) (n:=j) (m:=1) (cap:=cp) (bytes:=88) (t:=48) (e:=159) (s0:=.tmp 108) (x:=.tmp 117) (xs:=xs) (news:=[.bool s12, .slice A12 l12 c12, .bool t12, .slice B12 m12 d12, .slice t.A t.exps.length t.cap]) (z:=(.agg #[.bool false, .slice none 0 0, .bool false, .slice none 0 0, .slice none 0 0])) hm0.symm B b15 1 (fun w=>TRow w A ts) (fun w Q=>Q.1.1.2) (fun w Q=>Q.2) rfl (by decide) rfl (by decide) (by simp [Value.oneCell']) (by simp only [maxLen]; omega) (by omega) hB (fun w w2 R Q hF=>hT.ext R) (fun B' cp' hB'=>?_)
          refine xr 2 [(1, .p 1 0),(2, .p 2 0),(3, .v (.bool false)),(4, .p 4 0),(5, .v (.int .i64 ((j:Nat):Int)))] [(4,50,[.v (.int .i64 v), .v (.slice B' (j + 1) cp')]),(2,50,[.v (.int .i64 0), .v (.slice none 0 0)]),(1,43,[.v (.int .i64 v), .v (.slice A ts.length c)])] ?_
          refine xe (ZbP (Zaa (Zab (xq 2 [(27, .v (.int .i64 (IntKind.i64.wrap (((j:Nat):Int) + 1))))] [] ?_))))
          rw [(show IntKind.i64.wrap (((j:Nat):Int) + 1)=((j + 1:Nat):Int) from by rw [IntKind.wrap_i64]; omega)]
          refine xq 1 [(5, .v (.int .i64 ((j + 1:Nat):Int)))] [] ?_
          refine xe ?_
          refine SXq.weak [(1, .p 1 0),(2, .p 2 0),(3, .v (.bool false)),(4, .p 4 0),(5, .v (.int .i64 (((j + 1):Nat):Int)))] [(4,50,[.v (.int .i64 v), .v (.slice B' (j + 1) cp')]),(2,50,[.v (.int .i64 0), .v (.slice none 0 0)]),(1,43,[.v (.int .i64 v), .v (.slice A ts.length c)])] (Ψ:=fun w=>(TRow w A ts∧w.ownsRow m0 159 5 (.slice B' (j + 1) cp') (j + 1) (xs ++ [.bool s12, .slice A12 l12 c12, .bool t12, .slice B12 m12 d12, .slice t.A t.exps.length t.cap]))) (ZaM.of (by kernel_rfl)) (by kernel_rfl) (fun w Q=>⟨Q.1,Q.2⟩) ?_
          exact Zbm ((1 + (ts.length - (j + 1)))) (by omega) ⟨(j + 1),cp',B',(xs ++ [.bool s12, .slice A12 l12 c12, .bool t12, .slice B12 m12 d12, .slice t.A t.exps.length t.cap]),rfl,rfl,hlt,(ZfW hwf ht htok (Or.inr (by rw [hu]; exact ho))),(fun h=>by omega),(ZlD hx0 (Or.inr (by omega)) ht hxl),rfl⟩
         ·refine ZbK 19 [0,1,3,7,15,7,39,127,255,511,7,1031,7,7175,15367,31751,65535,131071,262143] (by kernel_rfl) (by kernel_rfl) Zas ?_
          refine xqg 2 [(88, .v (.bool (decide (((j:Nat):Int) > 0))))] ?_
          rw [(show decide (((j:Nat):Int) > 0)=true from decide_eq_true (by omega))]
          refine xqg 5 [(89, .v (.bool true)),eS1 91 A ts.length c,(93, .v (.int .i64 (IntKind.i64.wrap (((j:Nat):Int) - 1))))] ?_
          rw [(show IntKind.i64.wrap (((j:Nat):Int) - 1)=(((j - 1):Nat):Int) from by rw [IntKind.wrap_i64]; omega)]
          refine xqj 94 (.pointer (some ⟨ta,tf + (j - 1) * 2,none⟩)) (fun w Q=>ZaV hAt (t:=41) (e:=53) (sz:=2) (x:=.tmp 91) (ix:=.tmp 93) (len:=ts.length) (cap:=c) (i:=(j - 1)) (by omega)) ?_
          refine xqg 1 [(95, .v (.pointer (some ⟨ta,tf + (j - 1) * 2 + 1,none⟩)))] ?_
          refine xqj 96 (.slice u.A u.exps.length u.cap) (fun w Q=>by rw [← hu]; exact Zbk hAt (t:=22) (x:=.tmp 95) (ts:=ts) (j:=(j - 1)) (Q.1) (by omega)) ?_
          refine xqg 3 [eS1 98 A ts.length c,(99, .v (.int .i64 ((j:Nat):Int)))] ?_
          refine xqj 100 (.pointer (some ⟨ta,tf + j * 2,none⟩)) (fun w Q=>ZaV hAt (t:=41) (e:=53) (sz:=2) (x:=.tmp 98) (ix:=.tmp 99) (len:=ts.length) (cap:=c) (i:=j) (by omega)) ?_
          refine xqg 1 [(101, .v (.pointer (some ⟨ta,tf + j * 2 + 1,none⟩)))] ?_
          refine xqj 102 (.slice t.A t.exps.length t.cap) (fun w Q=>by rw [← ht]; exact Zbk hAt (t:=22) (x:=.tmp 101) (ts:=ts) (j:=j) (Q.1) (by omega)) ?_
          refine xqd 291 [.slice u.A u.exps.length u.cap, .slice t.A t.exps.length t.cap] 103 (fun _:Unit=>.int .i64 (ordF u.exps t.exps)) _ (fun w R Q=>(Zj9 u.A t.A u.cap t.cap u.exps t.exps _ hul.2.symm (hu ▸ TRow.exps Q.1 (by omega)) (ht ▸ TRow.exps Q.1 hlt) hul.1.1 hul.1.2).mono (fun _ _ h=>Zay h rfl)) (fun xx=>?_)
          refine xqg 1 [(104, .v (.bool (decide ((ordF u.exps t.exps)≤0))))] ?_
          rw [(show decide (ordF u.exps t.exps≤0)=true from decide_eq_true (by omega))]
          refine xqg 1 [(105, .v (.bool true))] ?_
          refine xz (xe (Zaa (xa (Zac (Zab (xq 3 [(3, .v (.bool false))] [] ?_))))))
          refine xe (Zaa (Zau (Zae (ZaC (Zae (Zae (ZaC (Zae ?_))))))))
          refine Zai (v:=.tuple #[.agg #[.int .i64 0, .slice none 0 0], .bool false]) (by kernel_rfl) (fun w' R Q=>?_)
          exact ZbG.no (Ze6 (Zde (k:=j + 1) (ZmR ht hu hj0 ho) _ hlt)) R
      ·refine ZbK 19 [0,1,3,7,15,31,63,127,255,511,255,2047,4095,8191,16383,255,33023,131071,262143] (by kernel_rfl) (by kernel_rfl) Zas ?_
       refine xqg 4 [(40, .v (.bool false)),eR4 41 s12 A12 l12 c12 t12 B12 m12 d12] ?_
       refine xqd 165 [vR4 s12 A12 l12 c12 t12 B12 m12 d12] 42 (fun _:Unit=>.int .i64 q.num.sign) _ (fun w R Q=>(ZfR _ q _ Q.2).mono (fun _ _ h=>Zay h rfl)) (fun xx=>?_)
       refine xqg 1 [(43, .v (.bool ((q.num.sign:Int) == 0)))] ?_
       rw [(show ((q.num.sign:Int) == 0)=false from by simp [hz])]
       refine xqg 5 [(45, .v (.bool false)),eS1 47 A ts.length c,(48, .v (.int .i64 ((j:Nat):Int)))] ?_
       refine xqj 49 (.pointer (some ⟨ta,tf + j * 2,none⟩)) (fun w Q=>ZaV hAt (t:=41) (e:=53) (sz:=2) (x:=.tmp 47) (ix:=.tmp 48) (len:=ts.length) (cap:=c) (i:=j) (by omega)) ?_
       refine xqg 1 [(50, .v (.pointer (some ⟨ta,tf + j * 2 + 1,none⟩)))] ?_
       refine xqj 51 (.slice t.A t.exps.length t.cap) (fun w Q=>by rw [← ht]; exact Zbk hAt (t:=22) (x:=.tmp 50) (ts:=ts) (j:=j) (Q.1.1) (by omega)) ?_
       refine xqg 4 [(55, .v (.bool ((((t.exps.length:Nat):Int):Int) != v)))] ?_
       rw [(show ((((t.exps.length:Nat):Int):Int) != v)=true from by simp [hlen])]
       refine xqg 1 [(56, .v (.bool true))] ?_
       refine xz (xe (Zaa (xa (Zac (Zab (xq 3 [(3, .v (.bool false))] [] ?_))))))
       refine xe (Zaa (Zau (Zae (ZaC (Zae (Zae (ZaC (Zae ?_))))))))
       refine Zai (v:=.tuple #[.agg #[.int .i64 0, .slice none 0 0], .bool false]) (by kernel_rfl) (fun w' R Q=>?_)
       exact ZbG.no (Ze6 (Zde (k:=j + 1) (Zew ht (ZmO hlen)) _ hlt)) R
   ·have hge:ts.length≤j:=by have:=of_decide_eq_false hb10; omega
    have hje:j=ts.length:=by omega
    refine ZbL (Zaw (Zaw (Zcb (Zaa (Zac (Zab (xq 3 [(3, .v (.bool true))] [(2,50,[.v (.int .i64 v), .v (.slice B j cp)])] ?_)))))))
    refine xe (Zaa (Zau ?_))
    refine Zai (v:=.tuple #[.agg #[.int .i64 v, .slice B j cp], .bool true]) (by kernel_rfl) (fun w' R Q=>?_)
    exact ZbG.yes (Zqb hv0 (by omega) (hje ▸ hwf)) rfl hje (Zcx.of hm0.symm (B:=B) Q.2 hx0) R
end Go.Proofs.YtcpjeaaapocoeaaGreatDoor

namespace Go.Proofs.YtcpjeaaapocoeaaGreatDoor
open Go.RowKit
theorem ZbG.un {w w':World} {v:Int} {ts:List TermR} {e:Ending} (hw:(decide (0≤v) && (decide (v≤6) && wfT v ts ts.length))=false) (h:ZbG w v ts e w'):e=.returned (.tuple #[.agg #[.int .i64 0, .slice none 0 0], .bool false])∧Ext w w':=by
 unfold ZbG at h; rw [hw] at h; exact h
theorem ZqN {m0:Nat} {w w':World} {v:Int} {ts:List TermR} {e:Ending} (hw:(decide (0≤v) && (decide (v≤6) && wfT v ts ts.length))=true) (hm:m0≤w.heap.size) (h:ZbG w v ts e w') :
 Zbh (fun x:Option Addr × Nat=>.tuple #[.agg #[.int .i64 v, .slice x.1 ts.length x.2], .bool true]) (fun x w=>Zcx m0 x.1 ts.length (.slice ts[0]!.A ts[0]!.exps.length ts[0]!.cap) w) w e w':=by
 unfold ZbG at h
 rw [if_pos hw] at h
 obtain ⟨B,d,rfl,hR,Q⟩:=h
 exact ⟨(B,d),rfl,Q,fun S hS w2 hF=>(hR.fr hF (fun i hi=>(hS i hi).1)).mono hm⟩
theorem Zcx.at_ {m n:Nat} {B:Option Addr} {s0:Value} {w:World} (h:Zcx m B n s0 w) (hn:0 < n):∃ rb,B=some ⟨rb,0,none⟩:=by
 obtain ⟨rb,_,_,h2,_⟩:=h hn; exact ⟨rb,h2⟩
theorem ZpW {P:Program} {o:Oper} {ρ:Operand→Value} {w:World} {t:TypeId} {x:Operand} {m n rb:Nat} {B:Option Addr} {s0:Value} (hB:B=some ⟨rb,0,none⟩) (h:Zcx m B n s0 w) (hn:0 < n) (ho:o.op=Op.load t x:=by kernel_rfl) (hx:ρ x=.pointer (some ⟨rb,0 + 0 * 5 + 4,none⟩):=by kernel_rfl) (ha:(teOf P t).map (fun e=>e.agg)=some false:=by kernel_rfl) :
 (execOp ρ o).run P w=.ok (.value s0) w:=by
 obtain ⟨rb2,cur,_,h2,h3,h4⟩:=h hn
 rw [hB] at h2
 injection h2 with h2
 injection h2 with h2
 subst h2
 exact Zgz (by rw [h3.cell]; exact h4) ho hx ha
def Zeq (w:World) (ok:Bool) (e:Ending) (w':World):Prop:=∃ (x:Int) (B:Option Addr) (m d:Nat),e=.returned (.tuple #[.agg #[.int .i64 x, .slice B m d], .bool ok])∧Ext w w'
theorem Zeq.of {w w':World} {ok r:Bool} {x:Int} {B:Option Addr} {m d:Nat} (h:ok=r) (Q:Ext w w'):Zeq w ok (.returned (.tuple #[.agg #[.int .i64 x, .slice B m d], .bool r])) w':=by
 subst h; exact ⟨_,_,_,_,rfl,Q⟩
abbrev ShRp:=Int × Option Addr × Nat × Nat
theorem ZqO {w w':World} {e:Ending} {ok:Bool} (h:Zeq w ok e w'):Zbh (fun x:ShRp=>.tuple #[.agg #[.int .i64 x.1, .slice x.2.1 x.2.2.1 x.2.2.2], .bool ok]) (fun _ _=>True) w e w':=by
 obtain ⟨x,B,m,d,rfl,Q⟩:=h
 exact ⟨(x,B,m,d),rfl,Q,BoxN.pure trivial⟩
theorem Zo4 (A:Option Addr) (c:Nat) (ts:List TermR) (v:Int) (w:World) (hT:TRow w A ts) (hc:∀ i,i < ts.length→(bytes ts[i]!.coef).length≤570) (hx:∀ i,i < ts.length→ts[i]!.exps.length≤9223372036854775807) :
 Calls Tryz.prog 248 #[.agg #[.int .i64 v, .slice A ts.length c]] w (Zeq w (ZaG v ts)):=by
 refine Za6 (Φ:=fun w=>TRow w A ts) Tryz.func248 rfl (by kernel_rfl) (fun w' hf=>hT.ext hf) ?_
 refine Zac (Zab (xq 3 [(1, .p 1 0),(2, .p 2 0),(3, .v (.bool false))] [(2,50,[.v (.int .i64 0), .v (.slice none 0 0)]),(1,43,[.v (.int .i64 v), .v (.slice A ts.length c)])] ?_))
 refine xe (Zaa (Zac (Zac ?_)))
 by_cases hL:4096 < ts.length
 ·refine Zab (xq 4 [(9, .v (.bool (decide (((ts.length:Nat):Int) > 4096))))] [] ?_)
  rw [(show decide (((ts.length:Nat):Int) > 4096)=true from decide_eq_true (by omega))]
  refine xe (Zaa (xa (Zac (Zab (xq 3 [(3, .v (.bool false))] [] ?_)))))
  refine xe (Zaa (Zau (Zae ?_)))
  refine Zai (v:=.tuple #[.agg #[.int .i64 0, .slice none 0 0], .bool false]) (by kernel_rfl) (fun w' R Q=>?_)
  exact Zeq.of (ZmT hL) R
 ·refine Zab (xq 4 [(9, .v (.bool (decide (((ts.length:Nat):Int) > 4096))))] [] ?_)
  rw [(show decide (((ts.length:Nat):Int) > 4096)=false from decide_eq_false (by omega))]
  refine xe (Zaa (xb (Zav (Zaa (Zac (Zab (xq 1 [(12, .v (.agg #[.int .i64 v, .slice A ts.length c]))] [] ?_)))))))
  cases hw:(decide (0≤v) && (decide (v≤6) && wfT v ts ts.length))
  ·refine xqc 321 [.agg #[.int .i64 v, .slice A ts.length c]] 13 (fun _:Unit=>.tuple #[.agg #[.int .i64 0, .slice none 0 0], .bool false]) _ (fun w R Q=>(Zkc A c ts v _ Q (by omega) hc).mono (fun _ _ h=>Zay (ZbG.un hw h) rfl)) (fun xx=>?_)
   refine xq 6 [(4, .p 4 0),(5, .v (.bool false))] [(4,50,[.v (.int .i64 0), .v (.slice none 0 0)])] ?_
   refine xe (Zaa (Zac (Zac (Zab (xq 17 [(32, .v (.bool true))] [] ?_)))))
   refine xe (Zaa (xa (Zac (Zab (xq 3 [(3, .v (.bool false))] [] ?_)))))
   refine xe (Zaa (Zau (Zae ?_)))
   refine Zai (v:=.tuple #[.agg #[.int .i64 0, .slice none 0 0], .bool false]) (by kernel_rfl) (fun w' R Q=>?_)
   exact Zeq.of (ZmU hw) R
  ·refine xqc 321 [.agg #[.int .i64 v, .slice A ts.length c]] 13 (fun x:Option Addr × Nat=>.tuple #[.agg #[.int .i64 v, .slice x.1 ts.length x.2], .bool true]) _ (fun w R Q=>(Zkc A c ts v _ Q (by omega) hc).mono (fun _ _ h=>ZqN hw R.size h)) (fun x=>?_)
   refine xq 6 [(4, .p 4 0),(5, .v (.bool true))] [(4,50,[.v (.int .i64 v), .v (.slice x.1 ts.length x.2)])] ?_
   refine xe (Zaa (Zac (Zac ?_)))
   by_cases h0:0 < ts.length
   ·obtain ⟨u,hu⟩:∃ x,ts[0]! = x:=⟨_,rfl⟩
    refine SXc.know (p:=∃ rb,x.1=some ⟨rb,0,none⟩) (fun w _ Q=>Zcx.at_ Q.2 h0) (fun hAe=>?_)
    obtain ⟨rb,hRb⟩:=hAe
    refine Zab (xq 7 [(18, .v (.bool false)),(22, .v (.bool (decide (((ts.length:Nat):Int) > 0))))] [] ?_)
    rw [(show decide (((ts.length:Nat):Int) > 0)=true from decide_eq_true (by omega))]
    refine xq 3 [(23, .v (.bool true)),eS1 25 x.1 ts.length x.2] [] ?_
    refine xqk 26 (.pointer (some ⟨rb,0 + 0 * 5,none⟩)) (fun w R Q=>ZaV hRb (t:=48) (e:=159) (sz:=5) (x:=.tmp 25) (ix:=.const (.int .i64 0)) (len:=ts.length) (cap:=x.2) (i:=0) h0) ?_
    refine xq 1 [(27, .v (.pointer (some ⟨rb,0 + 0 * 5 + 4,none⟩)))] [] ?_
    refine xqk 28 (.slice u.A u.exps.length u.cap) (fun w R Q=>by rw [← hu]; exact ZpW hRb Q.2 h0 (t:=22) (x:=.tmp 27)) ?_
    by_cases hd:0≤degF u.exps
    ·refine xqc 322 [.slice u.A u.exps.length u.cap] 29 (fun _:Unit=>.bool true) _ (fun w R Q=>(ZhC u.A u.cap u.exps _ (hu ▸ TRow.exps Q.1 h0) (hu ▸ hx 0 h0)).mono (fun _ _ h=>ZdJ h (by rw [decide_eq_true hd]))) (fun xx=>?_)
     refine xq 3 [(32, .v (.bool false))] [] ?_
     refine xe (Zaa (xb (Zav (Zaa (Zac (Zab (xq 3 [(3, .v (.bool true))] [(2,50,[.v (.int .i64 v), .v (.slice x.1 ts.length x.2)])] ?_)))))))
     refine xe (Zaa (Zau ?_))
     refine Zai (v:=.tuple #[.agg #[.int .i64 v, .slice x.1 ts.length x.2], .bool true]) (by kernel_rfl) (fun w' R Q=>?_)
     exact Zeq.of (ZmV hL hw hu hd) R
    ·refine xqc 322 [.slice u.A u.exps.length u.cap] 29 (fun _:Unit=>.bool false) _ (fun w R Q=>(ZhC u.A u.cap u.exps _ (hu ▸ TRow.exps Q.1 h0) (hu ▸ hx 0 h0)).mono (fun _ _ h=>ZdJ h (by rw [decide_eq_false hd]))) (fun xx=>?_)
     refine xq 3 [(32, .v (.bool true))] [] ?_
     refine xe (Zaa (xa (Zac (Zab (xq 3 [(3, .v (.bool false))] [] ?_)))))
     refine xe (Zaa (Zau (Zae ?_)))
     refine Zai (v:=.tuple #[.agg #[.int .i64 0, .slice none 0 0], .bool false]) (by kernel_rfl) (fun w' R Q=>?_)
     exact Zeq.of (ZmW h0 hu hd) R
   ·refine Zab (xq 7 [(18, .v (.bool false)),(22, .v (.bool (decide (((ts.length:Nat):Int) > 0))))] [] ?_)
    rw [(show decide (((ts.length:Nat):Int) > 0)=false from decide_eq_false (by omega))]
    refine xq 10 [(32, .v (.bool false))] [] ?_
    refine xe (Zaa (xb (Zav (Zaa (Zac (Zab (xq 3 [(3, .v (.bool true))] [(2,50,[.v (.int .i64 v), .v (.slice x.1 ts.length x.2)])] ?_)))))))
    refine xe (Zaa (Zau ?_))
    refine Zai (v:=.tuple #[.agg #[.int .i64 v, .slice x.1 ts.length x.2], .bool true]) (by kernel_rfl) (fun w' R Q=>?_)
    exact Zeq.of (Zlv hw (by omega)) R
theorem Zi2 (A:Option Addr) (c:Nat) (ts:List TermR) (v:Int) (w:World) (hT:TRow w A ts) (hc:∀ i,i < ts.length→(bytes ts[i]!.coef).length≤570) (hx:∀ i,i < ts.length→ts[i]!.exps.length≤9223372036854775807) :
 Calls Tryz.prog 144 #[.agg #[.int .i64 v, .slice A ts.length c]] w (RetV w (.bool (ZaG v ts))):=by
 refine Za6 (Φ:=fun w=>TRow w A ts) Tryz.func144 rfl (by kernel_rfl) (fun w' hf=>hT.ext hf) ?_
 refine Zac (Zab (xq 2 [(1, .p 1 0),(2, .v (.bool false))] [(1,43,[.v (.int .i64 v), .v (.slice A ts.length c)])] ?_))
 refine xe (Zaa (Zac (Zab (xq 1 [(6, .v (.agg #[.int .i64 v, .slice A ts.length c]))] [] ?_))))
 refine xqc 248 [.agg #[.int .i64 v, .slice A ts.length c]] 7 (fun x:ShRp=>.tuple #[.agg #[.int .i64 x.1, .slice x.2.1 x.2.2.1 x.2.2.2], .bool (ZaG v ts)]) _ (fun w R Q=>(Zo4 A c ts v _ Q hc hx).mono (fun _ _=>ZqO)) (fun x=>?_)
 refine xq 6 [(4, .v (.bool (ZaG v ts)))] [] ?_
 refine xe (Zaa (Zac (Zab (xq 2 [(2, .v (.bool (ZaG v ts)))] [] ?_))))
 refine xe (Zaa (Zau ?_))
 refine Zai (v:=.bool (ZaG v ts)) (by kernel_rfl) (fun w' R Q=>?_)
 exact ⟨rfl,R⟩
end Go.Proofs.YtcpjeaaapocoeaaGreatDoor

namespace Go.Proofs.YtcpjeaaapocoeaaGreatDoor
open Go.RowKit
theorem SRow.ext {w w':World} {A:Option Addr} {ss:List ByteArray} (h:SRow w A ss) (hf:Ext w w'):SRow w' A ss:=fun h0=>by
 obtain ⟨b,off,cs,f,e,hcs,hc⟩:=h h0
 have hb:b < w.heap.size:=by
  rcases Nat.lt_or_ge b w.heap.size with h | h
  ·exact h
  ·rw [Array.getElem?_eq_none h] at hcs; cases hcs
 exact ⟨b,off,cs,f,e,(hf.block b hb (fun f=>f)).trans hcs,hc⟩
theorem SRow.cells {w:World} {bk:Nat} {ss:List ByteArray} (h:SRow w (some ⟨bk,0,none⟩) ss):∀ (j:Nat) x,ss[j]? = some x→w.cell? ⟨bk,0 + j,none⟩=some (.string x):=fun j x hj=>by
 have hlt:j < ss.length:=(List.getElem?_eq_some_iff.1 hj).1
 obtain ⟨b,off,e,hc⟩:=h.at_ hlt
 injection e with e
 injection e with e1 e2
 subst e1 e2
 rw [hc,hj]; rfl
theorem SRow.ltb {w:World} {bk:Nat} {k:ByteArray} {ss:List ByteArray} (h:SRow w (some ⟨bk,0,none⟩) (k :: ss)):bk < w.heap.size:=by
 obtain ⟨b,off,cs,f,e,hcs,_⟩:=h (by simp)
 injection e with e
 injection e with e1 e2
 subst e1
 rcases Nat.lt_or_ge bk w.heap.size with h | h
 ·exact h
 ·rw [Array.getElem?_eq_none h] at hcs; cases hcs
theorem ZmZ (k:ByteArray) (ss:List ByteArray):Lib.join ((k :: ss).map (·.data.toList)) (⟨#[32]⟩:ByteArray).data.toList=bytes k ++ ZaO ss:=by
 rw [List.map_cons,Lib.join_cons]
 unfold Lib.joinTail ZaO
 rw [List.map_map,List.flatMap_def]
 rfl
theorem ZpX {k:ByteArray} {ss:List ByteArray} (hl:(Zax k ss).length≤1048576):(Lib.join ((k :: ss).map (·.data.toList)) (⟨#[32]⟩:ByteArray).data.toList).length≤140737488355328:=by
 rw [ZmZ]
 unfold Zax at hl
 rw [List.length_append] at hl
 omega
theorem ZpY {k:ByteArray} {ss:List ByteArray} (hl:(Zax k ss).length≤1048576):(⟨(bytes k ++ ZaO ss).toArray⟩:ByteArray).size≤1048576:=by
 show (bytes k ++ ZaO ss).toArray.size≤_
 rw [List.size_toArray]
 unfold Zax at hl
 rw [List.length_append] at hl
 omega
theorem Zo5 {k:ByteArray} {ss:List ByteArray} (hl:(Zax k ss).length≤1048576):(⟨(Zax k ss).toArray⟩:ByteArray).size≤1048576:=by
 show (Zax k ss).toArray.size≤_
 rw [List.size_toArray]; exact hl
theorem Zo6 {k:ByteArray} {ss:List ByteArray} {w w':World} {e:Ending} (h:e=.returned (.string ⟨(Lib.join ((k :: ss).map (·.data.toList)) (⟨#[32]⟩:ByteArray).data.toList).toArray⟩)∧Below w.heap.size w w'):Zbh (fun _:Unit=>.string ⟨(bytes k ++ ZaO ss).toArray⟩) (fun _ _=>True) w e w':=by
 obtain ⟨rfl,hB⟩:=h
 rw [ZmZ]
 exact ⟨(),rfl,Fr.ofBelow hB,BoxN.pure trivial⟩
theorem ZpZ (a b:List UInt8):(⟨a.toArray⟩:ByteArray) ++ ⟨b.toArray⟩=⟨(a ++ b).toArray⟩:=by
 apply ByteArray.ext
 simp
set_option maxHeartbeats 1000000 in
theorem ZgW (p:Value) (z:Int) (h0:0≤z) (h1:z≤9223372036854775807) (w:World) (hg:Glob w) :
 Calls Tryz.prog 146 #[p, .int .i64 z] w (RetV w (.string (Zaf z))):=by
 have HG:=zh hg
 have hz:(-9223372036854775808:Int)≤z:=by omega
 clear hg
 go_enter Tryz.func146,Tryz.ntmps146
 go_wp2_with fail
 refine (Tryz.strconv_Itoa z hz h1 _ HG.out.1).mono ?_
 rintro e w2 ⟨rfl,kk,os,eo⟩
 have HE:Hid (Ext w w2):=by rw [eo]; exact zh (Fr.ofBelow (Lib.below_grow _ w (Nat.le_refl _) kk os))
 clear eo
 go_wp2
 go_ret
 exact ⟨rfl,HE.out⟩
set_option maxHeartbeats 1000000 in
theorem ZqP (lo b:Nat) (l:List UInt8) (w:World) (h:ZaH lo b l false w) (h0:l≠[]) (hl:l.length≤1048576) :
 Calls Tryz.prog 69 #[.pointer (some ⟨b,0,none⟩)] w fun e w'=>e=.returned (.tuple #[.string ⟨l.toArray⟩, .int .i64 0])∧WrFr lo b w w':=by
 have H:=zh h
 have HL:((l.length:Nat):Int)≤1048576:=by omega
 obtain ⟨p,hp,hB,v,hbk,hown,hne⟩:=h
 have c2:w.cell? ⟨b,2,none⟩=some (.bool false):=by rw [Lib.cell_of_heap hbk]; rfl
 clear hown hne hbk hB hp
 go_enter Tryz.func69,Tryz.ntmps69
 go_wp2_with fail
 refine (ZpB lo b l false _ H.out).mono ?_
 rintro e w1 ⟨rfl,rfl⟩
 go_wp2_with fail
 refine (Znn lo b l false _ H.out h0).mono ?_
 rintro e w2 ⟨rfl,hF⟩
 have HF:=zh hF
 clear hF
 go_wp2
 go_ret2
 exact ⟨rfl,HF.out⟩
set_option maxHeartbeats 1000000 in
theorem Zrg (lo b:Nat) (l:List UInt8) (w:World) (h:ZaH lo b l true w) :
 Calls Tryz.prog 69 #[.pointer (some ⟨b,0,none⟩)] w fun e w'=>e=.returned (.tuple #[.string ⟨#[]⟩, .int .i64 1])∧w'=w:=by
 obtain ⟨p,hp,hB,v,hbk,hown,hne⟩:=h
 have c2:w.cell? ⟨b,2,none⟩=some (.bool true):=by rw [Lib.cell_of_heap hbk]; rfl
 clear hown hne hbk hB hp
 go_enter Tryz.func69,Tryz.ntmps69
 go_wp2
 go_ret2
 exact ⟨rfl,rfl⟩
theorem Zm0 (lo g bk c:Nat) (l:List UInt8) (bad:Bool) (k:ByteArray) (ss:List ByteArray) (w:World) (h:ZaH lo g l bad w) (hS:SRow w (some ⟨bk,0,none⟩) (k :: ss)) (hc:(k :: ss).length≤c) (hl:(Zax k ss).length≤1048576) (hl0:l.length≤1048576) (hss:(k :: ss).length≤1000000) :
 Calls Tryz.prog 145 #[.pointer (some ⟨g,0,none⟩), .slice (some ⟨bk,0,none⟩) (k :: ss).length c] w (fun e w'=>e=.returned (.tuple #[])∧ZaH lo g (l ++ Zax k ss) bad w'∧Fr (SWr lo g w) w w'):=by
 refine Ze7 (SWr lo g w) (Φ:=fun w=>(ZaH lo g l bad w∧SRow w (some ⟨bk,0,none⟩) (k :: ss))) Tryz.func145 rfl (by kernel_rfl) (fun w' hf=>⟨h.ext hf,hS.ext hf⟩) ?_
 refine ZbJ 6 (by kernel_rfl) (by kernel_rfl) Zas ?_
 refine xqg 4 [(6, .v (.pointer (some ⟨g,0,none⟩))),(7, .v (.slice (some ⟨bk,0,none⟩) (k :: ss).length c))] ?_
 refine xqd 249 [.slice (some ⟨bk,0,none⟩) (k :: ss).length c, .string ⟨#[32]⟩] 8 (fun _:Unit=>.string ⟨(bytes k ++ ZaO ss).toArray⟩) _ (fun w R Q=>(Tryz.strings_Join bk 0 c (k :: ss) ⟨#[32]⟩ _ (SRow.cells Q.2) (SRow.ltb Q.2) (by omega) hc (ZpX hl)).mono (fun _ _=>Zo6)) (fun xx=>?_)
 refine Zmr 9 (.string ⟨(Zax k ss).toArray⟩) (by kernel_rfl) (by kernel_rfl) (by kernel_rfl) (by kernel_rfl) (by kernel_rfl) (by kernel_rfl) (fun w Q=>Zni (x:=(Operand.tmp 8)) (y:=(Operand.const (Value.string { data:=#[10] }))) (t:=9) (k:=9) (by kernel_rfl) (by kernel_rfl) (by kernel_rfl) (by have h1:=ZpY hl; have h2:(⟨#[10]⟩:ByteArray).size=1:=rfl; omega) (ZpZ (bytes k ++ ZaO ss) [10])) ?_
 refine xf 0 [(6, .v (.pointer (some ⟨g,0,none⟩))),(9, .v (.string ⟨(Zax k ss).toArray⟩))] [] ?_
 refine xz ?_
 refine Zdd (d:=10) (lo:=lo) (g:=g) (l:=l) (bad:=bad) (v:=.tuple #[.int .i64 (⟨(Zax k ss).toArray⟩:ByteArray).size, .nilIface]) (fun w=>ZaH lo g (l ++ Zax k ss) bad w) 222 [.pointer (some ⟨g,0,none⟩), .string ⟨(Zax k ss).toArray⟩] (fun _ _ h k=>WrFr.s0 h k) (by kernel_rfl) (fun w R Q=>Zh2 lo g l bad ⟨(Zax k ss).toArray⟩ _ Q.1.1 (by have:=Zo5 hl; omega)) (fun w Q=>Q.1.1) (fun _ _ _ hW hf h1 h2=>hW.fr hf h1 h2) ?_
 refine xr 0 [] [] ?_
 refine xe ?_
 refine Zi9 (v:=.tuple #[]) (by kernel_rfl) (fun w' R Q=>?_)
 exact ⟨rfl,Q,R⟩
end Go.Proofs.YtcpjeaaapocoeaaGreatDoor

namespace Go.Proofs.YtcpjeaaapocoeaaGreatDoor
open Go.RowKit
theorem ZqQ (lo g bk c n:Nat) (l:List UInt8) (bad:Bool) (k:ByteArray) (ss:List ByteArray) (w:World) (hn:(k :: ss).length=n) (h:ZaH lo g l bad w) (hS:SRow w (some ⟨bk,0,none⟩) (k :: ss)) (hc:n≤c) (hl:(Zax k ss).length≤1048576) (hl0:l.length≤1048576) (hss:n≤1000000) :
 Calls Tryz.prog 145 #[.pointer (some ⟨g,0,none⟩), .slice (some ⟨bk,0,none⟩) n c] w fun e w'=>e=.returned (.tuple #[])∧ZaH lo g (l ++ Zax k ss) bad w'∧Fr (SWr lo g w) w w':=by
 subst hn
 exact Zm0 lo g bk c l bad k ss w h hS hc hl hl0 hss
def Zdf (t:TermR) (k:Nat):List Value:=(Zci :: t.coef :: (t.exps.take k).map Zaf).map Value.string
theorem Zmk {t:TermR} {k:Nat} (hk:k < t.exps.length):Zdf t (k + 1)=Zdf t k ++ [.string (Zaf (nth t.exps k))]:=by
 unfold Zdf nth
 rw [List.take_succ_eq_append_getElem hk,List.getElem?_eq_getElem hk]
 simp only [List.map_cons,List.map_append,List.map_nil,List.cons_append,Option.getD_some]
theorem OW.start {m0 bs:Nat} {t:TermR} {w:World} (hb:m0≤bs) (h:Blk 9 w bs #[.string ⟨#[116,101,114,109]⟩, .string t.coef]):w.ownsRow m0 9 1 (.slice (some ⟨bs,0,none⟩) (0 + 2) 2) (0 + 2) (Zdf t 0) :=
 ⟨rfl,Or.inr ⟨bs,2,_,rfl,hb,h,Nat.le_refl _,by simp [maxLen],rfl,rfl⟩⟩
theorem OW.form {m0 k cw:Nat} {t:TermR} {Wd:Option Addr} {w:World} (h:w.ownsRow m0 9 1 (.slice Wd (k + 2) cw) (k + 2) (Zdf t k)):(∃ bk,Wd=some ⟨bk,0,none⟩)∧k + 2≤cw:=by
 rcases h.2 with ⟨_,h3⟩ | ⟨b,c3,cur,h3,_,_,h6,_⟩
 ·omega
 ·injection h3 with h3 _ h4
  subst h4
  exact ⟨⟨b,h3⟩,h6⟩
theorem OW.row {m0 k cw bk:Nat} {t:TermR} {w:World} (h:w.ownsRow m0 9 1 (.slice (some ⟨bk,0,none⟩) (k + 2) cw) (k + 2) (Zdf t k)) (hk:k=t.exps.length):SRow w (some ⟨bk,0,none⟩) (Zci :: t.coef :: t.exps.map Zaf):=by
 subst hk
 rcases h.2 with ⟨_,h3⟩ | ⟨b,c3,cur,h3,_,h5,_,_,_,h8⟩
 ·omega
 ·injection h3 with h3 _ h4
  injection h3 with h3
  injection h3 with h3
  subst h3
  refine SRow.ofStr (cur:=cur.toList) (by rw [Array.toArray_toList]; exact h5) ?_
  rw [show (Zci :: t.coef :: t.exps.map Zaf).length=(t.exps.length + 2) * 1 by simp,h8]
  unfold Zdf
  rw [List.take_length]
theorem ZaH.own {lo g m0 n cap:Nat} {l:List UInt8} {bad:Bool} {w w':World} {T:TypeId} {A:Option Addr} {xs:List Value} (h:ZaH lo g l bad w) (hO:w.ownsRow m0 T 1 (.slice A n cap) n xs) (hT:T≠5∧T≠162) (hF:Fr (fun i=>A=some ⟨i,0,none⟩) w w'):ZaH lo g l bad w':=by
 rcases hO.2 with ⟨h3,_⟩ | ⟨b,c3,cur,h3,_,h5,_⟩
 ·injection h3 with h3
  subst h3
  exact h.ext (hF.mono (fun i _ e=>by cases e))
 ·injection h3 with h3
  subst h3
  refine h.row (b:=b) (cs:=cur) (T:=T) h5 hT (hF.mono (fun i _ e=>?_))
  injection e with e
  injection e with e
  exact e.symm
theorem Zp0 {l:List UInt8} {v:Int} {ts:List TermR} {j:Nat} {t:TermR} (hlt:j < ts.length) (ht:ts[j]! = t) (hl:(l ++ ZaI v ts).length≤1048576):(l ++ Zax ZaW [Zaf v,Zaf ((ts.length:Nat):Int)] ++ (ts.take j).flatMap ZaR).length≤1048576∧(Zax Zci (t.coef :: t.exps.map Zaf)).length≤1048576:=by
 have h1:=Zf7 ts (j + 1)
 rw [ZdI hlt ht,List.length_append] at h1
 unfold ZaI at hl
 rw [List.length_append,List.length_append] at hl
 refine ⟨?_,?_⟩
 ·rw [List.length_append,List.length_append]; omega
 ·show (ZaR t).length≤_
  omega
set_option maxHeartbeats 1000000 in
theorem ZnL (wl:World) (lo g:Nat) (l:List UInt8) (A:Option Addr) (c:Nat) (ts:List TermR) (v:Int) (w:World) (hlo:wl.heap.size=lo) (hgl:lo≤g) (hg:Glob wl) (hT:TRow wl A ts) (h0:Ext wl w) (hW:ZaH lo g l false w) (hc:∀ i,i < ts.length→(bytes ts[i]!.coef).length≤570) (hok:ZaG v ts=true) (hl:(l ++ ZaI v ts).length≤1048576) :
 Calls Tryz.prog 68 #[.pointer (some ⟨g,0,none⟩), .agg #[.int .i64 v, .slice A ts.length c]] w (fun e w'=>e=.returned (.tuple #[])∧ZaH lo g (l ++ ZaI v ts) false w'∧Fr (SWr lo g w) w w'):=by
 obtain ⟨m0,hm0⟩:∃ m,m=w.heap.size:=⟨_,rfl⟩
 have hp:=ZaG.parts hok
 have hpn:=hp.2.1
 have hx9:∀ i,i < ts.length→ts[i]!.exps.length≤9223372036854775807:=fun i hi=>Nat.le_trans (ZaF.exps' (Zdz hp.2.2 hi) hp.1.2).1.1 (by decide)
 have hl1:l.length≤1048576:=by rw [List.length_append] at hl; omega
 have hl2:(Zax ZaW [Zaf v,Zaf ((ts.length:Nat):Int)]).length≤1048576:=by unfold ZaI at hl; rw [List.length_append,List.length_append] at hl; omega
 refine Ze7 (SWr lo g w) (Φ:=fun w=>ZaH lo g (l) false w) Tryz.func68 rfl (by kernel_rfl) (fun w' hf=>hW.ext hf) ?_
 refine Zac (Zab (xq 1 [(3, .p 3 0)] [(3,43,[.v (.int .i64 v), .v (.slice A ts.length c)])] ?_))
 refine xe (Zaa (Zac (Zac (Zab (xq 1 [(9, .v (.agg #[.int .i64 v, .slice A ts.length c]))] [] ?_)))))
 refine xqc 144 [.agg #[.int .i64 v, .slice A ts.length c]] 10 (fun _:Unit=>.bool true) _ (fun w R Q=>(Zi2 A c ts v _ (hT.ext (ZbM h0 hlo hgl R)) hc hx9).mono (fun _ _ h=>Zay h (by rw [hok]))) (fun xx=>?_)
 refine xq 1 [(11, .v (.bool false))] [] ?_
 refine xe (Zaa (xb (Zav (Zaa (Zac ?_)))))
 refine ZbJ 11 (by kernel_rfl) (by kernel_rfl) Zas ?_
 refine xqg 4 [(15, .v (.pointer (some ⟨g,0,none⟩))),(16, .v (.pointer (some ⟨g,0,none⟩))),(18, .v (.int .i64 v))] ?_
 refine xqd 146 [.pointer (some ⟨g,0,none⟩), .int .i64 v] 19 (fun _:Unit=>.string (Zaf v)) _ (fun w R Q=>(ZgW _ v hp.1.1 (by omega) _ (hg.ext (ZbM h0 hlo hgl R))).mono (fun _ _ h=>Zay h rfl)) (fun xx=>?_)
 refine xqg 4 [(20, .v (.pointer (some ⟨g,0,none⟩))),(23, .v (.int .i64 ((ts.length:Nat):Int)))] ?_
 refine xqd 146 [.pointer (some ⟨g,0,none⟩), .int .i64 ((ts.length:Nat):Int)] 24 (fun _:Unit=>.string (Zaf ((ts.length:Nat):Int))) _ (fun w R Q=>(ZgW _ ((ts.length:Nat):Int) (by omega) (by omega) _ (hg.ext (ZbM h0 hlo hgl R))).mono (fun _ _ h=>Zay h rfl)) (fun xx=>?_)
 refine Zhd 25 (fun zb:Nat=>.slice (some ⟨zb,0,none⟩) 3 3) (fun zb zw=>Blk 9 zw zb #[.string ⟨#[112,111,108,121]⟩, .string (Zaf v), .string (Zaf ((ts.length:Nat):Int))]) (by kernel_rfl) (by kernel_rfl) (by kernel_rfl) (by kernel_rfl) (by kernel_rfl) (by kernel_rfl) (by kernel_rfl) (fun w R Q=>Zbs (t:=59) (e:=9) (n:=3) (sz:=1) (z:=.string ⟨#[]⟩) (parts:=#[(0,Operand.const (Value.string { data:=#[112,111,108,121] })),(1,Operand.tmp 19),(2,Operand.tmp 24)]) (by kernel_rfl) (by kernel_rfl) (by kernel_rfl) (by kernel_rfl) (by kernel_rfl) (by kernel_rfl)) (fun b10=>?_)
 refine xf 0 [(0, .v (.pointer (some ⟨g,0,none⟩))),(3, .p 3 0),(15, .v (.pointer (some ⟨g,0,none⟩))),eS1 25 (some ⟨b10,0,none⟩) 3 3] [(3,43,[.v (.int .i64 v), .v (.slice A ts.length c)])] ?_
 refine xz ?_
 refine Zdd (d:=26) (lo:=lo) (g:=g) (l:=l) (bad:=false) (v:=.tuple #[]) (fun w=>ZaH lo g (l ++ Zax ZaW [Zaf v,Zaf ((ts.length:Nat):Int)]) false w) 145 [.pointer (some ⟨g,0,none⟩), .slice (some ⟨b10,0,none⟩) 3 3] (fun _ _ h k=>WrFr.s0 h k) (by kernel_rfl) (fun w R Q=>Zm0 lo g b10 3 l false ZaW [Zaf v,Zaf ((ts.length:Nat):Int)] _ Q.1.1.1.1 (SRow.ofStr Q.2 rfl) (Nat.le_refl _) (by omega) hl1 (show 3≤1000000 by decide)) (fun w Q=>Q.1.1.1.1) (fun _ _ _ hW hf h1 h2=>hW.fr hf h1 h2) ?_
 refine xr 0 [(0, .v (.pointer (some ⟨g,0,none⟩))),(3, .p 3 0)] [(3,43,[.v (.int .i64 v), .v (.slice A ts.length c)])] ?_
 refine xe (Zaa (Zac (Zab (xq 4 [eS1 28 A ts.length c,(29, .v (.int .i64 ((ts.length:Nat):Int))),(30, .v (.int .i64 0))] [] ?_))))
 refine xe (Zaa (ZaP ?_))
 refine SXc.weak [(0, .v (.pointer (some ⟨g,0,none⟩))),(28, .v (.slice A ts.length c)),(29, .v (.int .i64 ((ts.length:Nat):Int))),(30, .v (.int .i64 ((0:Nat):Int)))] [] (Ψ:=fun w=>ZaH lo g (l ++ Zax ZaW [Zaf v,Zaf ((ts.length:Nat):Int)] ++ (ts.take 0).flatMap ZaR) false w) (ZaM.of (by kernel_rfl)) (by kernel_rfl) (fun w Q=>(by rw [List.take_zero,List.flatMap_nil,List.append_nil]; exact Q)) ?_
 refine ZbU (fun nn ss ff=>∃ (j:Nat),ss=ofL [(0, .v (.pointer (some ⟨g,0,none⟩))),(28, .v (.slice A ts.length c)),(29, .v (.int .i64 ((ts.length:Nat):Int))),(30, .v (.int .i64 ((j:Nat):Int)))] []∧ff=(fun w=>ZaH lo g (l ++ Zax ZaW [Zaf v,Zaf ((ts.length:Nat):Int)] ++ (ts.take j).flatMap ZaR) false w)∧(j≤ts.length)∧nn=(1 + (ts.length - j))) ((1 + (ts.length - 0))) ⟨0,rfl,rfl,(Nat.zero_le _),rfl⟩ ?_
 rintro nn ss ff ⟨j,rfl,rfl,hj,rfl⟩
 refine Zac (Zab (xq 1 [(31, .v (.bool (decide (((j:Nat):Int) < ((ts.length:Nat):Int)))))] [] ?_))
 refine xe (Zaa (Zac ?_))
 refine Zbc ((decide (((j:Nat):Int) < ((ts.length:Nat):Int)))) (by kernel_rfl) (fun hb11=>?_) (fun hb11=>?_)
 ·have hlt:j < ts.length:=by have:=of_decide_eq_true hb11; omega
  obtain ⟨t,ht⟩:∃ x,ts[j]! = x:=⟨_,rfl⟩
  have hte:=ZaF.exps' (ht ▸ Zdz hp.2.2 hlt:ZaF v t=true) hp.1.2
  have htl:=hte.1.1
  have htl2:=Zp0 hlt ht hl
  refine Zav (Zaa (Zac (ZaP (Zac (Zab ?_)))))
  refine xqk 32 (atA A (j * 2)) (fun w R Q=>ZaN (t:=41) (e:=53) (sz:=2) (x:=.tmp 28) (ix:=.tmp 30) (len:=ts.length) (cap:=c) (i:=j) ((hT.ext (ZbM h0 hlo hgl R)).ne hlt) hlt) ?_
  refine xqk 33 (.agg #[.string t.coef, .slice t.A t.exps.length t.cap]) (fun w R Q=>by rw [← ht]; exact Zhf (t:=53) (x:=.tmp 32) (ts:=ts) (j:=j) (hT.ext (ZbM h0 hlo hgl R)) hlt) ?_
  refine xq 2 [(5, .p 5 0)] [(5,53,[.v (.string t.coef), .v (.slice t.A t.exps.length t.cap)])] ?_
  refine xe (Zaa (Zac (Zab (xq 2 [(35, .v (.string t.coef))] [] ?_))))
  refine ZcU (d:=36) (fun zb:{b:Nat // m0≤b}=>.slice (some ⟨zb.1,0,none⟩) 2 2) (fun zb zw=>Blk 9 zw zb.1 #[.string ⟨#[116,101,114,109]⟩, .string t.coef]) (by kernel_rfl) (by kernel_rfl) (by kernel_rfl) (by kernel_rfl) (by kernel_rfl) (by kernel_rfl) (fun w R Q=>ZeM (m0:=m0) (hm0 ▸ R.size) (t:=59) (e:=9) (n:=2) (sz:=1) (z:=.string ⟨#[]⟩) (parts:=#[(0, .const (.string ⟨#[116,101,114,109]⟩)),(1, .tmp 35)]) (by kernel_rfl) (by kernel_rfl) (by kernel_rfl) (by kernel_rfl) (by kernel_rfl) (by kernel_rfl)) (fun bb=>?_)
  obtain ⟨bs,hbs⟩:=bb
  refine xr 1 [(0, .v (.pointer (some ⟨g,0,none⟩))),(5, .p 5 0),eS1 6 (some ⟨bs,0,none⟩) 2 2,eS1 28 A ts.length c,(29, .v (.int .i64 ((ts.length:Nat):Int))),(30, .v (.int .i64 ((j:Nat):Int)))] [(5,53,[.v (.string t.coef), .v (.slice t.A t.exps.length t.cap)])] ?_
  refine xe (Zaa (Zac (Zac (Zab (xq 4 [eS1 38 t.A t.exps.length t.cap,(39, .v (.int .i64 ((t.exps.length:Nat):Int))),(40, .v (.int .i64 0))] [] ?_)))))
  refine xe (Zaa (ZaP ?_))
  refine SXc.weak [(0, .v (.pointer (some ⟨g,0,none⟩))),(6, .v (.slice (some ⟨bs,0,none⟩) (0 + 2) 2)),(28, .v (.slice A ts.length c)),(29, .v (.int .i64 ((ts.length:Nat):Int))),(30, .v (.int .i64 ((j:Nat):Int))),(38, .v (.slice t.A t.exps.length t.cap)),(39, .v (.int .i64 ((t.exps.length:Nat):Int))),(40, .v (.int .i64 ((0:Nat):Int)))] [] (Ψ:=fun w=>(ZaH lo g (l ++ Zax ZaW [Zaf v,Zaf ((ts.length:Nat):Int)] ++ (ts.take j).flatMap ZaR) false w∧w.ownsRow m0 9 1 (.slice (some ⟨bs,0,none⟩) (0 + 2) 2) (0 + 2) (Zdf t 0))) (ZaM.of (by kernel_rfl)) (by kernel_rfl) (fun w Q=>⟨Q.1,OW.start hbs Q.2⟩) ?_
  refine ZbU (fun nn ss ff=>∃ (k cw:Nat) (Wd:Option Addr),ss=ofL [(0, .v (.pointer (some ⟨g,0,none⟩))),(6, .v (.slice Wd (k + 2) cw)),(28, .v (.slice A ts.length c)),(29, .v (.int .i64 ((ts.length:Nat):Int))),(30, .v (.int .i64 ((j:Nat):Int))),(38, .v (.slice t.A t.exps.length t.cap)),(39, .v (.int .i64 ((t.exps.length:Nat):Int))),(40, .v (.int .i64 ((k:Nat):Int)))] []∧ff=(fun w=>(ZaH lo g (l ++ Zax ZaW [Zaf v,Zaf ((ts.length:Nat):Int)] ++ (ts.take j).flatMap ZaR) false w∧w.ownsRow m0 9 1 (.slice Wd (k + 2) cw) (k + 2) (Zdf t k)))∧(k≤t.exps.length)∧nn=(1 + (t.exps.length - k))) ((1 + (t.exps.length - 0))) ⟨0,2,(some ⟨bs,0,none⟩),rfl,rfl,(Nat.zero_le _),rfl⟩ ?_
  rintro nn ss ff ⟨k,cw,Wd,rfl,rfl,hk,rfl⟩
  refine Zac (Zab (xq 1 [(41, .v (.bool (decide (((k:Nat):Int) < ((t.exps.length:Nat):Int)))))] [] ?_))
  refine xe (Zaa (Zac ?_))
  refine Zbc ((decide (((k:Nat):Int) < ((t.exps.length:Nat):Int)))) (by kernel_rfl) (fun hb12=>?_) (fun hb12=>?_)
  ·have hk2:k < t.exps.length:=by have:=of_decide_eq_true hb12; omega
   refine Zav (Zaa (Zac (ZaP (Zac (Zab ?_)))))
   refine xqk 42 (atA t.A (k * 1)) (fun w R Q=>ZaN (t:=22) (e:=3) (sz:=1) (x:=.tmp 38) (ix:=.tmp 40) (len:=t.exps.length) (cap:=t.cap) (i:=k) ((ht ▸ (hT.ext (ZbM h0 hlo hgl R)).exps' hlt:IRow _ t.A t.exps).ne (i:=k) hk2) hk2) ?_
   refine xqk 43 (.int .i64 (nth t.exps k)) (fun w R Q=>Zbd (t:=3) (x:=.tmp 42) (zs:=t.exps) (j:=k) (ht ▸ (hT.ext (ZbM h0 hlo hgl R)).exps' hlt) hk2) ?_
   refine xq 1 [(8, .v (.int .i64 (nth t.exps k)))] [] ?_
   refine xe (Zaa (Zab (xq 3 [eS1 44 Wd (k + 2) cw,(45, .v (.pointer (some ⟨g,0,none⟩))),(46, .v (.int .i64 (nth t.exps k)))] [] ?_)))
   refine xqc 146 [.pointer (some ⟨g,0,none⟩), .int .i64 (nth t.exps k)] 47 (fun _:Unit=>.string (Zaf (nth t.exps k))) _ (fun w R Q=>(ZgW _ (nth t.exps k) (hte.2 k hk2).1 (by have:=hte.2 k hk2; omega) _ (hg.ext (ZbM h0 hlo hgl R))).mono (fun _ _ h=>Zay h rfl)) (fun xx=>?_)
   refine ZcU (d:=48) (fun zb:Nat=>.slice (some ⟨zb,0,none⟩) 1 1) (fun zb zw=>Blk 9 zw zb #[.string (Zaf (nth t.exps k))]) (by kernel_rfl) (by kernel_rfl) (by kernel_rfl) (by kernel_rfl) (by kernel_rfl) (by kernel_rfl) (fun w R Q=>Zbs (t:=59) (e:=9) (n:=1) (sz:=1) (z:=.string ⟨#[]⟩) (parts:=#[(0,Operand.tmp 47)]) (by kernel_rfl) (by kernel_rfl) (by kernel_rfl) (by kernel_rfl) (by kernel_rfl) (by kernel_rfl)) (fun b13=>?_)
   refine xr 0 [(0, .v (.pointer (some ⟨g,0,none⟩))),eS1 6 Wd (k + 2) cw,eS1 28 A ts.length c,(29, .v (.int .i64 ((ts.length:Nat):Int))),(30, .v (.int .i64 ((j:Nat):Int))),eS1 38 t.A t.exps.length t.cap,(39, .v (.int .i64 ((t.exps.length:Nat):Int))),(40, .v (.int .i64 ((k:Nat):Int))),eS1 44 Wd (k + 2) cw,eS1 48 (some ⟨b13,0,none⟩) 1 1] [] ?_
   refine Zhe (base:=m0) (d:=49) (k:=1) (n:=k + 2) (m:=1) (cap:=cw) (bytes:=16) (t:=59) (e:=9) (s0:=.tmp 44) (x:=.tmp 48) (xs:=Zdf t k) (news:=[.string (Zaf (nth t.exps k))]) (z:=.string ⟨#[]⟩) hm0.symm Wd b13 1 (fun w=>ZaH lo g (l ++ Zax ZaW [Zaf v,Zaf ((ts.length:Nat):Int)] ++ (ts.take j).flatMap ZaR) false w) (fun w Q=>Q.1.1.2) (fun w Q=>Q.2) rfl (by decide) rfl (by decide) (by simp [Value.oneCell']) (by simp only [maxLen]; omega) (by omega) (fun h=>by omega) (fun w w2 R Q hF=>ZaH.own Q.1.1.1 Q.1.1.2 (by decide) hF) (fun A' cap' hA'=>?_)
   refine xr 1 [(0, .v (.pointer (some ⟨g,0,none⟩))),eS1 6 A' (k + 2 + 1) cap',eS1 28 A ts.length c,(29, .v (.int .i64 ((ts.length:Nat):Int))),(30, .v (.int .i64 ((j:Nat):Int))),eS1 38 t.A t.exps.length t.cap,(39, .v (.int .i64 ((t.exps.length:Nat):Int))),(40, .v (.int .i64 ((k:Nat):Int)))] [] ?_
   refine xe (ZbP (Zaa (Zab (xq 1 [(50, .v (.int .i64 (IntKind.i64.wrap (((k:Nat):Int) + 1))))] [] ?_))))
   rw [(show IntKind.i64.wrap (((k:Nat):Int) + 1)=((k + 1:Nat):Int) from by rw [IntKind.wrap_i64]; omega)]
   refine xq 1 [(40, .v (.int .i64 ((k + 1:Nat):Int)))] [] ?_
   refine xe ?_
   refine SXq.weak [(0, .v (.pointer (some ⟨g,0,none⟩))),(6, .v (.slice A' ((k + 1) + 2) cap')),(28, .v (.slice A ts.length c)),(29, .v (.int .i64 ((ts.length:Nat):Int))),(30, .v (.int .i64 ((j:Nat):Int))),(38, .v (.slice t.A t.exps.length t.cap)),(39, .v (.int .i64 ((t.exps.length:Nat):Int))),(40, .v (.int .i64 (((k + 1):Nat):Int)))] [] (Ψ:=fun w=>(ZaH lo g (l ++ Zax ZaW [Zaf v,Zaf ((ts.length:Nat):Int)] ++ (ts.take j).flatMap ZaR) false w∧w.ownsRow m0 9 1 (.slice A' ((k + 1) + 2) cap') ((k + 1) + 2) (Zdf t (k + 1)))) (ZaM.of (by kernel_rfl)) (by kernel_rfl) (fun w Q=>⟨Q.1,(by rw [Zmk hk2]; exact Q.2)⟩) ?_
   exact Zbm ((1 + (t.exps.length - (k + 1)))) (by omega) ⟨(k + 1),cap',A',rfl,rfl,hk2,rfl⟩
  ·have hkge:t.exps.length≤k:=by have:=of_decide_eq_false hb12; omega
   have hke:k=t.exps.length:=by omega
   refine ZbL (Zaw (Zaw (Zcb (Zaa ?_))))
   refine SXc.know (p:=(∃ bk,Wd=some ⟨bk,0,none⟩)∧k + 2≤cw) (fun w _ Q=>OW.form Q.2) (fun hWe=>?_)
   obtain ⟨⟨bk,rfl⟩,hcw⟩:=hWe
   refine Zab (xq 2 [(51, .v (.pointer (some ⟨g,0,none⟩))),eS1 52 (some ⟨bk,0,none⟩) (k + 2) cw] [] ?_)
   refine Zdd (d:=53) (lo:=lo) (g:=g) (l:=l ++ Zax ZaW [Zaf v,Zaf ((ts.length:Nat):Int)] ++ (ts.take j).flatMap ZaR) (bad:=false) (v:=.tuple #[]) (fun w=>ZaH lo g (l ++ Zax ZaW [Zaf v,Zaf ((ts.length:Nat):Int)] ++ (ts.take j).flatMap ZaR ++ ZaR t) false w) 145 [.pointer (some ⟨g,0,none⟩), .slice (some ⟨bk,0,none⟩) (k + 2) cw] (fun _ _ h k=>WrFr.s0 h k) (by kernel_rfl) (fun w R Q=>ZqQ lo g bk cw (k + 2) (l ++ Zax ZaW [Zaf v,Zaf ((ts.length:Nat):Int)] ++ (ts.take j).flatMap ZaR) false Zci (t.coef :: t.exps.map Zaf) _ (by simp; omega) Q.1 (OW.row Q.2 hke) (by omega) htl2.2 htl2.1 (by omega)) (fun w Q=>Q.1) (fun _ _ _ hW hf h1 h2=>hW.fr hf h1 h2) ?_
   refine xr 0 [(0, .v (.pointer (some ⟨g,0,none⟩))),eS1 28 A ts.length c,(29, .v (.int .i64 ((ts.length:Nat):Int))),(30, .v (.int .i64 ((j:Nat):Int)))] [] ?_
   refine xe (ZbP (Zaa (Zab (xq 1 [(54, .v (.int .i64 (IntKind.i64.wrap (((j:Nat):Int) + 1))))] [] ?_))))
   rw [(show IntKind.i64.wrap (((j:Nat):Int) + 1)=((j + 1:Nat):Int) from by rw [IntKind.wrap_i64]; omega)]
   refine xq 1 [(30, .v (.int .i64 ((j + 1:Nat):Int)))] [] ?_
   refine xe ?_
   refine SXq.weak [(0, .v (.pointer (some ⟨g,0,none⟩))),(28, .v (.slice A ts.length c)),(29, .v (.int .i64 ((ts.length:Nat):Int))),(30, .v (.int .i64 (((j + 1):Nat):Int)))] [] (Ψ:=fun w=>ZaH lo g (l ++ Zax ZaW [Zaf v,Zaf ((ts.length:Nat):Int)] ++ (ts.take (j + 1)).flatMap ZaR) false w) (ZaM.of (by kernel_rfl)) (by kernel_rfl) (fun w Q=>(by rw [ZdI hlt ht,← List.append_assoc]; exact Q)) ?_
   exact Zbm ((1 + (ts.length - (j + 1)))) (by omega) ⟨(j + 1),rfl,rfl,hlt,rfl⟩
 ·have hge:ts.length≤j:=by have:=of_decide_eq_false hb11; omega
  refine ZbL (Zaw (Zaw (Zcb ?_)))
  refine Zi9 (v:=.tuple #[]) (by kernel_rfl) (fun w' R Q=>?_)
  exact ⟨rfl,by have h:=Q; rw [List.take_of_length_le hge,List.append_assoc] at h; exact h,R⟩
end Go.Proofs.YtcpjeaaapocoeaaGreatDoor

namespace Go.Proofs.YtcpjeaaapocoeaaGreatDoor
open Go.RowKit
theorem ZaH.bad {lo g:Nat} {l:List UInt8} {b:Bool} {w:World} (h:ZaH lo g l b w):ZaH lo g l true (w.setCell ⟨g,2,none⟩ (.bool true)):=by
 obtain ⟨p,hp,hB,v,hb,hown,hne⟩:=h
 refine ⟨p,hp,hB,v,?_,?_,hne⟩
 ·simp [World.setCell,Array.getElem?_modify,hb]
 ·exact hown.kept (row:=some g) ⟨rfl,rfl,rfl,by simp [World.setCell],fun k _ hk=>Below.heap_setCell _ _ _ _ (fun e=>hk (by simp [e]))⟩ (Or.inr hne)
theorem ZaH.cell2 {lo g:Nat} {l:List UInt8} {b:Bool} {w:World} (h:ZaH lo g l b w):w.cell? ⟨g,2,none⟩=some (.bool b)∧w.frozen? ⟨g,2,none⟩=false:=by
 obtain ⟨p,hp,hB,v,hb,hown,hne⟩:=h
 exact ⟨by rw [Lib.cell_of_heap hb]; rfl,Lib.frozen_of_heap hb 2⟩
set_option maxHeartbeats 1000000 in
theorem ZnM (wl:World) (lo g:Nat) (l:List UInt8) (A:Option Addr) (c:Nat) (ts:List TermR) (v:Int) (w:World) (hT:TRow wl A ts) (h0:Ext wl w) (hW:ZaH lo g l false w) (hc:∀ i,i < ts.length→(bytes ts[i]!.coef).length≤570) (hx:∀ i,i < ts.length→ts[i]!.exps.length≤9223372036854775807) (hok:ZaG v ts=false) :
 Calls Tryz.prog 68 #[.pointer (some ⟨g,0,none⟩), .agg #[.int .i64 v, .slice A ts.length c]] w fun e w'=>e=.returned (.tuple #[])∧ZaH lo g l true w'∧WrFr lo g w w':=by
 have HV:Hid (∀ w',Ext w w'→Calls Tryz.prog 144 #[.agg #[.int .i64 v, .slice A ts.length c]] w' (RetV w' (.bool false))):=zh (fun w' Q=>by
  have h:=Zi2 A c ts v w' ((hT.ext h0).ext Q) hc hx
  rw [hok] at h; exact h)
 have HW:=zh hW
 clear hT h0 hW hc hx hok
 go_enter Tryz.func68,Tryz.ntmps68
 go_wp2_with fail
 generalize hwb:World.alloc w _=wb
 have HE:Hid (Ext w wb):=hwb ▸ (Fr.refl _ _).alloc _
 clear hwb
 refine (HV.out wb HE.out).mono ?_
 rintro e w1 ⟨rfl,hE1⟩
 have HW1:=zh (HW.out.ext (HE.out.trans hE1))
 have HE1:=zh (HE.out.trans hE1)
 have c2:=HW1.out.cell2.1
 have f2:=HW1.out.cell2.2
 clear hE1 HV
 go_wp2
 refine bodyPost_ret (results_none Tryz.results68 _ _ _) rfl ?_
 exact ⟨rfl,HW1.out.bad,(WrFr.of HE1.out).setB 2 _⟩
theorem ZgX (A:Option Addr) (c:Nat) (ts:List TermR) (v:Int) (w:World) (hg:Glob w) (hT:TRow w A ts) (hc:∀ i,i < ts.length→(bytes ts[i]!.coef).length≤570) (hx:∀ i,i < ts.length→ts[i]!.exps.length≤9223372036854775807) (hl:ZaG v ts=true→(ZaI v ts).length≤1048576) :
 Calls Tryz.prog 24 #[.agg #[.int .i64 v, .slice A ts.length c]] w (RetV w (fpV v ts)):=by
 refine Za6 (Φ:=fun w=>Glob w) Tryz.func24 rfl (by kernel_rfl) (fun w' hf=>hg.ext hf) ?_
 refine Zac (Zab (xq 3 [(1, .p 1 0),(2, .v (.string ⟨#[]⟩)),(3, .v (.int .i64 0))] [(1,43,[.v (.int .i64 v), .v (.slice A ts.length c)])] ?_))
 refine xe (Zaa (Zac (Zab (xq 3 [(4, .p 6 0)] [(6,162,[.v (.pointer none), .v (.slice none 0 0), .v (.bool false)])] ?_))))
 refine xe (Zaa (Zac ?_))
 refine SXc.freezeN 6 162 [.pointer none, .slice none 0 0, .bool false] (fun gw=>[(1, .p 1 0),(2, .v (.string ⟨#[]⟩)),(3, .v (.int .i64 0)),(4, .v (.pointer (some ⟨gw,0,none⟩)))]) [(1,43,[.v (.int .i64 v), .v (.slice A ts.length c)])] (by kernel_rfl) (fun _=>by kernel_rfl) (by kernel_rfl) (by kernel_rfl) (fun _=>by kernel_rfl) (fun gw hgw0=>?_)
 have hgw:w.heap.size≤gw:=hgw0.resolve_right (fun f=>f)
 cases hok:ZaG v ts
 ·refine Zab (xq 2 [(7, .v (.pointer (some ⟨gw,0,none⟩))),(8, .v (.agg #[.int .i64 v, .slice A ts.length c]))] [] ?_)
  refine Zdd (d:=9) (lo:=w.heap.size) (g:=gw) (l:=[]) (bad:=false) (v:=.tuple #[]) (fun w1=>ZaH w.heap.size gw ([]) true w1) 68 [.pointer (some ⟨gw,0,none⟩), .agg #[.int .i64 v, .slice A ts.length c]] (fun _ _ h k=>WrFr.old h hgw k) (by kernel_rfl) (fun w1 R Q=>ZnM w w.heap.size gw [] A c ts v w1 hT R (ZaH.new hgw Q.2) hc hx hok) (fun w1 Q=>ZaH.new hgw Q.2) (fun _ _ _ hW hf h1 h2=>hW.fr hf h1 h2) ?_
  refine xr 0 [(2, .v (.string ⟨#[]⟩)),(3, .v (.int .i64 0)),(4, .v (.pointer (some ⟨gw,0,none⟩)))] [] ?_
  refine xe (Zaa (Zac (Zab (xq 1 [(10, .v (.pointer (some ⟨gw,0,none⟩)))] [] ?_))))
  refine Zdd (d:=11) (lo:=w.heap.size) (g:=gw) (l:=[]) (bad:=true) (v:=.tuple #[.string ⟨#[]⟩, .int .i64 1]) (fun _=>True) 69 [.pointer (some ⟨gw,0,none⟩)] (fun _ _ h k=>WrFr.old h hgw k) (by kernel_rfl) (fun w1 R Q=>(Zrg w.heap.size gw [] w1 Q).mono (fun _ _ h=>⟨h.1,trivial,by rw [h.2]; exact WrFr.refl _ _ _⟩)) (fun w1 Q=>Q) (fun _ _ _ _ _ _ _=>trivial) ?_
  refine xr 4 [(2, .v (.string ⟨#[]⟩)),(3, .v (.int .i64 1))] [] ?_
  refine xe (Zaa (Zau ?_))
  refine Zai (v:=.tuple #[.string ⟨#[]⟩, .int .i64 1]) (by kernel_rfl) (fun w' R Q=>?_)
  exact ⟨by unfold fpV; rw [hok]; rfl,R⟩
 ·refine Zab (xq 2 [(7, .v (.pointer (some ⟨gw,0,none⟩))),(8, .v (.agg #[.int .i64 v, .slice A ts.length c]))] [] ?_)
  refine Zdd (d:=9) (lo:=w.heap.size) (g:=gw) (l:=[]) (bad:=false) (v:=.tuple #[]) (fun w1=>ZaH w.heap.size gw (ZaI v ts) false w1) 68 [.pointer (some ⟨gw,0,none⟩), .agg #[.int .i64 v, .slice A ts.length c]] (fun _ _ h k=>WrFr.old h hgw k) (by kernel_rfl) (fun w1 R Q=>ZnL w w.heap.size gw [] A c ts v w1 rfl hgw hg hT R (ZaH.new hgw Q.2) hc hok (hl hok)) (fun w1 Q=>ZaH.new hgw Q.2) (fun _ _ _ hW hf h1 h2=>hW.fr hf h1 h2) ?_
  refine xr 0 [(2, .v (.string ⟨#[]⟩)),(3, .v (.int .i64 0)),(4, .v (.pointer (some ⟨gw,0,none⟩)))] [] ?_
  refine xe (Zaa (Zac (Zab (xq 1 [(10, .v (.pointer (some ⟨gw,0,none⟩)))] [] ?_))))
  refine Zdd (d:=11) (lo:=w.heap.size) (g:=gw) (l:=ZaI v ts) (bad:=false) (v:=.tuple #[.string ⟨(ZaI v ts).toArray⟩, .int .i64 0]) (fun _=>True) 69 [.pointer (some ⟨gw,0,none⟩)] (fun _ _ h k=>WrFr.old h hgw k) (by kernel_rfl) (fun w1 R Q=>(ZqP w.heap.size gw (ZaI v ts) w1 Q (Zlw v ts) (hl hok)).mono (fun _ _ h=>⟨h.1,trivial,h.2⟩)) (fun w1 Q=>Q) (fun _ _ _ _ _ _ _=>trivial) ?_
  refine xr 4 [(2, .v (.string ⟨(ZaI v ts).toArray⟩)),(3, .v (.int .i64 0))] [] ?_
  refine xe (Zaa (Zau ?_))
  refine Zai (v:=.tuple #[.string ⟨(ZaI v ts).toArray⟩, .int .i64 0]) (by kernel_rfl) (fun w' R Q=>?_)
  exact ⟨by unfold fpV; rw [hok]; rfl,R⟩
end Go.Proofs.YtcpjeaaapocoeaaGreatDoor

namespace Go.Proofs.YtcpjeaaapocoeaaGreatDoor
open Go.RowKit
theorem Zm1 {v:Int} {ts:List TermR} (h:ZaG v ts=true):fpV v ts=.tuple #[.string ⟨(ZaI v ts).toArray⟩, .int .i64 0]:=by
 unfold fpV; rw [if_pos h]
theorem Zo7 {v:Int} {ts:List TermR} (h:ZaG v ts=false):fpV v ts=.tuple #[.string ⟨#[]⟩, .int .i64 1]:=by
 unfold fpV; rw [h]; rfl
theorem Zo8 {v:Int} {ts:List TermR} (h:(ZaI v ts).length≤1048576):(⟨(ZaI v ts).toArray⟩:ByteArray).size≤1048576:=by
 show (ZaI v ts).toArray.size≤_
 rw [List.size_toArray]; exact h
theorem Zm2 {us ts:List TermR} (h:us.map keyT=ts.map keyT):us.length=ts.length:=by
 have:=congrArg List.length h; simpa using this
theorem Zml {m0:Nat} {v:Int} {ts:List TermR} {w w':World} {e:Ending} (hm:m0≤w.heap.size) (h:∃ A c us,e=.returned (.tuple #[.agg #[.int .i64 v, .slice A us.length c], .int .i64 0])∧us.map keyT=ts.map keyT∧PRow w.heap.size A c us w'∧Ext w w') :
 Zbh (fun x:PRet m0 ts=>.tuple #[.agg #[.int .i64 v, .slice x.1 ts.length x.2.1], .int .i64 0]) (fun x w=>PRow m0 x.1 x.2.1 x.2.2.1 w) w e w':=by
 obtain ⟨A,c,us,rfl,hk,hP,Q⟩:=h
 rw [Zm2 hk]
 exact ⟨(A,c,⟨us,hk⟩),rfl,Q,fun S hS w2 hF=>PRow.mono hm (hP.fr hF (fun i hi=>(hS i hi).1))⟩
theorem ZnN {ts:List TermR} {j:Nat} {t:TermR} (hall:∀ i,i < j→(bytes ts[i]!.coef).length≤100∧ts[i]!.exps.length≤10) (ht:ts[j]! = t) (h1:¬ 100 < t.coef.size) (h2:¬ 10 < t.exps.length):∀ i,i < j + 1→(bytes ts[i]!.coef).length≤100∧ts[i]!.exps.length≤10:=fun i hi=>by
 rcases (by omega:i < j∨i=j) with h | rfl
 ·exact hall i h
 ·rw [ht,Zag]; omega
theorem Zh7 {z:Int} (h0:0≤z) (h1:z≤1000000000):(bytes (Zaf z)).length≤18:=by
 show (Lib.itoa z).length≤18
 rw [ZdW h0]; exact ZgQ 17 z.toNat (by omega)
theorem Zkd:∀ (ss:List ByteArray) (b:Nat),(∀ s ∈ ss,(bytes s).length≤b)→(ZaO ss).length≤ss.length * (b + 1)
 | [],b,_=>by simp [ZaO]
 | s :: ss,b,h=>by
   have h1:=Zkd ss b (fun x hx=>h x (List.mem_cons_of_mem _ hx))
   have h2:=h s List.mem_cons_self
   have e:ZaO (s :: ss)=(32 :: bytes s) ++ ZaO ss:=rfl
   rw [e,List.length_append,List.length_cons,List.length_cons,Nat.add_mul]
   omega
theorem ZlE {k:ByteArray} {ss:List ByteArray} {b n:Nat} (h:∀ s ∈ ss,(bytes s).length≤b) (hn:ss.length≤n):(Zax k ss).length≤(bytes k).length + n * (b + 1) + 1:=by
 have h1:=Zkd ss b h
 have h2:ss.length * (b + 1)≤n * (b + 1):=Nat.mul_le_mul_right _ hn
 unfold Zax
 rw [List.length_append,List.length_append,List.length_singleton]
 omega
theorem ZlF:∀ (ts:List TermR) (b:Nat),(∀ t ∈ ts,(ZaR t).length≤b)→(ts.flatMap ZaR).length≤ts.length * b
 | [],b,_=>by simp
 | t :: ts,b,h=>by
   have h1:=ZlF ts b (fun x hx=>h x (List.mem_cons_of_mem _ hx))
   have h2:=h t List.mem_cons_self
   rw [List.flatMap_cons,List.length_append,List.length_cons,Nat.add_mul]
   omega
theorem Zdr {v:Int} {ts:List TermR} (hok:ZaG v ts=true) (hn:ts.length≤12) (hs:∀ i,i < ts.length→(bytes ts[i]!.coef).length≤100∧ts[i]!.exps.length≤10):(ZaI v ts).length≤1048576:=by
 have hp:=ZaG.parts hok
 have h1:(Zax ZaW [Zaf v,Zaf ((ts.length:Nat):Int)]).length≤(bytes ZaW).length + 2 * (18 + 1) + 1:=ZlE (b:=18) (n:=2) (fun s hs=>by
  rcases List.mem_cons.1 hs with rfl | hs
  ·exact Zh7 (z:=v) hp.1.1 (by omega)
  ·obtain rfl:=List.mem_singleton.1 hs
   exact Zh7 (z:=((ts.length:Nat):Int)) (by omega) (by omega)) (Nat.le_refl _)
 have h2:(ts.flatMap ZaR).length≤ts.length * 2000:=ZlF ts 2000 (fun t ht=>by
  obtain ⟨i,hi,e⟩:=List.getElem_of_mem ht
  have h3:=hs i hi
  have h4:=ZaF.exps' (Zdz hp.2.2 hi) hp.1.2
  rw [getElem!_pos ts i hi,e] at h3 h4
  have h5:(Zax Zci (t.coef :: t.exps.map Zaf)).length≤(bytes Zci).length + 11 * (100 + 1) + 1:=ZlE (b:=100) (n:=11) (fun s hs=>by
   rcases List.mem_cons.1 hs with rfl | hs
   ·exact h3.1
   ·obtain ⟨z,hz,rfl⟩:=List.mem_map.1 hs
    obtain ⟨k,hk,e2⟩:=List.getElem_of_mem hz
    have h6:=h4.2 k hk
    unfold nth at h6
    rw [List.getElem?_eq_getElem hk,e2] at h6
    exact Nat.le_trans (Zh7 h6.1 h6.2) (by decide)) (by rw [List.length_cons,List.length_map]; omega)
  have h7:(bytes Zci).length=4:=rfl
  show (Zax Zci (t.coef :: t.exps.map Zaf)).length≤2000
  omega)
 have h8:(bytes ZaW).length=4:=rfl
 unfold ZaI
 rw [List.length_append]
 omega
theorem Zi3 (A:Option Addr) (c:Nat) (ts:List TermR) (v:Int) (w:World) (hg:Glob w) (hT:TRow w A ts) :
 Calls Tryz.prog 6 #[.agg #[.int .i64 v, .slice A ts.length c]] w (RetV w (.bool true)):=by
 obtain ⟨m0,hm0⟩:∃ m,m=w.heap.size:=⟨_,rfl⟩
 refine Za6 (Φ:=fun w=>(Glob w∧TRow w A ts)) Tryz.func6 rfl (by kernel_rfl) (fun w' hf=>⟨hg.ext hf,hT.ext hf⟩) ?_
 refine Zac (Zab (xq 2 [(1, .p 1 0),(2, .v (.bool false))] [(1,43,[.v (.int .i64 v), .v (.slice A ts.length c)])] ?_))
 refine xe (Zaa (Zac (Zac ?_)))
 by_cases h12:12 < ts.length
 ·refine Zab (xq 4 [(14, .v (.bool (decide (((ts.length:Nat):Int) > 12))))] [] ?_)
  rw [(show decide (((ts.length:Nat):Int) > 12)=true from decide_eq_true (by omega))]
  refine xe (Zaa (xa (Zac (Zab ?_))))
  refine xqc 15 [] 15 (fun _:Unit=>.bool true) _ (fun w R Q=>(Zdp _ Q.1).mono (fun _ _ h=>Zay h rfl)) (fun xx=>?_)
  refine xq 1 [(2, .v (.bool true))] [] ?_
  refine xe (Zaa (Zau (Zae ?_)))
  refine Zai (v:=.bool true) (by kernel_rfl) (fun w' R Q=>?_)
  exact ⟨rfl,R⟩
 ·refine Zab (xq 4 [(14, .v (.bool (decide (((ts.length:Nat):Int) > 12))))] [] ?_)
  rw [(show decide (((ts.length:Nat):Int) > 12)=false from decide_eq_false (by omega))]
  refine xe (Zaa (xb (Zav (Zaa (Zac (Zac (Zab (xq 4 [eS1 17 A ts.length c,(18, .v (.int .i64 ((ts.length:Nat):Int))),(19, .v (.int .i64 0))] [] ?_))))))))
  refine xe (Zaa (ZaP ?_))
  refine SXc.weak [(1, .p 1 0),(2, .v (.bool false)),(17, .v (.slice A ts.length c)),(18, .v (.int .i64 ((ts.length:Nat):Int))),(19, .v (.int .i64 ((0:Nat):Int)))] [(1,43,[.v (.int .i64 v), .v (.slice A ts.length c)])] (Ψ:=fun w=>(Glob w∧TRow w A ts)) (ZaM.of (by kernel_rfl)) (by kernel_rfl) (fun w Q=>⟨Q.1,Q.2⟩) ?_
  refine ZbU (fun nn ss ff=>∃ (j:Nat),ss=ofL [(1, .p 1 0),(2, .v (.bool false)),(17, .v (.slice A ts.length c)),(18, .v (.int .i64 ((ts.length:Nat):Int))),(19, .v (.int .i64 ((j:Nat):Int)))] [(1,43,[.v (.int .i64 v), .v (.slice A ts.length c)])]∧ff=(fun w=>(Glob w∧TRow w A ts))∧(j≤ts.length)∧(∀ i,i < j→(bytes ts[i]!.coef).length≤100∧ts[i]!.exps.length≤10)∧nn=(1 + (ts.length - j))) ((1 + (ts.length - 0))) ⟨0,rfl,rfl,(Nat.zero_le _),(fun i hi=>absurd hi (Nat.not_lt_zero i)),rfl⟩ ?_
  rintro nn ss ff ⟨j,rfl,rfl,hj,hall,rfl⟩
  refine Zac (Zab (xq 1 [(20, .v (.bool (decide (((j:Nat):Int) < ((ts.length:Nat):Int)))))] [] ?_))
  refine xe (Zaa (Zac ?_))
  refine Zbc ((decide (((j:Nat):Int) < ((ts.length:Nat):Int)))) (by kernel_rfl) (fun hb10=>?_) (fun hb10=>?_)
  ·have hlt:j < ts.length:=by have:=of_decide_eq_true hb10; omega
   obtain ⟨t,ht⟩:∃ x,ts[j]! = x:=⟨_,rfl⟩
   refine Zav (Zaa (Zac (ZaP (Zac (Zab ?_)))))
   refine xqk 21 (atA A (j * 2)) (fun w R Q=>ZaN (t:=41) (e:=53) (sz:=2) (x:=.tmp 17) (ix:=.tmp 19) (len:=ts.length) (cap:=c) (i:=j) ((Q.2).ne hlt) hlt) ?_
   refine xqk 22 (.agg #[.string t.coef, .slice t.A t.exps.length t.cap]) (fun w R Q=>by rw [← ht]; exact Zhf (t:=53) (x:=.tmp 21) (ts:=ts) (j:=j) Q.2 hlt) ?_
   refine xq 2 [(4, .p 4 0)] [(4,53,[.v (.string t.coef), .v (.slice t.A t.exps.length t.cap)])] ?_
   refine xe (Zaa (Zac ?_))
   by_cases h100:100 < t.coef.size
   ·refine Zab (xq 4 [(26, .v (.bool (decide (((t.coef).size:Int) > 100))))] [] ?_)
    rw [(show decide (((t.coef).size:Int) > 100)=true from decide_eq_true (by omega))]
    refine xq 6 [(32, .v (.bool true))] [] ?_
    refine xe (Zaa (xa (Zac (Zab ?_))))
    refine xqc 15 [] 33 (fun _:Unit=>.bool true) _ (fun w R Q=>(Zdp _ Q.1).mono (fun _ _ h=>Zay h rfl)) (fun xx=>?_)
    refine xq 1 [(2, .v (.bool true))] [] ?_
    refine xe (Zaa (Zau (ZaC (Zae (Zae (ZaC (Zae ?_)))))))
    refine Zai (v:=.bool true) (by kernel_rfl) (fun w' R Q=>?_)
    exact ⟨rfl,R⟩
   ·by_cases h10:10 < t.exps.length
    ·refine Zab (xq 4 [(26, .v (.bool (decide (((t.coef).size:Int) > 100))))] [] ?_)
     rw [(show decide (((t.coef).size:Int) > 100)=false from decide_eq_false (by omega))]
     refine xq 5 [(27, .v (.bool false)),(31, .v (.bool (decide (((t.exps.length:Nat):Int) > 10))))] [] ?_
     rw [(show decide (((t.exps.length:Nat):Int) > 10)=true from decide_eq_true (by omega))]
     refine xq 1 [(32, .v (.bool true))] [] ?_
     refine xe (Zaa (xa (Zac (Zab ?_))))
     refine xqc 15 [] 33 (fun _:Unit=>.bool true) _ (fun w R Q=>(Zdp _ Q.1).mono (fun _ _ h=>Zay h rfl)) (fun xx=>?_)
     refine xq 1 [(2, .v (.bool true))] [] ?_
     refine xe (Zaa (Zau (ZaC (Zae (Zae (ZaC (Zae ?_)))))))
     refine Zai (v:=.bool true) (by kernel_rfl) (fun w' R Q=>?_)
     exact ⟨rfl,R⟩
    ·refine Zab (xq 4 [(26, .v (.bool (decide (((t.coef).size:Int) > 100))))] [] ?_)
     rw [(show decide (((t.coef).size:Int) > 100)=false from decide_eq_false (by omega))]
     refine xq 5 [(27, .v (.bool false)),(31, .v (.bool (decide (((t.exps.length:Nat):Int) > 10))))] [] ?_
     rw [(show decide (((t.exps.length:Nat):Int) > 10)=false from decide_eq_false (by omega))]
     refine xq 1 [(32, .v (.bool false))] [] ?_
     refine xe (Zaa (xb (Zav (ZbP (Zaa (Zab (xq 1 [(34, .v (.int .i64 (IntKind.i64.wrap (((j:Nat):Int) + 1))))] [] ?_)))))))
     rw [(show IntKind.i64.wrap (((j:Nat):Int) + 1)=((j + 1:Nat):Int) from by rw [IntKind.wrap_i64]; omega)]
     refine xq 1 [(19, .v (.int .i64 ((j + 1:Nat):Int)))] [] ?_
     refine xe ?_
     refine SXq.weak [(1, .p 1 0),(2, .v (.bool false)),(17, .v (.slice A ts.length c)),(18, .v (.int .i64 ((ts.length:Nat):Int))),(19, .v (.int .i64 (((j + 1):Nat):Int)))] [(1,43,[.v (.int .i64 v), .v (.slice A ts.length c)])] (Ψ:=fun w=>(Glob w∧TRow w A ts)) (ZaM.of (by kernel_rfl)) (by kernel_rfl) (fun w Q=>⟨Q.1,Q.2⟩) ?_
     exact Zbm ((1 + (ts.length - (j + 1)))) (by omega) ⟨(j + 1),rfl,rfl,hlt,(ZnN hall ht h100 h10),rfl⟩
  ·have hge:ts.length≤j:=by have:=of_decide_eq_false hb10; omega
   refine ZbL (Zaw (Zaw (Zcb (Zaa (Zac ?_)))))
   have hsm:∀ i,i < ts.length→(bytes ts[i]!.coef).length≤100∧ts[i]!.exps.length≤10:=fun i hi=>hall i (by omega)
   have hc:∀ i,i < ts.length→(bytes ts[i]!.coef).length≤570:=fun i hi=>Nat.le_trans (hsm i hi).1 (by decide)
   have hx:∀ i,i < ts.length→ts[i]!.exps.length≤9223372036854775807:=fun i hi=>Nat.le_trans (hsm i hi).2 (by decide)
   cases hok:ZaG v ts
   ·refine Zab (xq 1 [(36, .v (.agg #[.int .i64 v, .slice A ts.length c]))] [] ?_)
    refine xqc 20 [.agg #[.int .i64 v, .slice A ts.length c]] 37 (fun _:Unit=>.tuple #[.string ⟨#[]⟩, .int .i64 1]) _ (fun w R Q=>(ZgU A c ts v _ Q.1 Q.2 hc hx (fun h=>Zdr h (by omega) hsm)).mono (fun _ _ h=>Zay h (Zo7 hok))) (fun xx=>?_)
    refine xq 5 [(5, .v (.string ⟨#[]⟩)),(6, .v (.int .i64 1))] [] ?_
    refine xe (Zaa (Zac (Zab (xq 1 [(41, .v (.agg #[.int .i64 v, .slice A ts.length c]))] [] ?_))))
    refine xqc 24 [.agg #[.int .i64 v, .slice A ts.length c]] 42 (fun _:Unit=>.tuple #[.string ⟨#[]⟩, .int .i64 1]) _ (fun w R Q=>(ZgX A c ts v _ Q.1.1 Q.1.2 hc hx (fun h=>Zdr h (by omega) hsm)).mono (fun _ _ h=>Zay h (Zo7 hok))) (fun xx=>?_)
    refine xq 5 [(7, .v (.string ⟨#[]⟩)),(8, .v (.int .i64 1))] [] ?_
    refine xe (Zaa (Zac (Zac (Zab (xq 7 [(48, .v (.bool false)),(51, .v (.bool (!((⟨#[]⟩:ByteArray).toList == (⟨#[]⟩:ByteArray).toList))))] [] ?_)))))
    rw [ZfJ,Bool.not_true]
    refine xq 1 [(52, .v (.bool false))] [] ?_
    refine xe (Zaa (xb (Zav (Zaa (Zac (Zac (Zab (xq 2 [(54, .v (.bool true))] [] ?_))))))))
    refine xe (Zaa (xa (Zac (Zab ?_))))
    refine xqc 15 [] 55 (fun _:Unit=>.bool true) _ (fun w R Q=>(Zdp _ Q.1.1.1).mono (fun _ _ h=>Zay h rfl)) (fun xx=>?_)
    refine xq 1 [(2, .v (.bool true))] [] ?_
    refine xe (Zaa (Zau (Zae ?_)))
    refine Zai (v:=.bool true) (by kernel_rfl) (fun w' R Q=>?_)
    exact ⟨rfl,R⟩
   ·refine Zab (xq 1 [(36, .v (.agg #[.int .i64 v, .slice A ts.length c]))] [] ?_)
    refine xqc 20 [.agg #[.int .i64 v, .slice A ts.length c]] 37 (fun _:Unit=>.tuple #[.string ⟨(ZaI v ts).toArray⟩, .int .i64 0]) _ (fun w R Q=>(ZgU A c ts v _ Q.1 Q.2 hc hx (fun h=>Zdr h (by omega) hsm)).mono (fun _ _ h=>Zay h (Zm1 hok))) (fun xx=>?_)
    refine xq 5 [(5, .v (.string ⟨(ZaI v ts).toArray⟩)),(6, .v (.int .i64 0))] [] ?_
    refine xe (Zaa (Zac (Zab (xq 1 [(41, .v (.agg #[.int .i64 v, .slice A ts.length c]))] [] ?_))))
    refine xqc 24 [.agg #[.int .i64 v, .slice A ts.length c]] 42 (fun _:Unit=>.tuple #[.string ⟨(ZaI v ts).toArray⟩, .int .i64 0]) _ (fun w R Q=>(ZgX A c ts v _ Q.1.1 Q.1.2 hc hx (fun h=>Zdr h (by omega) hsm)).mono (fun _ _ h=>Zay h (Zm1 hok))) (fun xx=>?_)
    refine xq 5 [(7, .v (.string ⟨(ZaI v ts).toArray⟩)),(8, .v (.int .i64 0))] [] ?_
    refine xe (Zaa (Zac (Zac (Zab (xq 7 [(48, .v (.bool false)),(51, .v (.bool (!((⟨(ZaI v ts).toArray⟩:ByteArray).toList == (⟨(ZaI v ts).toArray⟩:ByteArray).toList))))] [] ?_)))))
    rw [ZfJ,Bool.not_true]
    refine xq 1 [(52, .v (.bool false))] [] ?_
    refine xe (Zaa (xb (Zav (Zaa (Zac (Zac (Zab (xq 2 [(54, .v (.bool false))] [] ?_))))))))
    refine xe (Zaa (xb (Zav (Zaa (Zac (Zab (xq 1 [(57, .v (.string ⟨(ZaI v ts).toArray⟩))] [] ?_)))))))
    refine xqc 21 [.string ⟨(ZaI v ts).toArray⟩] 58 (fun x:PRet m0 ts=>.tuple #[.agg #[.int .i64 v, .slice x.1 ts.length x.2.1], .int .i64 0]) _ (fun w R Q=>(Zkv ⟨(ZaI v ts).toArray⟩ v ts _ Q.1.1.1 rfl hok hc (Zo8 (Zdr hok (by omega) hsm))).mono (fun _ _ h=>Zml (hm0 ▸ R.size) h)) (fun x=>?_)
    refine xq 6 [(9, .p 9 0),(10, .v (.int .i64 0))] [(9,43,[.v (.int .i64 v), .v (.slice x.1 ts.length x.2.1)])] ?_
    refine xe (Zaa (Zac (Zab ?_)))
    refine xqc 15 [] 61 (fun _:Unit=>.bool true) _ (fun w R Q=>(Zdp _ Q.1.1.1.1).mono (fun _ _ h=>Zay h rfl)) (fun xx=>?_)
    refine xq 7 [(66, .v (.bool true)),(67, .v (.agg #[.int .i64 v, .slice A ts.length c])),(68, .v (.agg #[.int .i64 v, .slice x.1 ts.length x.2.1]))] [] ?_
    refine xqc 22 [.agg #[.int .i64 v, .slice A ts.length c], .agg #[.int .i64 v, .slice x.1 ts.length x.2.1]] 69 (fun _:Unit=>.bool true) _ (fun w R Q=>(ZlA A x.1 c x.2.1 ts.length ts x.2.2.1 v _ Q.1.1.1.1.2 (PRow.row Q.1.2) x.2.2.2.symm rfl (Zm2 x.2.2.2) (by omega) (fun i hi=>Nat.le_trans (hsm i hi).2 (by decide))).mono (fun _ _ h=>Zay h rfl)) (fun xx=>?_)
    refine xq 2 [(2, .v (.bool true))] [] ?_
    refine xe (Zaa (Zau ?_))
    refine Zai (v:=.bool true) (by kernel_rfl) (fun w' R Q=>?_)
    exact ⟨rfl,R⟩
end Go.Proofs.YtcpjeaaapocoeaaGreatDoor
