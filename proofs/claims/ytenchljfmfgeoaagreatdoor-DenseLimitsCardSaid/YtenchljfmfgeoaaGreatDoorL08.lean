/-
 My texts Glob, Sim, Sim1, Sim2, App2, Text, Room, Dec, Pad put together.
-/
import Derived.Test.YtenchljfmfgeoaaGreatDoorL07
import Derived.Lib.AppendIntMem
import Derived.Shelf.Spec.TrailingZeros
import Derived.Test.YtenchljfmfgeoaaGreatDoorL00
import Derived.Test.YtenchljfmfgeoaaGreatDoorL01
import Derived.Test.YtenchljfmfgeoaaGreatDoorL06
import Derived.Test.YtenchljfmfgeoaaGreatDoorL03
import Derived.Lib.AppendStr
set_option maxRecDepth 100000
namespace Go.Proofs.YtenchljfmfgeoaaGreatDoor
open Go.RowKit
def db64:List Int:=Lib.deBruijn64tab.map fun n:Nat=>(n:Int)
def Glob (w : World) : Prop := Lib.TabIs Tryz.prog w "internal/strconv.uint64pow10" .u64 Lib.pow10Tab ∧ Lib.TabIs Tryz.prog w "math/bits.deBruijn64tab" .u8 db64
theorem Glob.ext {w w':World} (h:Glob w) (hf:Ext w w'):Glob w':=⟨Lib.tabBelow_of_tabIs h.1 w' hf.toBelow,Lib.tabBelow_of_tabIs h.2 w' hf.toBelow⟩
theorem Glob.cell {w:World} (h:Glob w) (i:Nat) (hi:i < 64):w.cell? ⟨2,i,none⟩=some (.int .u8 ((Lib.deBruijn64tab.getD i 0:Nat):Int)):=by
 have h1:=h.2.cell (g:=2) (by kernel_rfl) i (by rw [db64,List.length_map]; exact hi)
 rw [h1]
 have hl:i < Lib.deBruijn64tab.length:=hi
 simp [db64,List.getElem?_eq_getElem hl]
theorem ZiA:∀ (f t m:Nat),t < f→Lib.ctzFrom f (2 ^ t * (2 * m + 1))=t
 | 0,t,m,h=>by omega
 | f + 1,0,m,_=>by unfold Lib.ctzFrom; rw [if_pos (by omega)]
 | f + 1,t + 1,m,h=>by
   unfold Lib.ctzFrom
   have e:2 ^ (t + 1) * (2 * m + 1)=2 * (2 ^ t * (2 * m + 1)):=by rw [Nat.pow_succ,Nat.mul_comm (2 ^ t) 2,Nat.mul_assoc]
   rw [e,if_neg (by omega),Nat.mul_div_cancel_left _ (by omega),ZiA f t m (by omega)]
   omega
theorem Zjm (x:Nat) (h0:0 < x) (hx:x < W64):∃ t m,x=2 ^ t * (2 * m + 1)∧t < 64:=by
 rw [Zan] at hx
 obtain ⟨m,h1,h2⟩:=Lib.ctzFrom_spec 64 x h0 (by omega)
 exact ⟨_,m,h1,h2⟩
set_option maxHeartbeats 1000000 in
theorem Zoe (x k idx:Nat) (w:World) (hx0:((x:Int) == 0)=false)
 (key:IntKind.u64.wrap (bits BinOp.and IntKind.u64 (x:Int) (IntKind.u64.wrap (-(x:Int))) * 285870213051353865) / 288230376151711744=(idx:Int))
 (hi:idx < 64) (hk:k < 64) (hcell:w.cell? ⟨2,idx,none⟩=some (.int .u8 (k:Int))) :
 Calls Tryz.prog 200 #[.int .u64 (x:Int)] w fun e w'=>e=.returned (.int .i64 (k:Int))∧w=w':=by
 go_enter Tryz.func200,Tryz.ntmps200
 go_wp2_with (simp only [key])
 go_ret
 exact ⟨rfl,rfl⟩
theorem Zgc (x t m:Nat) (w:World) (hg:Glob w) (hx:x=2 ^ t * (2 * m + 1)) (ht:t < 64) (hxW:x < W64) :
 Calls Tryz.prog 200 #[.int .u64 (x:Int)] w fun e w'=>e=.returned (.int .i64 (t:Int))∧w=w':=by
 rw [Zan] at hxW
 have hx0:x≠0:=by
  rw [hx]; intro e
  rcases Nat.mul_eq_zero.1 e with e | e
  ·have:=Nat.pow_pos (a:=2) (n:=t) (by omega); omega
  ·omega
 obtain ⟨hlow,hk⟩:=Lib.lowest_bit 64 x hx0 hxW
 obtain ⟨hi,htab⟩:=Lib.deBruijn64_at _ hk
 have hcell:=hg.cell _ hi
 rw [htab] at hcell
 have e:Lib.ctz 64 x=t:=by
  unfold Lib.ctz
  rw [if_neg hx0,hx]
  exact ZiA 64 t m ht
 have h:=Zoe x _ _ w (by simp; omega) (Go.Proofs.tz64_key x _ hxW hx0 hlow) hi hk hcell
 rw [e] at h
 exact h
theorem Zd0 (x t y:Nat) (hx:x % 2=1):Nat.gcd x (2 ^ t * y)=Nat.gcd x y:=by
 have h:Nat.Coprime x (2 ^ t):=by
  refine Nat.Coprime.pow_right t ?_
  rw [Nat.coprime_comm,Nat.Coprime,Nat.gcd_rec,hx]
  simp
 exact h.symm.gcd_mul_left_cancel_right y
theorem ZlU (a b x y:Nat) (hx:x % 2=1) (hy:y % 2=1):Nat.gcd (2 ^ a * x) (2 ^ b * y)=2 ^ (min a b) * Nat.gcd x y:=by
 rcases Nat.le_total a b with h | h
 ·obtain ⟨c,rfl⟩:∃ c,b=a + c:=⟨b - a,by omega⟩
  rw [Nat.min_eq_left h,Nat.pow_add,Nat.mul_assoc,Nat.gcd_mul_left,Zd0 x c y hx]
 ·obtain ⟨c,rfl⟩:∃ c,a=b + c:=⟨a - b,by omega⟩
  rw [Nat.min_eq_right h,Nat.pow_add,Nat.mul_assoc,Nat.gcd_mul_left,Nat.gcd_comm,Zd0 y c x hy,Nat.gcd_comm]
theorem Zsa (a b m n:Nat):∃ k,2 ^ a * (2 * m + 1) ||| 2 ^ b * (2 * n + 1)=2 ^ (min a b) * (2 * k + 1):=by
 have key:∀ c p q:Nat,∃ k,(2 * p + 1) ||| (2 ^ c * (2 * q + 1))=2 * k + 1:=by
  intro c p q
  refine ⟨((2 * p + 1) ||| (2 ^ c * (2 * q + 1))) / 2,?_⟩
  have:((2 * p + 1) ||| (2 ^ c * (2 * q + 1))) % 2=1:=by
   simp
  omega
 have sh:∀ a x y:Nat,2 ^ a * x ||| 2 ^ a * y=2 ^ a * (x ||| y):=by
  intro a x y
  rw [Nat.mul_comm _ x,Nat.mul_comm _ y,Nat.mul_comm _ (x ||| y),← Nat.shiftLeft_eq,← Nat.shiftLeft_eq,← Nat.shiftLeft_eq,Nat.shiftLeft_or_distrib]
 rcases Nat.le_total a b with h | h
 ·obtain ⟨c,rfl⟩:∃ c,b=a + c:=⟨b - a,by omega⟩
  obtain ⟨k,hk⟩:=key c m n
  exact ⟨k,by rw [Nat.min_eq_left h,Nat.pow_add,Nat.mul_assoc,sh,hk]⟩
 ·obtain ⟨c,rfl⟩:∃ c,a=b + c:=⟨a - b,by omega⟩
  obtain ⟨k,hk⟩:=key c n m
  exact ⟨k,by rw [Nat.min_eq_right h,Nat.pow_add,Nat.mul_assoc,sh,Nat.or_comm,hk]⟩
theorem Zrb {x y:Nat} (hx:x < W64) (hy:y < W64):x ||| y < W64:=by
 rw [Zan] at *
 exact Nat.or_lt_two_pow (n:=64) hx hy
set_option maxHeartbeats 2000000 in
theorem Zej (x y g:Nat) (w:World) (hg:Glob w) (hx:x < W64) (hy:y < W64) (hgv:Nat.gcd x y=g) :
 Calls Tryz.prog 191 #[.int .u64 (x:Int), .int .u64 (y:Int)] w fun e w'=>e=.returned (.int .u64 (g:Int))∧w=w':=by
 have HG:=zh hgv
 have HX:=zh hx
 have HY:=zh hy
 have HGl:=zh hg
 clear hg hx hy hgv
 by_cases h0:x=0
 ·subst h0
  have e1:=Zes (a:=0) (b:=y) HX.out HY.out
  have HE:Hid (y=g):=by have:=HG.out; rw [Nat.gcd_zero_left] at this; exact this
  rw [Nat.zero_or] at e1
  go_enter Tryz.func191,Tryz.ntmps191
  go_wp2
  go_ret
  exact ⟨by rw [← HE.out]; first | exact congrArg Ending.returned (congrArg (Value.int .u64) e1) | rfl,rfl⟩
 have x0:((x:Int) == 0)=false:=by simp; omega
 by_cases h1:y=0
 ·subst h1
  have e1:=Zes (a:=x) (b:=0) HX.out HY.out
  have HE:Hid (x=g):=by have:=HG.out; rw [Nat.gcd_zero_right] at this; exact this
  rw [Nat.or_zero] at e1
  go_enter Tryz.func191,Tryz.ntmps191
  go_wp2
  go_ret
  exact ⟨by rw [← HE.out]; first | exact congrArg Ending.returned (congrArg (Value.int .u64) e1) | rfl,rfl⟩
 have y0:((y:Int) == 0)=false:=by simp; omega
 obtain ⟨a,m,hxa,ha⟩:=Zjm x (by omega) HX.out
 obtain ⟨b,n,hyb,hb⟩:=Zjm y (by omega) HY.out
 obtain ⟨k,hk⟩:=Zsa a b m n
 have hm:min a b < 64:=by omega
 obtain ⟨s,es⟩:∃ s,min a b=s:=⟨_,rfl⟩
 rw [es] at hk hm
 have e1:=Zes HX.out HY.out
 obtain ⟨o,eo⟩:∃ o,x ||| y=o:=⟨_,rfl⟩
 rw [eo] at e1
 have HT1:=zh (Zgc o s k w HGl.out (by rw [← eo,← hk,← hxa,← hyb]) hm (by rw [← eo]; exact Zrb HX.out HY.out))
 have HT2:=zh (Zgc x a m w HGl.out hxa ha HX.out)
 have q1:=Zg0 x a
 have ex1:x / 2 ^ a=2 * m + 1:=by rw [hxa,Nat.mul_div_cancel_left _ (Nat.pow_pos (by omega))]
 rw [ex1] at q1
 obtain ⟨x1,ex2⟩:∃ x1,2 * m + 1=x1:=⟨_,rfl⟩
 rw [ex2] at q1
 have Hodd:Hid (x1 % 2=1):=by unfold Hid; omega
 have HGG:Hid (2 ^ s * Nat.gcd x1 y=g):=by
  unfold Hid
  rw [← HG.out,hyb,Zd0 x1 b (2 * n + 1) (by omega),hxa,ZlU a b _ _ (by omega) (by omega),es,ex2]
 have hx1W:Hid (x1 < W64):=by
  have h2:x1≤x:=by rw [← ex2,← ex1]; exact Nat.div_le_self _ _
  have:=HX.out
  unfold Hid; omega
 have ha':a≤63:=by omega
 have hs':s≤63:=by omega
 clear hxa hyb hk es eo ex1 ex2 ha hb hm h0 h1
 go_enter Tryz.func191,Tryz.ntmps191
 go_wp2_with fail
 (with_reducible refine HT1.out.mono ?_)
 rintro e w' ⟨rfl,rfl⟩
 go_wp2_with fail
 (with_reducible refine HT2.out.mono ?_)
 rintro e w' ⟨rfl,rfl⟩
 clear HT1 HT2
 go_wp2
 clear q1 e1
 go_loop [0,1] (fun xv yv=>∃ p q:Nat,xv=.int .u64 (p:Int)∧yv=.int .u64 (q:Int)∧Hid (p < W64)∧Hid (q < W64)∧Hid (p % 2=1)∧Hid (2 ^ s * Nat.gcd p q=g)) (fun xv yv=>(intOf xv).toNat + (intOf yv).toNat)
 case atStart=>exact ⟨x1,y,rfl,rfl,hx1W,HY,Hodd,HGG⟩
 case round =>
  obtain ⟨p,q,rfl,rfl,hpW,hqW,hpo,hgg⟩:=hrel
  by_cases hq0:q=0
  ·subst hq0
   have HP:Hid (p * 2 ^ s % W64=g):=by
    have h1:=hgg.out
    rw [Nat.gcd_zero_right,Nat.mul_comm] at h1
    have h2:g≤x:=by rw [← HG.out]; exact Nat.gcd_le_left y (by have:=x0; simp at this; omega)
    rw [h1]
    exact Nat.mod_eq_of_lt (Nat.lt_of_le_of_lt h2 HX.out)
   have q2:=Ze2 p s
   rw [HP.out] at q2
   go_wp2
   go_ret
   exact ⟨rfl,rfl⟩
  ·have q0:((q:Int) != 0)=true:=by simp; omega
   obtain ⟨t,n,hqt,ht⟩:=Zjm q (by omega) hqW.out
   have HT:=zh (Zgc q t n w HGl.out hqt ht hqW.out)
   have q1:=Zg0 q t
   have eq1:q / 2 ^ t=2 * n + 1:=by rw [hqt,Nat.mul_div_cancel_left _ (Nat.pow_pos (by omega))]
   rw [eq1] at q1
   obtain ⟨r,er⟩:∃ r,2 * n + 1=r:=⟨_,rfl⟩
   rw [er] at q1
   have hr1:r % 2=1:=by omega
   have hrq:r≤q:=by rw [← er,← eq1]; exact Nat.div_le_self _ _
   have hgr:Nat.gcd p q=Nat.gcd p r:=by rw [hqt,Zd0 p t _ hpo.out,er]
   have hp0:0 < p:=by have:=hpo.out; omega
   have ht':t≤63:=by omega
   by_cases hsw:r < p
   ·have t1:=Zdu hsw
    have g1:IntKind.u64.wrap ((p:Int) - (r:Int))=((p - r:Nat):Int):=by
     rw [show (p:Int) - (r:Int)=((p - r:Nat):Int) by omega]
     exact ZbI _ (by have:=hpW.out; omega)
    obtain ⟨d,ed⟩:∃ d,p - r=d:=⟨_,rfl⟩
    rw [ed] at g1
    have HG2:Hid (2 ^ s * Nat.gcd r d=g):=by
     unfold Hid
     rw [← hgg.out,hgr,← ed,Nat.gcd_sub_self_right (by omega),Nat.gcd_comm]
    have hrW:Hid (r < W64):=by have:=hqW.out; unfold Hid; omega
    have hdW:Hid (d < W64):=by have:=hpW.out; unfold Hid; omega
    have Hr1:=zh hr1
    have hdec:r + d < p + q:=by omega
    clear hqt eq1 er hr1 hgr ed hsw hq0 ht
    go_wp2_with (go_at_call 200; refine HT.out.mono ?_; rintro e w' ⟨rfl,rfl⟩)
    go_round
    case rel=>exact ⟨r,d,rfl,rfl,hrW,hdW,Hr1,HG2⟩
    case measure=>simp [intOf]; omega
   ·have t1:=ZcY hsw
    have g1:IntKind.u64.wrap ((r:Int) - (p:Int))=((r - p:Nat):Int):=by
     rw [show (r:Int) - (p:Int)=((r - p:Nat):Int) by omega]
     exact ZbI _ (by have:=hqW.out; omega)
    obtain ⟨d,ed⟩:∃ d,r - p=d:=⟨_,rfl⟩
    rw [ed] at g1
    have HG2:Hid (2 ^ s * Nat.gcd p d=g):=by
     unfold Hid
     rw [← hgg.out,hgr,← ed,Nat.gcd_sub_self_right (by omega)]
    have hdW:Hid (d < W64):=by have:=hqW.out; unfold Hid; omega
    have hdec:p + d < p + q:=by omega
    clear hqt eq1 er hr1 hgr ed hsw hq0 ht
    go_wp2_with (go_at_call 200; refine HT.out.mono ?_; rintro e w' ⟨rfl,rfl⟩)
    go_round
    case rel=>exact ⟨p,d,rfl,rfl,hpW,hdW,hpo,HG2⟩
    case measure=>simp [intOf]; omega
end Go.Proofs.YtenchljfmfgeoaaGreatDoor

namespace Go.Proofs.YtenchljfmfgeoaaGreatDoor
open Go.RowKit
theorem Zk1 {xs:List Nat} {k x1 x0 s:Nat} (hl:xs.length=k + 2) (dx:Dig W64 xs) (e1:xs[k + 1]?.getD 0=x1) (e0:xs[k]?.getD 0=x0) (hs:s≤63) :
 val W64 xs / (W64 ^ k * 2 ^ (64 - s))=x1 * 2 ^ s + x0 / 2 ^ (64 - s):=by
 have hlow:=Za1 (dx.take k)
 rw [List.length_take,Nat.min_eq_left (by omega)] at hlow
 rw [← Nat.div_div_eq_div_mul,top2 hl,e1,e0,Nat.add_comm,Nat.mul_add_div (Nat.pow_pos Zah),Nat.div_eq_of_lt hlow,Nat.add_zero,← ZbJ hs]
 rw [Nat.add_comm x0,Nat.mul_assoc,Nat.mul_add_div (Nat.pow_pos (by omega)),Nat.mul_comm (2 ^ s)]
theorem ZpQ {xs:List Nat} {k x0 s:Nat} (hl:xs.length=k + 1) (dx:Dig W64 xs) (e0:xs[k]?.getD 0=x0) :
 val W64 xs / (W64 ^ k * 2 ^ (64 - s))=x0 / 2 ^ (64 - s):=by
 have hlow:=Za1 (dx.take k)
 rw [List.length_take,Nat.min_eq_left (by omega)] at hlow
 have:=Zay (B:=W64) (xs:=xs) k (by omega)
 rw [List.take_of_length_le (by omega),e0] at this
 rw [← Nat.div_div_eq_div_mul,this,Nat.add_comm,Nat.mul_add_div (Nat.pow_pos Zah),Nat.div_eq_of_lt hlow,Nat.add_zero]
def Zbw (u0 u1 v0 v1:Nat) (odd:Bool):Array Value:=#[.int .u64 (u0:Int), .int .u64 (u1:Int), .int .u64 (v0:Int), .int .u64 (v1:Int), .bool odd]
def Zea (a b:Nat) (w:World) (e:Ending) (w':World):Prop :=
 ∃ (u0 u1 v0 v1:Nat) (odd:Bool),e=.returned (.agg (Zbw u0 u1 v0 v1 odd))∧u0 < W64∧u1 < W64∧v0 < W64∧v1 < W64∧ZhG a b odd u0 u1 v0 v1∧Ext w w'
theorem Zg6 (t:TypeId) (w:World) (m:Nat) (o:Obj) (cs:Array Value):Blk t (((w.alloc o).drewN m).alloc (.cells cs t)) (w.heap.size + 1) cs:=by
 have h:=Blk.new ((w.alloc o).drewN m) t cs
 have e:((w.alloc o).drewN m).heap.size=w.heap.size + 1:=by show (w.alloc o).heap.size=_; simp
 rw [e] at h
 exact h
def SimW (f s u0 u1 u2 v0 v1 v2:Nat):Prop:=f < W64∧s < W64∧u0 < W64∧u1 < W64∧u2 < W64∧v0 < W64∧v1 < W64∧v2 < W64
theorem Zcl.sum_le {A B a b:Nat} {odd:Bool} {f s u0 u1 u2 v0 v1 v2:Nat} (h:Zcl A B a b odd f s u0 u1 u2 v0 v1 v2) (hs:1≤s):v1 + v2≤A∧u1 + u2≤B:=by
 obtain ⟨_,h2,h3,_,_,h6,_⟩:=h
 have e1:1 * v2≤f * v2:=Nat.mul_le_mul_right _ (by omega)
 have e2:1 * v1≤s * v1:=Nat.mul_le_mul_right _ hs
 have e3:1 * u2≤f * u2:=Nat.mul_le_mul_right _ (by omega)
 have e4:1 * u1≤s * u1:=Nat.mul_le_mul_right _ hs
 omega
theorem Zcl.new_le {A B a b:Nat} {odd:Bool} {f s u0 u1 u2 v0 v1 v2:Nat} (h:Zcl A B a b odd f s u0 u1 u2 v0 v1 v2) (hs:1≤f):v2≤A∧u2≤B:=by
 obtain ⟨_,h2,h3,_,_,h6,_⟩:=h
 have e1:1 * v2≤f * v2:=Nat.mul_le_mul_right _ hs
 have e3:1 * u2≤f * u2:=Nat.mul_le_mul_right _ hs
 omega
theorem Zmr {w wr:World} (h:Ext w wr) (a b c d e:Value):Ext w (((((wr.setCell ⟨w.heap.size + 1,0,none⟩ a).setCell ⟨w.heap.size + 1,1,none⟩ b).setCell ⟨w.heap.size + 1,2,none⟩ c).setCell ⟨w.heap.size + 1,3,none⟩ d).setCell ⟨w.heap.size + 1,4,none⟩ e) :=
 ((((h.setCell (Or.inr (by simp)) _).setCell (Or.inr (by simp)) _).setCell (Or.inr (by simp)) _).setCell (Or.inr (by simp)) _).setCell (Or.inr (by simp)) _
theorem ZfX {A B a b:Nat} {odd:Bool} {f s u0 u1 u2 v0 v1 v2:Nat} {w wr:World} {y0 y1 y2 y3 y4:Value} (hR:Zcl A B a b odd f s u0 u1 u2 v0 v1 v2) (hW:SimW f s u0 u1 u2 v0 v1 v2) (hB:Blk 236 wr w.heap.size #[y0,y1,y2,y3,y4]) (Q:Ext w wr) (fn:Func) (tmps:Array Value)
 (hres:fn.results=#[.cell 4 236]) (ht:tmps[4]? = some (.pointer (some ⟨w.heap.size,0,none⟩))) :
 bodyPost Tryz.prog fn (Zea a b w) .ret ⟨tmps,[]⟩ (((((wr.setCell ⟨w.heap.size,0,none⟩ (.int .u64 (u0:Int))).setCell ⟨w.heap.size,1,none⟩ (.int .u64 (u1:Int))).setCell ⟨w.heap.size,2,none⟩ (.int .u64 (v0:Int))).setCell ⟨w.heap.size,3,none⟩ (.int .u64 (v1:Int))).setCell ⟨w.heap.size,4,none⟩ (.bool odd)):=by
 have hB2:=((((hB.set_ 0 (.int .u64 (u0:Int))).set_ 1 (.int .u64 (u1:Int))).set_ 2 (.int .u64 (v0:Int))).set_ 3 (.int .u64 (v1:Int))).set_ 4 (.bool odd)
 have hE2:Ext w (((((wr.setCell ⟨w.heap.size,0,none⟩ (.int .u64 (u0:Int))).setCell ⟨w.heap.size,1,none⟩ (.int .u64 (u1:Int))).setCell ⟨w.heap.size,2,none⟩ (.int .u64 (v0:Int))).setCell ⟨w.heap.size,3,none⟩ (.int .u64 (v1:Int))).setCell ⟨w.heap.size,4,none⟩ (.bool odd)) :=
  ((((Q.setCell (Or.inr (by simp)) _).setCell (Or.inr (by simp)) _).setCell (Or.inr (by simp)) _).setCell (Or.inr (by simp)) _).setCell (Or.inr (by simp)) _
 generalize (((((wr.setCell ⟨w.heap.size,0,none⟩ (.int .u64 (u0:Int))).setCell ⟨w.heap.size,1,none⟩ (.int .u64 (u1:Int))).setCell ⟨w.heap.size,2,none⟩ (.int .u64 (v0:Int))).setCell ⟨w.heap.size,3,none⟩ (.int .u64 (v1:Int))).setCell ⟨w.heap.size,4,none⟩ (.bool odd))=wz at *
 have h0:wz.cell? ⟨w.heap.size,0,none⟩=some (.int .u64 (u0:Int)):=hB2.cell 0
 have h1:wz.cell? ⟨w.heap.size,1,none⟩=some (.int .u64 (u1:Int)):=hB2.cell 1
 have h2:wz.cell? ⟨w.heap.size,2,none⟩=some (.int .u64 (v0:Int)):=hB2.cell 2
 have h3:wz.cell? ⟨w.heap.size,3,none⟩=some (.int .u64 (v1:Int)):=hB2.cell 3
 have h4:wz.cell? ⟨w.heap.size,4,none⟩=some (.bool odd):=hB2.cell 4
 obtain ⟨_,_,k3,k4,_,k6,k7,_⟩:=hW
 exact bodyPost_ret (v:=.agg (Zbw u0 u1 v0 v1 odd)) (by simp [results,hres,ht,go_sem,h0,h1,h2,h3,h4,Zbw]) rfl ⟨u0,u1,v0,v1,odd,rfl,k3,k4,k6,k7,hR.2.2.2.2.2.2.2,hE2⟩
set_option maxHeartbeats 4000000 in
theorem Zk2 (bA oA bB oB c c2 n n1 n2 s a1 a0 b1 b0 H1 L1 A H2 L2 B a b:Nat) (w:World) (hn:n≤4294967296) (e1:(n:Int) - 1=(n1:Int)) (e2:(n:Int) - 2=(n2:Int)) (hbA:bA < w.heap.size) (hbB:bB < w.heap.size)
 (hca1:w.cell? ⟨bA,oA + n1,none⟩=some (.int .u64 (a1:Int))) (hca0:w.cell? ⟨bA,oA + n2,none⟩=some (.int .u64 (a0:Int)))
 (hcb1:w.cell? ⟨bB,oB + n1,none⟩=some (.int .u64 (b1:Int))) (hcb0:w.cell? ⟨bB,oB + n2,none⟩=some (.int .u64 (b0:Int))) (ha1:a1 < W64) (hs:64 - (Lib.bitLen a1:Int)=s) (hs63:s≤63)
 (p1:IntKind.u64.wrap ((a1:Int) * 2 ^ s)=(H1:Int)) (p2:(a0:Int) / 2 ^ (64 - s)=(L1:Int)) (p3:bits .or .u64 (H1:Int) (L1:Int)=(A:Int))
 (p4:IntKind.u64.wrap ((b1:Int) * 2 ^ s)=(H2:Int)) (p5:(b0:Int) / 2 ^ (64 - s)=(L2:Int)) (p6:bits .or .u64 (H2:Int) (L2:Int)=(B:Int))
 (K a' b':Nat) (ha:a=A * K + a') (hb:b=B * K + b') (ha':a' < K) (hb':b' < K) (hAW:A < W64) (hBA:B≤A) :
 Calls Tryz.prog 186 #[.slice (some ⟨bA,oA,none⟩) n c, .slice (some ⟨bB,oB,none⟩) n c2] w (Zea a b w):=by
 have HS:=zh hs
 have HA:=zh ha1
 have Ha:=zh ha
 have Hb:=zh hb
 have Ha':=zh ha'
 have Hb':=zh hb'
 have HAW:=zh hAW
 have HBA:=zh hBA
 clear ha hb ha' hb' hAW hBA
 have i1:(n1:Int) < (n:Int):=by omega
 have i2:(n2:Int) < (n:Int):=by omega
 have i3:n1 < n:=by omega
 have i4:n2 < n:=by omega
 have i5:n1≤4294967296:=by omega
 have i6:n2≤4294967296:=by omega
 clear hs ha1
 go_enter Tryz.func186,Tryz.ntmps186
 go_wp2_with (go_at_call 194; refine (Zd8 _ _ HA.out).mono ?_; rintro e w' ⟨rfl,rfl⟩; rw [HS.out])
 have r1:IntKind.i64.wrap (n1:Int)=(n1:Int):=by rw [IntKind.wrap_i64]; omega
 have r2:IntKind.i64.wrap (n2:Int)=(n2:Int):=by rw [IntKind.wrap_i64]; omega
 have r3:IntKind.u64.wrap (64 - (s:Int))=((64 - s:Nat):Int):=by rw [IntKind.wrap_u64]; omega
 go_quiet (fail)
 clear r1 r2 r3
 go_wp2
 have r1:IntKind.i64.wrap (n1:Int)=(n1:Int):=by rw [IntKind.wrap_i64]; omega
 have r2:IntKind.i64.wrap (n2:Int)=(n2:Int):=by rw [IntKind.wrap_i64]; omega
 have r3:IntKind.u64.wrap (64 - (s:Int))=((64 - s:Nat):Int):=by rw [IntKind.wrap_u64]; omega
 go_quiet (fail)
 clear r1 r2 r3
 go_wp2
 clear p1 p2 p3 p4 p5 p6 hca1 hca0 hcb1 hcb0
 go_loopw [7,8,10,11] (fun fv sv u2v v2v wr=>∃ (f s u0 u1 u2 v0 v1 v2:Nat) (odd:Bool),fv=.int .u64 (f:Int)∧sv=.int .u64 (s:Int)∧u2v=.int .u64 (u2:Int)∧v2v=.int .u64 (v2:Int)∧Hid (Zcl A B a b odd f s u0 u1 u2 v0 v1 v2)∧Hid (SimW f s u0 u1 u2 v0 v1 v2)∧Hid (Blk 236 wr (w.heap.size + 1) (Zbw u0 u1 v0 v1 odd))∧Hid (∃ cs,cs.size=5∧Blk 236 wr w.heap.size cs)∧Hid (Ext w wr)) (fun fv sv _ _ _=>(intOf fv).toNat + (intOf sv).toNat)
 case atStart =>
  have h1:=ZcK
  have h2:=HAW.out
  have h3:=HBA.out
  exact ⟨A,B,0,1,0,0,0,1,false,rfl,rfl,rfl,rfl,Zcl.start HBA.out,⟨by omega,by omega,by omega,by omega,by omega,by omega,by omega,by omega⟩,Zg6 _ w _ _ _,⟨_,rfl,((Blk.new w _ _).drewN _).alloc _⟩,(((Fr.refl _ _).alloc _).drewN _).alloc _⟩
 case round =>
  obtain ⟨f,s',u0,u1,u2,v0,v1,v2,odd,rfl,rfl,rfl,rfl,hR,hWd,hB1,hB2,hF⟩:=hrel
  have c0:=hB1.out.cell 0
  have c1:=hB1.out.cell 1
  have c2':=hB1.out.cell 2
  have c3:=hB1.out.cell 3
  have c4:=hB1.out.cell 4
  have f0:=hB1.out.frozen 0
  have f1:=hB1.out.frozen 1
  have f2:=hB1.out.frozen 2
  have f3:=hB1.out.frozen 3
  have f4:=hB1.out.frozen 4
  simp only [Zbw] at c0 c1 c2' c3 c4
  simp at c0 c1 c2' c3 c4
  have hres:∃ y0 y1 y2 y3 y4:Value,Blk 236 wr w.heap.size #[y0,y1,y2,y3,y4]:=by
   obtain ⟨cs,h5,hB⟩:=hB2.out
   obtain ⟨l⟩:=cs
   match l,h5 with
   | [y0,y1,y2,y3,y4],_=>exact ⟨y0,y1,y2,y3,y4,hB⟩
  obtain ⟨y0,y1,y2,y3,y4,hBr⟩:=hres
  have d0:wr.cell? ⟨w.heap.size,0,none⟩=some y0:=hBr.cell 0
  have d1:wr.cell? ⟨w.heap.size,1,none⟩=some y1:=hBr.cell 1
  have d2:wr.cell? ⟨w.heap.size,2,none⟩=some y2:=hBr.cell 2
  have d3:wr.cell? ⟨w.heap.size,3,none⟩=some y3:=hBr.cell 3
  have d4:wr.cell? ⟨w.heap.size,4,none⟩=some y4:=hBr.cell 4
  have z0:=hBr.frozen 0
  have z1:=hBr.frozen 1
  have z2:=hBr.frozen 2
  have z3:=hBr.frozen 3
  have z4:=hBr.frozen 4
  have HBr:=zh hBr
  clear hBr
  by_cases g1:v2≤s'
  ·have gd1:decide (v2≤s')=true:=by rw [decide_eq_true_eq]; exact g1
   have hv2:1≤v2:=hR.out.2.2.2.2.1
   have hsf:s'≤f:=hR.out.2.2.2.2.2.1
   obtain ⟨hsum,_⟩:=hR.out.sum_le (by omega)
   have w1:IntKind.u64.wrap ((f:Int) - (s':Int))=((f - s':Nat):Int):=by
    rw [show (f:Int) - (s':Int)=((f - s':Nat):Int) by omega]
    exact ZbI _ (by have:=hWd.out.1; omega)
   have w2:=ZbZ (a:=v1) (b:=v2) (by have:=HAW.out; omega)
   obtain ⟨d,ed⟩:∃ d,f - s'=d:=⟨_,rfl⟩
   obtain ⟨ee,eee⟩:∃ ee,v1 + v2=ee:=⟨_,rfl⟩
   rw [ed] at w1
   rw [eee] at w2
   by_cases g2:v1 + v2 + s'≤f
   ·have gd2:decide (ee≤d)=true:=by rw [decide_eq_true_eq]; omega
    have hs0:0 < s':=by omega
    obtain ⟨q,eq⟩:∃ q,f / s'=q:=⟨_,rfl⟩
    obtain ⟨r,er⟩:∃ r,f % s'=r:=⟨_,rfl⟩
    have hq:f=q * s' + r:=by rw [← eq,← er,Nat.mul_comm]; exact (Nat.div_add_mod f s').symm
    have hr:r < s':=by rw [← er]; exact Nat.mod_lt _ hs0
    have hq1:1≤q:=by
     rcases Nat.eq_zero_or_pos q with e | e
     ·rw [e,Nat.zero_mul] at hq; omega
     ·exact e
    have HR2:=zh (hR.out.step Ha.out Hb.out Ha'.out Hb'.out g1 g2 hq hr hq1)
    obtain ⟨n1',n2'⟩:=HR2.out.new_le (by omega)
    have hBW:B < W64:=by have:=HAW.out; have:=HBA.out; omega
    have w3:(f:Int) / (s':Int)=(q:Int):=by rw [← Int.natCast_ediv,eq]
    have w4:(f:Int) % (s':Int)=(r:Int):=by rw [← Int.natCast_emod,er]
    have w4':(f:Int).tmod (s':Int)=(r:Int):=by rw [Int.tmod_eq_emod_of_nonneg (by omega)]; exact w4
    have w3':(f:Int).tdiv (s':Int)=(q:Int):=by rw [Int.tdiv_eq_ediv_of_nonneg (by omega)]; exact w3
    have hqf:q≤f:=by rw [← eq]; exact Nat.div_le_self _ _
    have w5:IntKind.u64.wrap (q:Int)=(q:Int):=ZbI _ (by have:=hWd.out.1; omega)
    have w6:=Zc6 (a:=q) (b:=u2) (by omega)
    have w7:=Zc6 (a:=q) (b:=v2) (by have:=HAW.out; omega)
    obtain ⟨m1,em1⟩:∃ m1,q * u2=m1:=⟨_,rfl⟩
    obtain ⟨m2,em2⟩:∃ m2,q * v2=m2:=⟨_,rfl⟩
    rw [em1] at w6
    rw [em2] at w7
    rw [em1,em2] at HR2
    rw [em2] at n1'
    rw [em1] at n2'
    have w8:=ZbZ (a:=u1) (b:=m1) (by omega)
    have w9:=ZbZ (a:=v1) (b:=m2) (by have:=HAW.out; omega)
    obtain ⟨u3,eu3⟩:∃ u3,u1 + m1=u3:=⟨_,rfl⟩
    obtain ⟨v3,ev3⟩:∃ v3,v1 + m2=v3:=⟨_,rfl⟩
    rw [eu3] at w8 HR2
    rw [ev3] at w9 HR2
    have hs0':((s':Int) == 0)=false:=by simp; omega
    have hs1:s'≠0:=by omega
    have HW2:Hid (SimW s' r u1 u2 u3 v1 v2 v3):=by
     obtain ⟨k1,k2,k3,k4,k5,k6,k7,k8⟩:=hWd.out
     have:=HAW.out
     exact ⟨k2,by omega,k4,k5,by omega,k7,k8,by omega⟩
    have HB3:=zh (((((hB1.out.set_ 0 (.int .u64 (u1:Int))).set_ 1 (.int .u64 (u2:Int))).set_ 2 (.int .u64 (v1:Int))).set_ 3 (.int .u64 (v2:Int))).set_ 4 (.bool (!odd)))
    have hdec:s' + r < f + s':=by omega
    clear eq er hq hr hq1 n1' n2' em1 em2 eu3 ev3 ed eee hsum g1 g2 hs0 hBW hqf
    go_wp2
    go_region
    all_goals
     go_wp2
     refine ⟨⟨s',r,u1,u2,u3,v1,v2,v3,!odd,rfl,rfl,rfl,rfl,HR2,HW2,HB3.out,⟨_,rfl,((((HBr.out.far (by simp) _).far (by simp) _).far (by simp) _).far (by simp) _).far (by simp) _⟩,(Zmr hF.out _ _ _ _ _).drew⟩,?_⟩
     simp [intOf]; omega
   ·have gd2:decide (ee≤d)=false:=by rw [decide_eq_false_iff_not]; omega
    have HFin:=zh (ZfX hR.out hWd.out HBr.out hF.out)
    clear ed eee hsum g1 g2
    go_wp2
    exact HFin.out _ _ rfl rfl
  ·have gd1:decide (v2≤s')=false:=by rw [decide_eq_false_iff_not]; exact g1
   have HFin:=zh (ZfX hR.out hWd.out HBr.out hF.out)
   clear g1
   go_wp2
   exact HFin.out _ _ rfl rfl
end Go.Proofs.YtenchljfmfgeoaaGreatDoor

namespace Go.Proofs.YtenchljfmfgeoaaGreatDoor
open Go.RowKit
set_option maxHeartbeats 4000000 in
theorem Zk3 (bA oA bB oB c c2 n n1 n2 s a1 a0 b0 H1 L1 A B a b:Nat) (w:World) (hn:n≤4294967296) (e1:(n:Int) - 1=(n1:Int)) (e2:(n:Int) - 2=(n2:Int)) (hbA:bA < w.heap.size) (hbB:bB < w.heap.size)
 (hca1:w.cell? ⟨bA,oA + n1,none⟩=some (.int .u64 (a1:Int))) (hca0:w.cell? ⟨bA,oA + n2,none⟩=some (.int .u64 (a0:Int)))
 (hcb0:w.cell? ⟨bB,oB + n2,none⟩=some (.int .u64 (b0:Int))) (ha1:a1 < W64) (hs:64 - (Lib.bitLen a1:Int)=s) (hs63:s≤63)
 (p1:IntKind.u64.wrap ((a1:Int) * 2 ^ s)=(H1:Int)) (p2:(a0:Int) / 2 ^ (64 - s)=(L1:Int)) (p3:bits .or .u64 (H1:Int) (L1:Int)=(A:Int))
 (p5:(b0:Int) / 2 ^ (64 - s)=(B:Int))
 (K a' b':Nat) (ha:a=A * K + a') (hb:b=B * K + b') (ha':a' < K) (hb':b' < K) (hAW:A < W64) (hBA:B≤A) :
 Calls Tryz.prog 186 #[.slice (some ⟨bA,oA,none⟩) n c, .slice (some ⟨bB,oB,none⟩) n1 c2] w (Zea a b w):=by
 have HS:=zh hs
 have HA:=zh ha1
 have Ha:=zh ha
 have Hb:=zh hb
 have Ha':=zh ha'
 have Hb':=zh hb'
 have HAW:=zh hAW
 have HBA:=zh hBA
 clear ha hb ha' hb' hAW hBA
 have i1:(n1:Int) < (n:Int):=by omega
 have i2:(n2:Int) < (n:Int):=by omega
 have i3:n1 < n:=by omega
 have i4:n2 < n:=by omega
 have i5:n1≤4294967296:=by omega
 have i6:n2≤4294967296:=by omega
 have i7:(n2:Int) < (n1:Int):=by omega
 have i8:n2 < n1:=by omega
 have t1:((n1:Int) == (n:Int))=false:=by simp; omega
 clear hs ha1
 go_enter Tryz.func186,Tryz.ntmps186
 go_wp2_with (go_at_call 194; refine (Zd8 _ _ HA.out).mono ?_; rintro e w' ⟨rfl,rfl⟩; rw [HS.out])
 have r1:IntKind.i64.wrap (n1:Int)=(n1:Int):=by rw [IntKind.wrap_i64]; omega
 have r2:IntKind.i64.wrap (n2:Int)=(n2:Int):=by rw [IntKind.wrap_i64]; omega
 have r3:IntKind.u64.wrap (64 - (s:Int))=((64 - s:Nat):Int):=by rw [IntKind.wrap_u64]; omega
 go_quiet (fail)
 clear r1 r2
 go_wp2
 clear r3 p1 p2 p3 p5 hca1 hca0 hcb0
 go_loopw [7,8,10,11] (fun fv sv u2v v2v wr=>∃ (f s u0 u1 u2 v0 v1 v2:Nat) (odd:Bool),fv=.int .u64 (f:Int)∧sv=.int .u64 (s:Int)∧u2v=.int .u64 (u2:Int)∧v2v=.int .u64 (v2:Int)∧Hid (Zcl A B a b odd f s u0 u1 u2 v0 v1 v2)∧Hid (SimW f s u0 u1 u2 v0 v1 v2)∧Hid (Blk 236 wr (w.heap.size + 1) (Zbw u0 u1 v0 v1 odd))∧Hid (∃ cs,cs.size=5∧Blk 236 wr w.heap.size cs)∧Hid (Ext w wr)) (fun fv sv _ _ _=>(intOf fv).toNat + (intOf sv).toNat)
 case atStart =>
  have h1:=ZcK
  have h2:=HAW.out
  have h3:=HBA.out
  exact ⟨A,B,0,1,0,0,0,1,false,rfl,rfl,rfl,rfl,Zcl.start HBA.out,⟨by omega,by omega,by omega,by omega,by omega,by omega,by omega,by omega⟩,Zg6 _ w _ _ _,⟨_,rfl,((Blk.new w _ _).drewN _).alloc _⟩,(((Fr.refl _ _).alloc _).drewN _).alloc _⟩
 case round =>
  obtain ⟨f,s',u0,u1,u2,v0,v1,v2,odd,rfl,rfl,rfl,rfl,hR,hWd,hB1,hB2,hF⟩:=hrel
  have c0:=hB1.out.cell 0
  have c1:=hB1.out.cell 1
  have c2':=hB1.out.cell 2
  have c3:=hB1.out.cell 3
  have c4:=hB1.out.cell 4
  have f0:=hB1.out.frozen 0
  have f1:=hB1.out.frozen 1
  have f2:=hB1.out.frozen 2
  have f3:=hB1.out.frozen 3
  have f4:=hB1.out.frozen 4
  simp only [Zbw] at c0 c1 c2' c3 c4
  simp at c0 c1 c2' c3 c4
  have hres:∃ y0 y1 y2 y3 y4:Value,Blk 236 wr w.heap.size #[y0,y1,y2,y3,y4]:=by
   obtain ⟨cs,h5,hB⟩:=hB2.out
   obtain ⟨l⟩:=cs
   match l,h5 with
   | [y0,y1,y2,y3,y4],_=>exact ⟨y0,y1,y2,y3,y4,hB⟩
  obtain ⟨y0,y1,y2,y3,y4,hBr⟩:=hres
  have d0:wr.cell? ⟨w.heap.size,0,none⟩=some y0:=hBr.cell 0
  have d1:wr.cell? ⟨w.heap.size,1,none⟩=some y1:=hBr.cell 1
  have d2:wr.cell? ⟨w.heap.size,2,none⟩=some y2:=hBr.cell 2
  have d3:wr.cell? ⟨w.heap.size,3,none⟩=some y3:=hBr.cell 3
  have d4:wr.cell? ⟨w.heap.size,4,none⟩=some y4:=hBr.cell 4
  have z0:=hBr.frozen 0
  have z1:=hBr.frozen 1
  have z2:=hBr.frozen 2
  have z3:=hBr.frozen 3
  have z4:=hBr.frozen 4
  have HBr:=zh hBr
  clear hBr
  by_cases g1:v2≤s'
  ·have gd1:decide (v2≤s')=true:=by rw [decide_eq_true_eq]; exact g1
   have hv2:1≤v2:=hR.out.2.2.2.2.1
   have hsf:s'≤f:=hR.out.2.2.2.2.2.1
   obtain ⟨hsum,_⟩:=hR.out.sum_le (by omega)
   have w1:IntKind.u64.wrap ((f:Int) - (s':Int))=((f - s':Nat):Int):=by
    rw [show (f:Int) - (s':Int)=((f - s':Nat):Int) by omega]
    exact ZbI _ (by have:=hWd.out.1; omega)
   have w2:=ZbZ (a:=v1) (b:=v2) (by have:=HAW.out; omega)
   obtain ⟨d,ed⟩:∃ d,f - s'=d:=⟨_,rfl⟩
   obtain ⟨ee,eee⟩:∃ ee,v1 + v2=ee:=⟨_,rfl⟩
   rw [ed] at w1
   rw [eee] at w2
   by_cases g2:v1 + v2 + s'≤f
   ·have gd2:decide (ee≤d)=true:=by rw [decide_eq_true_eq]; omega
    have hs0:0 < s':=by omega
    obtain ⟨q,eq⟩:∃ q,f / s'=q:=⟨_,rfl⟩
    obtain ⟨r,er⟩:∃ r,f % s'=r:=⟨_,rfl⟩
    have hq:f=q * s' + r:=by rw [← eq,← er,Nat.mul_comm]; exact (Nat.div_add_mod f s').symm
    have hr:r < s':=by rw [← er]; exact Nat.mod_lt _ hs0
    have hq1:1≤q:=by
     rcases Nat.eq_zero_or_pos q with e | e
     ·rw [e,Nat.zero_mul] at hq; omega
     ·exact e
    have HR2:=zh (hR.out.step Ha.out Hb.out Ha'.out Hb'.out g1 g2 hq hr hq1)
    obtain ⟨n1',n2'⟩:=HR2.out.new_le (by omega)
    have hBW:B < W64:=by have:=HAW.out; have:=HBA.out; omega
    have w3:(f:Int) / (s':Int)=(q:Int):=by rw [← Int.natCast_ediv,eq]
    have w4:(f:Int) % (s':Int)=(r:Int):=by rw [← Int.natCast_emod,er]
    have w4':(f:Int).tmod (s':Int)=(r:Int):=by rw [Int.tmod_eq_emod_of_nonneg (by omega)]; exact w4
    have w3':(f:Int).tdiv (s':Int)=(q:Int):=by rw [Int.tdiv_eq_ediv_of_nonneg (by omega)]; exact w3
    have hqf:q≤f:=by rw [← eq]; exact Nat.div_le_self _ _
    have w5:IntKind.u64.wrap (q:Int)=(q:Int):=ZbI _ (by have:=hWd.out.1; omega)
    have w6:=Zc6 (a:=q) (b:=u2) (by omega)
    have w7:=Zc6 (a:=q) (b:=v2) (by have:=HAW.out; omega)
    obtain ⟨m1,em1⟩:∃ m1,q * u2=m1:=⟨_,rfl⟩
    obtain ⟨m2,em2⟩:∃ m2,q * v2=m2:=⟨_,rfl⟩
    rw [em1] at w6
    rw [em2] at w7
    rw [em1,em2] at HR2
    rw [em2] at n1'
    rw [em1] at n2'
    have w8:=ZbZ (a:=u1) (b:=m1) (by omega)
    have w9:=ZbZ (a:=v1) (b:=m2) (by have:=HAW.out; omega)
    obtain ⟨u3,eu3⟩:∃ u3,u1 + m1=u3:=⟨_,rfl⟩
    obtain ⟨v3,ev3⟩:∃ v3,v1 + m2=v3:=⟨_,rfl⟩
    rw [eu3] at w8 HR2
    rw [ev3] at w9 HR2
    have hs0':((s':Int) == 0)=false:=by simp; omega
    have hs1:s'≠0:=by omega
    have HW2:Hid (SimW s' r u1 u2 u3 v1 v2 v3):=by
     obtain ⟨k1,k2,k3,k4,k5,k6,k7,k8⟩:=hWd.out
     have:=HAW.out
     exact ⟨k2,by omega,k4,k5,by omega,k7,k8,by omega⟩
    have HB3:=zh (((((hB1.out.set_ 0 (.int .u64 (u1:Int))).set_ 1 (.int .u64 (u2:Int))).set_ 2 (.int .u64 (v1:Int))).set_ 3 (.int .u64 (v2:Int))).set_ 4 (.bool (!odd)))
    have hdec:s' + r < f + s':=by omega
    clear eq er hq hr hq1 n1' n2' em1 em2 eu3 ev3 ed eee hsum g1 g2 hs0 hBW hqf
    go_wp2
    go_region
    all_goals
     go_wp2
     refine ⟨⟨s',r,u1,u2,u3,v1,v2,v3,!odd,rfl,rfl,rfl,rfl,HR2,HW2,HB3.out,⟨_,rfl,((((HBr.out.far (by simp) _).far (by simp) _).far (by simp) _).far (by simp) _).far (by simp) _⟩,(Zmr hF.out _ _ _ _ _).drew⟩,?_⟩
     simp [intOf]; omega
   ·have gd2:decide (ee≤d)=false:=by rw [decide_eq_false_iff_not]; omega
    have HFin:=zh (ZfX hR.out hWd.out HBr.out hF.out)
    clear ed eee hsum g1 g2
    go_wp2
    exact HFin.out _ _ rfl rfl
  ·have gd1:decide (v2≤s')=false:=by rw [decide_eq_false_iff_not]; exact g1
   have HFin:=zh (ZfX hR.out hWd.out HBr.out hF.out)
   clear g1
   go_wp2
   exact HFin.out _ _ rfl rfl
set_option maxHeartbeats 4000000 in
theorem Zko (bA oA c c2 n n1 n2 k s a1 a0 H1 L1 A a b:Nat) (BA:Option Addr) (w:World) (hn:n≤4294967296) (e1:(n:Int) - 1=(n1:Int)) (e2:(n:Int) - 2=(n2:Int)) (hk:k < n1) (hbA:bA < w.heap.size)
 (hca1:w.cell? ⟨bA,oA + n1,none⟩=some (.int .u64 (a1:Int))) (hca0:w.cell? ⟨bA,oA + n2,none⟩=some (.int .u64 (a0:Int)))
 (ha1:a1 < W64) (hs:64 - (Lib.bitLen a1:Int)=s) (hs63:s≤63)
 (p1:IntKind.u64.wrap ((a1:Int) * 2 ^ s)=(H1:Int)) (p2:(a0:Int) / 2 ^ (64 - s)=(L1:Int)) (p3:bits .or .u64 (H1:Int) (L1:Int)=(A:Int)) (hAW:A < W64) :
 Calls Tryz.prog 186 #[.slice (some ⟨bA,oA,none⟩) n c, .slice BA k c2] w (Zea a b w):=by
 have HS:=zh hs
 have HA:=zh ha1
 have HAW:=zh hAW
 clear hAW
 have i1:(n1:Int) < (n:Int):=by omega
 have i2:(n2:Int) < (n:Int):=by omega
 have i3:n1 < n:=by omega
 have i4:n2 < n:=by omega
 have i5:n1≤4294967296:=by omega
 have i6:n2≤4294967296:=by omega
 have t1:((k:Int) == (n:Int))=false:=by simp; omega
 have t2:((k:Int) == (n1:Int))=false:=by simp; omega
 clear hs ha1
 go_enter Tryz.func186,Tryz.ntmps186
 go_wp2_with (go_at_call 194; refine (Zd8 _ _ HA.out).mono ?_; rintro e w' ⟨rfl,rfl⟩; rw [HS.out])
 have r1:IntKind.i64.wrap (n1:Int)=(n1:Int):=by rw [IntKind.wrap_i64]; omega
 have r2:IntKind.i64.wrap (n2:Int)=(n2:Int):=by rw [IntKind.wrap_i64]; omega
 have r3:IntKind.u64.wrap (64 - (s:Int))=((64 - s:Nat):Int):=by rw [IntKind.wrap_u64]; omega
 go_quiet (fail)
 clear r1 r2 r3
 go_wp2
 clear p1 p2 p3 hca1 hca0
 go_loopw [7,8,10,11] (fun fv sv u2v v2v wr=>fv=.int .u64 (A:Int)∧sv=.int .u64 0∧u2v=.int .u64 0∧v2v=.int .u64 1∧Hid (Blk 236 wr (w.heap.size + 1) (Zbw 0 1 0 0 false))∧Hid (∃ cs,cs.size=5∧Blk 236 wr w.heap.size cs)∧Hid (Ext w wr)) (fun _ _ _ _ _=>0)
 case atStart =>
  exact ⟨rfl,rfl,rfl,rfl,Zg6 _ w _ _ _,⟨_,rfl,((Blk.new w _ _).drewN _).alloc _⟩,(((Fr.refl _ _).alloc _).drewN _).alloc _⟩
 case round =>
  obtain ⟨rfl,rfl,rfl,rfl,hB1,hB2,hF⟩:=hrel
  have c0:=hB1.out.cell 0
  have c1:=hB1.out.cell 1
  have c2':=hB1.out.cell 2
  have c3:=hB1.out.cell 3
  have c4:=hB1.out.cell 4
  simp only [Zbw] at c0 c1 c2' c3 c4
  simp at c0 c1 c2' c3 c4
  have hres:∃ y0 y1 y2 y3 y4:Value,Blk 236 wr w.heap.size #[y0,y1,y2,y3,y4]:=by
   obtain ⟨cs,h5,hB⟩:=hB2.out
   obtain ⟨l⟩:=cs
   match l,h5 with
   | [y0,y1,y2,y3,y4],_=>exact ⟨y0,y1,y2,y3,y4,hB⟩
  obtain ⟨y0,y1,y2,y3,y4,hBr⟩:=hres
  have d0:wr.cell? ⟨w.heap.size,0,none⟩=some y0:=hBr.cell 0
  have d1:wr.cell? ⟨w.heap.size,1,none⟩=some y1:=hBr.cell 1
  have d2:wr.cell? ⟨w.heap.size,2,none⟩=some y2:=hBr.cell 2
  have d3:wr.cell? ⟨w.heap.size,3,none⟩=some y3:=hBr.cell 3
  have d4:wr.cell? ⟨w.heap.size,4,none⟩=some y4:=hBr.cell 4
  have z0:=hBr.frozen 0
  have z1:=hBr.frozen 1
  have z2:=hBr.frozen 2
  have z3:=hBr.frozen 3
  have z4:=hBr.frozen 4
  have hW1:=ZcK
  have HFin:=zh (ZfX (A:=A) (B:=0) (a:=a) (b:=b) (Zcl.start (Nat.zero_le A)) ⟨HAW.out,by omega,by omega,by omega,by omega,by omega,by omega,by omega⟩ hBr hF.out)
  clear hBr hW1
  go_wp2
  exact HFin.out _ _ rfl rfl
end Go.Proofs.YtenchljfmfgeoaaGreatDoor

namespace Go.Proofs.YtenchljfmfgeoaaGreatDoor
open Go.RowKit
theorem ZjX {x1 x0 s:Nat} (h1:x1 * 2 ^ s < W64) (h0:x0 < W64) (hs:s≤63) :
 IntKind.u64.wrap ((x1:Int) * 2 ^ s)=((x1 * 2 ^ s:Nat):Int)∧(x0:Int) / 2 ^ (64 - s)=((x0 / 2 ^ (64 - s):Nat):Int) ∧
  bits .or .u64 ((x1 * 2 ^ s:Nat):Int) ((x0 / 2 ^ (64 - s):Nat):Int)=((x1 * 2 ^ s + x0 / 2 ^ (64 - s):Nat):Int)∧x1 * 2 ^ s + x0 / 2 ^ (64 - s) < W64:=by
 have hq:x0 / 2 ^ (64 - s) < 2 ^ s:=by
  apply Nat.div_lt_of_lt_mul
  rw [← Nat.pow_add,show 64 - s + s=64 by omega]
  rw [Zan] at h0; exact h0
 have hsum:x1 * 2 ^ s + x0 / 2 ^ (64 - s) < W64:=by
  have h2:x1 * 2 ^ s + 2 ^ s≤W64:=by
   have e:W64=2 ^ (64 - s) * 2 ^ s:=by rw [← Nat.pow_add,show 64 - s + s=64 by omega,Zan]
   rw [e] at h1 ⊢
   have h3:x1 < 2 ^ (64 - s):=Nat.lt_of_mul_lt_mul_right h1
   have h4:(x1 + 1) * 2 ^ s≤2 ^ (64 - s) * 2 ^ s:=Nat.mul_le_mul_right _ h3
   rw [Nat.add_mul,Nat.one_mul] at h4
   exact h4
  omega
 refine ⟨?_,?_,?_,hsum⟩
 ·rw [Ze2,Nat.mod_eq_of_lt h1]
 ·rw [Int.natCast_ediv]; simp
 ·rw [Zes h1 (by omega)]
  congr 1
  have:=Nat.shiftLeft_add_eq_or_of_lt hq x1
  rw [Nat.shiftLeft_eq] at this
  exact this.symm
theorem Zg7 (bA bB cA cB:Nat) (xs ys:List Nat) (w:World) (hOA:Own .u64 141 w bA xs) (hOB:Own .u64 141 w bB ys) (da:Dig W64 xs) (db:Dig W64 ys) (ta:Trim xs) (hl:ys.length≤xs.length) (h2:2≤ys.length) (hle:val W64 ys≤val W64 xs) (hn:xs.length≤4294967296) :
 Calls Tryz.prog 186 #[.slice (some ⟨bA,0,none⟩) xs.length cA, .slice (some ⟨bB,0,none⟩) ys.length cB] w (Zea (val W64 xs) (val W64 ys) w):=by
 obtain ⟨k,hk⟩:∃ k,xs.length=k + 2:=⟨xs.length - 2,by omega⟩
 obtain ⟨a1,ea1⟩:∃ a1,xs[k + 1]?.getD 0=a1:=⟨_,rfl⟩
 obtain ⟨a0,ea0⟩:∃ a0,xs[k]?.getD 0=a0:=⟨_,rfl⟩
 have ha1:a1 < W64:=ea1 ▸ da.getD Zah _
 have ha0:a0 < W64:=ea0 ▸ da.getD Zah _
 have hne:a1≠0:=ea1 ▸ ta (k + 1) hk
 have hca1:=hOA.cell (i:=k + 1) (by omega)
 have hca0:=hOA.cell (i:=k) (by omega)
 rw [ea1] at hca1
 rw [ea0] at hca0
 have hbl:1≤Lib.bitLen a1∧Lib.bitLen a1≤64∧a1 < 2 ^ Lib.bitLen a1:=by
  obtain ⟨l1,l2,_,l4⟩:=Zc4 (by omega) ha1
  exact ⟨l1,l2,l4⟩
 obtain ⟨s,hs⟩:∃ s,64 - Lib.bitLen a1=s:=⟨_,rfl⟩
 have hs63:s≤63:=by omega
 have hH:a1 * 2 ^ s < W64:=by
  have h3:a1 * 2 ^ s < 2 ^ Lib.bitLen a1 * 2 ^ s:=Nat.mul_lt_mul_of_pos_right hbl.2.2 (Nat.pow_pos (by omega))
  rw [← Nat.pow_add,show Lib.bitLen a1 + s=64 by omega] at h3
  rw [Zan]; exact h3
 obtain ⟨p1,p2,p3,hAW⟩:=ZjX hH ha0 hs63
 have hA:=Zk1 hk da ea1 ea0 hs63
 have hK:0 < W64 ^ k * 2 ^ (64 - s):=Nat.mul_pos (Nat.pow_pos Zah) (Nat.pow_pos (by omega))
 have ha:val W64 xs=(a1 * 2 ^ s + a0 / 2 ^ (64 - s)) * (W64 ^ k * 2 ^ (64 - s)) + val W64 xs % (W64 ^ k * 2 ^ (64 - s)):=by
  rw [← hA,Nat.mul_comm]; exact (Nat.div_add_mod _ _).symm
 have hBA:val W64 ys / (W64 ^ k * 2 ^ (64 - s))≤a1 * 2 ^ s + a0 / 2 ^ (64 - s):=by rw [← hA]; exact Nat.div_le_div_right hle
 have hb:val W64 ys=val W64 ys / (W64 ^ k * 2 ^ (64 - s)) * (W64 ^ k * 2 ^ (64 - s)) + val W64 ys % (W64 ^ k * 2 ^ (64 - s)):=by
  rw [Nat.mul_comm]; exact (Nat.div_add_mod _ _).symm
 rw [hk]
 rw [show (k + 1:Nat)=0 + (k + 1) by omega] at hca1
 rw [show (k:Nat)=0 + k by omega] at hca0
 rcases (by omega:ys.length=k + 2∨ys.length=k + 1∨ys.length≤k) with hy | hy | hy
 ·obtain ⟨b1,eb1⟩:∃ b1,ys[k + 1]?.getD 0=b1:=⟨_,rfl⟩
  obtain ⟨b0,eb0⟩:∃ b0,ys[k]?.getD 0=b0:=⟨_,rfl⟩
  have hb0:b0 < W64:=eb0 ▸ db.getD Zah _
  have hcb1:=hOB.cell (i:=k + 1) (by omega)
  have hcb0:=hOB.cell (i:=k) (by omega)
  rw [eb1,show (k + 1:Nat)=0 + (k + 1) by omega] at hcb1
  rw [eb0,show (k:Nat)=0 + k by omega] at hcb0
  have hBl:=Zk1 hy db eb1 eb0 hs63
  rw [hBl] at hb hBA
  have hH2:b1 * 2 ^ s < W64:=Nat.lt_of_le_of_lt (Nat.le_trans (Nat.le_add_right _ _) hBA) hAW
  obtain ⟨p4,p5,p6,_⟩:=ZjX hH2 hb0 hs63
  rw [hy]
  exact Zk2 bA 0 bB 0 cA cB (k + 2) (k + 1) k s a1 a0 b1 b0 _ _ _ _ _ _ _ _ w (by omega) (by omega) (by omega) hOA.lt hOB.lt hca1 hca0 hcb1 hcb0 ha1 (by omega) hs63 p1 p2 p3 p4 p5 p6 _ _ _ ha hb (Nat.mod_lt _ hK) (Nat.mod_lt _ hK) hAW hBA
 ·obtain ⟨b0,eb0⟩:∃ b0,ys[k]?.getD 0=b0:=⟨_,rfl⟩
  have hb0:b0 < W64:=eb0 ▸ db.getD Zah _
  have hcb0:=hOB.cell (i:=k) (by omega)
  rw [eb0,show (k:Nat)=0 + k by omega] at hcb0
  have hBl:=ZpQ (s:=s) hy db eb0
  have p5:(b0:Int) / 2 ^ (64 - s)=((b0 / 2 ^ (64 - s):Nat):Int):=by rw [Int.natCast_ediv]; simp
  rw [hBl] at hb hBA
  rw [hy]
  exact Zk3 bA 0 bB 0 cA cB (k + 2) (k + 1) k s a1 a0 b0 _ _ _ _ _ _ w (by omega) (by omega) (by omega) hOA.lt hOB.lt hca1 hca0 hcb0 ha1 (by omega) hs63 p1 p2 p3 p5 _ _ _ ha hb (Nat.mod_lt _ hK) (Nat.mod_lt _ hK) hAW hBA
 ·exact Zko bA 0 cA cB (k + 2) (k + 1) k ys.length s a1 a0 _ _ _ _ _ _ w (by omega) (by omega) (by omega) (by omega) hOA.lt hca1 hca0 ha1 (by omega) hs63 p1 p2 p3 hAW
end Go.Proofs.YtenchljfmfgeoaaGreatDoor

namespace Go.Proofs.YtenchljfmfgeoaaGreatDoor
open Go.RowKit
def ZdN (bA bB n r0 r1:Nat) (w:World) (e:Ending) (w':World):Prop :=
 ∃ zs zt:List Nat,e=.returned (.tuple #[])∧Own .u64 141 w' bA zs∧Own .u64 141 w' bB zt∧val W64 zs=r0∧val W64 zt=r1∧Dig W64 zs∧Dig W64 zt∧zs.length=n∧zt.length=n ∧
   Zbl 141 bA w w'∧Zbl 141 bB w w'∧Fr (fun i=>i=bA∨i=bB) w w'
set_option maxHeartbeats 4000000 in
theorem ZiQ (bA bB n cA cB u0 u1 v0 v1 r0 r1:Nat) (xs ys:List Nat) (w:World) (ha:xs.length=n) (hb:ys.length=n) (hOA:Own .u64 141 w bA xs) (hOB:Own .u64 141 w bB ys) (hne:bA≠bB) (da:Dig W64 xs) (db:Dig W64 ys) (hn:n≤1099511627776)
 (hu0:u0 < W64) (hu1:u1 < W64) (hv0:v0 < W64) (hv1:v1 < W64) (h0:r0 + u0 * val W64 xs=v0 * val W64 ys) (h1:r1 + v1 * val W64 ys=u1 * val W64 xs) (l0:r0 < W64 ^ n) (l1:r1 < W64 ^ n) :
 Calls Tryz.prog 188 #[.agg (Zbw u0 u1 v0 v1 false), .slice (some ⟨bA,0,none⟩) n cA, .slice (some ⟨bB,0,none⟩) n cB] w (ZdN bA bB n r0 r1 w):=by
 have Hu0:=zh hu0
 have Hu1:=zh hu1
 have Hv0:=zh hv0
 have Hv1:=zh hv1
 have Hda:=zh da
 have Hdb:=zh db
 have H0:=zh h0
 have H1:=zh h1
 have HL0:Hid (r0 < W64 ^ xs.length):=by unfold Hid; rw [ha]; exact l0
 have HL1:Hid (r1 < W64 ^ ys.length):=by unfold Hid; rw [hb]; exact l1
 have HLa:=zh ha
 have HLb:=zh hb
 have HOA:=zh hOA
 have HOB:=zh hOB
 have hltA:=hOA.lt
 have hltB:=hOB.lt
 unfold Zbw
 clear ha hb hOA hOB da db hu0 hu1 hv0 hv1 h0 h1 l0 l1
 go_enter Tryz.func188,Tryz.ntmps188
 go_wp2
 generalize hwb:World.alloc w _=wb
 have HBx:Hid (Blk 236 wb w.heap.size #[.int .u64 (u0:Int), .int .u64 (u1:Int), .int .u64 (v0:Int), .int .u64 (v1:Int), .bool false]):=hwb ▸ Blk.new _ _ _
 have HE:Hid (Ext w wb):=hwb ▸ (Fr.refl _ _).alloc _
 clear hwb
 go_loopw [6,7,8,9,10,11,21] (fun pv qv rv tv bv lv iv wr=>∃ (k cP cQ cR cT bo lo:Nat) (zs zt:List Nat),k≤n∧pv=.int .u64 (cP:Int)∧qv=.int .u64 (cQ:Int)∧rv=.int .u64 (cR:Int)∧tv=.int .u64 (cT:Int)∧bv=.int .u64 (bo:Int)∧lv=.int .u64 (lo:Int)∧iv=.int .i64 (k:Int) ∧
  Hid (Zb2 u0 v0 xs ys xs k zs cP cQ bo)∧Hid (Zb2 v1 u1 ys xs ys k zt cR cT lo)∧Hid (Own .u64 141 wr bA zs)∧Hid (Own .u64 141 wr bB zt)∧Hid (Zbl 141 bA w wr)∧Hid (Zbl 141 bB w wr)∧Hid (Fr (fun i=>i=bA∨i=bB) wb wr)) (fun _ _ _ _ _ _ iv _=>n - (intOf iv).toNat)
 case atStart=>exact ⟨0,0,0,0,0,0,0,xs,ys,Nat.zero_le _,rfl,rfl,rfl,rfl,rfl,rfl,rfl,Zb2.start Hda.out,Zb2.start Hdb.out,HOA.out.ext HE.out,HOB.out.ext HE.out,(Zbl.refl _ _ _).fr HE.out (fun f=>f),(Zbl.refl _ _ _).fr HE.out (fun f=>f),Fr.refl _ _⟩
 case round =>
  obtain ⟨k,cP,cQ,cR,cT,bo,lo,zs,zt,hk,rfl,rfl,rfl,rfl,rfl,rfl,rfl,hA,hB,hOA,hOB,hSA,hSB,hF⟩:=hrel
  have hla:=HLa.out
  have hlb:=HLb.out
  by_cases hlt:k < n
  ·have hka:k < xs.length:=by omega
   have hkb:k < ys.length:=by omega
   have hzl:=hA.out.1
   have htl:=hB.out.1
   obtain ⟨x,ex⟩:∃ x,xs[k]?.getD 0=x:=⟨_,rfl⟩
   obtain ⟨y,ey⟩:∃ y,ys[k]?.getD 0=y:=⟨_,rfl⟩
   have hcx:=hOA.out.cell (i:=k) (by omega)
   have hcy:=hOB.out.cell (i:=k) (by omega)
   rw [hA.out.at,ex] at hcx
   rw [hB.out.at,ey] at hcy
   have hfx:=hOA.out.frozen k
   have hfy:=hOB.out.frozen k
   have HxW:Hid (x < W64):=ex ▸ Hda.out.getD Zah k
   have HyW:Hid (y < W64):=ey ▸ Hdb.out.getD Zah k
   have HA2:=zh (hA.out.step Hu0.out Hv0.out hka hkb hka Hda.out Hdb.out ex ey)
   have HB2:=zh (hB.out.step Hv1.out Hu1.out hkb hka hkb Hdb.out Hda.out ey ex)
   have hgne:¬ (w.heap.size=bA∨w.heap.size=bB):=by omega
   have HBr:=HBx.out.fr hF.out hgne
   have s0:wr.cell? ⟨w.heap.size,0,none⟩=some (.int .u64 (u0:Int)):=HBr.cell 0
   have s1:wr.cell? ⟨w.heap.size,1,none⟩=some (.int .u64 (u1:Int)):=HBr.cell 1
   have s2:wr.cell? ⟨w.heap.size,2,none⟩=some (.int .u64 (v0:Int)):=HBr.cell 2
   have s3:wr.cell? ⟨w.heap.size,3,none⟩=some (.int .u64 (v1:Int)):=HBr.cell 3
   have s4:wr.cell? ⟨w.heap.size,4,none⟩=some (.bool false):=HBr.cell 4
   have hbo:bo≤1:=hA.out.2.2.2.2.2.1
   have hlo:lo≤1:=hB.out.2.2.2.2.2.1
   have HcA:=zh (And.intro hA.out.2.2.2.1 hA.out.2.2.2.2.1)
   have HcB:=zh (And.intro hB.out.2.2.2.1 hB.out.2.2.2.2.1)
   have M1:=zh (fun W=>ZbB x u0 cP W HxW.out Hu0.out HcA.out.1)
   have M2:=zh (fun W=>ZbB y v0 cQ W HyW.out Hv0.out HcA.out.2)
   have M3:=zh (fun W=>ZbB y v1 cR W HyW.out Hv1.out HcB.out.1)
   have M4:=zh (fun W=>ZbB x u1 cT W HxW.out Hu1.out HcB.out.2)
   generalize maLo x u0 cP=p1 at *
   generalize maHi x u0 cP=p2 at *
   generalize maLo y v0 cQ=q1 at *
   generalize maHi y v0 cQ=q2 at *
   generalize maLo y v1 cR=r1' at *
   generalize maHi y v1 cR=r2' at *
   generalize maLo x u1 cT=t1 at *
   generalize maHi x u1 cT=t2 at *
   have S1:=Zcw q1 p1 bo hbo
   have S2:=Zcw t1 r1' lo hlo
   have HkA:k < zs.length:=by omega
   have HkB:k < zt.length:=by omega
   clear ex ey hka hkb HBr hzl htl HcA HcB
   go_wp2_with fail
   refine (M1.out _).mono ?_
   rintro e w' ⟨rfl,rfl⟩
   go_wp2_with fail
   refine (M2.out _).mono ?_
   rintro e w' ⟨rfl,rfl⟩
   go_wp2_with fail
   refine (M3.out _).mono ?_
   rintro e w' ⟨rfl,rfl⟩
   go_wp2_with fail
   refine (M4.out _).mono ?_
   rintro e w' ⟨rfl,rfl⟩
   go_wp2
   go_roundw
   case rel=>exact ⟨k + 1,p2,q2,r2',t2,_,_,_,_,by omega,rfl,rfl,rfl,rfl,rfl,rfl,by go_num,HA2,HB2,(hOA.out.set k _ HkA).far (by simpa using hne) _,(hOB.out.far (by simpa using fun e=>hne e.symm) _).set k _ HkB,(hSA.out.setCell _ _ _).setCell _ _ _,(hSB.out.setCell _ _ _).setCell _ _ _,(hF.out.setCell (p:=⟨bA,k,none⟩) (Or.inl (Or.inl rfl)) _).setCell (p:=⟨bB,k,none⟩) (Or.inl (Or.inr rfl)) _⟩
   case measure=>simp [intOf]; omega
  ·obtain rfl:k=n:=by omega
   have HFin:Hid (ZdN bA bB k r0 r1 w (.returned (.tuple #[])) wr):=by
    have e1:k=xs.length:=by omega
    have e2:k=ys.length:=by omega
    have hA':=hA.out
    have hB':=hB.out
    rw [e1] at hA'
    rw [e2] at hB'
    have d1:=zh hA'
    have d2:=zh hB'
    have kA:=d1.out.done rfl (by omega) H0.out HL0.out
    have kB:=d2.out.done rfl (by omega) H1.out HL1.out
    exact ⟨zs,zt,rfl,hOA.out,hOB.out,kA.1,kB.1,kA.2.1,kB.2.1,by omega,by omega,hSA.out,hSB.out,(HE.out.mono (fun _ _ f=>f.elim)).trans ((hF.out.mono (fun _ _ f=>f)))⟩
   clear hA hB hOA hOB hSA hSB hF
   go_wp2
   go_end0
   exact HFin.out
set_option maxHeartbeats 4000000 in
theorem ZjY (bA bB n cA cB u0 u1 v0 v1 r0 r1:Nat) (xs ys:List Nat) (w:World) (ha:xs.length=n) (hb:ys.length=n) (hOA:Own .u64 141 w bA xs) (hOB:Own .u64 141 w bB ys) (hne:bA≠bB) (da:Dig W64 xs) (db:Dig W64 ys) (hn:n≤1099511627776)
 (hu0:u0 < W64) (hu1:u1 < W64) (hv0:v0 < W64) (hv1:v1 < W64) (h0:r0 + v0 * val W64 ys=u0 * val W64 xs) (h1:r1 + u1 * val W64 xs=v1 * val W64 ys) (l0:r0 < W64 ^ n) (l1:r1 < W64 ^ n) :
 Calls Tryz.prog 188 #[.agg (Zbw u0 u1 v0 v1 true), .slice (some ⟨bA,0,none⟩) n cA, .slice (some ⟨bB,0,none⟩) n cB] w (ZdN bA bB n r0 r1 w):=by
 have Hu0:=zh hu0
 have Hu1:=zh hu1
 have Hv0:=zh hv0
 have Hv1:=zh hv1
 have Hda:=zh da
 have Hdb:=zh db
 have H0:=zh h0
 have H1:=zh h1
 have HL0:Hid (r0 < W64 ^ xs.length):=by unfold Hid; rw [ha]; exact l0
 have HL1:Hid (r1 < W64 ^ ys.length):=by unfold Hid; rw [hb]; exact l1
 have HLa:=zh ha
 have HLb:=zh hb
 have HOA:=zh hOA
 have HOB:=zh hOB
 have hltA:=hOA.lt
 have hltB:=hOB.lt
 unfold Zbw
 clear ha hb hOA hOB da db hu0 hu1 hv0 hv1 h0 h1 l0 l1
 go_enter Tryz.func188,Tryz.ntmps188
 go_wp2
 generalize hwb:World.alloc w _=wb
 have HBx:Hid (Blk 236 wb w.heap.size #[.int .u64 (u0:Int), .int .u64 (u1:Int), .int .u64 (v0:Int), .int .u64 (v1:Int), .bool true]):=hwb ▸ Blk.new _ _ _
 have HE:Hid (Ext w wb):=hwb ▸ (Fr.refl _ _).alloc _
 clear hwb
 go_loopw [6,7,8,9,10,11,21] (fun pv qv rv tv bv lv iv wr=>∃ (k cP cQ cR cT bo lo:Nat) (zs zt:List Nat),k≤n∧pv=.int .u64 (cP:Int)∧qv=.int .u64 (cQ:Int)∧rv=.int .u64 (cR:Int)∧tv=.int .u64 (cT:Int)∧bv=.int .u64 (bo:Int)∧lv=.int .u64 (lo:Int)∧iv=.int .i64 (k:Int) ∧
  Hid (Zb2 v0 u0 ys xs xs k zs cQ cP bo)∧Hid (Zb2 u1 v1 xs ys ys k zt cT cR lo)∧Hid (Own .u64 141 wr bA zs)∧Hid (Own .u64 141 wr bB zt)∧Hid (Zbl 141 bA w wr)∧Hid (Zbl 141 bB w wr)∧Hid (Fr (fun i=>i=bA∨i=bB) wb wr)) (fun _ _ _ _ _ _ iv _=>n - (intOf iv).toNat)
 case atStart=>exact ⟨0,0,0,0,0,0,0,xs,ys,Nat.zero_le _,rfl,rfl,rfl,rfl,rfl,rfl,rfl,Zb2.start Hda.out,Zb2.start Hdb.out,HOA.out.ext HE.out,HOB.out.ext HE.out,(Zbl.refl _ _ _).fr HE.out (fun f=>f),(Zbl.refl _ _ _).fr HE.out (fun f=>f),Fr.refl _ _⟩
 case round =>
  obtain ⟨k,cP,cQ,cR,cT,bo,lo,zs,zt,hk,rfl,rfl,rfl,rfl,rfl,rfl,rfl,hA,hB,hOA,hOB,hSA,hSB,hF⟩:=hrel
  have hla:=HLa.out
  have hlb:=HLb.out
  by_cases hlt:k < n
  ·have hka:k < xs.length:=by omega
   have hkb:k < ys.length:=by omega
   have hzl:=hA.out.1
   have htl:=hB.out.1
   obtain ⟨x,ex⟩:∃ x,xs[k]?.getD 0=x:=⟨_,rfl⟩
   obtain ⟨y,ey⟩:∃ y,ys[k]?.getD 0=y:=⟨_,rfl⟩
   have hcx:=hOA.out.cell (i:=k) (by omega)
   have hcy:=hOB.out.cell (i:=k) (by omega)
   rw [hA.out.at,ex] at hcx
   rw [hB.out.at,ey] at hcy
   have hfx:=hOA.out.frozen k
   have hfy:=hOB.out.frozen k
   have HxW:Hid (x < W64):=ex ▸ Hda.out.getD Zah k
   have HyW:Hid (y < W64):=ey ▸ Hdb.out.getD Zah k
   have HA2:=zh (hA.out.step Hv0.out Hu0.out hkb hka hka Hdb.out Hda.out ey ex)
   have HB2:=zh (hB.out.step Hu1.out Hv1.out hka hkb hkb Hda.out Hdb.out ex ey)
   have hgne:¬ (w.heap.size=bA∨w.heap.size=bB):=by omega
   have HBr:=HBx.out.fr hF.out hgne
   have s0:wr.cell? ⟨w.heap.size,0,none⟩=some (.int .u64 (u0:Int)):=HBr.cell 0
   have s1:wr.cell? ⟨w.heap.size,1,none⟩=some (.int .u64 (u1:Int)):=HBr.cell 1
   have s2:wr.cell? ⟨w.heap.size,2,none⟩=some (.int .u64 (v0:Int)):=HBr.cell 2
   have s3:wr.cell? ⟨w.heap.size,3,none⟩=some (.int .u64 (v1:Int)):=HBr.cell 3
   have s4:wr.cell? ⟨w.heap.size,4,none⟩=some (.bool true):=HBr.cell 4
   have hbo:bo≤1:=hA.out.2.2.2.2.2.1
   have hlo:lo≤1:=hB.out.2.2.2.2.2.1
   have HcA:=zh (And.intro hA.out.2.2.2.1 hA.out.2.2.2.2.1)
   have HcB:=zh (And.intro hB.out.2.2.2.1 hB.out.2.2.2.2.1)
   have M1:=zh (fun W=>ZbB x u0 cP W HxW.out Hu0.out HcA.out.2)
   have M2:=zh (fun W=>ZbB y v0 cQ W HyW.out Hv0.out HcA.out.1)
   have M3:=zh (fun W=>ZbB y v1 cR W HyW.out Hv1.out HcB.out.2)
   have M4:=zh (fun W=>ZbB x u1 cT W HxW.out Hu1.out HcB.out.1)
   generalize maLo x u0 cP=p1 at *
   generalize maHi x u0 cP=p2 at *
   generalize maLo y v0 cQ=q1 at *
   generalize maHi y v0 cQ=q2 at *
   generalize maLo y v1 cR=r1' at *
   generalize maHi y v1 cR=r2' at *
   generalize maLo x u1 cT=t1 at *
   generalize maHi x u1 cT=t2 at *
   have S1:=Zcw p1 q1 bo hbo
   have S2:=Zcw r1' t1 lo hlo
   have HkA:k < zs.length:=by omega
   have HkB:k < zt.length:=by omega
   clear ex ey hka hkb HBr hzl htl HcA HcB
   go_wp2_with fail
   refine (M1.out _).mono ?_
   rintro e w' ⟨rfl,rfl⟩
   go_wp2_with fail
   refine (M2.out _).mono ?_
   rintro e w' ⟨rfl,rfl⟩
   go_wp2_with fail
   refine (M3.out _).mono ?_
   rintro e w' ⟨rfl,rfl⟩
   go_wp2_with fail
   refine (M4.out _).mono ?_
   rintro e w' ⟨rfl,rfl⟩
   go_wp2
   go_roundw
   case rel=>exact ⟨k + 1,p2,q2,r2',t2,_,_,_,_,by omega,rfl,rfl,rfl,rfl,rfl,rfl,by go_num,HA2,HB2,(hOA.out.set k _ HkA).far (by simpa using hne) _,(hOB.out.far (by simpa using fun e=>hne e.symm) _).set k _ HkB,(hSA.out.setCell _ _ _).setCell _ _ _,(hSB.out.setCell _ _ _).setCell _ _ _,(hF.out.setCell (p:=⟨bA,k,none⟩) (Or.inl (Or.inl rfl)) _).setCell (p:=⟨bB,k,none⟩) (Or.inl (Or.inr rfl)) _⟩
   case measure=>simp [intOf]; omega
  ·obtain rfl:k=n:=by omega
   have HFin:Hid (ZdN bA bB k r0 r1 w (.returned (.tuple #[])) wr):=by
    have e1:k=xs.length:=by omega
    have e2:k=ys.length:=by omega
    have hA':=hA.out
    have hB':=hB.out
    rw [e1] at hA'
    rw [e2] at hB'
    have d1:=zh hA'
    have d2:=zh hB'
    have kA:=d1.out.done (by omega) rfl H0.out HL0.out
    have kB:=d2.out.done (by omega) rfl H1.out HL1.out
    exact ⟨zs,zt,rfl,hOA.out,hOB.out,kA.1,kB.1,kA.2.1,kB.2.1,by omega,by omega,hSA.out,hSB.out,(HE.out.mono (fun _ _ f=>f.elim)).trans ((hF.out.mono (fun _ _ f=>f)))⟩
   clear hA hB hOA hOB hSA hSB hF
   go_wp2
   go_end0
   exact HFin.out
end Go.Proofs.YtenchljfmfgeoaaGreatDoor

namespace Go.Proofs.YtenchljfmfgeoaaGreatDoor
open Go.RowKit Go.Sort
def nats (l:List UInt8):List Nat:=l.map UInt8.toNat
@[simp] theorem ZfH (l:List UInt8):(nats l).length=l.length:=by simp [nats]
theorem Zl3 (a b:List UInt8):nats (a ++ b)=nats a ++ nats b:=by simp [nats]
abbrev TBuf (w:World) (A:Option Addr) (cap:Nat) (l:List UInt8):Prop:=Buf .u8 5 w A cap (nats l)
theorem ZqP:(Tryz.prog.info? 5).map (fun i=>(i.zero,i.size,i.bytes))=some (some (.int .u8 0),1,1):=by kernel_rfl
theorem Zla (u:Nat) (hu:u < W64):(Lib.decDigits u).length≤20:=by
 rw [Zan] at hu
 rw [Lib.decDigits_length]
 rcases Nat.eq_zero_or_pos u with h0 | h0
 ·subst h0; rw [Lib.nDigits_small (by omega)]; omega
 ·have:=Lib.numDigits_eq u h0 hu; split at this<;>omega
end Go.Proofs.YtenchljfmfgeoaaGreatDoor

namespace Go.Proofs.YtenchljfmfgeoaaGreatDoor
open Go.RowKit Go.Sort
end Go.Proofs.YtenchljfmfgeoaaGreatDoor

namespace Go.Proofs.YtenchljfmfgeoaaGreatDoor
def ZaP (h:Nat):List UInt8:=if h=0 then [] else Lib.decDigits h
theorem Zlp:ZaP 0=[]:=rfl
theorem ZbO {h:Nat} (hp:0 < h):ZaP h=Lib.decDigits h:=if_neg (by omega)
theorem ZbG (u:Nat):Lib.decDigits u≠[]:=by
 rw [Lib.decDigits]; split<;>simp
theorem Znz {h:Nat} (hp:0 < h):ZaP h≠[]:=by rw [ZbO hp]; exact ZbG h
theorem Zl7 {h:Nat}:0 < (ZaP h).length ↔ 0 < h:=by
 constructor
 ·intro hl
  rcases Nat.eq_zero_or_pos h with e | e
  ·subst e; simp [ZaP] at hl
  ·exact e
 ·intro hp
  have:=Znz hp
  rcases Nat.eq_zero_or_pos (ZaP h).length with e | e
  ·exact absurd (List.length_eq_zero_iff.1 e) this
  ·exact e
theorem Ze8 {h c:Nat} (hc:c < 10) (hn:0 < h∨c≠0):ZaP (10 * h + c)=ZaP h ++ [UInt8.ofNat (48 + c)]:=by
 rcases Nat.eq_zero_or_pos h with e | e
 ·subst e
  have:0 < c:=by omega
  rw [Zlp,ZbO (by omega),Nat.mul_zero,Nat.zero_add,Lib.decDigits_one hc]; rfl
 ·rw [ZbO (by omega),ZbO e,Lib.decDigits,dif_neg (by omega),show (10 * h + c) / 10=h by omega,show (10 * h + c) % 10=c by omega]
def topE (H p k e:Nat):Nat:=H * 10 ^ e + p / 10 ^ (k - e)
theorem ZnA {H p k:Nat} (hp:p < 10 ^ k):topE H p k 0=H:=by
 unfold topE; simp [Nat.div_eq_of_lt hp]
theorem Zp9 {H p k:Nat}:topE H p k k=H * 10 ^ k + p:=by
 unfold topE; simp
theorem ZoU {H p k e:Nat} (he:e < k):topE H p k (e + 1)=10 * topE H p k e + p / 10 ^ (k - 1 - e) % 10:=by
 unfold topE
 have h1:k - e=(k - 1 - e) + 1:=by omega
 have h2:k - (e + 1)=k - 1 - e:=by omega
 rw [h1,h2,Nat.pow_succ,Nat.pow_succ,← Nat.div_div_eq_div_mul]
 generalize p / 10 ^ (k - 1 - e)=q
 generalize 10 ^ e=E
 have e1:H * (E * 10)=10 * (H * E):=by rw [← Nat.mul_assoc,Nat.mul_comm]
 rw [e1]
 omega
end Go.Proofs.YtenchljfmfgeoaaGreatDoor

namespace Go.Proofs.YtenchljfmfgeoaaGreatDoor
open Go.RowKit
def padT (x:Nat):Nat→List UInt8
 | 0=>[]
 | k + 1=>padT (x / 10) k ++ [UInt8.ofNat (48 + x % 10)]
theorem Zj8 (k:Nat):padT 0 k=List.replicate k 48:=by
 induction k with
 | zero=>rfl
 | succ k ih=>rw [padT,Nat.zero_div,ih,List.replicate_succ']; rfl
theorem Zkr {H:Nat} (hH:0 < H) (k:Nat):∀ p,p < 10 ^ k→ZaP (H * 10 ^ k + p)=ZaP H ++ padT p k:=by
 induction k with
 | zero=>intro p hp; simp at hp; subst hp; simp [padT]
 | succ k ih =>
   intro p hp
   have h1:p / 10 < 10 ^ k:=by rw [Nat.pow_succ] at hp; omega
   have h2:H * 10 ^ (k + 1) + p=10 * (H * 10 ^ k + p / 10) + p % 10:=by
    rw [Nat.pow_succ,← Nat.mul_assoc]; omega
   have h3:0 < H * 10 ^ k:=Nat.mul_pos hH (Nat.pow_pos (by omega))
   rw [h2,Ze8 (Nat.mod_lt _ (by omega)) (Or.inl (by omega)),ih _ h1,padT,List.append_assoc]
theorem Zhm {p:Nat} (h:0 < p):ZaP p=ZaP (p / 10) ++ [UInt8.ofNat (48 + p % 10)]:=by
 have h1:p=10 * (p / 10) + p % 10:=by omega
 have h2:=Ze8 (h:=p / 10) (c:=p % 10) (Nat.mod_lt _ (by omega)) (by omega)
 rw [← h1] at h2
 exact h2
theorem ZnB (k:Nat):∀ p,p < 10 ^ k→(ZaP p).length≤k:=by
 induction k with
 | zero=>intro p hp; simp at hp; subst hp; simp [ZaP]
 | succ k ih =>
   intro p hp
   rcases Nat.eq_zero_or_pos p with h | h
   ·subst h; simp [ZaP]
   ·have h1:p / 10 < 10 ^ k:=by rw [Nat.pow_succ] at hp; omega
    rw [Zhm h,List.length_append]
    have:=ih _ h1
    simp; omega
theorem ZrD (k:Nat):∀ p,p < 10 ^ k→padT p k=List.replicate (k - (ZaP p).length) 48 ++ ZaP p:=by
 induction k with
 | zero=>intro p hp; simp at hp; subst hp; rfl
 | succ k ih =>
   intro p hp
   rcases Nat.eq_zero_or_pos p with h | h
   ·subst h; rw [Zj8]; simp [ZaP]
   ·have h1:p / 10 < 10 ^ k:=by rw [Nat.pow_succ] at hp; omega
    rw [padT,ih _ h1,Zhm h,List.length_append,← List.append_assoc]
    congr 2
    congr 1
    simp only [List.length_singleton]; omega
theorem Zqa {k p:Nat} (hk:0 < k) (hp:p < 10 ^ k):padT p k=List.replicate (k - (Lib.decDigits p).length) 48 ++ Lib.decDigits p:=by
 rcases Nat.eq_zero_or_pos p with h | h
 ·subst h
  rw [Zj8,Lib.decDigits_one (by omega)]
  show _=_ ++ [48]
  rw [← List.replicate_succ']
  congr 1; simp; omega
 ·rw [ZrD k p hp,ZbO h]
end Go.Proofs.YtenchljfmfgeoaaGreatDoor
