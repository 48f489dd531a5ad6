/-
 My texts RtL put together.
-/
import Derived.Test.YtbgkofgoeoiciaaGreatDoorT21
import Derived.Test.YtbgkofgoeoiciaaGreatDoorT23
import Derived.Test.YtbgkofgoeoiciaaGreatDoorT12
import Derived.Test.YtbgkofgoeoiciaaGreatDoorT19
namespace Go.Proofs.YtbgkofgoeoiciaaGreatDoor
open Go.RowKit
def tz (z:Int):ByteArray:=⟨(Lib.itoa z).toArray⟩
def IsZ (s:ByteArray) (z:Int):Prop:=StrIs s (z:Rat)
theorem isZ_of {z:Int} (h:z.natAbs < 10 ^ 200):IsZ (tz z) z:=by
 refine ⟨?_,?_⟩
 ·unfold tz; rw [bytes_of]; exact valF_some (read_itoa z)
 ·unfold tz; rw [bytes_of]; exact Nat.le_trans (itoa_le (k:=200) (by decide) h) (by decide)
theorem zMul {s t:ByteArray} {x y z:Int} {w:World} (hg:Glob w) (hx:IsZ s x) (hy:IsZ t y) (hz:x * y=z):Calls Tryz.prog 52 #[.string s, .string t] w (RetV w (.string (tz z))):=by
 have h:=sMul (r:=(z:Rat)) hg hx hy (by rw [← hz,Rat.intCast_mul])
 rw [int_txt'] at h; exact h
theorem zCmp {s t:ByteArray} {x y:Int} {w:World} (hg:Glob w) (hx:IsZ s x) (hy:IsZ t y):Calls Tryz.prog 68 #[.string s, .string t] w (RetV w (.int .i64 (x - y).sign)):=by
 refine sCmp hg hx hy ?_
 rw [← Rat.intCast_sub]; rfl
theorem red_two {l:List UInt8} {q:Rat} {P:Nat} {x:Int} {ok:Bool} (h:RedIs l (P:Int) x ok) (hr:readF l=some q) (hP:Pr (P:Int)) :
 (ok=true∧∃ X:Nat,x=(X:Int)∧(q.num - (q.den:Int) * (X:Int)) % (P:Int)=0∧¬ P ∣ q.den∧X < P)∨(ok=false∧P ∣ q.den):=by
 by_cases hd:(q.den:Int) % (P:Int)=0
 ·right
  rcases h with ⟨rfl,_,q',h1,h2,_⟩ | ⟨rfl,_,_⟩
  ·rw [hr] at h1; injection h1 with h1; subst h1; exact absurd hd h2
  ·exact ⟨rfl,Int.natCast_dvd_natCast.1 (Int.dvd_of_emod_eq_zero hd)⟩
 ·left
  obtain ⟨rfl,h0,h1,k,hk⟩:=h.of hr hP hd
  obtain ⟨X,rfl⟩:=Int.eq_ofNat_of_zero_le h0
  refine ⟨rfl,X,rfl,?_,fun hc=>hd (Int.emod_eq_zero_of_dvd (Int.natCast_dvd_natCast.2 hc)),by omega⟩
  refine Int.emod_eq_zero_of_dvd ⟨-k,?_⟩
  rw [Int.mul_neg,← hk,Int.mul_comm (q.den:Int)]; omega
theorem sq_lt {x k:Nat} (h:x < 10 ^ k):x * x < 10 ^ (k + k):=by
 have:=Nat.mul_lt_mul'' h h; rwa [← Nat.pow_add] at this
def bnd (n:Int) (d:Nat):Int:=if 2 * ((d:Int) * (d:Int))≤2 * (n * n) then 2 * (n * n) else 2 * ((d:Int) * (d:Int))
theorem bnd_spec (n:Int) (d:Nat):n * n * 2≤bnd n d∧(d:Int) * (d:Int) * 2≤bnd n d:=by
 unfold bnd; split<;>omega
theorem bnd_small {n:Int} {d:Nat} (hn:n.natAbs < 10 ^ 60) (hd:d < 10 ^ 60):0≤bnd n d∧bnd n d≤((2 * 10 ^ 120:Nat):Int):=by
 have h1:=sq_lt hn
 have h2:=sq_lt hd
 have e1:n * n=((n.natAbs * n.natAbs:Nat):Int):=Int.natAbs_mul_self.symm
 have e2:(d:Int) * (d:Int)=((d * d:Nat):Int):=(Int.natCast_mul d d).symm
 unfold bnd
 rw [e1,e2]
 generalize n.natAbs * n.natAbs=x at *
 generalize d * d=y at *
 have e3:10 ^ (60 + 60)=10 ^ 120:=by rfl
 rw [e3] at h1 h2
 generalize (10:Nat) ^ 120=z at *
 split<;>omega
theorem nat_up {x j k:Nat} (h:x < 10 ^ j) (hk:j≤k):x < 10 ^ k:=Nat.lt_of_lt_of_le h (Nat.pow_le_pow_right (by decide) hk)
theorem sgn_gt_t {x y:Int} (h:decide ((x - y).sign > 0)=true):y < x:=by
 have h:=of_decide_eq_true h
 rcases sign3 (x - y) with ⟨h1,h2⟩ | ⟨h1,h2⟩ | ⟨h1,h2⟩<;>omega
theorem sgn_gt_f {x y:Int} (h:decide ((x - y).sign > 0)=false):x≤y:=by
 have h:=of_decide_eq_false h
 rcases sign3 (x - y) with ⟨h1,h2⟩ | ⟨h1,h2⟩ | ⟨h1,h2⟩<;>omega
theorem sgn_le_t {x y:Int} (h:decide ((x - y).sign≤0)=true):x≤y:=by
 have h:=of_decide_eq_true h
 rcases sign3 (x - y) with ⟨h1,h2⟩ | ⟨h1,h2⟩ | ⟨h1,h2⟩<;>omega
theorem sgn_le_f {x y:Int} (h:decide ((x - y).sign≤0)=false):y < x:=by
 have h:=of_decide_eq_false h
 rcases sign3 (x - y) with ⟨h1,h2⟩ | ⟨h1,h2⟩ | ⟨h1,h2⟩<;>omega
theorem isZ_two:IsZ ⟨#[50]⟩ 2:=⟨valF_of (rt_whole (n:=2) (by decide) (by decide) (by decide)),by decide⟩
theorem two_200 {z:Int} (h:z.natAbs < 10 ^ (60 + 60)):(2 * z).natAbs < 10 ^ 200:=by
 have h1:2 * 10 ^ (60 + 60)≤10 ^ 200:=by decide
 generalize 10 ^ (60 + 60)=a at *
 generalize 10 ^ 200=b at *
 omega
theorem bnd_200 {B:Int} (h:0≤B∧B≤((2 * 10 ^ 120:Nat):Int)):B.natAbs < 10 ^ 200:=by
 have h1:2 * 10 ^ 120 < 10 ^ 200:=by decide
 generalize 2 * 10 ^ 120=a at *
 generalize 10 ^ 200=b at *
 omega
theorem prod_200 {x:Nat} (h:x < 10 ^ 130):((x:Nat):Int).natAbs < 10 ^ 200:=by
 rw [Int.natAbs_natCast]; exact nat_up h (by decide)
theorem prod_199 {x:Nat} (h:x < 10 ^ 130):((x:Nat):Int).natAbs < 10 ^ 199:=by
 rw [Int.natAbs_natCast]; exact nat_up h (by decide)
theorem prod_start:prodN [] < 10 ^ 130:=by decide
theorem q_200 {Q:Nat} (h:Q≤2147483647):((Q:Nat):Int).natAbs < 10 ^ 200:=by
 rw [Int.natAbs_natCast]
 have h1:2147483647 < 10 ^ 200:=by decide
 omega
theorem prod_q (ys:List Nat) (Q:Nat):((prodN ys:Nat):Int) * ((Q:Nat):Int)=((prodN (ys ++ [Q]):Nat):Int):=by rw [prodN_snoc,Int.natCast_mul]
theorem prod_next {ys:List Nat} {Q:Nat} {B:Int} (h:((prodN ys:Nat):Int)≤B) (hB:B≤((2 * 10 ^ 120:Nat):Int)) (hQ:Q≤2147483647):prodN (ys ++ [Q]) < 10 ^ 130:=by
 rw [prodN_snoc]
 have h1:prodN ys≤2 * 10 ^ 120:=by omega
 have h2:=Nat.mul_le_mul h1 hQ
 have h3:2 * 10 ^ 120 * 2147483647 < 10 ^ 130:=by decide
 exact Nat.lt_of_le_of_lt h2 h3
theorem v_200 {v:Int} {m:Nat} (h0:0≤v) (h1:v < ((m:Nat):Int)) (hm:m < 10 ^ 130):v.natAbs < 10 ^ 199:=nat_up (j:=130) (by omega) (by decide)
theorem tz_size {z:Int} (h:z.natAbs < 10 ^ 199):(tz z).size≤200:=by
 have:=itoa_le (k:=199) (by decide) h
 rw [← bytes_length]; unfold tz; rw [bytes_of]; exact this
theorem xs_i64 {xs:List Nat} (h:∀ x ∈ xs,x≤2147483647):Int64s (ints xs):=fun z hz=>by
 obtain ⟨x,hx,rfl⟩:=List.mem_map.1 hz
 have:=h x hx; omega
theorem xs_next {xs:List Nat} {X Q:Nat} (h:∀ x ∈ xs,x≤2147483647) (hX:X < Q) (hQ:Pr (Q:Int)):∀ x ∈ xs ++ [X],x≤2147483647:=fun x hx=>by
 rcases List.mem_append.1 hx with k | k
 ·exact h x k
 ·simp at k; subst k; have:=hQ.2.1; omega
theorem zip_take {rs ps:List Int} (hl:rs.length=ps.length):(rs.zip ps).take ps.length=rs.zip ps:=List.take_of_length_le (by simp; omega)
theorem kq0:kq 0=2000003:=rfl
theorem keepMod_ret (a p:Int) (w:World) (hp:0 < p) (hp2:p≤4294967296):Calls Tryz.prog 45 #[.int .i64 a, .int .i64 p] w (RetV w (.int .i64 (a % p))) :=
 (keepMod_same a p w hp hp2).mono fun _ _ h=>⟨h.1,h.2 ▸ Fr.refl _ _⟩
theorem np_post {p k:Int} {w w':World} {e:Ending} (hk:Pr k) (hlt:p < k) (h0:0≤p) (h:NpRet p w e w') :
 PostC (fun z:{Q:Nat // Pr (Q:Int)∧p < (Q:Int)∧(Q:Int)≤k}=>.tuple #[.int .i64 ((z.1:Nat):Int), .bool true]) (fun _ _=>True) w e w':=by
 obtain ⟨q,ok,rfl,hN,rfl⟩:=h
 obtain ⟨rfl,k1,k2,k3⟩:=hN.below hk hlt
 obtain ⟨Q,rfl⟩:=Int.eq_ofNat_of_zero_le (show 0≤q by omega)
 exact ⟨⟨Q,k1,k2,k3⟩,rfl,Fr.refl _ _,BoxN.pure trivial⟩
section
variable {l:List UInt8} {q:Rat} {n:Int} {d Q:Nat} {w w':World} {e:Ending}
theorem red_no (hr:readF l=some q) (_hn:q.num=n) (hd:q.den=d) (hP:Pr (Q:Int)) (hdv:Q ∣ d) (h:RetRed w l (Q:Int) e w'):PostC (fun _:Unit=>.tuple #[.int .i64 0, .bool false]) (fun _ _=>True) w e w':=by
 obtain ⟨x,ok,rfl,hR,hE⟩:=h
 rcases red_two hR hr hP with ⟨rfl,X,rfl,h1,h2,h3⟩ | ⟨rfl,_⟩
 ·rw [hd] at h2; exact absurd hdv h2
 ·rcases hR with ⟨h,_⟩ | ⟨_,rfl,_⟩
  ·cases h
  ·exact ⟨(),rfl,hE,BoxN.pure trivial⟩
theorem red_yes (hr:readF l=some q) (hn:q.num=n) (hd:q.den=d) (hP:Pr (Q:Int)) (hdv:¬ Q ∣ d) (h:RetRed w l (Q:Int) e w'):PostC (fun z:{X:Nat // (n - (d:Int) * (X:Int)) % ((Q:Nat):Int)=0∧X < Q}=>.tuple #[.int .i64 ((z.1:Nat):Int), .bool true]) (fun _ _=>True) w e w':=by
 obtain ⟨x,ok,rfl,hR,hE⟩:=h
 rcases red_two hR hr hP with ⟨rfl,X,rfl,h1,h2,h3⟩ | ⟨rfl,h2⟩
 ·rw [hn,hd] at h1
  exact ⟨⟨X,h1,h3⟩,rfl,hE,BoxN.pure trivial⟩
 ·rw [hd] at h2; exact absurd h2 hdv
end
theorem rt_rc {v:Int} {m:Nat} {q:Rat} (h:RecIs v ((m:Nat):Int) q true):RcIs (bytes (tz v)) (bytes (tz ((m:Nat):Int))) (ratText q) true:=by
 have h1:readF (bytes (tz v))=some ((v:Int):Rat):=by unfold tz; rw [bytes_of]; exact read_itoa v
 have h2:readF (bytes (tz ((m:Nat):Int)))=some (((m:Nat):Int):Rat):=by unfold tz; rw [bytes_of]; exact read_itoa _
 refine RcIs.got h1 h2 rfl rfl ?_ h
 show ¬ ((m:Nat):Int) < 2
 obtain ⟨r,t,hr,hh⟩:=h
 rcases hh with ⟨_,h3,h4,h5,_⟩ | ⟨h3,_⟩
 ·intro hc
  have hr0:0≤t * t:=by have e:=Int.natAbs_mul_self (a:=t); omega
  have hm:m=0∨m=1:=by omega
  rcases hm with rfl | rfl
  ·omega
  ·have ht:t * t=0:=by omega
   have ht0:t=0:=by
    rcases Int.mul_eq_zero.1 ht with h | h<;>exact h
   subst ht0
   have e1:v % ((1:Nat):Int)=0:=by rw [show ((1:Nat):Int)=1 from rfl]; omega
   rw [e1] at hr
   cases hr with
   | step hs _=>exact hs (by decide)
 ·cases h3
theorem text_back {a:ByteArray} {q:Rat} (hr:readF (bytes a)=some q):(⟨(ratText q).toArray⟩:ByteArray)=a:=by
 rw [text_of_read hr]
set_option maxRecDepth 100000 in
theorem modularRoundTrip_ok (a:ByteArray) (st:Int) (q:Rat) (w:World) (hg:Glob w) (hr:readF (bytes a)=some q) (hl:(bytes a).length≤60) :
 Calls Tryz.prog 11 #[.string a, .int .i64 st] w (RetV w (.bool true)):=by
 obtain ⟨wi,rfl⟩:∃ x:World,x=w:=⟨w,rfl⟩
 have hsz:¬ ((a.size:Int) > 60):=by rw [bytes_length] at hl; omega
 obtain ⟨n,hn⟩:∃ n,q.num=n:=⟨_,rfl⟩
 obtain ⟨d,hd⟩:∃ d,q.den=d:=⟨_,rfl⟩
 have hdec:=readF_dec hr hl (by decide)
 rw [hn,hd] at hdec
 have d0:0 < d:=by rw [← hd]; exact Rat.den_pos q
 have hd60:=hdec.2
 have hgcd:Int.gcd n (d:Int)=1:=by rw [← hn,← hd]; exact q.reduced
 have hdiv:Rat.divInt n (d:Int)=q:=by rw [← hn,← hd]; exact Rat.num_divInt_den q
 have hval:valF (bytes a)=q:=valF_some hr
 have In:IsZ (tz n) n:=isZ_of (nat_up hdec.1 (by decide))
 have Id:IsZ (tz (d:Int)) (d:Int):=isZ_of (nat_up (by rw [Int.natAbs_natCast]; exact hdec.2) (by decide))
 have I2:IsZ ⟨#[50]⟩ 2:=isZ_two
 have sn:=sq_lt hdec.1
 have sd:=sq_lt hdec.2
 obtain ⟨nn,hnn⟩:∃ x,n * n=x:=⟨_,rfl⟩
 obtain ⟨dd,hdd⟩:∃ x,(d:Int) * (d:Int)=x:=⟨_,rfl⟩
 have bs:=bnd_small hdec.1 hdec.2
 have bp:=bnd_spec n d
 obtain ⟨b1,hb1⟩:∃ x,2 * nn=x:=⟨_,rfl⟩
 obtain ⟨b2,hb2⟩:∃ x,2 * dd=x:=⟨_,rfl⟩
 have hB:bnd n d=if b2≤b1 then b1 else b2:=by rw [← hb1,← hb2,← hnn,← hdd]; rfl
 have Inn:IsZ (tz nn) nn:=isZ_of (nat_up (by rw [← hnn,Int.natAbs_mul]; exact sn) (by decide))
 have Idd:IsZ (tz dd) dd:=isZ_of (nat_up (by rw [← hdd,Int.natAbs_mul,Int.natAbs_natCast]; exact sd) (by decide))
 have Ib1:IsZ (tz b1) b1:=isZ_of (by rw [← hb1,← hnn]; exact two_200 (by rw [Int.natAbs_mul]; exact sn))
 have Ib2:IsZ (tz b2) b2:=isZ_of (by rw [← hb2,← hdd]; exact two_200 (by rw [Int.natAbs_mul,Int.natAbs_natCast]; exact sd))
 obtain ⟨p0,hp0⟩:∃ p0:Int,st % 1000000=p0:=⟨_,rfl⟩
 have hp1:0≤p0:=by omega
 have hp2:p0≤999999:=by omega
 rw [hnn] at bp
 refine sx_enter (Φ:=fun w=>True) Tryz.func11 rfl (by kernel_rfl) (fun w' hf=>trivial) ?_
 refine sx_seq (sx_region (xr 1 [(0, .v (.string a)),(1, .v (.int .i64 st)),(4, .v (.bool false))] [] ?_))
 refine xe (sx_next (sx_seq (sx_seq (sx_region (xr 3 [(0, .v (.string a)),(1, .v (.int .i64 st)),(4, .v (.bool false)),(24, .v (.bool (decide (((a).size:Int) > 60))))] [] ?_)))))
 rw [decide_eq_false hsz]
 refine xr 2 [(0, .v (.string a)),(1, .v (.int .i64 st)),(4, .v (.bool false)),(25, .v (.bool false)),(26, .v (.string a))] [] ?_
 refine xc 66 [.string a] 27 (fun _:Unit=>.bool true) _ (fun w hE hΦ=>(Valid_any a _ (hg.ext hE) (by omega)).mono (fun _ _ h=>post_val h (by rw [hr]; rfl))) (fun xx=>?_)
 refine xr 2 [(0, .v (.string a)),(1, .v (.int .i64 st)),(4, .v (.bool false)),(29, .v (.bool false))] [] ?_
 refine xe (sx_next (xb (sx_skip (sx_next (sx_seq (sx_region (xr 1 [(0, .v (.string a)),(1, .v (.int .i64 st)),(4, .v (.bool false)),(32, .v (.string a))] [] ?_)))))))
 refine xc 67 [.string a] 33 (fun _:Unit=>.tuple #[.string (tz n), .string (tz (d:Int))]) _ (fun w hE hΦ=>(TParts_any a _ (hg.ext hE) (by omega)).mono (fun _ _ h=>post_val h (by rw [hval,hn,hd]; rfl))) (fun xx=>?_)
 refine xr 5 [(0, .v (.string a)),(1, .v (.int .i64 st)),(4, .v (.bool false)),(5, .v (.string (tz n))),(6, .v (.string (tz (d:Int))))] [] ?_
 refine xe (sx_next (sx_seq (sx_region (xr 2 [(0, .v (.string a)),(1, .v (.int .i64 st)),(4, .v (.bool false)),(6, .v (.string (tz (d:Int)))),(36, .v (.string (tz n))),(37, .v (.string (tz n)))] [] ?_))))
 refine xc 52 [.string (tz n), .string (tz n)] 38 (fun _:Unit=>.string (tz nn)) _ (fun w hE hΦ=>(zMul (hg.ext hE) In In (hnn)).mono (fun _ _ h=>post_val h rfl)) (fun xx=>?_)
 refine xr 0 [(0, .v (.string a)),(1, .v (.int .i64 st)),(4, .v (.bool false)),(6, .v (.string (tz (d:Int)))),(38, .v (.string (tz nn)))] [] ?_
 refine xc 52 [.string ⟨#[50]⟩, .string (tz nn)] 39 (fun _:Unit=>.string (tz b1)) _ (fun w hE hΦ=>(zMul (hg.ext hE) I2 Inn (hb1)).mono (fun _ _ h=>post_val h rfl)) (fun xx=>?_)
 refine xr 1 [(0, .v (.string a)),(1, .v (.int .i64 st)),(4, .v (.bool false)),(6, .v (.string (tz (d:Int)))),(7, .v (.string (tz b1)))] [] ?_
 refine xe (sx_next ?_)
 refine sx_cut (fun ss ff=>∃ (B:Int),ss=ofL [(0, .v (.string a)),(1, .v (.int .i64 st)),(7, .v (.string (tz B)))] []∧ff=(fun w=>True)∧(B=bnd n d)) ?_ ?_
 ·refine sx_seq (sx_region (xr 2 [(0, .v (.string a)),(1, .v (.int .i64 st)),(4, .v (.bool false)),(7, .v (.string (tz b1))),(40, .v (.string (tz (d:Int)))),(41, .v (.string (tz (d:Int))))] [] ?_))
  refine xc 52 [.string (tz (d:Int)), .string (tz (d:Int))] 42 (fun _:Unit=>.string (tz dd)) _ (fun w hE hΦ=>(zMul (hg.ext hE) Id Id (hdd)).mono (fun _ _ h=>post_val h rfl)) (fun xx=>?_)
  refine xr 0 [(0, .v (.string a)),(1, .v (.int .i64 st)),(4, .v (.bool false)),(7, .v (.string (tz b1))),(42, .v (.string (tz dd)))] [] ?_
  refine xc 52 [.string ⟨#[50]⟩, .string (tz dd)] 43 (fun _:Unit=>.string (tz b2)) _ (fun w hE hΦ=>(zMul (hg.ext hE) I2 Idd (hb2)).mono (fun _ _ h=>post_val h rfl)) (fun xx=>?_)
  refine xr 1 [(0, .v (.string a)),(1, .v (.int .i64 st)),(4, .v (.bool false)),(7, .v (.string (tz b1))),(8, .v (.string (tz b2)))] [] ?_
  refine xe (sx_next (sx_seq (sx_region (xr 2 [(0, .v (.string a)),(1, .v (.int .i64 st)),(4, .v (.bool false)),(7, .v (.string (tz b1))),(8, .v (.string (tz b2))),(44, .v (.string (tz b2))),(45, .v (.string (tz b1)))] [] ?_))))
  refine xc 68 [.string (tz b2), .string (tz b1)] 46 (fun _:Unit=>.int .i64 (b2 - b1).sign) _ (fun w hE hΦ=>(zCmp (hg.ext hE) Ib2 Ib1).mono (fun _ _ h=>post_val h rfl)) (fun xx=>?_)
  refine xr 1 [(0, .v (.string a)),(1, .v (.int .i64 st)),(4, .v (.bool false)),(7, .v (.string (tz b1))),(8, .v (.string (tz b2))),(47, .v (.bool (decide ((b2 - b1).sign > 0))))] [] ?_
  refine xe (sx_next ?_)
  refine sx_cond ((decide ((b2 - b1).sign > 0))) (by kernel_rfl) (fun hb10=>?_) (fun hb10=>?_)
  ·have hbb:=sgn_gt_t hb10
   refine sx_region (xr 2 [(0, .v (.string a)),(1, .v (.int .i64 st)),(4, .v (.bool false)),(7, .v (.string (tz b2)))] [] ?_)
   refine xe ?_
   refine SXq.weak [(0, .v (.string a)),(1, .v (.int .i64 st)),(7, .v (.string (tz b2)))] [] (Ψ:=fun w=>True) (SameL.of (by kernel_rfl)) (by kernel_rfl) (fun w hΦ=>trivial) ?_
   exact sx_meet ⟨b2,rfl,rfl,(by rw [hB,if_neg (by omega)])⟩
  ·have hbb:=sgn_gt_f hb10
   refine sx_skip ?_
   refine SXq.weak [(0, .v (.string a)),(1, .v (.int .i64 st)),(7, .v (.string (tz b1)))] [] (Ψ:=fun w=>True) (SameL.of (by kernel_rfl)) (by kernel_rfl) (fun w hΦ=>trivial) ?_
   exact sx_meet ⟨b1,rfl,rfl,(by rw [hB,if_pos (by omega)])⟩
 ·rintro ss ff ⟨B,rfl,rfl,hBd⟩
  refine sx_seq ?_
  rw [← hBd] at bs bp
  have IB:=isZ_of (bnd_200 bs)
  refine sx_region (xr 2 [(0, .v (.string a)),(1, .v (.int .i64 st)),(7, .v (.string (tz B))),eS1 9 none 0 0,eS1 10 none 0 0] [] ?_)
  refine xe (sx_next (sx_seq (sx_region (xr 1 [(0, .v (.string a)),(7, .v (.string (tz B))),eS1 9 none 0 0,eS1 10 none 0 0,(49, .v (.int .i64 st))] [] ?_))))
  refine xc 45 [.int .i64 st, .int .i64 1000000] 50 (fun _:Unit=>.int .i64 p0) _ (fun w hE hΦ=>(keepMod_ret st 1000000 _ (by omega) (by omega)).mono (fun _ _ h=>post_val h (by rw [hp0]))) (fun xx=>?_)
  refine xr 1 [(0, .v (.string a)),(7, .v (.string (tz B))),eS1 9 none 0 0,eS1 10 none 0 0,(51, .v (.int .i64 (IntKind.i64.wrap (1000000 + p0))))] [] ?_
  rw [wrap_sm (by omega) (by omega)]
  refine xr 1 [(0, .v (.string a)),(7, .v (.string (tz B))),eS1 9 none 0 0,eS1 10 none 0 0,(11, .v (.int .i64 (1000000 + p0)))] [] ?_
  refine xe (sx_next (sx_seq (sx_seq (sx_region (xr 1 [(0, .v (.string a)),(7, .v (.string (tz B))),eS1 9 none 0 0,eS1 10 none 0 0,(11, .v (.int .i64 (1000000 + p0))),(12, .v (.string ⟨#[49]⟩))] [] ?_)))))
  refine xe (sx_next (sx_block ?_))
  refine SXc.weak [(0, .v (.string a)),(7, .v (.string (tz B))),(9, .v (.slice none 0 0)),(10, .v (.slice none 0 0)),(11, .v (.int .i64 (1000000 + p0))),(12, .v (.string (tz ((prodN []:Nat):Int))))] [] (Ψ:=fun w=>IB2 wi w none 0 [] none 0 []) (SameL.of (by kernel_rfl)) (by kernel_rfl) (fun w hΦ=>IB2.nil _ _) ?_
  refine sx_loop (fun nn ss ff=>∃ (A1 A2:Option Addr) (c1 c2 k i:Nat) (xs ys:List Nat) (p:Int),ss=ofL [(0, .v (.string a)),(7, .v (.string (tz B))),(9, .v (.slice A1 k c1)),(10, .v (.slice A2 k c2)),(11, .v (.int .i64 p)),(12, .v (.string (tz ((prodN ys:Nat):Int))))] []∧ff=(fun w=>IB2 wi w A1 c1 xs A2 c2 ys)∧(RtS n d i p xs ys)∧(p < kq i)∧(ys.length=k)∧(k≤21)∧(prodN ys < 10 ^ 130)∧(∀ x ∈ xs,x≤2147483647)∧nn=(3000000 - p).toNat) ((3000000 - (1000000 + p0)).toNat) ⟨none,none,0,0,0,0,[],[],(1000000 + p0),rfl,rfl,(RtS.start (by omega)),(by have:=kq0; omega),rfl,(by decide),prod_start,(by simp),rfl⟩ ?_
  rintro nn ss ff ⟨A1,A2,c1,c2,k,i,xs,ys,p,rfl,rfl,hS,hK,hk,hk2,hM,hX,rfl⟩
  refine sx_seq (sx_seq ?_)
  have IM:=isZ_of (prod_200 hM)
  have hp0:0≤p:=by have:=hS.lo; omega
  refine sx_region (xr 2 [(0, .v (.string a)),(7, .v (.string (tz B))),eS1 9 A1 k c1,eS1 10 A2 k c2,(11, .v (.int .i64 p)),(12, .v (.string (tz ((prodN ys:Nat):Int)))),(52, .v (.string (tz ((prodN ys:Nat):Int)))),(53, .v (.string (tz B)))] [] ?_)
  refine xc 68 [.string (tz ((prodN ys:Nat):Int)), .string (tz B)] 54 (fun _:Unit=>.int .i64 (((prodN ys:Nat):Int) - B).sign) _ (fun w hE hΦ=>(zCmp (hg.ext hE) IM IB).mono (fun _ _ h=>post_val h rfl)) (fun xx=>?_)
  refine xr 1 [(0, .v (.string a)),(7, .v (.string (tz B))),eS1 9 A1 k c1,eS1 10 A2 k c2,(11, .v (.int .i64 p)),(12, .v (.string (tz ((prodN ys:Nat):Int)))),(55, .v (.bool (decide ((((prodN ys:Nat):Int) - B).sign≤0))))] [] ?_
  refine xe (sx_next ?_)
  refine sx_cond ((decide ((((prodN ys:Nat):Int) - B).sign≤0))) (by kernel_rfl) (fun hb11=>?_) (fun hb11=>?_)
  ·have hle:=sgn_le_t hb11
   have hc:=hS.count (by omega) d0 hd60
   refine sx_skip (sx_next (sx_block (sx_seq (sx_region (xr 1 [(0, .v (.string a)),(7, .v (.string (tz B))),eS1 9 A1 k c1,eS1 10 A2 k c2,(11, .v (.int .i64 p)),(12, .v (.string (tz ((prodN ys:Nat):Int)))),(57, .v (.int .i64 p))] [] ?_)))))
   have hQb0:=kq_bound (i:=i) (by omega)
   refine xc 69 [.int .i64 p] 58 (fun z:{Q:Nat // Pr (Q:Int)∧p < (Q:Int)∧(Q:Int)≤kq i}=>.tuple #[.int .i64 ((z.1:Nat):Int), .bool true]) _ (fun w hE hΦ=>(nextPrime_any p _ (by omega)).mono (fun _ _ h=>np_post (kq_pr (by omega)) hK hp0 h)) (fun xx=>?_)
   obtain ⟨Q,hQ1,hQ2,hQ3⟩:=xx
   refine xr 5 [(0, .v (.string a)),(7, .v (.string (tz B))),eS1 9 A1 k c1,eS1 10 A2 k c2,(11, .v (.int .i64 p)),(12, .v (.string (tz ((prodN ys:Nat):Int)))),(13, .v (.int .i64 ((Q:Nat):Int))),(14, .v (.bool true))] [] ?_
   refine xe (sx_next (sx_seq (sx_seq (sx_region (xr 6 [(0, .v (.string a)),(7, .v (.string (tz B))),eS1 9 A1 k c1,eS1 10 A2 k c2,(11, .v (.int .i64 p)),(12, .v (.string (tz ((prodN ys:Nat):Int)))),(13, .v (.int .i64 ((Q:Nat):Int))),(63, .v (.bool false)),(66, .v (.bool (decide (((Q:Nat):Int)≤p))))] [] ?_)))))
   rw [decide_eq_false (by omega)]
   refine xr 5 [(0, .v (.string a)),(7, .v (.string (tz B))),eS1 9 A1 k c1,eS1 10 A2 k c2,(11, .v (.int .i64 p)),(12, .v (.string (tz ((prodN ys:Nat):Int)))),(13, .v (.int .i64 ((Q:Nat):Int))),(68, .v (.bool false)),(71, .v (.bool (decide (((k:Nat):Int) > 60))))] [] ?_
   rw [decide_eq_false (by omega)]
   refine xr 1 [(0, .v (.string a)),(7, .v (.string (tz B))),eS1 9 A1 k c1,eS1 10 A2 k c2,(11, .v (.int .i64 p)),(12, .v (.string (tz ((prodN ys:Nat):Int)))),(13, .v (.int .i64 ((Q:Nat):Int))),(72, .v (.bool false))] [] ?_
   refine xe (sx_next (xb (sx_skip (sx_next (sx_seq (sx_region (xr 2 [(0, .v (.string a)),(7, .v (.string (tz B))),eS1 9 A1 k c1,eS1 10 A2 k c2,(11, .v (.int .i64 ((Q:Nat):Int))),(12, .v (.string (tz ((prodN ys:Nat):Int)))),(13, .v (.int .i64 ((Q:Nat):Int)))] [] ?_)))))))
   refine xe (sx_next (sx_seq (sx_region (xr 2 [(0, .v (.string a)),(7, .v (.string (tz B))),eS1 9 A1 k c1,eS1 10 A2 k c2,(11, .v (.int .i64 ((Q:Nat):Int))),(12, .v (.string (tz ((prodN ys:Nat):Int)))),(13, .v (.int .i64 ((Q:Nat):Int))),(75, .v (.string a)),(76, .v (.int .i64 ((Q:Nat):Int)))] [] ?_))))
   have hQb:=kq_bound (i:=i) (by omega)
   have hkn:=kq_next (i:=i) (by omega)
   by_cases hdv:Q ∣ d
   ·refine xc 70 [.string a, .int .i64 ((Q:Nat):Int)] 77 (fun _:Unit=>.tuple #[.int .i64 0, .bool false]) _ (fun w hE hΦ=>(Reduce_any a ((Q:Nat):Int) _ (hg.ext hE) (ReadOk.of_len (by omega))).mono (fun _ _ h=>red_no hr hn hd hQ1 hdv h)) (fun xx=>?_)
    refine xr 5 [(0, .v (.string a)),(7, .v (.string (tz B))),eS1 9 A1 k c1,eS1 10 A2 k c2,(11, .v (.int .i64 ((Q:Nat):Int))),(12, .v (.string (tz ((prodN ys:Nat):Int)))),(13, .v (.int .i64 ((Q:Nat):Int))),(15, .v (.int .i64 0)),(16, .v (.bool false))] [] ?_
    refine xe (sx_next (sx_seq (sx_region (xr 1 [(0, .v (.string a)),(7, .v (.string (tz B))),eS1 9 A1 k c1,eS1 10 A2 k c2,(11, .v (.int .i64 ((Q:Nat):Int))),(12, .v (.string (tz ((prodN ys:Nat):Int)))),(13, .v (.int .i64 ((Q:Nat):Int))),(15, .v (.int .i64 0)),(80, .v (.bool false))] [] ?_))))
    refine xe (sx_next (xb (sx_skip (sx_out ?_))))
    refine SXq.weak [(0, .v (.string a)),(7, .v (.string (tz B))),(9, .v (.slice A1 k c1)),(10, .v (.slice A2 k c2)),(11, .v (.int .i64 ((Q:Nat):Int))),(12, .v (.string (tz ((prodN ys:Nat):Int))))] [] (Ψ:=fun w=>IB2 wi w A1 c1 xs A2 c2 ys) (SameL.of (by kernel_rfl)) (by kernel_rfl) (fun w hΦ=>hΦ.1.1.1) ?_
    exact sx_round ((3000000 - ((Q:Nat):Int)).toNat) (by omega) ⟨A1,A2,c1,c2,k,(i + 1),xs,ys,((Q:Nat):Int),rfl,rfl,(hS.skip hQ1 hQ2 hdv),(by omega),hk,hk2,hM,hX,rfl⟩
   ·refine xc 70 [.string a, .int .i64 ((Q:Nat):Int)] 77 (fun z:{X:Nat // (n - (d:Int) * (X:Int)) % ((Q:Nat):Int)=0∧X < Q}=>.tuple #[.int .i64 ((z.1:Nat):Int), .bool true]) _ (fun w hE hΦ=>(Reduce_any a ((Q:Nat):Int) _ (hg.ext hE) (ReadOk.of_len (by omega))).mono (fun _ _ h=>red_yes hr hn hd hQ1 hdv h)) (fun xx=>?_)
    obtain ⟨X,hX1,hX2⟩:=xx
    refine xr 5 [(0, .v (.string a)),(7, .v (.string (tz B))),eS1 9 A1 k c1,eS1 10 A2 k c2,(11, .v (.int .i64 ((Q:Nat):Int))),(12, .v (.string (tz ((prodN ys:Nat):Int)))),(13, .v (.int .i64 ((Q:Nat):Int))),(15, .v (.int .i64 ((X:Nat):Int))),(16, .v (.bool true))] [] ?_
    refine xe (sx_next (sx_seq (sx_region (xr 1 [(0, .v (.string a)),(7, .v (.string (tz B))),eS1 9 A1 k c1,eS1 10 A2 k c2,(11, .v (.int .i64 ((Q:Nat):Int))),(12, .v (.string (tz ((prodN ys:Nat):Int)))),(13, .v (.int .i64 ((Q:Nat):Int))),(15, .v (.int .i64 ((X:Nat):Int))),(80, .v (.bool true))] [] ?_))))
    refine xe (sx_next (xa (sx_seq (sx_region (xr 2 [(0, .v (.string a)),(7, .v (.string (tz B))),eS1 9 A1 k c1,eS1 10 A2 k c2,(11, .v (.int .i64 ((Q:Nat):Int))),(12, .v (.string (tz ((prodN ys:Nat):Int)))),(13, .v (.int .i64 ((Q:Nat):Int))),eS1 81 A1 k c1,(82, .v (.int .i64 ((X:Nat):Int)))] [] ?_)))))
    refine sx_does (d:=83) (fun zb:Nat=>.slice (some ⟨zb,0,none⟩) 1 1) (fun zb zw=>Blk 3 zw zb #[.int .i64 ((X:Nat):Int)]) (by kernel_rfl) (by kernel_rfl) (by kernel_rfl) (by kernel_rfl) (by kernel_rfl) (by kernel_rfl) (fun w hE hΦ=>does_bslice (t:=57) (e:=3) (n:=1) (sz:=1) (z:=.int .i64 0) (parts:=#[(0,Operand.tmp 82)]) (by kernel_rfl) (by kernel_rfl) (by kernel_rfl) (by kernel_rfl) (by kernel_rfl) (by kernel_rfl)) (fun b12=>?_)
    refine xr 0 [(0, .v (.string a)),(7, .v (.string (tz B))),eS1 9 A1 k c1,eS1 10 A2 k c2,(11, .v (.int .i64 ((Q:Nat):Int))),(12, .v (.string (tz ((prodN ys:Nat):Int)))),(13, .v (.int .i64 ((Q:Nat):Int))),eS1 81 A1 k c1,eS1 83 (some ⟨b12,0,none⟩) 1 1] [] ?_
    refine sx_own0 (d:=84) (fun z:Option Addr × Nat=>.slice z.1 (k + 1) z.2) (fun z w=>IB2 wi w z.1 z.2 (xs ++ [X]) A2 c2 ys) (by kernel_rfl) (by kernel_rfl) (by kernel_rfl) (by kernel_rfl) (by kernel_rfl) (by kernel_rfl) (fun _=>rfl) (fun w hE hΦ=>(fun ⟨z,w',h1,h2,h3⟩=>⟨z,w',h1,h2,fun w'' hw=>(h3 w'' hw)⟩) (app_run (x:=.tmp 81) (y:=.tmp 83) (t:=57) (n:=k) (b:=b12) (q:=X) (by kernel_rfl) (by kernel_rfl) (by kernel_rfl) (by kernel_rfl) (by kernel_rfl) (by rw [hS.len]; exact hk) (by omega) hE (hΦ.1.1.1.1) (shows_one hΦ.2))) (fun z84=>?_)
    obtain ⟨A84,c84⟩:=z84
    refine xr 2 [(0, .v (.string a)),(7, .v (.string (tz B))),eS1 9 A1 k c1,eS1 10 A2 k c2,(11, .v (.int .i64 ((Q:Nat):Int))),(12, .v (.string (tz ((prodN ys:Nat):Int)))),(13, .v (.int .i64 ((Q:Nat):Int))),eS1 84 A84 (k + 1) c84,eS1 85 A2 k c2,(86, .v (.int .i64 ((Q:Nat):Int)))] [] ?_
    refine sx_does (d:=87) (fun zb:Nat=>.slice (some ⟨zb,0,none⟩) 1 1) (fun zb zw=>Blk 3 zw zb #[.int .i64 ((Q:Nat):Int)]) (by kernel_rfl) (by kernel_rfl) (by kernel_rfl) (by kernel_rfl) (by kernel_rfl) (by kernel_rfl) (fun w hE hΦ=>does_bslice (t:=57) (e:=3) (n:=1) (sz:=1) (z:=.int .i64 0) (parts:=#[(0,Operand.tmp 86)]) (by kernel_rfl) (by kernel_rfl) (by kernel_rfl) (by kernel_rfl) (by kernel_rfl) (by kernel_rfl)) (fun b13=>?_)
    refine xr 0 [(0, .v (.string a)),(7, .v (.string (tz B))),eS1 9 A1 k c1,eS1 10 A2 k c2,(11, .v (.int .i64 ((Q:Nat):Int))),(12, .v (.string (tz ((prodN ys:Nat):Int)))),(13, .v (.int .i64 ((Q:Nat):Int))),eS1 84 A84 (k + 1) c84,eS1 85 A2 k c2,eS1 87 (some ⟨b13,0,none⟩) 1 1] [] ?_
    refine sx_own0 (d:=88) (fun z:Option Addr × Nat=>.slice z.1 (k + 1) z.2) (fun z w=>IB2 wi w A84 c84 (xs ++ [X]) z.1 z.2 (ys ++ [Q])) (by kernel_rfl) (by kernel_rfl) (by kernel_rfl) (by kernel_rfl) (by kernel_rfl) (by kernel_rfl) (fun _=>rfl) (fun w hE hΦ=>(fun ⟨z,w',h1,h2,h3⟩=>⟨z,w',h1,h2,fun w'' hw=>(h3 w'' hw).swap⟩) (app_run (x:=.tmp 85) (y:=.tmp 87) (t:=57) (n:=k) (b:=b13) (q:=Q) (by kernel_rfl) (by kernel_rfl) (by kernel_rfl) (by kernel_rfl) (by kernel_rfl) hk (by omega) hE (hΦ.1).swap (shows_one hΦ.2))) (fun z88=>?_)
    obtain ⟨A88,c88⟩:=z88
    refine xr 2 [(0, .v (.string a)),(7, .v (.string (tz B))),eS1 9 A84 (k + 1) c84,eS1 10 A88 (k + 1) c88,(11, .v (.int .i64 ((Q:Nat):Int))),(12, .v (.string (tz ((prodN ys:Nat):Int)))),(13, .v (.int .i64 ((Q:Nat):Int)))] [] ?_
    refine xe (sx_next ?_)
    have IQ:IsZ (tz ((Q:Nat):Int)) ((Q:Nat):Int):=isZ_of (q_200 (by omega))
    refine sx_region (xr 2 [(0, .v (.string a)),(7, .v (.string (tz B))),eS1 9 A84 (k + 1) c84,eS1 10 A88 (k + 1) c88,(11, .v (.int .i64 ((Q:Nat):Int))),(12, .v (.string (tz ((prodN ys:Nat):Int)))),(89, .v (.string (tz ((prodN ys:Nat):Int)))),(90, .v (.int .i64 ((Q:Nat):Int)))] [] ?_)
    refine xc 71 [.int .i64 ((Q:Nat):Int)] 91 (fun _:Unit=>.string (tz ((Q:Nat):Int))) _ (fun w hE hΦ=>(FromInt_any ((Q:Nat):Int) _ (hg.ext hE) (by omega) (by omega)).mono (fun _ _ h=>post_val h (rfl))) (fun xx=>?_)
    refine xr 0 [(0, .v (.string a)),(7, .v (.string (tz B))),eS1 9 A84 (k + 1) c84,eS1 10 A88 (k + 1) c88,(11, .v (.int .i64 ((Q:Nat):Int))),(12, .v (.string (tz ((prodN ys:Nat):Int)))),(89, .v (.string (tz ((prodN ys:Nat):Int)))),(91, .v (.string (tz ((Q:Nat):Int))))] [] ?_
    refine xc 52 [.string (tz ((prodN ys:Nat):Int)), .string (tz ((Q:Nat):Int))] 92 (fun _:Unit=>.string (tz ((prodN (ys ++ [Q]):Nat):Int))) _ (fun w hE hΦ=>(zMul (hg.ext hE) IM IQ (prod_q ys Q)).mono (fun _ _ h=>post_val h rfl)) (fun xx=>?_)
    refine xr 1 [(0, .v (.string a)),(7, .v (.string (tz B))),eS1 9 A84 (k + 1) c84,eS1 10 A88 (k + 1) c88,(11, .v (.int .i64 ((Q:Nat):Int))),(12, .v (.string (tz ((prodN (ys ++ [Q]):Nat):Int))))] [] ?_
    refine xe (sx_out ?_)
    refine SXq.weak [(0, .v (.string a)),(7, .v (.string (tz B))),(9, .v (.slice A84 (k + 1) c84)),(10, .v (.slice A88 (k + 1) c88)),(11, .v (.int .i64 ((Q:Nat):Int))),(12, .v (.string (tz ((prodN (ys ++ [Q]):Nat):Int))))] [] (Ψ:=fun w=>IB2 wi w A84 c84 (xs ++ [X]) A88 c88 (ys ++ [Q])) (SameL.of (by kernel_rfl)) (by kernel_rfl) (fun w hΦ=>hΦ.1.1) ?_
    exact sx_round ((3000000 - ((Q:Nat):Int)).toNat) (by omega) ⟨A84,A88,c84,c88,(k + 1),(i + 1),(xs ++ [X]),(ys ++ [Q]),((Q:Nat):Int),rfl,rfl,(hS.take hQ1 hQ2 hX1 hdv),(by omega),(by rw [List.length_append,hk]; rfl),(by omega),(prod_next hle bs.2 (by omega)),(xs_next hX hX2 hQ1),rfl⟩
  ·have hle:=sgn_le_f hb11
   refine sx_exit (sx_then_exit (sx_then_exit (sx_hit (sx_next (sx_seq ?_)))))
   have hF:=hS.fnd.all
   have hXi:=xs_i64 hX
   have hll:(ints xs).length=(ints ys).length:=by rw [ints_length,ints_length]; exact hS.len
   have hAP:AllPr (ints ys) (ints ys).length:=fun i hi=>hF.1 _ (getD_mem hi)
   have hres:=crt_residue hll (ints ys).length (Nat.le_refl _) hAP (by rw [List.take_length]; exact hF.2.1)
   have hbd:=crt_bounds hll (ints ys).length (Nat.le_refl _) hAP
   have hpr:=crt_prod (rs:=ints xs) (ys:=ys) (by rw [ints_length]; exact hS.len)
   rw [zip_take hll] at hres hbd
   have hcomb:∀ s t c,CombIs (ints xs) (ints ys) s t c→s=Lib.itoa (crt ((ints xs).zip (ints ys))).1∧t=Lib.itoa (crt ((ints xs).zip (ints ys))).2∧c=0:=fun s t c h=>h.unique (Or.inr (Or.inr (Or.inr (Or.inr ⟨hll,by rw [ints_length]; omega,hF.1,hF.2.1,rfl,rfl,rfl⟩))))
   rw [hpr] at hbd hcomb
   generalize (crt ((ints xs).zip (ints ys))).1=v at *
   rw [ints_length] at hres
   have hdone:=hS.done d0 hgcd (by omega) (by omega) hres
   rw [hdiv] at hdone
   have hm2:=prod_199 hM
   have hv2:v.natAbs < 10 ^ 199:=v_200 hbd.1 hbd.2.1 hM
   have hrc:RcIs (bytes (tz v)) (bytes (tz ((prodN ys:Nat):Int))) (ratText q) true:=rt_rc hdone
   have back_a:(⟨(ratText q).toArray⟩:ByteArray)=a:=text_back hr
   refine sx_region (xr 2 [(0, .v (.string a)),eS1 94 A1 k c1,eS1 95 A2 k c2] [] ?_)
   refine xc 72 [.slice A1 k c1, .slice A2 k c2] 96 (fun _:Unit=>.tuple #[.string (tz v), .string (tz ((prodN ys:Nat):Int)), .int .i64 0]) _ (fun w hE hΦ=>(Combine_any _ _ (ints xs) (ints ys) k k _ _ _ (hg.ext hE) (by rw [ints_length,hS.len]; exact hk) (by rw [ints_length]; exact hk) (Shows.ints (hΦ.1).b1.shows) (Shows.ints (hΦ.1).b2.shows) hXi hF.2.2 (by rw [← hk]; exact (hΦ.1).b2.len) (by omega) (by omega)).mono (fun _ _ h=>post_val (comb_post hcomb h) rfl)) (fun xx=>?_)
   refine xr 7 [(0, .v (.string a)),(17, .v (.string (tz v))),(18, .v (.string (tz ((prodN ys:Nat):Int)))),(19, .v (.int .i64 0))] [] ?_
   refine xe (sx_next (sx_seq (sx_region (xr 2 [(0, .v (.string a)),(19, .v (.int .i64 0)),(101, .v (.string (tz v))),(102, .v (.string (tz ((prodN ys:Nat):Int))))] [] ?_))))
   refine xc 73 [.string (tz v), .string (tz ((prodN ys:Nat):Int))] 103 (fun _:Unit=>.tuple #[.string a, .bool true]) _ (fun w hE hΦ=>(MReconstruct_any (tz v) (tz ((prodN ys:Nat):Int)) _ (hg.ext hE) (tz_size hv2) (tz_size hm2)).mono (fun _ _ h=>post_val (rc_post hrc h) (by rw [back_a]))) (fun xx=>?_)
   refine xr 5 [(0, .v (.string a)),(19, .v (.int .i64 0)),(20, .v (.string a)),(21, .v (.bool true))] [] ?_
   refine xe (sx_next (sx_seq (sx_region (xr 9 [(111, .v (.bool true)),(114, .v (.bool ((a:ByteArray).toList == (a:ByteArray).toList)))] [] ?_))))
   rw [str_self]
   refine xr 2 [(116, .v (.bool true))] [] ?_
   refine xc 42 [] 117 (fun _:Unit=>.bool true) _ (fun w hE hΦ=>(awake2_any _ (hg.ext hE)).mono (fun _ _ h=>post_val h (rfl))) (fun xx=>?_)
   refine xr 2 [(4, .v (.bool true))] [] ?_
   refine xe (sx_next (sx_ret ?_))
   refine sx_done (v:=.bool true) (by kernel_rfl) (fun w' hE hΦ=>?_)
   exact ⟨rfl,hE⟩
set_option maxRecDepth 100000 in
theorem modularRoundTrip_long (a:ByteArray) (st:Int) (w:World) (hg:Glob w) (hsz:(a.size:Int) > 60) :
 Calls Tryz.prog 11 #[.string a, .int .i64 st] w (RetV w (.bool true)):=by
 refine sx_enter (Φ:=fun w=>True) Tryz.func11 rfl (by kernel_rfl) (fun w' hf=>trivial) ?_
 refine sx_seq (sx_region (xr 1 [(0, .v (.string a)),(1, .v (.int .i64 st)),(4, .v (.bool false))] [] ?_))
 refine xe (sx_next (sx_seq (sx_seq (sx_region (xr 3 [(0, .v (.string a)),(1, .v (.int .i64 st)),(4, .v (.bool false)),(24, .v (.bool (decide (((a).size:Int) > 60))))] [] ?_)))))
 rw [decide_eq_true hsz]
 refine xr 5 [(0, .v (.string a)),(1, .v (.int .i64 st)),(4, .v (.bool false)),(29, .v (.bool true))] [] ?_
 refine xe (sx_next (xa (sx_seq (sx_region ?_))))
 refine xc 42 [] 30 (fun _:Unit=>.bool true) _ (fun w hE hΦ=>(awake2_any _ (hg.ext hE)).mono (fun _ _ h=>post_val h (rfl))) (fun xx=>?_)
 refine xr 1 [(0, .v (.string a)),(1, .v (.int .i64 st)),(4, .v (.bool true))] [] ?_
 refine xe (sx_next (sx_ret (sx_then_ret ?_)))
 refine sx_done (v:=.bool true) (by kernel_rfl) (fun w' hE hΦ=>?_)
 exact ⟨rfl,hE⟩
set_option maxRecDepth 100000 in
theorem modularRoundTrip_not (a:ByteArray) (st:Int) (w:World) (hg:Glob w) (hl:(bytes a).length≤60) (hr:readF (bytes a)=none) :
 Calls Tryz.prog 11 #[.string a, .int .i64 st] w (RetV w (.bool true)):=by
 have hsz:¬ ((a.size:Int) > 60):=by rw [bytes_length] at hl; omega
 refine sx_enter (Φ:=fun w=>True) Tryz.func11 rfl (by kernel_rfl) (fun w' hf=>trivial) ?_
 refine sx_seq (sx_region (xr 1 [(0, .v (.string a)),(1, .v (.int .i64 st)),(4, .v (.bool false))] [] ?_))
 refine xe (sx_next (sx_seq (sx_seq (sx_region (xr 3 [(0, .v (.string a)),(1, .v (.int .i64 st)),(4, .v (.bool false)),(24, .v (.bool (decide (((a).size:Int) > 60))))] [] ?_)))))
 rw [decide_eq_false hsz]
 refine xr 2 [(0, .v (.string a)),(1, .v (.int .i64 st)),(4, .v (.bool false)),(25, .v (.bool false)),(26, .v (.string a))] [] ?_
 refine xc 66 [.string a] 27 (fun _:Unit=>.bool false) _ (fun w hE hΦ=>(Valid_any a _ (hg.ext hE) (by omega)).mono (fun _ _ h=>post_val h (by rw [hr]; rfl))) (fun xx=>?_)
 refine xr 2 [(0, .v (.string a)),(1, .v (.int .i64 st)),(4, .v (.bool false)),(29, .v (.bool true))] [] ?_
 refine xe (sx_next (xa (sx_seq (sx_region ?_))))
 refine xc 42 [] 30 (fun _:Unit=>.bool true) _ (fun w hE hΦ=>(awake2_any _ (hg.ext hE)).mono (fun _ _ h=>post_val h (rfl))) (fun xx=>?_)
 refine xr 1 [(0, .v (.string a)),(1, .v (.int .i64 st)),(4, .v (.bool true))] [] ?_
 refine xe (sx_next (sx_ret (sx_then_ret ?_)))
 refine sx_done (v:=.bool true) (by kernel_rfl) (fun w' hE hΦ=>?_)
 exact ⟨rfl,hE⟩
theorem modularRoundTrip_any (a:ByteArray) (st:Int) (w:World) (hg:Glob w):Calls Tryz.prog 11 #[.string a, .int .i64 st] w (RetV w (.bool true)):=by
 by_cases hl:(bytes a).length≤60
 ·cases hr:readF (bytes a) with
  | none=>exact modularRoundTrip_not a st w hg hl hr
  | some q=>exact modularRoundTrip_ok a st q w hg hr hl
 ·exact modularRoundTrip_long a st w hg (by rw [bytes_length] at hl; omega)
end Go.Proofs.YtbgkofgoeoiciaaGreatDoor
