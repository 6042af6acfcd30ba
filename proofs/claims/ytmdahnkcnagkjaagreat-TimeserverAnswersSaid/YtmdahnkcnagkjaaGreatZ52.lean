/- Lemmas of this claim, several texts joined. -/
import Derived.Test.YtmdahnkcnagkjaaGreatZ50
import Derived.Test.YtmdahnkcnagkjaaGreatZ51
set_option maxRecDepth 100000
open Go.Value renaming int -> Zz,slice -> Zy
open Go.IntKind renaming i64 -> Zx,u64 -> Zw
set_option maxHeartbeats 8000000
set_option linter.unusedVariables false
set_option linter.unusedSimpArgs false
/- TimeserverAnswers: the walk. -/
namespace Go.Proofs.P9
open Go.RowKit Go.Sec Go.Oct Go.Jar Go.Case Go.Cook Go.Pkt Go.Tsrv BigFrame
theorem vJ {z:Int} (h:(Lit.int .u64 z).wf=true):∃ t:UInt64,z=n64 t:=by
 have hb:0<=z/\z<=18446744073709551615:=by simpa [Lit.wf,IntKind.min,IntKind.max,IntKind.signed,IntKind.bits] using h
 obtain ⟨k,rfl⟩:∃ k:Nat,z=(k:Int):=⟨z.toNat,Zo⟩;refine ⟨UInt64.ofNat k,?_⟩;have hk:k<18446744073709551616:=Zo;show (k:Int)=((UInt64.ofNat k).toNat:Int);rw [UInt64.toNat_ofNat_of_lt' hk]
theorem rS (a:E8)(n c:Nat) (rc tm now:Int) (l:List Int) (w:World)(hl:l.length=n) (hRd:Rd w a (l.map nK)) (hnc:n<=c) (hn:n<=9223372036854775807) (hrc:(Lit.int .u64 rc).wf=true) (htm:(Lit.int .u64 tm).wf=true) :
  Calls Tryz.prog 3 #[Zy a n c, Zz Zw rc, Zz Zw tm, Zz Zx now] w λ e w'=>e = .returned (.bool true)/\Ext w w':=by
 obtain ⟨r,rfl⟩:=vJ hrc;obtain ⟨tt,rfl⟩:=vJ htm;clear hrc htm;have hw3:=λ W=>eL now 40 W Zo Zo;have hw4:=λ W=>eL now 7 W Zo Zo;obtain ⟨v7,hv7⟩:∃ v:Nat,now % 7=(v:Int):=⟨(now % 7).toNat,Zo⟩;rw [hv7] at hw4;have hv8:v7<7:=Zo;clear hv7;have hmd:=λ W H=>zc a n c l W H hl hn;have hns:=λ W=>mz v7 16 9 rfl (show (16:Int)=((16:Nat):Int) from rfl) (show (9:Int)=((9:Nat):Int) from rfl) W Zo Zo Zo;have hNl:=jH (v7:Int) 16 9;generalize kQ (v7:Int) 16 9=N at *;generalize now % 40=t at *
 go_enter Tryz.func3,Tryz.ntmps3
 go_wp2_with fail;(with_reducible refine (hmd _ hRd).mono ?_);rintro e w1 ⟨ar,nr,cr,s,paid,ab,cb,q,rfl,hI,hcr,hSq,hcq,hlq,hck,hpd,hE⟩;have hnr:=hI.len;have hR24:nr<=1000000:=by
  have hv:aM s.ring=true:=by
   unfold cy at hck;split at hck
   ·exact absurd hck Zd
   ·rename_i h;simpa using h
  have:=(bm.1 hv).2.2.2;omega
 have ha1:∀ (an:E8)(cn:Nat) (W:World),Ib W ar nr s.ring->Bsc W an 9 N->9<=cn->Sl W ab q.length q->Calls Tryz.prog 12 #[.agg #[Zy ar nr cr, Zz Zx s.str, Zz Zx s.ev, Zz Zx s.bu, .bool s.opn], .agg #[Zz Zx paid], Zy ab q.length cb, Zz Zw (n64 r), Zz Zw (n64 tt), Zz Zx t, Zy an 9 cn] W (ld (ml s paid t q r tt N) W):=λ an cn W H1 H2 H3 H4=>by
  have:=mV ar an ab nr cr cn q.length cb s paid t r tt N q W H1 hcr hR24 (by rw [hNl];exact H2) Zo Zo H4 hcq Zo;rw [hNl] at this;exact this
 have ha2:∀ (an:E8)(cn:Nat) (W:World),Ib W ar nr s.ring->Bsc W an 9 N->9<=cn->Sl W ab q.length q->Calls Tryz.prog 13 #[.agg #[Zy ar nr cr, Zz Zx s.str, Zz Zx s.ev, Zz Zx s.bu, .bool s.opn], .agg #[Zz Zx paid], Zy ab q.length cb, Zz Zw (n64 r), Zz Zw (n64 tt), Zz Zx t, Zy an 9 cn] W (ld (ml s paid t q r tt N) W):=λ an cn W H1 H2 H3 H4=>by
  have:=rF ar an ab nr cr cn q.length cb s paid t r tt N q W H1 hcr hR24 (by rw [hNl];exact H2) Zo Zo H4 hcq Zo;rw [hNl] at this;exact this
 have hk1:=λ W H=>mN ab q.length cb q W H hcq Zo;have hk2:=λ W H=>o7 ab q.length cb q W H hcq Zo;generalize ew q=kd at *;generalize ml s paid t q r tt N=X at *;clear hck hpd hNl hmd;have hA7:=(Blk.new w1 #[Zy none 0 0, Zz Zx 0, Zz Zx 0, Zz Zx 0, .bool false] 30).alloc (.cells #[Zz Zx 0] 32);have hA8:Blk ((w1.alloc (.cells #[Zy none 0 0, Zz Zx 0, Zz Zx 0, Zz Zx 0, .bool false] 30)).alloc (.cells #[Zz Zx 0] 32)) (w1.heap.size+1) 32 [Zz Zx 0]:=Blk.newAt _ _ _ _ Zs
 go_wp2_with (first
  | ((refine aa nJ rfl _ _ rfl w1.heap.size 0 rfl _ rfl 30 _ hA7 rfl Zs oC ?_;intro V7 hV7 hM7);have hA8b:=Blk.turn hM7 hA8 Zo)
  | (refine aa RB1 rfl _ _ rfl (w1.heap.size+1) 0 rfl _ rfl 32 _ hA8b rfl Zs oC ?_;intro V8 hV8 hM8)
  | fail)
 have hV7:Blk V7 w1.heap.size 30 [Zy ar nr cr, Zz Zx s.str, Zz Zx s.ev, Zz Zx s.bu, .bool s.opn]:=hV7;have hV8:Blk V8 (w1.heap.size+1) 32 [Zz Zx paid]:=hV8;have hx0:Ext w1 ((w1.alloc (.cells #[Zy none 0 0, Zz Zx 0, Zz Zx 0, Zz Zx 0, .bool false] 30)).alloc (.cells #[Zz Zx 0] 32)):=(FA _ _).trans (FA _ _);have hx7:Ext w1 V7:=E9 hx0 (hM7.below (aad _) hx0.size);have hx:Ext w1 V8:=E9 hx7 (hM8.below Zo hx7.size);have hV7:=Blk.turn hM8 hV7 Zo;have hI:=hI.ext hx;have hSq:=hSq.ext hx;have hE:=hE.trans hx;clear hA7 hA8 hA8b hM7 hM8 hx0 hx7 hx;generalize w1.heap.size+1=g8 at *;generalize w1.heap.size=g7 at *;(with_reducible refine (hw3 _).mono ?_);rintro e w2 ⟨rfl,hx0⟩;go_wp2_with fail;(with_reducible refine (hw4 _).mono ?_);rintro e w2b ⟨rfl,hx1⟩;go_wp2_with fail;(with_reducible refine (hns _).mono ?_);rintro e w3 ⟨an,cn,rfl,hNn,hcn,htn,hx2⟩;have hx:=(hx0.trans hx1).trans hx2;have hI:=hI.ext hx;have hSq:=hSq.ext hx;have hE:=hE.trans hx;have hV7:=hV7.extB hx;have hV8:=hV8.extB hx;have hr7:=hV7.rd;have hr8:=hV8.rd;clear hx hx0 hx1 hx2 hns hw3 hw4 htn
 go_wp2_with (first
  | (refine af nJ rfl _ rfl g7 0 rfl _ hr7 rfl ?_)
  | (refine af RB1 rfl _ rfl g8 0 rfl _ hr8 rfl ?_)
  | fail)
 (with_reducible refine (ha1 an cn _ hI hNn hcn hSq).mono ?_);rintro e w4 ⟨a5,c5,rfl,hS5,hc5,hx1⟩;go_upto_region 5 with (first
  | (refine aa RB1 rfl _ _ rfl w4.heap.size 0 rfl _ rfl 32 _ ((Blk.new w4 #[Zz Zx 0] 32)) rfl Zs oC ?_;intro W5 hV5 hM5)
  | fail)
 have hV5:Blk W5 w4.heap.size 32 [Zz Zx X.1.2]:=hV5;have hxa:=hx1.trans (FA w4 (.cells #[Zz Zx 0] 32));have hx:Ext w3 W5:=E9 hxa (hM5.below hx1.size hxa.size);have hS5:=(hS5.ext (FA w4 (.cells #[Zz Zx 0] 32))).mut (Blk.new w4 #[Zz Zx 0] 32) Zs hM5;have hI:=hI.ext hx;have hSq:=hSq.ext hx;have hNn:=hNn.ext hx;have hE:=hE.trans hx;have hV7:=hV7.extB hx;have hV8:=hV8.extB hx;have hr7:=hV7.rd;have hr8:=hV8.rd;clear hx hx1 hxa hM5 ha1;generalize w4.heap.size=g5 at *
 go_wp2_with (first
  | (refine af nJ rfl _ rfl g7 0 rfl _ hr7 rfl ?_)
  | (refine af RB1 rfl _ rfl g8 0 rfl _ hr8 rfl ?_)
  | fail)
 (with_reducible refine (ha2 an cn _ hI hNn hcn hSq).mono ?_);rintro e w6 ⟨a6,c6,rfl,hS6,hc6,hx1⟩;go_upto_region 6 with (first
  | (refine aa RB1 rfl _ _ rfl w6.heap.size 0 rfl _ rfl 32 _ ((Blk.new w6 #[Zz Zx 0] 32)) rfl Zs oC ?_;intro W7 hV6 hM7)
  | fail)
 have hV6:Blk W7 w6.heap.size 32 [Zz Zx X.1.2]:=hV6;have hxa:=hx1.trans (FA w6 (.cells #[Zz Zx 0] 32));have hx:Ext W5 W7:=E9 hxa (hM7.below hx1.size hxa.size);have hS6:=(hS6.ext (FA w6 (.cells #[Zz Zx 0] 32))).mut (Blk.new w6 #[Zz Zx 0] 32) Zs hM7;have hS5:=hS5.ext hx;have hSq:=hSq.ext hx;have hV5:=hV5.extB hx;have hE:=hE.trans hx;clear hx hx1 hxa hM7 ha2 hV7 hV8 hr7 hr8 hI hNn;generalize w6.heap.size=g6 at *;go_wp2_with fail;(with_reducible refine (tv _).mono ?_);rintro e w9 ⟨rfl,hx⟩;have hS5:=hS5.ext hx;have hS6:=hS6.ext hx;have hSq:=hSq.ext hx;have hV5:=hV5.extB hx;have hV6:=hV6.extB hx;have hE:=hE.trans hx;clear hx;go_wp2_with fail;(with_reducible refine (hk1 _ hSq).mono ?_);rintro e w10 ⟨rfl,hx0⟩;go_wp2_with fail;(with_reducible refine (hk2 _ (hSq.ext hx0)).mono ?_);rintro e w11 ⟨rfl,hx1⟩;have hx01:=hx0.trans hx1;go_wp2_with fail;(with_reducible refine (gQ _ _ _ _ _ _ _ _ _ (hS5.ext hx01) (hS6.ext hx01)).mono ?_);rintro e w12 ⟨rfl,hx2⟩;have hx:=hx01.trans hx2;have hV5:=hV5.extB hx;have hV6:=hV6.extB hx;have hE:=hE.trans hx;have hr5:=hV5.rd;have hr6:=hV6.rd;clear hx hx0 hx1 hx01 hx2;have hbe:(X.1.1 == X.1.1)=true:=Zs
 go_wp2_with (first
  | (refine fE (by simp [Region.wanted,yielded,Act.put]) ?_;(refine af RB1 rfl _ rfl g5 0 rfl _ hr5 rfl ?_))
  | (refine fE (by simp [Region.wanted,yielded,Act.put]) ?_;(refine af RB1 rfl _ rfl g6 0 rfl _ hr6 rfl ?_))
  | fail)
 go_ret;exact ⟨rfl,hE⟩
end Go.Proofs.P9
