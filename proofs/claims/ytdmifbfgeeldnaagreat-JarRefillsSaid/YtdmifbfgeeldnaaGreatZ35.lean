/- Lemmas of this claim, several texts joined. -/
import Derived.Test.YtdmifbfgeeldnaaGreatZ5
import Derived.Test.YtdmifbfgeeldnaaGreatZ10
import Derived.Test.YtdmifbfgeeldnaaGreatZ30
import Derived.Test.YtdmifbfgeeldnaaGreatZ31
import Derived.Test.YtdmifbfgeeldnaaGreatZ32
import Derived.Test.YtdmifbfgeeldnaaGreatZ34
import Derived.Test.YtdmifbfgeeldnaaGreatZ36
set_option maxRecDepth 100000
open List renaming setIfInBounds_toArray → q0q, set_cons_succ → q1q, set_cons_zero → q2q, mem_cons → q3q, not_mem_nil → q4q, nil_append → q5q, cons_append → q6q, mem_append → q7q, take_succ_cons → q8q, take_zero → q9q, drop_succ_cons → q10q, drop_zero → q11q, take_nil → q12q, drop_nil → q13q
open Go.IntWalk renaming i64_in → q17q, rem_in → q18q, wrap64_in → q19q
set_option linter.unusedVariables false
set_option linter.unusedSimpArgs false
/- The walks of layer 16 of the document: signed, Decode, Reply. -/
namespace Go.Pkt
open Go.Sec Go.RowKit Go.Oct
theorem shr6 (x:UInt8):n8 (x >>> 6)=((x.toNat / 64:Nat):Int):=all8 (p:=fun x=>n8 (x >>> 6)=((x.toNat / 64:Nat):Int)) (by decide +kernel) x
theorem shr3 (x:UInt8):n8 (x >>> 3 &&& 7)=((x.toNat / 8 % 8:Nat):Int):=all8 (p:=fun x=>n8 (x >>> 3 &&& 7)=((x.toNat / 8 % 8:Nat):Int)) (by decide +kernel) x
theorem low7 (x:UInt8):n8 (x &&& 7)=((x.toNat % 8:Nat):Int):=all8 (p:=fun x=>n8 (x &&& 7)=((x.toNat % 8:Nat):Int)) (by decide +kernel) x
end Go.Pkt
namespace Go.Proofs.YtdmifbfgeeldnaaGreat
open Go.RowKit Go.Sec Go.Oct Go.Pkt BigFrame
theorem rhsigned_any (x:UInt8) (w:World) :
  Calls Tryz.prog 111 #[.int .u8 (n8 x)] w fun e w'=>e = .returned (.int .i64 (sgn x))∧Ext w w':=by
 by_cases h:x.toNat<128
 ·have e:=Lib.hid (show sgn x=n8 x by unfold sgn n8;rw [if_pos h])
  have i1:¬ (127:Int)<n8 x:=by unfold n8;omega
  clear h
  go_enter Tryz.func111,Tryz.ntmps111
  go_wp2_with fail
  go_ret
  exact ⟨by rw [e.out];rfl,eX⟩
 ·have e:=Lib.hid (show sgn x=n8 x-256 by unfold sgn n8;rw [if_neg h])
  have i1:(127:Int)<n8 x:=by unfold n8;omega
  clear h
  go_enter Tryz.func111,Tryz.ntmps111
  go_wp2_with fail
  go_ret
  exact ⟨by show Ending.returned (.int .i64 (wrap64 (n8 x-256)))=_;rw [← e.out,sgn64'],eX⟩
set_option maxHeartbeats 4000000 in
theorem rhdecode_any (a:Option Addr)(n c:Nat) (b:List UInt8)(w:World)(hS:Sl w a n b) (hc:n≤c) (hn:n≤1000000) :
  Calls Tryz.prog 66 #[.slice a n c] w (DecOut (decH b) w):=by
 have hl:=hS.len
 by_cases h1:n<48
 ·have er:decH b=((zeroH,[]),1):=if_pos (by omega)
  rw [er]
  have i1:(n:Int)<48:=by omega
  clear hl
  go_enter Tryz.func66,Tryz.ntmps66
  go_wp2_with (first
   | (refine wpList_store_arr (RH13) rfl _ _ rfl (w.heap.size) (0) rfl ([.int .i64 0, .int .i64 0, .int .i64 0, .int .i64 0, .int .i64 0, .int .i64 0, .int .u32 0, .int .u32 0, .int .u32 0, .int .u64 0, .int .u64 0, .int .u64 0, .int .u64 0]) rfl (27) _ (bK) (rfl) (by simp) (by first|exact one_u8 _|(simp;done)|(simp;(repeat' (first|rfl|constructor)))) ?_;intro V hV hMV)
   | fail)
  refine bodyPost_ret (results_arr_tmp2 Tryz.results66 (RH13) _ _ (w.heap.size) (0) ([.int .i64 0, .int .i64 0, .int .i64 0, .int .i64 0, .int .i64 0, .int .i64 0, .int .u32 0, .int .u32 0, .int .u32 0, .int .u64 0, .int .u64 0, .int .u64 0, .int .u64 0]) rfl (hV.rd) (rfl) (.slice none 0 0) (.int .i64 1) rfl rfl) rfl ?_
  exact DecOut.err _ _ _ (Below.trans (b:=w.alloc _) eX (hMV.below (by omega) (by simp)))
 ·have i1:¬ (n:Int)<48:=by omega
  by_cases h2:1280<n
  ·have er:decH b=((zeroH,[]),2):=by unfold decH;rw [if_neg (by omega),if_pos (by omega)]
   rw [er]
   have i2:(1280:Int)<(n:Int):=by omega
   clear hl
   go_enter Tryz.func66,Tryz.ntmps66
   go_wp2_with (first
    | (refine wpList_store_arr (RH13) rfl _ _ rfl (w.heap.size) (0) rfl ([.int .i64 0, .int .i64 0, .int .i64 0, .int .i64 0, .int .i64 0, .int .i64 0, .int .u32 0, .int .u32 0, .int .u32 0, .int .u64 0, .int .u64 0, .int .u64 0, .int .u64 0]) rfl (27) _ (bK) (rfl) (by simp) (by first|exact one_u8 _|(simp;done)|(simp;(repeat' (first|rfl|constructor)))) ?_;intro V hV hMV)
    | fail)
   refine bodyPost_ret (results_arr_tmp2 Tryz.results66 (RH13) _ _ (w.heap.size) (0) ([.int .i64 0, .int .i64 0, .int .i64 0, .int .i64 0, .int .i64 0, .int .i64 0, .int .u32 0, .int .u32 0, .int .u32 0, .int .u64 0, .int .u64 0, .int .u64 0, .int .u64 0]) rfl (hV.rd) (rfl) (.slice none 0 0) (.int .i64 2) rfl rfl) rfl ?_
   exact DecOut.err _ _ _ (Below.trans (b:=w.alloc _) eX (hMV.below (by omega) (by simp)))
  ·have i2:¬ (1280:Int)<(n:Int):=by omega
   obtain ⟨r,hr⟩:∃ r,decH b=r:=⟨_,rfl⟩
   have hr1:(rdH b).ver=4∨(rdH b).ver=3→r=((rdH b,b.drop 48),0):=fun h=>by rw [← hr];unfold decH;rw [if_neg (by omega),if_neg (by omega),if_pos h]
   have hr2:¬ ((rdH b).ver=4∨(rdH b).ver=3)→r=((zeroH,[]),3):=fun h=>by rw [← hr];unfold decH;rw [if_neg (by omega),if_neg (by omega),if_neg h]
   rw [hr]
   clear hr
   obtain ⟨f,hf⟩:∃ f:Nat→UInt8,∀ o,b.getD o 0=f o:=⟨_,fun _=>rfl⟩
   obtain ⟨b0,o0,rfl,hb0, -⟩:=hS.at 0 (by omega)
   have hce:∀ k,k<n→w.cell? ⟨b0,o0+k,none⟩=some (.int .u8 (n8 (f k))):=fun k hk=>by
    obtain ⟨b1,o1,e1,_,hc1⟩:=hS.at k hk
    injection e1 with e1
    injection e1 with e1 e2
    subst e1 e2
    rw [hc1,← hf k,List.getD_eq_getElem?_getD,List.getElem?_eq_getElem (by omega)];rfl
   have hsl:∀ k m,k<n→m≤n-k→Sl w (some ⟨b0,o0+k,none⟩) m ((b.drop k).take m):=fun k m hk hm=>(sl_at hS hc hk).take m hm
   have hg:∀ k m,m≤8→∀ W,Sl W (some ⟨b0,o0+k,none⟩) m ((b.drop k).take m)→Calls Tryz.prog 100 #[.slice (some ⟨b0,o0+k,none⟩) m (c-k)] W fun e w'=>e = .returned (.int .u64 (n64 (getU b k m)))∧Ext W w':=fun k m hm W H=>rget_any _ m (c-k) _ W H (by omega)
   have z0:=Lib.hid (show n8 (f 0 >>> 6)=(rdH b).leap by rw [← hf];exact shr6 _)
   have z1:=Lib.hid (show n8 (f 0 >>> 3 &&& 7)=(rdH b).ver by rw [← hf];exact shr3 _)
   have z2:=Lib.hid (show n8 (f 0 &&& 7)=(rdH b).mode by rw [← hf];exact low7 _)
   have z3:=Lib.hid (show n8 (f 1)=(rdH b).strat by rw [← hf];rfl)
   have z4:=Lib.hid (show sgn (f 2)=(rdH b).poll by rw [← hf];rfl)
   have z5:=Lib.hid (show sgn (f 3)=(rdH b).prec by rw [← hf];rfl)
   go_enter Tryz.func66,Tryz.ntmps66
   go_wp2_with fail
   refine nameW ?_
   intro W hW
   have hE:Ext w W:=by rw [hW];exact eX
   have hH:Blk W w.heap.size 27 [.int .i64 0, .int .i64 0, .int .i64 0, .int .i64 0, .int .i64 0, .int .i64 0, .int .u32 0, .int .u32 0, .int .u32 0, .int .u64 0, .int .u64 0, .int .u64 0, .int .u64 0]:=by rw [hW];exact bK
   clear hW
   haveI:=BlkLt.mk (Nat.lt_of_lt_of_le hb0.lt hE.size)
   have hce:=fun k hk=>(hE.cell (p:=⟨b0,o0+k,none⟩) hb0.lt).trans (hce k hk)
   have hsl:=fun k m h1 h2=>(hsl k m h1 h2).ext hE
   have k0:=hce 0 (by omega)
   have k1:=hce 1 (by omega)
   have k2:=hce 2 (by omega)
   have k3:=hce 3 (by omega)
   rw [Nat.add_zero] at k0
   have j0:(1:Int)<(n:Int):=by omega
   have j1:0<n:=by omega
   have j2:(2:Int)<(n:Int):=by omega
   have j3:(3:Int)<(n:Int):=by omega
   have d4:¬ c=4:=by omega
   have d8:¬ c=8:=by omega
   have d12:¬ c=12:=by omega
   have d16:¬ c=16:=by omega
   have d24:¬ c=24:=by omega
   have d32:¬ c=32:=by omega
   have d40:¬ c=40:=by omega
   have j8:(8:Int)≤(c:Int):=by omega
   have j12:(12:Int)≤(c:Int):=by omega
   have j16:(16:Int)≤(c:Int):=by omega
   have j24:(24:Int)≤(c:Int):=by omega
   have j32:(32:Int)≤(c:Int):=by omega
   have j40:(40:Int)≤(c:Int):=by omega
   have j48:(48:Int)≤(c:Int):=by omega
   clear hce hf
   refine R2.wp_region_vague 54 [[],[0],[0,1],[0,1,2],[0,1,2,3],[],[5],[5,6],[5,6,7],[5,6,7,8],[5,6,7,8,9],[],[11],[11,12],[11,12,13],[11,12,13,14],[],[16],[16,17],[16,17,18],[],[20],[20,21],[20,21,22],[],[24],[24,25],[20,21,22,23,24,25,26],[],[28],[20,21,22,23,24,25,26,27,28,29],[20,21,22,23,24,25,26,27,28,29,30],[],[32],[20,21,22,23,24,25,26,27,28,29,30,32,33],[20,21,22,23,24,25,26,27,28,29,30,32,33,34],[],[36],[20,21,22,23,24,25,26,27,28,29,30,32,33,34,36,37],[20,21,22,23,24,25,26,27,28,29,30,32,33,34,36,37,38],[],[40],[20,21,22,23,24,25,26,27,28,29,30,32,33,34,36,37,38,40,41],[],[43],[20,21,22,23,24,25,26,27,28,29,30,32,33,34,36,37,38,40,41,42,43,44],[],[46],[20,21,22,23,24,25,26,27,28,29,30,32,33,34,36,37,38,40,41,42,43,44,45,46,47],[],[49],[20,21,22,23,24,25,26,27,28,29,30,32,33,34,36,37,38,40,41,42,43,44,45,46,47,48,49,50],[0,1,2,3,4,5,6,7,8,9,10,11,12,13,14,15,16,17,18,19,20,21,22,23,24,25,26,27,28,29,30,31,32,33,34,35,36,37,38,39,40,41,42,43,44,45,46,47,48,49,50,51],[],[0,1,2,3,4,5,6,7,8,9,10,11,12,13,14,15,16,17,18,19,20,21,22,23,24,25,26,27,28,29,30,31,32,33,34,35,36,37,38,39,40,41,42,43,44,45,46,47,48,49,50,51,52,53]] (by kernel_rfl) (by kernel_rfl) (by kernel_rfl) (by kernel_rfl) ?_;simp only [q8q,q9q,q10q,q11q,q12q,q13q]
   (repeat (apply R2.VD_der;(case h=>(intro us w' hx hf;obtain ⟨x,rfl⟩:=hx.out;refine ⟨rfl,?_⟩;simp [go_sem,execOp, *];(try simp (disch:=omega) only [q17q,q18q,q19q]);rfl));(try simp only [Act.put,q0q,q1q,q2q])))
   (refine R2.VD_vag (fun _ => .int .i64 (sgn (f 2))) (fun _ _=>True) (fun _ _ _ _ _=>trivial) (fun us w' hx hf=>⟨rfl,?_⟩) ?_;(unfold gives;simp [go_sem,execOp];refine (rhsigned_any (f 2) _).mono ?_;rintro e w1 ⟨rfl,hx1⟩;first|exact ⟨rfl,hx1⟩|simpa using hx1))
   (repeat (apply R2.VD_der;(case h=>(intro us w' hx hf;obtain ⟨x,rfl⟩:=hx.out;refine ⟨rfl,?_⟩;simp [go_sem,execOp, *];(try simp (disch:=omega) only [q17q,q18q,q19q]);rfl));(try simp only [Act.put,q0q,q1q,q2q])))
   (refine R2.VD_vag (fun _ => .int .i64 (sgn (f 3))) (fun _ _=>True) (fun _ _ _ _ _=>trivial) (fun us w' hx hf=>⟨rfl,?_⟩) ?_;(unfold gives;simp [go_sem,execOp];refine (rhsigned_any (f 3) _).mono ?_;rintro e w1 ⟨rfl,hx1⟩;first|exact ⟨rfl,hx1⟩|simpa using hx1))
   (repeat (apply R2.VD_der;(case h=>(intro us w' hx hf;obtain ⟨x,rfl⟩:=hx.out;refine ⟨rfl,?_⟩;simp [go_sem,execOp, *];(try simp (disch:=omega) only [q17q,q18q,q19q]);rfl));(try simp only [Act.put,q0q,q1q,q2q])))
   (refine R2.VD_vag (fun _ => .int .u64 (n64 (getU b 4 4))) (fun _ _=>True) (fun _ _ _ _ _=>trivial) (fun us w' hx hf=>⟨rfl,?_⟩) ?_;(unfold gives;simp [go_sem,execOp];refine (hg 4 4 (by omega) _ ((hsl 4 4 (by omega) (by omega)).ext hx)).mono ?_;rintro e w1 ⟨rfl,hx1⟩;first|exact ⟨rfl,hx1⟩|simpa using hx1))
   (repeat (apply R2.VD_der;(case h=>(intro us w' hx hf;obtain ⟨x,rfl⟩:=hx.out;refine ⟨rfl,?_⟩;simp [go_sem,execOp, *];(try simp (disch:=omega) only [q17q,q18q,q19q]);rfl));(try simp only [Act.put,q0q,q1q,q2q])))
   (refine R2.VD_vag (fun _ => .int .u64 (n64 (getU b 8 4))) (fun _ _=>True) (fun _ _ _ _ _=>trivial) (fun us w' hx hf=>⟨rfl,?_⟩) ?_;(unfold gives;simp [go_sem,execOp];refine (hg 8 4 (by omega) _ ((hsl 8 4 (by omega) (by omega)).ext hx)).mono ?_;rintro e w1 ⟨rfl,hx1⟩;first|exact ⟨rfl,hx1⟩|simpa using hx1))
   (repeat (apply R2.VD_der;(case h=>(intro us w' hx hf;obtain ⟨x,rfl⟩:=hx.out;refine ⟨rfl,?_⟩;simp [go_sem,execOp, *];(try simp (disch:=omega) only [q17q,q18q,q19q]);rfl));(try simp only [Act.put,q0q,q1q,q2q])))
   (refine R2.VD_vag (fun _ => .int .u64 (n64 (getU b 12 4))) (fun _ _=>True) (fun _ _ _ _ _=>trivial) (fun us w' hx hf=>⟨rfl,?_⟩) ?_;(unfold gives;simp [go_sem,execOp];refine (hg 12 4 (by omega) _ ((hsl 12 4 (by omega) (by omega)).ext hx)).mono ?_;rintro e w1 ⟨rfl,hx1⟩;first|exact ⟨rfl,hx1⟩|simpa using hx1))
   (repeat (apply R2.VD_der;(case h=>(intro us w' hx hf;obtain ⟨x,rfl⟩:=hx.out;refine ⟨rfl,?_⟩;simp [go_sem,execOp, *];(try simp (disch:=omega) only [q17q,q18q,q19q]);rfl));(try simp only [Act.put,q0q,q1q,q2q])))
   (refine R2.VD_vag (fun _ => .int .u64 (n64 (getU b 16 8))) (fun _ _=>True) (fun _ _ _ _ _=>trivial) (fun us w' hx hf=>⟨rfl,?_⟩) ?_;(unfold gives;simp [go_sem,execOp];refine (hg 16 8 (by omega) _ ((hsl 16 8 (by omega) (by omega)).ext hx)).mono ?_;rintro e w1 ⟨rfl,hx1⟩;first|exact ⟨rfl,hx1⟩|simpa using hx1))
   (repeat (apply R2.VD_der;(case h=>(intro us w' hx hf;obtain ⟨x,rfl⟩:=hx.out;refine ⟨rfl,?_⟩;simp [go_sem,execOp, *];(try simp (disch:=omega) only [q17q,q18q,q19q]);rfl));(try simp only [Act.put,q0q,q1q,q2q])))
   (refine R2.VD_vag (fun _ => .int .u64 (n64 (getU b 24 8))) (fun _ _=>True) (fun _ _ _ _ _=>trivial) (fun us w' hx hf=>⟨rfl,?_⟩) ?_;(unfold gives;simp [go_sem,execOp];refine (hg 24 8 (by omega) _ ((hsl 24 8 (by omega) (by omega)).ext hx)).mono ?_;rintro e w1 ⟨rfl,hx1⟩;first|exact ⟨rfl,hx1⟩|simpa using hx1))
   (repeat (apply R2.VD_der;(case h=>(intro us w' hx hf;obtain ⟨x,rfl⟩:=hx.out;refine ⟨rfl,?_⟩;simp [go_sem,execOp, *];(try simp (disch:=omega) only [q17q,q18q,q19q]);rfl));(try simp only [Act.put,q0q,q1q,q2q])))
   (refine R2.VD_vag (fun _ => .int .u64 (n64 (getU b 32 8))) (fun _ _=>True) (fun _ _ _ _ _=>trivial) (fun us w' hx hf=>⟨rfl,?_⟩) ?_;(unfold gives;simp [go_sem,execOp];refine (hg 32 8 (by omega) _ ((hsl 32 8 (by omega) (by omega)).ext hx)).mono ?_;rintro e w1 ⟨rfl,hx1⟩;first|exact ⟨rfl,hx1⟩|simpa using hx1))
   (repeat (apply R2.VD_der;(case h=>(intro us w' hx hf;obtain ⟨x,rfl⟩:=hx.out;refine ⟨rfl,?_⟩;simp [go_sem,execOp, *];(try simp (disch:=omega) only [q17q,q18q,q19q]);rfl));(try simp only [Act.put,q0q,q1q,q2q])))
   (refine R2.VD_vag (fun _ => .int .u64 (n64 (getU b 40 8))) (fun _ _=>True) (fun _ _ _ _ _=>trivial) (fun us w' hx hf=>⟨rfl,?_⟩) ?_;(unfold gives;simp [go_sem,execOp];refine (hg 40 8 (by omega) _ ((hsl 40 8 (by omega) (by omega)).ext hx)).mono ?_;rintro e w1 ⟨rfl,hx1⟩;first|exact ⟨rfl,hx1⟩|simpa using hx1))
   (repeat (apply R2.VD_der;(case h=>(intro us w' hx hf;obtain ⟨x,rfl⟩:=hx.out;refine ⟨rfl,?_⟩;simp [go_sem,execOp, *];(try simp (disch:=omega) only [q17q,q18q,q19q]);rfl));(try simp only [Act.put,q0q,q1q,q2q])))
   (refine R2.VD_alloc _ ([.int .i64 0, .int .i64 0, .int .i64 0, .int .i64 0, .int .i64 0, .int .i64 0, .int .u32 0, .int .u32 0, .int .u32 0, .int .u64 0, .int .u64 0, .int .u64 0, .int .u64 0]) Tryz.zeroValue27 rfl rfl rfl ?_)
   (refine R2.VD_nil ?_;intro us w' hx hf hd;obtain ⟨x,rfl⟩:=hx.out;(try simp only [Act.put,q0q,q1q,q2q,wpList_none]);(try simp only [q3q,q4q,or_false,forall_eq_or_imp,forall_eq,q5q,q6q,q7q,false_or,true_and,and_true] at hf);(try simp only [Nat.reduceAdd,Nat.zero_add] at hf ⊢))
   obtain ⟨g,eg,hgW,hBg⟩:=hf
   rw [eg]
   have hx5:Ext W (W.ext x):=Ext.of_ext _ _
   have hgE:=Nat.le_trans hE.size hgW
   have hne:w.heap.size≠g:=by have:=hH.lt;omega
   have hH:=hH.extB hx5
   have hE:=hE.trans hx5
   have hS:=hS.ext hE
   clear k0 k1 k2 k3 hsl hg hd eg hx5
   generalize W.ext x=W6 at *
   rw [z0.out,z1.out,z2.out,z3.out,z4.out,z5.out]
   clear z0 z1 z2 z3 z4 z5 d4 d8 d12 d16 d24 d32 d40 j0 j1 j2 j3 j8 j12 j16 j24 j32 j40
   haveI:=hBg.blt
   haveI:=hH.blt
   by_cases v3:(rdH b).ver=3
   ·have er:=Lib.hid (hr1 (.inr v3))
    have i3:((rdH b).ver != 3)=false:=by rw [bne_eq_false_iff_eq];exact v3
    clear hr1 hr2 v3
    go_wp2_with (first
     | ((refine wpList_store_arr (RH13) rfl _ _ rfl (g) (0) rfl ([.int .i64 (rdH b).leap, .int .i64 (rdH b).ver, .int .i64 (rdH b).mode, .int .i64 (rdH b).strat, .int .i64 (rdH b).poll, .int .i64 (rdH b).prec, .int .u32 (n32 (rdH b).rd), .int .u32 (n32 (rdH b).rp), .int .u32 (n32 (rdH b).id), .int .u64 (n64 (rdH b).ref), .int .u64 (n64 (rdH b).org), .int .u64 (n64 (rdH b).rcv), .int .u64 (n64 (rdH b).tx)]) rfl (27) _ (hBg) (rfl) (by simp) (oC) ?_;intro V hV0 hMV);have hV:Blk V g 27 [.int .i64 (rdH b).leap, .int .i64 (rdH b).ver, .int .i64 (rdH b).mode, .int .i64 (rdH b).strat, .int .i64 (rdH b).poll, .int .i64 (rdH b).prec, .int .u32 (n32 (rdH b).rd), .int .u32 (n32 (rdH b).rp), .int .u32 (n32 (rdH b).id), .int .u64 (n64 (rdH b).ref), .int .u64 (n64 (rdH b).org), .int .u64 (n64 (rdH b).rcv), .int .u64 (n64 (rdH b).tx)]:=hV0;clear hV0;haveI:=hV.blt;have q1:=hV.cell? 1 rfl;have hHV:=Blk.turn hMV hH hne;haveI:=hHV.blt)
     | (fail)
     | fail)
    have hEV:Ext w V:=Below.trans hE (hMV.below hgE hE.size)
    have hSV:=hS.mut hBg (by simp) hMV
    clear q1 hS hBg hH hE hMV
    have hcd:n-48≤c-48:=by omega
    obtain ⟨A,hA,hSA⟩:∃ A,(if c=48 then some (⟨b0,o0,none⟩:Addr) else some ⟨b0,o0+48,none⟩)=A∧Sl V A (n-48) (b.drop 48):=⟨_,rfl,by have:=hSV.drop c 48 hc;simpa [sAdr,addr_add] using this⟩
    have hdl:(b.drop 48).length=n-48:=hSA.len
    have j48:(48:Int)≤(n:Int):=by omega
    have j48c:(48:Int)≤(c:Int):=by omega
    refine wp_region_vague 5 [[],[],[1],[1,2],[1,2,3],[0,1,2,3,4],[0,1,2,3,4,5],[0,1,2,3,4,5,6]] (by kernel_rfl) (by kernel_rfl) (by kernel_rfl) (by kernel_rfl) ?_;simp only [q8q,q9q,q10q,q11q,q12q,q13q]
    (refine VD_load_arr (RH13) _ rfl (fun _=>rfl) (g) (0) (fun _=>by simp [go_sem]) ([.int .i64 (rdH b).leap, .int .i64 (rdH b).ver, .int .i64 (rdH b).mode, .int .i64 (rdH b).strat, .int .i64 (rdH b).poll, .int .i64 (rdH b).prec, .int .u32 (n32 (rdH b).rd), .int .u32 (n32 (rdH b).rp), .int .u32 (n32 (rdH b).id), .int .u64 (n64 (rdH b).ref), .int .u64 (n64 (rdH b).org), .int .u64 (n64 (rdH b).rcv), .int .u64 (n64 (rdH b).tx)]) (hV.rd) (rfl) ?_)
    (repeat (refine VD_a ?_;(try simp only [Act.put,q0q,q1q,q2q])))
    (refine VD_vag (fun p => .slice (p 0).1 (1) (1)) (fun p w''=>Bss w'' (p 0).1 (1) ([b.drop 48])) (fun p w w' h hx=>h.ext hx) (fun us w' hx hf=>⟨rfl,?_⟩) ?_;(unfold gives;simp [go_sem,execOp];exact ⟨fun _=>(some ⟨w'.heap.size,0,none⟩,0),rfl,Ext.of_alloc _ _,bss1 (hSA.ext hx) _⟩))
    (refine VD_vag (fun p => .slice (p 0).1 (n-48) (p 0).2) (fun p w''=>Own w'' 0 (p 0).1 (n-48) (p 0).2 (b.drop 48)) (fun p w w' h hx=>h.ext hx) (fun us w' hx hf=>⟨rfl,?_⟩) ?_;(unfold gives;simp [go_sem,execOp];exact vag_fresh (Nat.zero_le _) ((by have:=join_any _ 1 1 [b.drop 48] w' (by exact (hf _ (List.mem_append_right _ (List.mem_singleton_self _)) rfl)) (by omega) (n-48) (by rw [joinL1];exact hdl) (by omega);rw [joinL1] at this;exact this))))
    (refine VD_z ?_;intro us x hx hf;(try simp only [Act.put,q0q,q1q,q2q,wpList_none]);(try simp only [q3q,q4q,or_false,forall_eq_or_imp,forall_eq,q5q,q6q,q7q,false_or,true_and,and_true] at hf);(try simp only [Nat.reduceAdd,Nat.zero_add] at hf ⊢))
    obtain ⟨-,hO⟩:=hf
    obtain ⟨a5,ha5⟩:∃ a,(us 4 0).1=a:=⟨_,rfl⟩
    obtain ⟨c5,hc5⟩:∃ a,(us 4 0).2=a:=⟨_,rfl⟩
    rw [ha5,hc5] at hO ⊢
    clear ha5 hc5
    have hxx:Ext V (V.ext x):=Ext.of_ext _ _
    have hHx:=hHV.extB hxx
    have hEx:=hEV.trans hxx
    generalize V.ext x=V5 at *
    go_wp2_with (first
     | (refine wpList_store_arr (RH13) rfl _ _ rfl (w.heap.size) (0) rfl ([.int .i64 (rdH b).leap, .int .i64 (rdH b).ver, .int .i64 (rdH b).mode, .int .i64 (rdH b).strat, .int .i64 (rdH b).poll, .int .i64 (rdH b).prec, .int .u32 (n32 (rdH b).rd), .int .u32 (n32 (rdH b).rp), .int .u32 (n32 (rdH b).id), .int .u64 (n64 (rdH b).ref), .int .u64 (n64 (rdH b).org), .int .u64 (n64 (rdH b).rcv), .int .u64 (n64 (rdH b).tx)]) rfl (27) _ (hHx) (rfl) (by simp) (oC) ?_;intro U hU hMU)
     | fail)
    refine bodyPost_ret (results_arr_tmp2 Tryz.results66 (RH13) _ _ (w.heap.size) (0) ([.int .i64 (rdH b).leap, .int .i64 (rdH b).ver, .int .i64 (rdH b).mode, .int .i64 (rdH b).strat, .int .i64 (rdH b).poll, .int .i64 (rdH b).prec, .int .u32 (n32 (rdH b).rd), .int .u32 (n32 (rdH b).rp), .int .u32 (n32 (rdH b).id), .int .u64 (n64 (rdH b).ref), .int .u64 (n64 (rdH b).org), .int .u64 (n64 (rdH b).rcv), .int .u64 (n64 (rdH b).tx)]) rfl (hU.rd) (rfl) (.slice a5 (n-48) c5) (.int .i64 0) rfl rfl) rfl ?_
    have hOV:=Sl.mut hO.sl hHx (by simp) hMU
    rw [er.out]
    exact ⟨a5,c5,by rw [hdl],by rw [hdl];exact hOV,by rw [hdl];exact hO.le.1,Below.trans hEx (hMU.below (by omega) hEx.size)⟩
   ·by_cases v4:(rdH b).ver=4
    ·have er:=Lib.hid (hr1 (.inl v4))
     have i3:((rdH b).ver != 3)=true:=by rw [bne_iff_ne];exact v3
     have i4:((rdH b).ver != 4)=false:=by rw [bne_eq_false_iff_eq];exact v4
     clear hr1 hr2 v3 v4
     go_wp2_with (first
      | ((refine wpList_store_arr (RH13) rfl _ _ rfl (g) (0) rfl ([.int .i64 (rdH b).leap, .int .i64 (rdH b).ver, .int .i64 (rdH b).mode, .int .i64 (rdH b).strat, .int .i64 (rdH b).poll, .int .i64 (rdH b).prec, .int .u32 (n32 (rdH b).rd), .int .u32 (n32 (rdH b).rp), .int .u32 (n32 (rdH b).id), .int .u64 (n64 (rdH b).ref), .int .u64 (n64 (rdH b).org), .int .u64 (n64 (rdH b).rcv), .int .u64 (n64 (rdH b).tx)]) rfl (27) _ (hBg) (rfl) (by simp) (oC) ?_;intro V hV0 hMV);have hV:Blk V g 27 [.int .i64 (rdH b).leap, .int .i64 (rdH b).ver, .int .i64 (rdH b).mode, .int .i64 (rdH b).strat, .int .i64 (rdH b).poll, .int .i64 (rdH b).prec, .int .u32 (n32 (rdH b).rd), .int .u32 (n32 (rdH b).rp), .int .u32 (n32 (rdH b).id), .int .u64 (n64 (rdH b).ref), .int .u64 (n64 (rdH b).org), .int .u64 (n64 (rdH b).rcv), .int .u64 (n64 (rdH b).tx)]:=hV0;clear hV0;haveI:=hV.blt;have q1:=hV.cell? 1 rfl;have hHV:=Blk.turn hMV hH hne;haveI:=hHV.blt)
      | (fail)
      | fail)
     have hEV:Ext w V:=Below.trans hE (hMV.below hgE hE.size)
     have hSV:=hS.mut hBg (by simp) hMV
     clear q1 hS hBg hH hE hMV
     have hcd:n-48≤c-48:=by omega
     obtain ⟨A,hA,hSA⟩:∃ A,(if c=48 then some (⟨b0,o0,none⟩:Addr) else some ⟨b0,o0+48,none⟩)=A∧Sl V A (n-48) (b.drop 48):=⟨_,rfl,by have:=hSV.drop c 48 hc;simpa [sAdr,addr_add] using this⟩
     have hdl:(b.drop 48).length=n-48:=hSA.len
     have j48:(48:Int)≤(n:Int):=by omega
     have j48c:(48:Int)≤(c:Int):=by omega
     refine wp_region_vague 5 [[],[],[1],[1,2],[1,2,3],[0,1,2,3,4],[0,1,2,3,4,5],[0,1,2,3,4,5,6]] (by kernel_rfl) (by kernel_rfl) (by kernel_rfl) (by kernel_rfl) ?_;simp only [q8q,q9q,q10q,q11q,q12q,q13q]
     (refine VD_load_arr (RH13) _ rfl (fun _=>rfl) (g) (0) (fun _=>by simp [go_sem]) ([.int .i64 (rdH b).leap, .int .i64 (rdH b).ver, .int .i64 (rdH b).mode, .int .i64 (rdH b).strat, .int .i64 (rdH b).poll, .int .i64 (rdH b).prec, .int .u32 (n32 (rdH b).rd), .int .u32 (n32 (rdH b).rp), .int .u32 (n32 (rdH b).id), .int .u64 (n64 (rdH b).ref), .int .u64 (n64 (rdH b).org), .int .u64 (n64 (rdH b).rcv), .int .u64 (n64 (rdH b).tx)]) (hV.rd) (rfl) ?_)
     (repeat (refine VD_a ?_;(try simp only [Act.put,q0q,q1q,q2q])))
     (refine VD_vag (fun p => .slice (p 0).1 (1) (1)) (fun p w''=>Bss w'' (p 0).1 (1) ([b.drop 48])) (fun p w w' h hx=>h.ext hx) (fun us w' hx hf=>⟨rfl,?_⟩) ?_;(unfold gives;simp [go_sem,execOp];exact ⟨fun _=>(some ⟨w'.heap.size,0,none⟩,0),rfl,Ext.of_alloc _ _,bss1 (hSA.ext hx) _⟩))
     (refine VD_vag (fun p => .slice (p 0).1 (n-48) (p 0).2) (fun p w''=>Own w'' 0 (p 0).1 (n-48) (p 0).2 (b.drop 48)) (fun p w w' h hx=>h.ext hx) (fun us w' hx hf=>⟨rfl,?_⟩) ?_;(unfold gives;simp [go_sem,execOp];exact vag_fresh (Nat.zero_le _) ((by have:=join_any _ 1 1 [b.drop 48] w' (by exact (hf _ (List.mem_append_right _ (List.mem_singleton_self _)) rfl)) (by omega) (n-48) (by rw [joinL1];exact hdl) (by omega);rw [joinL1] at this;exact this))))
     (refine VD_z ?_;intro us x hx hf;(try simp only [Act.put,q0q,q1q,q2q,wpList_none]);(try simp only [q3q,q4q,or_false,forall_eq_or_imp,forall_eq,q5q,q6q,q7q,false_or,true_and,and_true] at hf);(try simp only [Nat.reduceAdd,Nat.zero_add] at hf ⊢))
     obtain ⟨-,hO⟩:=hf
     obtain ⟨a5,ha5⟩:∃ a,(us 4 0).1=a:=⟨_,rfl⟩
     obtain ⟨c5,hc5⟩:∃ a,(us 4 0).2=a:=⟨_,rfl⟩
     rw [ha5,hc5] at hO ⊢
     clear ha5 hc5
     have hxx:Ext V (V.ext x):=Ext.of_ext _ _
     have hHx:=hHV.extB hxx
     have hEx:=hEV.trans hxx
     generalize V.ext x=V5 at *
     go_wp2_with (first
      | (refine wpList_store_arr (RH13) rfl _ _ rfl (w.heap.size) (0) rfl ([.int .i64 (rdH b).leap, .int .i64 (rdH b).ver, .int .i64 (rdH b).mode, .int .i64 (rdH b).strat, .int .i64 (rdH b).poll, .int .i64 (rdH b).prec, .int .u32 (n32 (rdH b).rd), .int .u32 (n32 (rdH b).rp), .int .u32 (n32 (rdH b).id), .int .u64 (n64 (rdH b).ref), .int .u64 (n64 (rdH b).org), .int .u64 (n64 (rdH b).rcv), .int .u64 (n64 (rdH b).tx)]) rfl (27) _ (hHx) (rfl) (by simp) (oC) ?_;intro U hU hMU)
      | fail)
     refine bodyPost_ret (results_arr_tmp2 Tryz.results66 (RH13) _ _ (w.heap.size) (0) ([.int .i64 (rdH b).leap, .int .i64 (rdH b).ver, .int .i64 (rdH b).mode, .int .i64 (rdH b).strat, .int .i64 (rdH b).poll, .int .i64 (rdH b).prec, .int .u32 (n32 (rdH b).rd), .int .u32 (n32 (rdH b).rp), .int .u32 (n32 (rdH b).id), .int .u64 (n64 (rdH b).ref), .int .u64 (n64 (rdH b).org), .int .u64 (n64 (rdH b).rcv), .int .u64 (n64 (rdH b).tx)]) rfl (hU.rd) (rfl) (.slice a5 (n-48) c5) (.int .i64 0) rfl rfl) rfl ?_
     have hOV:=Sl.mut hO.sl hHx (by simp) hMU
     rw [er.out]
     exact ⟨a5,c5,by rw [hdl],by rw [hdl];exact hOV,by rw [hdl];exact hO.le.1,Below.trans hEx (hMU.below (by omega) hEx.size)⟩
    ·have er:=Lib.hid (hr2 (by omega))
     have i3:((rdH b).ver != 3)=true:=by rw [bne_iff_ne];exact v3
     have i4:((rdH b).ver != 4)=true:=by rw [bne_iff_ne];exact v4
     clear hr1 hr2 v3 v4
     go_wp2_with (first
      | ((refine wpList_store_arr (RH13) rfl _ _ rfl (g) (0) rfl ([.int .i64 (rdH b).leap, .int .i64 (rdH b).ver, .int .i64 (rdH b).mode, .int .i64 (rdH b).strat, .int .i64 (rdH b).poll, .int .i64 (rdH b).prec, .int .u32 (n32 (rdH b).rd), .int .u32 (n32 (rdH b).rp), .int .u32 (n32 (rdH b).id), .int .u64 (n64 (rdH b).ref), .int .u64 (n64 (rdH b).org), .int .u64 (n64 (rdH b).rcv), .int .u64 (n64 (rdH b).tx)]) rfl (27) _ (hBg) (rfl) (by simp) (oC) ?_;intro V hV0 hMV);have hV:Blk V g 27 [.int .i64 (rdH b).leap, .int .i64 (rdH b).ver, .int .i64 (rdH b).mode, .int .i64 (rdH b).strat, .int .i64 (rdH b).poll, .int .i64 (rdH b).prec, .int .u32 (n32 (rdH b).rd), .int .u32 (n32 (rdH b).rp), .int .u32 (n32 (rdH b).id), .int .u64 (n64 (rdH b).ref), .int .u64 (n64 (rdH b).org), .int .u64 (n64 (rdH b).rcv), .int .u64 (n64 (rdH b).tx)]:=hV0;clear hV0;haveI:=hV.blt;have q1:=hV.cell? 1 rfl;have hHV:=Blk.turn hMV hH hne;haveI:=hHV.blt)
      | ((refine wpList_store_arr (RH13) rfl _ _ rfl (w.heap.size) (0) rfl ([.int .i64 0, .int .i64 0, .int .i64 0, .int .i64 0, .int .i64 0, .int .i64 0, .int .u32 0, .int .u32 0, .int .u32 0, .int .u64 0, .int .u64 0, .int .u64 0, .int .u64 0]) rfl (27) _ (hHV) (rfl) (by simp) (by first|exact one_u8 _|(simp;done)|(simp;(repeat' (first|rfl|constructor)))) ?_;intro V2 hV2 hMV2))
      | fail)
     have hEV:Ext w V:=Below.trans hE (hMV.below hgE hE.size)
     have hSV:=hS.mut hBg (by simp) hMV
     refine bodyPost_ret (results_arr_tmp2 Tryz.results66 (RH13) _ _ (w.heap.size) (0) ([.int .i64 0, .int .i64 0, .int .i64 0, .int .i64 0, .int .i64 0, .int .i64 0, .int .u32 0, .int .u32 0, .int .u32 0, .int .u64 0, .int .u64 0, .int .u64 0, .int .u64 0]) rfl (hV2.rd) (rfl) (.slice none 0 0) (.int .i64 3) rfl rfl) rfl ?_
     rw [er.out]
     exact DecOut.err _ _ _ (Below.trans hEV (hMV2.below (Nat.le_refl _) hEV.size))
end Go.Proofs.YtdmifbfgeeldnaaGreat

/- The walks of layer 17 of the document: walk, Decode, Places. -/
namespace Go.Pkt
open Go.Oct
def plcL (A:List Fld):List Int:=(List.range A.length).map fun i=>((totN (A.take i):Nat):Int)
theorem plcL_length (A:List Fld):(plcL A).length=A.length:=by simp [plcL]
theorem plcL_snoc (A:List Fld) (f:Fld):plcL (A++[f])=plcL A++[((totN A:Nat):Int)]:=by
 unfold plcL
 rw [List.length_append,List.length_singleton,List.range_succ,List.map_append]
 congr 1
 ·refine List.map_congr_left fun i hi=>?_
  rw [List.take_append_of_le_length (by have:=List.mem_range.1 hi;omega)]
 ·simp
end Go.Pkt
namespace Go.Proofs.YtdmifbfgeeldnaaGreat
open Go.RowKit Go.Sec Go.Oct Go.Pkt Go.Sec.R4 BigFrame
def WalkE (r:List Fld × Int) (w:World)(e:Ending) (w':World):Prop:=∃ a c b d,e = .returned (.tuple #[.slice a r.1.length c, .slice b r.1.length d, .int .i64 r.2])∧OwnI 66 w' w.heap.size a r.1.length c r.1∧OwnJ w' w.heap.size b r.1.length d (plcL r.1)∧Ext w w'
theorem WalkE.err (w w':World)(e:Int) (hx:Ext w w'):WalkE ([],e) w (.returned (.tuple #[.slice none 0 0, .slice none 0 0, .int .i64 e])) w':=⟨none,0,none,0,rfl,OwnI.nil _ _ _,OwnJ.nil _ _,hx⟩
theorem _root_.z35q17{p:Prop}(h:p:=by
 have er:=Lib.hid (show r=([],3) by
  have hs:stepE R=3:=by unfold stepE;rw [if_neg (by omega),hSz,if_pos (by omega)]
  rw [hm.out,decR_bad _ R hne (by rw [hs];decide),hs];rfl)
 clear hSz hRl hl hR hst hsl
 go_wp2_with fail
 (with_reducible refine (hget _ hS2).mono ?_)
 rintro e w5 ⟨rfl,hx5⟩
 go_wp2_with fail
 refine bodyPost_ret (v := .tuple #[.slice none 0 0, .slice none 0 0, .int .i64 3]) (by simp [results,Tryz.results101,go_sem]) rfl ?_
 rw [er.out]
 exact WalkE.err _ _ _ (hE.trans hx5)):p:=h
set_option maxHeartbeats 4000000 in
theorem rwalk_any (a:Option Addr)(n c:Nat) (b:List UInt8)(w:World)(hS:Sl w a n b) (hc:n≤c) (hn:n≤1000000) :
  Calls Tryz.prog 101 #[.slice a n c] w (WalkE (decF b) w):=by
 have hl:=hS.len
 by_cases h1:1232<n
 ·have er:=Lib.hid (show decF b=([],2) from if_pos (by omega))
  have i1:(1232:Int)<(n:Int):=by omega
  clear hl
  go_enter Tryz.func101,Tryz.ntmps101
  go_wp2_with fail
  refine bodyPost_ret (v := .tuple #[.slice none 0 0, .slice none 0 0, .int .i64 2]) (by simp [results,Tryz.results101,go_sem]) rfl ?_
  rw [er.out]
  exact WalkE.err _ _ _ (Ext.refl _)
 ·have i1:¬ (1232:Int)<(n:Int):=by omega
  obtain ⟨r,hr⟩:∃ r,decF b=r:=⟨_,rfl⟩
  have hr24:=Lib.hid (show decR 24 b=r by rw [← hr];exact (if_neg (by omega)).symm)
  rw [hr]
  clear hr
  go_enter Tryz.func101,Tryz.ntmps101
  go_wp2_with fail
  go_loopw [5,6,7,8] (fun v5 v6 v7 _ wr=>∃ (o:Nat) (A:List Fld) (la:Option Addr)(lc:Nat) (pa:Option Addr)(pc:Nat),o≤n∧A.length≤24∧v7 = .int .i64 o∧v5 = .slice la A.length lc∧v6 = .slice pa A.length pc∧totN A=o∧Hid (r=preR A (decR (24-A.length) (b.drop o)))∧OwnU 66 wr w.heap.size la A.length lc A∧OwnJ wr w.heap.size pa A.length pc (plcL A)∧Ext w wr) (fun _ _ v7 _ _=>n-(intOf v7).toNat)
  case atStart=>exact ⟨0,[],none,0,none,0,by omega,by simp,rfl,rfl,rfl,rfl,Lib.hid (by rw [← hr24.out];exact (preR_nil _ _).symm),OwnU.nil _ _ _,OwnJ.nil _ _,Ext.refl _⟩
  case round =>
   obtain ⟨o,A,la,lc,pa,pc,ho,hA,rfl,rfl,rfl,hto,hm,hF,hP,hE⟩:=hrel
   have hSr:=hS.ext hE
   by_cases hlt:o<n
   ·obtain ⟨R,hR⟩:∃ R,b.drop o=R:=⟨_,rfl⟩
    have hRl:R.length=n-o:=by rw [← hR,List.length_drop,hl]
    have hSR:=hSr.drop c o hc
    rw [hR] at hSR hm
    obtain ⟨b0,o0,rfl, -, -⟩:=hSr.at 0 (by omega)
    have hAd:sAdr (some ⟨b0,o0,none⟩) c o 1=some ⟨b0,o0+o,none⟩:=by unfold sAdr;rw [if_neg (by omega)];simp [Addr.add]
    rw [hAd] at hSR
    clear hAd
    have hne:R≠[]:=fun h=>by rw [h] at hRl;simp at hRl;omega
    have i2:(o:Int)<(n:Int):=by omega
    have i3:(o:Int)≤(c:Int):=by omega
    by_cases h4:n-o<4
    ·have i4:(n:Int)-(o:Int)<4:=by omega
     have er:=Lib.hid (show r=([],1) by
      have hs:stepE R=1:=if_pos (by omega)
      rw [hm.out,decR_bad _ R hne (by rw [hs];decide),hs];rfl)
     go_wp2_with fail
     refine bodyPost_ret (v := .tuple #[.slice none 0 0, .slice none 0 0, .int .i64 1]) (by simp [results,Tryz.results101,go_sem]) rfl ?_
     rw [er.out]
     exact WalkE.err _ _ _ hE
    ·have i4:¬ (n:Int)-(o:Int)<4:=by omega
     have i6:(o:Int)+4≤(c:Int):=by omega
     have i7:(o:Int)+2≤(o:Int)+4:=by omega
     have hsl:∀ k m,k<n→m≤n-k→Sl wr (some ⟨b0,o0+k,none⟩) m ((b.drop k).take m):=fun k m hk hm=>(sl_at hSr hc hk).take m hm
     have hS2:=hsl (o+2) 2 (by omega) (by omega)
     rw [← List.drop_drop,hR] at hS2
     have hget:=fun W H=>rget_any (some ⟨b0,o0+(o+2),none⟩) 2 (c-(o+2)) ((R.drop 2).take 2) W H (by omega)
     rw [sizeAt_get] at hget
     obtain ⟨S,hSz⟩:∃ S,sizeAt R=S:=⟨_,rfl⟩
     have hSlt:=sizeAt_lt R
     have hst:4≤R.length:=by omega
     rw [hSz] at hget hSlt
     by_cases hq:S % 4=0
     ·by_cases hq2:S<16
      ·exact z35q17
      ·by_cases hq3:n-o<S
       ·have er:=Lib.hid (show r=([],1) by
         have hs:stepE R=1:=by unfold stepE;rw [if_neg (by omega),hSz,if_neg (by omega),if_pos (by omega)]
         rw [hm.out,decR_bad _ R hne (by rw [hs];decide),hs];rfl)
        have iq3:(n:Int)-(o:Int)<(S:Int):=by omega
        clear hSz hRl hl hR hst hsl
        go_wp2_with fail
        (with_reducible refine (hget _ hS2).mono ?_)
        rintro e w5 ⟨rfl,hx5⟩
        go_wp2_with fail
        refine bodyPost_ret (v := .tuple #[.slice none 0 0, .slice none 0 0, .int .i64 1]) (by simp [results,Tryz.results101,go_sem]) rfl ?_
        rw [er.out]
        exact WalkE.err _ _ _ (hE.trans hx5)
       ·have hs:stepE R=0:=by unfold stepE;rw [if_neg (by omega),hSz,if_neg (by omega),if_neg (by omega)]
        have iq3:¬ (n:Int)-(o:Int)<(S:Int):=by omega
        by_cases hq4:A.length=24
        ·have er:=Lib.hid (show r=([],8) by
          rw [hm.out,hq4,decR_full R hne hs];rfl)
         have iq4:(A.length:Int)=24:=by omega
         clear hSz hRl hl hR hst hsl
         go_wp2_with fail
         (with_reducible refine (hget _ hS2).mono ?_)
         rintro e w5 ⟨rfl,hx5⟩
         go_wp2_with fail
         refine bodyPost_ret (v := .tuple #[.slice none 0 0, .slice none 0 0, .int .i64 8]) (by simp [results,Tryz.results101,go_sem]) rfl ?_
         rw [er.out]
         exact WalkE.err _ _ _ (hE.trans hx5)
        ·obtain ⟨q,hq5⟩:∃ q,24-A.length=q+1:=⟨24-A.length-1,by omega⟩
         have hm2:=Lib.hid (show r=preR (A++[fldAt R]) (decR (24-(A++[fldAt R]).length) (b.drop (o+S))) by
          rw [hm.out,hq5,decR_step q R hne hs,preR_cons,hSz,List.length_append,← hR,List.drop_drop]
          congr 2
          simp;omega)
         have iq4:¬ (A.length:Int)=24:=by omega
         have hfl:=fldAt_len hs
         have htot:=totN_snoc A (fldAt R)
         have hpl:=plcL_snoc A (fldAt R)
         have hfd:(fldAt R)=(((getN (R.take 2):Nat):Int),(R.take S).drop 4):=by unfold fldAt;rw [hSz]
         rw [hSz] at hfl
         rw [hfl.2,hto] at htot
         rw [hto] at hpl
         have hS4:=hsl (o+4) (S-4) (by omega) (by omega)
         rw [← List.drop_drop,hR,← List.drop_take] at hS4
         have hSt:=hsl o 2 (by omega) (by omega)
         rw [hR] at hSt
         have hgt:=fun W H=>rget_any (some ⟨b0,o0+o,none⟩) 2 (c-o) (R.take 2) W H (by omega)
         rw [typeAt_get] at hgt
         have hTlt:=getN_two R
         have hXl:((R.take S).drop 4).length=S-4:=by have:=hfl.1;rw [hfd] at this;simp only at this;omega
         rw [hfd] at hm2 htot hpl
         have hb0:b0<w.heap.size:=hS.lt (by omega) b0 o0 rfl
         clear hfd hfl
         generalize getN (R.take 2)=T at *
         generalize (R.take S).drop 4=X at *
         clear hSz hRl hl hR hst hs hq5 hsl
         go_wp2_with fail
         (with_reducible refine (hget _ hS2).mono ?_)
         rintro e W ⟨rfl,hx5⟩
         have hE:=hE.trans hx5
         have hF:=hF.ext hx5
         have hP:=hP.ext hx5
         have hSt:=hSt.ext hx5
         have hS4:=hS4.ext hx5
         clear hx5 hget hS2 hSr hSR
         have j1:(o:Int)+2≤(c:Int):=by omega
         have j2:(o:Int)+4≤(o:Int)+(S:Int):=by omega
         have j3:(o:Int)+(S:Int)≤(c:Int):=by omega
         have j5:¬ c=o:=by omega
         have j7:(0:Int)≤(o:Int):=by omega
         have j8:(o:Int)≤(o:Int)+2:=by omega
         have j9:((o:Int)+2).toNat=o+2:=by omega
         have j10:(0:Int)≤(o:Int)+4:=by omega
         have j11:((o:Int)+4).toNat=o+4:=by omega
         have j12:((o:Int)+(S:Int)).toNat=o+S:=by omega
         have j13:o+2-o=2:=by omega
         have j14:o+S-(o+4)=S-4:=by omega
         have j6:¬ c=o+4:=by omega
         have hBW:=hE.size
         have hFo:∀ g,la.map (·.block)=some g→w.heap.size≤g∧g<W.heap.size:=fun g e=>by
          obtain ⟨_,xs,h2,_⟩:=hF
          exact own_lt h2 g (by rw [ob_slice];exact e)
         have hPo:∀ g,pa.map (·.block)=some g→w.heap.size≤g∧g<W.heap.size:=fun g e=>own_lt hP.2 g (by rw [ob_slice];exact e)
         obtain ⟨G,hGe⟩:∃ G,G=obL la++obL pa:=⟨_,rfl⟩
         have hGm:∀ k,k∈G ↔ la.map (·.block)=some k∨pa.map (·.block)=some k:=fun k=>by rw [hGe,q7q,mem_obL,mem_obL]
         have hG:∀ k∈G,w.heap.size≤k∧k<W.heap.size:=fun k hk=>((hGm k).1 hk).elim (hFo k) (hPo k)
         have hX1:OwnX (fun k=>k∈G∧la.map (·.block)≠some k) 66 W w.heap.size la A.length lc A:=hF.toX fun k hk=>by
          have hpk:=((hGm k).1 hk.1).resolve_left hk.2
          obtain ⟨vs,hB⟩:=hP.blk k (by rw [ob_slice];exact hpk)
          exact ⟨3,vs,hB,by decide,by decide⟩
         have hdj:∀ g,pa.map (·.block)=some g→g ∉ (la.map (·.block)).toList:=fun g e hm=>by
          have he:la.map (·.block)=some g:=by
           cases hl:la.map (·.block) with
           | none=>rw [hl] at hm;cases hm
           | some g'=>rw [hl] at hm;simp at hm;rw [hm]
          obtain ⟨vs,hB⟩:=hP.blk g (by rw [ob_slice];exact e)
          obtain ⟨_,xs,h2,_⟩:=hF
          exact own_type h2 hB (by decide) (by rw [ob_slice];exact he)
         have hb0G:∀ o m,OffS (· ∈ G) (some ⟨b0,o,none⟩) m:=fun o m => .inr fun b o' e hk=>by
          injection e with e;injection e with e1 e2;subst e1
          have:=(hG b0 hk).1;omega
         clear hGe hF
         go_wp2_with fail
         refine R4.wp_region_vague 24 [[],[],[],[],[3],[1,2,3,4],[1,2,3,4,5],[1,2,3,4,5,6],[],[],[9],[],[],[11,12],[8,9,10,11,12,13],[8,9,10,11,12,13,14],[1,2,3,4,5,6,8,9,10,11,12,13,14,15],[1,2,3,4,5,6,7,8,9,10,11,12,13,14,15,16],[1,2,3,4,5,6,7,8,9,10,11,12,13,14,15,16,17],[0,1,2,3,4,5,6,7,8,9,10,11,12,13,14,15,16,17,18],[],[],[21],[0,1,2,3,4,5,6,7,8,9,10,11,12,13,14,15,16,17,18,19,20,21,22],[0,1,2,3,4,5,6,7,8,9,10,11,12,13,14,15,16,17,18,19,20,21,22,23],[0,1,2,3,4,5,6,7,8,9,10,11,12,13,14,15,16,17,18,19,20,21,22,23,24]] (G) (by kernel_rfl) (by kernel_rfl) (by kernel_rfl) (by kernel_rfl) ?_;simp only [q8q,q9q,q10q,q11q,q12q,q13q]
         (repeat (apply R4.VD_der;(case h=>(intro us w' hx hf;refine ⟨rfl,?_⟩;simp [go_sem,execOp, *];(try simp (disch:=omega) only [q17q,q18q,q19q]);rfl));(try simp only [Act.put,q0q,q1q,q2q])))
         (refine R4.VD_vag (fun _ => .int .u64 ((T:Nat):Int)) (fun _ _=>True) ⟨(fun _ h=>by cases h),fun _ _ _ _ _=>trivial⟩ (fun us w' hx hf=>⟨rfl,?_⟩) ?_;(unfold gives;simp [go_sem,execOp];refine (hgt _ (sl_chg hSt hx (hb0G _ _))).mono ?_;rintro e w1 ⟨rfl,hx1⟩;first|exact ⟨rfl,hx1⟩|simpa using hx1))
         (repeat (apply R4.VD_der;(case h=>(intro us w' hx hf;refine ⟨rfl,?_⟩;simp [go_sem,execOp, *];(try simp (disch:=omega) only [q17q,q18q,q19q]);rfl));(try simp only [Act.put,q0q,q1q,q2q])))
         (refine R4.VD_vag (fun p => .slice (p 0).1 1 1) (fun p w''=>∃ bq,(p 0).1=some ⟨bq,0,none⟩∧W.heap.size≤bq∧Rd w'' (some ⟨bq,0,none⟩) [.slice (some ⟨b0,o0+(o+4),none⟩) (S-4) (c-(o+4))]) ⟨(fun _ h=>by cases h),fun p w1 w2 ⟨bq,h1,h2,h3⟩ hx=>⟨bq,h1,h2,rd_chg h3 hx (fun hn=>by have:=hG bq hn.1;omega)⟩⟩ (fun us w' hx hf=>⟨rfl,?_⟩) ?_;(unfold gives;simp [go_sem,execOp];exact ⟨fun _=>(some ⟨w'.heap.size,0,none⟩,0),rfl,Ext.of_alloc _ _,_,rfl,hx.size,(Blk.new w' _ _).rd⟩))
         (refine R4.VD_vag (fun p => .slice (p 0).1 (S-4) (p 0).2) (fun p w''=>Own w'' W.heap.size (p 0).1 (S-4) (p 0).2 X) ⟨(fun _ h=>by cases h),fun p w1 w2 h hx=>own_chg h hx (fun k hk=>(hG k hk.1).2)⟩ (fun us w' hx hf=>⟨rfl,?_⟩) ?_;(unfold gives;simp [go_sem,execOp];obtain ⟨bq,e1,e2,e3⟩:=(hf _ (List.mem_append_right _ (List.mem_singleton_self _)) rfl);rw [e1];exact vag_fresh hx.size (by have:=join_any (some ⟨bq,0,none⟩) 1 1 [X] w' (bss_rd1 e3 (sl_chg hS4 hx (hb0G _ _))) (by omega) (S-4) (by rw [joinL1];exact hXl) (by omega);rw [joinL1] at this;exact this)))
         (repeat (apply R4.VD_der;(case h=>(intro us w' hx hf;refine ⟨rfl,?_⟩;simp [go_sem,execOp, *];(try simp (disch:=omega) only [q17q,q18q,q19q]);rfl));(try simp only [Act.put,q0q,q1q,q2q])))
         (refine R4.VD_vag (fun p => .slice (p 0).1 1 1) (fun p w''=>∃ bq,(p 0).1=some ⟨bq,0,none⟩∧W.heap.size≤bq∧Rd w'' (some ⟨bq,0,none⟩) [.int .i64 ((T:Nat):Int), .slice (p 1).1 (S-4) (p 1).2]∧Own w'' W.heap.size (p 1).1 (S-4) (p 1).2 X) ⟨(fun _ h=>by cases h),fun p w1 w2 ⟨bq,h1,h2,h3,h4⟩ hx=>⟨bq,h1,h2,rd_chg h3 hx (fun hn=>by have:=hG bq hn.1;omega),own_chg h4 hx (fun k hk=>(hG k hk.1).2)⟩⟩ (fun us w' hx hf=>⟨rfl,?_⟩) ?_;(unfold gives;simp [go_sem,execOp];have hO:=(hf _ (List.mem_append_right _ (List.mem_singleton_self _)) rfl);exact ⟨fun i=>if i=0 then (some ⟨w'.heap.size,0,none⟩,0) else us 16 0,rfl,Ext.of_alloc _ _,_,rfl,hx.size,(Blk.new w' _ _).rd,hO.ext (Ext.of_alloc _ _)⟩))
         (refine R4.VD_wr (la.map (·.block)) (fun g e=>(hGm g).2 (.inl e)) (fun _ _ h=>by cases h) (fun p => .slice (p 0).1 (A.length+1) (p 0).2) (fun p w''=>OwnX (fun k=>k∈G∧la.map (·.block)≠some k) 66 w'' w.heap.size (p 0).1 (A.length+1) (p 0).2 (A++[(((T:Nat):Int),X)])) (fun p w1 w2 h hx=>h.chg hx) (fun us w' hx hf=>⟨rfl,?_⟩) ?_;(obtain ⟨bq,e1,e2,e3,e4⟩:=(hf _ (List.mem_append_right _ (List.mem_singleton_self _)) rfl);obtain ⟨sa,sc,w2,r1,r2,r3⟩:=run_append_x VF w' _ w.heap.size la A.length lc A (hX1.chg hx) bq ((T:Nat):Int) _ (S-4) _ X e3 e4.sl e4.le.1 (Own.inT e4 (by decide)) (own_off e4 (fun k hk=>(hG k hk.1).2)) (own_u8 e4) (by decide) (fun k hk=>Nat.lt_of_lt_of_le (hG k hk.1).2 hx.size) 1 (by omega) (Nat.le_trans hBW hx.size);exact R5.gives_append (s := .tmp 45) (x := .tmp 63) rfl rfl (by show Value.slice (us 18 0).1 1 1=_;rw [e1]) r1 ⟨fun _=>(sa,sc),rfl,by have:=Chg.of_grown r3;rwa [ob_slice] at this,r2⟩))
         (repeat (apply R4.VD_der;(case h=>(intro us w' hx hf;refine ⟨rfl,?_⟩;simp [go_sem,execOp, *];(try simp (disch:=omega) only [q17q,q18q,q19q]);rfl));(try simp only [Act.put,q0q,q1q,q2q])))
         (refine R4.VD_vag (fun p => .slice (p 0).1 1 1) (fun p w''=>∃ bq,(p 0).1=some ⟨bq,0,none⟩∧W.heap.size≤bq∧Rd w'' (some ⟨bq,0,none⟩) [.int .i64 ((o:Nat):Int)]) ⟨(fun _ h=>by cases h),fun p w1 w2 ⟨bq,h1,h2,h3⟩ hx=>⟨bq,h1,h2,rd_chg h3 hx (fun hn=>by have:=hG bq hn.1;omega)⟩⟩ (fun us w' hx hf=>⟨rfl,?_⟩) ?_;(unfold gives;simp [go_sem,execOp];exact ⟨fun _=>(some ⟨w'.heap.size,0,none⟩,0),rfl,Ext.of_alloc _ _,_,rfl,hx.size,(Blk.new w' _ _).rd⟩))
         (refine R4.VD_wr (pa.map (·.block)) (fun g e=>(hGm g).2 (.inr e)) (fun g e=>by rw [q5q];exact hdj g e) (fun p => .slice (p 0).1 (A.length+1) (p 0).2) (fun p w''=>OwnJ w'' w.heap.size (p 0).1 (A.length+1) (p 0).2 (plcL A++[((o:Nat):Int)])∧∀ g,(Value.slice (p 0).1 (A.length+1) (p 0).2).ownBlock=some g→¬ (g∈G∧pa.map (·.block)≠some g)) (fun p w1 w2 h hx=>⟨h.1.chg hx h.2,h.2⟩) (fun us w' hx hf=>⟨rfl,?_⟩) ?_;(obtain ⟨bq,e1,e2,e3⟩:=(hf _ (List.mem_append_right _ (List.mem_singleton_self _)) rfl);obtain ⟨sa,sc,w2,r1,r2,r3,r4⟩:=run_append_j w' _ w.heap.size pa A.length pc (plcL A) (hP.chg hx (fun g e hk=>hk.2 (by rw [← ob_slice pa A.length pc];exact e))) bq _ e3 1 (by omega) (Nat.le_trans hBW hx.size);exact R5.gives_append (s := .tmp 65) (x := .tmp 67) rfl rfl (by show Value.slice (us 22 0).1 1 1=_;rw [e1]) r1 ⟨fun _=>(sa,sc),rfl,by have:=Chg.of_grown r3;rwa [ob_slice] at this,r2,fun g eg hk=>by
          rcases r4 with r4|r4
          ·rw [r4] at eg;exact hk.2 (by rw [← ob_slice pa A.length pc];exact eg)
          ·rw [r4] at eg;injection eg with eg;have:=(hG g hk.1).2;have:=hx.size;omega⟩))
         (refine R4.VD_nil ?_;intro us w' hx hf hd;(try simp only [Act.put,q0q,q1q,q2q,wpList_none]);(try simp only [q3q,q4q,or_false,forall_eq_or_imp,forall_eq,q5q,q6q,q7q,false_or,true_and,and_true] at hf);(try simp only [Nat.reduceAdd,Nat.zero_add] at hf ⊢))
         obtain ⟨-, -, -,hF2, -,hP2, -⟩:=hf
         have hE2:Ext w w':=Below.trans hE ⟨hx.1,hx.2.1,hx.2.2.1,hx.size,fun k hk=>hx.block k (Nat.lt_of_lt_of_le hk hBW) (fun hkG=>by have:=(hG k hkG).1;omega)⟩
         obtain ⟨sa,hsa⟩:∃ a,(us 19 0).1=a:=⟨_,rfl⟩
         obtain ⟨sc,hsc⟩:∃ a,(us 19 0).2=a:=⟨_,rfl⟩
         obtain ⟨ja,hja⟩:∃ a,(us 23 0).1=a:=⟨_,rfl⟩
         obtain ⟨jc,hjc⟩:∃ a,(us 23 0).2=a:=⟨_,rfl⟩
         rw [hsa,hsc] at hF2 ⊢
         rw [hja,hjc] at hP2 ⊢
         clear hsa hsc hja hjc hx hd hX1 hdj hb0G hG hGm hgt
         go_wp2_with fail
         go_roundw
         case rel=>exact ⟨o+S,A++[(((T:Nat):Int),X)],sa,sc,ja,jc,by omega,by simp;omega,by go_num,by rw [List.length_append];rfl,by rw [List.length_append];rfl,htot,hm2,by rw [List.length_append];exact hF2.ownU,by rw [List.length_append,hpl];exact hP2,hE2⟩
         case measure=>simp [intOf];omega
     ·exact z35q17
   ·obtain rfl:o=n:=by omega
    have i2:¬ (o:Int)<(o:Int):=by omega
    have er:=Lib.hid (show r=(A,0) by rw [hm.out,List.drop_of_length_le (by omega),decR_nil];simp [preR])
    go_wp2_with fail
    refine bodyPost_ret (v := .tuple #[.slice la A.length lc, .slice pa A.length pc, .int .i64 0]) (by simp [results,Tryz.results101,go_sem]) rfl ?_
    rw [er.out]
    exact ⟨la,lc,pa,pc,rfl,hF.ownI,hP,hE⟩
theorem rxdecode_any (a:Option Addr)(n c:Nat) (b:List UInt8)(w:World)(hS:Sl w a n b) (hc:n≤c) (hn:n≤1000000) :
  Calls Tryz.prog 54 #[.slice a n c] w (FldsE (decF b) w):=by
 have hw:=rwalk_any a n c b w hS hc hn
 generalize decF b=r at *
 go_enter Tryz.func54,Tryz.ntmps54
 go_wp2_with fail
 (with_reducible refine hw.mono ?_)
 rintro e w1 ⟨a1,c1,a2,c2,rfl,h1,h2,hx⟩
 go_wp2_with fail
 refine bodyPost_ret (v := .tuple #[.slice a1 r.1.length c1, .int .i64 r.2]) (by simp [results,Tryz.results54,go_sem]) rfl ?_
 exact ⟨a1,c1,rfl,h1,hx⟩
def PlcE (r:List Fld × Int) (w:World)(e:Ending) (w':World):Prop:=∃ b d,e = .returned (.tuple #[.slice b r.1.length d, .int .i64 r.2])∧OwnJ w' w.heap.size b r.1.length d (plcL r.1)∧Ext w w'
theorem rxplaces_any (a:Option Addr)(n c:Nat) (b:List UInt8)(w:World)(hS:Sl w a n b) (hc:n≤c) (hn:n≤1000000) :
  Calls Tryz.prog 52 #[.slice a n c] w (PlcE (decF b) w):=by
 have hw:=rwalk_any a n c b w hS hc hn
 generalize decF b=r at *
 go_enter Tryz.func52,Tryz.ntmps52
 go_wp2_with fail
 (with_reducible refine hw.mono ?_)
 rintro e w1 ⟨a1,c1,a2,c2,rfl,h1,h2,hx⟩
 go_wp2_with fail
 refine bodyPost_ret (v := .tuple #[.slice a2 r.1.length c2, .int .i64 r.2]) (by simp [results,Tryz.results52,go_sem]) rfl ?_
 exact ⟨a2,c2,rfl,h2,hx⟩
set_option maxHeartbeats 1000000 in
theorem rxfind_any (t:Int) (a:Option Addr)(n c:Nat) (L:List Fld) (w:World)(hI:Ib w a n L) (hn:n≤1000000) :
  Calls Tryz.prog 40 #[.slice a n c, .int .i64 t] w fun e w'=>∃ b d,e = .returned (.slice b (ixs t L L.length).length d)∧OwnJ w' w.heap.size b (ixs t L L.length).length d ((ixs t L L.length).map fun i=>((i:Nat):Int))∧Ext w w':=by
 have hl:=hI.len
 obtain ⟨R,hR⟩:∃ R,ixs t L L.length=R:=⟨_,rfl⟩
 rw [hR]
 replace hR:=Lib.hid hR
 go_enter Tryz.func40,Tryz.ntmps40
 go_wp2_with fail
 go_loopw [5,6] (fun v5 v6 wr=>∃ (k:Nat) (M:List Nat) (b:Option Addr)(d:Nat),k≤n∧v6 = .int .i64 k∧Hid (ixs t L k=M)∧M.length≤k∧v5 = .slice b M.length d∧OwnJ wr w.heap.size b M.length d (M.map fun i=>((i:Nat):Int))∧Ext w wr) (fun _ v6 _=>n-(intOf v6).toNat)
 case atStart=>exact ⟨0,[],none,0,by omega,rfl,Lib.hid (ixs_zero t L),by simp,rfl,OwnJ.nil _ _,Ext.refl _⟩
 case round =>
  obtain ⟨k,M,b,d,hk,rfl,hM,hMk,rfl,hO,hx⟩:=hrel
  by_cases hlt:k<n
  ·obtain ⟨y,hxi⟩:∃ y,L[k]?=some y:=⟨_,List.getElem?_eq_getElem (by omega)⟩
   obtain ⟨b0,o0,g',c',rfl,hb0,hc0,hc1,hSk,hck⟩:=(hI.ext hx).at k hlt _ hxi
   have hyd:L.getD k (0,[])=y:=by rw [List.getD_eq_getElem?_getD,hxi];rfl
   have i0:(0:Int)≤(k:Int):=by omega
   have i1:(k:Int)<(n:Int):=by omega
   haveI:=hb0
   by_cases ht:y.1=t
   ·have it:(y.1 == t)=true:=by rw [beq_iff_eq];exact ht
    have hM2:=Lib.hid (show ixs t L (k+1)=M++[k] by rw [ixs_yes (by rw [hyd];exact ht),hM.out])
    clear ht hyd
    have hxw:=hx.size
    go_wp2_with (first
     | (at_builtin;refine wpList_append_j rfl _ _ rfl w.heap.size b M.length d (M.map fun i=>((i:Nat):Int)) rfl wr.heap.size 1 k rfl (hO.ext (Ext.of_alloc _ _)) (Blk.new wr #[.int .i64 k] 3).rd (by omega) (Nat.le_trans hxw (Ext.of_alloc wr (.cells #[.int .i64 k] 3)).size) ?_;intro sa sc w2 hO2 hg2 hB2)
     | fail)
    go_roundw
    case rel=>exact ⟨k+1,M++[k],sa,sc,by omega,by go_num,hM2,by simp;omega,by rw [List.length_append];rfl,by rw [List.length_append,List.map_append];exact hO2,Below.trans (hx.alloc _) hB2⟩
    case measure=>simp [intOf];omega
   ·have it:(y.1 == t)=false:=by rw [beq_eq_false_iff_ne];exact ht
    have hM2:=Lib.hid (show ixs t L (k+1)=M by rw [ixs_no (by rw [hyd];exact ht),hM.out])
    clear ht hyd
    go_wp2_with fail
    go_roundw
    case rel=>exact ⟨k+1,M,b,d,by omega,by go_num,hM2,by omega,rfl,hO,hx⟩
    case measure=>simp [intOf];omega
  ·obtain rfl:k=n:=by omega
   have i1:¬ (k:Int)<(k:Int):=by omega
   have hRM:R=M:=by rw [← hR.out,hl,hM.out]
   go_wp2_with fail
   refine bodyPost_ret (v := .slice b M.length d) (by simp [results,Tryz.results40,go_sem]) rfl ?_
   exact ⟨b,d,rfl,hO,hx⟩
end Go.Proofs.YtdmifbfgeeldnaaGreat

/- The walks of layer 17 of the document: Size, Encode. -/
namespace Go.Pkt
theorem totN_take {L:List Fld} (h:badE L=0) (j:Nat):totN (L.take j)≤1232*j:=by
 induction j with
 | zero=>simp [totN]
 | succ j ih =>
  by_cases hj:j<L.length
  ·rw [List.take_succ_eq_append_getElem hj,totN_snoc]
   have:=(badE_ok h _ (List.getElem_mem hj)).2
   omega
  ·rw [List.take_of_length_le (by omega)] at ih ⊢
   omega
end Go.Pkt
namespace Go.Sec
open Go.RowKit
def slLen:Value→Nat
 | .slice _ m _=>m
 | _=>0
theorem Own.belowB {w w':World} {base n c B:Nat} {a:Option Addr} {l:List UInt8} (h:Own w base a n c l) (hx:Below B w w') (hlt:∀ g,(Value.slice a n c).ownBlock=some g→g<B):Own w' base a n c l:=by
 refine ⟨h.1,h.2.1,?_⟩
 rcases h.2.2 with h1|⟨g',cap,cur,hv,hb,hh,r⟩
 ·exact .inl h1
 ·refine .inr ⟨g',cap,cur,hv,hb,?_,r⟩
  rw [hx.block g' (hlt g' (by rw [hv];rfl))]
  exact hh
end Go.Sec
namespace Go.Proofs.YtdmifbfgeeldnaaGreat
open Go.RowKit Go.Sec Go.Oct Go.Pkt BigFrame
set_option maxHeartbeats 1000000 in
theorem rxSize_any (f:Fld) (a:Option Addr)(c:Nat) (w:World)(h:f.2.length≤1000000000) :
  Calls Tryz.prog 83 #[.agg #[.int .i64 f.1, .slice a f.2.length c]] w fun e w'=>e = .returned (.tuple #[.int .i64 (sizE f).1, .int .i64 (sizE f).2])∧Ext w w':=by
 obtain ⟨t,l⟩:=f
 simp only at h ⊢
 have es:max (16:Int) ((4+(l.length:Int)+3) / 4*4)=(szN l.length:Nat):=by unfold szN;omega
 have hge:=szN_ge l.length
 by_cases h1:t<0
 ·have er:=Lib.hid (show sizE (t,l)=(0,4) by unfold sizE;rw [if_pos (.inl h1)])
  clear es
  go_enter Tryz.func83,Tryz.ntmps83
  go_wp2_with fail
  go_ret2
  exact ⟨by rw [er.out];rfl,eX⟩
 ·by_cases h2:65535<t
  ·have er:=Lib.hid (show sizE (t,l)=(0,4) by unfold sizE;rw [if_pos (.inr h2)])
   clear es
   go_enter Tryz.func83,Tryz.ntmps83
   go_wp2_with fail
   go_ret2
   exact ⟨by rw [er.out];rfl,eX⟩
  ·by_cases h3:1232<l.length
   ·have er:=Lib.hid (show sizE (t,l)=(0,2) by unfold sizE;rw [if_neg (by simp;omega),if_pos (by simp only;omega)])
    have i3:(1232:Int)<(l.length:Int):=by omega
    clear es
    go_enter Tryz.func83,Tryz.ntmps83
    go_wp2_with fail
    go_ret2
    exact ⟨by rw [er.out];rfl,eX⟩
   ·have i3:¬ (1232:Int)<(l.length:Int):=by omega
    by_cases h4:1232<szN l.length
    ·have er:=Lib.hid (show sizE (t,l)=(0,2) by unfold sizE;rw [if_neg (by simp;omega),if_pos h4])
     have i4:(1232:Int)<max (16:Int) ((4+(l.length:Int)+3) / 4*4):=by omega
     clear es
     go_enter Tryz.func83,Tryz.ntmps83
     go_wp2_with fail
     go_ret2
     exact ⟨by rw [er.out];rfl,eX⟩
    ·have er:=Lib.hid (show sizE (t,l)=(((szN l.length:Nat):Int),0) by unfold sizE;rw [if_neg (by simp;omega),if_neg h4])
     have i4:¬ (1232:Int)<max (16:Int) ((4+(l.length:Int)+3) / 4*4):=by omega
     have es:=Lib.hid es
     go_enter Tryz.func83,Tryz.ntmps83
     go_wp2_with fail
     go_ret2
     exact ⟨by rw [er.out,← es.out];rfl,eX⟩
set_option maxHeartbeats 2000000 in
theorem rxencode_any (a:Option Addr)(n c:Nat) (L:List Fld) (w:World)(hI:Ib w a n L) (hn:n≤1000000) (hL:∀ f∈L,f.2.length≤1000000) :
  Calls Tryz.prog 39 #[.slice a n c] w (Read2 (encF L).1.length (encF L).1 (.int .i64 (encF L).2) w):=by
 have hl:=hI.len
 obtain ⟨r,hr⟩:∃ r,encF L=r:=⟨_,rfl⟩
 rw [hr]
 have hr:=Lib.hid hr
 have hp2:∀ (v:UInt64) (vI:Int),vI=n64 v→∀ W,Calls Tryz.prog 45 #[.int .u64 vI, .int .i64 2] W (Fresh 2 (putL 2 v) W):=fun v vI hv W=>by subst hv;exact put_any v 2 W (by omega)
 go_enter Tryz.func39,Tryz.ntmps39
 go_wp2_with fail
 go_loopw [4,5,6,7] (fun v4 v5 _ _ wr=>∃ k:Nat,k≤n∧v5 = .int .i64 k∧v4 = .int .i64 (totN (L.take k):Nat)∧totN (L.take k)≤1232*k∧Hid (badE (L.take k)=0)∧Ext w wr) (fun _ v5 _ _ _=>n-(intOf v5).toNat)
 case atStart=>exact ⟨0,by omega,rfl,rfl,by simp [totN],Lib.hid rfl,Ext.refl _⟩
 case round =>
  obtain ⟨k,hk,rfl,rfl,hkt,hbad,hx⟩:=hrel
  by_cases hlt:k<n
  ·obtain ⟨x,hxi⟩:∃ x,L[k]?=some x:=⟨_,List.getElem?_eq_getElem (by omega)⟩
   have hxl:=hL x (List.mem_of_getElem? hxi)
   obtain ⟨b0,o0,g',c',rfl,hb0,hc0,hc1,hSk,hck⟩:=(hI.ext hx).at k hlt _ hxi
   have hrd:=rd2 hb0.lt hc0 hc1
   have i0:(0:Int)≤(k:Int):=by omega
   have i1:(k:Int)<(n:Int):=by omega
   have hsz:=fun W=>rxSize_any x g' c' W (by omega)
   have hts:=Lib.hid (take_at hxi)
   haveI:=hb0
   by_cases he:(sizE x).2=0
   ·obtain ⟨-,hzz,hze⟩:=sizE_ok he
    have htt:=totN_snoc (L.take k) x
    rw [← hts.out] at htt
    have hb2:=Lib.hid (show badE (L.take (k+1))=0 by rw [hts.out,badE_app _ _ hbad.out,badE,if_neg (by simpa using he)];rfl)
    rw [hze] at hsz
    generalize szN x.2.length=N at *
    clear he hze
    go_wp2_with (first
     | (refine wpList_load_arr (RF2) rfl _ rfl (b0) (o0+k*2) rfl ([.int .i64 x.1, .slice g' x.2.length c']) (hrd) (rfl) ?_)
     | (go_at_call 83;refine (hsz _).mono ?_;rintro e w1 ⟨rfl,hxq⟩;obtain ⟨xq,rfl⟩:=hxq.out;clear hxq)
     | fail)
    go_roundw
    case rel=>exact ⟨k+1,by omega,by go_num,by rw [htt];go_num,by omega,hb2,hx.trans eX⟩
    case measure=>simp [intOf];omega
   ·have he2:=Lib.hid (show r=([],(sizE x).2) by
     rw [← hr.out];unfold encF;rw [badE_at hxi hbad.out he,if_pos he])
    have hne:((sizE x).2 != 0)=true:=by rw [bne_iff_ne];exact he
    generalize (sizE x).2=ev at *
    generalize (sizE x).1=sv at *
    clear he
    go_wp2_with (first
     | (refine wpList_load_arr (RF2) rfl _ rfl (b0) (o0+k*2) rfl ([.int .i64 x.1, .slice g' x.2.length c']) (hrd) (rfl) ?_)
     | (go_at_call 83;refine (hsz _).mono ?_;rintro e w1 ⟨rfl,hxq⟩;obtain ⟨xq,rfl⟩:=hxq.out;clear hxq)
     | fail)
    go_ret2
    rw [he2.out]
    exact read2_err _ _ _ (hx.trans eX)
  ·obtain rfl:k=n:=by omega
   rw [List.take_of_length_le (by omega)] at *
   by_cases h24:24<k
   ·exact z32q41
   ·have i24:¬ (24:Int)<(k:Int):=by omega
    by_cases hlo:1232<totN L
    ·have er:=Lib.hid (show r=([],2) by rw [← hr.out];unfold encF;rw [hbad.out,if_neg (by simp),if_neg (by omega),if_pos hlo])
     have il:(1232:Int)<(totN L:Nat):=by omega
     go_wp2_with fail
     go_ret2
     rw [er.out]
     exact read2_err _ _ _ hx
    ·have er:=Lib.hid (show r=(bytesF L,0) by rw [← hr.out];unfold encF;rw [hbad.out,if_neg (by simp),if_neg (by omega),if_neg hlo])
     have il:¬ (1232:Int)<(totN L:Nat):=by omega
     have hbl2:=bytesF_length L
     have hxr:=hx
     have hxw:=hx.size
     have hbd:=Lib.hid hbad.out
     go_wp2_with fail
     clear hr hbad hx
     refine nameW ?_
     intro W0 hW0
     have hO0:Own W0 w.heap.size (some ⟨wr.heap.size,0,none⟩) 0 0 []:=by rw [hW0];exact (own_empty wr).mono hxw
     have hx0:Ext w W0:=by rw [hW0];exact hxr.alloc _
     clear hW0
     go_loopw [8,9,10,11,12] (fun v8 v9 _ _ _ wr=>∃ (j:Nat) (sa:Option Addr)(sc:Nat),j≤k∧v9 = .int .i64 j∧v8 = .slice sa (totN (L.take j)) sc∧Own wr w.heap.size sa (totN (L.take j)) sc (bytesF (L.take j))∧Ext w wr) (fun _ v9 _ _ _ _=>k-(intOf v9).toNat)
     case atStart=>exact ⟨0,_,_,by omega,rfl,rfl,hO0,hx0⟩
     case round =>
      clear hO0 hx0 hxr hxw
      obtain ⟨j,sa,sc,hj,rfl,rfl,hO,hx⟩:=hrel
      by_cases hlt:j<k
      ·obtain ⟨y,hxi⟩:∃ y,L[j]?=some y:=⟨_,List.getElem?_eq_getElem (by omega)⟩
       have hxl:=hL y (List.mem_of_getElem? hxi)
       obtain ⟨⟨t0,t1⟩,hzz⟩:=badE_ok hbd.out y (List.mem_of_getElem? hxi)
       obtain ⟨b0,o0,g',c',rfl,hb0,hc0,hc1,hSk,hck⟩:=(hI.ext hx).at j hlt _ hxi
       have hrd:=rd2 hb0.lt hc0 hc1
       have i0:(0:Int)≤(j:Int):=by omega
       have i1:(j:Int)<(k:Int):=by omega
       have hsz:=fun W=>rxSize_any y g' c' W (by omega)
       have hts:=Lib.hid (take_at hxi)
       have htt:=totN_snoc (L.take j) y
       rw [← hts.out] at htt
       have hze:sizE y=(((szN y.2.length:Nat):Int),0):=by unfold sizE;rw [if_neg (by omega),if_neg (by omega)]
       rw [hze] at hsz
       have hzg:=szN_ge y.2.length
       obtain ⟨N,hN⟩:∃ N,szN y.2.length=N:=⟨_,rfl⟩
       have hfB:fldB y=putL 2 (UInt64.ofNat y.1.toNat)++(putL 2 (UInt64.ofNat N)++y.2)++List.replicate (N-(4+y.2.length)) 0:=by
        unfold fldB;rw [hN,show N-4-y.2.length=N-(4+y.2.length) by omega];simp [List.append_assoc]
       have hfB:=Lib.hid hfB
       rw [hN] at hsz hzz hzg htt
       have hN:=Lib.hid hN
       haveI:=hb0
       clear hze
       go_wp2_with (first
        | (refine wpList_load_arr (RF2) rfl _ rfl (b0) (o0+j*2) rfl ([.int .i64 y.1, .slice g' y.2.length c']) (hrd) (rfl) ?_)
        | (go_at_call 83;refine (hsz _).mono ?_;rintro e w1 ⟨rfl,hxq⟩;obtain ⟨xq,rfl⟩:=hxq.out;clear hxq)
        | fail)
       refine nameW ?_
       intro W hW
       have hxW:Ext wr W:=by rw [hW];exact eX
       have hc0:=(hxW.cell (p:=⟨b0,_,none⟩) hb0.lt).trans hc0
       have hc1:=(hxW.cell (p:=⟨b0,_,none⟩) hb0.lt).trans hc1
       have hSW:=hSk.ext hxW
       have hOW:=hO.ext hxW
       have hxw:=hx.trans hxW
       have hbW:BlkLt b0 W:=⟨Nat.lt_of_lt_of_le hb0.lt hxW.size⟩
       clear hW hxW hrd hO hx hSk
       haveI:=hbW
       have hv1:IntKind.u64.wrap y.1=n64 (UInt64.ofNat y.1.toNat):=by rw [IntKind.wrap_u64];unfold n64;rw [UInt64.toNat_ofNat'];omega
       have hv2:IntKind.u64.wrap (N:Int)=n64 (UInt64.ofNat N):=by rw [IntKind.wrap_u64];unfold n64;rw [UInt64.toNat_ofNat'];omega
       have hpa:=hp2 _ _ hv1
       have hpb:=hp2 _ _ hv2
       clear hv1 hv2
       refine wp_region_vague 15 [[],[],[0,1],[0,1,2],[0,1,2,3],[0,1,2,3,4],[0,1,2,3,4,5],[],[7],[0,1,2,3,4,5,6,7,8],[],[],[10,11],[10,11,12],[10,11,12,13],[0,1,2,3,4,5,6,7,8,9,10,11,12,13,14],[0,1,2,3,4,5,6,7,8,9,10,11,12,13,14,15],[0,1,2,3,4,5,6,7,8,9,10,11,12,13,14,15,16]] (by kernel_rfl) (by kernel_rfl) (by kernel_rfl) (by kernel_rfl) ?_;simp only [q8q,q9q,q10q,q11q,q12q,q13q]
       (repeat (refine VD_a ?_;(try simp only [Act.put,q0q,q1q,q2q])))
       (refine VD_vag (fun p => .slice (p 0).1 (2) (p 0).2) (fun p w''=>Own w'' 0 (p 0).1 (2) (p 0).2 (putL 2 (UInt64.ofNat y.1.toNat))) (fun p w w' h hx=>h.ext hx) (fun us w' hx hf=>⟨rfl,?_⟩) ?_;(unfold gives;simp [go_sem,execOp];exact vag_fresh (Nat.zero_le _) (hpa _)))
       (repeat (refine VD_a ?_;(try simp only [Act.put,q0q,q1q,q2q])))
       (refine VD_vag (fun p => .slice (p 0).1 (2) (p 0).2) (fun p w''=>Own w'' 0 (p 0).1 (2) (p 0).2 (putL 2 (UInt64.ofNat N))) (fun p w w' h hx=>h.ext hx) (fun us w' hx hf=>⟨rfl,?_⟩) ?_;(unfold gives;simp [go_sem,execOp];exact vag_fresh (Nat.zero_le _) (hpb _)))
       (repeat (refine VD_a ?_;(try simp only [Act.put,q0q,q1q,q2q])))
       (refine VD_z ?_;intro us x hx hf;(try simp only [Act.put,q0q,q1q,q2q,wpList_none]);(try simp only [q3q,q4q,or_false,forall_eq_or_imp,forall_eq,q5q,q6q,q7q,false_or,true_and,and_true] at hf);(try simp only [Nat.reduceAdd,Nat.zero_add] at hf ⊢))
       have hw1:IntKind.u64.wrap y.1=y.1:=by rw [IntKind.wrap_u64];omega
       have hw2:IntKind.u64.wrap (N:Int)=(N:Int):=by clear hw1;rw [IntKind.wrap_u64];omega
       simp only [hw1,hw2]
       clear hw1 hw2
       obtain ⟨hP1,hP2⟩:=hf
       obtain ⟨p1,hp1'⟩:∃ a,(us 6 0).1=a:=⟨_,rfl⟩
       obtain ⟨q1,hq1'⟩:∃ a,(us 6 0).2=a:=⟨_,rfl⟩
       obtain ⟨p2,hp2'⟩:∃ a,(us 9 0).1=a:=⟨_,rfl⟩
       obtain ⟨q2,hq2'⟩:∃ a,(us 9 0).2=a:=⟨_,rfl⟩
       rw [hp1',hq1'] at hP1 ⊢
       rw [hp2',hq2'] at hP2 ⊢
       clear hp1' hq1' hp2' hq2' hpa hpb
       have hxx:Ext W (W.ext x):=Ext.of_ext _ _
       have hSW:=hSW.ext hxx
       have hOW:=hOW.ext hxx
       have hxw:=hxw.trans hxx
       generalize W.ext x=W at *
       have hJl:(joinL [putL 2 (UInt64.ofNat y.1.toNat),putL 2 (UInt64.ofNat N),y.2]).length=4+y.2.length:=by rw [joinL3];simp only [List.length_append,putL_length];omega
       have hJ:=Lib.hid (joinL3 (putL 2 (UInt64.ofNat y.1.toNat)) (putL 2 (UInt64.ofNat N)) y.2)
       go_wp2_with fail
       (with_reducible refine (join_any _ _ _ _ _ (bss3 hP1.sl hP2.sl hSW _) (by omega) (4+y.2.length) hJl (by omega)).mono ?_)
       rintro e w9 ⟨a9,c9,rfl,hO9,hx9⟩
       rw [hJ.out] at hO9
       have hx9:Ext W w9:=(Ext.of_alloc _ _).trans hx9
       have hO9:=hO9.mono (show W.heap.size≤_ from (Ext.of_alloc _ _).size)
       have hOW9:=hOW.ext hx9
       have hxw9:=hxw.trans hx9
       have hne:=fun g hg=>(own_lt hOW.2 g hg).2
       clear hP1 hP2 hSW hJl hJ hOW hxx
       go_wp2_with fail
       go_loopw [12] (fun v12 w3=>∃ (m:Nat) (sb:Option Addr)(sd:Nat),4+y.2.length≤m∧m≤N∧v12 = .slice sb m sd∧Own w3 W.heap.size sb m sd (putL 2 (UInt64.ofNat y.1.toNat)++(putL 2 (UInt64.ofNat N)++y.2)++List.replicate (m-(4+y.2.length)) 0)∧Below W.heap.size w9 w3) (fun v12 _=>N-slLen v12)
       case atStart=>exact ⟨4+y.2.length,a9,c9,Nat.le_refl _,by omega,rfl,by simpa using hO9,Below.refl _ _⟩
       case round =>
        clear hO9
        obtain ⟨m,sb,sd,hm0,hm1,rfl,hOb,hbl⟩:=hrel
        have hsz3:=Nat.le_trans hx9.size hbl.size
        by_cases hmn:m<N
        ·have im:(m:Int)<(N:Int):=by omega
         have HS:=Lib.hid (show m+1-(4+y.2.length)=(m-(4+y.2.length))+1 by omega)
         go_wp2_with (at_builtin;refine wpList_append_by U rfl _ _ rfl W.heap.size sb _ sd _ rfl _ 1 1 _ rfl (hOb.ext eX) (sl_new1 _ 0 _) (by omega) (by simp;omega) ?_;intro sa2 sc2 w2 hO2 hg2 hB2)
         go_roundw
         case rel=>exact ⟨m+1,sa2,sc2,by omega,by omega,rfl,by rw [HS.out,List.replicate_succ',← List.append_assoc];exact hO2,Below.trans (Below.trans hbl ((Ext.of_alloc _ _).mono hsz3)) hB2⟩
         case measure=>show N-(m+1)<N-m;omega
        ·obtain rfl:m=N:=by omega
         have hmi:¬ (m:Int)<(m:Int):=by omega
         rw [← hfB.out] at hOb
         have hO3:=hOW9.belowB hbl hne
         have hE3:=Below.trans hxw9 (hbl.mono hxw.size)
         have hjt:totN (L.take j)≤1232*j:=totN_take hbd.out j
         go_wp2_with (at_builtin;refine wpList_append_by U rfl _ _ rfl w.heap.size sa _ sc _ rfl sb m sd _ rfl hO3 hOb.sl (by omega) hE3.size ?_;intro sa2 sc2 w2 hO2 hg2 hB2)
         go_roundw
         case rel=>exact ⟨j+1,sa2,sc2,by omega,by go_num,by rw [htt],by rw [htt,hts.out,bytesF_snoc];exact hO2,Below.trans hE3 hB2⟩
         case measure=>simp [intOf];omega
      ·obtain rfl:j=k:=by omega
       have hki:¬ (j:Int)<(j:Int):=by omega
       rw [List.take_of_length_le (by omega)] at hO
       go_wp2_with fail
       go_ret2
       rw [er.out]
       exact ⟨sa,sc,by rw [hbl2];rw [List.take_of_length_le (by omega)];rfl,by rw [hbl2];exact hO.sl,by rw [hbl2];exact hO.le.1,hx⟩
end Go.Proofs.YtdmifbfgeeldnaaGreat

/- The walks of layer 18 of the document: guard, Bare, Read. -/
namespace Go.Proofs.YtdmifbfgeeldnaaGreat
open Go.RowKit Go.Sec Go.Oct Go.Pkt Go.Aes BigFrame
theorem rput_eq (v:UInt64) {vI:Int} (h:vI=n64 v) (W:World):Calls Tryz.prog 45 #[.int .u64 vI, .int .i64 2] W (Fresh 2 (putL 2 v) W):=by
 subst h
 exact put_any v 2 W (by omega)
theorem rpad4_any (a:Option Addr)(n c:Nat) (l:List UInt8)(w:World)(h:Sl w a n l) (hn:n≤1000000):Calls Tryz.prog 87 #[.slice a n c, .int .i64 4] w (Fresh (pad4 n) (padL l 4) w):=by
 have:=pad_any a n c l 4 w h hn (by omega) (by omega) (pad4 n) (by unfold pad4;omega)
 rw [padL4,h.len]
 exact this
set_option maxHeartbeats 4000000 in
theorem rgbytes_any (a1 a2:Option Addr)(n1 c1 n2 c2:Nat) (u v:List UInt8)(w:World)(h1:Sl w a1 n1 u) (h2:Sl w a2 n2 v) (m1:n1≤1000000) (m2:n2≤1000000) :
  Calls Tryz.prog 43 #[.slice a1 n1 c1, .slice a2 n2 c2] w (Fresh (4+pad4 n1+pad4 n2) (guardB u v) w):=by
 have l1:=h1.len
 have l2:=h2.len
 have hv1:(n1:Int)=n64 (UInt64.ofNat n1):=by unfold n64;rw [UInt64.toNat_ofNat'];omega
 have hv2:(n2:Int)=n64 (UInt64.ofNat n2):=by unfold n64;rw [UInt64.toNat_ofNat'];omega
 have hpa:=fun W=>rput_eq (UInt64.ofNat n1) hv1 W
 have hpb:=fun W=>rput_eq (UInt64.ofNat n2) hv2 W
 have hG:joinL [putL 2 (UInt64.ofNat n1),putL 2 (UInt64.ofNat n2),padL u 4,padL v 4]=guardB u v:=by unfold guardB;rw [joinL4,l1,l2]
 have hGl:(joinL [putL 2 (UInt64.ofNat n1),putL 2 (UInt64.ofNat n2),padL u 4,padL v 4]).length=4+pad4 n1+pad4 n2:=by rw [hG,guardB_length,l1,l2]
 have HG:=Lib.hid hG
 clear hG hv1 hv2 l1 l2
 go_enter Tryz.func43,Tryz.ntmps43
 go_wp2_with fail
 (with_reducible refine (hpa _).mono ?_);rintro e v1 ⟨p1,q1,rfl,hO1,hx1⟩
 go_wp2_with fail
 (with_reducible refine (hpb _).mono ?_);rintro e v2 ⟨p2,q2,rfl,hO2,hx2⟩
 have hE2:=hx1.trans hx2
 go_wp2_with fail
 (with_reducible refine (rpad4_any a1 n1 c1 u _ (h1.ext hE2) m1).mono ?_);rintro e v3 ⟨p3,q3,rfl,hO3,hx3⟩
 have hE3:=hE2.trans hx3
 go_wp2_with fail
 (with_reducible refine (rpad4_any a2 n2 c2 v _ (h2.ext hE3) m2).mono ?_);rintro e v4 ⟨p4,q4,rfl,hO4,hx4⟩
 have hE4:=hE3.trans hx4
 have s1:=((hO1.sl.ext hx2).ext hx3).ext hx4
 have s2:=(hO2.sl.ext hx3).ext hx4
 have s3:=hO3.sl.ext hx4
 have s4:=hO4.sl
 clear hpa hpb
 go_wp2_with fail
 (with_reducible refine (join_any _ _ _ _ _ (bss4 s1 s2 s3 s4 _) (by omega) _ hGl (by unfold pad4;omega)).mono ?_)
 rintro e w9 ⟨a9,c9,rfl,hO9,hx9⟩
 rw [HG.out] at hO9
 go_wp2_with fail
 go_ret
 have hx8:=hE4.trans ((Ext.of_alloc _ _).trans hx9)
 exact ⟨a9,c9,rfl,hO9.mono (Nat.le_trans hE4.size (Ext.of_alloc _ _).size),hx8⟩
set_option maxHeartbeats 2000000 in
theorem rpread_any (a:Option Addr)(n c:Nat) (b:List UInt8)(w:World)(hS:Sl w a n b) (hc:n≤c) (hn:n≤1000000) :
  Calls Tryz.prog 23 #[.slice a n c] w (ReadOut (readE b) w):=by
 have hl:=hS.len
 have hdh:=fun W H=>rhdecode_any a n c b W H hc hn
 have hrl:=decH_rest (b:=b)
 obtain ⟨r,hr⟩:∃ r,readE b=r:=⟨_,rfl⟩
 rw [hr]
 have hr:=Lib.hid hr
 go_enter Tryz.func23,Tryz.ntmps23
 go_wp2_with fail
 refine nameCl ?_
 intro W hW
 have hE:Ext w W:=by rw [hW];exact eX
 have hP:Blk W w.heap.size 32 [.int .i64 0, .int .i64 0, .int .i64 0, .int .i64 0, .int .i64 0, .int .i64 0, .int .u32 0, .int .u32 0, .int .u32 0, .int .u64 0, .int .u64 0, .int .u64 0, .int .u64 0, .slice none 0 0, .slice none 0 0, .bool false]:=by rw [hW];exact bK
 clear hW
 (with_reducible refine (hdh W (hS.ext hE)).mono ?_)
 rintro e w1 ⟨b1,d1,rfl,hS1,hd1,hx1⟩
 have hE1:=hE.trans hx1
 have hP1:=hP.extB hx1
 haveI:=hP1.blt
 clear hE hP hx1 hdh
 by_cases q1:(decH b).2=0
 ·rw [q1]
  have hdf:=fun W H=>rxdecode_any b1 (decH b).1.2.length d1 (decH b).1.2 W H hd1 (by omega)
  have hok:=fun h=>readE_ok q1 h
  have hbad:=fun h=>readE_flds q1 h
  generalize (decH b).1.2=R at *
  generalize (decH b).1.1=H at *
  go_wp2_with (first
   | (refine wpList_alloc_store (RH13) rfl rfl _ _ rfl rfl rfl rfl (by simp [Act.put]) ([.int .i64 H.leap, .int .i64 H.ver, .int .i64 H.mode, .int .i64 H.strat, .int .i64 H.poll, .int .i64 H.prec, .int .u32 (n32 H.rd), .int .u32 (n32 H.rp), .int .u32 (n32 H.id), .int .u64 (n64 H.ref), .int .u64 (n64 H.org), .int .u64 (n64 H.rcv), .int .u64 (n64 H.tx)]) rfl (by simp) (rfl) (oC) ?_;intro x hz _)
   | fail)
  refine nameCl ?_
  intro W2 hW2
  have hx2:Ext w1 W2:=by rw [hW2];exact eX
  have hzz:Blk W2 w1.heap.size 27 [.int .i64 H.leap, .int .i64 H.ver, .int .i64 H.mode, .int .i64 H.strat, .int .i64 H.poll, .int .i64 H.prec, .int .u32 (n32 H.rd), .int .u32 (n32 H.rp), .int .u32 (n32 H.id), .int .u64 (n64 H.ref), .int .u64 (n64 H.org), .int .u64 (n64 H.rcv), .int .u64 (n64 H.tx)]:=by rw [hW2];exact hz.extB eX
  have hP2:=hP1.extB hx2
  have hE2:=hE1.trans hx2
  have hS2:=hS1.ext hx2
  have hlt:=hP1.lt
  clear hW2 hx2 hE1 hP1 hS1
  (with_reducible refine (hdf W2 hS2).mono ?_)
  rintro e w3 ⟨b3,d3,rfl,hO3,hx3⟩
  have hP3:=hP2.extB hx3
  have hz3:=hzz.extB hx3
  have hE3:=hE2.trans hx3
  haveI:=hP3.blt
  clear hP2 hE2 hdf hz hzz hx3
  by_cases q2:(decF R).2=0
  ·rw [q2]
   have er:=Lib.hid (show r=(⟨H,(decF R).1,[],false⟩,0) by rw [← hr.out];exact hok q2)
   clear hok hbad q2
   generalize (decF R).1=L at *
   go_wp2_with (first
    | (refine wpList_load_arr (RH13) rfl _ rfl (w1.heap.size) (0) rfl ([.int .i64 H.leap, .int .i64 H.ver, .int .i64 H.mode, .int .i64 H.strat, .int .i64 H.poll, .int .i64 H.prec, .int .u32 (n32 H.rd), .int .u32 (n32 H.rp), .int .u32 (n32 H.id), .int .u64 (n64 H.ref), .int .u64 (n64 H.org), .int .u64 (n64 H.rcv), .int .u64 (n64 H.tx)]) ((hz3.extB eX).rd) (rfl) ?_)
    | (refine wpList_store_arr (RP16) rfl _ _ rfl (w.heap.size) (0) rfl ([.int .i64 H.leap, .int .i64 H.ver, .int .i64 H.mode, .int .i64 H.strat, .int .i64 H.poll, .int .i64 H.prec, .int .u32 (n32 H.rd), .int .u32 (n32 H.rp), .int .u32 (n32 H.id), .int .u64 (n64 H.ref), .int .u64 (n64 H.org), .int .u64 (n64 H.rcv), .int .u64 (n64 H.tx), .slice b3 L.length d3, .slice none 0 0, .bool false]) rfl (32) _ ((hP3.extB eX)) (rfl) (by simp) (oC) ?_;intro V hV hMV)
    | fail)
   refine bodyPost_ret (results_arr_tmp Tryz.results23 (RP16) _ _ (w.heap.size) (0) ([.int .i64 H.leap, .int .i64 H.ver, .int .i64 H.mode, .int .i64 H.strat, .int .i64 H.poll, .int .i64 H.prec, .int .u32 (n32 H.rd), .int .u32 (n32 H.rp), .int .u32 (n32 H.id), .int .u64 (n64 H.ref), .int .u64 (n64 H.org), .int .u64 (n64 H.rcv), .int .u64 (n64 H.tx), .slice b3 L.length d3, .slice none 0 0, .bool false]) rfl (hV.rd) (rfl) (.int .i64 0) rfl) rfl ?_
   rw [er.out]
   exact ⟨b3,d3,rfl,⟨_,hO3.mut hP3 (by decide) (by simp) hMV⟩,Below.trans hE3 (hMV.below (Nat.le_refl _) hE3.size)⟩
  ·have er:=Lib.hid (show r=(zeroP,(decF R).2) by rw [← hr.out];exact hbad q2)
   have i2:=ne0 q2
   generalize (decF R).2=v at *
   generalize (decF R).1=L at *
   clear q2 hok hbad
   go_wp2_with (first
    | (refine wpList_store_arr (RP16) rfl _ _ rfl (w.heap.size) (0) rfl ([.int .i64 0, .int .i64 0, .int .i64 0, .int .i64 0, .int .i64 0, .int .i64 0, .int .u32 0, .int .u32 0, .int .u32 0, .int .u64 0, .int .u64 0, .int .u64 0, .int .u64 0, .slice none 0 0, .slice none 0 0, .bool false]) rfl (32) _ ((hP3.extB eX)) (rfl) (by simp) (oC) ?_;intro V hV hMV)
    | fail)
   refine bodyPost_ret (results_arr_tmp Tryz.results23 (RP16) _ _ (w.heap.size) (0) ([.int .i64 0, .int .i64 0, .int .i64 0, .int .i64 0, .int .i64 0, .int .i64 0, .int .u32 0, .int .u32 0, .int .u32 0, .int .u64 0, .int .u64 0, .int .u64 0, .int .u64 0, .slice none 0 0, .slice none 0 0, .bool false]) rfl (hV.rd) (rfl) (.int .i64 v) rfl) rfl ?_
   rw [er.out]
   exact ReadOut.err _ _ _ (Below.trans (hE3.trans eX) (hMV.below (Nat.le_refl _) (Below.size (hE3.trans eX))))
 ·have er:=Lib.hid (show r=(zeroP,(decH b).2) by rw [← hr.out];exact readE_head q1)
  have i1:=ne0 q1
  generalize (decH b).2=v at *
  generalize (decH b).1.1=H at *
  clear q1
  go_wp2_with (first
   | (refine wpList_alloc_store (RH13) rfl rfl _ _ rfl rfl rfl rfl (by simp [Act.put]) ([.int .i64 H.leap, .int .i64 H.ver, .int .i64 H.mode, .int .i64 H.strat, .int .i64 H.poll, .int .i64 H.prec, .int .u32 (n32 H.rd), .int .u32 (n32 H.rp), .int .u32 (n32 H.id), .int .u64 (n64 H.ref), .int .u64 (n64 H.org), .int .u64 (n64 H.rcv), .int .u64 (n64 H.tx)]) rfl (by simp) (rfl) (oC) ?_;intro x hz _)
   | (refine wpList_store_arr (RP16) rfl _ _ rfl (w.heap.size) (0) rfl ([.int .i64 0, .int .i64 0, .int .i64 0, .int .i64 0, .int .i64 0, .int .i64 0, .int .u32 0, .int .u32 0, .int .u32 0, .int .u64 0, .int .u64 0, .int .u64 0, .int .u64 0, .slice none 0 0, .slice none 0 0, .bool false]) rfl (32) _ ((hP1.extB eX)) (rfl) (by simp) (oC) ?_;intro V hV hMV)
   | fail)
  refine bodyPost_ret (results_arr_tmp Tryz.results23 (RP16) _ _ (w.heap.size) (0) ([.int .i64 0, .int .i64 0, .int .i64 0, .int .i64 0, .int .i64 0, .int .i64 0, .int .u32 0, .int .u32 0, .int .u32 0, .int .u64 0, .int .u64 0, .int .u64 0, .int .u64 0, .slice none 0 0, .slice none 0 0, .bool false]) rfl (hV.rd) (rfl) (.int .i64 v) rfl) rfl ?_
  rw [er.out]
  exact ReadOut.err _ _ _ (Below.trans (hE1.trans eX) (hMV.below (Nat.le_refl _) (Below.size (hE1.trans eX))))
end Go.Proofs.YtdmifbfgeeldnaaGreat

/- The walks of layer 18 of the document: parts. -/
namespace Go.Pkt
open Go.Oct
theorem enc_guard {G:List UInt8} (h4:G.length % 4=0) (h12:12≤G.length) (hle:G.length≤1228):encF [(1028,G)]=(fldB (1028,G),0)∧(fldB (1028,G)).drop 4=G∧(fldB (1028,G)).length=G.length+4:=by
 have hz:szN G.length=G.length+4:=by unfold szN;omega
 have hs:(sizE (1028,G)).2=0:=by
  unfold sizE
  rw [if_neg (by simp),if_neg (by simp only [hz];omega)]
 refine ⟨?_,?_,by rw [fldB_length];exact hz⟩
 ·unfold encF
  have hb:badE [(1028,G)]=0:=by unfold badE;rw [if_neg (by simpa using hs)];rfl
  rw [hb,if_neg (by simp),if_neg (by simp),if_neg (by simp only [totN,List.map_cons,List.map_nil,List.sum_cons,List.sum_nil,hz];omega)]
  simp [bytesF]
 ·unfold fldB
  rw [show (4:Nat)=2+2 from rfl,drop_more _ _ 2 2 (putL_length _ _),drop_app _ _ _ (putL_length _ _)]
  simp only [hz]
  rw [show G.length+4-(2+2)-G.length=0 by omega]
  simp
theorem enc_guard_long {G:List UInt8} (h4:G.length % 4=0) (hgt:1228<G.length):encF [(1028,G)]=([],2):=by
 have hz:szN G.length=G.length+4:=by unfold szN;omega
 have hs:(sizE (1028,G)).2=2:=by
  unfold sizE
  rw [if_neg (by simp),if_pos (by simp only [hz];omega)]
 unfold encF
 have hb:badE [(1028,G)]=2:=by unfold badE;rw [if_pos (by rw [hs];decide),hs]
 rw [hb,if_pos (by decide)]
end Go.Pkt
namespace Go.Proofs.YtdmifbfgeeldnaaGreat
open Go.RowKit Go.Sec Go.Oct Go.Pkt Go.Aes BigFrame
def RPartsE (r:Option (List UInt8 × List UInt8)) (w:World)(e:Ending) (w':World):Prop :=
 ∃ a1 n1 c1 a2 n2 c2,e = .returned (.tuple #[.slice a1 n1 c1, .slice a2 n2 c2, .bool r.isSome])∧(∀ x,r=some x→Sl w' a1 n1 x.1∧n1≤c1∧Sl w' a2 n2 x.2∧n2≤c2)∧Ext w w'
theorem RPartsE.no (w w':World)(hx:Ext w w'):RPartsE none w (.returned (.tuple #[.slice none 0 0, .slice none 0 0, .bool false])) w':=⟨none,0,0,none,0,0,rfl,fun _ h=>(by cases h),hx⟩
set_option maxHeartbeats 2000000 in
theorem rparts_any (a:Option Addr)(k c:Nat) (d:List UInt8)(w:World)(hS:Sl w a k d) (hc:k≤c) (hk:k≤1228) :
  Calls Tryz.prog 51 #[.slice a k c] w (RPartsE (partsE d) w):=by
 have hl:=hS.len
 obtain ⟨r,hr⟩:∃ r,partsE d=r:=⟨_,rfl⟩
 rw [hr]
 have hr:=Lib.hid hr
 by_cases h4:k<4
 ·have er:=Lib.hid (show r=none by rw [← hr.out];exact partsE_short (by omega))
  have i4:(k:Int)<4:=by omega
  clear hl
  go_enter Tryz.func51,Tryz.ntmps51
  go_wp2_with fail
  refine bodyPost_ret (v := .tuple #[.slice none 0 0, .slice none 0 0, .bool false]) (by simp [results,Tryz.results51,go_sem]) rfl ?_
  rw [er.out]
  exact RPartsE.no _ _ (Ext.refl _)
 ·have i4:¬ (k:Int)<4:=by omega
  obtain ⟨b0,o0,rfl,hb0, -⟩:=hS.at 0 (by omega)
  have hsl:∀ j m,j<k→m≤k-j→Sl w (some ⟨b0,o0+j,none⟩) m ((d.drop j).take m):=fun j m hj hm=>(sl_at hS hc hj).take m hm
  have t1:=hS.take 2 (by omega)
  have t2:=hsl 2 2 (by omega) (by omega)
  have hg1:=fun W H=>rget_any (some ⟨b0,o0,none⟩) 2 c (d.take 2) W H (by omega)
  have hg2:=fun W H=>rget_any (some ⟨b0,o0+2,none⟩) 2 (c-2) ((d.drop 2).take 2) W H (by omega)
  rw [getN2_int _ (by simp;omega)] at hg1 hg2
  obtain ⟨n,hn⟩:∃ n,getN (d.take 2)=n:=⟨_,rfl⟩
  obtain ⟨m,hm⟩:∃ m,getN ((d.drop 2).take 2)=m:=⟨_,rfl⟩
  rw [hn] at hg1
  rw [hm] at hg2
  have nb:n<65536:=by rw [← hn];exact getN_two d
  have mb:m<65536:=by rw [← hm];exact getN_two (d.drop 2)
  have hL:=Lib.hid hl
  have hn:=Lib.hid hn
  have hm:=Lib.hid hm
  have j2:(2:Int)≤(c:Int):=by omega
  have j4:(4:Int)≤(c:Int):=by omega
  have d2:¬ c=2:=by omega
  clear hl
  go_enter Tryz.func51,Tryz.ntmps51
  go_wp2_with fail
  refine wp_region_vague 9 [[],[0],[0,1],[0,1,2],[],[4],[0,1,2,4,5],[0,1,2,4,5,6],[0,1,2,3,4,5,6],[0,1,2,3,4,5,6,7,8]] (by kernel_rfl) (by kernel_rfl) (by kernel_rfl) (by kernel_rfl) ?_;simp only [q8q,q9q,q10q,q11q,q12q,q13q]
  (repeat (refine VD_a ?_;(try simp only [Act.put,q0q,q1q,q2q])))
  (refine VD_vag (fun _ => .int .u64 ((n:Nat):Int)) (fun _ _=>True) (fun _ _ _ _ _=>trivial) (fun us w' hx hf=>⟨rfl,?_⟩) ?_;(unfold gives;simp [go_sem,execOp];refine (hg1 _ (t1.ext hx)).mono ?_;rintro e w1 ⟨rfl,hx1⟩;first|exact ⟨rfl,hx1⟩|simpa using hx1))
  (repeat (refine VD_a ?_;(try simp only [Act.put,q0q,q1q,q2q])))
  (refine VD_vag (fun _ => .int .u64 ((m:Nat):Int)) (fun _ _=>True) (fun _ _ _ _ _=>trivial) (fun us w' hx hf=>⟨rfl,?_⟩) ?_;(unfold gives;simp [go_sem,execOp];refine (hg2 _ (t2.ext hx)).mono ?_;rintro e w1 ⟨rfl,hx1⟩;first|exact ⟨rfl,hx1⟩|simpa using hx1))
  (repeat (refine VD_a ?_;(try simp only [Act.put,q0q,q1q,q2q])))
  (refine VD_z ?_;intro us x hx hf;(try simp only [Act.put,q0q,q1q,q2q,wpList_none]);(try simp only [q3q,q4q,or_false,forall_eq_or_imp,forall_eq,q5q,q6q,q7q,false_or,true_and,and_true] at hf);(try simp only [Nat.reduceAdd,Nat.zero_add] at hf ⊢))
  have hwn:IntKind.i64.wrap ((n:Nat):Int)=(n:Int):=by rw [IntKind.wrap_i64];omega
  have hwm:IntKind.i64.wrap ((m:Nat):Int)=(m:Int):=by clear hwn;rw [IntKind.wrap_i64];omega
  try rw [hwn]
  try rw [hwm]
  clear hwn hwm hf hg1 hg2 t1 t2
  have hE:Ext w (w.ext x):=Ext.of_ext _ _
  have hS:=hS.ext hE
  generalize w.ext x=W at *
  have pm0:m≤pad4 m:=by unfold pad4;omega
  obtain ⟨Fr,hFr⟩:∃ Fr,4+pad4 n=Fr:=⟨_,rfl⟩
  have hFi:(4:Int)+((n:Int)+3) / 4*4=(Fr:Int):=by rw [← hFr];unfold pad4;omega
  have hFn:4+n≤Fr:=by rw [← hFr];unfold pad4;omega
  have hFb:Fr<66000:=by rw [← hFr];unfold pad4;omega
  by_cases q0:n<16
  ·have er:=Lib.hid (show r=none by rw [← hr.out];exact partsE_nonce (by rw [hn.out];omega))
   have i5:(n:Int)<16:=by omega
   go_wp2_with fail
   refine bodyPost_ret (v := .tuple #[.slice none 0 0, .slice none 0 0, .bool false]) (by simp [results,Tryz.results51,go_sem]) rfl ?_
   rw [er.out]
   exact RPartsE.no _ _ hE
  ·have i5:¬ (n:Int)<16:=by omega
   by_cases q1:32<n
   ·have er:=Lib.hid (show r=none by rw [← hr.out];exact partsE_nonce (by rw [hn.out];omega))
    have i6:(32:Int)<(n:Int):=by omega
    go_wp2_with fail
    refine bodyPost_ret (v := .tuple #[.slice none 0 0, .slice none 0 0, .bool false]) (by simp [results,Tryz.results51,go_sem]) rfl ?_
    rw [er.out]
    exact RPartsE.no _ _ hE
   ·have i6:¬ (32:Int)<(n:Int):=by omega
    by_cases q2:k<Fr+m
    ·have er:=Lib.hid (show r=none by rw [← hr.out];exact partsE_len (by rw [hn.out,hm.out,hL.out];omega))
     have i7:(k:Int)<(Fr:Int)+(m:Int):=by omega
     go_wp2_with fail
     refine bodyPost_ret (v := .tuple #[.slice none 0 0, .slice none 0 0, .bool false]) (by simp [results,Tryz.results51,go_sem]) rfl ?_
     rw [er.out]
     exact RPartsE.no _ _ hE
    ·have i7:¬ (k:Int)<(Fr:Int)+(m:Int):=by omega
     go_wp2_with fail
     have j5:(4:Int)≤4+(n:Int):=by omega
     have j6:(4:Int)+(n:Int)≤(c:Int):=by omega
     have j7:((4:Int)+(n:Int)).toNat=4+n:=by omega
     have j8:4+n-4=n:=by omega
     have j9:(0:Int)≤(Fr:Int):=by omega
     have j10:(Fr:Int)≤(Fr:Int)+(m:Int):=by omega
     have j11:(Fr:Int)+(m:Int)≤(c:Int):=by omega
     have j12:((Fr:Int)+(m:Int)).toNat=Fr+m:=by omega
     have j13:Fr+m-Fr=m:=by omega
     have d4:¬ c=4:=by omega
     have u1:=(sl_at hS hc (i:=4) (by omega)).take n (by omega)
     obtain ⟨A,hA,u2⟩:∃ A,(if c=Fr then some (⟨b0,o0,none⟩:Addr) else some ⟨b0,o0+Fr,none⟩)=A∧Sl W A m ((d.drop Fr).take m):=⟨_,rfl,by have:=(hS.drop c Fr hc).take m (by omega);simpa [sAdr,addr_add] using this⟩
     clear hsl
     refine wp_region_vague 11 [[],[],[1],[0,1,2],[],[],[],[],[6,7],[4,5,6,7,8],[0,1,2,3],[0,1,2,3,4,5,6,7,8,9,10]] (by kernel_rfl) (by kernel_rfl) (by kernel_rfl) (by kernel_rfl) ?_;simp only [q8q,q9q,q10q,q11q,q12q,q13q]
     (repeat (refine VD_a ?_;(try simp only [Act.put,q0q,q1q,q2q])))
     (refine VD_z ?_;intro us x hx hf;(try simp only [Act.put,q0q,q1q,q2q,wpList_none]);(try simp only [q3q,q4q,or_false,forall_eq_or_imp,forall_eq,q5q,q6q,q7q,false_or,true_and,and_true] at hf);(try simp only [Nat.reduceAdd,Nat.zero_add] at hf ⊢))
     have hE2:Ext W (W.ext x):=Ext.of_ext _ _
     have hE:=hE.trans hE2
     have u1:=u1.ext hE2
     have u2:=u2.ext hE2
     have hS:=hS.ext hE2
     generalize W.ext x=W at *
     obtain ⟨N1,hN1⟩:∃ l,(d.drop 4).take n=l:=⟨_,rfl⟩
     obtain ⟨N2,hN2⟩:∃ l,(d.drop Fr).take m=l:=⟨_,rfl⟩
     rw [hN1] at u1
     rw [hN2] at u2
     have l1:=u1.len
     have l2:=u2.len
     have hGl:(guardB N1 N2).length=Fr+pad4 m:=by rw [guardB_length,l1,l2,← hFr]
     have hGm:(guardB N1 N2).length % 4=0:=by rw [hGl,← hFr];unfold pad4;omega
     have hd1:(d.drop 4).take (getN (d.take 2))=N1:=by rw [hn.out];exact hN1
     have hd2:(d.drop (4+pad4 (getN (d.take 2)))).take (getN ((d.drop 2).take 2))=N2:=by rw [hn.out,hm.out,hFr];exact hN2
     have hyes:guardB N1 N2=d→r=some (N1,N2):=fun h=>by
      have hlen:d.length=4+pad4 n+pad4 m:=by rw [← h,hGl,← hFr]
      have:=partsE_yes (d:=d) (by omega) (by rw [hn.out];omega) (by rw [hn.out,hm.out];exact hlen) (by rw [hd1,hd2];exact h)
      rw [hd1,hd2,hr.out] at this;exact this
     have hnot:guardB N1 N2≠d→r=none:=fun h=>by
      have:=partsE_ne (d:=d) (by rw [hd1,hd2];exact h)
      rw [hr.out] at this;exact this
     have hgu:=fun W H1 H2=>rgbytes_any (some ⟨b0,o0+4,none⟩) A n (c-4) m (c-Fr) N1 N2 W H1 H2 (by omega) (by omega)
     have hc1:n≤c-4:=by omega
     have hc2:m≤c-Fr:=by omega
     have hpm:pad4 m<70000:=by unfold pad4;omega
     clear hN1 hN2 hd1 hd2 hr hn hm hf j5 j6 j7 j8 j9 j10 j11 j12 j13 l1 l2 d2 d4 hA q0 q1 q2 hE2
     generalize guardB N1 N2=G at *
     have hGb:G.length≤200000∧20≤G.length:=by omega
     replace hGl:=Lib.hid hGl
     go_wp2_with fail
     (with_reducible refine (hgu _ u1 u2).mono ?_)
     rintro e w5 ⟨b5,d5,rfl,hO5,hx5⟩
     have hE:=hE.trans hx5
     have u1:=u1.ext hx5
     have u2:=u2.ext hx5
     have hS:=hS.ext hx5
     have hS5:=hO5.sl
     have hle5:=hO5.le.1
     have hlen:=hS5.len
     rw [← hlen] at hS5 hle5 ⊢
     clear hlen hO5 hgu hx5
     have hxe:=fun a' c' W H=>rxencode_any a' 1 c' [(1028,G)] W H (by omega) (by intro f hf;rw [List.mem_singleton.1 hf];show G.length≤1000000;omega)
     go_wp2_with fail
     (with_reducible refine (hxe _ _ _ (ib1 hS5 hle5 1028 _)).mono ?_)
     rintro e w6 ⟨b6,d6,rfl,hS6,hd6,hx6⟩
     have hx6:Ext w5 w6:=(Ext.of_alloc _ _).trans hx6
     have hE:=hE.trans hx6
     have u1:=u1.ext hx6
     have u2:=u2.ext hx6
     have hS:=hS.ext hx6
     clear hxe hS5 hle5 hx6
     by_cases q3:G.length≤1228
     ·obtain ⟨z1,z2,z3⟩:=enc_guard hGm (by omega) q3
      rw [z1] at hS6 hd6 ⊢
      simp only at hS6 hd6 ⊢
      clear z1
      generalize fldB (1028,G)=FB at *
      obtain ⟨g6,o6,rfl,hg6, -⟩:=hS6.at 0 (by omega)
      have u6:=sl_at hS6 hd6 (i:=4) (by omega)
      rw [z2] at u6
      have hsm:=fun W H1 H2=>same_any (some ⟨g6,o6+4,none⟩) (some ⟨b0,o0,none⟩) (FB.length-4) (d6-4) k c G d W H1 H2
      have j1:(4:Int)≤(FB.length:Int):=by omega
      have j2:(4:Int)≤(d6:Int):=by omega
      have j3:¬ d6=4:=by omega
      clear hS6 z2
      replace z3:=Lib.hid z3
      go_wp2_with fail
      (with_reducible refine (hsm _ u6 hS).mono ?_)
      rintro e w7 ⟨rfl,hx7⟩
      have hE:=hE.trans hx7
      by_cases q4:G=d
      ·have er:=Lib.hid (hyes q4)
       have hb:(G == d)=true:=beq_iff_eq.2 q4
       rw [hb]
       clear hyes hnot q4 hb
       go_wp2_with fail
       refine bodyPost_ret (v := .tuple #[.slice (some ⟨b0,o0+4,none⟩) n (c-4), .slice A m (c-Fr), .bool true]) (by simp [results,Tryz.results51,go_sem]) rfl ?_
       rw [er.out]
       exact ⟨_,_,_,_,_,_,rfl,fun x hx=>(by injection hx with hx;subst hx;exact ⟨u1.ext hx7,hc1,u2.ext hx7,hc2⟩),hE⟩
      ·have er:=Lib.hid (hnot q4)
       have hb:(G == d)=false:=beq_eq_false_iff_ne.2 q4
       rw [hb]
       clear hyes hnot q4 hb
       go_wp2_with fail
       refine bodyPost_ret (v := .tuple #[.slice none 0 0, .slice none 0 0, .bool false]) (by simp [results,Tryz.results51,go_sem]) rfl ?_
       rw [er.out]
       exact RPartsE.no _ _ hE
     ·have er:=Lib.hid (hnot fun h=>q3 (by rw [h,hL.out];omega))
      have z1:=enc_guard_long hGm (by omega)
      rw [z1] at hS6 hd6 ⊢
      simp only at hS6 hd6 ⊢
      clear hyes hnot z1
      go_wp2_with fail
      refine bodyPost_ret (v := .tuple #[.slice none 0 0, .slice none 0 0, .bool false]) (by simp [results,Tryz.results51,go_sem]) rfl ?_
      rw [er.out]
      exact RPartsE.no _ _ hE
end Go.Proofs.YtdmifbfgeeldnaaGreat

/- The walks of layer 18 of the document: Protect. -/
namespace Go.Proofs.YtdmifbfgeeldnaaGreat
open Go.RowKit Go.Sec Go.Oct Go.Pkt Go.Aes BigFrame
end Go.Proofs.YtdmifbfgeeldnaaGreat
