/- Lemmas of this claim, several texts joined. -/
import Derived.Test.YtdmifbfgeeldnaaGreatZ31
set_option maxRecDepth 100000
open List renaming setIfInBounds_toArray → q0q, set_cons_succ → q1q, set_cons_zero → q2q, mem_cons → q3q, not_mem_nil → q4q, nil_append → q5q, cons_append → q6q, mem_append → q7q, take_succ_cons → q8q, take_zero → q9q, drop_succ_cons → q10q, drop_zero → q11q, take_nil → q12q, drop_nil → q13q
set_option linter.unusedVariables false
set_option linter.unusedSimpArgs false
/- Layer 6 of the document: Seal, Open. -/
namespace Go.Proofs.YtdmifbfgeeldnaaGreat
open Go.RowKit Go.Sec Go.Oct Go.Aes BigFrame
theorem sl_from {w:World} {b0 o0 n ca i:Nat} {l:List UInt8} (h:Sl w (some ⟨b0,o0,none⟩) n l) (hca:n≤ca) (hi:i<n):Sl w (some ⟨b0,o0+i,none⟩) (n-i) (l.drop i):=by
 have:=h.drop ca i hca
 exact z31q88
set_option maxHeartbeats 4000000 in
theorem rseal_any (a b c:Option Addr)(n ca m cb k cc:Nat) (ky:List UInt8)(A:List (List UInt8)) (p:List UInt8)(w:World)(hk:Sl w a n ky) (hca:n≤ca) (hA:Bsc w b m A) (hm:m≤1000000) (hp:Sl w c k p) (hkc:k≤cc) :
  Calls Tryz.prog 42 #[.slice a n ca, .slice b m cb, .slice c k cc] w (Read2 (sealE ky A p).1.length (sealE ky A p).1 (.int .i64 (sealE ky A p).2) w):=by
 have ht:=fun w h1 h3 h5=>rtag_any a b c n ca m cb k cc ky A p w h1 hca h3 hm h5 hkc
 by_cases h0:(tagE ky A p).2=0
 ·obtain ⟨h16,hck,hpl⟩:=tagE_len h0
  obtain ⟨h32,_,_⟩:=checkA_ok hck
  rw [hk.len] at h32
  rw [hp.len] at hpl
  subst h32
  have e:=Lib.hid (show sealE ky A p=((tagE ky A p).1++stream (ky.drop 16) (ctrOf (tagE ky A p).1) p,0) by unfold sealE;rw [if_neg (by simpa using h0)])
  rw [h0,h16] at ht
  have hsl:=stream_length (ky.drop 16) (ctrOf (tagE ky A p).1) p
  rw [hp.len] at hsl
  obtain ⟨b0,o0,rfl,hb0,_⟩:=hk.at 0 (by omega)
  have hk2:=sl_from hk hca (i:=16) (by omega)
  have hst:=fun a1 a2 c1 c2 w h1 h2 h3 h4=>rstream_any a1 a2 c c1 c2 cc k (ky.drop 16) (ctrOf (tagE ky A p).1) p w h1 h2 h3 h4 (by omega)
  have hct:=fun a c w h=>counter_any a c (tagE ky A p).1 w h
  generalize stream (ky.drop 16) (ctrOf (tagE ky A p).1) p=st at *
  generalize ctrOf (tagE ky A p).1=ct at *
  generalize (tagE ky A p).1=tg at *
  rw [e.out]
  have hll:(tg++st).length=16+k:=by rw [List.length_append,h16,hsl]
  show Calls _ _ _ _ (Read2 (tg++st).length _ _ _)
  rw [hll]
  clear h0 hck
  have hj:joinL [tg,st]=tg++st:=by simp [joinL]
  have hjl:(joinL [tg,st]).length=16+k:=by rw [hj,hll]
  have HJ:=Lib.hid hj
  have q:(16:Int)≤(ca:Int):=by omega
  clear hj
  go_enter Tryz.func42,Tryz.ntmps42
  go_wp2_with fail
  refine (ht _ hk hA hp).mono ?_
  rintro e W ⟨a3,c3,rfl,hS3,hc3,hxW⟩
  have hkW:=hk2.ext hxW
  have hpW:=hp.ext hxW
  have q4:¬ ca=16:=by omega
  go_wp2_with fail
  refine wp_region_vague 11 [[],[0],[],[2],[],[0,1,2,3,4],[0,1,2,3,4,5],[0,1,2,3,4,5,6],[0,1,2,3,4,5,6],[0,1,2,3,4,5,6,7],[0,1,2,3,4,5,6,7,8,9]] (by kernel_rfl) (by kernel_rfl) (by kernel_rfl) (by kernel_rfl) ?_;simp only [q8q,q9q,q10q,q11q,q12q,q13q]
  (repeat (refine VD_a ?_;(try simp only [Act.put,q0q,q1q,q2q])))
  (refine VD_vag (fun p => .slice (p 0).1 (16) (p 0).2) (fun p w''=>Own w'' 0 (p 0).1 (16) (p 0).2 (ct)) (fun p w w' h hx=>h.ext hx) (fun us w' hx hf=>⟨rfl,?_⟩) ?_;(unfold gives;simp [go_sem,execOp];exact vag_fresh (Nat.zero_le _) (hct _ _ _ (hS3.ext hx))))
  (repeat (refine VD_a ?_;(try simp only [Act.put,q0q,q1q,q2q])))
  (refine VD_vag (fun p => .tuple #[.slice (p 0).1 (k) (p 0).2, .int .i64 0]) (fun p w''=>Sl w'' (p 0).1 (k) (st)∧(k)≤(p 0).2) (fun p w w' h hx=>⟨h.1.ext hx,h.2⟩) (fun us w' hx hf=>⟨rfl,?_⟩) ?_;(unfold gives;simp [go_sem,execOp];exact vag_read (hst _ _ _ _ _ (hkW.ext hx) (Own.sl (by exact (hf _ (List.mem_append_right _ (List.mem_singleton_self _)) rfl))) (Own.le (by exact (hf _ (List.mem_append_right _ (List.mem_singleton_self _)) rfl))).1 (hpW.ext hx))))
  (repeat (refine VD_a ?_;(try simp only [Act.put,q0q,q1q,q2q])))
  (refine VD_z ?_;intro us x hx hf;(try simp only [Act.put,q0q,q1q,q2q,wpList_none]);(try simp only [q3q,q4q,or_false,forall_eq_or_imp,forall_eq,q5q,q6q,q7q,false_or,true_and,and_true] at hf);(try simp only [Nat.reduceAdd,Nat.zero_add] at hf ⊢))
  obtain ⟨-,hS4,hc4⟩:=hf
  go_wp2_with fail
  (with_reducible refine (join_any _ _ _ [tg,st] _ (bss2 ?h1 ?h2 _) (by omega) (16+k) hjl (by omega)).mono ?_)
  case h1=>exact (by (repeat' (first|with_reducible assumption|(with_reducible exact zeros16 _)|(with_reducible exact sl_new1 _ _ _)|(with_reducible first|apply Sl.upE|apply Sl.upA|apply Sl.upD))))
  case h2=>exact (by (repeat' (first|with_reducible assumption|(with_reducible exact zeros16 _)|(with_reducible exact sl_new1 _ _ _)|(with_reducible first|apply Sl.upE|apply Sl.upA|apply Sl.upD))))
  rintro e _ ⟨_,_,rfl,hO,hx⟩
  obtain ⟨_,rfl⟩:=hx.out
  clear hx
  go_wp2
  rw [HJ.out] at hO
  go_ret2
  exact ⟨_,_,rfl,hO.sl,hO.le.1,hxW.trans eX⟩
 ·have e:sealE ky A p=([],(tagE ky A p).2):=by unfold sealE;rw [if_pos h0]
  rw [e]
  have hI:=ne0 h0
  generalize (tagE ky A p).2=v at *
  generalize (tagE ky A p).1=tg at *
  clear e h0
  go_enter Tryz.func42,Tryz.ntmps42
  go_wp2_with (first|(go_at_call 84;(with_reducible refine (ht ?_ ?hq121 ?hq122 ?hq123).mono ?_);(case hq121=>exact sS);(case hq122=>exact sC);(case hq123=>exact sS);rintro e _ ⟨_,_,rfl,hS,hc,hx⟩;obtain ⟨_,rfl⟩:=hx.out;clear hx)|fail)
  go_ret2
  exact read2_err _ _ _ eX
set_option maxHeartbeats 4000000 in
theorem ropen_any (a b c:Option Addr)(n ca m cb k cc:Nat) (ky:List UInt8)(A:List (List UInt8)) (s:List UInt8)(w:World)(hk:Sl w a n ky) (hca:n≤ca) (hA:Bsc w b m A) (hm:m≤1000000) (hs:Sl w c k s) (hkc:k≤cc) (hk1:k≤1000000) :
  Calls Tryz.prog 53 #[.slice a n ca, .slice b m cb, .slice c k cc] w (Read2 (openE ky A s).1.length (openE ky A s).1 (.int .i64 (openE ky A s).2) w):=by
 have hc:=fun w h1 h2=>rcheck_any a b n ca m cb ky A ((k:Int)-16) w h1 h2 hm
 have hsl:=hs.len
 by_cases h0:checkA ky A=0∧k≤65535
 ·obtain ⟨h0,hl⟩:=h0
  obtain ⟨h32,_,_⟩:=checkA_ok h0
  rw [hk.len] at h32
  subst h32
  have h00:checkR ky A ((k:Int)-16)=0:=by unfold checkR;rw [if_neg (by rw [h0];simp),if_neg (by omega)]
  rw [h00] at hc
  by_cases h16:k<16
  ·have e:openE ky A s=([],1):=by unfold openE;rw [if_neg (by rw [h0];simp),if_neg (by omega),if_pos (by omega)]
   rw [e]
   have hI:decide ((k:Int)<16)=true:=by simp;omega
   clear e h0 hsl h00
   go_enter Tryz.func53,Tryz.ntmps53
   go_wp2_with (first|(go_at_call 102;(with_reducible refine (hc ?_ ?hq132 ?hq133).mono ?_);(case hq132=>exact sS);(case hq133=>exact sC);rintro e w1 ⟨rfl,hxq⟩;obtain ⟨xq,rfl⟩:=hxq.out;clear hxq)|fail)
   go_ret2
   exact read2_err _ _ _ eX
  ·have e:=Lib.hid (show openE ky A s=if (tagE ky A (plainOf ky s)).1=s.take 16 then (plainOf ky s,0) else ([],6) by unfold openE;rw [if_neg (by rw [h0];simp),if_neg (by omega),if_neg (by omega)])
   have htg:tagE ky A (plainOf ky s)=(s2v (ky.take 16) (A++[plainOf ky s]),0):=tagE_ok h0 (by rw [plainOf_length];omega)
   have ht:=fun c cc w h1 h3 h5 h6=>rtag_any a b c 32 ca m cb (k-16) cc ky A (plainOf ky s) w h1 hca h3 hm h5 h6
   have hpo:plainOf ky s=stream (ky.drop 16) (ctrOf (s.take 16)) (s.drop 16):=rfl
   obtain ⟨b0,o0,rfl,hb0,_⟩:=hk.at 0 (by omega)
   have hk2:=sl_from hk hca (i:=16) (by omega)
   have hs1:=hs.take 16 (by omega)
   have hs2:=hs.drop cc 16 hkc
   have hst:=fun a1 a2 a3 c1 c2 c3 w h1 h2 h3 h4=>rstream_any a1 a2 a3 c1 c2 c3 (k-16) (ky.drop 16) (ctrOf (s.take 16)) (s.drop 16) w h1 h2 h3 h4 (by omega)
   have hct:=fun a c w h=>counter_any a c (s.take 16) w h
   rw [← hpo] at hst
   rw [htg] at ht
   rw [htg] at e
   have hpl:(plainOf ky s).length=k-16:=by rw [plainOf_length];omega
   have htl:=s2v_length (ky.take 16) (A++[plainOf ky s])
   simp only at ht e
   rw [htl] at ht
   generalize s2v (ky.take 16) (A++[plainOf ky s])=tg at *
   generalize plainOf ky s=pl at *
   generalize ctrOf (s.take 16)=ct at *
   generalize s.take 16=s0 at *
   generalize s.drop 16=s1 at *
   clear htg h0 hpo hsl h00
   rw [e.out]
   have hI:decide ((k:Int)<16)=false:=by simp;omega
   have q:(16:Int)≤(ca:Int):=by omega
   have q2:(16:Int)≤(k:Int):=by omega
   have q3:(16:Int)≤(cc:Int):=by omega
   have q4:¬ ca=16:=by omega
   by_cases he:tg=s0
   ·rw [if_pos he]
    show Calls _ _ _ _ (Read2 pl.length _ _ _)
    rw [hpl]
    have hb:(tg == s0)=true:=by simpa using he
    clear he
    clear e
    go_enter Tryz.func53,Tryz.ntmps53
    go_wp2_with (first|(go_at_call 102;(with_reducible refine (hc ?_ ?hq134 ?hq135).mono ?_);(case hq134=>exact sS);(case hq135=>exact sC);rintro e w1 ⟨rfl,hxq⟩;obtain ⟨xq,rfl⟩:=hxq.out;clear hxq)|fail)
    have hxW:Ext w (w.ext xq):=eX
    have hkW:=hk2.ext hxW
    have hs1W:=hs1.ext hxW
    have hs2W:=hs2.ext hxW
    have hkk:=hk.ext hxW
    have hAA:=hA.ext hxW
    generalize w.ext xq=W at *
    refine wp_region_vague 13 [[],[0],[],[2],[2,3],[],[5],[0,1,2,3,4,5,6],[0,1,2,3,4,5,6,7],[0,1,2,3,4,5,6,7,8],[0,1,2,3,4,5,6,7,8],[0,1,2,3,4,5,6,7,8,9],[0,1,2,3,4,5,6,7,8,9,10,11]] (by kernel_rfl) (by kernel_rfl) (by kernel_rfl) (by kernel_rfl) ?_;simp only [q8q,q9q,q10q,q11q,q12q,q13q]
    (repeat (refine VD_a ?_;(try simp only [Act.put,q0q,q1q,q2q])))
    (refine VD_vag (fun p => .slice (p 0).1 (16) (p 0).2) (fun p w''=>Own w'' 0 (p 0).1 (16) (p 0).2 (ct)) (fun p w w' h hx=>h.ext hx) (fun us w' hx hf=>⟨rfl,?_⟩) ?_;(unfold gives;simp [go_sem,execOp];exact vag_fresh (Nat.zero_le _) (hct _ _ _ (hs1W.ext hx))))
    (repeat (refine VD_a ?_;(try simp only [Act.put,q0q,q1q,q2q])))
    (refine VD_vag (fun p => .tuple #[.slice (p 0).1 (k-16) (p 0).2, .int .i64 0]) (fun p w''=>Sl w'' (p 0).1 (k-16) pl∧k≤(p 0).2+16) (fun p w w' h hx=>⟨h.1.ext hx,h.2⟩) (fun us w' hx hf=>⟨rfl,?_⟩) ?_;(unfold gives;simp [go_sem,execOp];exact (hst _ _ _ _ _ _ _ (hkW.ext hx) (Own.sl (by exact (hf _ (List.mem_append_right _ (List.mem_singleton_self _)) rfl))) (Own.le (by exact (hf _ (List.mem_append_right _ (List.mem_singleton_self _)) rfl))).1 (hs2W.ext hx)).mono fun _ _ ⟨a,c,he,hO,hc,hx⟩=>⟨_,he,fun _=>(a,c),rfl,hx,hO,by show k≤c+16;omega⟩))
    (repeat (refine VD_a ?_;(try simp only [Act.put,q0q,q1q,q2q])))
    (refine VD_z ?_;intro us x hx hf;(try simp only [Act.put,q0q,q1q,q2q,wpList_none]);(try simp only [q3q,q4q,or_false,forall_eq_or_imp,forall_eq,q5q,q6q,q7q,false_or,true_and,and_true] at hf);(try simp only [Nat.reduceAdd,Nat.zero_add] at hf ⊢))
    obtain ⟨-,hS4,hc4⟩:=hf
    go_wp2_with (first
     | (go_at_call 84;(with_reducible refine (ht ?_ ?_ ?_ ?hq124 ?hq125 ?hq126 ?hq127).mono ?_);(case hq124=>exact sS);(case hq125=>exact sC);(case hq126=>exact sS);(case hq127=>omega);rintro e _ ⟨_,_,rfl,hS,hc,hx⟩;obtain ⟨_,rfl⟩:=hx.out;clear hx)
     | (go_at_call 24;(with_reducible refine (same_any ?_ ?_ ?_ ?_ ?_ ?_ tg s0 ?_ ?hq136 ?hq137).mono ?_);(case hq136=>exact sS);(case hq137=>exact sS);rintro e w1 ⟨rfl,hxq⟩;obtain ⟨xq,rfl⟩:=hxq.out;clear hxq)
     | fail)
    go_ret2
    exact ⟨_,_,rfl,(by (repeat' (first|with_reducible assumption|(with_reducible exact zeros16 _)|(with_reducible exact sl_new1 _ _ _)|(with_reducible first|apply Sl.upE|apply Sl.upA|apply Sl.upD)))),by omega,hxW.trans eX⟩
   ·rw [if_neg he]
    have hb:(tg == s0)=false:=by simpa using he
    clear he
    clear e
    go_enter Tryz.func53,Tryz.ntmps53
    go_wp2_with (first|(go_at_call 102;(with_reducible refine (hc ?_ ?hq138 ?hq139).mono ?_);(case hq138=>exact sS);(case hq139=>exact sC);rintro e w1 ⟨rfl,hxq⟩;obtain ⟨xq,rfl⟩:=hxq.out;clear hxq)|fail)
    have hxW:Ext w (w.ext xq):=eX
    have hkW:=hk2.ext hxW
    have hs1W:=hs1.ext hxW
    have hs2W:=hs2.ext hxW
    have hkk:=hk.ext hxW
    have hAA:=hA.ext hxW
    generalize w.ext xq=W at *
    refine wp_region_vague 13 [[],[0],[],[2],[2,3],[],[5],[0,1,2,3,4,5,6],[0,1,2,3,4,5,6,7],[0,1,2,3,4,5,6,7,8],[0,1,2,3,4,5,6,7,8],[0,1,2,3,4,5,6,7,8,9],[0,1,2,3,4,5,6,7,8,9,10,11]] (by kernel_rfl) (by kernel_rfl) (by kernel_rfl) (by kernel_rfl) ?_;simp only [q8q,q9q,q10q,q11q,q12q,q13q]
    (repeat (refine VD_a ?_;(try simp only [Act.put,q0q,q1q,q2q])))
    (refine VD_vag (fun p => .slice (p 0).1 (16) (p 0).2) (fun p w''=>Own w'' 0 (p 0).1 (16) (p 0).2 (ct)) (fun p w w' h hx=>h.ext hx) (fun us w' hx hf=>⟨rfl,?_⟩) ?_;(unfold gives;simp [go_sem,execOp];exact vag_fresh (Nat.zero_le _) (hct _ _ _ (hs1W.ext hx))))
    (repeat (refine VD_a ?_;(try simp only [Act.put,q0q,q1q,q2q])))
    (refine VD_vag (fun p => .tuple #[.slice (p 0).1 (k-16) (p 0).2, .int .i64 0]) (fun p w''=>Sl w'' (p 0).1 (k-16) pl∧k≤(p 0).2+16) (fun p w w' h hx=>⟨h.1.ext hx,h.2⟩) (fun us w' hx hf=>⟨rfl,?_⟩) ?_;(unfold gives;simp [go_sem,execOp];exact (hst _ _ _ _ _ _ _ (hkW.ext hx) (Own.sl (by exact (hf _ (List.mem_append_right _ (List.mem_singleton_self _)) rfl))) (Own.le (by exact (hf _ (List.mem_append_right _ (List.mem_singleton_self _)) rfl))).1 (hs2W.ext hx)).mono fun _ _ ⟨a,c,he,hO,hc,hx⟩=>⟨_,he,fun _=>(a,c),rfl,hx,hO,by show k≤c+16;omega⟩))
    (repeat (refine VD_a ?_;(try simp only [Act.put,q0q,q1q,q2q])))
    (refine VD_z ?_;intro us x hx hf;(try simp only [Act.put,q0q,q1q,q2q,wpList_none]);(try simp only [q3q,q4q,or_false,forall_eq_or_imp,forall_eq,q5q,q6q,q7q,false_or,true_and,and_true] at hf);(try simp only [Nat.reduceAdd,Nat.zero_add] at hf ⊢))
    obtain ⟨-,hS4,hc4⟩:=hf
    go_wp2_with (first
     | (go_at_call 84;(with_reducible refine (ht ?_ ?_ ?_ ?hq128 ?hq129 ?hq130 ?hq131).mono ?_);(case hq128=>exact sS);(case hq129=>exact sC);(case hq130=>exact sS);(case hq131=>omega);rintro e _ ⟨_,_,rfl,hS,hc,hx⟩;obtain ⟨_,rfl⟩:=hx.out;clear hx)
     | (go_at_call 24;(with_reducible refine (same_any ?_ ?_ ?_ ?_ ?_ ?_ tg s0 ?_ ?hq140 ?hq141).mono ?_);(case hq140=>exact sS);(case hq141=>exact sS);rintro e w1 ⟨rfl,hxq⟩;obtain ⟨xq,rfl⟩:=hxq.out;clear hxq)
     | fail)
    go_ret2
    exact read2_err _ _ _ (hxW.trans eX)
 ·have e:openE ky A s=([],checkR ky A ((k:Int)-16))∧checkR ky A ((k:Int)-16)≠0:=by
   unfold openE checkR
   by_cases h1:checkA ky A≠0
   ·rw [if_pos h1,if_pos h1];exact ⟨rfl,h1⟩
   ·have h2:65535<k:=by
     rcases Nat.lt_or_ge 65535 k with h3|h3
     ·exact h3
     ·exact absurd ⟨by simpa using h1,h3⟩ h0
    rw [if_neg h1,if_neg h1,if_pos (by omega),if_pos (by omega)];exact ⟨rfl,by decide⟩
  obtain ⟨e,hne⟩:=e
  rw [e]
  have hI:=ne0 hne
  generalize checkR ky A ((k:Int)-16)=v at *
  clear e h0 hne
  go_enter Tryz.func53,Tryz.ntmps53
  go_wp2_with (first|(go_at_call 102;(with_reducible refine (hc ?_ ?hq142 ?hq143).mono ?_);(case hq142=>exact sS);(case hq143=>exact sC);rintro e w1 ⟨rfl,hxq⟩;obtain ⟨xq,rfl⟩:=hxq.out;clear hxq)|fail)
  go_ret2
  exact read2_err _ _ _ eX
end Go.Proofs.YtdmifbfgeeldnaaGreat
