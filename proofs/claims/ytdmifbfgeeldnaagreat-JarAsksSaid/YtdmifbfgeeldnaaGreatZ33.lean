/- Lemmas of this claim, several texts joined. -/
import Derived.Test.YtdmifbfgeeldnaaGreatZ2
import Derived.Test.YtdmifbfgeeldnaaGreatZ4
import Derived.Test.YtdmifbfgeeldnaaGreatZ14
import Derived.Test.YtdmifbfgeeldnaaGreatZ27
import Derived.Test.YtdmifbfgeeldnaaGreatZ28
import Derived.Test.YtdmifbfgeeldnaaGreatZ32
set_option maxRecDepth 100000
open List renaming setIfInBounds_toArray → q0q, set_cons_succ → q1q, set_cons_zero → q2q, mem_cons → q3q, not_mem_nil → q4q, nil_append → q5q, cons_append → q6q, mem_append → q7q, take_succ_cons → q8q, take_zero → q9q, drop_succ_cons → q10q, drop_zero → q11q, take_nil → q12q, drop_nil → q13q, getElem_toArray → q14q, getElem_cons_succ → q15q, getElem_cons_zero → q16q
open Go.IntWalk renaming i64_in → q17q, rem_in → q18q, wrap64_in → q19q
set_option linter.unusedVariables false
set_option linter.unusedSimpArgs false
/- The walks of layer 17: Encode. -/
namespace Go.Pkt
open Go.Sec Go.RowKit Go.Oct
theorem badE_app (A B:List Fld) (h:badE A=0):badE (A++B)=badE B:=by
 induction A with
 | nil=>rfl
 | cons f A ih =>
  rw [badE] at h
  split at h
  ·rename_i h1;exact absurd h h1
  ·rename_i h1
   rw [q6q,badE,if_neg h1,ih h]
theorem badE_at {L:List Fld} {k:Nat} {x:Fld} (hx:L[k]?=some x) (h:badE (L.take k)=0) (hx2:(sizE x).2≠0):badE L=(sizE x).2:=by
 obtain ⟨hk,rfl⟩:=List.getElem?_eq_some_iff.1 hx
 have:L=L.take k++(L[k] :: L.drop (k+1)):=by rw [← List.drop_eq_getElem_cons hk,List.take_append_drop]
 have e:=congrArg badE this
 rw [badE_app _ _ h,badE,if_pos hx2] at e
 exact e
theorem take_at {L:List Fld} {k:Nat} {x:Fld} (hx:L[k]?=some x):L.take (k+1)=L.take k++[x]:=by
 obtain ⟨hk,rfl⟩:=List.getElem?_eq_some_iff.1 hx
 exact List.take_succ_eq_append_getElem hk
theorem sizE_ok {x:Fld} (h:(sizE x).2=0):(0≤x.1∧x.1≤65535)∧szN x.2.length≤1232∧sizE x=(((szN x.2.length:Nat):Int),0):=by
 unfold sizE at h ⊢
 split at h
 ·cases h
 ·rename_i h1
  rw [if_neg h1]
  split at h
  ·cases h
  ·rename_i h2
   rw [if_neg h2]
   exact ⟨by omega,by omega,rfl⟩
theorem fld_fill (f:Fld) (N:Nat) (hN:szN f.2.length=N) :
  ((((List.replicate N (0:UInt8)).take 0++putL 2 (UInt64.ofNat f.1.toNat)++(List.replicate N (0:UInt8)).drop (0+2)).take (0+2)++putL 2 (UInt64.ofNat N)++((List.replicate N (0:UInt8)).take 0++putL 2 (UInt64.ofNat f.1.toNat)++(List.replicate N (0:UInt8)).drop (0+2)).drop (0+2+2)).take (0+2+2)++f.2 ++
   (((List.replicate N (0:UInt8)).take 0++putL 2 (UInt64.ofNat f.1.toNat)++(List.replicate N (0:UInt8)).drop (0+2)).take (0+2)++putL 2 (UInt64.ofNat N)++((List.replicate N (0:UInt8)).take 0++putL 2 (UInt64.ofNat f.1.toNat)++(List.replicate N (0:UInt8)).drop (0+2)).drop (0+2+2)).drop (0+2+2+f.2.length))=fldB f:=by
 subst hN
 have hz:=szN_ge f.2.length
 generalize hp:putL 2 (UInt64.ofNat f.1.toNat)=p
 generalize hq:putL 2 (UInt64.ofNat (szN f.2.length))=q
 have lp:p.length=2:=by rw [← hp];exact putL_length _ _
 have lq:q.length=2:=by rw [← hq];exact putL_length _ _
 unfold fldB
 rw [hp,hq]
 generalize szN f.2.length=N at *
 have e1:(List.replicate N (0:UInt8)).take 0++p++(List.replicate N (0:UInt8)).drop (0+2)=p++List.replicate (N-2) 0:=by simp
 rw [e1,take_app _ _ _ lp,show 0+2+2=2+2 from rfl,drop_more _ _ 2 2 lp,List.drop_replicate,List.append_assoc,← List.append_assoc p q,take_app _ _ _ (by simp [lp,lq]),drop_more _ _ (2+2) f.2.length (by simp [lp,lq]),List.drop_replicate]
 rw [show N-2-2-f.2.length=N-4-f.2.length by omega]
end Go.Pkt
namespace Go.Sec
open Go.RowKit
theorem Sl.mutNe {w w':World} {a:Option Addr} {n g:Nat} {l:List UInt8} (h:Sl w a n l) (hM:Mut g w w') (hne:n=0∨∀ b o,a=some ⟨b,o,none⟩→b≠g):Sl w' a n l:=by
 rcases hne with h0|hne
 ·subst h0
  have:=List.eq_nil_of_length_eq_zero h.len
  subst this
  exact Sl.nil _ _
 ·refine ⟨h.len,?_⟩
  rcases h.by' with h1|⟨b,o,e,hb,hc⟩
  ·exact .inl h1
  ·subst e
   exact Rd.turn hM (.inr ⟨b,o,rfl,hb,hc⟩) (hne b o rfl)
theorem Sl.ne {w:World} {a:Option Addr} {n g:Nat} {l:List UInt8} (h:Sl w a n l) (hg:w.heap.size≤g):n=0∨∀ b o,a=some ⟨b,o,none⟩→b≠g:=by
 by_cases h0:n=0
 ·exact .inl h0
 ·exact .inr fun b o e=>by have:=h.lt (by omega) b o e;omega
theorem Own.mutNe {w w':World} {base n c g:Nat} {a:Option Addr} {l:List UInt8} (h:Own w base a n c l) (hM:Mut g w w') (hne:(Value.slice a n c).ownBlock≠some g):Own w' base a n c l:=by
 refine ⟨h.1,h.2.1,?_⟩
 rcases h.2.2 with h1|⟨g',cap,cur,hv,hb,hh,r⟩
 ·exact .inl h1
 ·refine .inr ⟨g',cap,cur,hv,hb,?_,r⟩
  rw [hM.block g' (Array.getElem?_eq_some_iff.1 hh).1 (fun e=>hne (by rw [hv];exact e))]
  exact hh
theorem Own.ne {w:World} {base n c g:Nat} {a:Option Addr} {l:List UInt8} (h:Own w base a n c l) (hg:w.heap.size≤g):(Value.slice a n c).ownBlock≠some g:=fun e=>by
 have:=(own_lt h.2 g e).2;omega
end Go.Sec
namespace Go.Proofs.YtdmifbfgeeldnaaGreat
open Go.RowKit Go.Sec Go.Oct Go.Pkt BigFrame
set_option maxHeartbeats 2000000 in
theorem xencode_any (a:Option Addr)(n c:Nat) (L:List Fld) (w:World)(hI:Ib w a n L) (hn:n≤1000000) (hL:∀ f∈L,f.2.length≤1000000) :
  Calls Tryz.prog 60 #[.slice a n c] w (Read2 (encF L).1.length (encF L).1 (.int .i64 (encF L).2) w):=by
 have hl:=hI.len
 obtain ⟨r,hr⟩:∃ r,encF L=r:=⟨_,rfl⟩
 rw [hr]
 have hr:=Lib.hid hr
 have hp2:=fun (v:UInt64) (vI:Int) (hv:vI=n64 v) W=>oput_any v 2 hv (show (2:Int)=((2:Nat):Int) from rfl) W (by omega)
 go_enter Tryz.func60,Tryz.ntmps60
 go_wp2_with fail
 go_loopw [4,5,7,8,9,10,13] (fun v4 v5 _ _ _ _ v13 wr=>∃ (k m:Nat) (sa:Option Addr)(sc:Nat) (O:List UInt8),k≤n∧v13 = .int .i64 k∧v5 = .bool (decide (1232<totN (L.take k)))∧v4 = .slice sa m sc∧m≤1232∧Own wr w.heap.size sa m sc O∧Hid (totN (L.take k)≤1232→O=bytesF (L.take k))∧Hid (badE (L.take k)=0)∧Ext w wr) (fun _ _ _ _ _ _ v13 _=>n-(intOf v13).toNat)
 case atStart=>exact ⟨0,0,none,0,[],by omega,rfl,rfl,rfl,by omega,Own.nil _ _,Lib.hid fun _=>rfl,Lib.hid rfl,Ext.refl _⟩
 case round =>
  obtain ⟨k,m,sa,sc,O,hk,rfl,rfl,rfl,hm,hO,hOl,hbad,hx⟩:=hrel
  by_cases hlt:k<n
  ·obtain ⟨x,hxi⟩:∃ x,L[k]?=some x:=⟨_,List.getElem?_eq_getElem (by omega)⟩
   have hxl:=hL x (List.mem_of_getElem? hxi)
   obtain ⟨b0,o0,g',c',rfl,hb0,hc0,hc1,hSk,hck⟩:=(hI.ext hx).at k hlt _ hxi
   have hrd:=rd2 hb0.lt hc0 hc1
   have i0:(0:Int)≤(k:Int):=by omega
   have i1:(k:Int)<(n:Int):=by omega
   have hsz:=fun W=>xSize_any x g' c' W (by omega)
   have hts:=Lib.hid (take_at hxi)
   haveI:=hb0
   by_cases he:(sizE x).2=0
   ·obtain ⟨⟨t0,t1⟩,hzz,hze⟩:=sizE_ok he
    obtain ⟨N,hN⟩:∃ N,szN x.2.length=N:=⟨_,rfl⟩
    have hN16:=szN_ge x.2.length
    rw [hN] at hN16 hze hzz
    rw [hze] at hsz
    have htt:=totN_snoc (L.take k) x
    have hb2:=Lib.hid (show badE (L.take (k+1))=0 by rw [hts.out,badE_app _ _ hbad.out,badE,if_neg (by simpa using he)];rfl)
    rw [← hts.out,hN] at htt
    clear he
    by_cases hlo:1232<totN (L.take k)
    ·have il:decide (1232<totN (L.take k))=true:=decide_eq_true hlo
     have il2:=Lib.hid (show decide (1232<totN (L.take (k+1)))=true from decide_eq_true (by omega))
     have hol:=Lib.hid (show totN (L.take (k+1))≤1232→O=bytesF (L.take (k+1)) from fun h=>by omega)
     rw [il]
     clear htt hN16 hlo hN
     go_wp2_with (first
      | (refine wpList_load_arr (RF2) rfl _ rfl (b0) (o0+k*2) rfl ([.int .i64 x.1, .slice g' x.2.length c']) (hrd) (rfl) ?_)
      | (go_at_call 105;refine (hsz _).mono ?_;rintro e w1 ⟨rfl,hxq⟩;obtain ⟨xq,rfl⟩:=hxq.out;clear hxq)
      | fail)
     go_roundw
     case rel=>exact ⟨k+1,m,sa,sc,O,by omega,by go_num,by rw [il2.out],rfl,hm,hO.ext eX,hol,hb2,hx.trans eX⟩
     case measure=>simp [intOf];omega
    ·have il:decide (1232<totN (L.take k))=false:=decide_eq_false hlo
     have hOe:=hOl.out (by omega)
     have hmt:m=totN (L.take k):=by rw [← hO.1,hOe,bytesF_length]
     rw [il]
     by_cases hlo2:1232<m+N
     ·have il2:=Lib.hid (show decide (1232<totN (L.take (k+1)))=true from decide_eq_true (by omega))
      have hol:=Lib.hid (show totN (L.take (k+1))≤1232→O=bytesF (L.take (k+1)) from fun h=>by omega)
      have ilo:(1232:Int)<(m:Int)+(N:Int):=by omega
      clear htt hN16 hlo hN hmt hOe
      go_wp2_with (first
       | (refine wpList_load_arr (RF2) rfl _ rfl (b0) (o0+k*2) rfl ([.int .i64 x.1, .slice g' x.2.length c']) (hrd) (rfl) ?_)
       | (go_at_call 105;refine (hsz _).mono ?_;rintro e w1 ⟨rfl,hxq⟩;obtain ⟨xq,rfl⟩:=hxq.out;clear hxq)
       | fail)
      go_roundw
      case rel=>exact ⟨k+1,m,sa,sc,O,by omega,by go_num,by rw [il2.out],rfl,hm,hO.ext eX,hol,hb2,hx.trans eX⟩
      case measure=>simp [intOf];omega
     ·have il2:=Lib.hid (show decide (1232<totN (L.take (k+1)))=false from decide_eq_false (by omega))
      have hol:=Lib.hid (show O++fldB x=bytesF (L.take (k+1)) by rw [hOe,hts.out,bytesF_snoc])
      have ilo:¬ (1232:Int)<(m:Int)+(N:Int):=by omega
      have hfill:=Lib.hid (fld_fill x N hN)
      have hfl:=fldB_length x
      rw [hN] at hfl
      clear htt hlo hN hmt hOe
      have hmk:=run_make_by U 0 N (Nat.zero_le _) (by omega)
      simp only [Int.cast_ofNat_Int] at hmk
      go_wp2_with (first
       | (refine wpList_load_arr (RF2) rfl _ rfl (b0) (o0+k*2) rfl ([.int .i64 x.1, .slice g' x.2.length c']) (hrd) (rfl) ?_)
       | (go_at_call 105;refine (hsz _).mono ?_;rintro e w1 ⟨rfl,hxq⟩;obtain ⟨xq,rfl⟩:=hxq.out;clear hxq)
       | fail)
      refine nameW ?_
      intro W hW
      have hEW:Ext wr W:=by rw [hW];exact eX
      have hF:Blk W wr.heap.size 66 [.int .i64 x.1, .slice g' x.2.length c']:=by rw [hW];exact bK
      have hB:=blk_zeros8 ((wr.alloc (.cells #[.int .i64 x.1, .slice g' x.2.length c'] 66)).ext xq) N
      rw [← hW] at hB
      have hgl:wr.heap.size≤((wr.alloc (.cells #[.int .i64 x.1, .slice g' x.2.length c'] 66)).ext xq).heap.size:=Below.size (B:=wr.heap.size) eX
      have hgn:wr.heap.size≠((wr.alloc (.cells #[.int .i64 x.1, .slice g' x.2.length c'] 66)).ext xq).heap.size:=by
       have h:=lt_blk (n:=wr.heap.size) (w:=(wr.alloc (.cells #[.int .i64 x.1, .slice g' x.2.length c'] 66)).ext xq);omega
      generalize ((wr.alloc (.cells #[.int .i64 x.1, .slice g' x.2.length c'] 66)).ext xq).heap.size=g at *
      clear hW hmk
      have hS0:=hSk.ext hEW
      have hO0:=hO.ext hEW
      have hSne:=hSk.ne hgl
      have hOne:=hO.ne hgl
      have hgW:=hB.lt
      haveI:=hF.blt
      have i4:0≤x.1:=t0
      have hv1:IntKind.u64.wrap x.1=n64 (UInt64.ofNat x.1.toNat):=by rw [IntKind.wrap_u64];unfold n64;rw [UInt64.toNat_ofNat'];omega
      have hv2:IntKind.u64.wrap (N:Int)=n64 (UInt64.ofNat N):=by rw [IntKind.wrap_u64];unfold n64;rw [UInt64.toNat_ofNat'];omega
      have hpa:=hp2 _ _ hv1
      have hpb:=hp2 _ _ hv2
      clear hv1 hv2 hp2
      have hfl:=Lib.hid hfl
      have hSE:∀ w',Ext (W) w'→(fun w'=>w'.cell? ⟨wr.heap.size,0,none⟩=some (.int .i64 x.1)∧w'.cell? ⟨wr.heap.size,1,none⟩=some (.slice g' x.2.length c')) w':=(fun w' h=>⟨(hF.extB h).cell? 0 rfl,(hF.extB h).cell? 1 rfl⟩);have hExt0:Ext (W) (W).drew:=Ext.drew (Ext.refl _);refine wp_region_held_drew (S:=fun w'=>w'.cell? ⟨wr.heap.size,0,none⟩=some (.int .i64 x.1)∧w'.cell? ⟨wr.heap.size,1,none⟩=some (.slice g' x.2.length c')) (by kernel_rfl) (hSE _ hExt0) (fun hHeld=>?_)
      refine wpAnyH_take (i:=0) (v:=?v36) rfl (by kernel_rfl) (by kernel_rfl) (by kernel_rfl) (fun _ _ _ h=>h) (Or.inl ⟨by rfl,?hy36⟩) hHeld ?_;(case hy36=>(intro w' hx;simp [go_sem,execOp, *];(try simp (disch:=omega) only [q17q,q18q,q19q]);rfl));(try simp only [q14q,q15q,q16q,Act.put,q0q,q1q,q2q])
      refine wpAnyH_take (i:=1) (v:=?v37) rfl (by kernel_rfl) (by kernel_rfl) (by kernel_rfl) (fun _ _ _ h=>h) (Or.inl ⟨by rfl,?hy37⟩) hHeld ?_;(case hy37=>(intro w' hx;simp [go_sem,execOp, *];(try simp (disch:=omega) only [q17q,q18q,q19q]);rfl));(try simp only [q14q,q15q,q16q,Act.put,q0q,q1q,q2q])
      refine wpAnyH_take (i:=2) (v:=?v38) rfl (by kernel_rfl) (by kernel_rfl) (by kernel_rfl) (fun _ _ _ h=>h) (Or.inl ⟨by rfl,?hy38⟩) hHeld ?_;(case hy38=>(intro w' hx;simp [go_sem,execOp, *];(try simp (disch:=omega) only [q17q,q18q,q19q]);rfl));(try simp only [q14q,q15q,q16q,Act.put,q0q,q1q,q2q])
      refine wpAnyH_take (i:=3) (v:=?v39) rfl (by kernel_rfl) (by kernel_rfl) (by kernel_rfl) (fun _ _ _ h=>h) (Or.inl ⟨by rfl,?hy39⟩) hHeld ?_;(case hy39=>(intro w' hx;simp [go_sem,execOp, *];(try simp (disch:=omega) only [q17q,q18q,q19q]);rfl));(try simp only [q14q,q15q,q16q,Act.put,q0q,q1q,q2q])
      refine wpAnyH_take (i:=6) (v:=?v40) rfl (by kernel_rfl) (by kernel_rfl) (by kernel_rfl) (fun _ _ _ h=>h) (Or.inl ⟨by rfl,?hy40⟩) hHeld ?_;(case hy40=>(intro w' hx;simp [go_sem,execOp, *];(try simp (disch:=omega) only [q17q,q18q,q19q]);rfl));(try simp only [q14q,q15q,q16q,Act.put,q0q,q1q,q2q])
      refine wpAnyH_take (i:=7) (v:=?v41) rfl (by kernel_rfl) (by kernel_rfl) (by kernel_rfl) (fun _ _ _ h=>h) (Or.inl ⟨by rfl,?hy41⟩) hHeld ?_;(case hy41=>(intro w' hx;simp [go_sem,execOp, *];(try simp (disch:=omega) only [q17q,q18q,q19q]);rfl));(try simp only [q14q,q15q,q16q,Act.put,q0q,q1q,q2q])
      refine wpAnyH_take (i:=10) (v:=?v42) rfl (by kernel_rfl) (by kernel_rfl) (by kernel_rfl) (fun _ _ _ h=>h) (Or.inl ⟨by rfl,?hy42⟩) hHeld ?_;(case hy42=>(intro w' hx;simp [go_sem,execOp, *];(try simp (disch:=omega) only [q17q,q18q,q19q]);rfl));(try simp only [q14q,q15q,q16q,Act.put,q0q,q1q,q2q])
      refine wpAnyH_take (i:=11) (v:=?v43) rfl (by kernel_rfl) (by kernel_rfl) (by kernel_rfl) (fun _ _ _ h=>h) (Or.inl ⟨by rfl,?hy43⟩) hHeld ?_;(case hy43=>(intro w' hx;simp [go_sem,execOp, *];(try simp (disch:=omega) only [q17q,q18q,q19q]);rfl));(try simp only [q14q,q15q,q16q,Act.put,q0q,q1q,q2q])
      (refine R5.any_only 4 (by kernel_rfl) rfl rfl ?_;unfold gives;simp [go_sem,execOp])
      (with_reducible refine (hpa _).mono ?_)
      rintro e w5 ⟨a5,c5,rfl,hO5,hx5⟩
      have hx5:Ext W w5:=hExt0.trans hx5
      refine ⟨_,rfl,hSE _ hx5,?_⟩
      (try simp only [q14q,q15q,q16q,Act.put,q0q,q1q,q2q])
      refine R5.any_only 5 (by kernel_rfl) rfl rfl (R5.gives_append_fit U _ _ rfl g 0 N rfl a5 2 c5 rfl _ _ (hB.extB hx5) (by simp) hO5.sl (by omega) ?_)
      intro w6 hB6 hM6
      have hF6:=Blk.turn hM6 (hF.extB hx5) hgn
      refine ⟨⟨hF6.cell? 0 rfl,hF6.cell? 1 rfl⟩,?_⟩
      (try simp only [q14q,q15q,q16q,Act.put,q0q,q1q,q2q])
      (refine R5.any_only 8 (by kernel_rfl) rfl rfl ?_;unfold gives;simp [go_sem,execOp])
      (with_reducible refine (hpb _).mono ?_)
      rintro e w7 ⟨a7,c7,rfl,hO7,hx7⟩
      have hF7:=hF6.extB hx7
      refine ⟨_,rfl,⟨hF7.cell? 0 rfl,hF7.cell? 1 rfl⟩,?_⟩
      (try simp only [q14q,q15q,q16q,Act.put,q0q,q1q,q2q])
      refine R5.any_only 9 (by kernel_rfl) rfl rfl (R5.gives_append_fit U _ _ rfl g (0+2) N rfl a7 2 c7 rfl _ _ (hB6.extB hx7) (by simp [putL_length];omega) hO7.sl (by omega) ?_)
      intro w8 hB8 hM8
      have hF8:=Blk.turn hM8 hF7 hgn
      have hS8:=(((hS0.ext hx5).mutNe hM6 hSne).ext hx7).mutNe hM8 hSne
      refine ⟨⟨hF8.cell? 0 rfl,hF8.cell? 1 rfl⟩,?_⟩
      (try simp only [q14q,q15q,q16q,Act.put,q0q,q1q,q2q])
      refine R5.any_only 12 (by kernel_rfl) rfl rfl (R5.gives_append_fit U _ _ rfl g (0+2+2) N rfl g' x.2.length c' rfl _ _ hB8 (by simp [putL_length];omega) hS8 (by omega) ?_)
      intro w9 hB9 hM9
      have hF9:=Blk.turn hM9 hF8 hgn
      have hO9:=((((hO0.ext hx5).mutNe hM6 hOne).ext hx7).mutNe hM8 hOne).mutNe hM9 hOne
      have hE5:=(hx.trans hEW).trans hx5
      have hE6:Ext w w6:=Below.trans hE5 (hM6.below (by have:=hx.size;omega) hE5.size)
      have hE7:=hE6.trans hx7
      have hE8:Ext w w8:=Below.trans hE7 (hM8.below (by have:=hx.size;omega) hE7.size)
      have hE9:Ext w w9:=Below.trans hE8 (hM9.below (by have:=hx.size;omega) hE8.size)
      rw [hfill.out] at hB9
      have hS9:=hB9.sl hfl.out
      refine ⟨⟨hF9.cell? 0 rfl,hF9.cell? 1 rfl⟩,?_⟩
      (try simp only [q14q,q15q,q16q,Act.put,q0q,q1q,q2q])
      (refine R5.any_only 13 (by kernel_rfl) rfl rfl ?_;unfold gives;simp [go_sem,execOp])
      refine ⟨⟨hF9.cell? 0 rfl,hF9.cell? 1 rfl⟩,?_⟩
      (try simp only [q14q,q15q,q16q,Act.put,q0q,q1q,q2q])
      refine wpAnyH_done (by kernel_rfl) ?_ _
      clear hSE hExt0 hfill hB6 hB8 hM6 hM8 hM9 hF6 hF7 hF8 hF9 hE5 hE6 hE7 hE8 hO5 hO7 hS8 hpa hpb
      have iN:(N:Int)≤(N:Int):=Int.le_refl _
      go_wp2_with (at_builtin;refine wpList_append_by U rfl _ _ rfl w.heap.size sa _ sc _ rfl (some ⟨g,0,none⟩) N N _ rfl hO9 hS9 (by omega) hE9.size ?_;intro sa2 sc2 w2 hO2 hg2 hB2)
      go_roundw
      case rel=>exact ⟨k+1,m+N,sa2,sc2,_,by omega,by go_num,by rw [il2.out];simp;omega,rfl,by omega,hO2,Lib.hid fun _=>hol.out,hb2,Below.trans hE9 hB2⟩
      case measure=>simp [intOf];omega
   ·have he2:=Lib.hid (show r=([],(sizE x).2) by
     rw [← hr.out];unfold encF;rw [badE_at hxi hbad.out he,if_pos he])
    have hne:((sizE x).2 != 0)=true:=by rw [bne_iff_ne];exact he
    generalize (sizE x).2=ev at *
    generalize (sizE x).1=sv at *
    clear he
    go_wp2_with (first
     | (refine wpList_load_arr (RF2) rfl _ rfl (b0) (o0+k*2) rfl ([.int .i64 x.1, .slice g' x.2.length c']) (hrd) (rfl) ?_)
     | (go_at_call 105;refine (hsz _).mono ?_;rintro e w1 ⟨rfl,hxq⟩;obtain ⟨xq,rfl⟩:=hxq.out;clear hxq)
     | fail)
    go_ret2
    rw [he2.out]
    exact read2_err _ _ _ (hx.trans eX)
  ·obtain rfl:k=n:=by omega
   rw [List.take_of_length_le (by omega)] at *
   by_cases h24:24<k
   ·have i24:(24:Int)<(k:Int):=by omega
    have er:=Lib.hid (show r=([],8) by rw [← hr.out];unfold encF;rw [hbad.out,if_neg (by simp),if_pos (by omega)])
    go_wp2_with fail
    go_ret2
    rw [er.out]
    exact read2_err _ _ _ hx
   ·have i24:¬ (24:Int)<(k:Int):=by omega
    by_cases hlo:1232<totN L
    ·have er:=Lib.hid (show r=([],2) by rw [← hr.out];unfold encF;rw [hbad.out,if_neg (by simp),if_neg (by omega),if_pos hlo])
     have il:decide (1232<totN L)=true:=decide_eq_true hlo
     rw [il]
     go_wp2_with fail
     go_ret2
     rw [er.out]
     exact read2_err _ _ _ hx
    ·have er:=Lib.hid (show r=(O,0) by rw [← hr.out];unfold encF;rw [hbad.out,if_neg (by simp),if_neg (by omega),if_neg hlo,hOl.out (by omega)])
     have il:decide (1232<totN L)=false:=decide_eq_false hlo
     have hOL:=hO.1
     rw [il]
     go_wp2_with fail
     go_ret2
     rw [er.out]
     exact ⟨sa,sc,by rw [hOL];rfl,by rw [hOL];exact hO.sl,by rw [hOL];exact hO.le.1,hx⟩
end Go.Proofs.YtdmifbfgeeldnaaGreat

/- The walks of layer 18: open, Bare, nonced, padded, the guard's bytes. -/
namespace Go.Sec
theorem Rd.left {w:World} {a:Option Addr} {vs us:List Value} (h:Rd w a (vs++us)):Rd w a vs:=by
 rcases h with h|⟨b,o,ha,hb,hc⟩
 ·exact .inl (List.append_eq_nil_iff.1 h).1
 ·exact .inr ⟨b,o,ha,hb,fun k v hk=>hc k v (by rw [List.getElem?_append_left (List.getElem?_eq_some_iff.1 hk).1];exact hk)⟩
end Go.Sec
namespace Go.Proofs.YtdmifbfgeeldnaaGreat
open Go.RowKit Go.Sec Go.Oct Go.Pkt Go.Aes BigFrame
theorem RP16:RowT Tryz.prog 32 16:=⟨⟨_,Tryz.underlying32,rfl⟩,by kernel_rfl,⟨_,Tryz.zeroValue32,by kernel_rfl⟩⟩
theorem openB_err {h:Hdr} {L:List Fld} (h1:(encH h).2≠0):openB h L=([],(encH h).2):=if_pos h1
theorem openB_err2 {h:Hdr} {L:List Fld} (h1:(encH h).2=0) (h2:(encF L).2≠0):openB h L=([],(encF L).2):=by unfold openB;rw [if_neg (by simpa using h1),if_pos h2]
theorem openB_ok {h:Hdr} {L:List Fld} (h1:(encH h).2=0) (h2:(encF L).2=0):openB h L=((encH h).1++(encF L).1,0):=by unfold openB;rw [if_neg (by simpa using h1),if_neg (by simpa using h2)]
theorem encH_len {h:Hdr}:(encH h).1.length≤48:=by unfold encH;split <;> simp [hdrB_length]
theorem encF_len {L:List Fld}:(encF L).1.length≤1232:=by
 by_cases h:(encF L).2=0
 ·obtain ⟨_,_,h3,h4⟩:=encF_ok h
  rw [h4,bytesF_length];exact h3
 ·unfold encF at h ⊢
  split
  ·simp
  ·split
   ·simp
   ·split
    ·simp
    ·rename_i h1 h2 h3;rw [if_neg h1,if_neg h2,if_neg h3] at h;exact absurd rfl h
set_option maxHeartbeats 4000000 in
theorem popen_any (h:Hdr) (a1 a2:Option Addr)(n1 c1 n2 c2:Nat) (gd:Bool) (L:List Fld) (w:World)(hI:Ib w a1 n1 L) (hn:n1≤1000000) (hL:∀ f∈L,f.2.length≤1000000) :
  Calls Tryz.prog 58 #[.agg #[.int .i64 h.leap, .int .i64 h.ver, .int .i64 h.mode, .int .i64 h.strat, .int .i64 h.poll, .int .i64 h.prec, .int .u32 (n32 h.rd), .int .u32 (n32 h.rp), .int .u32 (n32 h.id), .int .u64 (n64 h.ref), .int .u64 (n64 h.org), .int .u64 (n64 h.rcv), .int .u64 (n64 h.tx), .slice a1 n1 c1, .slice a2 n2 c2, .bool gd]] w (Read2 (openB h L).1.length (openB h L).1 (.int .i64 (openB h L).2) w):=by
 have he:=fun W=>pencode_any h W
 have hx:=fun W H=>xencode_any a1 n1 c1 L W H hn hL
 go_enter Tryz.func58,Tryz.ntmps58
 go_wp2_with (first
  | (refine wpList_load_arr (RH13) rfl _ rfl (w.heap.size) (0) rfl ([.int .i64 h.leap, .int .i64 h.ver, .int .i64 h.mode, .int .i64 h.strat, .int .i64 h.poll, .int .i64 h.prec, .int .u32 (n32 h.rd), .int .u32 (n32 h.rp), .int .u32 (n32 h.id), .int .u64 (n64 h.ref), .int .u64 (n64 h.org), .int .u64 (n64 h.rcv), .int .u64 (n64 h.tx)]) ((Rd.left (vs:=[.int .i64 h.leap, .int .i64 h.ver, .int .i64 h.mode, .int .i64 h.strat, .int .i64 h.poll, .int .i64 h.prec, .int .u32 (n32 h.rd), .int .u32 (n32 h.rp), .int .u32 (n32 h.id), .int .u64 (n64 h.ref), .int .u64 (n64 h.org), .int .u64 (n64 h.rcv), .int .u64 (n64 h.tx)]) (us:=[.slice a1 n1 c1, .slice a2 n2 c2, .bool gd]) (Blk.new w #[.int .i64 h.leap, .int .i64 h.ver, .int .i64 h.mode, .int .i64 h.strat, .int .i64 h.poll, .int .i64 h.prec, .int .u32 (n32 h.rd), .int .u32 (n32 h.rp), .int .u32 (n32 h.id), .int .u64 (n64 h.ref), .int .u64 (n64 h.org), .int .u64 (n64 h.rcv), .int .u64 (n64 h.tx), .slice a1 n1 c1, .slice a2 n2 c2, .bool gd] 32).rd)) (rfl) ?_)
  | fail)
 refine nameCl ?_
 intro W hW
 have hE:Ext w W:=by rw [hW];exact eX
 have hB:Blk W w.heap.size 32 [.int .i64 h.leap, .int .i64 h.ver, .int .i64 h.mode, .int .i64 h.strat, .int .i64 h.poll, .int .i64 h.prec, .int .u32 (n32 h.rd), .int .u32 (n32 h.rp), .int .u32 (n32 h.id), .int .u64 (n64 h.ref), .int .u64 (n64 h.org), .int .u64 (n64 h.rcv), .int .u64 (n64 h.tx), .slice a1 n1 c1, .slice a2 n2 c2, .bool gd]:=by rw [hW];exact bK
 clear hW
 (with_reducible refine (he W).mono ?_)
 rintro e w1 ⟨b1,d1,rfl,hS1,hd1,hx1⟩
 have hB1:=hB.extB hx1
 have hE1:=hE.trans hx1
 haveI:=hB1.blt
 have f13:w1.cell? ⟨w.heap.size,13,none⟩=some (.slice a1 n1 c1):=hB1.cell? 13 rfl
 clear he hB hE hx1
 by_cases h0:(encH h).2=0
 ·rw [h0]
  go_wp2_with fail
  (with_reducible refine (hx w1 (hI.ext hE1)).mono ?_)
  rintro e w2 ⟨b2,d2,rfl,hS2,hd2,hx2⟩
  by_cases h1:(encF L).2=0
  ·rw [h1]
   have er:=Lib.hid (openB_ok h0 h1)
   have hl1:=encH_len (h:=h)
   have hl2:=encF_len (L:=L)
   generalize (encH h).1=B1 at *
   generalize (encF L).1=B2 at *
   clear h0 h1 hx f13
   have hS1:=hS1.ext hx2
   have hj:joinL [B1,B2]=B1++B2:=joinL2 _ _
   have hjl:(joinL [B1,B2]).length=B1.length+B2.length:=by rw [hj,List.length_append]
   have HJ:=Lib.hid hj
   clear hj
   go_wp2_with fail
   (with_reducible refine (ojoin_any _ _ _ [B1,B2] _ (bss2 (hS1.ext eX) (hS2.ext eX) _) (by omega) (B1.length+B2.length) hjl (by omega)).mono ?_)
   rintro e w3 ⟨a3,c3,rfl,hO3,hx3⟩
   rw [HJ.out] at hO3
   go_wp2_with fail
   go_ret2
   rw [er.out]
   show Read2 (B1++B2).length _ _ _ _ _
   rw [List.length_append]
   exact ⟨a3,c3,rfl,hO3.sl,hO3.le.1,(hE1.trans hx2).trans ((Ext.of_alloc _ _).trans hx3)⟩
  ·have er:=Lib.hid (openB_err2 h0 h1)
   have hI:=ne0 h1
   generalize (encF L).2=v at *
   clear h0 h1 hx f13
   go_wp2_with fail
   go_ret2
   rw [er.out]
   exact read2_err _ _ _ (hE1.trans hx2)
 ·have er:=Lib.hid (openB_err (L:=L) h0)
  have hI:=ne0 h0
  generalize (encH h).2=v at *
  clear h0 hx f13
  go_wp2_with fail
  go_ret2
  rw [er.out]
  exact read2_err _ _ _ hE1
theorem pnonced_any (n:Nat) {nI:Int} (hn:nI=(n:Int)) (w:World) :
  Calls Tryz.prog 59 #[.int .i64 nI] w fun e w'=>e = .returned (.bool (decide (16≤n∧n≤32)))∧Ext w w':=by
 subst hn
 obtain ⟨d,hd⟩:∃ d,decide (16≤n∧n≤32)=d:=⟨_,rfl⟩
 rw [hd]
 by_cases h1:16≤n
 ·have i1:(16:Int)≤(n:Int):=by omega
  by_cases h2:n≤32
  ·have i2:(n:Int)≤32:=by omega
   have e:=Lib.hid (show d=true by rw [← hd];exact decide_eq_true ⟨h1,h2⟩)
   clear h1 h2 hd
   go_enter Tryz.func59,Tryz.ntmps59
   go_wp2
   go_ret
   exact ⟨by rw [e.out];rfl,eX⟩
  ·have i2:¬ (n:Int)≤32:=by omega
   have e:=Lib.hid (show d=false by rw [← hd];exact decide_eq_false fun h=>h2 h.2)
   clear h1 h2 hd
   go_enter Tryz.func59,Tryz.ntmps59
   go_wp2
   go_ret
   exact ⟨by rw [e.out];rfl,eX⟩
 ·have i1:¬ (16:Int)≤(n:Int):=by omega
  have e:=Lib.hid (show d=false by rw [← hd];exact decide_eq_false fun h=>h1 h.1)
  clear h1 hd
  go_enter Tryz.func59,Tryz.ntmps59
  go_wp2
  go_ret
  exact ⟨by rw [e.out];rfl,eX⟩
theorem ppadded_any (n:Nat) {nI:Int} (hn:nI=(n:Int)) (w:World)(h:n≤1000000000) :
  Calls Tryz.prog 94 #[.int .i64 nI] w fun e w'=>e = .returned (.int .i64 ((pad4 n:Nat):Int))∧Ext w w':=by
 subst hn
 have e:((n:Int)+4-1) / 4*4=(pad4 n:Nat):=by unfold pad4;omega
 go_enter Tryz.func94,Tryz.ntmps94
 go_wp2
 go_ret
 exact ⟨by rw [← e];rfl,eX⟩
theorem padL4 (l:List UInt8):padL l 4=l++List.replicate (pad4 l.length-l.length) 0:=by
 unfold padL padN pad4
 rw [if_pos (by omega)]
 congr 2
 omega
theorem padL4_length (l:List UInt8):(padL l 4).length=pad4 l.length:=by
 rw [padL4,List.length_append,List.length_replicate];unfold pad4;omega
set_option maxHeartbeats 2000000 in
theorem opad4_any (a:Option Addr)(n c:Nat) (l:List UInt8)(w:World)(h:Sl w a n l) (hn:n≤1000000) :
  Calls Tryz.prog 107 #[.slice a n c, .int .i64 4] w (Fresh (pad4 n) (padL l 4) w):=by
 have hl:=h.len
 have hp:=Lib.hid (padL4 l)
 have hcl:=fun W H=>clone_any a n c l W H (by omega)
 go_enter Tryz.func107,Tryz.ntmps107
 go_wp2_with fail
 (with_reducible refine (hcl w h).mono ?_)
 rintro e w1 ⟨a1,c1,rfl,hO1,hx1⟩
 go_wp2_with fail
 go_loopw [5] (fun v5 wr=>∃ (m:Nat) (sa:Option Addr)(sc:Nat),n≤m∧m≤pad4 n∧v5 = .slice sa m sc∧Own wr w.heap.size sa m sc (l++List.replicate (m-n) 0)∧Ext w wr) (fun v5 _=>match v5 with | .slice _ m _=>pad4 n-m|_=>0)
 case atStart=>exact ⟨n,a1,c1,Nat.le_refl _,by unfold pad4;omega,rfl,by simpa using hO1,hx1⟩
 case round =>
  obtain ⟨m,sa,sc,hm0,hm1,rfl,hO,hx⟩:=hrel
  by_cases hlt:m<pad4 n
  ·have hmod:((m:Int) % 4 != 0)=true:=by rw [bne_iff_ne];unfold pad4 at hlt;omega
   have HS:=Lib.hid (show m+1-n=(m-n)+1 by omega)
   go_wp2_with (at_builtin;refine wpList_append_by U rfl _ _ rfl w.heap.size sa _ sc _ rfl _ 1 1 _ rfl (hO.ext eX) (sl_new1 _ 0 _) (by unfold pad4 at hm1;omega) (by simp;have:=hx.size;omega) ?_;intro sa2 sc2 w2 hO2 hg2 hB2)
   go_roundw
   case rel=>exact ⟨m+1,sa2,sc2,by omega,by omega,rfl,by rw [HS.out,List.replicate_succ',← List.append_assoc];exact hO2,Below.trans (b:=wr.alloc _) eX hB2⟩
   case measure=>show pad4 n-(m+1)<pad4 n-m;omega
  ·obtain rfl:m=pad4 n:=by omega
   have hmod:(((pad4 n:Nat):Int) % 4 != 0)=false:=by rw [bne_eq_false_iff_eq];unfold pad4;omega
   have hq:=Lib.hid (show l++List.replicate (pad4 n-n) 0=padL l 4 by rw [hp.out,hl])
   go_wp2
   go_ret
   exact ⟨_,_,rfl,by rw [← hq.out];exact hO,hx⟩
theorem guardB_length (n s:List UInt8):(guardB n s).length=4+pad4 n.length+pad4 s.length:=by
 simp only [guardB,List.length_append,putL_length,padL4_length];omega
set_option maxHeartbeats 4000000 in
theorem pgbytes_any (a1 a2:Option Addr)(n1 c1 n2 c2:Nat) (u v:List UInt8)(w:World)(h1:Sl w a1 n1 u) (h2:Sl w a2 n2 v) (m1:n1≤1000000) (m2:n2≤1000000) :
  Calls Tryz.prog 63 #[.agg #[.slice a1 n1 c1, .slice a2 n2 c2]] w (Fresh (4+pad4 n1+pad4 n2) (guardB u v) w):=by
 have l1:=h1.len
 have l2:=h2.len
 have hv1:IntKind.u64.wrap (n1:Int)=n64 (UInt64.ofNat n1):=by rw [IntKind.wrap_u64];unfold n64;rw [UInt64.toNat_ofNat'];omega
 have hv2:IntKind.u64.wrap (n2:Int)=n64 (UInt64.ofNat n2):=by rw [IntKind.wrap_u64];unfold n64;rw [UInt64.toNat_ofNat'];omega
 have hpa:=fun W=>oput_any (UInt64.ofNat n1) 2 hv1 (show (2:Int)=((2:Nat):Int) from rfl) W (by omega)
 have hpb:=fun W=>oput_any (UInt64.ofNat n2) 2 hv2 (show (2:Int)=((2:Nat):Int) from rfl) W (by omega)
 have hG:joinL [putL 2 (UInt64.ofNat n1),putL 2 (UInt64.ofNat n2),padL u 4,padL v 4]=guardB u v:=by unfold guardB;rw [joinL4,l1,l2]
 have hGl:(joinL [putL 2 (UInt64.ofNat n1),putL 2 (UInt64.ofNat n2),padL u 4,padL v 4]).length=4+pad4 n1+pad4 n2:=by rw [hG,guardB_length,l1,l2]
 have HG:=Lib.hid hG
 clear hG hv1 hv2 l1 l2
 go_enter Tryz.func63,Tryz.ntmps63
 go_wp2_with fail
 refine nameW ?_
 intro W hW
 have hE:Ext w W:=by rw [hW];exact eX
 have hB:Blk W w.heap.size 86 [.slice a1 n1 c1, .slice a2 n2 c2]:=by rw [hW];exact bK
 clear hW
 have h1:=h1.ext hE
 have h2:=h2.ext hE
 haveI:=hB.blt
 have f0:=hB.cell? 0 rfl
 have f1:W.cell? ⟨w.heap.size,1,none⟩=some (.slice a2 n2 c2):=hB.cell? 1 rfl
 refine wp_region_vague 16 [[],[0],[0,1],[0,1,2],[0,1,2,3],[],[5],[5,6],[5,6,7],[0,1,2,3,4,5,6,7,8],[],[10],[0,1,2,3,4,5,6,7,8,9,10,11],[],[13],[0,1,2,3,4,5,6,7,8,9,10,11,12,13,14],[0,1,2,3,4,5,6,7,8,9,10,11,12,13,14,15],[0,1,2,3,4,5,6,7,8,9,10,11,12,13,14,15,16],[0,1,2,3,4,5,6,7,8,9,10,11,12,13,14,15,16,17]] (by kernel_rfl) (by kernel_rfl) (by kernel_rfl) (by kernel_rfl) ?_;simp only [q8q,q9q,q10q,q11q,q12q,q13q]
 (repeat (refine VD_a ?_;(try simp only [Act.put,q0q,q1q,q2q])))
 (refine VD_vag (fun p => .slice (p 0).1 (2) (p 0).2) (fun p w''=>Own w'' 0 (p 0).1 (2) (p 0).2 (putL 2 (UInt64.ofNat n1))) (fun p w w' h hx=>h.ext hx) (fun us w' hx hf=>⟨rfl,?_⟩) ?_;(unfold gives;simp [go_sem,execOp];exact vag_fresh (Nat.zero_le _) (hpa _)))
 (repeat (refine VD_a ?_;(try simp only [Act.put,q0q,q1q,q2q])))
 (refine VD_vag (fun p => .slice (p 0).1 (2) (p 0).2) (fun p w''=>Own w'' 0 (p 0).1 (2) (p 0).2 (putL 2 (UInt64.ofNat n2))) (fun p w w' h hx=>h.ext hx) (fun us w' hx hf=>⟨rfl,?_⟩) ?_;(unfold gives;simp [go_sem,execOp];exact vag_fresh (Nat.zero_le _) (hpb _)))
 (repeat (refine VD_a ?_;(try simp only [Act.put,q0q,q1q,q2q])))
 (refine VD_vag (fun p => .slice (p 0).1 (pad4 n1) (p 0).2) (fun p w''=>Own w'' 0 (p 0).1 (pad4 n1) (p 0).2 (padL u 4)) (fun p w w' h hx=>h.ext hx) (fun us w' hx hf=>⟨rfl,?_⟩) ?_;(unfold gives;simp [go_sem,execOp];exact vag_fresh (Nat.zero_le _) (opad4_any a1 n1 c1 u _ (h1.ext hx) m1)))
 (repeat (refine VD_a ?_;(try simp only [Act.put,q0q,q1q,q2q])))
 (refine VD_vag (fun p => .slice (p 0).1 (pad4 n2) (p 0).2) (fun p w''=>Own w'' 0 (p 0).1 (pad4 n2) (p 0).2 (padL v 4)) (fun p w w' h hx=>h.ext hx) (fun us w' hx hf=>⟨rfl,?_⟩) ?_;(unfold gives;simp [go_sem,execOp];exact vag_fresh (Nat.zero_le _) (opad4_any a2 n2 c2 v _ (h2.ext hx) m2)))
 (refine VD_z ?_;intro us x hx hf;(try simp only [Act.put,q0q,q1q,q2q,wpList_none]);(try simp only [q3q,q4q,or_false,forall_eq_or_imp,forall_eq,q5q,q6q,q7q,false_or,true_and,and_true] at hf);(try simp only [Nat.reduceAdd,Nat.zero_add] at hf ⊢))
 obtain ⟨hO1,hO2,hO3,hO4⟩:=hf
 obtain ⟨p1,hp1⟩:∃ a,(us 4 0).1=a:=⟨_,rfl⟩
 obtain ⟨q1,hq1⟩:∃ a,(us 4 0).2=a:=⟨_,rfl⟩
 obtain ⟨p2,hp2⟩:∃ a,(us 9 0).1=a:=⟨_,rfl⟩
 obtain ⟨q2,hq2⟩:∃ a,(us 9 0).2=a:=⟨_,rfl⟩
 obtain ⟨p3,hp3⟩:∃ a,(us 12 0).1=a:=⟨_,rfl⟩
 obtain ⟨q3,hq3⟩:∃ a,(us 12 0).2=a:=⟨_,rfl⟩
 obtain ⟨p4,hp4⟩:∃ a,(us 15 0).1=a:=⟨_,rfl⟩
 obtain ⟨q4,hq4⟩:∃ a,(us 15 0).2=a:=⟨_,rfl⟩
 rw [hp1,hq1] at hO1 ⊢
 rw [hp2,hq2] at hO2 ⊢
 rw [hp3,hq3] at hO3 ⊢
 rw [hp4,hq4] at hO4 ⊢
 clear hp1 hq1 hp2 hq2 hp3 hq3 hp4 hq4 f0 f1 hpa hpb
 have hx5:Ext W (W.ext x):=Ext.of_ext _ _
 have s1:=hO1.sl
 have s2:=hO2.sl
 have s3:=hO3.sl
 have s4:=hO4.sl
 generalize W.ext x=W5 at *
 go_wp2_with fail
 (with_reducible refine (ojoin_any _ _ _ _ _ (bss4 s1 s2 s3 s4 _) (by omega) _ hGl (by unfold pad4;omega)).mono ?_)
 rintro e w9 ⟨a9,c9,rfl,hO9,hx9⟩
 rw [HG.out] at hO9
 go_wp2_with fail
 go_ret
 have hx8:=(hE.trans hx5).trans ((Ext.of_alloc _ _).trans hx9)
 exact ⟨a9,c9,rfl,hO9.mono (Nat.le_trans (hE.trans hx5).size (Ext.of_alloc _ _).size),hx8⟩
end Go.Proofs.YtdmifbfgeeldnaaGreat

/- The walks of layer 18: parse. -/
namespace Go.Proofs.YtdmifbfgeeldnaaGreat
open Go.RowKit Go.Sec Go.Oct Go.Pkt Go.Aes BigFrame
theorem RG2:RowT Tryz.prog 86 2:=⟨⟨_,Tryz.underlying86,rfl⟩,by kernel_rfl,⟨_,Tryz.zeroValue86,by kernel_rfl⟩⟩
def ParseOut (r:Option (List UInt8 × List UInt8)) (w:World)(e:Ending) (w':World):Prop :=
 ∃ a1 n1 c1 a2 n2 c2,e = .returned (.tuple #[.agg #[.slice a1 n1 c1, .slice a2 n2 c2], .bool r.isSome])∧(∀ x,r=some x→Sl w' a1 n1 x.1∧n1≤c1∧Sl w' a2 n2 x.2∧n2≤c2)∧Ext w w'
theorem ParseOut.no (w w':World)(hx:Ext w w'):ParseOut none w (.returned (.tuple #[.agg #[.slice none 0 0, .slice none 0 0], .bool false])) w':=⟨_,_,_,_,_,_,rfl,fun x h=>(by cases h),hx⟩
theorem getN2_int (l:List UInt8)(h:l.length≤2):n64 (getL l)=((getN l:Nat):Int):=by
 unfold n64;rw [getL_nat _ (by omega)]
theorem partsE_short {d:List UInt8} (h:d.length<4):partsE d=none:=if_neg fun k=>by have:=k.1;omega
theorem partsE_nonce {d:List UInt8} (h:¬ (16≤getN (d.take 2)∧getN (d.take 2)≤32)):partsE d=none:=if_neg fun k=>h k.2.1
theorem partsE_len {d:List UInt8} (h:d.length≠4+pad4 (getN (d.take 2))+pad4 (getN ((d.drop 2).take 2))):partsE d=none:=if_neg fun k=>h k.2.2.1
theorem partsE_ne {d:List UInt8} (h:guardB ((d.drop 4).take (getN (d.take 2))) ((d.drop (4+pad4 (getN (d.take 2)))).take (getN ((d.drop 2).take 2)))≠d):partsE d=none:=if_neg fun k=>h k.2.2.2
theorem partsE_yes {d:List UInt8} (h0:4≤d.length) (h1:16≤getN (d.take 2)∧getN (d.take 2)≤32) (h2:d.length=4+pad4 (getN (d.take 2))+pad4 (getN ((d.drop 2).take 2)))
  (h:guardB ((d.drop 4).take (getN (d.take 2))) ((d.drop (4+pad4 (getN (d.take 2)))).take (getN ((d.drop 2).take 2)))=d):partsE d=some ((d.drop 4).take (getN (d.take 2)),(d.drop (4+pad4 (getN (d.take 2)))).take (getN ((d.drop 2).take 2))):=if_pos ⟨h0,h1,h2,h⟩
set_option maxHeartbeats 2000000 in
theorem pparse_any (a:Option Addr)(k c:Nat) (d:List UInt8)(w:World)(hS:Sl w a k d) (hc:k≤c) (hk:k≤1000000) :
  Calls Tryz.prog 48 #[.slice a k c] w (ParseOut (partsE d) w):=by
 have hl:=hS.len
 obtain ⟨r,hr⟩:∃ r,partsE d=r:=⟨_,rfl⟩
 rw [hr]
 have hr:=Lib.hid hr
 by_cases h4:k<4
 ·have er:=Lib.hid (show r=none by rw [← hr.out];exact partsE_short (by omega))
  have hcut:=fun W=>cut_no a k c 4 W (.inr (by omega))
  go_enter Tryz.func48,Tryz.ntmps48
  go_wp2_with fail
  refine nameCl ?_
  intro W hW
  have hE:Ext w W:=by rw [hW];exact eX
  have hG:Blk W w.heap.size 86 [.slice none 0 0, .slice none 0 0]:=by rw [hW];exact bK
  clear hW
  (with_reducible refine (hcut W).mono ?_)
  rintro e w1 ⟨rfl,hx1⟩
  have hE1:=hE.trans hx1
  have hG:=hG.extB hx1
  haveI:=hG.blt
  go_wp2_with (first
   | (refine wpList_store_arr (RG2) rfl _ _ rfl (w.heap.size) (0) rfl ([.slice none 0 0, .slice none 0 0]) rfl (86) _ (hG) (rfl) (by simp) (oC) ?_;intro V hV hMV)
   | fail)
  refine bodyPost_ret (results_arr_tmp Tryz.results48 (RG2) _ _ (w.heap.size) (0) ([.slice none 0 0, .slice none 0 0]) rfl (hV.rd) (rfl) (.bool false) rfl) rfl ?_
  rw [er.out]
  exact ParseOut.no _ _ (Below.trans hE1 (hMV.below (by omega) hE1.size))
 ·have hcut:=fun W H=>cut_ok a k c d 4 W H hk (by omega) hc
  simp only [Int.cast_ofNat_Int] at hcut
  have hh1:((d.take 4).take 2).length≤2:=by simp;omega
  have hh2:((d.take 4).drop 2).length≤2:=by simp;omega
  have g1:=getN2_int _ hh1
  have g2:=getN2_int _ hh2
  have b1:=getN_two (d.take 4)
  have b2:getN ((d.take 4).drop 2)<65536:=by have:=getN_lt ((d.take 4).drop 2);have h2:(256:Nat) ^ ((d.take 4).drop 2).length≤256 ^ 2:=Nat.pow_le_pow_right (by omega) hh2;omega
  have e1:(d.take 4).take 2=d.take 2:=by rw [List.take_take];rfl
  have e2:(d.take 4).drop 2=(d.drop 2).take 2:=by rw [List.drop_take]
  have hL4:(d.take 4).length=4:=by simp;omega
  have e3:∀ x,(d.drop 4).drop x=d.drop (4+x):=fun x=>by rw [List.drop_drop]
  go_enter Tryz.func48,Tryz.ntmps48
  go_wp2_with fail
  refine nameCl ?_
  intro W hW
  have hE:Ext w W:=by rw [hW];exact eX
  have hG:Blk W w.heap.size 86 [.slice none 0 0, .slice none 0 0]:=by rw [hW];exact bK
  clear hW
  (with_reducible refine (hcut W (hS.ext hE)).mono ?_)
  rintro e w1 ⟨a1,c1,a2,c2,rfl,hO1,hO2,hx1⟩
  have hE1:=hE.trans hx1
  have hG:=hG.extB hx1
  have hS:=hS.ext hE1
  have s1:=hO1.sl
  have s2:=hO2.sl
  have k1:=hO1.le.1
  have k2:=hO2.le.1
  have t1:=s1.take 2 (by omega)
  have t2:=s1.drop c1 2 k1
  have hg1:=fun W H=>oget_any a1 2 c1 ((d.take 4).take 2) W H (by omega) (by omega)
  have hg2:=fun W H=>oget_any (sAdr a1 c1 2 1) 2 (c1-2) ((d.take 4).drop 2) W H (by omega) (by omega)
  rw [g1] at hg1
  rw [g2] at hg2
  rw [e1] at hg1 t1
  rw [e2] at hg2 t2
  have i2:(2:Int)≤(c1:Int):=by omega
  clear hE hx1 hcut hO1 g1 g2 e1 e2 hL4 hh1 hh2
  obtain ⟨n,hn⟩:∃ n,getN (d.take 2)=n:=⟨_,rfl⟩
  obtain ⟨m,hm⟩:∃ m,getN ((d.drop 2).take 2)=m:=⟨_,rfl⟩
  rw [hn] at hg1 
  rw [hm] at hg2
  have nb:n<65536:=by rw [← hn];exact getN_two d
  have mb:m<65536:=by rw [← hm];exact getN_two (d.drop 2)
  have s1b:=hS
  have hL:=Lib.hid hl
  have e3:=Lib.hid e3
  have hn:=Lib.hid hn
  have hm:=Lib.hid hm
  clear b1 b2 s1 hl
  go_wp2_with fail
  refine wp_region_vague 10 [[],[0],[0,1],[0,1,2],[],[4],[0,1,2,4,5],[0,1,2,4,5,6],[0,1,2,3,4,5,6],[0,1,2,3,4,5,6,7,8]] (by kernel_rfl) (by kernel_rfl) (by kernel_rfl) (by kernel_rfl) ?_;simp only [q8q,q9q,q10q,q11q,q12q,q13q]
  (repeat (refine VD_a ?_;(try simp only [Act.put,q0q,q1q,q2q])))
  (refine VD_vag (fun _ => .int .u64 ((n:Nat):Int)) (fun _ _=>True) (fun _ _ _ _ _=>trivial) (fun us w' hx hf=>⟨rfl,?_⟩) ?_;(unfold gives;simp [go_sem,execOp];refine (hg1 _ (t1.ext hx)).mono ?_;rintro e w1 ⟨rfl,hx1⟩;first|exact ⟨rfl,hx1⟩|simpa using hx1))
  (repeat (refine VD_a ?_;(try simp only [Act.put,q0q,q1q,q2q])))
  (refine VD_vag (fun _ => .int .u64 ((m:Nat):Int)) (fun _ _=>True) (fun _ _ _ _ _=>trivial) (fun us w' hx hf=>⟨rfl,?_⟩) ?_;(unfold gives;simp [go_sem,execOp];refine (hg2 _ (t2.ext hx)).mono ?_;rintro e w1 ⟨rfl,hx1⟩;first|exact ⟨rfl,hx1⟩|simpa using hx1))
  (repeat (refine VD_a ?_;(try simp only [Act.put,q0q,q1q,q2q])))
  (refine VD_z ?_;intro us x hx hf;(try simp only [Act.put,q0q,q1q,q2q,wpList_none]);(try simp only [q3q,q4q,or_false,forall_eq_or_imp,forall_eq,q5q,q6q,q7q,false_or,true_and,and_true] at hf);(try simp only [Nat.reduceAdd,Nat.zero_add] at hf ⊢))
  have hwn:IntKind.i64.wrap ((n:Nat):Int)=(n:Int):=by rw [IntKind.wrap_i64];omega
  have hwm:IntKind.i64.wrap ((m:Nat):Int)=(m:Int):=by clear hwn;rw [IntKind.wrap_i64];omega
  try rw [hwn]
  try rw [hwm]
  clear hwn hwm hf
  have hx5:Ext w1 (w1.ext x):=Ext.of_ext _ _
  have hE1:=hE1.trans hx5
  have hG:=hG.extB hx5
  have s2:=s2.ext hx5
  have hS:=hS.ext hx5
  generalize w1.ext x=w1 at *
  haveI:=hG.blt
  clear hg1 hg2 t1 t2 s1b
  have pn:pad4 n<65600:=by unfold pad4;omega
  have pm:pad4 m<65600:=by unfold pad4;omega
  have pn0:n≤pad4 n:=by unfold pad4;omega
  have pm0:m≤pad4 m:=by unfold pad4;omega
  by_cases q1:16≤n∧n≤32
  ·have hnn:=fun W=>pnonced_any n rfl W
   rw [decide_eq_true q1] at hnn
   by_cases q2:k=4+pad4 n+pad4 m
   ·have i3:(((k-4:Nat):Int) != ((pad4 n:Nat):Int)+((pad4 m:Nat):Int))=false:=by rw [bne_eq_false_iff_eq];omega
    have j1:(n:Int)≤(c2:Int):=by omega
    have j2:((pad4 n:Nat):Int)≤((pad4 n:Nat):Int)+(m:Int):=by omega
    have j3:((pad4 n:Nat):Int)+(m:Int)≤(c2:Int):=by omega
    have mk1:n≤c2:=by omega
    have mk2:m≤c2-pad4 n:=by omega
    have u1:=s2.take n (by omega)
    have u2:=(s2.drop c2 (pad4 n) (by omega)).take m (by omega)
    have hql:=Lib.hid q2
    clear q2 s2
    go_wp2_with (first
     | (go_at_call 59;refine (hnn _).mono ?_;rintro e w1 ⟨rfl,hxq⟩;obtain ⟨xq,rfl⟩:=hxq.out;clear hxq)
     | (go_at_call 94;refine (ppadded_any _ rfl _ (by omega)).mono ?_;rintro e w1 ⟨rfl,hxq⟩;obtain ⟨xq,rfl⟩:=hxq.out;clear hxq)
     | fail)
    refine nameW ?_
    intro W5 hW5
    have hE6:Ext w1 W5:=by rw [hW5];exact eX
    clear hW5
    have hE5:=hE1.trans hE6
    have hG5:=hG.extB hE6
    have hS5:=hS.ext hE6
    have u1:=u1.ext hE6
    have u2:=u2.ext hE6
    have hgW5:=hG5.lt
    clear hG hS hE1 hE6 i3
    refine R2.wp_region_vague 13 [[],[],[0,1],[],[],[4],[],[4,5,6],[],[4,5,6,7,8],[3,4,5,6,7,8,9],[0,1,2,3,4,5,6,7,8,9,10],[],[0,1,2,3,4,5,6,7,8,9,10,11,12]] (by kernel_rfl) (by kernel_rfl) (by kernel_rfl) (by kernel_rfl) ?_;simp only [q8q,q9q,q10q,q11q,q12q,q13q]
    (repeat (apply R2.VD_der;(case h=>(intro us w' hx hf;obtain ⟨x,rfl⟩:=hx.out;refine ⟨rfl,?_⟩;simp [go_sem,execOp, *];(try simp (disch:=omega) only [q17q,q18q,q19q]);rfl));(try simp only [Act.put,q0q,q1q,q2q])))
    (refine R2.VD_vag (fun _ => .int .i64 ((pad4 n:Nat):Int)) (fun _ _=>True) (fun _ _ _ _ _=>trivial) (fun us w' hx hf=>⟨rfl,?_⟩) ?_;(unfold gives;simp [go_sem,execOp];refine (ppadded_any n rfl _ (by omega)).mono ?_;rintro e w1 ⟨rfl,hx1⟩;first|exact ⟨rfl,hx1⟩|simpa using hx1))
    (repeat (apply R2.VD_der;(case h=>(intro us w' hx hf;obtain ⟨x,rfl⟩:=hx.out;refine ⟨rfl,?_⟩;simp [go_sem,execOp, *];(try simp (disch:=omega) only [q17q,q18q,q19q]);rfl));(try simp only [Act.put,q0q,q1q,q2q])))
    (refine R2.VD_vag (fun _ => .int .i64 ((pad4 n:Nat):Int)) (fun _ _=>True) (fun _ _ _ _ _=>trivial) (fun us w' hx hf=>⟨rfl,?_⟩) ?_;(unfold gives;simp [go_sem,execOp];refine (ppadded_any n rfl _ (by omega)).mono ?_;rintro e w1 ⟨rfl,hx1⟩;first|exact ⟨rfl,hx1⟩|simpa using hx1))
    (repeat (apply R2.VD_der;(case h=>(intro us w' hx hf;obtain ⟨x,rfl⟩:=hx.out;refine ⟨rfl,?_⟩;simp [go_sem,execOp, *];(try simp (disch:=omega) only [q17q,q18q,q19q]);rfl));(try simp only [Act.put,q0q,q1q,q2q])))
    (refine R2.VD_alloc _ ([.slice none 0 0, .slice none 0 0]) Tryz.zeroValue86 rfl rfl rfl ?_)
    (refine R2.VD_nil ?_;intro us w' hx hf hd;obtain ⟨x,rfl⟩:=hx.out;(try simp only [Act.put,q0q,q1q,q2q,wpList_none]);(try simp only [q3q,q4q,or_false,forall_eq_or_imp,forall_eq,q5q,q6q,q7q,false_or,true_and,and_true] at hf);(try simp only [Nat.reduceAdd,Nat.zero_add] at hf ⊢))
    obtain ⟨g,eg,hgW,hBg⟩:=hf
    rw [eg]
    have hx6:Ext W5 (W5.ext x):=Ext.of_ext _ _
    have hgE:=Nat.le_trans hE5.size hgW
    have hE5:=hE5.trans hx6
    have hG5:=hG5.extB hx6
    have u1:=u1.ext hx6
    have u2:=u2.ext hx6
    have hS5:=hS5.ext hx6
    have hg5:=hG5.lt
    have hne:w.heap.size≠g:=by omega
    clear eg hd
    generalize W5.ext x=W6 at *
    haveI:=hG5.blt
    haveI:=hBg.blt
    have hz:(((pad4 n:Nat):Int)+(m:Int)).toNat-pad4 n=m:=by omega
    simp only [hz]
    clear hz
    go_wp2_with (first
     | (refine wpList_store_arr (RG2) rfl _ _ rfl (g) (0) rfl ([.slice a2 n c2, .slice (sAdr a2 c2 (pad4 n) 1) m (c2-pad4 n)]) rfl (86) _ (hBg) (rfl) (by simp) (oC) ?_;intro V hV hMV)
     | fail)
    have hV:Blk V g 86 [.slice a2 n c2, .slice (sAdr a2 c2 (pad4 n) 1) m (c2-pad4 n)]:=hV
    have hGV:=Blk.turn hMV hG5 hne
    have hEV:Ext w V:=Below.trans hE5 (hMV.below hgE hE5.size)
    have v1:=Sl.mut u1 hBg (by simp) hMV
    have v2:=Sl.mut u2 hBg (by simp) hMV
    have hSV:=Sl.mut hS5 hBg (by simp) hMV
    obtain ⟨N1,hN1⟩:∃ l,(d.drop 4).take n=l:=⟨_,rfl⟩
    obtain ⟨N2,hN2⟩:∃ l,((d.drop 4).drop (pad4 n)).take m=l:=⟨_,rfl⟩
    rw [hN1] at v1
    rw [hN2] at v2
    have hd1:(d.drop 4).take (getN (d.take 2))=N1:=by rw [hn.out];exact hN1
    have hd2:(d.drop (4+pad4 (getN (d.take 2)))).take (getN ((d.drop 2).take 2))=N2:=by rw [hn.out,hm.out,← e3.out];exact hN2
    have hyes:=fun h=>partsE_yes (d:=d) (by rw [hL.out];omega) (by rw [hn.out];exact q1) (by rw [hL.out,hn.out,hm.out];exact hql.out) h
    have hnot:=fun h=>partsE_ne (d:=d) h
    rw [hd1,hd2,hr.out] at hyes
    rw [hd1,hd2,hr.out] at hnot
    clear hd1 hd2 hN1 hN2 u1 u2 hS5 hBg hG5 hMV hE5 hn hm hL e3 hql hgW hgW5
    haveI:=hV.blt
    haveI:=hGV.blt
    refine wp_region_vague 5 [[],[],[1],[],[1,2,3],[0,1,2,3,4],[0,1,2,3,4,5]] (by kernel_rfl) (by kernel_rfl) (by kernel_rfl) (by kernel_rfl) ?_;simp only [q8q,q9q,q10q,q11q,q12q,q13q]
    (refine VD_load_arr (RG2) _ rfl (fun _=>rfl) (g) (0) (fun _=>by simp [go_sem]) ([.slice a2 n c2, .slice (sAdr a2 c2 (pad4 n) 1) m (c2-pad4 n)]) (hV.rd) (rfl) ?_)
    (refine VD_load_arr (RG2) _ rfl (fun _=>rfl) (g) (0) (fun _=>by simp [go_sem]) ([.slice a2 n c2, .slice (sAdr a2 c2 (pad4 n) 1) m (c2-pad4 n)]) (hV.rd) (rfl) ?_)
    (refine VD_vag (fun p => .slice (p 0).1 (4+pad4 n+pad4 m) (p 0).2) (fun p w''=>Own w'' 0 (p 0).1 (4+pad4 n+pad4 m) (p 0).2 (guardB N1 N2)) (fun p w w' h hx=>h.ext hx) (fun us w' hx hf=>⟨rfl,?_⟩) ?_;(unfold gives;simp [go_sem,execOp];exact vag_fresh (Nat.zero_le _) (pgbytes_any _ _ n c2 m (c2-pad4 n) N1 N2 _ (v1.ext hx) (v2.ext hx) (by omega) (by omega))))
    (repeat (refine VD_a ?_;(try simp only [Act.put,q0q,q1q,q2q])))
    (refine VD_vag (fun _ => .bool (guardB N1 N2 == d)) (fun _ _=>True) (fun _ _ _ _ _=>trivial) (fun us w' hx hf=>⟨rfl,?_⟩) ?_;(unfold gives;simp [go_sem,execOp];refine (osame_any _ _ _ _ _ _ _ _ _ (Own.sl (hf _ (List.mem_append_right _ (List.mem_singleton_self _)) rfl)) (hSV.ext hx)).mono ?_;rintro e w1 ⟨rfl,hx1⟩;first|exact ⟨rfl,hx1⟩|simpa using hx1))
    (refine VD_z ?_;intro us x hx hf;(try simp only [Act.put,q0q,q1q,q2q,wpList_none]);(try simp only [q3q,q4q,or_false,forall_eq_or_imp,forall_eq,q5q,q6q,q7q,false_or,true_and,and_true] at hf);(try simp only [Nat.reduceAdd,Nat.zero_add] at hf ⊢))
    have hxx:Ext V (V.ext x):=Ext.of_ext _ _
    have hGx:=hGV.extB hxx
    have hEx:=hEV.trans hxx
    have v1:=v1.ext hxx
    have v2:=v2.ext hxx
    clear hf hV hGV hEV hSV
    generalize V.ext x=V at *
    haveI:=hGx.blt
    by_cases hq:guardB N1 N2=d
    ·have er:=Lib.hid (hyes hq)
     have hb:(guardB N1 N2 == d)=true:=beq_iff_eq.2 hq
     rw [hb]
     clear hq hb hyes hnot
     go_wp2_with (first
      | (refine wpList_store_arr (RG2) rfl _ _ rfl (w.heap.size) (0) rfl ([.slice a2 n c2, .slice (sAdr a2 c2 (pad4 n) 1) m (c2-pad4 n)]) rfl (86) _ (hGx) (rfl) (by simp) (oC) ?_;intro V9 hV9 hM9)
      | fail)
     refine bodyPost_ret (results_arr_tmp Tryz.results48 (RG2) _ _ (w.heap.size) (0) ([.slice a2 n c2, .slice (sAdr a2 c2 (pad4 n) 1) m (c2-pad4 n)]) rfl (hV9.rd) (rfl) (.bool true) rfl) rfl ?_
     rw [er.out]
     exact ⟨_,_,_,_,_,_,rfl,fun y hy=>(by injection hy with hy;subst hy;exact ⟨Sl.mut v1 hGx (by simp) hM9,mk1,Sl.mut v2 hGx (by simp) hM9,mk2⟩),Below.trans hEx (hM9.below (Nat.le_refl _) hEx.size)⟩
    ·have er:=Lib.hid (hnot hq)
     have hb:(guardB N1 N2 == d)=false:=beq_eq_false_iff_ne.2 hq
     rw [hb]
     clear hq hb hyes hnot
     go_wp2_with (first
      | (refine wpList_store_arr (RG2) rfl _ _ rfl (w.heap.size) (0) rfl ([.slice a2 n c2, .slice (sAdr a2 c2 (pad4 n) 1) m (c2-pad4 n)]) rfl (86) _ (hGx) (rfl) (by simp) (oC) ?_;intro V9 hV9 hM9)
      | fail)
     refine bodyPost_ret (results_arr_tmp Tryz.results48 (RG2) _ _ (w.heap.size) (0) ([.slice a2 n c2, .slice (sAdr a2 c2 (pad4 n) 1) m (c2-pad4 n)]) rfl (hV9.rd) (rfl) (.bool false) rfl) rfl ?_
     rw [er.out]
     exact ⟨_,_,_,_,_,_,rfl,fun y hy=>(by cases hy),Below.trans hEx (hM9.below (Nat.le_refl _) hEx.size)⟩
   ·have er:=Lib.hid (show r=none by rw [← hr.out];exact partsE_len (by rw [hL.out,hn.out,hm.out];exact q2))
    have i3:(((k-4:Nat):Int) != ((pad4 n:Nat):Int)+((pad4 m:Nat):Int))=true:=by rw [bne_iff_ne];omega
    go_wp2_with (first
     | (go_at_call 59;refine (hnn _).mono ?_;rintro e w1 ⟨rfl,hxq⟩;obtain ⟨xq,rfl⟩:=hxq.out;clear hxq)
     | (go_at_call 94;refine (ppadded_any _ rfl _ (by omega)).mono ?_;rintro e w1 ⟨rfl,hxq⟩;obtain ⟨xq,rfl⟩:=hxq.out;clear hxq)
     | (refine wpList_store_arr (RG2) rfl _ _ rfl (w.heap.size) (0) rfl ([.slice none 0 0, .slice none 0 0]) rfl (86) _ ((hG.extB eX)) (rfl) (by simp) (oC) ?_;intro V hV hMV)
     | fail)
    refine bodyPost_ret (results_arr_tmp Tryz.results48 (RG2) _ _ (w.heap.size) (0) ([.slice none 0 0, .slice none 0 0]) rfl (hV.rd) (rfl) (.bool false) rfl) rfl ?_
    rw [er.out]
    exact ParseOut.no _ _ (Below.trans (hE1.trans eX) (hMV.below (by omega) (Below.size (hE1.trans eX))))
  ·have er:=Lib.hid (show r=none by rw [← hr.out];exact partsE_nonce (by rw [hn.out];exact q1))
   have hnn:=fun W=>pnonced_any n rfl W
   rw [decide_eq_false q1] at hnn
   go_wp2_with (first
    | (go_at_call 59;refine (hnn _).mono ?_;rintro e w1 ⟨rfl,hxq⟩;obtain ⟨xq,rfl⟩:=hxq.out;clear hxq)
    | (refine wpList_store_arr (RG2) rfl _ _ rfl (w.heap.size) (0) rfl ([.slice none 0 0, .slice none 0 0]) rfl (86) _ ((hG.extB eX)) (rfl) (by simp) (oC) ?_;intro V hV hMV)
    | fail)
   refine bodyPost_ret (results_arr_tmp Tryz.results48 (RG2) _ _ (w.heap.size) (0) ([.slice none 0 0, .slice none 0 0]) rfl (hV.rd) (rfl) (.bool false) rfl) rfl ?_
   rw [er.out]
   exact ParseOut.no _ _ (Below.trans (hE1.trans eX) (hMV.below (by omega) (Below.size (hE1.trans eX))))
end Go.Proofs.YtdmifbfgeeldnaaGreat

/- The walks of layer 18: Bare, Read. -/
namespace Go.Pkt
theorem readE_head {b:List UInt8} (h:(decH b).2≠0):readE b=(zeroP,(decH b).2):=if_pos h
theorem readE_flds {b:List UInt8} (h:(decH b).2=0) (h2:(decF (decH b).1.2).2≠0):readE b=(zeroP,(decF (decH b).1.2).2):=by unfold readE;rw [if_neg (by simpa using h),if_pos h2]
theorem readE_ok {b:List UInt8} (h:(decH b).2=0) (h2:(decF (decH b).1.2).2=0):readE b=(⟨(decH b).1.1,(decF (decH b).1.2).1,[],false⟩,0):=by unfold readE;rw [if_neg (by simpa using h),if_neg (by simpa using h2)]
theorem decH_rest {b:List UInt8}:(decH b).1.2.length≤b.length:=by
 unfold decH
 split
 ·simp
 ·split
  ·simp
  ·split <;> simp
end Go.Pkt
namespace Go.Proofs.YtdmifbfgeeldnaaGreat
open Go.RowKit Go.Sec Go.Oct Go.Pkt Go.Aes BigFrame
def ReadOut (r:Pkt × Int) (w:World)(e:Ending) (w':World):Prop:=∃ a1 c1,e = .returned (.tuple #[.agg #[.int .i64 r.1.h.leap, .int .i64 r.1.h.ver, .int .i64 r.1.h.mode, .int .i64 r.1.h.strat, .int .i64 r.1.h.poll, .int .i64 r.1.h.prec, .int .u32 (n32 r.1.h.rd), .int .u32 (n32 r.1.h.rp), .int .u32 (n32 r.1.h.id), .int .u64 (n64 r.1.h.ref), .int .u64 (n64 r.1.h.org), .int .u64 (n64 r.1.h.rcv), .int .u64 (n64 r.1.h.tx), .slice a1 r.1.plain.length c1, .slice none 0 0, .bool false], .int .i64 r.2]) ∧
 (∃ B,OwnI 66 w' B a1 r.1.plain.length c1 r.1.plain)∧Ext w w'
theorem ReadOut.err (w w':World)(e:Int) (hx:Ext w w'):ReadOut (zeroP,e) w (.returned (.tuple #[.agg #[.int .i64 0, .int .i64 0, .int .i64 0, .int .i64 0, .int .i64 0, .int .i64 0, .int .u32 0, .int .u32 0, .int .u32 0, .int .u64 0, .int .u64 0, .int .u64 0, .int .u64 0, .slice none 0 0, .slice none 0 0, .bool false], .int .i64 e])) w':=⟨none,0,rfl,⟨0,OwnI.nil _ _ _⟩,hx⟩
set_option maxHeartbeats 2000000 in
theorem pread_any (a:Option Addr)(n c:Nat) (b:List UInt8)(w:World)(hS:Sl w a n b) (hc:n≤c) (hn:n≤1000000) :
  Calls Tryz.prog 22 #[.slice a n c] w (ReadOut (readE b) w):=by
 have hl:=hS.len
 have hdh:=fun W H=>pdecode_any a n c b W H hc hn
 have hrl:=decH_rest (b:=b)
 obtain ⟨r,hr⟩:∃ r,readE b=r:=⟨_,rfl⟩
 rw [hr]
 have hr:=Lib.hid hr
 go_enter Tryz.func22,Tryz.ntmps22
 go_wp2_with fail
 refine nameCl ?_
 intro W hW
 have hE:Ext w W:=by rw [hW];exact eX
 have hP:Blk W w.heap.size 32 [.int .i64 0, .int .i64 0, .int .i64 0, .int .i64 0, .int .i64 0, .int .i64 0, .int .u32 0, .int .u32 0, .int .u32 0, .int .u64 0, .int .u64 0, .int .u64 0, .int .u64 0, .slice none 0 0, .slice none 0 0, .bool false]:=by rw [hW];exact bK
 clear hW
 (with_reducible refine (hdh W (hS.ext hE)).mono ?_)
 rintro e w1 ⟨b1,d1,rfl,hS1,hd1,hx1⟩
 have hE1:=hE.trans hx1
 have hP1:=hP.extB hx1
 haveI:=hP1.blt
 clear hE hP hx1 hdh
 by_cases q1:(decH b).2=0
 ·rw [q1]
  have hdf:=fun W H=>xdecode_any b1 (decH b).1.2.length d1 (decH b).1.2 W H hd1 (by omega)
  have hok:=fun h=>readE_ok q1 h
  have hbad:=fun h=>readE_flds q1 h
  generalize (decH b).1.2=R at *
  generalize (decH b).1.1=H at *
  go_wp2_with (first
   | (refine wpList_alloc_store (RH13) rfl rfl _ _ rfl rfl rfl rfl (by simp [Act.put]) ([.int .i64 H.leap, .int .i64 H.ver, .int .i64 H.mode, .int .i64 H.strat, .int .i64 H.poll, .int .i64 H.prec, .int .u32 (n32 H.rd), .int .u32 (n32 H.rp), .int .u32 (n32 H.id), .int .u64 (n64 H.ref), .int .u64 (n64 H.org), .int .u64 (n64 H.rcv), .int .u64 (n64 H.tx)]) rfl (by simp) (rfl) (oC) ?_;intro x hz _)
   | fail)
  refine nameCl ?_
  intro W2 hW2
  have hx2:Ext w1 W2:=by rw [hW2];exact eX
  have hzz:Blk W2 w1.heap.size 27 [.int .i64 H.leap, .int .i64 H.ver, .int .i64 H.mode, .int .i64 H.strat, .int .i64 H.poll, .int .i64 H.prec, .int .u32 (n32 H.rd), .int .u32 (n32 H.rp), .int .u32 (n32 H.id), .int .u64 (n64 H.ref), .int .u64 (n64 H.org), .int .u64 (n64 H.rcv), .int .u64 (n64 H.tx)]:=by rw [hW2];exact hz.extB eX
  have hP2:=hP1.extB hx2
  have hE2:=hE1.trans hx2
  have hS2:=hS1.ext hx2
  have hlt:=hP1.lt
  clear hW2 hx2 hE1 hP1 hS1
  (with_reducible refine (hdf W2 hS2).mono ?_)
  rintro e w3 ⟨b3,d3,rfl,hO3,hx3⟩
  have hP3:=hP2.extB hx3
  have hz3:=hzz.extB hx3
  have hE3:=hE2.trans hx3
  haveI:=hP3.blt
  clear hP2 hE2 hdf hz hzz hx3
  by_cases q2:(decF R).2=0
  ·rw [q2]
   have er:=Lib.hid (show r=(⟨H,(decF R).1,[],false⟩,0) by rw [← hr.out];exact hok q2)
   clear hok hbad q2
   generalize (decF R).1=L at *
   go_wp2_with (first
    | (refine wpList_load_arr (RH13) rfl _ rfl (w1.heap.size) (0) rfl ([.int .i64 H.leap, .int .i64 H.ver, .int .i64 H.mode, .int .i64 H.strat, .int .i64 H.poll, .int .i64 H.prec, .int .u32 (n32 H.rd), .int .u32 (n32 H.rp), .int .u32 (n32 H.id), .int .u64 (n64 H.ref), .int .u64 (n64 H.org), .int .u64 (n64 H.rcv), .int .u64 (n64 H.tx)]) ((hz3.extB eX).rd) (rfl) ?_)
    | (refine wpList_store_arr (RP16) rfl _ _ rfl (w.heap.size) (0) rfl ([.int .i64 H.leap, .int .i64 H.ver, .int .i64 H.mode, .int .i64 H.strat, .int .i64 H.poll, .int .i64 H.prec, .int .u32 (n32 H.rd), .int .u32 (n32 H.rp), .int .u32 (n32 H.id), .int .u64 (n64 H.ref), .int .u64 (n64 H.org), .int .u64 (n64 H.rcv), .int .u64 (n64 H.tx), .slice b3 L.length d3, .slice none 0 0, .bool false]) rfl (32) _ ((hP3.extB eX)) (rfl) (by simp) (oC) ?_;intro V hV hMV)
    | fail)
   refine bodyPost_ret (results_arr_tmp Tryz.results22 (RP16) _ _ (w.heap.size) (0) ([.int .i64 H.leap, .int .i64 H.ver, .int .i64 H.mode, .int .i64 H.strat, .int .i64 H.poll, .int .i64 H.prec, .int .u32 (n32 H.rd), .int .u32 (n32 H.rp), .int .u32 (n32 H.id), .int .u64 (n64 H.ref), .int .u64 (n64 H.org), .int .u64 (n64 H.rcv), .int .u64 (n64 H.tx), .slice b3 L.length d3, .slice none 0 0, .bool false]) rfl (hV.rd) (rfl) (.int .i64 0) rfl) rfl ?_
   rw [er.out]
   exact ⟨b3,d3,rfl,⟨_,hO3.mut hP3 (by decide) (by simp) hMV⟩,Below.trans hE3 (hMV.below (Nat.le_refl _) hE3.size)⟩
  ·have er:=Lib.hid (show r=(zeroP,(decF R).2) by rw [← hr.out];exact hbad q2)
   have i2:=ne0 q2
   generalize (decF R).2=v at *
   generalize (decF R).1=L at *
   clear q2 hok hbad
   go_wp2_with (first
    | (refine wpList_store_arr (RP16) rfl _ _ rfl (w.heap.size) (0) rfl ([.int .i64 0, .int .i64 0, .int .i64 0, .int .i64 0, .int .i64 0, .int .i64 0, .int .u32 0, .int .u32 0, .int .u32 0, .int .u64 0, .int .u64 0, .int .u64 0, .int .u64 0, .slice none 0 0, .slice none 0 0, .bool false]) rfl (32) _ ((hP3.extB eX)) (rfl) (by simp) (oC) ?_;intro V hV hMV)
    | fail)
   refine bodyPost_ret (results_arr_tmp Tryz.results22 (RP16) _ _ (w.heap.size) (0) ([.int .i64 0, .int .i64 0, .int .i64 0, .int .i64 0, .int .i64 0, .int .i64 0, .int .u32 0, .int .u32 0, .int .u32 0, .int .u64 0, .int .u64 0, .int .u64 0, .int .u64 0, .slice none 0 0, .slice none 0 0, .bool false]) rfl (hV.rd) (rfl) (.int .i64 v) rfl) rfl ?_
   rw [er.out]
   exact ReadOut.err _ _ _ (Below.trans (hE3.trans eX) (hMV.below (Nat.le_refl _) (Below.size (hE3.trans eX))))
 ·have er:=Lib.hid (show r=(zeroP,(decH b).2) by rw [← hr.out];exact readE_head q1)
  have i1:=ne0 q1
  generalize (decH b).2=v at *
  generalize (decH b).1.1=H at *
  clear q1
  go_wp2_with (first
   | (refine wpList_alloc_store (RH13) rfl rfl _ _ rfl rfl rfl rfl (by simp [Act.put]) ([.int .i64 H.leap, .int .i64 H.ver, .int .i64 H.mode, .int .i64 H.strat, .int .i64 H.poll, .int .i64 H.prec, .int .u32 (n32 H.rd), .int .u32 (n32 H.rp), .int .u32 (n32 H.id), .int .u64 (n64 H.ref), .int .u64 (n64 H.org), .int .u64 (n64 H.rcv), .int .u64 (n64 H.tx)]) rfl (by simp) (rfl) (oC) ?_;intro x hz _)
   | (refine wpList_store_arr (RP16) rfl _ _ rfl (w.heap.size) (0) rfl ([.int .i64 0, .int .i64 0, .int .i64 0, .int .i64 0, .int .i64 0, .int .i64 0, .int .u32 0, .int .u32 0, .int .u32 0, .int .u64 0, .int .u64 0, .int .u64 0, .int .u64 0, .slice none 0 0, .slice none 0 0, .bool false]) rfl (32) _ ((hP1.extB eX)) (rfl) (by simp) (oC) ?_;intro V hV hMV)
   | fail)
  refine bodyPost_ret (results_arr_tmp Tryz.results22 (RP16) _ _ (w.heap.size) (0) ([.int .i64 0, .int .i64 0, .int .i64 0, .int .i64 0, .int .i64 0, .int .i64 0, .int .u32 0, .int .u32 0, .int .u32 0, .int .u64 0, .int .u64 0, .int .u64 0, .int .u64 0, .slice none 0 0, .slice none 0 0, .bool false]) rfl (hV.rd) (rfl) (.int .i64 v) rfl) rfl ?_
  rw [er.out]
  exact ReadOut.err _ _ _ (Below.trans (hE1.trans eX) (hMV.below (Nat.le_refl _) (Below.size (hE1.trans eX))))
end Go.Proofs.YtdmifbfgeeldnaaGreat

/- The walks of layer 18: Open. -/
namespace Go.Pkt
open Go.Oct Go.Aes
theorem decH_ok {b:List UInt8} (h:(decH b).2=0):48≤b.length∧b.length≤1280∧(decH b).1.2=b.drop 48:=by
 unfold decH at h ⊢
 split at h
 ·cases h
 ·split at h
  ·cases h
  ·split at h
   ·rename_i h1 h2 h3
    rw [if_neg h1,if_neg h2,if_pos h3]
    exact ⟨by omega,by omega,rfl⟩
   ·cases h
theorem decF_ok {l:List UInt8} (h:(decF l).2=0):totN (decF l).1=l.length∧(decF l).1.length≤24∧∀ f∈(decF l).1,f.2.length % 4=0∧12≤f.2.length∧0≤f.1∧f.1≤65535:=by
 unfold decF at h ⊢
 split at h
 ·cases h
 ·rename_i h1
  rw [if_neg h1]
  exact decR_ok 24 l h
theorem totN_mem {L:List Fld} {f:Fld} (h:f∈L):szN f.2.length≤totN L:=by
 induction L with
 | nil=>cases h
 | cons g L ih =>
  rw [totN_cons]
  rcases List.mem_cons.1 h with rfl|h
  ·omega
  ·have:=ih h;omega
theorem readE_spec {b:List UInt8} (h:(readE b).2=0):48≤b.length∧b.length≤1280∧totN (readE b).1.plain+48=b.length∧(readE b).1.plain.length≤24 ∧
  ∀ f∈(readE b).1.plain,f.2.length % 4=0∧12≤f.2.length∧0≤f.1∧f.1≤65535:=by
 by_cases h1:(decH b).2=0
 ·by_cases h2:(decF (decH b).1.2).2=0
  ·obtain ⟨a1,a2,a3⟩:=decH_ok h1
   obtain ⟨b1,b2,b3⟩:=decF_ok h2
   rw [readE_ok h1 h2]
   refine ⟨a1,a2,?_,b2,b3⟩
   show totN (decF (decH b).1.2).1+48=_
   rw [b1,a3,List.length_drop];omega
  ·rw [readE_flds h1 h2] at h;exact absurd h h2
 ·rw [readE_head h1] at h;exact absurd h h1
theorem readE_fld {b:List UInt8} (h:(readE b).2=0) {f:Fld} (hf:f∈(readE b).1.plain):f.2.length+52≤b.length∧f.2.length≤1280:=by
 obtain ⟨h1,h2,h3,_,_⟩:=readE_spec h
 have h4:=totN_mem hf
 have h5:=szN_ge f.2.length
 omega
theorem openE_len {ky s:List UInt8} {A:List (List UInt8)}:(openE ky A s).1.length≤s.length:=by
 unfold openE
 split
 ·simp
 ·split
  ·simp
  ·split
   ·simp
   ·split
    ·rw [plainOf_length];omega
    ·simp
theorem partsE_sealed {d:List UInt8} {z:List UInt8 × List UInt8} (h:partsE d=some z):z.2.length≤d.length:=by
 unfold partsE at h
 simp only at h
 split at h
 ·injection h with h
  rw [← h]
  simp only [List.length_take,List.length_drop]
  omega
 ·cases h
theorem openP_key {ky b:List UInt8} (h:ky.length≠32):openP ky b=(zeroP,5):=if_pos h
theorem openP_read {ky b:List UInt8} (h:ky.length=32) (h2:(readE b).2≠0):openP ky b=(zeroP,(readE b).2):=by unfold openP;rw [if_neg (by omega),if_pos h2]
theorem openP_none {ky b:List UInt8} (h:ky.length=32) (h2:(readE b).2=0) (h3:firstI 1028 (readE b).1.plain=none):openP ky b=(zeroP,10):=by
 unfold openP;rw [if_neg (by omega),if_neg (by simpa using h2),h3]
def openAt (ky b:List UInt8)(i:Nat):Pkt × Int :=
 if i+1≠(readE b).1.plain.length then (zeroP,3) else
  match partsE ((readE b).1.plain.getD i (0,[])).2 with
  | none=>(zeroP,3)
  | some (nonce,s) =>
   if (openE ky [b.take (b.length-((readE b).1.plain.getD i (0,[])).2.length-4),nonce] s).2≠0 then (zeroP,6)
   else if (decF (openE ky [b.take (b.length-((readE b).1.plain.getD i (0,[])).2.length-4),nonce] s).1).2≠0 then (zeroP,(decF (openE ky [b.take (b.length-((readE b).1.plain.getD i (0,[])).2.length-4),nonce] s).1).2)
   else (⟨(readE b).1.h,(readE b).1.plain.take i,(decF (openE ky [b.take (b.length-((readE b).1.plain.getD i (0,[])).2.length-4),nonce] s).1).1,true⟩,0)
theorem openP_some {ky b:List UInt8} {i:Nat} (h:ky.length=32) (h2:(readE b).2=0) (h3:firstI 1028 (readE b).1.plain=some i):openP ky b=openAt ky b i:=by
 unfold openP;rw [if_neg (by omega),if_neg (by simpa using h2),h3];rfl
theorem firstI_lt {k:Int} {L:List Fld} {i:Nat} (h:firstI k L=some i):i<L.length:=by
 unfold firstI at h
 exact ixs_lt (List.mem_of_mem_head? (by rw [h];rfl))
end Go.Pkt
namespace Go.Proofs.YtdmifbfgeeldnaaGreat
open Go.RowKit Go.Sec Go.Oct Go.Pkt Go.Aes BigFrame
def PktE (r:Pkt × Int) (w:World)(e:Ending) (w':World):Prop:=∃ a1 n1 c1 a2 n2 c2,e = .returned (.tuple #[.agg #[.int .i64 r.1.h.leap, .int .i64 r.1.h.ver, .int .i64 r.1.h.mode, .int .i64 r.1.h.strat, .int .i64 r.1.h.poll, .int .i64 r.1.h.prec, .int .u32 (n32 r.1.h.rd), .int .u32 (n32 r.1.h.rp), .int .u32 (n32 r.1.h.id), .int .u64 (n64 r.1.h.ref), .int .u64 (n64 r.1.h.org), .int .u64 (n64 r.1.h.rcv), .int .u64 (n64 r.1.h.tx), .slice a1 n1 c1, .slice a2 n2 c2, .bool r.1.guarded], .int .i64 r.2]) ∧
 Ib w' a1 n1 r.1.plain∧n1≤c1∧Ib w' a2 n2 r.1.secret∧n2≤c2∧Ext w w'
theorem PktE.err (w w':World)(e:Int) (hx:Ext w w'):PktE (zeroP,e) w (.returned (.tuple #[.agg #[.int .i64 0, .int .i64 0, .int .i64 0, .int .i64 0, .int .i64 0, .int .i64 0, .int .u32 0, .int .u32 0, .int .u32 0, .int .u64 0, .int .u64 0, .int .u64 0, .int .u64 0, .slice none 0 0, .slice none 0 0, .bool false], .int .i64 e])) w':=⟨none,0,0,none,0,0,rfl,Ib.nil _ _,Nat.le_refl _,Ib.nil _ _,Nat.le_refl _,hx⟩
set_option maxHeartbeats 2000000 in
theorem popenp_any (ak ab:Option Addr)(nk ck nb cb:Nat) (ky b:List UInt8)(w:World)(hk:Sl w ak nk ky) (hck:nk≤ck) (hS:Sl w ab nb b) (hcb:nb≤cb) (hn:nb≤1000000) :
  Calls Tryz.prog 13 #[.slice ak nk ck, .slice ab nb cb] w (PktE (openP ky b) w):=by
 have lk:=hk.len
 have lb:=hS.len
 have hrd:=fun W H=>pread_any ab nb cb b W H hcb hn
 obtain ⟨r,hr⟩:∃ r,openP ky b=r:=⟨_,rfl⟩
 rw [hr]
 have hr:=Lib.hid hr
 by_cases q1:nk=32
 ·have q1':ky.length=32:=by omega
  subst q1
  go_enter Tryz.func13,Tryz.ntmps13
  go_wp2_with fail
  refine nameCl ?_
  intro W hW
  have hE:Ext w W:=by rw [hW];exact eX
  have hP:Blk W w.heap.size 32 [.int .i64 0, .int .i64 0, .int .i64 0, .int .i64 0, .int .i64 0, .int .i64 0, .int .u32 0, .int .u32 0, .int .u32 0, .int .u64 0, .int .u64 0, .int .u64 0, .int .u64 0, .slice none 0 0, .slice none 0 0, .bool false]:=by rw [hW];exact bK
  clear hW
  (with_reducible refine (hrd W (hS.ext hE)).mono ?_)
  rintro e w1 ⟨b1,d1,rfl,⟨B1,hO1⟩,hx1⟩
  have hE1:=hE.trans hx1
  have hP1:=hP.extB hx1
  have hlt:=hP1.lt
  haveI:=hP1.blt
  clear hE hP hx1 hrd
  by_cases q2:(readE b).2=0
  ·rw [q2]
   have hsp:=readE_spec q2
   have hfl:=fun f hf=>readE_fld q2 (f:=f) hf
   have hso:=fun i h=>openP_some (i:=i) q1' q2 h
   have hno:=fun h=>openP_none q1' q2 h
   unfold openAt at hso
   generalize (readE b).1.plain=L at *
   generalize (readE b).1.h=H at *
   go_wp2_with (first
    | ((refine wpList_alloc_store (RP16) rfl rfl _ _ rfl rfl rfl rfl (by simp [Act.put]) ([.int .i64 H.leap, .int .i64 H.ver, .int .i64 H.mode, .int .i64 H.strat, .int .i64 H.poll, .int .i64 H.prec, .int .u32 (n32 H.rd), .int .u32 (n32 H.rp), .int .u32 (n32 H.id), .int .u64 (n64 H.ref), .int .u64 (n64 H.org), .int .u64 (n64 H.rcv), .int .u64 (n64 H.tx), .slice b1 L.length d1, .slice none 0 0, .bool false]) rfl (by simp) (rfl) (oC) ?_;intro x hz _);haveI:=hz.blt;have f13:=hz.cell? 13 rfl)
    | fail)
   refine nameCl ?_
   intro W2 hW2
   have hx2:Ext w1 W2:=by rw [hW2];exact eX
   have hG:Blk W2 w1.heap.size 32 [.int .i64 H.leap, .int .i64 H.ver, .int .i64 H.mode, .int .i64 H.strat, .int .i64 H.poll, .int .i64 H.prec, .int .u32 (n32 H.rd), .int .u32 (n32 H.rp), .int .u32 (n32 H.id), .int .u64 (n64 H.ref), .int .u64 (n64 H.org), .int .u64 (n64 H.rcv), .int .u64 (n64 H.tx), .slice b1 L.length d1, .slice none 0 0, .bool false]:=by rw [hW2];exact hz.extB eX
   have hP2:=hP1.extB hx2
   have hE2:=hE1.trans hx2
   have hO2:=hO1.ext hx2
   clear hW2 hx2 hE1 hP1 hO1 f13 hz
   (with_reducible refine (xfirst_any b1 L.length d1 L W2 hO2.ib.1 (by omega)).mono ?_)
   rintro e w3 ⟨rfl,hx3⟩
   have hG3:=hG.extB hx3
   have hP3:=hP2.extB hx3
   have hE3:=hE2.trans hx3
   have hO3:=hO2.ext hx3
   clear hG hP2 hE2 hO2 hx3
   have hdc:L.length≤d1:=hO3.ib.2
   haveI:=hP3.blt
   haveI:=hG3.blt
   have f13:w3.cell? ⟨w1.heap.size,13,none⟩=some (.slice b1 L.length d1):=hG3.cell? 13 rfl
   cases q3:firstI 1028 L with
   | none =>
    have er:=Lib.hid (show r=(zeroP,10) by rw [← hr.out];exact hno q3)
    have ez:firstZ 1028 L = -1:=by unfold firstZ;rw [q3]
    rw [ez]
    clear ez q3 hno hso
    go_wp2_with (first
     | (refine wpList_store_arr (RP16) rfl _ _ rfl (w.heap.size) (0) rfl ([.int .i64 0, .int .i64 0, .int .i64 0, .int .i64 0, .int .i64 0, .int .i64 0, .int .u32 0, .int .u32 0, .int .u32 0, .int .u64 0, .int .u64 0, .int .u64 0, .int .u64 0, .slice none 0 0, .slice none 0 0, .bool false]) rfl (32) _ ((hP3.extB eX)) (rfl) (by simp) (oC) ?_;intro V hV hMV)
     | fail)
    refine bodyPost_ret (results_arr_tmp Tryz.results13 (RP16) _ _ (w.heap.size) (0) ([.int .i64 0, .int .i64 0, .int .i64 0, .int .i64 0, .int .i64 0, .int .i64 0, .int .u32 0, .int .u32 0, .int .u32 0, .int .u64 0, .int .u64 0, .int .u64 0, .int .u64 0, .slice none 0 0, .slice none 0 0, .bool false]) rfl (hV.rd) (rfl) (.int .i64 10) rfl) rfl ?_
    rw [er.out]
    exact PktE.err _ _ _ (Below.trans (hE3.trans eX) (hMV.below (Nat.le_refl _) (Below.size (hE3.trans eX))))
   | some i =>
    have hi:=firstI_lt q3
    have hat:=hso i q3
    rw [hr.out] at hat
    have ez:firstZ 1028 L=(i:Int):=by unfold firstZ;rw [q3]
    rw [ez]
    have iz:¬ (i:Int)<0:=by omega
    clear ez q3 hno hso
    by_cases q4:i+1=L.length
    ·rw [if_neg (by omega)] at hat
     replace hat:=Lib.hid hat
     have iq:((i:Int) != (L.length:Int)-1)=false:=by rw [bne_eq_false_iff_eq];omega
     obtain ⟨y,hy⟩:∃ y,L[i]?=some y:=⟨_,List.getElem?_eq_getElem hi⟩
     obtain ⟨g0,o0,g',c',rfl,hb0,hc0,hc1,hSk,hcy⟩:=hO3.ib.1.at i hi _ hy
     obtain ⟨y52,y1280⟩:=hfl y (List.mem_of_getElem? hy)
     replace hat:=Lib.hid (show r=_ by rw [hat.out,getD_at hy])
     have hi0:(0:Int)≤(i:Int):=by omega
     have hi1:(i:Int)<(L.length:Int):=by omega
     haveI:=hb0
     have hpa:=fun W H=>pparse_any g' y.2.length c' y.2 W H hcy (by omega)
     clear hfl
     go_wp2_with fail
     clear f13 hc0 hc1
     (with_reducible refine (hpa w3 hSk).mono ?_)
     rintro e w4 ⟨p1,n1,k1,p2,n2,k2,rfl,hps,hx4⟩
     have hE4:=hE3.trans hx4
     have hP4:=hP3.extB hx4
     have hG4:=hG3.extB hx4
     have hO4:=hO3.ext hx4
     haveI:=hP4.blt
     clear hE3 hP3 hG3 hO3 hpa hx4 hb0
     cases q5:partsE y.2 with
     | none =>
      have er:=Lib.hid (show r=(zeroP,3) by rw [hat.out,q5])
      clear q5 hps
      go_wp2_with (first
       | (refine wpList_alloc_store (RG2) rfl rfl _ _ rfl rfl rfl rfl (by simp [Act.put]) ([.slice p1 n1 k1, .slice p2 n2 k2]) rfl (by simp) (rfl) (oC) ?_;intro x2 hz2 _)
       | (refine wpList_store_arr (RP16) rfl _ _ rfl (w.heap.size) (0) rfl ([.int .i64 0, .int .i64 0, .int .i64 0, .int .i64 0, .int .i64 0, .int .i64 0, .int .u32 0, .int .u32 0, .int .u32 0, .int .u64 0, .int .u64 0, .int .u64 0, .int .u64 0, .slice none 0 0, .slice none 0 0, .bool false]) rfl (32) _ ((hP4.extB eX)) (rfl) (by simp) (oC) ?_;intro V hV hMV)
       | fail)
      refine bodyPost_ret (results_arr_tmp Tryz.results13 (RP16) _ _ (w.heap.size) (0) ([.int .i64 0, .int .i64 0, .int .i64 0, .int .i64 0, .int .i64 0, .int .i64 0, .int .u32 0, .int .u32 0, .int .u32 0, .int .u64 0, .int .u64 0, .int .u64 0, .int .u64 0, .slice none 0 0, .slice none 0 0, .bool false]) rfl (hV.rd) (rfl) (.int .i64 3) rfl) rfl ?_
      rw [er.out]
      exact PktE.err _ _ _ (Below.trans (hE4.trans eX) (hMV.below (Nat.le_refl _) (Below.size (hE4.trans eX))))
     | some z =>
      obtain ⟨v1,m1,v2,m2⟩:=hps z q5
      have hzl:=partsE_sealed q5
      replace hat:=Lib.hid (show r=_ by rw [hat.out,q5])
      clear q5 hps
      go_wp2_with (first
       | ((refine wpList_alloc_store (RG2) rfl rfl _ _ rfl rfl rfl rfl (by simp [Act.put]) ([.slice p1 n1 k1, .slice p2 n2 k2]) rfl (by simp) (rfl) (oC) ?_;intro x2 hz2 _);haveI:=hz2.blt;have e0:=hz2.cell? 0 rfl;have e1:=hz2.cell? 1 rfl)
       | fail)
      refine nameW ?_
      intro W5 hW5
      have hE6:Ext w4 W5:=by rw [hW5];exact eX
      have hg5:Blk W5 w4.heap.size 86 [.slice p1 n1 k1, .slice p2 n2 k2]:=by rw [hW5];exact hz2.extB eX
      clear hW5 hz2 e0 e1
      have hE5:=hE4.trans hE6
      have hP5:=hP4.extB hE6
      have hG5:=hG4.extB hE6
      have hO5:=hO4.ext hE6
      have v1:=v1.ext hE6
      have v2:=v2.ext hE6
      have hk5:=hk.ext hE5
      have hS5:=hS.ext hE5
      clear hE4 hP4 hG4 hO4 hE6
      obtain ⟨Q,hQ⟩:∃ Q,nb-y.2.length-4=Q:=⟨_,rfl⟩
      have hSQ:=hS5.take Q (by omega)
      have hQc:Q≤cb:=by omega
      have hQi:(nb:Int)-(y.2.length:Int)-4=(Q:Int):=by omega
      have hQ1:(Q:Int)≤(cb:Int):=by omega
      have hat:=hat.out
      rw [lb,hQ] at hat
      have hop:=fun b' c' W H1 H2 H3=>open_any ak b' p2 32 ck 2 c' n2 k2 ky [b.take Q,z.1] z.2 W H1 hck H2 (by omega) H3 m2
      have hAl:=Lib.hid (show (openE ky [b.take Q,z.1] z.2).1.length≤1280 from Nat.le_trans openE_len (Nat.le_trans hzl y1280))
      generalize openE ky [b.take Q,z.1] z.2=A at *
      replace hat:=Lib.hid hat
      haveI:=hg5.blt
      have e0:=hg5.cell? 0 rfl
      have e1:W5.cell? ⟨w4.heap.size,1,none⟩=some (.slice p2 n2 k2):=hg5.cell? 1 rfl
      clear hQ y52 lb
      refine wp_region_vague 19 [[],[],[],[2],[],[4],[2,3,4,5],[2,3,4,5,6],[1,2,3,4,5,6,7],[],[9],[1,2,3,4,5,6,7,8,9,10],[],[12],[0,1,2,3,4,5,6,7,8,9,10,11,12,13],[0,1,2,3,4,5,6,7,8,9,10,11,12,13,14],[0,1,2,3,4,5,6,7,8,9,10,11,12,13,14,15],[0,1,2,3,4,5,6,7,8,9,10,11,12,13,14,15],[0,1,2,3,4,5,6,7,8,9,10,11,12,13,14,15,16],[0,1,2,3,4,5,6,7,8,9,10,11,12,13,14,15,16,17,18]] (by kernel_rfl) (by kernel_rfl) (by kernel_rfl) (by kernel_rfl) ?_;simp only [q8q,q9q,q10q,q11q,q12q,q13q]
      (repeat (refine VD_a ?_;(try simp only [Act.put,q0q,q1q,q2q])))
      (refine VD_vag (fun p => .slice (p 0).1 2 2) (fun p w''=>Bsc w'' (p 0).1 2 [b.take Q,z.1]) (fun p w w' h hx=>by first|exact h.ext hx|exact ⟨h.1.ext hx,h.2.ext hx⟩|exact ⟨h.1.ext hx,h.2⟩|exact ⟨h.1.ext hx,h.2.1.ext hx,h.2.2.ext hx⟩) (fun us w' hx hf=>⟨rfl,?_⟩) ?_;(unfold gives;simp [go_sem,execOp];exact ⟨fun _=>(some ⟨w'.heap.size,0,none⟩,0),rfl,Ext.of_alloc _ _,bsc2 (hSQ.ext hx) hQc (v1.ext hx) m1 _⟩))
      (repeat (refine VD_a ?_;(try simp only [Act.put,q0q,q1q,q2q])))
      (refine VD_vag (fun p => .tuple #[.slice (p 0).1 (A.1.length) (p 0).2, .int .i64 A.2]) (fun p w''=>Sl w'' (p 0).1 (A.1.length) (A.1)∧(A.1.length)≤(p 0).2) (fun p w w' h hx=>⟨h.1.ext hx,h.2⟩) (fun us w' hx hf=>⟨rfl,?_⟩) ?_;(unfold gives;simp [go_sem,execOp];exact vag_read (hop _ _ _ (hk5.ext hx) (hf _ (List.mem_append_right _ (List.mem_singleton_self _)) rfl) (v2.ext hx))))
      (repeat (refine VD_a ?_;(try simp only [Act.put,q0q,q1q,q2q])))
      (refine VD_z ?_;intro us x hx hf;(try simp only [Act.put,q0q,q1q,q2q,wpList_none]);(try simp only [q3q,q4q,or_false,forall_eq_or_imp,forall_eq,q5q,q6q,q7q,false_or,true_and,and_true] at hf);(try simp only [Nat.reduceAdd,Nat.zero_add] at hf ⊢))
      obtain ⟨-,hS7,hc7⟩:=hf
      obtain ⟨p7,hp7⟩:∃ a,(us 14 0).1=a:=⟨_,rfl⟩
      obtain ⟨k7,hk7⟩:∃ a,(us 14 0).2=a:=⟨_,rfl⟩
      rw [hp7] at hS7 ⊢
      rw [hk7] at hc7 ⊢
      clear hp7 hk7 e0 e1 hg5 v1 v2 hSQ hk5 hS5 hop hQi hQ1 hQc
      have hx7:Ext W5 (W5.ext x):=Ext.of_ext _ _
      have hE7:=hE5.trans hx7
      have hP7:=hP5.extB hx7
      have hG7:=hG5.extB hx7
      have hO7:=hO5.ext hx7
      clear hE5 hP5 hG5 hO5 hx7
      generalize W5.ext x=W7 at *
      haveI:=hP7.blt
      by_cases q8:A.2=0
      ·rw [q8]
       have hdf:=fun W H=>xdecode_any p7 A.1.length k7 A.1 W H hc7 (Nat.le_trans hAl.out (by decide))
       replace hat:=Lib.hid (show r=_ by rw [hat.out,if_neg (by simpa using q8)])
       clear q8
       generalize A.1=D at *
       go_wp2_with fail
       (with_reducible refine (hdf W7 hS7).mono ?_)
       rintro e w8 ⟨b8,d8,rfl,hO8,hx8⟩
       have hE8:=hE7.trans hx8
       have hP8:=hP7.extB hx8
       have hG8:=hG7.extB hx8
       have hO7:=hO7.ext hx8
       clear hE7 hP7 hG7 hS7 hx8 hdf
       haveI:=hP8.blt
       haveI:=hG8.blt
       have g13:w8.cell? ⟨w1.heap.size,13,none⟩=some (.slice (some ⟨g0,o0,none⟩) L.length d1):=hG8.cell? 13 rfl
       by_cases q9:(decF D).2=0
       ·rw [q9]
        have er:=Lib.hid (show r=(⟨H,L.take i,(decF D).1,true⟩,0) by rw [hat.out,if_neg (by simpa using q9)])
        clear q9 hat
        generalize (decF D).1=S at *
        have l1:(i:Int)≤(d1:Int):=by omega
        have l2:(i:Int)≤(i:Int):=Int.le_refl _
        have hil:i≤L.length:=by omega
        have hGl:Rd w8 (some ⟨w1.heap.size,0,none⟩) [.int .i64 H.leap, .int .i64 H.ver, .int .i64 H.mode, .int .i64 H.strat, .int .i64 H.poll, .int .i64 H.prec, .int .u32 (n32 H.rd), .int .u32 (n32 H.rp), .int .u32 (n32 H.id), .int .u64 (n64 H.ref), .int .u64 (n64 H.org), .int .u64 (n64 H.rcv), .int .u64 (n64 H.tx)]:=Rd.left (vs:=[.int .i64 H.leap, .int .i64 H.ver, .int .i64 H.mode, .int .i64 H.strat, .int .i64 H.poll, .int .i64 H.prec, .int .u32 (n32 H.rd), .int .u32 (n32 H.rp), .int .u32 (n32 H.id), .int .u64 (n64 H.ref), .int .u64 (n64 H.org), .int .u64 (n64 H.rcv), .int .u64 (n64 H.tx)]) (us:=[.slice (some ⟨g0,o0,none⟩) L.length d1, .slice none 0 0, .bool false]) hG8.rd
        clear q4 iq iz hi hi1 hi0 hy
        go_wp2_with fail
        refine wp_region_vague 9 [[],[0],[],[2],[],[],[2,3,4,5],[],[0,1,2,3,4,5,6,7],[0,1,2,3,4,5,6,7,8],[0,1,2,3,4,5,6,7,8,9]] (by kernel_rfl) (by kernel_rfl) (by kernel_rfl) (by kernel_rfl) ?_;simp only [q8q,q9q,q10q,q11q,q12q,q13q]
        (repeat (refine VD_a ?_;(try simp only [Act.put,q0q,q1q,q2q])))
        (refine VD_load_arr (RH13) _ rfl (fun _=>rfl) (w1.heap.size) (0) (fun _=>by simp [go_sem]) ([.int .i64 H.leap, .int .i64 H.ver, .int .i64 H.mode, .int .i64 H.strat, .int .i64 H.poll, .int .i64 H.prec, .int .u32 (n32 H.rd), .int .u32 (n32 H.rp), .int .u32 (n32 H.id), .int .u64 (n64 H.ref), .int .u64 (n64 H.org), .int .u64 (n64 H.rcv), .int .u64 (n64 H.tx)]) (hGl) (rfl) ?_)
        (repeat (refine VD_a ?_;(try simp only [Act.put,q0q,q1q,q2q])))
        (refine VD_z ?_;intro us x hx hf;(try simp only [Act.put,q0q,q1q,q2q,wpList_none]);(try simp only [q3q,q4q,or_false,forall_eq_or_imp,forall_eq,q5q,q6q,q7q,false_or,true_and,and_true] at hf);(try simp only [Nat.reduceAdd,Nat.zero_add] at hf ⊢))
        have hx9:Ext w8 (w8.ext x):=Ext.of_ext _ _
        have hE9:=hE8.trans hx9
        have hP9:=hP8.extB hx9
        have hO7:=hO7.ext hx9
        have hO8:=hO8.ext hx9
        generalize w8.ext x=W9 at *
        haveI:=hP9.blt
        clear hf hx9 hE8 hP8 hG8 hGl g13
        go_wp2_with (first
         | (refine wpList_store_arr (RP16) rfl _ _ rfl (w.heap.size) (0) rfl ([.int .i64 H.leap, .int .i64 H.ver, .int .i64 H.mode, .int .i64 H.strat, .int .i64 H.poll, .int .i64 H.prec, .int .u32 (n32 H.rd), .int .u32 (n32 H.rp), .int .u32 (n32 H.id), .int .u64 (n64 H.ref), .int .u64 (n64 H.org), .int .u64 (n64 H.rcv), .int .u64 (n64 H.tx), .slice (some ⟨g0,o0,none⟩) i i, .slice b8 S.length d8, .bool true]) rfl (32) _ (hP9) (rfl) (by simp) (oC) ?_;intro V hV hMV)
         | fail)
        refine bodyPost_ret (results_arr_tmp Tryz.results13 (RP16) _ _ (w.heap.size) (0) ([.int .i64 H.leap, .int .i64 H.ver, .int .i64 H.mode, .int .i64 H.strat, .int .i64 H.poll, .int .i64 H.prec, .int .u32 (n32 H.rd), .int .u32 (n32 H.rp), .int .u32 (n32 H.id), .int .u64 (n64 H.ref), .int .u64 (n64 H.org), .int .u64 (n64 H.rcv), .int .u64 (n64 H.tx), .slice (some ⟨g0,o0,none⟩) i i, .slice b8 S.length d8, .bool true]) rfl (hV.rd) (rfl) (.int .i64 0) rfl) rfl ?_
        rw [er.out]
        exact ⟨_,_,_,_,_,_,rfl,(hO7.mut hP9 (by decide) (by simp) hMV).ib.1.take i hil,Nat.le_refl _,(hO8.mut hP9 (by decide) (by simp) hMV).ib.1,(hO8.mut hP9 (by decide) (by simp) hMV).ib.2,Below.trans hE9 (hMV.below (Nat.le_refl _) hE9.size)⟩
       ·have er:=Lib.hid (show r=(zeroP,(decF D).2) by rw [hat.out,if_pos q9])
        have i9:=ne0 q9
        generalize (decF D).2=v9 at *
        generalize (decF D).1=S at *
        clear q9 hat
        go_wp2_with (first
         | (refine wpList_store_arr (RP16) rfl _ _ rfl (w.heap.size) (0) rfl ([.int .i64 0, .int .i64 0, .int .i64 0, .int .i64 0, .int .i64 0, .int .i64 0, .int .u32 0, .int .u32 0, .int .u32 0, .int .u64 0, .int .u64 0, .int .u64 0, .int .u64 0, .slice none 0 0, .slice none 0 0, .bool false]) rfl (32) _ ((hP8.extB eX)) (rfl) (by simp) (oC) ?_;intro V hV hMV)
         | fail)
        refine bodyPost_ret (results_arr_tmp Tryz.results13 (RP16) _ _ (w.heap.size) (0) ([.int .i64 0, .int .i64 0, .int .i64 0, .int .i64 0, .int .i64 0, .int .i64 0, .int .u32 0, .int .u32 0, .int .u32 0, .int .u64 0, .int .u64 0, .int .u64 0, .int .u64 0, .slice none 0 0, .slice none 0 0, .bool false]) rfl (hV.rd) (rfl) (.int .i64 v9) rfl) rfl ?_
        rw [er.out]
        exact PktE.err _ _ _ (Below.trans (hE8.trans eX) (hMV.below (Nat.le_refl _) (Below.size (hE8.trans eX))))
      ·have er:=Lib.hid (show r=(zeroP,6) by rw [hat.out,if_pos q8])
       have i8:=ne0 q8
       generalize A.2=v8 at *
       generalize A.1=D at *
       clear q8 hat
       go_wp2_with (first
        | (refine wpList_store_arr (RP16) rfl _ _ rfl (w.heap.size) (0) rfl ([.int .i64 0, .int .i64 0, .int .i64 0, .int .i64 0, .int .i64 0, .int .i64 0, .int .u32 0, .int .u32 0, .int .u32 0, .int .u64 0, .int .u64 0, .int .u64 0, .int .u64 0, .slice none 0 0, .slice none 0 0, .bool false]) rfl (32) _ ((hP7.extB eX)) (rfl) (by simp) (oC) ?_;intro V hV hMV)
        | fail)
       refine bodyPost_ret (results_arr_tmp Tryz.results13 (RP16) _ _ (w.heap.size) (0) ([.int .i64 0, .int .i64 0, .int .i64 0, .int .i64 0, .int .i64 0, .int .i64 0, .int .u32 0, .int .u32 0, .int .u32 0, .int .u64 0, .int .u64 0, .int .u64 0, .int .u64 0, .slice none 0 0, .slice none 0 0, .bool false]) rfl (hV.rd) (rfl) (.int .i64 6) rfl) rfl ?_
       rw [er.out]
       exact PktE.err _ _ _ (Below.trans (hE7.trans eX) (hMV.below (Nat.le_refl _) (Below.size (hE7.trans eX))))
    ·rw [if_pos (by omega)] at hat
     have er:=Lib.hid hat
     have iq:((i:Int) != (L.length:Int)-1)=true:=by rw [bne_iff_ne];omega
     clear hat
     go_wp2_with (first
      | (refine wpList_store_arr (RP16) rfl _ _ rfl (w.heap.size) (0) rfl ([.int .i64 0, .int .i64 0, .int .i64 0, .int .i64 0, .int .i64 0, .int .i64 0, .int .u32 0, .int .u32 0, .int .u32 0, .int .u64 0, .int .u64 0, .int .u64 0, .int .u64 0, .slice none 0 0, .slice none 0 0, .bool false]) rfl (32) _ ((hP3.extB eX)) (rfl) (by simp) (oC) ?_;intro V hV hMV)
      | fail)
     refine bodyPost_ret (results_arr_tmp Tryz.results13 (RP16) _ _ (w.heap.size) (0) ([.int .i64 0, .int .i64 0, .int .i64 0, .int .i64 0, .int .i64 0, .int .i64 0, .int .u32 0, .int .u32 0, .int .u32 0, .int .u64 0, .int .u64 0, .int .u64 0, .int .u64 0, .slice none 0 0, .slice none 0 0, .bool false]) rfl (hV.rd) (rfl) (.int .i64 3) rfl) rfl ?_
     rw [er.out]
     exact PktE.err _ _ _ (Below.trans (hE3.trans eX) (hMV.below (Nat.le_refl _) (Below.size (hE3.trans eX))))
  ·have er:=Lib.hid (show r=(zeroP,(readE b).2) by rw [← hr.out];exact openP_read q1' q2)
   have i2:=ne0 q2
   generalize (readE b).2=v at *
   generalize (readE b).1.plain=L at *
   generalize (readE b).1.h=H at *
   clear q2
   go_wp2_with (first
    | (refine wpList_alloc_store (RP16) rfl rfl _ _ rfl rfl rfl rfl (by simp [Act.put]) ([.int .i64 H.leap, .int .i64 H.ver, .int .i64 H.mode, .int .i64 H.strat, .int .i64 H.poll, .int .i64 H.prec, .int .u32 (n32 H.rd), .int .u32 (n32 H.rp), .int .u32 (n32 H.id), .int .u64 (n64 H.ref), .int .u64 (n64 H.org), .int .u64 (n64 H.rcv), .int .u64 (n64 H.tx), .slice b1 L.length d1, .slice none 0 0, .bool false]) rfl (by simp) (rfl) (oC) ?_;intro x hz _)
    | (refine wpList_store_arr (RP16) rfl _ _ rfl (w.heap.size) (0) rfl ([.int .i64 0, .int .i64 0, .int .i64 0, .int .i64 0, .int .i64 0, .int .i64 0, .int .u32 0, .int .u32 0, .int .u32 0, .int .u64 0, .int .u64 0, .int .u64 0, .int .u64 0, .slice none 0 0, .slice none 0 0, .bool false]) rfl (32) _ ((hP1.extB eX)) (rfl) (by simp) (oC) ?_;intro V hV hMV)
    | fail)
   refine bodyPost_ret (results_arr_tmp Tryz.results13 (RP16) _ _ (w.heap.size) (0) ([.int .i64 0, .int .i64 0, .int .i64 0, .int .i64 0, .int .i64 0, .int .i64 0, .int .u32 0, .int .u32 0, .int .u32 0, .int .u64 0, .int .u64 0, .int .u64 0, .int .u64 0, .slice none 0 0, .slice none 0 0, .bool false]) rfl (hV.rd) (rfl) (.int .i64 v) rfl) rfl ?_
   rw [er.out]
   exact PktE.err _ _ _ (Below.trans (hE1.trans eX) (hMV.below (Nat.le_refl _) (Below.size (hE1.trans eX))))
 ·have er:=Lib.hid (show r=(zeroP,5) by rw [← hr.out];exact openP_key (by omega))
  have i1:((nk:Int) != 32)=true:=by rw [bne_iff_ne];omega
  clear lk lb q1
  go_enter Tryz.func13,Tryz.ntmps13
  go_wp2_with (first
   | (refine wpList_store_arr (RP16) rfl _ _ rfl (w.heap.size) (0) rfl ([.int .i64 0, .int .i64 0, .int .i64 0, .int .i64 0, .int .i64 0, .int .i64 0, .int .u32 0, .int .u32 0, .int .u32 0, .int .u64 0, .int .u64 0, .int .u64 0, .int .u64 0, .slice none 0 0, .slice none 0 0, .bool false]) rfl (32) _ ((Blk.new w #[.int .i64 0, .int .i64 0, .int .i64 0, .int .i64 0, .int .i64 0, .int .i64 0, .int .u32 0, .int .u32 0, .int .u32 0, .int .u64 0, .int .u64 0, .int .u64 0, .int .u64 0, .slice none 0 0, .slice none 0 0, .bool false] 32)) (rfl) (by simp) (oC) ?_;intro V hV hMV)
   | fail)
  refine bodyPost_ret (results_arr_tmp Tryz.results13 (RP16) _ _ (w.heap.size) (0) ([.int .i64 0, .int .i64 0, .int .i64 0, .int .i64 0, .int .i64 0, .int .i64 0, .int .u32 0, .int .u32 0, .int .u32 0, .int .u64 0, .int .u64 0, .int .u64 0, .int .u64 0, .slice none 0 0, .slice none 0 0, .bool false]) rfl (hV.rd) (rfl) (.int .i64 5) rfl) rfl ?_
  rw [er.out]
  exact PktE.err _ _ _ (Below.trans (Ext.of_alloc _ _) (hMV.below (Nat.le_refl _) (by simp)))
end Go.Proofs.YtdmifbfgeeldnaaGreat

/- Layer 22: what Answer answers. -/
namespace Go.Jar
open Go.Pkt
def cksF (S:List Fld):List (List UInt8):=(S.filter fun f=>decide (f.1=516)).map (·.2)
theorem cksF_yes {S:List Fld} {i:Nat} {y:Fld} (h:S[i]?=some y) (hy:y.1=516):cksF (S.take (i+1))=cksF (S.take i)++[y.2]:=by
 unfold cksF
 rw [List.take_add_one,h]
 simp [List.filter_append,hy]
theorem cksF_no {S:List Fld} {i:Nat} {y:Fld} (h:S[i]?=some y) (hy:y.1≠516):cksF (S.take (i+1))=cksF (S.take i):=by
 unfold cksF
 rw [List.take_add_one,h]
 simp [List.filter_append,hy]
theorem cksF_mem {S:List Fld} {y:Fld} (h:y∈S) (hy:y.1=516):y.2∈cksF S:=by
 unfold cksF
 exact List.mem_map.2 ⟨y,List.mem_filter.2 ⟨h,by simpa using hy⟩,rfl⟩
theorem cksF_len (S:List Fld):(cksF S).length≤S.length:=by
 unfold cksF
 rw [List.length_map]
 exact List.length_filter_le _ _
theorem cksF_ixs (S:List Fld):∀ i,cksF (S.take i)=(ixs 516 (S.take i) i).map fun k=>(S.getD k (0,[])).2:=by
 intro i
 induction i with
 | zero=>simp [cksF,ixs]
 | succ i ih =>
  have e:ixs 516 (S.take (i+1)) i=ixs 516 (S.take i) i:=by
   unfold ixs
   refine List.filter_congr fun k hk=>?_
   have hk:=List.mem_range.1 hk
   have g:∀ m,k<m→((S.take m).getD k ((0:Int),([]:List UInt8)))=S.getD k (0,[]):=fun m hm=>by
    rw [List.getD_eq_getElem?_getD,List.getD_eq_getElem?_getD,List.getElem?_take,if_pos hm]
   rw [g (i+1) (by omega),g i hk]
  have g1:(S.take (i+1)).getD i ((0:Int),([]:List UInt8))=S.getD i (0,[]):=by
   rw [List.getD_eq_getElem?_getD,List.getD_eq_getElem?_getD,List.getElem?_take,if_pos (by omega)]
  by_cases h:(S.getD i ((0:Int),([]:List UInt8))).1=516
  ·have hi:i<S.length:=by
    rcases Nat.lt_or_ge i S.length with h1|h1
    ·exact h1
    ·rw [List.getD_eq_getElem?_getD,List.getElem?_eq_none h1] at h;exact absurd h (by decide)
   have hs:S[i]?=some S[i]:=List.getElem?_eq_getElem hi
   have hd:S.getD i ((0:Int),([]:List UInt8))=S[i]:=by rw [List.getD_eq_getElem?_getD,hs];rfl
   rw [cksF_yes hs (by rw [← hd];exact h),ih,ixs_yes (by rw [g1];exact h),e,List.map_append,← hd]
   rfl
  ·rw [ixs_no (by rw [g1];exact h),e,← ih]
   rcases Nat.lt_or_ge i S.length with h1|h1
   ·have hs:S[i]?=some S[i]:=List.getElem?_eq_getElem h1
    have hd:S.getD i ((0:Int),([]:List UInt8))=S[i]:=by rw [List.getD_eq_getElem?_getD,hs];rfl
    exact cksF_no hs (by rw [← hd];exact h)
   ·rw [List.take_of_length_le h1,List.take_of_length_le (by omega)]
theorem cksF_all (S:List Fld):cksF S=(ixs 516 S S.length).map fun k=>(S.getD k (0,[])).2:=by
 have:=cksF_ixs S S.length
 rwa [List.take_of_length_le (Nat.le_refl _)] at this
def idOk (L:List Fld) (u:List UInt8):Prop:=∃ i,ixs 260 L L.length=[i]∧(L.getD i (0,[])).2=u
instance (L:List Fld) (u:List UInt8):Decidable (idOk L u) :=
 match h:ixs 260 L L.length with
 | [] => .isFalse fun ⟨i,h1,_⟩=>by rw [h] at h1;cases h1
 | [i]=>if h2:(L.getD i (0,[])).2=u then .isTrue ⟨i,h,h2⟩ else .isFalse fun ⟨k,h1,h3⟩=>by rw [h] at h1;injection h1 with h1;subst h1;exact h2 h3
 | _ :: _ :: _ => .isFalse fun ⟨i,h1,_⟩=>by rw [h] at h1;injection h1 with _ h1;cases h1
def ansAt (j:Jar) (u:List UInt8)(P:Pkt × Int):(Jar × Pkt) × Int :=
 if P.2≠0 then ((zeroJ,zeroP),P.2) else if P.1.h.mode≠4 then ((zeroJ,zeroP),3) else if ¬ idOk P.1.plain u then ((zeroJ,zeroP),7)
 else if allC (cksF P.1.secret)=true then ((addJ j (cksF P.1.secret),P.1),0) else ((zeroJ,zeroP),3)
def ansJ (j:Jar) (u b:List UInt8):(Jar × Pkt) × Int:=if validJ j=true∧u.length=32 then ansAt j u (openP j.dn b) else ((zeroJ,zeroP),3)
end Go.Jar
namespace Go.Sec
open Go.RowKit
section
variable {P:Program} {fn:Func} {p p2 u n n2:Nat} {T T2:TypeId}
theorem results_arr2_tmp (h:fn.results=#[.cell p T, .cell p2 T2, .tmp u]) (hT:RowT P T n) (hT2:RowT P T2 n2) (tmps:Array Value) (w:World)(g o:Nat) (cs:List Value)(hp:tmps.getD p undef = .pointer (some ⟨g,o,none⟩))
  (hR:Rd w (some ⟨g,o,none⟩) cs) (hn:cs.length=n) (g2 o2:Nat) (cs2:List Value)(hp2:tmps.getD p2 undef = .pointer (some ⟨g2,o2,none⟩)) (hR2:Rd w (some ⟨g2,o2,none⟩) cs2) (hn2:cs2.length=n2) (v:Value)(hv:tmps.getD u undef=v) :
  (results fn tmps).run P w = .ok (.tuple #[.agg cs.toArray, .agg cs2.toArray,v]) w:=by
 have hp':tmps[p]?.getD undef = .pointer (some ⟨g,o,none⟩):=by simpa using hp
 have hp2':tmps[p2]?.getD undef = .pointer (some ⟨g2,o2,none⟩):=by simpa using hp2
 subst hv
 simp [results,h,hp',hp2',asAddr,loadVar_arr hT w g o cs hR hn,loadVar_arr hT2 w g2 o2 cs2 hR2 hn2]
end
end Go.Sec
namespace Go.Proofs.YtdmifbfgeeldnaaGreat
open Go.RowKit Go.Sec Go.Oct Go.Jar Go.Pkt BigFrame
def AnsE (r:(Jar × Pkt) × Int) (w:World)(e:Ending) (w':World):Prop:=∃ b1 n1 d1 b2 n2 d2 b3 n3 d3 b4 n4 d4 p1 m1 k1 p2 m2 k2,e = .returned (.tuple #[.agg #[.slice b1 n1 d1, .slice b2 n2 d2, .slice b3 n3 d3, .slice b4 n4 d4, .int .i64 r.1.1.net, .int .i64 r.1.1.sent], .agg #[.int .i64 r.1.2.h.leap, .int .i64 r.1.2.h.ver, .int .i64 r.1.2.h.mode, .int .i64 r.1.2.h.strat, .int .i64 r.1.2.h.poll, .int .i64 r.1.2.h.prec, .int .u32 (n32 r.1.2.h.rd), .int .u32 (n32 r.1.2.h.rp), .int .u32 (n32 r.1.2.h.id), .int .u64 (n64 r.1.2.h.ref), .int .u64 (n64 r.1.2.h.org), .int .u64 (n64 r.1.2.h.rcv), .int .u64 (n64 r.1.2.h.tx), .slice p1 m1 k1, .slice p2 m2 k2, .bool r.1.2.guarded], .int .i64 r.2]) ∧
 Sl w' b1 n1 r.1.1.up∧n1≤d1∧Sl w' b2 n2 r.1.1.dn∧n2≤d2∧Bsc w' b3 n3 r.1.1.ck∧n3≤d3∧Typ3 w' b3∧Sl w' b4 n4 r.1.1.last∧n4≤d4∧Ib w' p1 m1 r.1.2.plain∧m1≤k1∧Ib w' p2 m2 r.1.2.secret∧m2≤k2∧Ext w w'
theorem AnsE.zero (w w':World)(e:Int) (hx:Ext w w'):AnsE ((zeroJ,zeroP),e) w (.returned (.tuple #[.agg #[.slice none 0 0, .slice none 0 0, .slice none 0 0, .slice none 0 0, .int .i64 0, .int .i64 0], .agg #[.int .i64 0, .int .i64 0, .int .i64 0, .int .i64 0, .int .i64 0, .int .i64 0, .int .u32 0, .int .u32 0, .int .u32 0, .int .u64 0, .int .u64 0, .int .u64 0, .int .u64 0, .slice none 0 0, .slice none 0 0, .bool false], .int .i64 e])) w' :=
 ⟨none,0,0,none,0,0,none,0,0,none,0,0,none,0,0,none,0,0,rfl,Sl.nil _ _,Nat.le_refl _,Sl.nil _ _,Nat.le_refl _,Bsc.nil _ _,Nat.le_refl _,Typ3.none _,Sl.nil _ _,Nat.le_refl _,Ib.nil _ _,Nat.le_refl _,Ib.nil _ _,Nat.le_refl _,hx⟩
end Go.Proofs.YtdmifbfgeeldnaaGreat
