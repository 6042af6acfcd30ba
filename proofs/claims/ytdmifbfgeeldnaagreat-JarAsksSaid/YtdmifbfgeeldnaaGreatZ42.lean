/- Lemmas of this claim, several texts joined. -/
import Derived.Test.YtdmifbfgeeldnaaGreatZ2
import Derived.Test.YtdmifbfgeeldnaaGreatZ5
import Derived.Test.YtdmifbfgeeldnaaGreatZ11
import Derived.Test.YtdmifbfgeeldnaaGreatZ14
import Derived.Test.YtdmifbfgeeldnaaGreatZ15
import Derived.Test.YtdmifbfgeeldnaaGreatZ28
import Derived.Test.YtdmifbfgeeldnaaGreatZ36
import Derived.Test.YtdmifbfgeeldnaaGreatZ39
import Derived.Test.YtdmifbfgeeldnaaGreatZ40
set_option maxRecDepth 100000
open List renaming setIfInBounds_toArray → q0q, set_cons_succ → q1q, set_cons_zero → q2q, mem_cons → q3q, not_mem_nil → q4q, nil_append → q5q, cons_append → q6q, mem_append → q7q, take_succ_cons → q8q, take_zero → q9q, drop_succ_cons → q10q, drop_zero → q11q, take_nil → q12q, drop_nil → q13q, getElem_toArray → q14q, getElem_cons_succ → q15q, getElem_cons_zero → q16q
open Go.IntWalk renaming i64_in → q17q, rem_in → q18q, wrap64_in → q19q
set_option linter.unusedVariables false
set_option linter.unusedSimpArgs false
/- The walks of layer 22 of the document: Take. -/
namespace Go.Proofs.YtdmifbfgeeldnaaGreat
open Go.RowKit Go.Sec Go.Oct Go.Jar BigFrame
set_option maxHeartbeats 2000000 in
theorem rjtake_any (a1 a2 a3 a4:Option Addr)(n1 c1 n2 c2 n3 c3 n4 c4:Nat) (j:Jar) (w:World)(h1:Sl w a1 n1 j.up) (m1:n1≤1000000) (h2:Sl w a2 n2 j.dn) (m2:n2≤1000000) (h3:Bsc w a3 n3 j.ck) (hc3:n3≤c3) (hn3:n3≤100000) (hb3:∀ x∈j.ck,x.length≤1000000) (h4:Sl w a4 n4 j.last) (m4:n4≤1000000) (hs0:0≤j.sent∨validJ j=false) :
  Calls Tryz.prog 70 #[.agg #[.slice a1 n1 c1, .slice a2 n2 c2, .slice a3 n3 c3, .slice a4 n4 c4, .int .i64 j.net, .int .i64 j.sent]] w (TakeE (takeJ j) w):=by
 have hl3:=h3.len
 have hv:=fun W H1 H2 H3 H4=>rjvalid_any a1 a2 a3 a4 n1 c1 n2 c2 n3 c3 n4 c4 j W H1 H2 H3 hc3 (by omega) H4
 have hcl:=fun W H1 H2 H3 H4=>rjcopy_any a1 a2 a3 a4 n1 c1 n2 c2 n3 c3 n4 c4 j W H1 m1 H2 m2 H3 hn3 hb3 H4 m4
 obtain ⟨r,hr⟩:∃ r,takeJ j=r:=⟨_,rfl⟩
 rw [hr]
 replace hr:=Lib.hid hr
 have hl3:=h3.len
 go_enter Tryz.func70,Tryz.ntmps70
 go_wp2_with fail
 refine nameC ?_
 intro W hW
 have hE:Ext w W:=by rw [hW];exact eX
 have hB:Blk W w.heap.size 54 [.slice a1 n1 c1, .slice a2 n2 c2, .slice a3 n3 c3, .slice a4 n4 c4, .int .i64 j.net, .int .i64 j.sent]:=by rw [hW];exact bK
 have hR:Blk W (w.heap.size+1) 54 [.slice none 0 0, .slice none 0 0, .slice none 0 0, .slice none 0 0, .int .i64 0, .int .i64 0]:=by rw [hW];exact bK
 clear hW
 (with_reducible refine (hv _ (h1.ext hE) (h2.ext hE) (h3.ext hE) (h4.ext hE)).mono ?_)
 rintro e w0 ⟨rfl,hx0⟩
 have hE:=hE.trans hx0
 have hB:=hB.extB hx0
 have hR:=hR.extB hx0
 clear hx0 hv
 haveI:=hB.blt
 haveI:=hR.blt
 have f1:=hB.cell? 2 rfl
 have f5:=hB.cell? 5 rfl
 cases q:validJ j
 ·have er:=Lib.hid (show r=((zeroJ,[]),3) by rw [← hr.out];unfold takeJ;rw [q];rfl)
  clear hs0 hr
  go_wp2_with (first
   | (refine wpList_store_arr (RJ6) rfl _ _ rfl (w.heap.size+1) (0) rfl ([.slice none 0 0, .slice none 0 0, .slice none 0 0, .slice none 0 0, .int .i64 0, .int .i64 0]) rfl (54) _ (hR) (rfl) (by simp) (oC) ?_;intro V hV hMV)
   | fail)
  refine bodyPost_ret (results_arr_tmp2 Tryz.results70 (RJ6) _ _ (w.heap.size+1) (0) ([.slice none 0 0, .slice none 0 0, .slice none 0 0, .slice none 0 0, .int .i64 0, .int .i64 0]) rfl (hV.rd) (rfl) (.slice none 0 0) (.int .i64 3) rfl rfl) rfl ?_
  rw [er.out]
  exact TakeE.zero _ _ _ (Below.trans hE (hMV.below (by omega) hE.size))
 ·have hhd:headJ j:=by
   have:=q;unfold validJ at this;rw [Bool.and_eq_true] at this;exact of_decide_eq_true this.1
  obtain ⟨-, -, -, -, -,hsn0,hsn1⟩:=hhd
  by_cases q0:n3=0
  ·have er:=Lib.hid (show r=((zeroJ,[]),10) by rw [← hr.out];unfold takeJ;rw [q,if_pos rfl,if_pos (by omega)])
   have q0i:((n3:Int) == 0)=true:=by rw [beq_iff_eq];omega
   clear hs0 hr
   go_wp2_with (first
    | (refine wpList_store_arr (RJ6) rfl _ _ rfl (w.heap.size+1) (0) rfl ([.slice none 0 0, .slice none 0 0, .slice none 0 0, .slice none 0 0, .int .i64 0, .int .i64 0]) rfl (54) _ (hR) (rfl) (by simp) (oC) ?_;intro V hV hMV)
    | fail)
   refine bodyPost_ret (results_arr_tmp2 Tryz.results70 (RJ6) _ _ (w.heap.size+1) (0) ([.slice none 0 0, .slice none 0 0, .slice none 0 0, .slice none 0 0, .int .i64 0, .int .i64 0]) rfl (hV.rd) (rfl) (.slice none 0 0) (.int .i64 10) rfl rfl) rfl ?_
   rw [er.out]
   exact TakeE.zero _ _ _ (Below.trans hE (hMV.below (by omega) hE.size))
  ·have q0i:((n3:Int) == 0)=false:=by rw [beq_eq_false_iff_ne];omega
   by_cases qs:j.sent=1099511627776
   ·have er:=Lib.hid (show r=((zeroJ,[]),7) by rw [← hr.out];unfold takeJ;rw [q,if_pos rfl,if_neg (by omega),if_pos qs])
    clear hs0 q0 hr
    go_wp2_with (first
     | (refine wpList_store_arr (RJ6) rfl _ _ rfl (w.heap.size+1) (0) rfl ([.slice none 0 0, .slice none 0 0, .slice none 0 0, .slice none 0 0, .int .i64 0, .int .i64 0]) rfl (54) _ (hR) (rfl) (by simp) (oC) ?_;intro V hV hMV)
     | fail)
    refine bodyPost_ret (results_arr_tmp2 Tryz.results70 (RJ6) _ _ (w.heap.size+1) (0) ([.slice none 0 0, .slice none 0 0, .slice none 0 0, .slice none 0 0, .int .i64 0, .int .i64 0]) rfl (hV.rd) (rfl) (.slice none 0 0) (.int .i64 7) rfl rfl) rfl ?_
    rw [er.out]
    exact TakeE.zero _ _ _ (Below.trans hE (hMV.below (by omega) hE.size))
   ·have er:=Lib.hid (show r=(({ j with last:=j.ck.headD [],ck:=j.ck.tail,sent:=j.sent+1 },j.ck.headD []),0) by rw [← hr.out];unfold takeJ;rw [q,if_pos rfl,if_neg (by omega),if_neg qs])
    have qsi:(j.sent == 1099511627776)=false:=by rw [beq_eq_false_iff_ne];exact qs
    clear hs0 q0 hr
    go_wp2_with (first
     | (refine wpList_load_arr (RJ6) rfl _ rfl (w.heap.size) (0) rfl ([.slice a1 n1 c1, .slice a2 n2 c2, .slice a3 n3 c3, .slice a4 n4 c4, .int .i64 j.net, .int .i64 j.sent]) (hB.rd) (rfl) ?_)
     | fail)
    (with_reducible refine (hcl _ (h1.ext hE) (h2.ext hE) (h3.ext hE) (h4.ext hE)).mono ?_)
    rintro e w1 ⟨b1,d1,b2,d2,b3,d3,b4,d4,rfl,o1,o2,⟨B,hB0,hBs,o3⟩,o4,hx1⟩
    have hR:=hR.extB hx1
    have hE0:=hE
    have hE:=hE.trans hx1
    have hlt:=hR.lt
    clear hcl hx1 hB f1 f5
    go_wp2_with (first
     | (refine wpList_alloc_store (RJ6) rfl rfl _ _ rfl rfl rfl rfl (by simp [Act.put]) ([.slice b1 n1 d1, .slice b2 n2 d2, .slice b3 n3 d3, .slice b4 n4 d4, .int .i64 j.net, .int .i64 j.sent]) rfl (by simp) (rfl) (oC) ?_;intro x hz _)
     | fail)
    have hxx:Ext w1 (w1.ext x):=Ext.of_ext _ _
    have hR:=hR.extB hxx
    have hE:=hE.trans hxx
    have o1:=o1.ext hxx
    have o2:=o2.ext hxx
    have o3:=o3.ext hxx
    have o4:=o4.ext hxx
    have o3c:=o3.le
    obtain ⟨g5,hg5⟩:∃ g,g=w1.heap.size:=⟨_,rfl⟩
    rw [← hg5] at hz hlt ⊢
    clear hxx hg5
    generalize w1.ext x=W1 at *
    obtain ⟨y,L,hyL⟩:∃ y L,j.ck=y :: L:=by
     cases hj:j.ck with
     | nil=>rw [hj] at hl3;exact absurd hl3.symm (by simpa using fun h=>by simp [h] at q0i)
     | cons y L=>exact ⟨y,L,rfl⟩
    rw [hyL] at o3 hl3
    have hb3w:∀ b o,b3=some ⟨b,o,none⟩→w.heap.size≤b:=fun b o h=>by
     have hb:=o3.base h
     have:=hE0.size
     omega
    obtain ⟨b0,o0,a',n',c',rfl,hb0,hcell,hc',hS⟩:=o3.bsc.at 0 (by rw [List.length_cons] at hl3;omega)
    have hb0w:w.heap.size≤b0:=hb3w _ _ rfl
    clear hb3w hE0
    haveI:=hz.blt
    haveI:=hb0
    have f2:=hz.cell? 2 rfl
    have f3:=hz.cell? 3 rfl
    have f5:=hz.cell? 5 rfl
    have z5:=hz.free 5
    have z2:=hz.free 2
    have z3:=hz.free 3
    have n0:0<n3:=by rw [List.length_cons] at hl3;omega
    have n0i:(0:Int)<(n3:Int):=by omega
    have n1i:(1:Int)≤(n3:Int):=by omega
    have n1d:(1:Int)≤(d3:Int):=by omega
    have hcell0:W1.cell? ⟨b0,o0,none⟩=some (.slice a' n' c'):=by simpa using hcell
    have hsi:j.sent+1≤1099511627776:=by omega
    have hyl:y.length≤1000000:=hb3 y (by rw [hyL];exact List.mem_cons_self ..)
    have hS:Sl W1 a' n' y:=hS
    have hyn:=hS.len
    have hny:n'≤1000000:=by omega
    replace hyn:=Lib.hid hyn
    have erf:=er.out
    rw [hyL] at erf
    replace er:=Lib.hid erf
    by_cases hd:d3=1
    ·subst hd
     obtain rfl:n3=1:=by omega
     simp only [Act.put]
     go_region
     all_goals
      go_wp2_with fail
      refine nameW ?_
      intro V hV
      have hM:Mut g5 W1 V:=by rw [hV];exact ((((Mut.refl _ _).setCell 3 _).setCell 2 _).setCell 5 _).drew
      have hzV:Blk V g5 54 [.slice b1 n1 d1, .slice b2 n2 d2, .slice (some ⟨b0,o0,none⟩) 0 0, .slice a' n' c', .int .i64 j.net, .int .i64 (j.sent+1)]:=by
       rw [hV];exact (((hz.set 3 (.slice a' n' c')).set 2 (.slice (some ⟨b0,o0,none⟩) 0 0)).set 5 (.int .i64 (j.sent+1))).extB (Ext.drew (Ext.refl _))
      clear hV
      have hRV:=Blk.turn hM hR (by omega)
      have o1:=o1.mutT hz (by decide) hM
      have o2:=o2.mutT hz (by decide) hM
      have o3:=o3.mut hz (by decide) (by simp) hM
      have hS:=hS.mut hz (by simp) hM
      have hEV:Ext w V:=Below.trans hE (hM.below (by have:=hE.size;omega) hE.size)
      clear hM hR hE hz f2 f3 f5 z5 z2 z3 hcell hcell0 o4
      haveI:=hzV.blt
      have f3:=hzV.cell? 3 rfl
      refine wp_region_vague 5 [[],[],[1],[1,2],[1,2,3],[0,1,2,3,4],[0,1,2,3,4,5],[0,1,2,3,4,5,6]] (by kernel_rfl) (by kernel_rfl) (by kernel_rfl) (by kernel_rfl) ?_;simp only [q8q,q9q,q10q,q11q,q12q,q13q]
      (refine VD_load_arr (RJ6) _ rfl (fun _=>rfl) (g5) (0) (fun _=>by simp [go_sem]) ([.slice b1 n1 d1, .slice b2 n2 d2, .slice (some ⟨b0,o0,none⟩) 0 0, .slice a' n' c', .int .i64 j.net, .int .i64 (j.sent+1)]) (hzV.rd) (rfl) ?_)
      (repeat (refine VD_a ?_;(try simp only [Act.put,q0q,q1q,q2q])))
      (refine VD_vag (fun p => .slice (p 0).1 (1) (1)) (fun p w''=>Bss w'' (p 0).1 (1) ([y])) (fun p w w' h hx=>h.ext hx) (fun us w' hx hf=>⟨rfl,?_⟩) ?_;(unfold gives;simp [go_sem,execOp];exact ⟨fun _=>(some ⟨w'.heap.size,0,none⟩,0),rfl,Ext.of_alloc _ _,bss1 (hS.ext hx) _⟩))
      (refine VD_vag (fun p => .slice (p 0).1 (n') (p 0).2) (fun p w''=>Own w'' 0 (p 0).1 (n') (p 0).2 (y)) (fun p w w' h hx=>h.ext hx) (fun us w' hx hf=>⟨rfl,?_⟩) ?_;(unfold gives;simp [go_sem,execOp];exact vag_fresh (Nat.zero_le _) (join1_any _ n' y hyn.out _ (by exact (hf _ (List.mem_append_right _ (List.mem_singleton_self _)) rfl)) hny)))
      (refine VD_z ?_;intro us x hx hf;(try simp only [Act.put,q0q,q1q,q2q,wpList_none]);(try simp only [q3q,q4q,or_false,forall_eq_or_imp,forall_eq,q5q,q6q,q7q,false_or,true_and,and_true] at hf);(try simp only [Nat.reduceAdd,Nat.zero_add] at hf ⊢))
      obtain ⟨-,hf⟩:=hf
      obtain ⟨a9,ha9⟩:∃ a,(us 4 0).1=a:=⟨_,rfl⟩
      obtain ⟨c9,hc9⟩:∃ a,(us 4 0).2=a:=⟨_,rfl⟩
      rw [ha9,hc9] at hf ⊢
      clear ha9 hc9
      have hxx:Ext V (V.ext x):=Ext.of_ext _ _
      have o1:=o1.ext hxx
      have o2:=o2.ext hxx
      have o3:=o3.ext hxx
      have hS:=hS.ext hxx
      have hRV:=hRV.extB hxx
      have hEV:=hEV.trans hxx
      clear hzV f3 hxx
      generalize V.ext x=V2 at *
      haveI:=hRV.blt
      go_wp2_with (first
       | (refine wpList_store_arr (RJ6) rfl _ _ rfl (w.heap.size+1) (0) rfl ([.slice b1 n1 d1, .slice b2 n2 d2, .slice (some ⟨b0,o0,none⟩) 0 0, .slice a' n' c', .int .i64 j.net, .int .i64 (j.sent+1)]) rfl (54) _ (hRV) (rfl) (by simp) (oC) ?_;intro w9 hB9 hM9)
       | fail)
      refine bodyPost_ret (results_arr_tmp2 Tryz.results70 (RJ6) _ _ (w.heap.size+1) (0) ([.slice b1 n1 d1, .slice b2 n2 d2, .slice (some ⟨b0,o0,none⟩) 0 0, .slice a' n' c', .int .i64 j.net, .int .i64 (j.sent+1)]) rfl (hB9.rd) (rfl) (.slice a9 n' c9) (.int .i64 0) rfl rfl) rfl ?_
      rw [er.out]
      have hty:Typ3 w9 (some ⟨b0,o0,none⟩):=fun b o h=>(o3.mut hRV (by decide) (by simp) hM9).typ3 b o0 (by injection h with h;injection h with h _;rw [h])
      have o3:=(o3.mut hRV (by decide) (by simp) hM9).bsc
      exact ⟨b1,n1,d1,b2,n2,d2,(some ⟨b0,o0,none⟩),0,0,a',n',c',a9,n',c9,rfl,o1.mutT hRV (by decide) hM9,o2.mutT hRV (by decide) hM9,(by have hL:=List.length_eq_zero_iff.1 (show L.length=0 by rw [List.length_cons] at hl3;omega);subst hL;exact Bsc.nil _ _),by omega,hS.mut hRV (by simp) hM9,hc',(hf.mono (Nat.zero_le _)).mutT hRV (by decide) hM9,(fun b o h=>by injection h with h;injection h with h _;omega),hty,Below.trans hEV (hM9.below (by omega) hEV.size)⟩
    ·clear q0i
     simp only [Act.put]
     go_region
     all_goals
      go_wp2_with fail
      refine nameW ?_
      intro V hV
      have hM:Mut g5 W1 V:=by rw [hV];exact ((((Mut.refl _ _).setCell 3 _).setCell 2 _).setCell 5 _).drew
      have hzV:Blk V g5 54 [.slice b1 n1 d1, .slice b2 n2 d2, .slice (some ⟨b0,o0+1,none⟩) (n3-1) (d3-1), .slice a' n' c', .int .i64 j.net, .int .i64 (j.sent+1)]:=by
       rw [hV];exact (((hz.set 3 (.slice a' n' c')).set 2 (.slice (some ⟨b0,o0+1,none⟩) (n3-1) (d3-1))).set 5 (.int .i64 (j.sent+1))).extB (Ext.drew (Ext.refl _))
      clear hV
      have hRV:=Blk.turn hM hR (by omega)
      have o1:=o1.mutT hz (by decide) hM
      have o2:=o2.mutT hz (by decide) hM
      have o3:=o3.mut hz (by decide) (by simp) hM
      have hS:=hS.mut hz (by simp) hM
      have hEV:Ext w V:=Below.trans hE (hM.below (by have:=hE.size;omega) hE.size)
      clear hM hR hE hz f2 f3 f5 z5 z2 z3 hcell hcell0 o4
      haveI:=hzV.blt
      have f3:=hzV.cell? 3 rfl
      refine wp_region_vague 5 [[],[],[1],[1,2],[1,2,3],[0,1,2,3,4],[0,1,2,3,4,5],[0,1,2,3,4,5,6]] (by kernel_rfl) (by kernel_rfl) (by kernel_rfl) (by kernel_rfl) ?_;simp only [q8q,q9q,q10q,q11q,q12q,q13q]
      (refine VD_load_arr (RJ6) _ rfl (fun _=>rfl) (g5) (0) (fun _=>by simp [go_sem]) ([.slice b1 n1 d1, .slice b2 n2 d2, .slice (some ⟨b0,o0+1,none⟩) (n3-1) (d3-1), .slice a' n' c', .int .i64 j.net, .int .i64 (j.sent+1)]) (hzV.rd) (rfl) ?_)
      (repeat (refine VD_a ?_;(try simp only [Act.put,q0q,q1q,q2q])))
      (refine VD_vag (fun p => .slice (p 0).1 (1) (1)) (fun p w''=>Bss w'' (p 0).1 (1) ([y])) (fun p w w' h hx=>h.ext hx) (fun us w' hx hf=>⟨rfl,?_⟩) ?_;(unfold gives;simp [go_sem,execOp];exact ⟨fun _=>(some ⟨w'.heap.size,0,none⟩,0),rfl,Ext.of_alloc _ _,bss1 (hS.ext hx) _⟩))
      (refine VD_vag (fun p => .slice (p 0).1 (n') (p 0).2) (fun p w''=>Own w'' 0 (p 0).1 (n') (p 0).2 (y)) (fun p w w' h hx=>h.ext hx) (fun us w' hx hf=>⟨rfl,?_⟩) ?_;(unfold gives;simp [go_sem,execOp];exact vag_fresh (Nat.zero_le _) (join1_any _ n' y hyn.out _ (by exact (hf _ (List.mem_append_right _ (List.mem_singleton_self _)) rfl)) hny)))
      (refine VD_z ?_;intro us x hx hf;(try simp only [Act.put,q0q,q1q,q2q,wpList_none]);(try simp only [q3q,q4q,or_false,forall_eq_or_imp,forall_eq,q5q,q6q,q7q,false_or,true_and,and_true] at hf);(try simp only [Nat.reduceAdd,Nat.zero_add] at hf ⊢))
      obtain ⟨-,hf⟩:=hf
      obtain ⟨a9,ha9⟩:∃ a,(us 4 0).1=a:=⟨_,rfl⟩
      obtain ⟨c9,hc9⟩:∃ a,(us 4 0).2=a:=⟨_,rfl⟩
      rw [ha9,hc9] at hf ⊢
      clear ha9 hc9
      have hxx:Ext V (V.ext x):=Ext.of_ext _ _
      have o1:=o1.ext hxx
      have o2:=o2.ext hxx
      have o3:=o3.ext hxx
      have hS:=hS.ext hxx
      have hRV:=hRV.extB hxx
      have hEV:=hEV.trans hxx
      clear hzV f3 hxx
      generalize V.ext x=V2 at *
      haveI:=hRV.blt
      go_wp2_with (first
       | (refine wpList_store_arr (RJ6) rfl _ _ rfl (w.heap.size+1) (0) rfl ([.slice b1 n1 d1, .slice b2 n2 d2, .slice (some ⟨b0,o0+1,none⟩) (n3-1) (d3-1), .slice a' n' c', .int .i64 j.net, .int .i64 (j.sent+1)]) rfl (54) _ (hRV) (rfl) (by simp) (oC) ?_;intro w9 hB9 hM9)
       | fail)
      refine bodyPost_ret (results_arr_tmp2 Tryz.results70 (RJ6) _ _ (w.heap.size+1) (0) ([.slice b1 n1 d1, .slice b2 n2 d2, .slice (some ⟨b0,o0+1,none⟩) (n3-1) (d3-1), .slice a' n' c', .int .i64 j.net, .int .i64 (j.sent+1)]) rfl (hB9.rd) (rfl) (.slice a9 n' c9) (.int .i64 0) rfl rfl) rfl ?_
      rw [er.out]
      have hty:Typ3 w9 (some ⟨b0,o0+1,none⟩):=fun b o h=>(o3.mut hRV (by decide) (by simp) hM9).typ3 b o0 (by injection h with h;injection h with h _;rw [h])
      have o3:=(o3.mut hRV (by decide) (by simp) hM9).bsc
      exact ⟨b1,n1,d1,b2,n2,d2,(some ⟨b0,o0+1,none⟩),(n3-1),(d3-1),a',n',c',a9,n',c9,rfl,o1.mutT hRV (by decide) hM9,o2.mutT hRV (by decide) hM9,o3.tail,by omega,hS.mut hRV (by simp) hM9,hc',(hf.mono (Nat.zero_le _)).mutT hRV (by decide) hM9,(fun b o h=>by injection h with h;injection h with h _;omega),hty,Below.trans hEV (hM9.below (by omega) hEV.size)⟩
end Go.Proofs.YtdmifbfgeeldnaaGreat

/- The walks of layer 22 of the document: Question. -/
namespace Go.Jar
theorem takeJ_up {j:Jar} (h:(takeJ j).2=0):(takeJ j).1.1.up=j.up:=by
 unfold takeJ at h ⊢
 split at h
 ·rename_i h1
  rw [if_pos h1]
  split at h
  ·cases h
  ·rename_i h2
   rw [if_neg h2]
   split at h
   ·cases h
   ·rename_i h3;rw [if_neg h3]
 ·cases h
end Go.Jar
namespace Go.Proofs.YtdmifbfgeeldnaaGreat
open Go.RowKit Go.Sec Go.Oct Go.Jar Go.Pkt BigFrame
theorem raskQ_any (t:UInt64) (w:World) :
  Calls Tryz.prog 8 #[.int .u64 (n64 t)] w fun e w'=>e = .returned (.agg #[.int .i64 0, .int .i64 4, .int .i64 3, .int .i64 0, .int .i64 6, .int .i64 0, .int .u32 0, .int .u32 0, .int .u32 0, .int .u64 0, .int .u64 0, .int .u64 0, .int .u64 (n64 t)])∧Ext w w':=by
 go_enter Tryz.func8,Tryz.ntmps8
 go_wp2
 refine bodyPost_ret (results_arr Tryz.results8 (RH13) _ _ (w.heap.size) (0) ([.int .i64 0, .int .i64 4, .int .i64 3, .int .i64 0, .int .i64 6, .int .i64 0, .int .u32 0, .int .u32 0, .int .u32 0, .int .u64 0, .int .u64 0, .int .u64 0, .int .u64 (n64 t)]) rfl ((Blk.new _ _ _).rd) (rfl)) rfl ?_
 exact ⟨rfl,eX⟩
set_option maxHeartbeats 1000000 in
theorem rjques_any (a1 a2 a3 a4 au an:Option Addr)(n1 c1 n2 c2 n3 c3 n4 c4 nu cu nn cn:Nat) (j:Jar) (t:UInt64) (u nc:List UInt8)(w:World)(h1:Sl w a1 n1 j.up) (hc1:n1≤c1) (m1:n1≤1000000) (h2:Sl w a2 n2 j.dn) (m2:n2≤1000000) (h3:Bsc w a3 n3 j.ck) (hc3:n3≤c3) (hn3:n3≤100000) (hb3:∀ x∈j.ck,x.length≤1000000) (h4:Sl w a4 n4 j.last) (m4:n4≤1000000)
  (hu:Sl w au nu u) (hcu:nu≤cu) (hnc:Sl w an nn nc) (hcn:nn≤cn) :
  Calls Tryz.prog 28 #[.agg #[.slice a1 n1 c1, .slice a2 n2 c2, .slice a3 n3 c3, .slice a4 n4 c4, .int .i64 j.net, .int .i64 j.sent], .int .u64 (n64 t), .slice au nu cu, .slice an nn cn] w (QuesE (quesJ j t u nc) w):=by
 have hlu:=hu.len
 have hln:=hnc.len
 have hv:=fun W H1 H2 H3 H4=>rjvalid_any a1 a2 a3 a4 n1 c1 n2 c2 n3 c3 n4 c4 j W H1 H2 H3 hc3 (by omega) H4
 have htk:=fun W H1 H2 H3 H4 H5=>rjtake_any a1 a2 a3 a4 n1 c1 n2 c2 n3 c3 n4 c4 j W H1 m1 H2 m2 H3 hc3 hn3 hb3 H4 m4 H5
 obtain ⟨r,hr⟩:∃ r,quesJ j t u nc=r:=⟨_,rfl⟩
 rw [hr]
 replace hr:=Lib.hid hr
 go_enter Tryz.func28,Tryz.ntmps28
 go_wp2_with fail
 refine nameC ?_
 intro W hW
 have hE:Ext w W:=by rw [hW];exact eX
 have hB:Blk W w.heap.size 54 [.slice a1 n1 c1, .slice a2 n2 c2, .slice a3 n3 c3, .slice a4 n4 c4, .int .i64 j.net, .int .i64 j.sent]:=by rw [hW];exact bK
 have hR:Blk W (w.heap.size+1) 54 [.slice none 0 0, .slice none 0 0, .slice none 0 0, .slice none 0 0, .int .i64 0, .int .i64 0]:=by rw [hW];exact bK
 clear hW
 (with_reducible refine (hv _ (h1.ext hE) (h2.ext hE) (h3.ext hE) (h4.ext hE)).mono ?_)
 rintro e w0 ⟨rfl,hx0⟩
 have hE:=hE.trans hx0
 have hB:=hB.extB hx0
 have hR:=hR.extB hx0
 clear hx0 hv
 haveI:=hB.blt
 haveI:=hR.blt
 cases q:validJ j
 ·have er:=Lib.hid (show r=((zeroJ,[]),3) by rw [← hr.out];unfold quesJ;rw [if_neg (fun h=>by rw [q] at h;exact absurd h.1 (by decide))])
  clear hr
  go_wp2_with (first
   | (refine wpList_store_arr (RJ6) rfl _ _ rfl (w.heap.size+1) (0) rfl ([.slice none 0 0, .slice none 0 0, .slice none 0 0, .slice none 0 0, .int .i64 0, .int .i64 0]) rfl (54) _ (hR) (rfl) (by simp) (oC) ?_;intro V hV hMV)
   | fail)
  refine bodyPost_ret (results_arr_tmp2 Tryz.results28 (RJ6) _ _ (w.heap.size+1) (0) ([.slice none 0 0, .slice none 0 0, .slice none 0 0, .slice none 0 0, .int .i64 0, .int .i64 0]) rfl (hV.rd) (rfl) (.slice none 0 0) (.int .i64 3) rfl rfl) rfl ?_
  rw [er.out]
  exact QuesE.zero _ _ _ (Below.trans hE (hMV.below (by omega) hE.size))
 ·by_cases q1:nu=32
  ·have q1i:((nu:Int) != 32)=false:=by rw [bne_eq_false_iff_eq];omega
   by_cases q2:nn=16
   ·have q2i:((nn:Int) != 16)=false:=by rw [bne_eq_false_iff_eq];omega
    have hhd:headJ j:=by
     have:=q;unfold validJ at this;rw [Bool.and_eq_true] at this;exact of_decide_eq_true this.1
    have hsn0:=hhd.2.2.2.2.2.1
    have hqe:=hr.out
    unfold quesJ at hqe
    rw [if_pos ⟨q,by omega,by omega⟩] at hqe
    have hok:=takeJ_ok q
    have hupj:=takeJ_up (j:=j)
    have hnnb:nn≤1000000:=by omega
    clear hr hhd q1 q2
    generalize takeJ j=T at *
    replace hqe:=Lib.hid hqe
    have hask:∀ W,Calls Tryz.prog 8 #[.int .u64 (n64 t)] W fun e w'=>e = .returned (.agg #[.int .i64 (askH t).leap, .int .i64 (askH t).ver, .int .i64 (askH t).mode, .int .i64 (askH t).strat, .int .i64 (askH t).poll, .int .i64 (askH t).prec, .int .u32 (n32 (askH t).rd), .int .u32 (n32 (askH t).rp), .int .u32 (n32 (askH t).id), .int .u64 (n64 (askH t).ref), .int .u64 (n64 (askH t).org), .int .u64 (n64 (askH t).rcv), .int .u64 (n64 (askH t).tx)])∧Ext W w':=fun W=>raskQ_any t W
    go_wp2_with (first
     | (refine wpList_load_arr (RJ6) rfl _ rfl (w.heap.size) (0) rfl ([.slice a1 n1 c1, .slice a2 n2 c2, .slice a3 n3 c3, .slice a4 n4 c4, .int .i64 j.net, .int .i64 j.sent]) (hB.rd) (rfl) ?_)
     | fail)
    (with_reducible refine (htk _ (h1.ext hE) (h2.ext hE) (h3.ext hE) (h4.ext hE) (.inl hsn0)).mono ?_)
    rintro e w1 ⟨b1,x1,d1,b2,x2,d2,b3,x3,d3,b4,x4,d4,b5,x5,d5,rfl,o1,o2,o3,k3,o4,k4,o5,hb3w,t3,hx1⟩
    have hltw:=hR.lt
    have hE:=hE.trans hx1
    have hR:=hR.extB hx1
    have hlt:=hR.lt
    have hu:=hu.ext hE
    have hu0:=hu
    have hnc:=hnc.ext hE
    have hB:=hB.extB hx1
    have h1:=h1.ext hE
    clear hx1 htk hsn0 h2 h3 h4 hb3
    by_cases qe:T.2=0
    ·have qei:(T.2 != 0)=false:=by rw [bne_eq_false_iff_eq];exact qe
     obtain ⟨hck,hcl,hup⟩:=hok qe
     have hupj:=hupj qe
     have o3l:=o3.len
     have o5l:=o5.1
     obtain rfl:x5=104:=by omega
     obtain rfl:nu=32:=by simpa [bne_eq_false_iff_eq] using (show nu=32 by have:=q1i;rw [bne_eq_false_iff_eq] at this;omega)
     have hx3I:(x3:Int)≤7:=by omega
     go_wp2_with (first
      | ((refine wpList_alloc_store (RJ6) rfl rfl _ _ rfl rfl rfl rfl (by simp [Act.put]) ([.slice b1 x1 d1, .slice b2 x2 d2, .slice b3 x3 d3, .slice b4 x4 d4, .int .i64 T.1.1.net, .int .i64 T.1.1.sent]) rfl (by simp) (rfl) (oC) ?_;intro x hz _);haveI:=hz.blt;have f2:=hz.cell? 2 rfl)
      | fail)
     have hxx:Ext w1 (w1.ext x):=Ext.of_ext _ _
     have hR:=hR.extB hxx
     have hB:=hB.extB hxx
     have hu:=hu.ext hxx
     have o5:=o5.ext hxx
     have hIu:InT 66 (w1.ext x) w1.heap.size au 32:=(hu0.inT w1).ext hxx
     have hI5:InT 66 (w1.ext x) w1.heap.size b5 104:=o5.inT (by decide)
     obtain ⟨go,hgo⟩:∃ g,g=w1.heap.size:=⟨_,rfl⟩
     rw [← hgo] at hz hlt hIu hI5 ⊢
     have hgo1:w1.heap.size≤go:=by omega
     have hxx':=hxx
     generalize w1.ext x=W1 at *
     have hgz:=hz.lt
     clear f2
     refine nameW ?_
     intro w4 hW4
     have hx34:Ext W1 w4:=by rw [hW4];exact eX
     have hrw:Blk w4 W1.heap.size 66 [.int .i64 260, .slice au 32 cu, .int .i64 516, .slice b5 104 d5]:=by rw [hW4];exact Blk.new W1 #[.int .i64 260, .slice au 32 cu, .int .i64 516, .slice b5 104 d5] 66
     clear hW4
     have hz:=hz.extB hx34
     have hR:=hR.extB hx34
     have hB:=hB.extB hx34
     have hO:OwnI 66 w4 go (some ⟨W1.heap.size,0,none⟩) 2 2 (plainQ u T.1.2 0):=OwnI.two hrw (by omega) (hu.ext hx34) hcu (hIu.ext hx34) (o5.sl.ext hx34) (o5.le.1) (hI5.ext hx34)
     have hx04:Ext w1 w4:=hxx'.trans hx34
     have hbs:go≤w4.heap.size:=by have:=hx34.size;omega
     obtain ⟨kk,hkk⟩:∃ kk,kk=7-x3:=⟨_,rfl⟩
     have hk7:kk≤7:=by omega
     have hx7:x3+kk=7:=by omega
     clear hrw hIu hI5 hu o5 hxx' hx34 hgo hxx
     replace hkk:=Lib.hid hkk
     go_loopw [14,15] (fun v14 v15 wr=>∃ (i:Nat) (sa:Option Addr)(sc:Nat),i≤kk∧v15 = .int .i64 ((x3+1+i:Nat):Int)∧v14 = .slice sa (2+i) sc∧OwnI 66 wr go sa (2+i) sc (plainQ u T.1.2 i)∧go≤wr.heap.size∧Blk wr go 54 [.slice b1 x1 d1, .slice b2 x2 d2, .slice b3 x3 d3, .slice b4 x4 d4, .int .i64 T.1.1.net, .int .i64 T.1.1.sent]∧Blk wr (w.heap.size+1) 54 [.slice none 0 0, .slice none 0 0, .slice none 0 0, .slice none 0 0, .int .i64 0, .int .i64 0]∧Blk wr w.heap.size 54 [.slice a1 n1 c1, .slice a2 n2 c2, .slice a3 n3 c3, .slice a4 n4 c4, .int .i64 j.net, .int .i64 j.sent]∧Ext w1 wr) (fun _ v15 _=>8-(intOf v15).toNat)
     case atStart=>exact ⟨0,_,2,by omega,(by simp),rfl,hO,hbs,hz,hR,hB,hx04⟩
     case round =>
      clear hO hbs hz hR hB hx04
      obtain ⟨i,sa,sc,hi,rfl,rfl,hO,hbs,hz,hR,hB,hxL⟩:=hrel
      by_cases hlt2:i<kk
      ·have i1:((x3+1+i:Nat):Int)<8:=by omega
       have hmk:=run_make_by U 104 104 (Nat.le_refl _) (by omega)
       simp only [Int.cast_ofNat_Int] at hmk
       have hqs:=Lib.hid (plainQ_succ u T.1.2 i)
       generalize plainQ u T.1.2 i=P at *
       obtain ⟨Z,hZ⟩:∃ Z:List UInt8,Z=List.replicate 104 0:=⟨_,rfl⟩
       rw [← hZ] at hqs
       have hown:∀ V:World,Own (V.alloc (.cells (zerosOf (.int .u8 0) 104) 5)) 0 (some ⟨V.heap.size,0,none⟩) 104 104 Z:=fun V=>by rw [hZ];exact own_zeros V 104 (by omega)
       clear hZ
       have hE2:Ext wr ((wr.alloc (.cells (zerosOf (.int .u8 0) 104) 5)).alloc (.cells #[.int .i64 772, .slice (some ⟨wr.heap.size,0,none⟩) 104 104] 66)):=(Ext.of_alloc _ _).alloc _
       have hZ2:=(hown wr).ext (Ext.of_alloc (wr.alloc (.cells (zerosOf (.int .u8 0) 104) 5)) (.cells #[.int .i64 772, .slice (some ⟨wr.heap.size,0,none⟩) 104 104] 66))
       go_wp2_with (first
        | (at_builtin;refine wpList_append_i VF rfl _ _ rfl go sa (2+i) sc P rfl (wr.heap.size+1) 1 772 (some ⟨wr.heap.size,0,none⟩) 104 104 Z rfl (hO.ext hE2) (Blk.newAt (wr.alloc (.cells (zerosOf (.int .u8 0) 104) 5)) #[.int .i64 772, .slice (some ⟨wr.heap.size,0,none⟩) 104 104] 66 (wr.heap.size+1) (by simp)).rd hZ2.sl (Nat.le_refl _) (Own.inT hZ2 (by decide)) (by omega) (Nat.le_trans hbs hE2.size) ?_;intro sa' sc' w6 hO6 hg6 hb6)
        | fail)
       skip
       have hOx:=hO.ext hE2
       have hz6:=(hz.extB hE2).grown hg6 (hOx.blk (hz.extB hE2) (by decide))
       have hR6:=(hR.extB hE2).grown hg6 (hOx.blk (hR.extB hE2) (by decide))
       have hB6:=(hB.extB hE2).grown hg6 (hOx.blk (hB.extB hE2) (by decide))
       have hE6:Ext w1 w6:=Below.trans (hxL.trans hE2) (hb6.mono (by omega))
       go_roundw
       case rel=>exact ⟨i+1,sa',sc',by omega,by go_num,rfl,(by rw [hqs.out];exact hO6),Nat.le_trans (Nat.le_trans hbs hE2.size) hb6.size,hz6,hR6,hB6,hE6⟩
       case measure=>simp [intOf];omega
      ·obtain rfl:i=kk:=by omega
       have i1:¬ ((x3+1+i:Nat):Int)<8:=by omega
       have hIp:=hO.ib.1
       have hpl:=plainQ_length u T.1.2 i
       have hnc:=hnc.ext hxL
       have h1:=h1.ext hxL
       have o1:=o1.ext hxL
       have o2:=o2.ext hxL
       have o3:=o3.ext hxL
       have t3:=t3.ext hxL
       have o4:=o4.ext hxL
       have hE:=hE.trans hxL
       have hpr:∀ W,Sl W a1 n1 j.up→Sl W an nn nc→Ib W sa (2+i) (plainQ u T.1.2 i)→Calls Tryz.prog 11 #[.slice a1 n1 c1, .agg #[.int .i64 (askH t).leap, .int .i64 (askH t).ver, .int .i64 (askH t).mode, .int .i64 (askH t).strat, .int .i64 (askH t).poll, .int .i64 (askH t).prec, .int .u32 (n32 (askH t).rd), .int .u32 (n32 (askH t).rp), .int .u32 (n32 (askH t).id), .int .u64 (n64 (askH t).ref), .int .u64 (n64 (askH t).org), .int .u64 (n64 (askH t).rcv), .int .u64 (n64 (askH t).tx), .slice sa (2+i) sc, .slice none 0 0, .bool false], .slice an nn cn] W (Read2 (protE T.1.1.up (pktQ t u T.1.2 i) nc).1.length (protE T.1.1.up (pktQ t u T.1.2 i) nc).1 (.int .i64 (protE T.1.1.up (pktQ t u T.1.2 i) nc).2) W):=fun W H1 H2 H3=>by
        rw [hupj]
        refine rprotect_any a1 an sa none n1 c1 nn cn (2+i) sc 0 0 (pktQ t u T.1.2 i) j.up nc W H1 hc1 H2 hcn hnnb H3 (by omega) ?_ (Ib.nil _ _) (by omega) (fun f hf=>by cases hf)
        intro f hf
        rcases plainQ_in hf with h|h|h
        ·rw [h];show u.length≤1000000;omega
        ·rw [h];show T.1.2.length≤1000000;omega
        ·rw [h];simp
       have hke:7-T.1.1.ck.length=i:=by have:=hkk.out;omega
       have hqe2:=hqe.out
       rw [if_pos qe,hke] at hqe2
       generalize protE T.1.1.up (pktQ t u T.1.2 i) nc=R at *
       haveI:=hB.blt
       have q0:=hB.cell? 0 rfl
       clear hupj
       go_wp2_with fail
       refine wp_region_vague 13 [[],[0],[0,1],[],[3],[],[3,4,5],[],[0,1,2,3,4,5,6,7],[0,1,2,3,4,5,6,7,8],[0,1,2,3,4,5,6,7,8,9],[0,1,2,3,4,5,6,7,8,9],[0,1,2,3,4,5,6,7,8,9,10],[0,1,2,3,4,5,6,7,8,9,10,11,12]] (by kernel_rfl) (by kernel_rfl) (by kernel_rfl) (by kernel_rfl) ?_;simp only [q8q,q9q,q10q,q11q,q12q,q13q]
       (repeat (refine VD_a ?_;(try simp only [Act.put,q0q,q1q,q2q])))
       (refine VD_vag (fun _ => .agg #[.int .i64 (askH t).leap, .int .i64 (askH t).ver, .int .i64 (askH t).mode, .int .i64 (askH t).strat, .int .i64 (askH t).poll, .int .i64 (askH t).prec, .int .u32 (n32 (askH t).rd), .int .u32 (n32 (askH t).rp), .int .u32 (n32 (askH t).id), .int .u64 (n64 (askH t).ref), .int .u64 (n64 (askH t).org), .int .u64 (n64 (askH t).rcv), .int .u64 (n64 (askH t).tx)]) (fun _ _=>True) (fun _ _ _ _ _=>trivial) (fun us w' hx hf=>⟨rfl,?_⟩) ?_;(unfold gives;simp [go_sem,execOp];refine (hask _).mono ?_;rintro e w1 ⟨rfl,hx1⟩;first|exact ⟨rfl,hx1⟩|simpa using hx1))
       (repeat (refine VD_a ?_;(try simp only [Act.put,q0q,q1q,q2q])))
       (refine VD_vag (fun p => .tuple #[.slice (p 0).1 (R.1.length) (p 0).2, .int .i64 R.2]) (fun p w''=>Sl w'' (p 0).1 (R.1.length) (R.1)∧(R.1.length)≤(p 0).2) (fun p w w' h hx=>⟨h.1.ext hx,h.2⟩) (fun us w' hx hf=>⟨rfl,?_⟩) ?_;(unfold gives;simp [go_sem,execOp];exact vag_read (hpr _ (h1.ext hx) (hnc.ext hx) (hIp.ext hx))))
       (repeat (refine VD_a ?_;(try simp only [Act.put,q0q,q1q,q2q])))
       (refine VD_z ?_;intro us x hx hf;(try simp only [Act.put,q0q,q1q,q2q,wpList_none]);(try simp only [q3q,q4q,or_false,forall_eq_or_imp,forall_eq,q5q,q6q,q7q,false_or,true_and,and_true] at hf);(try simp only [Nat.reduceAdd,Nat.zero_add] at hf ⊢))
       obtain ⟨hS7,hd7⟩:=hf
       obtain ⟨b7,hb7⟩:∃ a,(us 8 0).1=a:=⟨_,rfl⟩
       obtain ⟨d7,hd7e⟩:∃ a,(us 8 0).2=a:=⟨_,rfl⟩
       rw [hb7] at hS7 ⊢
       rw [hd7e] at hd7 ⊢
       clear hb7 hd7e q0 hask
       have hx7:Ext wr (wr.ext x):=Ext.of_ext _ _
       have hR:=hR.extB hx7
       have hz:=hz.extB hx7
       have o1:=o1.ext hx7
       have o2:=o2.ext hx7
       have o3:=o3.ext hx7
       have t3:=t3.ext hx7
       have o4:=o4.ext hx7
       have hE:=hE.trans hx7
       clear hpr hIp hO hnc h1 hB hx7
       generalize wr.ext x=w7 at *
       haveI:=hR.blt
       haveI:=hz.blt
       by_cases qr:R.2=0
       ·have qri:(R.2 != 0)=false:=by rw [bne_eq_false_iff_eq];exact qr
        have er:=Lib.hid (show r=((T.1.1,R.1),0) by rw [← hqe2,if_pos qr])
        clear hqe2 hqe
        go_wp2_with (first
         | (refine wpList_load_arr (RJ6) rfl _ rfl (go) (0) rfl ([.slice b1 x1 d1, .slice b2 x2 d2, .slice b3 x3 d3, .slice b4 x4 d4, .int .i64 T.1.1.net, .int .i64 T.1.1.sent]) ((hz.rd)) (rfl) ?_)
         | (refine wpList_store_arr (RJ6) rfl _ _ rfl (w.heap.size+1) (0) rfl ([.slice b1 x1 d1, .slice b2 x2 d2, .slice b3 x3 d3, .slice b4 x4 d4, .int .i64 T.1.1.net, .int .i64 T.1.1.sent]) rfl (54) _ (hR) (rfl) (by simp) (oC) ?_;intro V hV hMV)
         | fail)
        refine bodyPost_ret (results_arr_tmp2 Tryz.results28 (RJ6) _ _ (w.heap.size+1) (0) ([.slice b1 x1 d1, .slice b2 x2 d2, .slice b3 x3 d3, .slice b4 x4 d4, .int .i64 T.1.1.net, .int .i64 T.1.1.sent]) rfl (hV.rd) (rfl) (.slice b7 R.1.length d7) (.int .i64 0) rfl rfl) rfl ?_
        rw [er.out]
        exact ⟨b1,x1,d1,b2,x2,d2,b3,x3,d3,b4,x4,d4,b7,_,d7,rfl,(o1.mutT hR (by decide) hMV).sl,o1.le.1,(o2.mutT hR (by decide) hMV).sl,o2.le.1,o3.mutNe (fun b o h=>by have:=hb3w b o h;omega) hR (by simp) hMV,k3,t3.mut hR (by decide) hMV,o4.mut hR (by simp) hMV,k4,hS7.mut hR (by simp) hMV,hd7,Below.trans hE (hMV.below (by omega) hE.size)⟩
       ·have qri:(R.2 != 0)=true:=by rw [bne_iff_ne];exact qr
        have er:=Lib.hid (show r=((zeroJ,[]),R.2) by rw [← hqe2,if_neg qr])
        clear hqe2 hqe qr
        go_wp2_with (first
         | (refine wpList_store_arr (RJ6) rfl _ _ rfl (w.heap.size+1) (0) rfl ([.slice none 0 0, .slice none 0 0, .slice none 0 0, .slice none 0 0, .int .i64 0, .int .i64 0]) rfl (54) _ (hR) (rfl) (by simp) (oC) ?_;intro V hV hMV)
         | fail)
        refine bodyPost_ret (results_arr_tmp2 Tryz.results28 (RJ6) _ _ (w.heap.size+1) (0) ([.slice none 0 0, .slice none 0 0, .slice none 0 0, .slice none 0 0, .int .i64 0, .int .i64 0]) rfl (hV.rd) (rfl) (.slice none 0 0) (.int .i64 R.2) rfl rfl) rfl ?_
        rw [er.out]
        exact QuesE.zero _ _ _ (Below.trans hE (hMV.below (by omega) hE.size))
    ·have qei:(T.2 != 0)=true:=by rw [bne_iff_ne];exact qe
     have er:=Lib.hid (show r=((zeroJ,[]),T.2) by rw [← hqe.out,if_neg qe])
     clear hqe hok qe
     go_wp2_with (first
      | (refine wpList_alloc_store (RJ6) rfl rfl _ _ rfl rfl rfl rfl (by simp [Act.put]) ([.slice b1 x1 d1, .slice b2 x2 d2, .slice b3 x3 d3, .slice b4 x4 d4, .int .i64 T.1.1.net, .int .i64 T.1.1.sent]) rfl (by simp) (rfl) (oC) ?_;intro x hz _)
      | (refine wpList_store_arr (RJ6) rfl _ _ rfl (w.heap.size+1) (0) rfl ([.slice none 0 0, .slice none 0 0, .slice none 0 0, .slice none 0 0, .int .i64 0, .int .i64 0]) rfl (54) _ ((hR.extB (show Ext w1 (w1.ext x) from Ext.of_ext _ _))) (rfl) (by simp) (oC) ?_;intro V hV hMV)
      | fail)
     refine bodyPost_ret (results_arr_tmp2 Tryz.results28 (RJ6) _ _ (w.heap.size+1) (0) ([.slice none 0 0, .slice none 0 0, .slice none 0 0, .slice none 0 0, .int .i64 0, .int .i64 0]) rfl (hV.rd) (rfl) (.slice none 0 0) (.int .i64 T.2) rfl rfl) rfl ?_
     rw [er.out]
     have hE:=hE.trans (show Ext w1 (w1.ext x) from Ext.of_ext _ _)
     exact QuesE.zero _ _ _ (Below.trans hE (hMV.below (by omega) hE.size))
   ·have q2i:((nn:Int) != 16)=true:=by rw [bne_iff_ne];omega
    have er:=Lib.hid (show r=((zeroJ,[]),3) by rw [← hr.out];unfold quesJ;rw [if_neg (fun h=>by omega)])
    clear hr q2
    go_wp2_with (first
     | (refine wpList_store_arr (RJ6) rfl _ _ rfl (w.heap.size+1) (0) rfl ([.slice none 0 0, .slice none 0 0, .slice none 0 0, .slice none 0 0, .int .i64 0, .int .i64 0]) rfl (54) _ (hR) (rfl) (by simp) (oC) ?_;intro V hV hMV)
     | fail)
    refine bodyPost_ret (results_arr_tmp2 Tryz.results28 (RJ6) _ _ (w.heap.size+1) (0) ([.slice none 0 0, .slice none 0 0, .slice none 0 0, .slice none 0 0, .int .i64 0, .int .i64 0]) rfl (hV.rd) (rfl) (.slice none 0 0) (.int .i64 3) rfl rfl) rfl ?_
    rw [er.out]
    exact QuesE.zero _ _ _ (Below.trans hE (hMV.below (by omega) hE.size))
  ·have q1i:((nu:Int) != 32)=true:=by rw [bne_iff_ne];omega
   have er:=Lib.hid (show r=((zeroJ,[]),3) by rw [← hr.out];unfold quesJ;rw [if_neg (fun h=>by omega)])
   clear hr q1
   go_wp2_with (first
    | (refine wpList_store_arr (RJ6) rfl _ _ rfl (w.heap.size+1) (0) rfl ([.slice none 0 0, .slice none 0 0, .slice none 0 0, .slice none 0 0, .int .i64 0, .int .i64 0]) rfl (54) _ (hR) (rfl) (by simp) (oC) ?_;intro V hV hMV)
    | fail)
   refine bodyPost_ret (results_arr_tmp2 Tryz.results28 (RJ6) _ _ (w.heap.size+1) (0) ([.slice none 0 0, .slice none 0 0, .slice none 0 0, .slice none 0 0, .int .i64 0, .int .i64 0]) rfl (hV.rd) (rfl) (.slice none 0 0) (.int .i64 3) rfl rfl) rfl ?_
   rw [er.out]
   exact QuesE.zero _ _ _ (Below.trans hE (hMV.below (by omega) hE.size))
end Go.Proofs.YtdmifbfgeeldnaaGreat

/- Layer 22: which jars the laws take. -/
namespace Go.Jar
def lightC (L:List (List UInt8)):Bool:=L.all fun x=>decide (x.length≤200)
def lightJ (j:Jar):Bool:=decide (j.ck.length≤12) && (decide (j.up.length≤60) && (decide (j.dn.length≤60) && (decide (j.last.length≤200) && lightC j.ck)))
theorem lightC_take {L:List (List UInt8)} {i:Nat} {y:List UInt8} (h:L[i]?=some y):lightC (L.take (i+1))=(lightC (L.take i) && decide (y.length≤200)):=by
 unfold lightC
 rw [List.take_add_one,h,List.all_append]
 simp
theorem lightC_no {L:List (List UInt8)} {i:Nat} {y:List UInt8} (h:L[i]?=some y) (hy:¬ y.length≤200):lightC L=false:=by
 unfold lightC
 rw [List.all_eq_false]
 exact ⟨y,List.mem_of_getElem? h,by simpa using hy⟩
theorem lightC_yes {L:List (List UInt8)} (h:lightC L=true):∀ f∈L,f.length≤200:=fun f hf=>by
 unfold lightC at h
 have:=List.all_eq_true.1 h f hf
 simpa using this
end Go.Jar
namespace Go.Proofs.YtdmifbfgeeldnaaGreat
open Go.RowKit Go.Sec Go.Oct Go.Jar BigFrame
def JaR (w:World)(v:Value)(j:Jar):Prop:=∃ a1 n1 c1 a2 n2 c2 a3 n3 c3 a4 n4 c4,v = .agg #[.slice a1 n1 c1, .slice a2 n2 c2, .slice a3 n3 c3, .slice a4 n4 c4, .int .i64 j.net, .int .i64 j.sent] ∧
 Sl w a1 n1 j.up∧n1≤c1∧Sl w a2 n2 j.dn∧n2≤c2∧Bsc w a3 n3 j.ck∧n3≤c3∧Sl w a4 n4 j.last∧n4≤c4
set_option maxHeartbeats 1000000 in
theorem light22_any (j:Jar) (a1 a2 a3 a4:Option Addr)(n1 c1 n2 c2 n3 c3 n4 c4:Nat) (w:World)(h1:Sl w a1 n1 j.up) (h2:Sl w a2 n2 j.dn) (h3:Bsc w a3 n3 j.ck) (h4:Sl w a4 n4 j.last) :
  Calls Tryz.prog 25 #[.agg #[.slice a1 n1 c1, .slice a2 n2 c2, .slice a3 n3 c3, .slice a4 n4 c4, .int .i64 j.net, .int .i64 j.sent]] w fun e w'=>e = .returned (.bool (lightJ j))∧Ext w w':=by
 have l1:=h1.len
 have l2:=h2.len
 have l3:=h3.len
 have l4:=h4.len
 obtain ⟨r,hr⟩:∃ r,lightJ j=r:=⟨_,rfl⟩
 rw [hr]
 replace hr:=Lib.hid hr
 by_cases q1:12<n3
 ·have er:=Lib.hid (show r=false by rw [← hr.out];unfold lightJ;rw [decide_eq_false (by omega)];rfl)
  have i1:(12:Int)<(n3:Int):=by omega
  clear l1 l2 l3 l4
  go_enter Tryz.func25,Tryz.ntmps25
  go_wp2_with fail
  go_ret
  exact ⟨by rw [er.out];rfl,Ext.of_alloc _ _⟩
 have i1:¬ (12:Int)<(n3:Int):=by omega
 by_cases q2:60<n1
 ·have er:=Lib.hid (show r=false by rw [← hr.out];unfold lightJ;rw [decide_eq_false (show ¬ j.up.length≤60 by omega)];simp)
  have i2:(60:Int)<(n1:Int):=by omega
  clear l1 l2 l3 l4
  go_enter Tryz.func25,Tryz.ntmps25
  go_wp2_with fail
  go_ret
  exact ⟨by rw [er.out];rfl,Ext.of_alloc _ _⟩
 have i2:¬ (60:Int)<(n1:Int):=by omega
 by_cases q3:60<n2
 ·have er:=Lib.hid (show r=false by rw [← hr.out];unfold lightJ;rw [decide_eq_false (show ¬ j.dn.length≤60 by omega)];simp)
  have i3:(60:Int)<(n2:Int):=by omega
  clear l1 l2 l3 l4
  go_enter Tryz.func25,Tryz.ntmps25
  go_wp2_with fail
  go_ret
  exact ⟨by rw [er.out];rfl,Ext.of_alloc _ _⟩
 have i3:¬ (60:Int)<(n2:Int):=by omega
 by_cases q4:200<n4
 ·have er:=Lib.hid (show r=false by rw [← hr.out];unfold lightJ;rw [decide_eq_false (show ¬ j.last.length≤200 by omega)];simp)
  have i4:(200:Int)<(n4:Int):=by omega
  clear l1 l2 l3 l4
  go_enter Tryz.func25,Tryz.ntmps25
  go_wp2_with fail
  go_ret
  exact ⟨by rw [er.out];rfl,Ext.of_alloc _ _⟩
 have i4:¬ (200:Int)<(n4:Int):=by omega
 have hr2:=Lib.hid (show r=lightC j.ck by rw [← hr.out];unfold lightJ;rw [decide_eq_true (by omega),decide_eq_true (show j.up.length≤60 by omega),decide_eq_true (show j.dn.length≤60 by omega),decide_eq_true (show j.last.length≤200 by omega)];rfl)
 clear hr
 replace l3:=Lib.hid l3
 clear l1 l2 l4
 go_enter Tryz.func25,Tryz.ntmps25
 go_wp2_with fail
 refine nameW ?_
 intro W hW
 have hE:Ext w W:=by rw [hW];exact eX
 have hB:Blk W w.heap.size 54 [.slice a1 n1 c1, .slice a2 n2 c2, .slice a3 n3 c3, .slice a4 n4 c4, .int .i64 j.net, .int .i64 j.sent]:=by rw [hW];exact bK
 clear hW
 go_loopw [3] (fun v3 wr=>∃ i:Nat,i≤n3∧v3 = .int .i64 i∧Hid (lightC (j.ck.take i)=true)∧Ext W wr) (fun v3 _=>n3-(intOf v3).toNat)
 case atStart=>exact ⟨0,by omega,rfl,Lib.hid rfl,Below.refl _ _⟩
 case round =>
  obtain ⟨i,hi,rfl,hm,hX⟩:=hrel
  have hB:=hB.extB hX
  haveI:=hB.blt
  have f2:wr.cell? ⟨w.heap.size,2,none⟩=some (.slice a3 n3 c3):=hB.cell? 2 rfl
  by_cases hlt:i<n3
  ·have hil:i<j.ck.length:=by have:=l3.out;omega
   have hy:j.ck[i]?=some j.ck[i]:=List.getElem?_eq_getElem hil
   obtain ⟨b0,o0,a',n',c',rfl,hb0,hc0,hc',hS⟩:=(h3.ext (hE.trans hX)).at i hlt
   have hSl:=hS.len
   have k0:(0:Int)≤(i:Int):=by omega
   have k1:(i:Int)<(n3:Int):=by omega
   haveI:=hb0
   by_cases h100:200<n'
   ·have er:=Lib.hid (show r=false by rw [hr2.out,lightC_no hy (by omega)])
    have k2:(200:Int)<(n':Int):=by omega
    clear hy hm hS hSl hil
    go_wp2_with fail
    go_ret
    exact ⟨by rw [er.out];rfl,hE.trans hX⟩
   ·have hm2:=Lib.hid (show lightC (j.ck.take (i+1))=true by rw [lightC_take hy,hm.out,decide_eq_true (by omega)];rfl)
    have k2:¬ (200:Int)<(n':Int):=by omega
    clear hy hm hS hSl hil
    go_wp2_with fail
    go_roundw
    case rel=>exact ⟨i+1,by omega,by go_num,hm2,hX⟩
    case measure=>simp [intOf];omega
  ·obtain rfl:i=n3:=by omega
   have k1:¬ (i:Int)<(i:Int):=by omega
   have er:=Lib.hid (show r=true by have:=hm.out;rw [List.take_of_length_le (by have:=l3.out;omega)] at this;rw [hr2.out,this])
   clear hm
   go_wp2_with fail
   go_ret
   exact ⟨by rw [er.out];rfl,hE.trans hX⟩
end Go.Proofs.YtdmifbfgeeldnaaGreat

/- sectimeworld.Pair, Jar. -/
namespace Go.Jar
open Go.Sha
def upW (s:Nat):List UInt8:=(wbytes s 64).take 32
def dnW (s:Nat):List UInt8:=(wbytes s 64).drop 32
theorem upW_length (s:Nat):(upW s).length=32:=by unfold upW;rw [List.length_take,wbytes_length];omega
theorem dnW_length (s:Nat):(dnW s).length=32:=by unfold dnW;rw [List.length_drop,wbytes_length]
def ckW (s k:Nat):List (List UInt8):=(List.range k).map fun i=>wbytes (s+1000003*(i+1)) 104
theorem ckW_length (s k:Nat):(ckW s k).length=k:=by simp [ckW]
theorem ckW_succ (s k:Nat):ckW s (k+1)=ckW s k++[wbytes (s+1000003*(k+1)) 104]:=by simp [ckW,List.range_succ]
theorem ckW_104 {s k:Nat} {b:List UInt8} (h:b∈ckW s k):b.length=104:=by
 obtain ⟨i,_,rfl⟩:=List.mem_map.1 h
 exact wbytes_length _ _
def jarW (s k:Nat):Jar:=⟨upW s,dnW s,ckW s k,[],1,0⟩
end Go.Jar
namespace Go.Proofs.YtdmifbfgeeldnaaGreat
open Go.RowKit Go.Sec Go.Oct Go.Jar Go.Sha BigFrame
theorem sl_fromJ {w:World} {b0 o0 n ca i:Nat} {l:List UInt8} (h:Sl w (some ⟨b0,o0,none⟩) n l) (hca:n≤ca) (hi:i<n):Sl w (some ⟨b0,o0+i,none⟩) (n-i) (l.drop i):=by
 have:=h.drop ca i hca
 unfold sAdr at this
 rw [if_neg (by omega)] at this
 simpa [addr_add] using this
def PairO (s:Nat) (w:World)(e:Ending) (w':World):Prop:=∃ pb po c,e = .returned (.agg #[.slice (some ⟨pb,po,none⟩) 32 c, .slice (some ⟨pb,po+32,none⟩) 32 (c-32)])∧Own w' 0 (some ⟨pb,po,none⟩) 64 c (wbytes s 64)∧Ext w w'
set_option maxHeartbeats 1000000 in
theorem wpairO_any (s:Nat) {sI:Int} (hs:sI=(s:Int)) (w:World)(hs2:s≤1000000) :
  Calls Tryz.prog 76 #[.int .i64 sI] w (PairO s w):=by
 subst hs
 go_enter Tryz.func76,Tryz.ntmps76
 go_wp2_with fail;(with_reducible refine (wbytes_any s 64 rfl (show (64:Int)=((64:Nat):Int) from rfl) _ (by omega) (by omega)).mono ?_);rintro e w1 ⟨a1,c1,rfl,hO1,hx1⟩
 have hS:=hO1.sl
 have hc:=hO1.le.1
 have hR:=(Blk.new w #[.slice none 0 0, .slice none 0 0] 51).extB hx1
 have hE1:Ext w w1:=(Ext.of_alloc _ _).trans hx1
 have hlt:=hR.lt
 obtain ⟨pb,po,rfl,hpb,_⟩:=hS.at 0 (by omega)
 have j1:(32:Int)≤(c1:Int):=by omega
 have j2:(64:Int)≤(c1:Int):=by omega
 have j3:32<c1:=by omega
 have n32:¬ c1=32:=by omega
 go_wp2
 refine wp_region_vague 5 [[],[0],[],[2],[0,1,2,3],[0,1,2,3,4]] (by kernel_rfl) (by kernel_rfl) (by kernel_rfl) (by kernel_rfl) ?_;simp only [q8q,q9q,q10q,q11q,q12q,q13q]
 (repeat (refine VD_a ?_;(try simp only [Act.put,q0q,q1q,q2q])))
 (refine VD_z ?_;intro us x hx hf;(try simp only [Act.put,q0q,q1q,q2q,wpList_none]);(try simp only [q3q,q4q,or_false,forall_eq_or_imp,forall_eq,q5q,q6q,q7q,false_or,true_and,and_true] at hf);(try simp only [Nat.reduceAdd,Nat.zero_add] at hf ⊢))
 have hxx:Ext w1 (w1.ext x):=Ext.of_ext _ _
 have hR:=hR.extB hxx
 have hO1:=(hO1.ext hxx).mono (Nat.zero_le _)
 have hE1:=hE1.trans hxx
 clear hf hxx
 generalize w1.ext x=W at *
 haveI:=hR.blt
 go_wp2_with (first
  | (refine wpList_store_arr (RPj) rfl _ _ rfl (w.heap.size) (0) rfl ([.slice (some ⟨pb,po,none⟩) 32 c1, .slice (some ⟨pb,po+32,none⟩) 32 (c1-32)]) rfl (51) _ (hR) (rfl) (by simp) (oC) ?_;intro w9 hB9 hM9)
  | fail)
 refine bodyPost_ret (results_arr Tryz.results76 (RPj) _ _ (w.heap.size) (0) ([.slice (some ⟨pb,po,none⟩) 32 c1, .slice (some ⟨pb,po+32,none⟩) 32 (c1-32)]) rfl (hB9.rd) (rfl)) rfl ?_
 exact ⟨_,_,_,rfl,hO1.mutT hR (by decide) hM9,Below.trans hE1 (hM9.below (Nat.le_refl _) hE1.size)⟩
def WJarO (s k:Nat) (w:World)(e:Ending) (w':World):Prop:=∃ a1 d1 a2 d2 b3 d3,e = .returned (.agg #[.slice a1 32 d1, .slice a2 32 d2, .slice b3 k d3, .slice none 0 0, .int .i64 1, .int .i64 0])∧Sl w' a1 32 (upW s)∧32≤d1∧Sl w' a2 32 (dnW s)∧32≤d2∧Bsc w' b3 k (ckW s k)∧k≤d3∧Ext w w'
set_option maxHeartbeats 1000000 in
theorem wjar_any (s:Nat) (n:Int) (k:Nat) {sI:Int} (hs:sI=(s:Int)) (w:World)(hs2:s≤1000000) (hk:n % 9=(k:Int)) :
  Calls Tryz.prog 32 #[.int .i64 sI, .int .i64 n] w (WJarO s k w):=by
 subst hs
 have hw:=fun W=>within_any n 9 W (by omega) (by omega)
 rw [hk] at hw
 have hk9:k<9:=by omega
 clear hk
 go_enter Tryz.func32,Tryz.ntmps32
 go_wp2_with fail
 refine nameC ?_
 intro W hW
 have hE:Ext w W:=by rw [hW];exact eX
 have hR:Blk W w.heap.size 54 [.slice none 0 0, .slice none 0 0, .slice none 0 0, .slice none 0 0, .int .i64 0, .int .i64 0]:=by rw [hW];exact bK
 clear hW
 (with_reducible refine (wpairO_any s rfl W hs2).mono ?_)
 rintro e w1 ⟨pb,po,c,rfl,hO,hx1⟩
 have hE:=hE.trans hx1
 have hR:=hR.extB hx1
 have hlt:=hR.lt
 clear hx1
 go_wp2_with (first
  | (refine wpList_alloc_store (RJ6) rfl rfl _ _ rfl rfl rfl rfl (by simp [Act.put]) ([.slice (some ⟨pb,po,none⟩) 32 c, .slice (some ⟨pb,po+32,none⟩) 32 (c-32), .slice none 0 0, .slice none 0 0, .int .i64 1, .int .i64 0]) rfl (by simp) (rfl) (oC) ?_;intro x hz _)
  | fail)
 have hxx:Ext w1 (w1.ext x):=Ext.of_ext _ _
 have hE:=hE.trans hxx
 have hR:=hR.extB hxx
 have hO:=hO.ext hxx
 obtain ⟨g5,hg5⟩:∃ g,g=w1.heap.size:=⟨_,rfl⟩
 rw [← hg5] at hz hlt ⊢
 clear hxx hg5
 generalize w1.ext x=W at *
 obtain ⟨B,hB⟩:∃ B,B=W.heap.size:=⟨_,rfl⟩
 have hBE:w.heap.size≤B:=by rw [hB];exact hE.size
 have hgB:g5<B:=by rw [hB];exact hz.lt
 go_loopw [6] (fun v6 wr=>∃ (i:Nat) (sa:Option Addr)(sc:Nat),i≤k∧v6 = .int .i64 i∧Blk wr g5 54 [.slice (some ⟨pb,po,none⟩) 32 c, .slice (some ⟨pb,po+32,none⟩) 32 (c-32), .slice sa i sc, .slice none 0 0, .int .i64 1, .int .i64 0]∧OwnB wr B sa i sc (ckW s i)∧B≤wr.heap.size∧Own wr 0 (some ⟨pb,po,none⟩) 64 c (wbytes s 64)∧Blk wr w.heap.size 54 [.slice none 0 0, .slice none 0 0, .slice none 0 0, .slice none 0 0, .int .i64 0, .int .i64 0]∧Ext w wr) (fun v6 _=>k-(intOf v6).toNat)
 case atStart=>exact ⟨0,none,0,by omega,rfl,hz,OwnB.nil _ _,by omega,hO,hR,hE⟩
 case round =>
  clear hz hO hR hE hB
  obtain ⟨i,sa,sc,hi,rfl,hz,hO3,hBs,hO,hR,hE⟩:=hrel
  go_wp2_with fail
  (with_reducible refine (hw _).mono ?_)
  rintro e w2 ⟨rfl,hx2⟩
  have hz:=hz.extB hx2
  have hO3:=hO3.ext hx2
  have hBs:=Nat.le_trans hBs hx2.size
  have hO:=hO.ext hx2
  have hR:=hR.extB hx2
  have hE:=hE.trans hx2
  clear hx2
  haveI:=hz.blt
  have f2:=hz.cell? 2 rfl
  by_cases hlt2:i<k
  ·have i1:(i:Int)<(k:Int):=by omega
   have hmul:(1000003:Int)*((i:Int)+1)≤9000027:=by omega
   have hsI:(s:Int)≤1000000:=by omega
   have hi9:(i:Int)≤8:=by omega
   have hby:=fun V=>wbytes_any (s+1000003*(i+1)) 104 (show (s:Int)+1000003*((i:Int)+1)=((s+1000003*(i+1):Nat):Int) by omega) (show (104:Int)=((104:Nat):Int) from rfl) V (by omega) (by omega)
   have hck:=Lib.hid (ckW_succ s i)
   have hl104:(wbytes (s+1000003*(i+1)) 104).length=104:=wbytes_length _ _
   generalize wbytes (s+1000003*(i+1)) 104=X at *
   go_wp2_with fail
   refine wp_region_vague 9 [[],[0],[],[],[3],[3,4],[2,3,4,5],[2,3,4,5,6],[2,3,4,5,6,7],[0,1,2,3,4,5,6,7,8],[0,1,2,3,4,5,6,7,8,9],[0,1,2,3,4,5,6,7,8,9,10]] (by kernel_rfl) (by kernel_rfl) (by kernel_rfl) (by kernel_rfl) ?_;simp only [q8q,q9q,q10q,q11q,q12q,q13q]
   (repeat (refine VD_a ?_;(try simp only [Act.put,q0q,q1q,q2q])))
   (refine VD_vag (fun p => .slice (p 0).1 (104) (p 0).2) (fun p w''=>Own w'' 0 (p 0).1 (104) (p 0).2 (X)) (fun p w w' h hx=>h.ext hx) (fun us w' hx hf=>⟨rfl,?_⟩) ?_;(unfold gives;simp [go_sem,execOp];exact vag_fresh (Nat.zero_le _) (hby _)))
   (refine VD_vag (fun p => .slice (p 0).1 1 1) (fun p w''=>NewB X w'' (p 0).1) (fun p w w' h hx=>by first|exact h.ext hx|exact ⟨h.1.ext hx,h.2.ext hx⟩|exact ⟨h.1.ext hx,h.2⟩|exact ⟨h.1.ext hx,h.2.1.ext hx,h.2.2.ext hx⟩) (fun us w' hx hf=>⟨rfl,?_⟩) ?_;(unfold gives;simp [go_sem,execOp];exact ⟨fun _=>(some ⟨w'.heap.size,0,none⟩,0),rfl,Ext.of_alloc _ _,NewB.mk (hf _ (List.mem_append_right _ (List.mem_singleton_self _)) rfl) _⟩))
   (refine VD_z ?_;intro us x hx hf;(try simp only [Act.put,q0q,q1q,q2q,wpList_none]);(try simp only [q3q,q4q,or_false,forall_eq_or_imp,forall_eq,q5q,q6q,q7q,false_or,true_and,and_true] at hf);(try simp only [Nat.reduceAdd,Nat.zero_add] at hf ⊢))
   obtain ⟨_,hN⟩:=hf
   obtain ⟨aN,haN⟩:∃ a,(us 8 0).1=a:=⟨_,rfl⟩
   rw [haN] at hN ⊢
   clear haN
   obtain ⟨gn,ga,nn,cc,rfl,hRd,hOn⟩:=hN
   have hxx:Ext w2 (w2.ext x):=Ext.of_ext _ _
   have o3x:=hO3.ext hxx
   have hzx:=hz.extB hxx
   have hRx:=hR.extB hxx
   have hEx:=hE.trans hxx
   have hBx:=Nat.le_trans hBs hxx.size
   have hO:=hO.ext hxx
   clear hO3 hz hR hE hBs hxx f2 hby
   refine wpList_append_one V8 rfl _ _ rfl B sa i sc (ckW s i) rfl gn rfl o3x ga nn cc X hRd hOn.sl hOn.le.1 (Own.inBlk hOn) (by omega) hBx ?_
   intro sa' sc' w6 hO6 hg6 hb6
   have hz6:=hzx.grown hg6 (o3x.blk hzx (by decide))
   have hR6:=hRx.grown hg6 (o3x.blk hRx (by decide))
   have hO:=hO.grownB o3x hg6
   have hE6:Ext w w6:=Below.trans hEx (hb6.mono (by omega))
   have hB6:=Nat.le_trans hBx hb6.size
   haveI:=hz6.blt
   have q2:=hz6.cell? 2 rfl
   have z2:=hz6.free 2
   go_wp2
   have hset:=hz6.set 2 (.slice sa' (i+1) sc')
   have hM:Mut g5 w6 (w6.setCell ⟨g5,2,none⟩ (.slice sa' (i+1) sc')):=(Mut.refl _ _).setCell 2 _
   go_roundw
   case rel=>exact ⟨i+1,sa',sc',by omega,by go_num,hset,(by rw [hck.out];exact hO6.mut hz6 (by decide) (by simp) hM),Nat.le_trans hB6 hM.size,hO.mutT hz6 (by decide) hM,Blk.turn hM hR6 (by omega),Below.trans hE6 (hM.below (by omega) hE6.size)⟩
   case measure=>simp [intOf];omega
  ·obtain rfl:i=k:=by omega
   have i1:¬ (i:Int)<(i:Int):=by omega
   go_wp2_with (first
    | (refine wpList_load_arr (RJ6) rfl _ rfl (g5) (0) rfl ([.slice (some ⟨pb,po,none⟩) 32 c, .slice (some ⟨pb,po+32,none⟩) 32 (c-32), .slice sa i sc, .slice none 0 0, .int .i64 1, .int .i64 0]) (((hz.extB eX).rd)) (rfl) ?_)
    | (refine wpList_store_arr (RJ6) rfl _ _ rfl (w.heap.size) (0) rfl ([.slice (some ⟨pb,po,none⟩) 32 c, .slice (some ⟨pb,po+32,none⟩) 32 (c-32), .slice sa i sc, .slice none 0 0, .int .i64 1, .int .i64 0]) rfl (54) _ ((hR.extB eX)) (rfl) (by simp) (oC) ?_;intro w9 hB9 hM9)
    | fail)
   refine bodyPost_ret (results_arr Tryz.results32 (RJ6) _ _ (w.heap.size) (0) ([.slice (some ⟨pb,po,none⟩) 32 c, .slice (some ⟨pb,po+32,none⟩) 32 (c-32), .slice sa i sc, .slice none 0 0, .int .i64 1, .int .i64 0]) rfl (hB9.rd) (rfl)) rfl ?_
   have hO9:=hO.mutT hR (by decide) hM9
   have hS:=hO9.sl
   have hc:=hO9.le.1
   have o3:=hO3.mut hR (by decide) (by simp) hM9
   exact ⟨_,_,_,_,sa,sc,rfl,hS.take 32 (by omega),by omega,sl_fromJ hS hc (show 32<64 by omega),by omega,o3.bsc,o3.le,Below.trans hE (hM9.below (Nat.le_refl _) hE.size)⟩
end Go.Proofs.YtdmifbfgeeldnaaGreat

/- Layer 22: the jars that the statements draw, as plain functions. No program. -/
namespace Go.Jar
open Go.Sha Go.Pkt Go.Oct Go.Aes Go.Lane
theorem ckW_nodup {s k:Nat} (hs:s<1024) (hk:k≤8):(ckW s k).Nodup:=by
 have h:=cookiesK hs
 unfold offsK at h
 have h:=List.pairwise_map.1 (List.pairwise_append.1 h).1
 unfold ckW List.Nodup
 rw [List.pairwise_map]
 exact h.sublist (List.range_sublist.2 hk)
def ck0 (s:Nat):List UInt8:=wbytes (s+1000003) 104
theorem ck0_length (s:Nat):(ck0 s).length=104:=wbytes_length _ _
theorem ckW_cons (s k:Nat):ckW s (k+1)=ck0 s :: (ckW s (k+1)).tail:=by
 unfold ckW
 rw [List.range_succ_eq_map]
 rfl
theorem nil_ckW {s k:Nat}:([]:List UInt8) ∉ ckW s k:=fun h=>by have:=ckW_104 h;simp at this
theorem jarW_valid {s k:Nat} (hs:s<1024) (hk:k≤8):validJ (jarW s k)=true:=by
 refine validJ_end ?_ (fun b hb=>ckW_104 hb) (ckW_nodup hs hk)
 refine ⟨⟨upW_length s,dnW_length s⟩,?_, .inl rfl,nil_ckW,?_,?_,?_⟩
 ·show (ckW s k).length≤8;rw [ckW_length];exact hk
 ·show (0:Int)≤1;omega
 ·show (0:Int)≤0;omega
 ·show (0:Int)≤1099511627776;omega
def jar1 (s k:Nat):Jar:=⟨upW s,dnW s,(ckW s k).tail,ck0 s,1,1⟩
theorem takeJ_W {s k:Nat} (hs:s<1024) (h1:1≤k) (hk:k≤8):takeJ (jarW s k)=((jar1 s k,ck0 s),0):=by
 obtain ⟨k,rfl⟩:∃ m,k=m+1:=⟨k-1,by omega⟩
 unfold takeJ
 rw [if_pos (jarW_valid hs hk)]
 have hl:(jarW s (k+1)).ck.length=k+1:=ckW_length _ _
 have hn:¬ (jarW s (k+1)).sent=1099511627776:=by show ¬ (0:Int)=1099511627776;omega
 rw [if_neg (by omega),if_neg hn]
 have hh:(jarW s (k+1)).ck.headD []=ck0 s:=by show (ckW s (k+1)).headD []=ck0 s;rw [ckW_cons];rfl
 rw [hh]
 rfl
theorem jar1_valid {s k:Nat} (hs:s<1024) (h1:1≤k) (hk:k≤8):validJ (jar1 s k)=true:=by
 obtain ⟨k,rfl⟩:∃ m,k=m+1:=⟨k-1,by omega⟩
 have hn:=ckW_nodup hs hk
 have hc:=ckW_cons s k
 have hl:=ckW_length s (k+1)
 rw [hc] at hn hl
 rw [List.nodup_cons] at hn
 rw [List.length_cons] at hl
 refine validJ_end ?_ (fun b hb=>ckW_104 (s:=s) (k:=k+1) (List.mem_of_mem_tail hb)) hn.2
 refine ⟨⟨upW_length s,dnW_length s⟩,?_, .inr (ck0_length s),hn.1,?_,?_,?_⟩
 ·show (ckW s (k+1)).tail.length≤8;omega
 ·show (0:Int)≤1;omega
 ·show (0:Int)≤1;omega
 ·show (1:Int)≤1099511627776;omega
theorem szQ {u c:List UInt8} {k:Nat} (hu:u.length=32) (hc:c.length=104) {f:Fld} (h:f∈plainQ u c k):(0≤f.1∧f.1≤65535)∧f.1≠1028∧szN f.2.length≤108∧f.2.length≤104:=by
 rcases plainQ_in h with h|h|h
 ·rw [h];refine ⟨by simp,by simp,?_,?_⟩
  ·show szN u.length≤108;rw [hu];decide
  ·show u.length≤104;omega
 ·rw [h];refine ⟨by simp,by simp,?_,?_⟩
  ·show szN c.length≤108;rw [hc];decide
  ·show c.length≤104;omega
 ·rw [h];refine ⟨by simp,by simp,?_,?_⟩
  ·show szN (List.replicate 104 (0:UInt8)).length≤108;rw [List.length_replicate];decide
  ·show (List.replicate 104 (0:UInt8)).length≤104;rw [List.length_replicate];omega
theorem totQ {u c:List UInt8} (hu:u.length=32) (hc:c.length=104) (k:Nat):totN (plainQ u c k)=36+108*(k+1):=by
 induction k with
 | zero =>
  have e:totN (plainQ u c 0)=szN u.length+szN c.length:=by simp [plainQ,totN]
  rw [e,hu,hc];decide
 | succ k ih =>
  rw [plainQ_succ,totN_snoc,ih]
  show 36+108*(k+1)+szN (List.replicate 104 (0:UInt8)).length=_
  rw [List.length_replicate,show szN 104=108 from by decide]
  omega
theorem fitsQ {u c:List UInt8} (hu:u.length=32) (hc:c.length=104) (t:UInt64) {k:Nat} (hk:k≤7):Fits (pktQ t u c k) 16 where
 h:=askH_ok t
 f1:=fun f hf=>⟨(szQ hu hc hf).1,Nat.le_trans (szQ hu hc hf).2.2.1 (by omega)⟩
 f2:=fun f hf=>by cases hf
 a:=fun f hf=>(szQ hu hc hf).2.1
 n1:=by show (plainQ u c k).length<24;rw [plainQ_length];omega
 n2:=by show 0≤24;omega
 n0:=by omega
 t:=by
  show 48+totN (plainQ u c k)+(8+pad4 16+pad4 (16+totN []))≤1280
  rw [totQ hu hc,show totN []=0 from rfl]
  unfold pad4;omega
 t2:=by show totN []≤1232;rw [show totN []=0 from rfl];omega
def quesX (s k:Nat) (t:UInt64) (u nn:List UInt8):List UInt8:=(protE (upW s) (pktQ t u (ck0 s) (8-k)) nn).1
theorem quesJ_W {s k:Nat} (hs:s<1024) (h1:1≤k) (hk:k≤8) (t:UInt64) {u nn:List UInt8} (hu:u.length=32) (hn:nn.length=16):quesJ (jarW s k) t u nn=((jar1 s k,quesX s k t u nn),0)∧(quesX s k t u nn).length=124+108*(9-k) ∧
  openP (upW s) (quesX s k t u nn)=(⟨askH t,(plainQ u (ck0 s) (8-k)).map padF,[],true⟩,0):=by
 have hf:=fitsQ hu (ck0_length s) t (show 8-k≤7 by omega)
 rw [← hn] at hf
 have hp:=protE_fits (upW_length s) hf
 have hl:(jar1 s k).ck.length=k-1:=by show (ckW s k).tail.length=k-1;rw [List.length_tail,ckW_length]
 have e1:quesX s k t u nn=_:=congrArg Prod.fst hp.1
 refine ⟨?_,?_,?_⟩
 ·unfold quesJ
  rw [if_pos ⟨jarW_valid hs hk,hu,hn⟩,takeJ_W hs h1 hk]
  simp only
  rw [hl,show 7-(k-1)=8-k by omega,if_pos trivial]
  show (if (protE (upW s) (pktQ t u (ck0 s) (8-k)) nn).2=0 then _ else _)=_
  rw [if_pos (by rw [hp.1])]
  rfl
 ·have h3:=hp.2
  have h4:=fits_len hf
  rw [e1]
  show (hdrB (askH t)++bytesF (plainQ u (ck0 s) (8-k))++fldB (1028,guardB nn (sealB (upW s) (pktQ t u (ck0 s) (8-k)) nn))).length=_
  rw [List.length_append,h3]
  have h4:(hdrB (askH t)++bytesF (plainQ u (ck0 s) (8-k))).length=48+totN (plainQ u (ck0 s) (8-k)):=h4
  rw [h4,totQ hu (ck0_length s),hn]
  show 48+(36+108*(8-k+1))+(8+pad4 16+pad4 (16+totN []))=_
  rw [show totN []=0 from rfl]
  unfold pad4
  omega
 ·have h5:=openP_fits (upW_length s) hf
  rw [e1]
  exact h5
end Go.Jar

/- Layer 22: the sanity check. -/
namespace Go.Proofs.YtdmifbfgeeldnaaGreat
open Go.RowKit Go.Sec Go.Oct Go.Jar Go.Pkt Go.Sha BigFrame
def zJ32:List UInt8:=List.replicate 32 0
def zJ16:List UInt8:=List.replicate 16 0
theorem zJ32_len:zJ32.length=32:=by decide
def JarP (s k:Nat) (p:Par) (w:World):Prop:=Sl w (p 0).1 32 (upW s)∧32≤(p 0).2∧Sl w (p 1).1 32 (dnW s)∧32≤(p 1).2∧Bsc w (p 2).1 k (ckW s k)∧k≤(p 2).2
theorem JarP.ext {s k:Nat} {p:Par} {w w':World} (h:JarP s k p w) (hx:Ext w w'):JarP s k p w':=⟨h.1.ext hx,h.2.1,h.2.2.1.ext hx,h.2.2.2.1,h.2.2.2.2.1.ext hx,h.2.2.2.2.2⟩
def JarV (k:Nat) (p:Par):Value := .agg #[.slice (p 0).1 32 (p 0).2, .slice (p 1).1 32 (p 1).2, .slice (p 2).1 k (p 2).2, .slice none 0 0, .int .i64 1, .int .i64 0]
theorem vag_jar {s k:Nat} {w:World} {f:FuncId} {args:Array Value} (h:Calls Tryz.prog f args w (WJarO s k w)):Calls Tryz.prog f args w fun e w''=>∃ v,e = .returned v∧∃ p:Par,v=JarV k p∧Ext w w''∧JarP s k p w'':=by
 refine h.mono ?_
 rintro e w' ⟨a1,d1,a2,d2,b3,d3,rfl,h1,h2,h3,h4,h5,h6,hx⟩
 refine ⟨_,rfl,fun i=>match i with|0=>(a1,d1)|1=>(a2,d2)|_=>(b3,d3),rfl,hx,h1,h2,h3,h4,h5,h6⟩
def QuesP (r:Jar × List UInt8) (n1 n2 n3 n4 n5:Nat) (p:Par) (w:World):Prop:=Sl w (p 0).1 n1 r.1.up∧n1≤(p 0).2∧Sl w (p 1).1 n2 r.1.dn∧n2≤(p 1).2∧Bsc w (p 2).1 n3 r.1.ck∧n3≤(p 2).2∧Typ3 w (p 2).1∧Sl w (p 3).1 n4 r.1.last∧n4≤(p 3).2∧Sl w (p 4).1 n5 r.2∧n5≤(p 4).2
theorem QuesP.ext {r:Jar × List UInt8} {n1 n2 n3 n4 n5:Nat} {p:Par} {w w':World} (h:QuesP r n1 n2 n3 n4 n5 p w) (hx:Ext w w'):QuesP r n1 n2 n3 n4 n5 p w':=by
 obtain ⟨h1,h2,h3,h4,h5,h6,ht,h7,h8,h9,h10⟩:=h
 exact ⟨h1.ext hx,h2,h3.ext hx,h4,h5.ext hx,h6,ht.ext hx,h7.ext hx,h8,h9.ext hx,h10⟩
def QuesV (net sent:Int) (n1 n2 n3 n4 n5:Nat) (p:Par):Value := .tuple #[.agg #[.slice (p 0).1 n1 (p 0).2, .slice (p 1).1 n2 (p 1).2, .slice (p 2).1 n3 (p 2).2, .slice (p 3).1 n4 (p 3).2, .int .i64 net, .int .i64 sent], .slice (p 4).1 n5 (p 4).2, .int .i64 0]
theorem vag_ques {r:Jar × List UInt8} {w:World} {f:FuncId} {args:Array Value} {net sent:Int} {n1 n2 n3 n4 n5:Nat} (h:Calls Tryz.prog f args w (QuesE (r,0) w)) (e1:r.1.up.length=n1) (e2:r.1.dn.length=n2) (e3:r.1.ck.length=n3) (e4:r.1.last.length=n4) (e5:r.2.length=n5) (en:r.1.net=net) (es:r.1.sent=sent) :
  Calls Tryz.prog f args w fun e w''=>∃ v,e = .returned v∧∃ p:Par,v=QuesV net sent n1 n2 n3 n4 n5 p∧Ext w w''∧QuesP r n1 n2 n3 n4 n5 p w'':=by
 refine h.mono ?_
 rintro e w' ⟨b1,m1,d1,b2,m2,d2,b3,m3,d3,b4,m4,d4,b5,m5,d5,rfl,h1,h2,h3,h4,h5,h6,ht,h7,h8,h9,h10,hx⟩
 have l1:m1=n1:=by rw [← e1];exact h1.len.symm
 have l2:m2=n2:=by rw [← e2];exact h3.len.symm
 have l3:m3=n3:=by rw [← e3];exact h5.len.symm
 have l4:m4=n4:=by rw [← e4];exact h7.len.symm
 have l5:m5=n5:=by rw [← e5];exact h9.len.symm
 subst l1 l2 l3 l4 l5
 refine ⟨_,rfl,fun i=>match i with|0=>(b1,d1)|1=>(b2,d2)|2=>(b3,d3)|3=>(b4,d4)|_=>(b5,d5),?_,hx,h1,h2,h3,h4,h5,h6,ht,h7,h8,h9,h10⟩
 subst en es
 rfl
def MoveP (j:Jar) (n1 n2 n3 n4:Nat) (p:Par) (w:World):Prop:=Sl w (p 0).1 n1 j.up∧n1≤(p 0).2∧Sl w (p 1).1 n2 j.dn∧n2≤(p 1).2∧Bsc w (p 2).1 n3 j.ck∧n3≤(p 2).2∧Typ3 w (p 2).1∧Sl w (p 3).1 n4 j.last∧n4≤(p 3).2
def MoveV (net sent:Int) (n1 n2 n3 n4:Nat) (p:Par):Value := .tuple #[.agg #[.slice (p 0).1 n1 (p 0).2, .slice (p 1).1 n2 (p 1).2, .slice (p 2).1 n3 (p 2).2, .slice (p 3).1 n4 (p 3).2, .int .i64 net, .int .i64 sent], .int .i64 0]
set_option maxHeartbeats 400000 in
theorem known22_any (w:World):Calls Tryz.prog 26 #[] w fun e w'=>e = .returned (.bool true)∧Ext w w':=by
 have hmk:=run_make_by U 32 32 (Nat.le_refl _) (by omega)
 have hmk16:=run_make_by U 16 16 (Nat.le_refl _) (by omega)
 simp only [Int.cast_ofNat_Int] at hmk hmk16
 have hwj:=fun W=>wjar_any 1 1 1 (show (1:Int)=((1:Nat):Int) from rfl) W (by omega) (by decide)
 have hq:=quesJ_W (s:=1) (k:=1) (by omega) (by omega) (by omega) 5 (u:=zJ32) (nn:=zJ16) zJ32_len (by decide)
 have hwv:=jar1_valid (s:=1) (k:=1) (by omega) (by omega) (by omega)
 have hqc:∀ (a1 a2 a3 au an:Option Addr)(d1 d2 d3:Nat) (W:World),JarP 1 1 (fun i=>match i with|0=>(a1,d1)|1=>(a2,d2)|_=>(a3,d3)) W→Sl W au 32 zJ32→Sl W an 16 zJ16→Calls Tryz.prog 27 #[.agg #[.slice a1 32 d1, .slice a2 32 d2, .slice a3 1 d3, .slice none 0 0, .int .i64 1, .int .i64 0], .int .u64 5, .slice au 32 32, .slice an 16 16] W (QuesE ((jar1 1 1,quesX 1 1 5 zJ32 zJ16),0) W):=fun a1 a2 a3 au an d1 d2 d3 W ⟨h1,h2,h3,h4,h5,h6⟩ hu hn=>by
  have:=jques_any a1 a2 a3 none au an 32 d1 32 d2 1 d3 0 0 32 32 16 16 (jarW 1 1) 5 zJ32 zJ16 W h1 (by omega) h3 (by omega) h5 h6 (by omega) (fun y hy=>by have:=ckW_104 hy;omega) (Sl.nil _ _) (by omega) hu (Nat.le_refl _) hn (Nat.le_refl _)
  rw [hq.1] at this
  exact this
 go_enter Tryz.func26,Tryz.ntmps26
 go_wp2_with fail
 refine R2.wp_region_vagueZ 9 [[],[],[],[0,1,2],[0,1,2,3],[0,1,2,3,4],[0,1,2,3,4],[0,1,2,3,4],[],[0,1,2,3,4,5,8],[0,1,2,3,4,5,6,8,9],[0,1,2,3,4,5,6,7,8,9,10]] [6,7] (by intro c a d v w h;cases d <;> exact h) (by kernel_rfl) (by kernel_rfl) (by kernel_rfl) (by kernel_rfl) (by kernel_rfl) ?_;simp only [q8q,q9q,q10q,q11q,q12q,q13q]
 (refine R2.VD_vag (JarV 1) (JarP 1 1) (fun p w w' h hx=>h.ext hx) (fun us w' hx hf=>⟨rfl,?_⟩) ?_;(unfold gives;simp [go_sem,execOp];exact vag_jar (hwj _)))
 (repeat (apply R2.VD_der;(case h=>(intro us w' hx hf;obtain ⟨x,rfl⟩:=hx.out;refine ⟨rfl,?_⟩;simp [go_sem,execOp, *];(try simp (disch:=omega) only [q17q,q18q,q19q]);rfl));(try simp only [Act.put,q0q,q1q,q2q])))
 (refine R2.VD_vag (fun p => .slice (p 0).1 (32) (32)) (fun p w''=>Sl w'' (p 0).1 (32) (zJ32)) (fun p w w' h hx=>h.ext hx) (fun us w' hx hf=>⟨rfl,?_⟩) ?_;(unfold gives;simp [go_sem,execOp,hmk];exact ⟨fun _=>(some ⟨w'.heap.size,0,none⟩,0),rfl,Ext.of_alloc _ _,(blk_zeros8 _ _).sl rfl⟩))
 (refine R2.VD_vag (fun p => .slice (p 0).1 (16) (16)) (fun p w''=>Sl w'' (p 0).1 (16) (zJ16)) (fun p w w' h hx=>h.ext hx) (fun us w' hx hf=>⟨rfl,?_⟩) ?_;(unfold gives;simp [go_sem,execOp,hmk16];exact ⟨fun _=>(some ⟨w'.heap.size,0,none⟩,0),rfl,Ext.of_alloc _ _,(blk_zeros8 _ _).sl rfl⟩))
 (refine R2.VD_vag (QuesV 1 1 32 32 0 104 988) (QuesP (jar1 1 1,quesX 1 1 5 zJ32 zJ16) 32 32 0 104 988) (fun p w w' h hx=>h.ext hx) (fun us w' hx hf=>⟨rfl,?_⟩) ?_;(unfold gives;simp [go_sem,execOp];exact vag_ques (hqc _ _ _ _ _ _ _ _ _ (hf _ (List.mem_append_left _ (List.mem_append_left _ (List.mem_append_right _ (List.mem_singleton_self _)))) rfl) (hf _ (List.mem_append_left _ (List.mem_append_right _ (List.mem_singleton_self _))) rfl) (hf _ (List.mem_append_right _ (List.mem_singleton_self _)) rfl)) (upW_length 1) (dnW_length 1) rfl (ck0_length 1) hq.2.1 rfl rfl))
 (repeat (apply R2.VD_der;(case h=>(intro us w' hx hf;obtain ⟨x,rfl⟩:=hx.out;refine ⟨rfl,?_⟩;simp [go_sem,execOp, *];(try simp (disch:=omega) only [q17q,q18q,q19q]);rfl));(try simp only [Act.put,q0q,q1q,q2q])))
 (refine R2.VD_alloc _ ([.slice none 0 0, .slice none 0 0, .slice none 0 0, .slice none 0 0, .int .i64 0, .int .i64 0]) Tryz.zeroValue54 rfl rfl rfl ?_)
 (refine R2.VD_nil ?_;intro us w' hx hf hd;obtain ⟨x,rfl⟩:=hx.out;(try simp only [Act.put,q0q,q1q,q2q,wpList_none]);(try simp only [q3q,q4q,or_false,forall_eq_or_imp,forall_eq,q5q,q6q,q7q,false_or,true_and,and_true] at hf);(try simp only [Nat.reduceAdd,Nat.zero_add] at hf ⊢))
 obtain ⟨-, -, -,hP,g,eg,hgW,hBg⟩:=hf
 simp only [q14q,q15q,q16q]
 rw [eg]
 clear hd eg hqc hwj hmk hmk16
 generalize us 3=q at *
 have hxx:Ext w (w.ext x):=Ext.of_ext _ _
 generalize w.ext x=W at *
 have hwe:wantJ (jar1 1 1)=(8,0):=by unfold wantJ;rw [if_pos hwv];rfl
 have hwa:∀ W',Sl W' (q 0).1 32 (jar1 1 1).up→Sl W' (q 1).1 32 (jar1 1 1).dn→Bsc W' (q 2).1 0 (jar1 1 1).ck→Sl W' (q 3).1 104 (jar1 1 1).last→Calls Tryz.prog 33 #[.agg #[.slice (q 0).1 32 (q 0).2, .slice (q 1).1 32 (q 1).2, .slice (q 2).1 0 (q 2).2, .slice (q 3).1 104 (q 3).2, .int .i64 1, .int .i64 1]] W' fun e w'=>e = .returned (.tuple #[.int .i64 8, .int .i64 0])∧Ext W' w':=fun W' H1 H2 H3 H4=>by
  have:=jwant_any (q 0).1 (q 1).1 (q 2).1 (q 3).1 32 (q 0).2 32 (q 1).2 0 (q 2).2 104 (q 3).2 (jar1 1 1) W' H1 H2 H3 (by omega) (by omega) H4
  rw [hwe] at this
  exact this
 clear hq hwv hwe
 obtain ⟨p1,p2,p3,p4, -, -, -,p7,p8, -, -⟩:=hP
 have hckn:(jar1 1 1).ck=[]:=rfl
 generalize jar1 1 1=J at *
 generalize quesX 1 1 5 zJ32 zJ16=X at *
 haveI:=hBg.blt
 go_wp2_with (first
  | (refine wpList_store_arr (RJ6) rfl _ _ rfl (g) (0) rfl ([.slice (q 0).1 32 (q 0).2, .slice (q 1).1 32 (q 1).2, .slice (q 2).1 0 (q 2).2, .slice (q 3).1 104 (q 3).2, .int .i64 1, .int .i64 1]) rfl (54) _ (hBg) (rfl) (by simp) (oC) ?_;intro V hV hMV)
  | (refine wpList_load_arr (RJ6) rfl _ rfl (g) (0) rfl ([.slice (q 0).1 32 (q 0).2, .slice (q 1).1 32 (q 1).2, .slice (q 2).1 0 (q 2).2, .slice (q 3).1 104 (q 3).2, .int .i64 1, .int .i64 1]) ((show Blk _ _ _ [.slice (q 0).1 32 (q 0).2, .slice (q 1).1 32 (q 1).2, .slice (q 2).1 0 (q 2).2, .slice (q 3).1 104 (q 3).2, .int .i64 1, .int .i64 1] from hV).rd) (rfl) ?_)
  | fail)
 have hB:Blk V g 54 [.slice (q 0).1 32 (q 0).2, .slice (q 1).1 32 (q 1).2, .slice (q 2).1 0 (q 2).2, .slice (q 3).1 104 (q 3).2, .int .i64 1, .int .i64 1]:=hV
 have hEV:Ext w V:=Below.trans hxx (hMV.below hgW hxx.size)
 have p1:=p1.mut hBg (by simp) hMV
 have p3:=p3.mut hBg (by simp) hMV
 have p7:=p7.mut hBg (by simp) hMV
 clear hBg hMV hV hgW hxx hx
 haveI:=hB.blt
 (with_reducible refine (hwa V p1 p3 (by rw [hckn];exact Bsc.nil _ _) p7).mono ?_)
 rintro e w2 ⟨rfl,hx2⟩
 have hB:=hB.extB hx2
 haveI:=hB.blt
 have f2:=hB.cell? 2 rfl
 have f3:=hB.cell? 3 rfl
 go_wp2_with fail
 go_ret
 exact ⟨rfl,hEV.trans hx2⟩
end Go.Proofs.YtdmifbfgeeldnaaGreat

/- sectimeref22.Same of equal jars. -/
namespace Go.Proofs.YtdmifbfgeeldnaaGreat
open Go.RowKit Go.Sec Go.Oct Go.Jar BigFrame
set_option maxHeartbeats 1000000 in
theorem same22_any (a1 a2 a3 a4 b1 b2 b3 b4:Option Addr)(n1 c1 n2 c2 n3 c3 n4 c4 m1 d1 m2 d2 d3 m4 d4:Nat) (j:Jar) (w:World)(h1:Sl w a1 n1 j.up) (h2:Sl w a2 n2 j.dn) (h3:Bsc w a3 n3 j.ck) (h4:Sl w a4 n4 j.last) (g1:Sl w b1 m1 j.up) (g2:Sl w b2 m2 j.dn) (g3:Bsc w b3 n3 j.ck) (g4:Sl w b4 m4 j.last) (hn:n3≤1000000) :
  Calls Tryz.prog 31 #[.agg #[.slice a1 n1 c1, .slice a2 n2 c2, .slice a3 n3 c3, .slice a4 n4 c4, .int .i64 j.net, .int .i64 j.sent], .agg #[.slice b1 m1 d1, .slice b2 m2 d2, .slice b3 n3 d3, .slice b4 m4 d4, .int .i64 j.net, .int .i64 j.sent]] w fun e w'=>e = .returned (.bool true)∧Ext w w':=by
 have s1:=fun W H1 H2=>same_any a1 b1 n1 c1 m1 d1 j.up j.up W H1 H2
 have s2:=fun W H1 H2=>same_any a2 b2 n2 c2 m2 d2 j.dn j.dn W H1 H2
 have s4:=fun W H1 H2=>same_any a4 b4 n4 c4 m4 d4 j.last j.last W H1 H2
 have s3:=fun W H1 H2=>sameLists_any a3 b3 n3 c3 n3 d3 j.ck j.ck W H1 H2 hn
 rw [beq_self_eq_true] at s1 s2 s3 s4
 go_enter Tryz.func31,Tryz.ntmps31
 go_wp2_with fail;(with_reducible refine (s1 _ (h1.ext eX) (g1.ext eX)).mono ?_);rintro e w1 ⟨rfl,hxq⟩;obtain ⟨xq,rfl⟩:=hxq.out;clear hxq
 go_wp2_with fail;(with_reducible refine (s2 _ (h2.ext eX) (g2.ext eX)).mono ?_);rintro e w1 ⟨rfl,hxq⟩;obtain ⟨xq,rfl⟩:=hxq.out;clear hxq
 go_wp2_with fail;(with_reducible refine (s3 _ (h3.bss.ext eX) (g3.bss.ext eX)).mono ?_);rintro e w1 ⟨rfl,hxq⟩;obtain ⟨xq,rfl⟩:=hxq.out;clear hxq
 go_wp2_with fail;(with_reducible refine (s4 _ (h4.ext eX) (g4.ext eX)).mono ?_);rintro e w1 ⟨rfl,hxq⟩;obtain ⟨xq,rfl⟩:=hxq.out;clear hxq
 go_wp2_with fail
 go_ret
 exact ⟨rfl,eX⟩
end Go.Proofs.YtdmifbfgeeldnaaGreat
