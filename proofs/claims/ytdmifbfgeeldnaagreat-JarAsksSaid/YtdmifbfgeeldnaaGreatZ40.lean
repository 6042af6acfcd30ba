/- Lemmas of this claim, several texts joined. -/
import Derived.Test.YtdmifbfgeeldnaaGreatZ2
import Derived.Test.YtdmifbfgeeldnaaGreatZ28
import Derived.Test.YtdmifbfgeeldnaaGreatZ34
import Derived.Test.YtdmifbfgeeldnaaGreatZ39
set_option maxRecDepth 100000
open List renaming setIfInBounds_toArray → q0q, set_cons_succ → q1q, set_cons_zero → q2q, mem_cons → q3q, not_mem_nil → q4q, nil_append → q5q, cons_append → q6q, mem_append → q7q, take_succ_cons → q8q, take_zero → q9q, drop_succ_cons → q10q, drop_zero → q11q, take_nil → q12q, drop_nil → q13q
open Go.IntWalk renaming i64_in → q17q, rem_in → q18q, wrap64_in → q19q
set_option linter.unusedVariables false
set_option linter.unusedSimpArgs false
/- The walks of layer 22 of the document: Copy. -/
namespace Go.Proofs.YtdmifbfgeeldnaaGreat
open Go.RowKit Go.Sec Go.Oct Go.Jar BigFrame
theorem join1_any (a:Option Addr)(n:Nat) (l:List UInt8)(hl:l.length=n) (w:World)(h:Bss w a 1 [l]) (hn:n≤1000000):Calls Tryz.prog 41 #[.slice a 1 1] w (Fresh n l w):=by
 have:=join_any a 1 1 [l] w h (by omega) n (by rw [joinL1];exact hl) (by omega)
 rwa [joinL1] at this
set_option maxHeartbeats 1000000 in
theorem rjcopy_any (a1 a2 a3 a4:Option Addr)(n1 c1 n2 c2 n3 c3 n4 c4:Nat) (j:Jar) (w:World)(h1:Sl w a1 n1 j.up) (m1:n1≤1000000) (h2:Sl w a2 n2 j.dn) (m2:n2≤1000000) (h3:Bsc w a3 n3 j.ck) (hn3:n3≤100000) (hb3:∀ x∈j.ck,x.length≤1000000) (h4:Sl w a4 n4 j.last) (m4:n4≤1000000) :
  Calls Tryz.prog 114 #[.agg #[.slice a1 n1 c1, .slice a2 n2 c2, .slice a3 n3 c3, .slice a4 n4 c4, .int .i64 j.net, .int .i64 j.sent]] w (JarO j n1 n2 n3 n4 w):=by
 have l1:=Lib.hid h1.len
 have l2:=Lib.hid h2.len
 have l3:=Lib.hid h3.len
 have l4:=Lib.hid h4.len
 go_enter Tryz.func114,Tryz.ntmps114
 go_wp2
 obtain ⟨W,hW⟩:∃ W,W=(w.alloc (.cells #[.slice a1 n1 c1, .slice a2 n2 c2, .slice a3 n3 c3, .slice a4 n4 c4, .int .i64 j.net, .int .i64 j.sent] 54)).alloc (.cells #[.slice none 0 0, .slice none 0 0, .slice none 0 0, .slice none 0 0, .int .i64 0, .int .i64 0] 54):=⟨_,rfl⟩
 have hE:Ext w W:=by rw [hW];exact eX
 have hB:Blk W w.heap.size 54 [.slice a1 n1 c1, .slice a2 n2 c2, .slice a3 n3 c3, .slice a4 n4 c4, .int .i64 j.net, .int .i64 j.sent]:=by rw [hW];exact bK
 have hR:Blk W (w.heap.size+1) 54 [.slice none 0 0, .slice none 0 0, .slice none 0 0, .slice none 0 0, .int .i64 0, .int .i64 0]:=by rw [hW];exact bK
 rw [← hW]
 clear hW
 haveI:=hB.blt
 have f0:=hB.cell? 0 rfl
 have f1:W.cell? ⟨w.heap.size,1,none⟩=some (.slice a2 n2 c2):=hB.cell? 1 rfl
 have f3:W.cell? ⟨w.heap.size,3,none⟩=some (.slice a4 n4 c4):=hB.cell? 3 rfl
 have f4:W.cell? ⟨w.heap.size,4,none⟩=some (.int .i64 j.net):=hB.cell? 4 rfl
 have f5:W.cell? ⟨w.heap.size,5,none⟩=some (.int .i64 j.sent):=hB.cell? 5 rfl
 have f1':W.cell? ⟨w.heap.size,0+1,none⟩=some (.slice a2 n2 c2):=hB.cell? 1 rfl
 have g1:=h1.ext hE
 have g2:=h2.ext hE
 have g4:=h4.ext hE
 refine R2.wp_region_vague 21 [[],[0],[0,1],[0,1,2],[0,1,2,3],[],[5],[5,6],[5,6,7],[0,1,2,3,4,5,6,7,8],[0,1,2,3,4,5,6,7,8,9],[],[11],[11,12],[0,1,2,3,4,5,6,7,8,9,11,12,13],[],[15],[],[17],[0,1,2,3,4,5,6,7,8,9,10,11,12,13,14,15,16,17,18],[],[0,1,2,3,4,5,6,7,8,9,10,11,12,13,14,15,16,17,18,19,20]] (by kernel_rfl) (by kernel_rfl) (by kernel_rfl) (by kernel_rfl) ?_;simp only [q8q,q9q,q10q,q11q,q12q,q13q]
 (repeat (apply R2.VD_der;(case h=>(intro us w' hx hf;obtain ⟨x,rfl⟩:=hx.out;refine ⟨rfl,?_⟩;simp [go_sem,execOp, *];(try simp (disch:=omega) only [q17q,q18q,q19q]);rfl));(try simp only [Act.put,q0q,q1q,q2q])))
 (refine R2.VD_vag (fun p => .slice (p 0).1 (1) (1)) (fun p w''=>Bss w'' (p 0).1 (1) ([j.up])) (fun p w w' h hx=>h.ext hx) (fun us w' hx hf=>⟨rfl,?_⟩) ?_;(unfold gives;simp [go_sem,execOp];exact ⟨fun _=>(some ⟨w'.heap.size,0,none⟩,0),rfl,Ext.of_alloc _ _,bss1 (g1.ext hx) _⟩))
 (refine R2.VD_vag (fun p => .slice (p 0).1 (n1) (p 0).2) (fun p w''=>Own w'' 0 (p 0).1 (n1) (p 0).2 (j.up)) (fun p w w' h hx=>h.ext hx) (fun us w' hx hf=>⟨rfl,?_⟩) ?_;(unfold gives;simp [go_sem,execOp];exact vag_fresh (Nat.zero_le _) (join1_any _ n1 j.up l1.out _ (by exact (hf _ (List.mem_append_right _ (List.mem_singleton_self _)) rfl)) m1)))
 (repeat (apply R2.VD_der;(case h=>(intro us w' hx hf;obtain ⟨x,rfl⟩:=hx.out;refine ⟨rfl,?_⟩;simp [go_sem,execOp, *];(try simp (disch:=omega) only [q17q,q18q,q19q]);rfl));(try simp only [Act.put,q0q,q1q,q2q])))
 (refine R2.VD_vag (fun p => .slice (p 0).1 (1) (1)) (fun p w''=>Bss w'' (p 0).1 (1) ([j.dn])) (fun p w w' h hx=>h.ext hx) (fun us w' hx hf=>⟨rfl,?_⟩) ?_;(unfold gives;simp [go_sem,execOp];exact ⟨fun _=>(some ⟨w'.heap.size,0,none⟩,0),rfl,Ext.of_alloc _ _,bss1 (g2.ext hx) _⟩))
 (refine R2.VD_vag (fun p => .slice (p 0).1 (n2) (p 0).2) (fun p w''=>Own w'' 0 (p 0).1 (n2) (p 0).2 (j.dn)) (fun p w w' h hx=>h.ext hx) (fun us w' hx hf=>⟨rfl,?_⟩) ?_;(unfold gives;simp [go_sem,execOp];exact vag_fresh (Nat.zero_le _) (join1_any _ n2 j.dn l2.out _ (by exact (hf _ (List.mem_append_right _ (List.mem_singleton_self _)) rfl)) m2)))
 (repeat (apply R2.VD_der;(case h=>(intro us w' hx hf;obtain ⟨x,rfl⟩:=hx.out;refine ⟨rfl,?_⟩;simp [go_sem,execOp, *];(try simp (disch:=omega) only [q17q,q18q,q19q]);rfl));(try simp only [Act.put,q0q,q1q,q2q])))
 (refine R2.VD_vag (fun p => .slice (p 0).1 (1) (1)) (fun p w''=>Bss w'' (p 0).1 (1) ([j.last])) (fun p w w' h hx=>h.ext hx) (fun us w' hx hf=>⟨rfl,?_⟩) ?_;(unfold gives;simp [go_sem,execOp];exact ⟨fun _=>(some ⟨w'.heap.size,0,none⟩,0),rfl,Ext.of_alloc _ _,bss1 (g4.ext hx) _⟩))
 (refine R2.VD_vag (fun p => .slice (p 0).1 (n4) (p 0).2) (fun p w''=>Own w'' 0 (p 0).1 (n4) (p 0).2 (j.last)) (fun p w w' h hx=>h.ext hx) (fun us w' hx hf=>⟨rfl,?_⟩) ?_;(unfold gives;simp [go_sem,execOp];exact vag_fresh (Nat.zero_le _) (join1_any _ n4 j.last l4.out _ (by exact (hf _ (List.mem_append_right _ (List.mem_singleton_self _)) rfl)) m4)))
 (repeat (apply R2.VD_der;(case h=>(intro us w' hx hf;obtain ⟨x,rfl⟩:=hx.out;refine ⟨rfl,?_⟩;simp [go_sem,execOp, *];(try simp (disch:=omega) only [q17q,q18q,q19q]);rfl));(try simp only [Act.put,q0q,q1q,q2q])))
 (refine R2.VD_alloc _ ([.slice none 0 0, .slice none 0 0, .slice none 0 0, .slice none 0 0, .int .i64 0, .int .i64 0]) Tryz.zeroValue54 rfl rfl rfl ?_)
 (refine R2.VD_nil ?_;intro us w' hx hf hd;obtain ⟨x,rfl⟩:=hx.out;(try simp only [Act.put,q0q,q1q,q2q,wpList_none]);(try simp only [q3q,q4q,or_false,forall_eq_or_imp,forall_eq,q5q,q6q,q7q,false_or,true_and,and_true] at hf);(try simp only [Nat.reduceAdd,Nat.zero_add] at hf ⊢))
 obtain ⟨-,hO1, -,hO2, -,hO4,gO,eg,hgW,hz⟩:=hf
 obtain ⟨b1,hb1⟩:∃ a,(us 4 0).1=a:=⟨_,rfl⟩
 obtain ⟨d1,hd1⟩:∃ a,(us 4 0).2=a:=⟨_,rfl⟩
 rw [hb1,hd1] at hO1 ⊢
 obtain ⟨b2,hb2⟩:∃ a,(us 9 0).1=a:=⟨_,rfl⟩
 obtain ⟨d2,hd2⟩:∃ a,(us 9 0).2=a:=⟨_,rfl⟩
 rw [hb2,hd2] at hO2 ⊢
 obtain ⟨b4,hb4⟩:∃ a,(us 14 0).1=a:=⟨_,rfl⟩
 obtain ⟨d4,hd4⟩:∃ a,(us 14 0).2=a:=⟨_,rfl⟩
 rw [hb4,hd4] at hO4 ⊢
 rw [eg]
 have hxx:Ext W (W.ext x):=Ext.of_ext _ _
 have hlt:=hB.lt
 have hltR:=hR.lt
 have hB:=hB.extB hxx
 have hR:=hR.extB hxx
 have hgE:=Nat.le_trans hE.size hgW
 have hne1:w.heap.size≠gO:=by omega
 have hne2:w.heap.size+1≠gO:=by omega
 have hE:=hE.trans hxx
 clear hb1 hd1 hb2 hd2 hb4 hd4 eg hd hxx f0 f1 f1' f3 f4 f5 g1 g2 g4 hlt hltR hgW
 generalize W.ext x=W1 at *
 haveI:=hz.blt
 go_wp2_with (first
  | (refine wpList_store_arr (RJ6) rfl _ _ rfl (gO) (0) rfl ([.slice b1 n1 d1, .slice b2 n2 d2, .slice none 0 0, .slice b4 n4 d4, .int .i64 j.net, .int .i64 j.sent]) rfl (54) _ (hz) (rfl) (by simp) (oC) ?_;intro V hV hMV)
  | fail)
 have o1:=hO1.mutT hz (by decide) hMV
 have o2:=hO2.mutT hz (by decide) hMV
 have o4:=hO4.mutT hz (by decide) hMV
 have hB:=Blk.turn hMV hB hne1
 have hR:=Blk.turn hMV hR hne2
 have hE:Ext w V:=Below.trans hE (hMV.below hgE hE.size)
 have hz:Blk V gO 54 [.slice b1 n1 d1, .slice b2 n2 d2, .slice none 0 0, .slice b4 n4 d4, .int .i64 j.net, .int .i64 j.sent]:=hV
 clear hV hMV hO1 hO2 hO4
 obtain ⟨B,hBe⟩:∃ B,B=V.heap.size:=⟨_,rfl⟩
 have hwB:w.heap.size≤B:=by rw [hBe];exact hE.size
 have hBV:B≤V.heap.size:=by omega
 clear hBe
 go_loopw [4] (fun v4 wr=>∃ (k:Nat) (sa:Option Addr)(sc:Nat),k≤n3∧v4 = .int .i64 k∧Blk wr gO 54 [.slice b1 n1 d1, .slice b2 n2 d2, .slice sa k sc, .slice b4 n4 d4, .int .i64 j.net, .int .i64 j.sent]∧OwnB wr B sa k sc (j.ck.take k)∧B≤wr.heap.size∧Own wr 0 b1 n1 d1 j.up∧Own wr 0 b2 n2 d2 j.dn∧Own wr 0 b4 n4 d4 j.last∧Blk wr w.heap.size 54 [.slice a1 n1 c1, .slice a2 n2 c2, .slice a3 n3 c3, .slice a4 n4 c4, .int .i64 j.net, .int .i64 j.sent]∧Blk wr (w.heap.size+1) 54 [.slice none 0 0, .slice none 0 0, .slice none 0 0, .slice none 0 0, .int .i64 0, .int .i64 0]∧Ext w wr) (fun v4 _=>n3-(intOf v4).toNat)
 case atStart=>exact ⟨0,none,0,Nat.zero_le _,rfl,hz,OwnB.nil _ _,hBV,o1,o2,o4,hB,hR,hE⟩
 case round =>
  clear hz hBV o1 o2 o4 hB hR hE
  obtain ⟨k,sa,sc,hk,rfl,hz,o3,hBs,o1,o2,o4,hB,hR,hE⟩:=hrel
  haveI:=hz.blt
  haveI:=hB.blt
  have f2:wr.cell? ⟨gO,2,none⟩=some (.slice sa k sc):=hz.cell? 2 rfl
  have g2:wr.cell? ⟨w.heap.size,2,none⟩=some (.slice a3 n3 c3):=hB.cell? 2 rfl
  by_cases hlt2:k<n3
  ·have hk0:(0:Int)≤(k:Int):=by omega
   have hkn:(k:Int)<(n3:Int):=by omega
   obtain ⟨b0,o0,a',n',c',rfl,hb0,hcell,hc',hS⟩:=(h3.ext hE).at k hlt2
   have hkL:k<j.ck.length:=by have:=l3.out;omega
   have hts:=Lib.hid (show j.ck.take (k+1)=j.ck.take k++[j.ck[k]] from List.take_succ_eq_append_getElem hkL)
   have hbx:=hb3 _ (List.getElem_mem hkL)
   generalize j.ck[k]=X at *
   have hXl:=Lib.hid hS.len
   have hn':n'≤1000000:=by have:=hXl.out;omega
   haveI:=hb0
   go_wp2_with fail
   refine wp_region_vague 10 [[],[0],[],[2],[],[2,3,4],[2,3,4,5],[2,3,4,5,6],[2,3,4,5,6,7],[2,3,4,5,6,7,8],[0,1,2,3,4,5,6,7,8,9],[0,1,2,3,4,5,6,7,8,9,10],[0,1,2,3,4,5,6,7,8,9,10,11]] (by kernel_rfl) (by kernel_rfl) (by kernel_rfl) (by kernel_rfl) ?_;simp only [q8q,q9q,q10q,q11q,q12q,q13q]
   (repeat (refine VD_a ?_;(try simp only [Act.put,q0q,q1q,q2q])))
   (refine VD_vag (fun p => .slice (p 0).1 (1) (1)) (fun p w''=>Bss w'' (p 0).1 (1) ([X])) (fun p w w' h hx=>h.ext hx) (fun us w' hx hf=>⟨rfl,?_⟩) ?_;(unfold gives;simp [go_sem,execOp];exact ⟨fun _=>(some ⟨w'.heap.size,0,none⟩,0),rfl,Ext.of_alloc _ _,bss1 (hS.ext hx) _⟩))
   (refine VD_vag (fun p => .slice (p 0).1 (n') (p 0).2) (fun p w''=>Own w'' 0 (p 0).1 (n') (p 0).2 (X)) (fun p w w' h hx=>h.ext hx) (fun us w' hx hf=>⟨rfl,?_⟩) ?_;(unfold gives;simp [go_sem,execOp];exact vag_fresh (Nat.zero_le _) (join1_any _ n' X hXl.out _ (by exact (hf _ (List.mem_append_right _ (List.mem_singleton_self _)) rfl)) hn')))
   (refine VD_vag (fun p => .slice (p 0).1 1 1) (fun p w''=>NewB X w'' (p 0).1) (fun p w w' h hx=>by first|exact h.ext hx|exact ⟨h.1.ext hx,h.2.ext hx⟩|exact ⟨h.1.ext hx,h.2⟩|exact ⟨h.1.ext hx,h.2.1.ext hx,h.2.2.ext hx⟩) (fun us w' hx hf=>⟨rfl,?_⟩) ?_;(unfold gives;simp [go_sem,execOp];exact ⟨fun _=>(some ⟨w'.heap.size,0,none⟩,0),rfl,Ext.of_alloc _ _,NewB.mk (hf _ (List.mem_append_right _ (List.mem_singleton_self _)) rfl) _⟩))
   (refine VD_z ?_;intro us x hx hf;(try simp only [Act.put,q0q,q1q,q2q,wpList_none]);(try simp only [q3q,q4q,or_false,forall_eq_or_imp,forall_eq,q5q,q6q,q7q,false_or,true_and,and_true] at hf);(try simp only [Nat.reduceAdd,Nat.zero_add] at hf ⊢))
   obtain ⟨-, -,hN⟩:=hf
   obtain ⟨aN,haN⟩:∃ a,(us 9 0).1=a:=⟨_,rfl⟩
   rw [haN] at hN ⊢
   clear haN
   obtain ⟨gn,ga,nn,cc,rfl,hRd,hOn⟩:=hN
   have hxx:Ext wr (wr.ext x):=Ext.of_ext _ _
   have o3x:=o3.ext hxx
   have hzx:=hz.extB hxx
   have hRx:=hR.extB hxx
   have hBx1:=hB.extB hxx
   have hEx:=hE.trans hxx
   have hBx:=Nat.le_trans hBs hxx.size
   have o1:=o1.ext hxx
   have o2:=o2.ext hxx
   have o4:=o4.ext hxx
   clear o3 hz hR hE hBs hxx f2 g2 hB
   refine wpList_append_one V8 rfl _ _ rfl B sa k sc _ rfl gn rfl o3x ga nn cc X hRd hOn.sl hOn.le.1 (Own.inBlk hOn) (by omega) hBx ?_
   intro sa' sc' w6 hO6 hg6 hb6
   have hz6:=hzx.grown hg6 (o3x.blk hzx (by decide))
   have hR6:=hRx.grown hg6 (o3x.blk hRx (by decide))
   have hB6b:=hBx1.grown hg6 (o3x.blk hBx1 (by decide))
   have o1:=o1.grownB o3x hg6
   have o2:=o2.grownB o3x hg6
   have o4:=o4.grownB o3x hg6
   have hE6:Ext w w6:=Below.trans hEx (hb6.mono (by omega))
   have hB6:=Nat.le_trans hBx hb6.size
   haveI:=hz6.blt
   have q2:=hz6.cell? 2 rfl
   have z2:=hz6.free 2
   go_wp2
   have hset:=hz6.set 2 (.slice sa' (k+1) sc')
   have hM:Mut gO w6 (w6.setCell ⟨gO,2,none⟩ (.slice sa' (k+1) sc')):=(Mut.refl _ _).setCell 2 _
   go_roundw
   case rel=>exact ⟨k+1,sa',sc',by omega,by go_num,hset,by rw [hts.out];exact hO6.mut hz6 (by decide) (by simp) hM,Nat.le_trans hB6 hM.size,o1.mutT hz6 (by decide) hM,o2.mutT hz6 (by decide) hM,o4.mutT hz6 (by decide) hM,Blk.turn hM hB6b hne1,Blk.turn hM hR6 hne2,Below.trans hE6 (hM.below (by omega) hE6.size)⟩
   case measure=>simp [intOf];omega
  ·obtain rfl:k=n3:=by omega
   have hkn:¬ (k:Int)<(k:Int):=by omega
   rw [List.take_of_length_le (by have:=l3.out;omega)] at o3
   go_wp2_with (first
    | (refine wpList_load_arr (RJ6) rfl _ rfl (gO) (0) rfl ([.slice b1 n1 d1, .slice b2 n2 d2, .slice sa k sc, .slice b4 n4 d4, .int .i64 j.net, .int .i64 j.sent]) (hz.rd) (rfl) ?_)
    | (refine wpList_store_arr (RJ6) rfl _ _ rfl (w.heap.size+1) (0) rfl ([.slice b1 n1 d1, .slice b2 n2 d2, .slice sa k sc, .slice b4 n4 d4, .int .i64 j.net, .int .i64 j.sent]) rfl (54) _ (hR) (rfl) (by simp) (oC) ?_;intro w9 hB9 hM9)
    | fail)
   refine bodyPost_ret (results_arr Tryz.results114 (RJ6) _ _ (w.heap.size+1) (0) ([.slice b1 n1 d1, .slice b2 n2 d2, .slice sa k sc, .slice b4 n4 d4, .int .i64 j.net, .int .i64 j.sent]) rfl (hB9.rd) (rfl)) rfl ?_
   have hEz:Ext w w9:=Below.trans hE (hM9.below (by omega) hE.size)
   exact ⟨b1,d1,b2,d2,sa,sc,b4,d4,rfl,o1.mutT hR (by decide) hM9,o2.mutT hR (by decide) hM9,⟨B,hwB,Nat.le_trans hBs hM9.size,o3.mut hR (by decide) (by simp) hM9⟩,o4.mutT hR (by decide) hM9,hEz⟩
end Go.Proofs.YtdmifbfgeeldnaaGreat

/- The walks of layer 22 of the document: Put. -/
namespace Go.Jar
theorem addOne_small (j:Jar) (b:List UInt8)(h:j.ck.length≤100000):(addOne j b).ck.length≤100000:=by
 unfold addOne
 split
 ·rename_i h1;simp only [List.length_append,List.length_singleton];omega
 ·exact h
theorem addJ_small {n:Nat} (j:Jar) (l:List (List UInt8)) (hn:j.ck.length=n) (h:n≤100000):(addJ j l).ck.length≤100000:=by
 subst hn
 unfold addJ
 induction l generalizing j with
 | nil=>exact h
 | cons b l ih=>rw [List.foldl_cons];exact ih _ (addOne_small j b h)
theorem allC_no {L:List (List UInt8)} {x:List UInt8} (hx:x∈L) (h:¬ x.length=104):allC L=false:=by
 unfold allC
 rw [List.all_eq_false]
 exact ⟨x,hx,by simpa using h⟩
theorem allC_yes {L:List (List UInt8)} (h:∀ x∈L,x.length=104):allC L=true:=by
 unfold allC
 rw [List.all_eq_true]
 exact fun x hx=>by simpa using h x hx
end Go.Jar
namespace Go.Proofs.YtdmifbfgeeldnaaGreat
open Go.RowKit Go.Sec Go.Oct Go.Jar BigFrame
set_option maxHeartbeats 2000000 in
theorem rjput_any (a1 a2 a3 a4 a:Option Addr)(n1 c1 n2 c2 n3 c3 n4 c4 n c:Nat) (j:Jar) (L:List (List UInt8)) (w:World)(h1:Sl w a1 n1 j.up) (m1:n1≤1000000) (h2:Sl w a2 n2 j.dn) (m2:n2≤1000000) (h3:Bsc w a3 n3 j.ck) (hc3:n3≤c3) (hn3:n3≤100000) (hb3:∀ x∈j.ck,x.length≤1000000) (h4:Sl w a4 n4 j.last) (m4:n4≤1000000)
  (hL:Bsc w a n L) (hnn:n≤100000) (hbL:∀ x∈L,x.length≤1000000) :
  Calls Tryz.prog 74 #[.agg #[.slice a1 n1 c1, .slice a2 n2 c2, .slice a3 n3 c3, .slice a4 n4 c4, .int .i64 j.net, .int .i64 j.sent], .slice a n c] w (JarE (putJ j L) w):=by
 have hLl:=Lib.hid hL.len
 have hl3:=Lib.hid h3.len
 have hv:=fun W H1 H2 H3 H4=>rjvalid_any a1 a2 a3 a4 n1 c1 n2 c2 n3 c3 n4 c4 j W H1 H2 H3 hc3 (by omega) H4
 have hcl:=fun W H1 H2 H3 H4=>rjcopy_any a1 a2 a3 a4 n1 c1 n2 c2 n3 c3 n4 c4 j W H1 m1 H2 m2 H3 hn3 hb3 H4 m4
 obtain ⟨r,hr⟩:∃ r,putJ j L=r:=⟨_,rfl⟩
 rw [hr]
 replace hr:=Lib.hid hr
 go_enter Tryz.func74,Tryz.ntmps74
 go_wp2_with (first
  | (refine wpList_load_arr (RJ6) rfl _ rfl (w.heap.size) (0) rfl ([.slice a1 n1 c1, .slice a2 n2 c2, .slice a3 n3 c3, .slice a4 n4 c4, .int .i64 j.net, .int .i64 j.sent]) (((Blk.new w #[.slice a1 n1 c1, .slice a2 n2 c2, .slice a3 n3 c3, .slice a4 n4 c4, .int .i64 j.net, .int .i64 j.sent] 54).alloc _).rd) (rfl) ?_)
  | fail)
 refine nameC ?_
 intro W hW
 have hE:Ext w W:=by rw [hW];exact eX
 have hB:Blk W w.heap.size 54 [.slice a1 n1 c1, .slice a2 n2 c2, .slice a3 n3 c3, .slice a4 n4 c4, .int .i64 j.net, .int .i64 j.sent]:=by rw [hW];exact bK
 have hR:Blk W (w.heap.size+1) 54 [.slice none 0 0, .slice none 0 0, .slice none 0 0, .slice none 0 0, .int .i64 0, .int .i64 0]:=by rw [hW];exact bK
 clear hW
 (with_reducible refine (hv _ (h1.ext hE) (h2.ext hE) (h3.ext hE) (h4.ext hE)).mono ?_)
 rintro e w0 ⟨rfl,hx0⟩
 have hE:=hE.trans hx0
 have hB:=hB.extB hx0
 have hR:=hR.extB hx0
 clear hx0 hv
 haveI:=hB.blt
 haveI:=hR.blt
 cases q:validJ j
 ·have er:=Lib.hid (show r=(zeroJ,3) by rw [← hr.out];unfold putJ;rw [q];rfl)
  clear hr q
  go_wp2_with (first
   | (refine wpList_store_arr (RJ6) rfl _ _ rfl (w.heap.size+1) (0) rfl ([.slice none 0 0, .slice none 0 0, .slice none 0 0, .slice none 0 0, .int .i64 0, .int .i64 0]) rfl (54) _ (hR) (rfl) (by simp) (oC) ?_;intro V hV hMV)
   | fail)
  refine bodyPost_ret (results_arr_tmp Tryz.results74 (RJ6) _ _ (w.heap.size+1) (0) ([.slice none 0 0, .slice none 0 0, .slice none 0 0, .slice none 0 0, .int .i64 0, .int .i64 0]) rfl (hV.rd) (rfl) (.int .i64 3) rfl) rfl ?_
  rw [er.out]
  exact JarE.zero _ _ _ (Below.trans hE (hMV.below (by omega) hE.size))
 ·go_wp2_with fail
  go_loopw [6] (fun v6 wr=>∃ i:Nat,i≤n∧v6 = .int .i64 i∧Hid (∀ x∈L.take i,x.length=104)∧Ext w0 wr) (fun v6 _=>n-(intOf v6).toNat)
  case atStart=>exact ⟨0,by omega,rfl,Lib.hid (by simp),Ext.refl _⟩
  case round =>
   obtain ⟨i,hi,rfl,hm,hX⟩:=hrel
   have hB:=hB.extB hX
   have hR:=hR.extB hX
   have hE:=hE.trans hX
   haveI:=hB.blt
   haveI:=hR.blt
   by_cases hlt:i<n
   ·obtain ⟨b0,o0,a',n',c',rfl,hb0,hcell,hc',hS⟩:=(hL.ext hE).at i hlt
    have k0:(0:Int)≤(i:Int):=by omega
    have k1:(i:Int)<(n:Int):=by omega
    have hiL:i<L.length:=by have:=hLl.out;omega
    have hts:=Lib.hid (show L.take (i+1)=L.take i++[L[i]] from List.take_succ_eq_append_getElem hiL)
    have hmem:=Lib.hid (List.getElem_mem hiL)
    generalize L[i]=X at *
    have hXl:=hS.len
    haveI:=hb0
    by_cases q1:n'=104
    ·have q1i:((n':Int) != 104)=false:=by rw [bne_eq_false_iff_eq];omega
     have hm2:=Lib.hid (show ∀ x∈L.take (i+1),x.length=104 by
      rw [hts.out]
      intro x hx
      rcases List.mem_append.1 hx with h|h
      ·exact hm.out x h
      ·rw [List.mem_singleton.1 h];omega)
     clear hXl
     replace q1:=Lib.hid q1
     go_wp2_with fail
     go_roundw
     case rel=>exact ⟨i+1,by omega,by go_num,hm2,hX⟩
     case measure=>simp [intOf];omega
    ·have q1i:((n':Int) != 104)=true:=by rw [bne_iff_ne];omega
     have er:=Lib.hid (show r=(zeroJ,3) by rw [← hr.out];unfold putJ;rw [q,allC_no hmem.out (by omega)];rfl)
     clear hr q hXl hcl
     go_wp2_with (first
      | (refine wpList_store_arr (RJ6) rfl _ _ rfl (w.heap.size+1) (0) rfl ([.slice none 0 0, .slice none 0 0, .slice none 0 0, .slice none 0 0, .int .i64 0, .int .i64 0]) rfl (54) _ (hR) (rfl) (by simp) (oC) ?_;intro V hV hMV)
      | fail)
     refine bodyPost_ret (results_arr_tmp Tryz.results74 (RJ6) _ _ (w.heap.size+1) (0) ([.slice none 0 0, .slice none 0 0, .slice none 0 0, .slice none 0 0, .int .i64 0, .int .i64 0]) rfl (hV.rd) (rfl) (.int .i64 3) rfl) rfl ?_
     rw [er.out]
     exact JarE.zero _ _ _ (Below.trans hE (hMV.below (by omega) hE.size))
   ·obtain rfl:i=n:=by omega
    have k1:¬ (i:Int)<(i:Int):=by omega
    have er:=Lib.hid (show r=(addJ j L,0) by
     have:=hm.out
     rw [List.take_of_length_le (by have:=hLl.out;omega)] at this
     rw [← hr.out];unfold putJ;rw [q,allC_yes this];rfl)
    have hR':=hR
    have hE':=hE
    clear hr q hm
    go_wp2_with (first
     | (refine wpList_load_arr (RJ6) rfl _ rfl (w.heap.size) (0) rfl ([.slice a1 n1 c1, .slice a2 n2 c2, .slice a3 n3 c3, .slice a4 n4 c4, .int .i64 j.net, .int .i64 j.sent]) (hB.rd) (rfl) ?_)
     | fail)
    (with_reducible refine (hcl _ (h1.ext hE) (h2.ext hE) (h3.ext hE) (h4.ext hE)).mono ?_)
    rintro e w1 ⟨b1,d1,b2,d2,b3,d3,b4,d4,rfl,o1,o2,⟨B,hB0,hBs,o3⟩,o4,hx1⟩
    have hwB:w.heap.size≤B:=Nat.le_trans hE.size hB0
    have hR:=hR.extB hx1
    have hE:=hE.trans hx1
    have hlt:=hR.lt
    clear hcl hx1 hB hR' hE' hB0
    go_wp2_with (first
     | (refine wpList_alloc_store (RJ6) rfl rfl _ _ rfl rfl rfl rfl (by simp [Act.put]) ([.slice b1 n1 d1, .slice b2 n2 d2, .slice b3 n3 d3, .slice b4 n4 d4, .int .i64 j.net, .int .i64 j.sent]) rfl (by simp) (rfl) (oC) ?_;intro x hz _)
     | fail)
    have hxx:Ext w1 (w1.ext x):=Ext.of_ext _ _
    have hR:=hR.extB hxx
    have hE:=hE.trans hxx
    have o1:=o1.ext hxx
    have o2:=o2.ext hxx
    have o3:=o3.ext hxx
    have o4:=o4.ext hxx
    have hBs:=Nat.le_trans hBs hxx.size
    obtain ⟨gO,hgO⟩:∃ g,g=w1.heap.size:=⟨_,rfl⟩
    rw [← hgO] at hz hlt ⊢
    have hne2:w.heap.size+1≠gO:=by omega
    have hwg:w.heap.size≤gO:=by omega
    clear hxx hgO hlt
    generalize w1.ext x=W1 at *
    have hrest:=fun k=>(addJ_rest j (L.take k)).2.2.1
    go_loopw [8] (fun v8 wr=>∃ (k:Nat) (sa:Option Addr)(sc:Nat) (J:Jar),k≤i∧v8 = .int .i64 k∧Hid (J=addJ j (L.take k))∧Blk wr gO 54 [.slice b1 n1 d1, .slice b2 n2 d2, .slice sa J.ck.length sc, .slice b4 n4 d4, .int .i64 j.net, .int .i64 j.sent]∧OwnB wr B sa J.ck.length sc J.ck∧B≤wr.heap.size∧Own wr 0 b1 n1 d1 j.up∧Own wr 0 b2 n2 d2 j.dn∧Own wr 0 b4 n4 d4 j.last∧Blk wr (w.heap.size+1) 54 [.slice none 0 0, .slice none 0 0, .slice none 0 0, .slice none 0 0, .int .i64 0, .int .i64 0]∧Ext w wr) (fun v8 _=>i-(intOf v8).toNat)
    case atStart=>exact ⟨0,b3,d3,j,Nat.zero_le _,rfl,Lib.hid (by rw [q9q];rfl),(by rw [hl3.out];exact hz),(by rw [hl3.out];exact o3),hBs,o1,o2,o4,hR,hE⟩
    case round =>
     clear hz o3 hBs o1 o2 o4 hR hE
     obtain ⟨k,sa,sc,J,hk,rfl,hJ,hz,o3,hBs,o1,o2,o4,hR,hE⟩:=hrel
     haveI:=hz.blt
     have f2:wr.cell? ⟨gO,2,none⟩=some (.slice sa J.ck.length sc):=hz.cell? 2 rfl
     have f3:wr.cell? ⟨gO,3,none⟩=some (.slice b4 n4 d4):=hz.cell? 3 rfl
     by_cases hlt2:k<i
     ·have hk0:(0:Int)≤(k:Int):=by omega
      have hkn:(k:Int)<(i:Int):=by omega
      obtain ⟨b0,o0,a',n',c',rfl,hb0,hcell,hc',hS⟩:=(hL.ext hE).at k hlt2
      have hkL:k<L.length:=by have:=hLl.out;omega
      have hts:=Lib.hid (show L.take (k+1)=L.take k++[L[k]] from List.take_succ_eq_append_getElem hkL)
      have hbx:=hbL _ (List.getElem_mem hkL)
      generalize L[k]=X at *
      have hXl:=Lib.hid hS.len
      have hn':n'≤1000000:=by have:=hXl.out;omega
      haveI:=hb0
      have hsn:=Lib.hid (show addJ j (L.take (k+1))=addOne J X by rw [hts.out,addJ_snoc,← hJ.out])
      have o3b:=o3.bsc
      have o4s:=o4.sl
      by_cases q0:J.ck.length≤1000000
      ·have ghs:=fun V H1 H2=>rjin_any sa a' J.ck.length sc n' c' J.ck X V H1 q0 H2
       have gsm:=fun V H1 H2=>same_any b4 a' n4 d4 n' c' j.last X V H1 H2
       cases q2:decide (X∈J.ck)
       ·have q2':=of_decide_eq_false q2
        simp only [q2] at ghs
        clear q2
        cases q3:(j.last == X)
        ·simp only [q3] at gsm
         have q3':J.last≠X:=by rw [hJ.out,hrest k];simpa using q3
         clear q3
         go_wp2_with fail
         refine wp_region_vague 24 [[],[0],[],[],[2,3],[2,3,4],[0,1,2,3,4,5],[0,1,2,3,4,5,6],[0,1,2,3,4,5,6,7],[0,1,2,3,4,5,6,7,8],[0,1,2,3,4,5,6,7,8,9],[0,1,2,3,4,5,6,7,8],[0,1,2,3,4,5,6,7,8],[0,1,2,3,4,5,6,7,8,11,12],[0,1,2,3,4,5,6,7,8,11,12,13],[0,1,2,3,4,5,6,7,8,9,10,11,12,13,14],[0,1,2,3,4,5,6,7,8,9,10,11,12,13,14,15],[0,1,2,3,4,5,6,7,8,9,10,11,12,13,14,15,16],[0,1,2,3,4,5,6,7,8,9,10,11,12,13,14,15,16,17],[0,1,2,3,4,5,6,7,8,9,10,11,12,13,14,15,16,17,18],[0,1,2,3,4,5,6,7,8,9,10,11,12,13,14,15,16,17,18,19],[0,1,2,3,4,5,6,7,8,9,10,11,12,13,14,15,16,17,18,19,20],[0,1,2,3,4,5,6,7,8,9,10,11,12,13,14,15,16,17,18,19,20,21],[0,1,2,3,4,5,6,7,8,9,10,11,12,13,14,15,16,17,18,19,20,21,22]] (by kernel_rfl) (by kernel_rfl) (by kernel_rfl) (by kernel_rfl) ?_;simp only [q8q,q9q,q10q,q11q,q12q,q13q]
         (repeat (refine VD_a ?_;(try simp only [Act.put,q0q,q1q,q2q])))
         (refine VD_vag (fun _ => .bool false) (fun _ _=>True) (fun _ _ _ _ _=>trivial) (fun us w' hx hf=>⟨rfl,?_⟩) ?_;(unfold gives;simp [go_sem,execOp];refine (ghs _ (o3b.ext hx) (hS.ext hx)).mono ?_;rintro e w1 ⟨rfl,hx1⟩;first|exact ⟨rfl,hx1⟩|simpa using hx1))
         (repeat (refine VD_a ?_;(try simp only [Act.put,q0q,q1q,q2q])))
         (refine VD_vag (fun _ => .bool false) (fun _ _=>True) (fun _ _ _ _ _=>trivial) (fun us w' hx hf=>⟨rfl,?_⟩) ?_;(unfold gives;simp [go_sem,execOp];refine (gsm _ (o4s.ext hx) (hS.ext hx)).mono ?_;rintro e w1 ⟨rfl,hx1⟩;first|exact ⟨rfl,hx1⟩|simpa using hx1))
         (repeat (refine VD_a ?_;(try simp only [Act.put,q0q,q1q,q2q])))
         (refine VD_z ?_;intro us x hx hf;(try simp only [Act.put,q0q,q1q,q2q,wpList_none]);(try simp only [q3q,q4q,or_false,forall_eq_or_imp,forall_eq,q5q,q6q,q7q,false_or,true_and,and_true] at hf);(try simp only [Nat.reduceAdd,Nat.zero_add] at hf ⊢))
         by_cases q1:J.ck.length<8
         ·have q1i:(J.ck.length:Int)<8:=by omega
          have hJ2:=Lib.hid (show ({ J with ck:=J.ck++[X] }:Jar)=addJ j (L.take (k+1)) by rw [hsn.out];unfold addOne;rw [if_pos ⟨q1,q2',q3'⟩])
          have hxx:Ext wr (wr.ext x):=Ext.of_ext _ _
          have hz:=hz.extB hxx
          have o3:=o3.ext hxx
          have o1:=o1.ext hxx
          have o2:=o2.ext hxx
          have o4:=o4.ext hxx
          have hR:=hR.extB hxx
          have hE:=hE.trans hxx
          have hBs:=Nat.le_trans hBs hxx.size
          have hS:=hS.ext hxx
          have hcell:=(hxx.cell (p:=⟨b0,o0+k,none⟩) hb0.lt).trans hcell
          have hb0':BlkLt b0 (wr.ext x):=⟨Nat.lt_of_lt_of_le hb0.lt hxx.size⟩
          clear f2 f3 o3b o4s gsm ghs hxx q2' q3' hJ hsn hts
          generalize wr.ext x=W3 at *
          haveI:=hz.blt
          haveI:=hb0'
          have f2:W3.cell? ⟨gO,2,none⟩=some (.slice sa J.ck.length sc):=hz.cell? 2 rfl
          go_wp2_with fail
          refine wp_region_vague 9 [[],[0],[],[],[2,3],[2,3,4],[2,3,4,5],[2,3,4,5,6],[2,3,4,5,6,7],[0,1,2,3,4,5,6,7,8],[0,1,2,3,4,5,6,7,8,9],[0,1,2,3,4,5,6,7,8,9,10]] (by kernel_rfl) (by kernel_rfl) (by kernel_rfl) (by kernel_rfl) ?_;simp only [q8q,q9q,q10q,q11q,q12q,q13q]
          (repeat (refine VD_a ?_;(try simp only [Act.put,q0q,q1q,q2q])))
          (refine VD_vag (fun p => .slice (p 0).1 (1) (1)) (fun p w''=>Bss w'' (p 0).1 (1) ([X])) (fun p w w' h hx=>h.ext hx) (fun us w' hx hf=>⟨rfl,?_⟩) ?_;(unfold gives;simp [go_sem,execOp];exact ⟨fun _=>(some ⟨w'.heap.size,0,none⟩,0),rfl,Ext.of_alloc _ _,bss1 (hS.ext hx) _⟩))
          (refine VD_vag (fun p => .slice (p 0).1 (n') (p 0).2) (fun p w''=>Own w'' 0 (p 0).1 (n') (p 0).2 (X)) (fun p w w' h hx=>h.ext hx) (fun us w' hx hf=>⟨rfl,?_⟩) ?_;(unfold gives;simp [go_sem,execOp];exact vag_fresh (Nat.zero_le _) (join1_any _ n' X hXl.out _ (by exact (hf _ (List.mem_append_right _ (List.mem_singleton_self _)) rfl)) hn')))
          (refine VD_vag (fun p => .slice (p 0).1 1 1) (fun p w''=>NewB X w'' (p 0).1) (fun p w w' h hx=>by first|exact h.ext hx|exact ⟨h.1.ext hx,h.2.ext hx⟩|exact ⟨h.1.ext hx,h.2⟩|exact ⟨h.1.ext hx,h.2.1.ext hx,h.2.2.ext hx⟩) (fun us w' hx hf=>⟨rfl,?_⟩) ?_;(unfold gives;simp [go_sem,execOp];exact ⟨fun _=>(some ⟨w'.heap.size,0,none⟩,0),rfl,Ext.of_alloc _ _,NewB.mk (hf _ (List.mem_append_right _ (List.mem_singleton_self _)) rfl) _⟩))
          (refine VD_z ?_;intro us x hx hf;(try simp only [Act.put,q0q,q1q,q2q,wpList_none]);(try simp only [q3q,q4q,or_false,forall_eq_or_imp,forall_eq,q5q,q6q,q7q,false_or,true_and,and_true] at hf);(try simp only [Nat.reduceAdd,Nat.zero_add] at hf ⊢))
          obtain ⟨-, -,hN⟩:=hf
          obtain ⟨aN,haN⟩:∃ a,(us 8 0).1=a:=⟨_,rfl⟩
          rw [haN] at hN ⊢
          clear haN
          obtain ⟨gn,ga,nn,cc,rfl,hRd,hOn⟩:=hN
          have hxx:Ext W3 (W3.ext x):=Ext.of_ext _ _
          have o3x:=o3.ext hxx
          have hzx:=hz.extB hxx
          have hRx:=hR.extB hxx
          have hEx:=hE.trans hxx
          have hBx:=Nat.le_trans hBs hxx.size
          have o1:=o1.ext hxx
          have o2:=o2.ext hxx
          have o4:=o4.ext hxx
          clear o3 hz hR hE hBs hxx f2
          refine wpList_append_one V8 rfl _ _ rfl B sa J.ck.length sc J.ck rfl gn rfl o3x ga nn cc X hRd hOn.sl hOn.le.1 (Own.inBlk hOn) (by omega) hBx ?_
          intro sa' sc' w6 hO6 hg6 hb6
          have hz6:=hzx.grown hg6 (o3x.blk hzx (by decide))
          have hR6:=hRx.grown hg6 (o3x.blk hRx (by decide))
          have o1:=o1.grownB o3x hg6
          have o2:=o2.grownB o3x hg6
          have o4:=o4.grownB o3x hg6
          have hE6:Ext w w6:=Below.trans hEx (hb6.mono (by omega))
          have hB6:=Nat.le_trans hBx hb6.size
          haveI:=hz6.blt
          have q2:=hz6.cell? 2 rfl
          have z2:=hz6.free 2
          go_wp2
          have hset:=hz6.set 2 (.slice sa' (J.ck.length+1) sc')
          have hM:Mut gO w6 (w6.setCell ⟨gO,2,none⟩ (.slice sa' (J.ck.length+1) sc')):=(Mut.refl _ _).setCell 2 _
          go_roundw
          case rel=>exact ⟨k+1,sa',sc',{ J with ck:=J.ck++[X] },by omega,by go_num,hJ2,(by rw [List.length_append];exact hset),(by rw [List.length_append];exact hO6.mut hz6 (by decide) (by simp) hM),Nat.le_trans hB6 hM.size,o1.mutT hz6 (by decide) hM,o2.mutT hz6 (by decide) hM,o4.mutT hz6 (by decide) hM,Blk.turn hM hR6 hne2,Below.trans hE6 (hM.below hwg hE6.size)⟩
          case measure=>simp [intOf];omega
         ·have q1i:¬ (J.ck.length:Int)<8:=by omega
          have hJ2:=Lib.hid (show J=addJ j (L.take (k+1)) by rw [hsn.out];unfold addOne;rw [if_neg (fun h=>q1 h.1)])
          have hxx:Ext wr (wr.ext x):=Ext.of_ext _ _
          go_wp2_with fail
          go_roundw
          case rel=>exact ⟨k+1,sa,sc,J,by omega,by go_num,hJ2,hz.extB hxx,o3.ext hxx,Nat.le_trans hBs hxx.size,o1.ext hxx,o2.ext hxx,o4.ext hxx,hR.extB hxx,hE.trans hxx⟩
          case measure=>simp [intOf];omega
        ·simp only [q3] at gsm
         have q3':J.last=X:=by rw [hJ.out,hrest k];simpa using q3
         clear q3
         go_wp2_with fail
         refine wp_region_vague 24 [[],[0],[],[],[2,3],[2,3,4],[0,1,2,3,4,5],[0,1,2,3,4,5,6],[0,1,2,3,4,5,6,7],[0,1,2,3,4,5,6,7,8],[0,1,2,3,4,5,6,7,8,9],[0,1,2,3,4,5,6,7,8],[0,1,2,3,4,5,6,7,8],[0,1,2,3,4,5,6,7,8,11,12],[0,1,2,3,4,5,6,7,8,11,12,13],[0,1,2,3,4,5,6,7,8,9,10,11,12,13,14],[0,1,2,3,4,5,6,7,8,9,10,11,12,13,14,15],[0,1,2,3,4,5,6,7,8,9,10,11,12,13,14,15,16],[0,1,2,3,4,5,6,7,8,9,10,11,12,13,14,15,16,17],[0,1,2,3,4,5,6,7,8,9,10,11,12,13,14,15,16,17,18],[0,1,2,3,4,5,6,7,8,9,10,11,12,13,14,15,16,17,18,19],[0,1,2,3,4,5,6,7,8,9,10,11,12,13,14,15,16,17,18,19,20],[0,1,2,3,4,5,6,7,8,9,10,11,12,13,14,15,16,17,18,19,20,21],[0,1,2,3,4,5,6,7,8,9,10,11,12,13,14,15,16,17,18,19,20,21,22]] (by kernel_rfl) (by kernel_rfl) (by kernel_rfl) (by kernel_rfl) ?_;simp only [q8q,q9q,q10q,q11q,q12q,q13q]
         (repeat (refine VD_a ?_;(try simp only [Act.put,q0q,q1q,q2q])))
         (refine VD_vag (fun _ => .bool false) (fun _ _=>True) (fun _ _ _ _ _=>trivial) (fun us w' hx hf=>⟨rfl,?_⟩) ?_;(unfold gives;simp [go_sem,execOp];refine (ghs _ (o3b.ext hx) (hS.ext hx)).mono ?_;rintro e w1 ⟨rfl,hx1⟩;first|exact ⟨rfl,hx1⟩|simpa using hx1))
         (repeat (refine VD_a ?_;(try simp only [Act.put,q0q,q1q,q2q])))
         (refine VD_vag (fun _ => .bool true) (fun _ _=>True) (fun _ _ _ _ _=>trivial) (fun us w' hx hf=>⟨rfl,?_⟩) ?_;(unfold gives;simp [go_sem,execOp];refine (gsm _ (o4s.ext hx) (hS.ext hx)).mono ?_;rintro e w1 ⟨rfl,hx1⟩;first|exact ⟨rfl,hx1⟩|simpa using hx1))
         (repeat (refine VD_a ?_;(try simp only [Act.put,q0q,q1q,q2q])))
         (repeat (refine VD_skip (fun us=>rfl) ?_;(try simp only [Act.put,q0q,q1q,q2q])))
         (repeat (refine VD_a ?_;(try simp only [Act.put,q0q,q1q,q2q])))
         (refine VD_z ?_;intro us x hx hf;(try simp only [Act.put,q0q,q1q,q2q,wpList_none]);(try simp only [q3q,q4q,or_false,forall_eq_or_imp,forall_eq,q5q,q6q,q7q,false_or,true_and,and_true] at hf);(try simp only [Nat.reduceAdd,Nat.zero_add] at hf ⊢))
         have hJ2:=Lib.hid (show J=addJ j (L.take (k+1)) by rw [hsn.out];unfold addOne;rw [if_neg (fun h=>h.2.2 q3')])
         have hxx:Ext wr (wr.ext x):=Ext.of_ext _ _
         go_wp2_with fail
         go_roundw
         case rel=>exact ⟨k+1,sa,sc,J,by omega,by go_num,hJ2,hz.extB hxx,o3.ext hxx,Nat.le_trans hBs hxx.size,o1.ext hxx,o2.ext hxx,o4.ext hxx,hR.extB hxx,hE.trans hxx⟩
         case measure=>simp [intOf];omega
       ·have q2':=of_decide_eq_true q2
        simp only [q2] at ghs
        clear q2
        go_wp2_with fail
        refine wp_region_vague 24 [[],[0],[],[],[2,3],[2,3,4],[0,1,2,3,4,5],[0,1,2,3,4,5,6],[0,1,2,3,4,5,6,7],[0,1,2,3,4,5,6,7,8],[0,1,2,3,4,5,6,7,8,9],[0,1,2,3,4,5,6,7,8],[0,1,2,3,4,5,6,7,8],[0,1,2,3,4,5,6,7,8,11,12],[0,1,2,3,4,5,6,7,8,11,12,13],[0,1,2,3,4,5,6,7,8,9,10,11,12,13,14],[0,1,2,3,4,5,6,7,8,9,10,11,12,13,14,15],[0,1,2,3,4,5,6,7,8,9,10,11,12,13,14,15,16],[0,1,2,3,4,5,6,7,8,9,10,11,12,13,14,15,16,17],[0,1,2,3,4,5,6,7,8,9,10,11,12,13,14,15,16,17,18],[0,1,2,3,4,5,6,7,8,9,10,11,12,13,14,15,16,17,18,19],[0,1,2,3,4,5,6,7,8,9,10,11,12,13,14,15,16,17,18,19,20],[0,1,2,3,4,5,6,7,8,9,10,11,12,13,14,15,16,17,18,19,20,21],[0,1,2,3,4,5,6,7,8,9,10,11,12,13,14,15,16,17,18,19,20,21,22]] (by kernel_rfl) (by kernel_rfl) (by kernel_rfl) (by kernel_rfl) ?_;simp only [q8q,q9q,q10q,q11q,q12q,q13q]
        (repeat (refine VD_a ?_;(try simp only [Act.put,q0q,q1q,q2q])))
        (refine VD_vag (fun _ => .bool true) (fun _ _=>True) (fun _ _ _ _ _=>trivial) (fun us w' hx hf=>⟨rfl,?_⟩) ?_;(unfold gives;simp [go_sem,execOp];refine (ghs _ (o3b.ext hx) (hS.ext hx)).mono ?_;rintro e w1 ⟨rfl,hx1⟩;first|exact ⟨rfl,hx1⟩|simpa using hx1))
        (repeat (refine VD_a ?_;(try simp only [Act.put,q0q,q1q,q2q])))
        (repeat (refine VD_skip (fun us=>rfl) ?_;(try simp only [Act.put,q0q,q1q,q2q])))
        (repeat (refine VD_a ?_;(try simp only [Act.put,q0q,q1q,q2q])))
        (repeat (refine VD_skip (fun us=>rfl) ?_;(try simp only [Act.put,q0q,q1q,q2q])))
        (repeat (refine VD_a ?_;(try simp only [Act.put,q0q,q1q,q2q])))
        (refine VD_z ?_;intro us x hx hf;(try simp only [Act.put,q0q,q1q,q2q,wpList_none]);(try simp only [q3q,q4q,or_false,forall_eq_or_imp,forall_eq,q5q,q6q,q7q,false_or,true_and,and_true] at hf);(try simp only [Nat.reduceAdd,Nat.zero_add] at hf ⊢))
        have hJ2:=Lib.hid (show J=addJ j (L.take (k+1)) by rw [hsn.out];unfold addOne;rw [if_neg (fun h=>h.2.1 q2')])
        have hxx:Ext wr (wr.ext x):=Ext.of_ext _ _
        go_wp2_with fail
        go_roundw
        case rel=>exact ⟨k+1,sa,sc,J,by omega,by go_num,hJ2,hz.extB hxx,o3.ext hxx,Nat.le_trans hBs hxx.size,o1.ext hxx,o2.ext hxx,o4.ext hxx,hR.extB hxx,hE.trans hxx⟩
        case measure=>simp [intOf];omega
      ·exfalso
       have h1:=addJ_small j (L.take k) hl3.out hn3
       rw [← hJ.out] at h1
       omega
     ·obtain rfl:k=i:=by omega
      have hkn:¬ (k:Int)<(k:Int):=by omega
      have hJe:J=addJ j L:=by have:=hJ.out;rwa [List.take_of_length_le (by have:=hLl.out;omega)] at this
      go_wp2_with (first
       | (refine wpList_load_arr (RJ6) rfl _ rfl (gO) (0) rfl ([.slice b1 n1 d1, .slice b2 n2 d2, .slice sa J.ck.length sc, .slice b4 n4 d4, .int .i64 j.net, .int .i64 j.sent]) (hz.rd) (rfl) ?_)
       | (refine wpList_store_arr (RJ6) rfl _ _ rfl (w.heap.size+1) (0) rfl ([.slice b1 n1 d1, .slice b2 n2 d2, .slice sa J.ck.length sc, .slice b4 n4 d4, .int .i64 j.net, .int .i64 j.sent]) rfl (54) _ (hR) (rfl) (by simp) (oC) ?_;intro w9 hB9 hM9)
       | fail)
      refine bodyPost_ret (results_arr_tmp Tryz.results74 (RJ6) _ _ (w.heap.size+1) (0) ([.slice b1 n1 d1, .slice b2 n2 d2, .slice sa J.ck.length sc, .slice b4 n4 d4, .int .i64 j.net, .int .i64 j.sent]) rfl (hB9.rd) (rfl) (.int .i64 0) rfl) rfl ?_
      obtain ⟨r1,r2,r3,r4,r5⟩:=addJ_rest j L
      rw [er.out]
      have hEz:Ext w w9:=Below.trans hE (hM9.below (by omega) hE.size)
      have o3z:=o3.mut hR (by decide) (by simp) hM9
      rw [hJe] at o3z
      refine ⟨b1,n1,d1,b2,n2,d2,sa,(addJ j L).ck.length,sc,b4,n4,d4,?_,?_,?_,o3z.bsc,o3z.le,o3z.typ3,?_,hEz⟩
      ·show _=Ending.returned (.tuple #[.agg #[_,_,_,_, .int .i64 (addJ j L).net, .int .i64 (addJ j L).sent],_])
       rw [r4,r5,hJe]
      ·show Own w9 0 b1 n1 d1 (addJ j L).up
       rw [r1];exact o1.mutT hR (by decide) hM9
      ·show Own w9 0 b2 n2 d2 (addJ j L).dn
       rw [r2];exact o2.mutT hR (by decide) hM9
      ·show Own w9 0 b4 n4 d4 (addJ j L).last
       rw [r3];exact o4.mutT hR (by decide) hM9
end Go.Proofs.YtdmifbfgeeldnaaGreat

/- The walks of layer 22: Move. -/
namespace Go.Jar
def moveJ (j:Jar) (k:Int):Jar × Int:=if validJ j then (if k<0 then (zeroJ,4) else (if k=j.net then j else { j with last:=[],net:=k },0)) else (zeroJ,3)
end Go.Jar
namespace Go.Proofs.YtdmifbfgeeldnaaGreat
open Go.RowKit Go.Sec Go.Oct Go.Jar BigFrame
end Go.Proofs.YtdmifbfgeeldnaaGreat

/- The walks of layer 22: Take. -/
namespace Go.Jar
def takeJ (j:Jar):(Jar × List UInt8) × Int :=
 if validJ j then (if j.ck.length=0 then ((zeroJ,[]),10) else if j.sent=1099511627776 then ((zeroJ,[]),7) else (({ j with last:=j.ck.headD [],ck:=j.ck.tail,sent:=j.sent+1 },j.ck.headD []),0)) else ((zeroJ,[]),3)
end Go.Jar
namespace Go.Sec
open Go.RowKit
theorem Bsc.tail {w:World} {b o n:Nat} {y:List UInt8} {L:List (List UInt8)} (h:Bsc w (some ⟨b,o,none⟩) n (y :: L)):Bsc w (some ⟨b,o+1,none⟩) (n-1) L:=by
 have hl:=h.len
 rw [List.length_cons] at hl
 refine ⟨by omega,?_⟩
 rcases h.row with h0|⟨b',o',ha,hb,hc⟩
 ·omega
 ·injection ha with ha
  injection ha with e1 e2
  subst e1 e2
  refine .inr ⟨b,o+1,rfl,hb,fun k hk=>?_⟩
  obtain ⟨a',n',c',h1,h2,h3⟩:=hc (k+1) (by rw [List.length_cons];omega)
  exact ⟨a',n',c',by rw [show o+1+k=o+(k+1) by omega];exact h1,h2,h3⟩
theorem OwnB.base {w:World} {base b o n c:Nat} {a:Option Addr} {L:List (List UInt8)} (h:OwnB w base a n c L) (ha:a=some ⟨b,o,none⟩):base≤b:=by
 obtain ⟨_,xs,h2,_⟩:=h
 rcases h2.2 with ⟨h1,_⟩|⟨g,cap,cur,hv,hb,_⟩
 ·injection h1 with h1;rw [h1] at ha;cases ha
 ·injection hv with h1;rw [h1] at ha;injection ha with ha;injection ha with ha _;omega
theorem Bsc.mutNe {w w':World} {g n:Nat} {t:TypeId} {a:Option Addr} {L:List (List UInt8)} {vs:List Value} (h:Bsc w a n L) (hg:∀ b o,a=some ⟨b,o,none⟩→b≠g) (hB:Blk w g t vs) (hne:∀ v∈vs,∀ x,v ≠ .int .u8 x) (hM:Mut g w w'):Bsc w' a n L:=by
 refine ⟨h.len,h.row.imp id ?_⟩
 rintro ⟨b,off,ha,hb,hc⟩
 refine ⟨b,off,ha,Nat.lt_of_lt_of_le hb hM.size,fun k hk=>?_⟩
 obtain ⟨a',n',c',h1,h3,h2⟩:=hc k hk
 exact ⟨a',n',c',(World.cell?_of_block (hM.block b hb (fun e=>hg b off ha (by injection e)))).trans h1,h3,h2.mut hB hne hM⟩
end Go.Sec
namespace Go.Proofs.YtdmifbfgeeldnaaGreat
open Go.RowKit Go.Sec Go.Oct Go.Jar BigFrame
def TakeE (r:(Jar × List UInt8) × Int) (w:World)(e:Ending) (w':World):Prop:=∃ b1 n1 d1 b2 n2 d2 b3 n3 d3 b4 n4 d4 b5 n5 d5,e = .returned (.tuple #[.agg #[.slice b1 n1 d1, .slice b2 n2 d2, .slice b3 n3 d3, .slice b4 n4 d4, .int .i64 r.1.1.net, .int .i64 r.1.1.sent], .slice b5 n5 d5, .int .i64 r.2]) ∧
 Own w' 0 b1 n1 d1 r.1.1.up∧Own w' 0 b2 n2 d2 r.1.1.dn∧Bsc w' b3 n3 r.1.1.ck∧n3≤d3∧Sl w' b4 n4 r.1.1.last∧n4≤d4∧Own w' 0 b5 n5 d5 r.1.2∧(∀ b o,b3=some ⟨b,o,none⟩→w.heap.size≤b)∧Typ3 w' b3∧Ext w w'
theorem TakeE.zero (w w':World)(e:Int) (hx:Ext w w'):TakeE ((zeroJ,[]),e) w (.returned (.tuple #[.agg #[.slice none 0 0, .slice none 0 0, .slice none 0 0, .slice none 0 0, .int .i64 0, .int .i64 0], .slice none 0 0, .int .i64 e])) w' :=
 ⟨none,0,0,none,0,0,none,0,0,none,0,0,none,0,0,rfl,Own.nil _ _,Own.nil _ _,Bsc.nil _ _,Nat.le_refl _,Sl.nil _ _,Nat.le_refl _,Own.nil _ _,(fun _ _ h=>by cases h),Typ3.none _,hx⟩
set_option maxHeartbeats 2000000 in
theorem jtake_any (a1 a2 a3 a4:Option Addr)(n1 c1 n2 c2 n3 c3 n4 c4:Nat) (j:Jar) (w:World)(h1:Sl w a1 n1 j.up) (m1:n1≤1000000) (h2:Sl w a2 n2 j.dn) (m2:n2≤1000000) (h3:Bsc w a3 n3 j.ck) (hc3:n3≤c3) (hn3:n3≤100000) (hb3:∀ x∈j.ck,x.length≤1000000) (h4:Sl w a4 n4 j.last) (m4:n4≤1000000) (hs0:0≤j.sent∨validJ j=false) :
  Calls Tryz.prog 67 #[.agg #[.slice a1 n1 c1, .slice a2 n2 c2, .slice a3 n3 c3, .slice a4 n4 c4, .int .i64 j.net, .int .i64 j.sent]] w (TakeE (takeJ j) w):=by
 have hl3:=h3.len
 have hv:=fun W H1 H2 H3 H4=>jvalid_any a1 a2 a3 a4 n1 c1 n2 c2 n3 c3 n4 c4 j W H1 H2 H3 hc3 (by omega) H4
 have hcl:=fun W H1 H2 H3 H4=>jclone_any a1 a2 a3 a4 n1 c1 n2 c2 n3 c3 n4 c4 j W H1 m1 H2 m2 H3 hn3 hb3 H4 m4
 obtain ⟨r,hr⟩:∃ r,takeJ j=r:=⟨_,rfl⟩
 rw [hr]
 replace hr:=Lib.hid hr
 have hl3:=h3.len
 go_enter Tryz.func67,Tryz.ntmps67
 go_wp2_with fail
 refine nameC ?_
 intro W hW
 have hE:Ext w W:=by rw [hW];exact eX
 have hB:Blk W w.heap.size 54 [.slice a1 n1 c1, .slice a2 n2 c2, .slice a3 n3 c3, .slice a4 n4 c4, .int .i64 j.net, .int .i64 j.sent]:=by rw [hW];exact bK
 have hR:Blk W (w.heap.size+1) 54 [.slice none 0 0, .slice none 0 0, .slice none 0 0, .slice none 0 0, .int .i64 0, .int .i64 0]:=by rw [hW];exact bK
 clear hW
 (with_reducible refine (hv _ (h1.ext hE) (h2.ext hE) (h3.ext hE) (h4.ext hE)).mono ?_)
 rintro e w0 ⟨rfl,hx0⟩
 have hE:=hE.trans hx0
 have hB:=hB.extB hx0
 have hR:=hR.extB hx0
 clear hx0 hv
 haveI:=hB.blt
 haveI:=hR.blt
 have f1:=hB.cell? 2 rfl
 have f5:=hB.cell? 5 rfl
 cases q:validJ j
 ·have er:=Lib.hid (show r=((zeroJ,[]),3) by rw [← hr.out];unfold takeJ;rw [q];rfl)
  clear hs0 hr
  go_wp2_with (first
   | (refine wpList_store_arr (RJ6) rfl _ _ rfl (w.heap.size+1) (0) rfl ([.slice none 0 0, .slice none 0 0, .slice none 0 0, .slice none 0 0, .int .i64 0, .int .i64 0]) rfl (54) _ (hR) (rfl) (by simp) (oC) ?_;intro V hV hMV)
   | fail)
  refine bodyPost_ret (results_arr_tmp2 Tryz.results67 (RJ6) _ _ (w.heap.size+1) (0) ([.slice none 0 0, .slice none 0 0, .slice none 0 0, .slice none 0 0, .int .i64 0, .int .i64 0]) rfl (hV.rd) (rfl) (.slice none 0 0) (.int .i64 3) rfl rfl) rfl ?_
  rw [er.out]
  exact TakeE.zero _ _ _ (Below.trans hE (hMV.below (by omega) hE.size))
 ·have hhd:headJ j:=by
   have:=q;unfold validJ at this;rw [Bool.and_eq_true] at this;exact of_decide_eq_true this.1
  obtain ⟨-, -, -, -, -,hsn0,hsn1⟩:=hhd
  by_cases q0:n3=0
  ·have er:=Lib.hid (show r=((zeroJ,[]),10) by rw [← hr.out];unfold takeJ;rw [q,if_pos rfl,if_pos (by omega)])
   have q0i:((n3:Int) == 0)=true:=by rw [beq_iff_eq];omega
   clear hs0 hr
   go_wp2_with (first
    | (refine wpList_store_arr (RJ6) rfl _ _ rfl (w.heap.size+1) (0) rfl ([.slice none 0 0, .slice none 0 0, .slice none 0 0, .slice none 0 0, .int .i64 0, .int .i64 0]) rfl (54) _ (hR) (rfl) (by simp) (oC) ?_;intro V hV hMV)
    | fail)
   refine bodyPost_ret (results_arr_tmp2 Tryz.results67 (RJ6) _ _ (w.heap.size+1) (0) ([.slice none 0 0, .slice none 0 0, .slice none 0 0, .slice none 0 0, .int .i64 0, .int .i64 0]) rfl (hV.rd) (rfl) (.slice none 0 0) (.int .i64 10) rfl rfl) rfl ?_
   rw [er.out]
   exact TakeE.zero _ _ _ (Below.trans hE (hMV.below (by omega) hE.size))
  ·have q0i:((n3:Int) == 0)=false:=by rw [beq_eq_false_iff_ne];omega
   by_cases qs:j.sent=1099511627776
   ·have er:=Lib.hid (show r=((zeroJ,[]),7) by rw [← hr.out];unfold takeJ;rw [q,if_pos rfl,if_neg (by omega),if_pos qs])
    clear hs0 q0 hr
    go_wp2_with (first
     | (refine wpList_store_arr (RJ6) rfl _ _ rfl (w.heap.size+1) (0) rfl ([.slice none 0 0, .slice none 0 0, .slice none 0 0, .slice none 0 0, .int .i64 0, .int .i64 0]) rfl (54) _ (hR) (rfl) (by simp) (oC) ?_;intro V hV hMV)
     | fail)
    refine bodyPost_ret (results_arr_tmp2 Tryz.results67 (RJ6) _ _ (w.heap.size+1) (0) ([.slice none 0 0, .slice none 0 0, .slice none 0 0, .slice none 0 0, .int .i64 0, .int .i64 0]) rfl (hV.rd) (rfl) (.slice none 0 0) (.int .i64 7) rfl rfl) rfl ?_
    rw [er.out]
    exact TakeE.zero _ _ _ (Below.trans hE (hMV.below (by omega) hE.size))
   ·have er:=Lib.hid (show r=(({ j with last:=j.ck.headD [],ck:=j.ck.tail,sent:=j.sent+1 },j.ck.headD []),0) by rw [← hr.out];unfold takeJ;rw [q,if_pos rfl,if_neg (by omega),if_neg qs])
    have qsi:(j.sent == 1099511627776)=false:=by rw [beq_eq_false_iff_ne];exact qs
    clear hs0 q0 hr
    go_wp2_with (first
     | (refine wpList_load_arr (RJ6) rfl _ rfl (w.heap.size) (0) rfl ([.slice a1 n1 c1, .slice a2 n2 c2, .slice a3 n3 c3, .slice a4 n4 c4, .int .i64 j.net, .int .i64 j.sent]) (hB.rd) (rfl) ?_)
     | fail)
    (with_reducible refine (hcl _ (h1.ext hE) (h2.ext hE) (h3.ext hE) (h4.ext hE)).mono ?_)
    rintro e w1 ⟨b1,d1,b2,d2,b3,d3,b4,d4,rfl,o1,o2,⟨B,hB0,hBs,o3⟩,o4,hx1⟩
    have hR:=hR.extB hx1
    have hE0:=hE
    have hE:=hE.trans hx1
    have hlt:=hR.lt
    clear hcl hx1 hB f1 f5
    go_wp2_with (first
     | (refine wpList_alloc_store (RJ6) rfl rfl _ _ rfl rfl rfl rfl (by simp [Act.put]) ([.slice b1 n1 d1, .slice b2 n2 d2, .slice b3 n3 d3, .slice b4 n4 d4, .int .i64 j.net, .int .i64 j.sent]) rfl (by simp) (rfl) (oC) ?_;intro x hz _)
     | fail)
    have hxx:Ext w1 (w1.ext x):=Ext.of_ext _ _
    have hR:=hR.extB hxx
    have hE:=hE.trans hxx
    have o1:=o1.ext hxx
    have o2:=o2.ext hxx
    have o3:=o3.ext hxx
    have o4:=o4.ext hxx
    have o3c:=o3.le
    obtain ⟨g5,hg5⟩:∃ g,g=w1.heap.size:=⟨_,rfl⟩
    rw [← hg5] at hz hlt ⊢
    clear hxx hg5
    generalize w1.ext x=W1 at *
    obtain ⟨y,L,hyL⟩:∃ y L,j.ck=y :: L:=by
     cases hj:j.ck with
     | nil=>rw [hj] at hl3;exact absurd hl3.symm (by simpa using fun h=>by simp [h] at q0i)
     | cons y L=>exact ⟨y,L,rfl⟩
    rw [hyL] at o3 hl3
    have hb3w:∀ b o,b3=some ⟨b,o,none⟩→w.heap.size≤b:=fun b o h=>by
     have hb:=o3.base h
     have:=hE0.size
     omega
    obtain ⟨b0,o0,a',n',c',rfl,hb0,hcell,hc',hS⟩:=o3.bsc.at 0 (by rw [List.length_cons] at hl3;omega)
    have hb0w:w.heap.size≤b0:=hb3w _ _ rfl
    clear hb3w hE0
    haveI:=hz.blt
    haveI:=hb0
    have f2:=hz.cell? 2 rfl
    have f3:=hz.cell? 3 rfl
    have f5:=hz.cell? 5 rfl
    have z5:=hz.free 5
    have z2:=hz.free 2
    have z3:=hz.free 3
    have n0:0<n3:=by rw [List.length_cons] at hl3;omega
    have n0i:(0:Int)<(n3:Int):=by omega
    have n1i:(1:Int)≤(n3:Int):=by omega
    have n1d:(1:Int)≤(d3:Int):=by omega
    have hcell0:W1.cell? ⟨b0,o0,none⟩=some (.slice a' n' c'):=by simpa using hcell
    have hsi:j.sent+1≤1099511627776:=by omega
    have hyl:y.length≤1000000:=hb3 y (by rw [hyL];exact List.mem_cons_self ..)
    have hS:Sl W1 a' n' y:=hS
    have hyn:=hS.len
    have hny:n'≤1000000:=by omega
    have hclo:=fun V H=>clone_any a' n' c' y V H (by omega)
    have erf:=er.out
    rw [hyL] at erf
    replace er:=Lib.hid erf
    by_cases hd:d3=1
    ·subst hd
     obtain rfl:n3=1:=by omega
     simp only [Act.put]
     go_region
     all_goals
      go_wp2_with fail
      refine nameW ?_
      intro V hV
      have hM:Mut g5 W1 V:=by rw [hV];exact ((((Mut.refl _ _).setCell 3 _).setCell 2 _).setCell 5 _).drew
      have hzV:Blk V g5 54 [.slice b1 n1 d1, .slice b2 n2 d2, .slice (some ⟨b0,o0,none⟩) 0 0, .slice a' n' c', .int .i64 j.net, .int .i64 (j.sent+1)]:=by
       rw [hV];exact (((hz.set 3 (.slice a' n' c')).set 2 (.slice (some ⟨b0,o0,none⟩) 0 0)).set 5 (.int .i64 (j.sent+1))).extB (Ext.drew (Ext.refl _))
      clear hV
      have hRV:=Blk.turn hM hR (by omega)
      have o1:=o1.mutT hz (by decide) hM
      have o2:=o2.mutT hz (by decide) hM
      have o3:=o3.mut hz (by decide) (by simp) hM
      have hS:=hS.mut hz (by simp) hM
      have hEV:Ext w V:=Below.trans hE (hM.below (by have:=hE.size;omega) hE.size)
      clear hM hR hE hz f2 f3 f5 z5 z2 z3 hcell hcell0 o4
      haveI:=hzV.blt
      have f3:=hzV.cell? 3 rfl
      refine wp_region_vague 4 [[],[],[1],[1,2],[0,1,2,3],[0,1,2,3,4],[0,1,2,3,4,5]] (by kernel_rfl) (by kernel_rfl) (by kernel_rfl) (by kernel_rfl) ?_;simp only [q8q,q9q,q10q,q11q,q12q,q13q]
      (refine VD_load_arr (RJ6) _ rfl (fun _=>rfl) (g5) (0) (fun _=>by simp [go_sem]) ([.slice b1 n1 d1, .slice b2 n2 d2, .slice (some ⟨b0,o0,none⟩) 0 0, .slice a' n' c', .int .i64 j.net, .int .i64 (j.sent+1)]) (hzV.rd) (rfl) ?_)
      (repeat (refine VD_a ?_;(try simp only [Act.put,q0q,q1q,q2q])))
      (refine VD_vag (fun p => .slice (p 0).1 (n') (p 0).2) (fun p w''=>Own w'' 0 (p 0).1 (n') (p 0).2 (y)) (fun p w w' h hx=>h.ext hx) (fun us w' hx hf=>⟨rfl,?_⟩) ?_;(unfold gives;simp [go_sem,execOp];exact vag_fresh (Nat.zero_le _) (hclo _ (hS.ext hx))))
      (refine VD_z ?_;intro us x hx hf;(try simp only [Act.put,q0q,q1q,q2q,wpList_none]);(try simp only [q3q,q4q,or_false,forall_eq_or_imp,forall_eq,q5q,q6q,q7q,false_or,true_and,and_true] at hf);(try simp only [Nat.reduceAdd,Nat.zero_add] at hf ⊢))
      obtain ⟨a9,ha9⟩:∃ a,(us 3 0).1=a:=⟨_,rfl⟩
      obtain ⟨c9,hc9⟩:∃ a,(us 3 0).2=a:=⟨_,rfl⟩
      rw [ha9,hc9] at hf ⊢
      clear ha9 hc9
      have hxx:Ext V (V.ext x):=Ext.of_ext _ _
      have o1:=o1.ext hxx
      have o2:=o2.ext hxx
      have o3:=o3.ext hxx
      have hS:=hS.ext hxx
      have hRV:=hRV.extB hxx
      have hEV:=hEV.trans hxx
      clear hzV f3 hxx
      generalize V.ext x=V2 at *
      haveI:=hRV.blt
      go_wp2_with (first
       | (refine wpList_store_arr (RJ6) rfl _ _ rfl (w.heap.size+1) (0) rfl ([.slice b1 n1 d1, .slice b2 n2 d2, .slice (some ⟨b0,o0,none⟩) 0 0, .slice a' n' c', .int .i64 j.net, .int .i64 (j.sent+1)]) rfl (54) _ (hRV) (rfl) (by simp) (oC) ?_;intro w9 hB9 hM9)
       | fail)
      refine bodyPost_ret (results_arr_tmp2 Tryz.results67 (RJ6) _ _ (w.heap.size+1) (0) ([.slice b1 n1 d1, .slice b2 n2 d2, .slice (some ⟨b0,o0,none⟩) 0 0, .slice a' n' c', .int .i64 j.net, .int .i64 (j.sent+1)]) rfl (hB9.rd) (rfl) (.slice a9 n' c9) (.int .i64 0) rfl rfl) rfl ?_
      rw [er.out]
      have hty:Typ3 w9 (some ⟨b0,o0,none⟩):=fun b o h=>(o3.mut hRV (by decide) (by simp) hM9).typ3 b o0 (by injection h with h;injection h with h _;rw [h])
      have o3:=(o3.mut hRV (by decide) (by simp) hM9).bsc
      exact ⟨b1,n1,d1,b2,n2,d2,(some ⟨b0,o0,none⟩),0,0,a',n',c',a9,n',c9,rfl,o1.mutT hRV (by decide) hM9,o2.mutT hRV (by decide) hM9,(by have hL:=List.length_eq_zero_iff.1 (show L.length=0 by rw [List.length_cons] at hl3;omega);subst hL;exact Bsc.nil _ _),by omega,hS.mut hRV (by simp) hM9,hc',(hf.mono (Nat.zero_le _)).mutT hRV (by decide) hM9,(fun b o h=>by injection h with h;injection h with h _;omega),hty,Below.trans hEV (hM9.below (by omega) hEV.size)⟩
    ·clear q0i
     simp only [Act.put]
     go_region
     all_goals
      go_wp2_with fail
      refine nameW ?_
      intro V hV
      have hM:Mut g5 W1 V:=by rw [hV];exact ((((Mut.refl _ _).setCell 3 _).setCell 2 _).setCell 5 _).drew
      have hzV:Blk V g5 54 [.slice b1 n1 d1, .slice b2 n2 d2, .slice (some ⟨b0,o0+1,none⟩) (n3-1) (d3-1), .slice a' n' c', .int .i64 j.net, .int .i64 (j.sent+1)]:=by
       rw [hV];exact (((hz.set 3 (.slice a' n' c')).set 2 (.slice (some ⟨b0,o0+1,none⟩) (n3-1) (d3-1))).set 5 (.int .i64 (j.sent+1))).extB (Ext.drew (Ext.refl _))
      clear hV
      have hRV:=Blk.turn hM hR (by omega)
      have o1:=o1.mutT hz (by decide) hM
      have o2:=o2.mutT hz (by decide) hM
      have o3:=o3.mut hz (by decide) (by simp) hM
      have hS:=hS.mut hz (by simp) hM
      have hEV:Ext w V:=Below.trans hE (hM.below (by have:=hE.size;omega) hE.size)
      clear hM hR hE hz f2 f3 f5 z5 z2 z3 hcell hcell0 o4
      haveI:=hzV.blt
      have f3:=hzV.cell? 3 rfl
      refine wp_region_vague 4 [[],[],[1],[1,2],[0,1,2,3],[0,1,2,3,4],[0,1,2,3,4,5]] (by kernel_rfl) (by kernel_rfl) (by kernel_rfl) (by kernel_rfl) ?_;simp only [q8q,q9q,q10q,q11q,q12q,q13q]
      (refine VD_load_arr (RJ6) _ rfl (fun _=>rfl) (g5) (0) (fun _=>by simp [go_sem]) ([.slice b1 n1 d1, .slice b2 n2 d2, .slice (some ⟨b0,o0+1,none⟩) (n3-1) (d3-1), .slice a' n' c', .int .i64 j.net, .int .i64 (j.sent+1)]) (hzV.rd) (rfl) ?_)
      (repeat (refine VD_a ?_;(try simp only [Act.put,q0q,q1q,q2q])))
      (refine VD_vag (fun p => .slice (p 0).1 (n') (p 0).2) (fun p w''=>Own w'' 0 (p 0).1 (n') (p 0).2 (y)) (fun p w w' h hx=>h.ext hx) (fun us w' hx hf=>⟨rfl,?_⟩) ?_;(unfold gives;simp [go_sem,execOp];exact vag_fresh (Nat.zero_le _) (hclo _ (hS.ext hx))))
      (refine VD_z ?_;intro us x hx hf;(try simp only [Act.put,q0q,q1q,q2q,wpList_none]);(try simp only [q3q,q4q,or_false,forall_eq_or_imp,forall_eq,q5q,q6q,q7q,false_or,true_and,and_true] at hf);(try simp only [Nat.reduceAdd,Nat.zero_add] at hf ⊢))
      obtain ⟨a9,ha9⟩:∃ a,(us 3 0).1=a:=⟨_,rfl⟩
      obtain ⟨c9,hc9⟩:∃ a,(us 3 0).2=a:=⟨_,rfl⟩
      rw [ha9,hc9] at hf ⊢
      clear ha9 hc9
      have hxx:Ext V (V.ext x):=Ext.of_ext _ _
      have o1:=o1.ext hxx
      have o2:=o2.ext hxx
      have o3:=o3.ext hxx
      have hS:=hS.ext hxx
      have hRV:=hRV.extB hxx
      have hEV:=hEV.trans hxx
      clear hzV f3 hxx
      generalize V.ext x=V2 at *
      haveI:=hRV.blt
      go_wp2_with (first
       | (refine wpList_store_arr (RJ6) rfl _ _ rfl (w.heap.size+1) (0) rfl ([.slice b1 n1 d1, .slice b2 n2 d2, .slice (some ⟨b0,o0+1,none⟩) (n3-1) (d3-1), .slice a' n' c', .int .i64 j.net, .int .i64 (j.sent+1)]) rfl (54) _ (hRV) (rfl) (by simp) (oC) ?_;intro w9 hB9 hM9)
       | fail)
      refine bodyPost_ret (results_arr_tmp2 Tryz.results67 (RJ6) _ _ (w.heap.size+1) (0) ([.slice b1 n1 d1, .slice b2 n2 d2, .slice (some ⟨b0,o0+1,none⟩) (n3-1) (d3-1), .slice a' n' c', .int .i64 j.net, .int .i64 (j.sent+1)]) rfl (hB9.rd) (rfl) (.slice a9 n' c9) (.int .i64 0) rfl rfl) rfl ?_
      rw [er.out]
      have hty:Typ3 w9 (some ⟨b0,o0+1,none⟩):=fun b o h=>(o3.mut hRV (by decide) (by simp) hM9).typ3 b o0 (by injection h with h;injection h with h _;rw [h])
      have o3:=(o3.mut hRV (by decide) (by simp) hM9).bsc
      exact ⟨b1,n1,d1,b2,n2,d2,(some ⟨b0,o0+1,none⟩),(n3-1),(d3-1),a',n',c',a9,n',c9,rfl,o1.mutT hRV (by decide) hM9,o2.mutT hRV (by decide) hM9,o3.tail,by omega,hS.mut hRV (by simp) hM9,hc',(hf.mono (Nat.zero_le _)).mutT hRV (by decide) hM9,(fun b o h=>by injection h with h;injection h with h _;omega),hty,Below.trans hEV (hM9.below (by omega) hEV.size)⟩
end Go.Proofs.YtdmifbfgeeldnaaGreat

/- The walks of layer 22: Question. -/
namespace Go.Jar
open Go.Pkt
def plainQ (u c:List UInt8)(k:Nat):List Fld:=[((260:Int),u),(516,c)]++List.replicate k ((772:Int),List.replicate 104 0)
theorem plainQ_length (u c:List UInt8)(k:Nat):(plainQ u c k).length=2+k:=by simp [plainQ];omega
theorem plainQ_succ (u c:List UInt8)(k:Nat):plainQ u c (k+1)=plainQ u c k++[((772:Int),List.replicate 104 0)]:=by simp only [plainQ,List.replicate_succ',List.append_assoc]
theorem plainQ_in {u c:List UInt8} {k:Nat} {f:Fld} (h:f∈plainQ u c k):f=(260,u)∨f=(516,c)∨f=(772,List.replicate 104 0):=by
 unfold plainQ at h
 rcases List.mem_append.1 h with h|h
 ·simp only [q3q,q4q,or_false] at h;rcases h with h|h
  ·exact .inl h
  ·exact .inr (.inl h)
 ·exact .inr (.inr (List.eq_of_mem_replicate h))
def pktQ (t:UInt64) (u c:List UInt8)(k:Nat):Pkt:=⟨askH t,plainQ u c k,[],false⟩
def quesJ (j:Jar) (t:UInt64) (u nn:List UInt8):(Jar × List UInt8) × Int :=
 if validJ j=true∧u.length=32∧nn.length=16 then
  (if (takeJ j).2=0 then
   (if (protE (takeJ j).1.1.up (pktQ t u (takeJ j).1.2 (7-(takeJ j).1.1.ck.length)) nn).2=0 then (((takeJ j).1.1,(protE (takeJ j).1.1.up (pktQ t u (takeJ j).1.2 (7-(takeJ j).1.1.ck.length)) nn).1),0)
    else ((zeroJ,[]),(protE (takeJ j).1.1.up (pktQ t u (takeJ j).1.2 (7-(takeJ j).1.1.ck.length)) nn).2))
   else ((zeroJ,[]),(takeJ j).2))
 else ((zeroJ,[]),3)
theorem takeJ_ok {j:Jar} (hv:validJ j=true) (h:(takeJ j).2=0):(takeJ j).1.1.ck.length≤7∧(takeJ j).1.2.length=104∧(takeJ j).1.1.up.length=32:=by
 unfold takeJ at h ⊢
 rw [if_pos hv] at h ⊢
 have hh:=hv
 unfold validJ at hh
 rw [Bool.and_eq_true,Bool.and_eq_true] at hh
 obtain ⟨h1,h2,_⟩:=hh
 have h1:headJ j:=of_decide_eq_true h1
 by_cases q:j.ck.length=0
 ·rw [if_pos q] at h;exact absurd h (by decide)
 ·rw [if_neg q] at h ⊢
  by_cases q2:j.sent=1099511627776
  ·rw [if_pos q2] at h;exact absurd h (by decide)
  ·rw [if_neg q2]
   cases hc:j.ck with
   | nil=>rw [hc] at q;exact absurd rfl q
   | cons y L =>
    have h3:=h1.2.1
    rw [hc,List.length_cons] at h3
    have h4:=List.all_eq_true.1 h2 y (by rw [hc];exact List.mem_cons_self ..)
    refine ⟨by show L.length≤7;omega,by simpa using h4,h1.1.1⟩
end Go.Jar
namespace Go.Sec
open Go.RowKit
theorem OwnI.two {T:TypeId} {w:World} {base g m1 c1 m2 c2:Nat} {id1 id2:Int} {g1 g2:Option Addr} {l1 l2:List UInt8} (hB:Blk w g T [.int .i64 id1, .slice g1 m1 c1, .int .i64 id2, .slice g2 m2 c2]) (hb:base≤g)
  (h1:Sl w g1 m1 l1) (k1:m1≤c1) (i1:InT T w base g1 m1) (h2:Sl w g2 m2 l2) (k2:m2≤c2) (i2:InT T w base g2 m2):OwnI T w base (some ⟨g,0,none⟩) 2 2 [(id1,l1),(id2,l2)]:=by
 have e1:=h1.len
 have e2:=h2.len
 subst e1 e2
 refine ⟨rfl,[.int .i64 id1, .slice g1 l1.length c1, .int .i64 id2, .slice g2 l2.length c2],⟨rfl, .inr ⟨g,2,#[.int .i64 id1, .slice g1 l1.length c1, .int .i64 id2, .slice g2 l2.length c2],rfl,hb,?_,Nat.le_refl _,by unfold maxLen;omega,rfl,rfl⟩⟩,rfl,fun k hk=>?_⟩
 ·exact hB
 ·match k,hk with
  | 0,_=>exact ⟨g1,c1,rfl,rfl,h1,k1,i1⟩
  | 1,_=>exact ⟨g2,c2,rfl,rfl,h2,k2,i2⟩
def NewJ (T:TypeId)(id:Int) (l:List UInt8)(w:World)(a:Option Addr):Prop:=∃ g ga n cc,a=some ⟨g,0,none⟩∧Rd w a [.int .i64 id, .slice ga n cc]∧Sl w ga n l∧n≤cc∧∀ base,InT T w base ga n
theorem NewJ.ext {T:TypeId} {id:Int} {l:List UInt8} {w w':World} {a:Option Addr} (h:NewJ T id l w a) (hx:Ext w w'):NewJ T id l w' a:=by
 obtain ⟨g,ga,n,cc,h1,h2,h3,h4,h5⟩:=h
 exact ⟨g,ga,n,cc,h1,h2.ext hx,h3.ext hx,h4,fun b=>(h5 b).ext hx⟩
theorem NewJ.mk {T:TypeId} {id:Int} {l:List UInt8} {w:World} {ga:Option Addr} {n cc base:Nat} (h:Own w base ga n cc l) (hT:5≠T):NewJ T id l (w.alloc (.cells #[.int .i64 id, .slice ga n cc] T)) (some ⟨w.heap.size,0,none⟩) :=
 ⟨_,ga,n,cc,rfl,(Blk.new w #[.int .i64 id, .slice ga n cc] T).rd,h.sl.ext (Ext.of_alloc _ _),h.le.1,fun b=>(h.ext (Ext.of_alloc _ _)).inT hT⟩
theorem own_zeros (w:World)(n:Nat) (hn:n≤1000000):Own (w.alloc (.cells (zerosOf (.int .u8 0) n) 5)) 0 (some ⟨w.heap.size,0,none⟩) n n (List.replicate n 0):=by
 have:=Own.of_blk (base:=0) (l:=List.replicate n 0) (blk_zeros8 w n) (Nat.zero_le _) (by rw [List.length_replicate];unfold maxLen;omega)
 rwa [List.length_replicate] at this
end Go.Sec
namespace Go.Proofs.YtdmifbfgeeldnaaGreat
open Go.RowKit Go.Sec Go.Oct Go.Jar Go.Pkt BigFrame
def QuesE (r:(Jar × List UInt8) × Int) (w:World)(e:Ending) (w':World):Prop:=∃ b1 n1 d1 b2 n2 d2 b3 n3 d3 b4 n4 d4 b5 n5 d5,e = .returned (.tuple #[.agg #[.slice b1 n1 d1, .slice b2 n2 d2, .slice b3 n3 d3, .slice b4 n4 d4, .int .i64 r.1.1.net, .int .i64 r.1.1.sent], .slice b5 n5 d5, .int .i64 r.2]) ∧
 Sl w' b1 n1 r.1.1.up∧n1≤d1∧Sl w' b2 n2 r.1.1.dn∧n2≤d2∧Bsc w' b3 n3 r.1.1.ck∧n3≤d3∧Typ3 w' b3∧Sl w' b4 n4 r.1.1.last∧n4≤d4∧Sl w' b5 n5 r.1.2∧n5≤d5∧Ext w w'
theorem QuesE.zero (w w':World)(e:Int) (hx:Ext w w'):QuesE ((zeroJ,[]),e) w (.returned (.tuple #[.agg #[.slice none 0 0, .slice none 0 0, .slice none 0 0, .slice none 0 0, .int .i64 0, .int .i64 0], .slice none 0 0, .int .i64 e])) w' :=
 ⟨none,0,0,none,0,0,none,0,0,none,0,0,none,0,0,rfl,Sl.nil _ _,Nat.le_refl _,Sl.nil _ _,Nat.le_refl _,Bsc.nil _ _,Nat.le_refl _,Typ3.none _,Sl.nil _ _,Nat.le_refl _,Sl.nil _ _,Nat.le_refl _,hx⟩
set_option maxHeartbeats 1000000 in
theorem jques_any (a1 a2 a3 a4 au an:Option Addr)(n1 c1 n2 c2 n3 c3 n4 c4 nu cu nn cn:Nat) (j:Jar) (t:UInt64) (u nc:List UInt8)(w:World)(h1:Sl w a1 n1 j.up) (m1:n1≤1000000) (h2:Sl w a2 n2 j.dn) (m2:n2≤1000000) (h3:Bsc w a3 n3 j.ck) (hc3:n3≤c3) (hn3:n3≤100000) (hb3:∀ x∈j.ck,x.length≤1000000) (h4:Sl w a4 n4 j.last) (m4:n4≤1000000)
  (hu:Sl w au nu u) (hcu:nu≤cu) (hnc:Sl w an nn nc) (hcn:nn≤cn) :
  Calls Tryz.prog 27 #[.agg #[.slice a1 n1 c1, .slice a2 n2 c2, .slice a3 n3 c3, .slice a4 n4 c4, .int .i64 j.net, .int .i64 j.sent], .int .u64 (n64 t), .slice au nu cu, .slice an nn cn] w (QuesE (quesJ j t u nc) w):=by
 have hlu:=hu.len
 have hln:=hnc.len
 have hv:=fun W H1 H2 H3 H4=>jvalid_any a1 a2 a3 a4 n1 c1 n2 c2 n3 c3 n4 c4 j W H1 H2 H3 hc3 (by omega) H4
 have htk:=fun W H1 H2 H3 H4 H5=>jtake_any a1 a2 a3 a4 n1 c1 n2 c2 n3 c3 n4 c4 j W H1 m1 H2 m2 H3 hc3 hn3 hb3 H4 m4 H5
 obtain ⟨r,hr⟩:∃ r,quesJ j t u nc=r:=⟨_,rfl⟩
 rw [hr]
 replace hr:=Lib.hid hr
 go_enter Tryz.func27,Tryz.ntmps27
 go_wp2_with fail
 refine nameC ?_
 intro W hW
 have hE:Ext w W:=by rw [hW];exact eX
 have hB:Blk W w.heap.size 54 [.slice a1 n1 c1, .slice a2 n2 c2, .slice a3 n3 c3, .slice a4 n4 c4, .int .i64 j.net, .int .i64 j.sent]:=by rw [hW];exact bK
 have hR:Blk W (w.heap.size+1) 54 [.slice none 0 0, .slice none 0 0, .slice none 0 0, .slice none 0 0, .int .i64 0, .int .i64 0]:=by rw [hW];exact bK
 clear hW
 (with_reducible refine (hv _ (h1.ext hE) (h2.ext hE) (h3.ext hE) (h4.ext hE)).mono ?_)
 rintro e w0 ⟨rfl,hx0⟩
 have hE:=hE.trans hx0
 have hB:=hB.extB hx0
 have hR:=hR.extB hx0
 clear hx0 hv
 haveI:=hB.blt
 haveI:=hR.blt
 cases q:validJ j
 ·have er:=Lib.hid (show r=((zeroJ,[]),3) by rw [← hr.out];unfold quesJ;rw [if_neg (fun h=>by rw [q] at h;exact absurd h.1 (by decide))])
  clear hr
  go_wp2_with (first
   | (refine wpList_store_arr (RJ6) rfl _ _ rfl (w.heap.size+1) (0) rfl ([.slice none 0 0, .slice none 0 0, .slice none 0 0, .slice none 0 0, .int .i64 0, .int .i64 0]) rfl (54) _ (hR) (rfl) (by simp) (oC) ?_;intro V hV hMV)
   | fail)
  refine bodyPost_ret (results_arr_tmp2 Tryz.results27 (RJ6) _ _ (w.heap.size+1) (0) ([.slice none 0 0, .slice none 0 0, .slice none 0 0, .slice none 0 0, .int .i64 0, .int .i64 0]) rfl (hV.rd) (rfl) (.slice none 0 0) (.int .i64 3) rfl rfl) rfl ?_
  rw [er.out]
  exact QuesE.zero _ _ _ (Below.trans hE (hMV.below (by omega) hE.size))
 ·by_cases q1:nu=32
  ·have q1i:((nu:Int) != 32)=false:=by rw [bne_eq_false_iff_eq];omega
   by_cases q2:nn=16
   ·have q2i:((nn:Int) != 16)=false:=by rw [bne_eq_false_iff_eq];omega
    have hhd:headJ j:=by
     have:=q;unfold validJ at this;rw [Bool.and_eq_true] at this;exact of_decide_eq_true this.1
    have hsn0:=hhd.2.2.2.2.2.1
    have hqe:=hr.out
    unfold quesJ at hqe
    rw [if_pos ⟨q,by omega,by omega⟩] at hqe
    have hok:=takeJ_ok q
    have hnnb:nn≤1000000:=by omega
    clear hr hhd q1 q2
    generalize takeJ j=T at *
    replace hqe:=Lib.hid hqe
    have hask:∀ W,Calls Tryz.prog 55 #[.int .u64 (n64 t)] W fun e w'=>e = .returned (.agg #[.int .i64 (askH t).leap, .int .i64 (askH t).ver, .int .i64 (askH t).mode, .int .i64 (askH t).strat, .int .i64 (askH t).poll, .int .i64 (askH t).prec, .int .u32 (n32 (askH t).rd), .int .u32 (n32 (askH t).rp), .int .u32 (n32 (askH t).id), .int .u64 (n64 (askH t).ref), .int .u64 (n64 (askH t).org), .int .u64 (n64 (askH t).rcv), .int .u64 (n64 (askH t).tx)])∧Ext W w':=fun W=>pask_any t W
    go_wp2_with (first
     | (refine wpList_load_arr (RJ6) rfl _ rfl (w.heap.size) (0) rfl ([.slice a1 n1 c1, .slice a2 n2 c2, .slice a3 n3 c3, .slice a4 n4 c4, .int .i64 j.net, .int .i64 j.sent]) (hB.rd) (rfl) ?_)
     | fail)
    (with_reducible refine (htk _ (h1.ext hE) (h2.ext hE) (h3.ext hE) (h4.ext hE) (.inl hsn0)).mono ?_)
    rintro e w1 ⟨b1,x1,d1,b2,x2,d2,b3,x3,d3,b4,x4,d4,b5,x5,d5,rfl,o1,o2,o3,k3,o4,k4,o5,hb3w,t3,hx1⟩
    have hltw:=hR.lt
    have hE:=hE.trans hx1
    have hR:=hR.extB hx1
    have hlt:=hR.lt
    have hu:=hu.ext hE
    have hu0:=hu
    have hnc:=hnc.ext hE
    clear hB hx1 htk hsn0 h1 h2 h3 h4 hb3
    by_cases qe:T.2=0
    ·have qei:(T.2 != 0)=false:=by rw [bne_eq_false_iff_eq];exact qe
     go_wp2_with (first
      | (refine wpList_alloc_store (RJ6) rfl rfl _ _ rfl rfl rfl rfl (by simp [Act.put]) ([.slice b1 x1 d1, .slice b2 x2 d2, .slice b3 x3 d3, .slice b4 x4 d4, .int .i64 T.1.1.net, .int .i64 T.1.1.sent]) rfl (by simp) (rfl) (oC) ?_;intro x hz _)
      | fail)
     obtain ⟨hck,hcl,hup⟩:=hok qe
     have o3l:=o3.len
     have o5l:=o5.1
     obtain rfl:x5=104:=by omega
     obtain rfl:nu=32:=by simpa [bne_eq_false_iff_eq] using (show nu=32 by have:=q1i;rw [bne_eq_false_iff_eq] at this;omega)
     have hxx:Ext w1 (w1.ext x):=Ext.of_ext _ _
     have hR:=hR.extB hxx
     have hu:=hu.ext hxx
     obtain ⟨go,hgo⟩:∃ g,g=w1.heap.size:=⟨_,rfl⟩
     rw [← hgo] at hz hlt ⊢
     have hgo1:w1.heap.size≤go:=by omega
     have hxx':=hxx
     generalize w1.ext x=W1 at *
     (with_reducible refine (hask _).mono ?_)
     rintro e w2 ⟨rfl,hx2⟩
     have hx2':=hxx'.trans hx2
     have hz:=hz.extB hx2
     have hR:=hR.extB hx2
     have hu:=hu.ext hx2
     have o5:=o5.ext hx2'
     have hIu:InT 66 w2 go au 32:=((hu0.inT w1).mono (by omega)).ext hx2'
     have hI5:InT 66 w2 go b5 104:=o5.inT (by decide)
     clear hask hx2 hxx hgo o5l hok
     go_wp2_with (first
      | (refine wpList_alloc_store (RP16) rfl rfl _ _ rfl rfl rfl rfl (by simp [Act.put]) ([.int .i64 (askH t).leap, .int .i64 (askH t).ver, .int .i64 (askH t).mode, .int .i64 (askH t).strat, .int .i64 (askH t).poll, .int .i64 (askH t).prec, .int .u32 (n32 (askH t).rd), .int .u32 (n32 (askH t).rp), .int .u32 (n32 (askH t).id), .int .u64 (n64 (askH t).ref), .int .u64 (n64 (askH t).org), .int .u64 (n64 (askH t).rcv), .int .u64 (n64 (askH t).tx), .slice (some ⟨w2.heap.size,0,none⟩) 2 2, .slice none 0 0, .bool false]) rfl (by simp) (rfl) (oC) ?_;intro x hzp _)
      | (refine wpList_load_arr (RJ6) rfl _ rfl (go) (0) rfl ([.slice b1 x1 d1, .slice b2 x2 d2, .slice b3 x3 d3, .slice b4 x4 d4, .int .i64 T.1.1.net, .int .i64 T.1.1.sent]) (((hz.extB eX).rd)) (rfl) ?_)
      | fail)
     refine nameC ?_
     intro W3 hW3
     have hx3:Ext w2 W3:=by rw [hW3];exact eX
     have hrw:Blk W3 w2.heap.size 66 [.int .i64 260, .slice au 32 cu, .int .i64 516, .slice b5 104 d5]:=by rw [hW3];exact (Blk.new w2 #[.int .i64 260, .slice au 32 cu, .int .i64 516, .slice b5 104 d5] 66).ext _
     have hzp:Blk W3 (w2.heap.size+1) 32 [.int .i64 (askH t).leap, .int .i64 (askH t).ver, .int .i64 (askH t).mode, .int .i64 (askH t).strat, .int .i64 (askH t).poll, .int .i64 (askH t).prec, .int .u32 (n32 (askH t).rd), .int .u32 (n32 (askH t).rp), .int .u32 (n32 (askH t).id), .int .u64 (n64 (askH t).ref), .int .u64 (n64 (askH t).org), .int .u64 (n64 (askH t).rcv), .int .u64 (n64 (askH t).tx), .slice (some ⟨w2.heap.size,0,none⟩) 2 2, .slice none 0 0, .bool false]:=by rw [hW3];simpa using hzp
     clear hW3
     (with_reducible refine (jroom_any _ _ _ _ _ _ _ _ _ _ _ _ _ _ W3 (by omega)).mono ?_)
     rintro e w4 ⟨rfl,hx4⟩
     have hx34:=hx3.trans hx4
     have hrw:=hrw.extB hx4
     have hzp:=hzp.extB hx4
     have hgz:=hz.lt
     have hz:=hz.extB hx34
     have hR:=hR.extB hx34
     have hO:OwnI 66 w4 go (some ⟨w2.heap.size,0,none⟩) 2 2 (plainQ u T.1.2 0):=OwnI.two hrw (by omega) (hu.ext hx34) hcu (hIu.ext hx34) (o5.sl.ext hx34) (o5.le.1) (hI5.ext hx34)
     have hx04:Ext w1 w4:=hx2'.trans hx34
     have hgp:go<w2.heap.size+1:=by omega
     have hbs:go≤w4.heap.size:=by have:=hx34.size;omega
     obtain ⟨kk,hkk⟩:∃ kk,kk=7-x3:=⟨_,rfl⟩
     have hkI:(8:Int)-(x3:Int)-1=(kk:Int):=by omega
     have hk7:kk≤7:=by omega
     have hx3I:(x3:Int)≤7:=by omega
     obtain ⟨gp,hgpe⟩:∃ g,g=w2.heap.size+1:=⟨_,rfl⟩
     rw [← hgpe] at hzp hgp ⊢
     have hgp1:w1.heap.size≤gp:=by omega
     clear hgpe hx3 hx4 hrw hIu hI5 hu o5 hx2' hx34
     replace hkk:=Lib.hid hkk
     go_wp2_with fail
     go_loopw [51] (fun v51 wr=>∃ (i:Nat) (sa:Option Addr)(sc:Nat),i≤kk∧v51 = .int .i64 i∧Blk wr gp 32 [.int .i64 (askH t).leap, .int .i64 (askH t).ver, .int .i64 (askH t).mode, .int .i64 (askH t).strat, .int .i64 (askH t).poll, .int .i64 (askH t).prec, .int .u32 (n32 (askH t).rd), .int .u32 (n32 (askH t).rp), .int .u32 (n32 (askH t).id), .int .u64 (n64 (askH t).ref), .int .u64 (n64 (askH t).org), .int .u64 (n64 (askH t).rcv), .int .u64 (n64 (askH t).tx), .slice sa (2+i) sc, .slice none 0 0, .bool false]∧OwnI 66 wr go sa (2+i) sc (plainQ u T.1.2 i)∧go≤wr.heap.size∧Blk wr go 54 [.slice b1 x1 d1, .slice b2 x2 d2, .slice b3 x3 d3, .slice b4 x4 d4, .int .i64 T.1.1.net, .int .i64 T.1.1.sent]∧Blk wr (w.heap.size+1) 54 [.slice none 0 0, .slice none 0 0, .slice none 0 0, .slice none 0 0, .int .i64 0, .int .i64 0]∧Ext w1 wr) (fun v51 _=>kk-(intOf v51).toNat)
     case atStart=>exact ⟨0,_,2,by omega,rfl,hzp,hO,hbs,hz,hR,hx04⟩
     case round =>
      clear hzp hO hbs hz hR hx04
      obtain ⟨i,sa,sc,hi,rfl,hzp,hO,hbs,hz,hR,hxL⟩:=hrel
      haveI:=hzp.blt
      have f13:=hzp.cell? 13 rfl
      by_cases hlt2:i<kk
      ·have i1:(i:Int)<(kk:Int):=by omega
       have hmk:=run_make_by U 104 104 (Nat.le_refl _) (by omega)
       simp only [Int.cast_ofNat_Int] at hmk
       have hqs:=Lib.hid (plainQ_succ u T.1.2 i)
       generalize plainQ u T.1.2 i=P at *
       obtain ⟨Z,hZ⟩:∃ Z:List UInt8,Z=List.replicate 104 0:=⟨_,rfl⟩
       rw [← hZ] at hqs
       have hown:∀ V:World,Own (V.alloc (.cells (zerosOf (.int .u8 0) 104) 5)) 0 (some ⟨V.heap.size,0,none⟩) 104 104 Z:=fun V=>by rw [hZ];exact own_zeros V 104 (by omega)
       clear hZ
       go_wp2_with fail
       refine wp_region_vague 5 [[],[0],[],[2],[2,3],[0,1,2,3,4],[0,1,2,3,4,5],[0,1,2,3,4,5,6]] (by kernel_rfl) (by kernel_rfl) (by kernel_rfl) (by kernel_rfl) ?_;simp only [q8q,q9q,q10q,q11q,q12q,q13q]
       (repeat (refine VD_a ?_;(try simp only [Act.put,q0q,q1q,q2q])))
       (refine VD_vag (fun p => .slice (p 0).1 104 104) (fun p w''=>Own w'' 0 (p 0).1 104 104 Z) (fun p w w' h hx=>h.ext hx) (fun us w' hx hf=>⟨rfl,?_⟩) ?_;(unfold gives;simp [go_sem,execOp,hmk];exact ⟨fun _=>(some ⟨w'.heap.size,0,none⟩,0),rfl,Ext.of_alloc _ _,hown _⟩))
       (repeat (refine VD_a ?_;(try simp only [Act.put,q0q,q1q,q2q])))
       (refine VD_vag (fun p => .slice (p 0).1 1 1) (fun p w''=>NewJ 66 772 Z w'' (p 0).1) (fun p w w' h hx=>h.ext hx) (fun us w' hx hf=>⟨rfl,?_⟩) ?_;(unfold gives;simp [go_sem,execOp];exact ⟨fun _=>(some ⟨w'.heap.size,0,none⟩,0),rfl,Ext.of_alloc _ _,NewJ.mk (hf _ (List.mem_append_right _ (List.mem_singleton_self _)) rfl) (by decide)⟩))
       (refine VD_z ?_;intro us x hx hf;(try simp only [Act.put,q0q,q1q,q2q,wpList_none]);(try simp only [q3q,q4q,or_false,forall_eq_or_imp,forall_eq,q5q,q6q,q7q,false_or,true_and,and_true] at hf);(try simp only [Nat.reduceAdd,Nat.zero_add] at hf ⊢))
       obtain ⟨_,hN⟩:=hf
       obtain ⟨aN,haN⟩:∃ a,(us 4 0).1=a:=⟨_,rfl⟩
       rw [haN] at hN ⊢
       clear haN
       obtain ⟨gn,ga,m,cc,rfl,hRd,hSn,hcc,hIn⟩:=hN
       have hxx:Ext wr (wr.ext x):=Ext.of_ext _ _
       have hOx:=hO.ext hxx
       have hzpx:=hzp.extB hxx
       have hzx:=hz.extB hxx
       have hRx:=hR.extB hxx
       have hEx:=hxL.trans hxx
       have hbx:=Nat.le_trans hbs hxx.size
       clear hO hzp hz hR hxL hbs hxx f13 hown hmk
       refine wpList_append_i VF rfl _ _ rfl go sa (2+i) sc P rfl gn 1 772 ga m cc Z rfl hOx hRd hSn hcc (hIn go) (by omega) hbx ?_
       intro sa' sc' w6 hO6 hg6 hb6
       have hzp6:=hzpx.grown hg6 (hOx.blk hzpx (by decide))
       have hz6:=hzx.grown hg6 (hOx.blk hzx (by decide))
       have hR6:=hRx.grown hg6 (hOx.blk hRx (by decide))
       have hE6:Ext w1 w6:=Below.trans hEx (hb6.mono (by omega))
       have hB6:=Nat.le_trans hbx hb6.size
       haveI:=hzp6.blt
       have q13:=hzp6.cell? 13 rfl
       have z13:=hzp6.free 13
       go_wp2
       have hset:=hzp6.set 13 (.slice sa' (2+i+1) sc')
       have hM:Mut gp w6 (w6.setCell ⟨gp,13,none⟩ (.slice sa' (2+i+1) sc')):=(Mut.refl _ _).setCell 13 _
       go_roundw
       case rel=>exact ⟨i+1,sa',sc',by omega,by go_num,hset,(by rw [hqs.out];exact hO6.mut hzp6 (by decide) (by simp) hM),Nat.le_trans hB6 hM.size,Blk.turn hM hz6 (by omega),Blk.turn hM hR6 (by omega),Below.trans hE6 (hM.below (by omega) hE6.size)⟩
       case measure=>simp [intOf];omega
      ·obtain rfl:i=kk:=by omega
       have i1:¬ (i:Int)<(i:Int):=by omega
       haveI:=hz.blt
       have q0:=hz.cell? 0 rfl
       have hIp:=hO.ib.1
       have hpl:=plainQ_length u T.1.2 i
       have hnc:=hnc.ext hxL
       have o1:=o1.ext hxL
       have o2:=o2.ext hxL
       have o3:=o3.ext hxL
       have t3:=t3.ext hxL
       have o4:=o4.ext hxL
       have hE:=hE.trans hxL
       have hpr:∀ W,Sl W b1 x1 T.1.1.up→Sl W an nn nc→Ib W sa (2+i) (plainQ u T.1.2 i)→Calls Tryz.prog 21 #[.slice b1 x1 d1, .agg #[.int .i64 (askH t).leap, .int .i64 (askH t).ver, .int .i64 (askH t).mode, .int .i64 (askH t).strat, .int .i64 (askH t).poll, .int .i64 (askH t).prec, .int .u32 (n32 (askH t).rd), .int .u32 (n32 (askH t).rp), .int .u32 (n32 (askH t).id), .int .u64 (n64 (askH t).ref), .int .u64 (n64 (askH t).org), .int .u64 (n64 (askH t).rcv), .int .u64 (n64 (askH t).tx), .slice sa (2+i) sc, .slice none 0 0, .bool false], .slice an nn cn] W (Read2 (protE T.1.1.up (pktQ t u T.1.2 i) nc).1.length (protE T.1.1.up (pktQ t u T.1.2 i) nc).1 (.int .i64 (protE T.1.1.up (pktQ t u T.1.2 i) nc).2) W):=fun W H1 H2 H3=>pprotect_any b1 an sa none x1 d1 nn cn (2+i) sc 0 0 (pktQ t u T.1.2 i) T.1.1.up nc W H1 o1.le.1 H2 hcn hnnb H3 (by omega) (fun f hf=>by
        rcases plainQ_in hf with h|h|h
        ·rw [h];show u.length≤1000000;omega
        ·rw [h];show T.1.2.length≤1000000;omega
        ·rw [h];simp) (Ib.nil _ _) (by omega) (fun f hf=>by cases hf)
       have hke:7-T.1.1.ck.length=i:=by have:=hkk.out;omega
       have hqe2:=hqe.out
       rw [if_pos qe,hke] at hqe2
       generalize protE T.1.1.up (pktQ t u T.1.2 i) nc=R at *
       go_wp2_with (first
        | (refine wpList_load_arr (RP16) rfl _ rfl (gp) (0) rfl ([.int .i64 (askH t).leap, .int .i64 (askH t).ver, .int .i64 (askH t).mode, .int .i64 (askH t).strat, .int .i64 (askH t).poll, .int .i64 (askH t).prec, .int .u32 (n32 (askH t).rd), .int .u32 (n32 (askH t).rp), .int .u32 (n32 (askH t).id), .int .u64 (n64 (askH t).ref), .int .u64 (n64 (askH t).org), .int .u64 (n64 (askH t).rcv), .int .u64 (n64 (askH t).tx), .slice sa (2+i) sc, .slice none 0 0, .bool false]) (hzp.rd) (rfl) ?_)
        | fail)
       (with_reducible refine (hpr _ o1.sl hnc hIp).mono ?_)
       rintro e w7 ⟨b7,d7,rfl,hS7,hd7,hx7⟩
       have hR:=hR.extB hx7
       have hz:=hz.extB hx7
       have o1:=o1.ext hx7
       have o2:=o2.ext hx7
       have o3:=o3.ext hx7
       have t3:=t3.ext hx7
       have o4:=o4.ext hx7
       have hE:=hE.trans hx7
       clear hpr hIp hzp hO hnc hx7 q0 f13
       haveI:=hR.blt
       haveI:=hz.blt
       by_cases qr:R.2=0
       ·have qri:(R.2 != 0)=false:=by rw [bne_eq_false_iff_eq];exact qr
        have er:=Lib.hid (show r=((T.1.1,R.1),0) by rw [← hqe2,if_pos qr])
        clear hqe2 hqe
        go_wp2_with (first
         | (refine wpList_load_arr (RJ6) rfl _ rfl (go) (0) rfl ([.slice b1 x1 d1, .slice b2 x2 d2, .slice b3 x3 d3, .slice b4 x4 d4, .int .i64 T.1.1.net, .int .i64 T.1.1.sent]) ((hz.rd)) (rfl) ?_)
         | (refine wpList_store_arr (RJ6) rfl _ _ rfl (w.heap.size+1) (0) rfl ([.slice b1 x1 d1, .slice b2 x2 d2, .slice b3 x3 d3, .slice b4 x4 d4, .int .i64 T.1.1.net, .int .i64 T.1.1.sent]) rfl (54) _ (hR) (rfl) (by simp) (oC) ?_;intro V hV hMV)
         | fail)
        refine bodyPost_ret (results_arr_tmp2 Tryz.results27 (RJ6) _ _ (w.heap.size+1) (0) ([.slice b1 x1 d1, .slice b2 x2 d2, .slice b3 x3 d3, .slice b4 x4 d4, .int .i64 T.1.1.net, .int .i64 T.1.1.sent]) rfl (hV.rd) (rfl) (.slice b7 R.1.length d7) (.int .i64 0) rfl rfl) rfl ?_
        rw [er.out]
        exact ⟨b1,x1,d1,b2,x2,d2,b3,x3,d3,b4,x4,d4,b7,_,d7,rfl,(o1.mutT hR (by decide) hMV).sl,o1.le.1,(o2.mutT hR (by decide) hMV).sl,o2.le.1,o3.mutNe (fun b o h=>by have:=hb3w b o h;omega) hR (by simp) hMV,k3,t3.mut hR (by decide) hMV,o4.mut hR (by simp) hMV,k4,hS7.mut hR (by simp) hMV,hd7,Below.trans hE (hMV.below (by omega) hE.size)⟩
       ·have qri:(R.2 != 0)=true:=by rw [bne_iff_ne];exact qr
        have er:=Lib.hid (show r=((zeroJ,[]),R.2) by rw [← hqe2,if_neg qr])
        clear hqe2 hqe qr
        go_wp2_with (first
         | (refine wpList_store_arr (RJ6) rfl _ _ rfl (w.heap.size+1) (0) rfl ([.slice none 0 0, .slice none 0 0, .slice none 0 0, .slice none 0 0, .int .i64 0, .int .i64 0]) rfl (54) _ (hR) (rfl) (by simp) (oC) ?_;intro V hV hMV)
         | fail)
        refine bodyPost_ret (results_arr_tmp2 Tryz.results27 (RJ6) _ _ (w.heap.size+1) (0) ([.slice none 0 0, .slice none 0 0, .slice none 0 0, .slice none 0 0, .int .i64 0, .int .i64 0]) rfl (hV.rd) (rfl) (.slice none 0 0) (.int .i64 R.2) rfl rfl) rfl ?_
        rw [er.out]
        exact QuesE.zero _ _ _ (Below.trans hE (hMV.below (by omega) hE.size))
    ·have qei:(T.2 != 0)=true:=by rw [bne_iff_ne];exact qe
     have er:=Lib.hid (show r=((zeroJ,[]),T.2) by rw [← hqe.out,if_neg qe])
     clear hqe hok qe
     go_wp2_with (first
      | (refine wpList_alloc_store (RJ6) rfl rfl _ _ rfl rfl rfl rfl (by simp [Act.put]) ([.slice b1 x1 d1, .slice b2 x2 d2, .slice b3 x3 d3, .slice b4 x4 d4, .int .i64 T.1.1.net, .int .i64 T.1.1.sent]) rfl (by simp) (rfl) (oC) ?_;intro x hz _)
      | (refine wpList_store_arr (RJ6) rfl _ _ rfl (w.heap.size+1) (0) rfl ([.slice none 0 0, .slice none 0 0, .slice none 0 0, .slice none 0 0, .int .i64 0, .int .i64 0]) rfl (54) _ ((hR.extB (show Ext w1 (w1.ext x) from Ext.of_ext _ _))) (rfl) (by simp) (oC) ?_;intro V hV hMV)
      | fail)
     refine bodyPost_ret (results_arr_tmp2 Tryz.results27 (RJ6) _ _ (w.heap.size+1) (0) ([.slice none 0 0, .slice none 0 0, .slice none 0 0, .slice none 0 0, .int .i64 0, .int .i64 0]) rfl (hV.rd) (rfl) (.slice none 0 0) (.int .i64 T.2) rfl rfl) rfl ?_
     rw [er.out]
     have hE:=hE.trans (show Ext w1 (w1.ext x) from Ext.of_ext _ _)
     exact QuesE.zero _ _ _ (Below.trans hE (hMV.below (by omega) hE.size))
   ·have q2i:((nn:Int) != 16)=true:=by rw [bne_iff_ne];omega
    have er:=Lib.hid (show r=((zeroJ,[]),3) by rw [← hr.out];unfold quesJ;rw [if_neg (fun h=>by omega)])
    clear hr q2
    go_wp2_with (first
     | (refine wpList_store_arr (RJ6) rfl _ _ rfl (w.heap.size+1) (0) rfl ([.slice none 0 0, .slice none 0 0, .slice none 0 0, .slice none 0 0, .int .i64 0, .int .i64 0]) rfl (54) _ (hR) (rfl) (by simp) (oC) ?_;intro V hV hMV)
     | fail)
    refine bodyPost_ret (results_arr_tmp2 Tryz.results27 (RJ6) _ _ (w.heap.size+1) (0) ([.slice none 0 0, .slice none 0 0, .slice none 0 0, .slice none 0 0, .int .i64 0, .int .i64 0]) rfl (hV.rd) (rfl) (.slice none 0 0) (.int .i64 3) rfl rfl) rfl ?_
    rw [er.out]
    exact QuesE.zero _ _ _ (Below.trans hE (hMV.below (by omega) hE.size))
  ·have q1i:((nu:Int) != 32)=true:=by rw [bne_iff_ne];omega
   have er:=Lib.hid (show r=((zeroJ,[]),3) by rw [← hr.out];unfold quesJ;rw [if_neg (fun h=>by omega)])
   clear hr q1
   go_wp2_with (first
    | (refine wpList_store_arr (RJ6) rfl _ _ rfl (w.heap.size+1) (0) rfl ([.slice none 0 0, .slice none 0 0, .slice none 0 0, .slice none 0 0, .int .i64 0, .int .i64 0]) rfl (54) _ (hR) (rfl) (by simp) (oC) ?_;intro V hV hMV)
    | fail)
   refine bodyPost_ret (results_arr_tmp2 Tryz.results27 (RJ6) _ _ (w.heap.size+1) (0) ([.slice none 0 0, .slice none 0 0, .slice none 0 0, .slice none 0 0, .int .i64 0, .int .i64 0]) rfl (hV.rd) (rfl) (.slice none 0 0) (.int .i64 3) rfl rfl) rfl ?_
   rw [er.out]
   exact QuesE.zero _ _ _ (Below.trans hE (hMV.below (by omega) hE.size))
end Go.Proofs.YtdmifbfgeeldnaaGreat
