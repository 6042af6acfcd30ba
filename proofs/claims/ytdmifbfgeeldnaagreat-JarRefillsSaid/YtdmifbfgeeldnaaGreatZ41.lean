/- Lemmas of this claim, several texts joined. -/
import Derived.Test.YtdmifbfgeeldnaaGreatZ3
import Derived.Test.YtdmifbfgeeldnaaGreatZ28
import Derived.Test.YtdmifbfgeeldnaaGreatZ40
set_option maxRecDepth 100000
open List renaming setIfInBounds_toArray → q0q, set_cons_succ → q1q, set_cons_zero → q2q, mem_cons → q3q, not_mem_nil → q4q, nil_append → q5q, cons_append → q6q, mem_append → q7q, take_succ_cons → q8q, take_zero → q9q, drop_succ_cons → q10q, drop_zero → q11q, take_nil → q12q, drop_nil → q13q
open Go.IntWalk renaming i64_in → q17q, rem_in → q18q, wrap64_in → q19q
set_option linter.unusedVariables false
set_option linter.unusedSimpArgs false
/- The walks of layer 22 of the document: Copy. -/
namespace Go.Proofs.YtdmifbfgeeldnaaGreat
open Go.RowKit Go.Sec Go.Oct Go.Jar BigFrame
theorem join1_any (a:Option Addr)(n:Nat) (l:List UInt8)(hl:l.length=n) (w:World)(h:Bss w a 1 [l]) (hn:n≤1000000):Calls Tryz.prog 41 #[.slice a 1 1] w (Fresh n l w):=by
 have:=join_any a 1 1 [l] w h (by omega) n (by rw [joinL1];exact hl) (by omega)
 rwa [joinL1] at this
set_option maxHeartbeats 1000000 in
theorem rjcopy_any (a1 a2 a3 a4:Option Addr)(n1 c1 n2 c2 n3 c3 n4 c4:Nat) (j:Jar) (w:World)(h1:Sl w a1 n1 j.up) (m1:n1≤1000000) (h2:Sl w a2 n2 j.dn) (m2:n2≤1000000) (h3:Bsc w a3 n3 j.ck) (hn3:n3≤100000) (hb3:∀ x∈j.ck,x.length≤1000000) (h4:Sl w a4 n4 j.last) (m4:n4≤1000000) :
  Calls Tryz.prog 114 #[.agg #[.slice a1 n1 c1, .slice a2 n2 c2, .slice a3 n3 c3, .slice a4 n4 c4, .int .i64 j.net, .int .i64 j.sent]] w (JarO j n1 n2 n3 n4 w):=by
 have l1:=Lib.hid h1.len
 have l2:=Lib.hid h2.len
 have l3:=Lib.hid h3.len
 have l4:=Lib.hid h4.len
 go_enter Tryz.func114,Tryz.ntmps114
 go_wp2
 obtain ⟨W,hW⟩:∃ W,W=(w.alloc (.cells #[.slice a1 n1 c1, .slice a2 n2 c2, .slice a3 n3 c3, .slice a4 n4 c4, .int .i64 j.net, .int .i64 j.sent] 54)).alloc (.cells #[.slice none 0 0, .slice none 0 0, .slice none 0 0, .slice none 0 0, .int .i64 0, .int .i64 0] 54):=⟨_,rfl⟩
 have hE:Ext w W:=by rw [hW];exact eX
 have hB:Blk W w.heap.size 54 [.slice a1 n1 c1, .slice a2 n2 c2, .slice a3 n3 c3, .slice a4 n4 c4, .int .i64 j.net, .int .i64 j.sent]:=by rw [hW];exact bK
 have hR:Blk W (w.heap.size+1) 54 [.slice none 0 0, .slice none 0 0, .slice none 0 0, .slice none 0 0, .int .i64 0, .int .i64 0]:=by rw [hW];exact bK
 rw [← hW]
 clear hW
 haveI:=hB.blt
 have f0:=hB.cell? 0 rfl
 have f1:W.cell? ⟨w.heap.size,1,none⟩=some (.slice a2 n2 c2):=hB.cell? 1 rfl
 have f3:W.cell? ⟨w.heap.size,3,none⟩=some (.slice a4 n4 c4):=hB.cell? 3 rfl
 have f4:W.cell? ⟨w.heap.size,4,none⟩=some (.int .i64 j.net):=hB.cell? 4 rfl
 have f5:W.cell? ⟨w.heap.size,5,none⟩=some (.int .i64 j.sent):=hB.cell? 5 rfl
 have f1':W.cell? ⟨w.heap.size,0+1,none⟩=some (.slice a2 n2 c2):=hB.cell? 1 rfl
 have g1:=h1.ext hE
 have g2:=h2.ext hE
 have g4:=h4.ext hE
 refine R2.wp_region_vague 21 [[],[0],[0,1],[0,1,2],[0,1,2,3],[],[5],[5,6],[5,6,7],[0,1,2,3,4,5,6,7,8],[0,1,2,3,4,5,6,7,8,9],[],[11],[11,12],[0,1,2,3,4,5,6,7,8,9,11,12,13],[],[15],[],[17],[0,1,2,3,4,5,6,7,8,9,10,11,12,13,14,15,16,17,18],[],[0,1,2,3,4,5,6,7,8,9,10,11,12,13,14,15,16,17,18,19,20]] (by kernel_rfl) (by kernel_rfl) (by kernel_rfl) (by kernel_rfl) ?_;simp only [q8q,q9q,q10q,q11q,q12q,q13q]
 (repeat (apply R2.VD_der;(case h=>(intro us w' hx hf;obtain ⟨x,rfl⟩:=hx.out;refine ⟨rfl,?_⟩;simp [go_sem,execOp, *];(try simp (disch:=omega) only [q17q,q18q,q19q]);rfl));(try simp only [Act.put,q0q,q1q,q2q])))
 (refine R2.VD_vag (fun p => .slice (p 0).1 (1) (1)) (fun p w''=>Bss w'' (p 0).1 (1) ([j.up])) (fun p w w' h hx=>h.ext hx) (fun us w' hx hf=>⟨rfl,?_⟩) ?_;(unfold gives;simp [go_sem,execOp];exact ⟨fun _=>(some ⟨w'.heap.size,0,none⟩,0),rfl,Ext.of_alloc _ _,bss1 (g1.ext hx) _⟩))
 (refine R2.VD_vag (fun p => .slice (p 0).1 (n1) (p 0).2) (fun p w''=>Own w'' 0 (p 0).1 (n1) (p 0).2 (j.up)) (fun p w w' h hx=>h.ext hx) (fun us w' hx hf=>⟨rfl,?_⟩) ?_;(unfold gives;simp [go_sem,execOp];exact vag_fresh (Nat.zero_le _) (join1_any _ n1 j.up l1.out _ (by exact (hf _ (List.mem_append_right _ (List.mem_singleton_self _)) rfl)) m1)))
 (repeat (apply R2.VD_der;(case h=>(intro us w' hx hf;obtain ⟨x,rfl⟩:=hx.out;refine ⟨rfl,?_⟩;simp [go_sem,execOp, *];(try simp (disch:=omega) only [q17q,q18q,q19q]);rfl));(try simp only [Act.put,q0q,q1q,q2q])))
 (refine R2.VD_vag (fun p => .slice (p 0).1 (1) (1)) (fun p w''=>Bss w'' (p 0).1 (1) ([j.dn])) (fun p w w' h hx=>h.ext hx) (fun us w' hx hf=>⟨rfl,?_⟩) ?_;(unfold gives;simp [go_sem,execOp];exact ⟨fun _=>(some ⟨w'.heap.size,0,none⟩,0),rfl,Ext.of_alloc _ _,bss1 (g2.ext hx) _⟩))
 (refine R2.VD_vag (fun p => .slice (p 0).1 (n2) (p 0).2) (fun p w''=>Own w'' 0 (p 0).1 (n2) (p 0).2 (j.dn)) (fun p w w' h hx=>h.ext hx) (fun us w' hx hf=>⟨rfl,?_⟩) ?_;(unfold gives;simp [go_sem,execOp];exact vag_fresh (Nat.zero_le _) (join1_any _ n2 j.dn l2.out _ (by exact (hf _ (List.mem_append_right _ (List.mem_singleton_self _)) rfl)) m2)))
 (repeat (apply R2.VD_der;(case h=>(intro us w' hx hf;obtain ⟨x,rfl⟩:=hx.out;refine ⟨rfl,?_⟩;simp [go_sem,execOp, *];(try simp (disch:=omega) only [q17q,q18q,q19q]);rfl));(try simp only [Act.put,q0q,q1q,q2q])))
 (refine R2.VD_vag (fun p => .slice (p 0).1 (1) (1)) (fun p w''=>Bss w'' (p 0).1 (1) ([j.last])) (fun p w w' h hx=>h.ext hx) (fun us w' hx hf=>⟨rfl,?_⟩) ?_;(unfold gives;simp [go_sem,execOp];exact ⟨fun _=>(some ⟨w'.heap.size,0,none⟩,0),rfl,Ext.of_alloc _ _,bss1 (g4.ext hx) _⟩))
 (refine R2.VD_vag (fun p => .slice (p 0).1 (n4) (p 0).2) (fun p w''=>Own w'' 0 (p 0).1 (n4) (p 0).2 (j.last)) (fun p w w' h hx=>h.ext hx) (fun us w' hx hf=>⟨rfl,?_⟩) ?_;(unfold gives;simp [go_sem,execOp];exact vag_fresh (Nat.zero_le _) (join1_any _ n4 j.last l4.out _ (by exact (hf _ (List.mem_append_right _ (List.mem_singleton_self _)) rfl)) m4)))
 (repeat (apply R2.VD_der;(case h=>(intro us w' hx hf;obtain ⟨x,rfl⟩:=hx.out;refine ⟨rfl,?_⟩;simp [go_sem,execOp, *];(try simp (disch:=omega) only [q17q,q18q,q19q]);rfl));(try simp only [Act.put,q0q,q1q,q2q])))
 (refine R2.VD_alloc _ ([.slice none 0 0, .slice none 0 0, .slice none 0 0, .slice none 0 0, .int .i64 0, .int .i64 0]) Tryz.zeroValue54 rfl rfl rfl ?_)
 (refine R2.VD_nil ?_;intro us w' hx hf hd;obtain ⟨x,rfl⟩:=hx.out;(try simp only [Act.put,q0q,q1q,q2q,wpList_none]);(try simp only [q3q,q4q,or_false,forall_eq_or_imp,forall_eq,q5q,q6q,q7q,false_or,true_and,and_true] at hf);(try simp only [Nat.reduceAdd,Nat.zero_add] at hf ⊢))
 obtain ⟨-,hO1, -,hO2, -,hO4,gO,eg,hgW,hz⟩:=hf
 obtain ⟨b1,hb1⟩:∃ a,(us 4 0).1=a:=⟨_,rfl⟩
 obtain ⟨d1,hd1⟩:∃ a,(us 4 0).2=a:=⟨_,rfl⟩
 rw [hb1,hd1] at hO1 ⊢
 obtain ⟨b2,hb2⟩:∃ a,(us 9 0).1=a:=⟨_,rfl⟩
 obtain ⟨d2,hd2⟩:∃ a,(us 9 0).2=a:=⟨_,rfl⟩
 rw [hb2,hd2] at hO2 ⊢
 obtain ⟨b4,hb4⟩:∃ a,(us 14 0).1=a:=⟨_,rfl⟩
 obtain ⟨d4,hd4⟩:∃ a,(us 14 0).2=a:=⟨_,rfl⟩
 rw [hb4,hd4] at hO4 ⊢
 rw [eg]
 have hxx:Ext W (W.ext x):=Ext.of_ext _ _
 have hlt:=hB.lt
 have hltR:=hR.lt
 have hB:=hB.extB hxx
 have hR:=hR.extB hxx
 have hgE:=Nat.le_trans hE.size hgW
 have hne1:w.heap.size≠gO:=by omega
 have hne2:w.heap.size+1≠gO:=by omega
 have hE:=hE.trans hxx
 clear hb1 hd1 hb2 hd2 hb4 hd4 eg hd hxx f0 f1 f1' f3 f4 f5 g1 g2 g4 hlt hltR hgW
 generalize W.ext x=W1 at *
 haveI:=hz.blt
 go_wp2_with (first
  | (refine wpList_store_arr (RJ6) rfl _ _ rfl (gO) (0) rfl ([.slice b1 n1 d1, .slice b2 n2 d2, .slice none 0 0, .slice b4 n4 d4, .int .i64 j.net, .int .i64 j.sent]) rfl (54) _ (hz) (rfl) (by simp) (oC) ?_;intro V hV hMV)
  | fail)
 have o1:=hO1.mutT hz (by decide) hMV
 have o2:=hO2.mutT hz (by decide) hMV
 have o4:=hO4.mutT hz (by decide) hMV
 have hB:=Blk.turn hMV hB hne1
 have hR:=Blk.turn hMV hR hne2
 have hE:Ext w V:=Below.trans hE (hMV.below hgE hE.size)
 have hz:Blk V gO 54 [.slice b1 n1 d1, .slice b2 n2 d2, .slice none 0 0, .slice b4 n4 d4, .int .i64 j.net, .int .i64 j.sent]:=hV
 clear hV hMV hO1 hO2 hO4
 obtain ⟨B,hBe⟩:∃ B,B=V.heap.size:=⟨_,rfl⟩
 have hwB:w.heap.size≤B:=by rw [hBe];exact hE.size
 have hBV:B≤V.heap.size:=by omega
 clear hBe
 go_loopw [4] (fun v4 wr=>∃ (k:Nat) (sa:Option Addr)(sc:Nat),k≤n3∧v4 = .int .i64 k∧Blk wr gO 54 [.slice b1 n1 d1, .slice b2 n2 d2, .slice sa k sc, .slice b4 n4 d4, .int .i64 j.net, .int .i64 j.sent]∧OwnB wr B sa k sc (j.ck.take k)∧B≤wr.heap.size∧Own wr 0 b1 n1 d1 j.up∧Own wr 0 b2 n2 d2 j.dn∧Own wr 0 b4 n4 d4 j.last∧Blk wr w.heap.size 54 [.slice a1 n1 c1, .slice a2 n2 c2, .slice a3 n3 c3, .slice a4 n4 c4, .int .i64 j.net, .int .i64 j.sent]∧Blk wr (w.heap.size+1) 54 [.slice none 0 0, .slice none 0 0, .slice none 0 0, .slice none 0 0, .int .i64 0, .int .i64 0]∧Ext w wr) (fun v4 _=>n3-(intOf v4).toNat)
 case atStart=>exact ⟨0,none,0,Nat.zero_le _,rfl,hz,OwnB.nil _ _,hBV,o1,o2,o4,hB,hR,hE⟩
 case round =>
  clear hz hBV o1 o2 o4 hB hR hE
  obtain ⟨k,sa,sc,hk,rfl,hz,o3,hBs,o1,o2,o4,hB,hR,hE⟩:=hrel
  haveI:=hz.blt
  haveI:=hB.blt
  have f2:wr.cell? ⟨gO,2,none⟩=some (.slice sa k sc):=hz.cell? 2 rfl
  have g2:wr.cell? ⟨w.heap.size,2,none⟩=some (.slice a3 n3 c3):=hB.cell? 2 rfl
  by_cases hlt2:k<n3
  ·have hk0:(0:Int)≤(k:Int):=by omega
   have hkn:(k:Int)<(n3:Int):=by omega
   obtain ⟨b0,o0,a',n',c',rfl,hb0,hcell,hc',hS⟩:=(h3.ext hE).at k hlt2
   have hkL:k<j.ck.length:=by have:=l3.out;omega
   have hts:=Lib.hid (show j.ck.take (k+1)=j.ck.take k++[j.ck[k]] from List.take_succ_eq_append_getElem hkL)
   have hbx:=hb3 _ (List.getElem_mem hkL)
   generalize j.ck[k]=X at *
   have hXl:=Lib.hid hS.len
   have hn':n'≤1000000:=by have:=hXl.out;omega
   haveI:=hb0
   go_wp2_with fail
   refine wp_region_vague 10 [[],[0],[],[2],[],[2,3,4],[2,3,4,5],[2,3,4,5,6],[2,3,4,5,6,7],[2,3,4,5,6,7,8],[0,1,2,3,4,5,6,7,8,9],[0,1,2,3,4,5,6,7,8,9,10],[0,1,2,3,4,5,6,7,8,9,10,11]] (by kernel_rfl) (by kernel_rfl) (by kernel_rfl) (by kernel_rfl) ?_;simp only [q8q,q9q,q10q,q11q,q12q,q13q]
   (repeat (refine VD_a ?_;(try simp only [Act.put,q0q,q1q,q2q])))
   (refine VD_vag (fun p => .slice (p 0).1 (1) (1)) (fun p w''=>Bss w'' (p 0).1 (1) ([X])) (fun p w w' h hx=>h.ext hx) (fun us w' hx hf=>⟨rfl,?_⟩) ?_;(unfold gives;simp [go_sem,execOp];exact ⟨fun _=>(some ⟨w'.heap.size,0,none⟩,0),rfl,Ext.of_alloc _ _,bss1 (hS.ext hx) _⟩))
   (refine VD_vag (fun p => .slice (p 0).1 (n') (p 0).2) (fun p w''=>Own w'' 0 (p 0).1 (n') (p 0).2 (X)) (fun p w w' h hx=>h.ext hx) (fun us w' hx hf=>⟨rfl,?_⟩) ?_;(unfold gives;simp [go_sem,execOp];exact vag_fresh (Nat.zero_le _) (join1_any _ n' X hXl.out _ (by exact (hf _ (List.mem_append_right _ (List.mem_singleton_self _)) rfl)) hn')))
   (refine VD_vag (fun p => .slice (p 0).1 1 1) (fun p w''=>NewB X w'' (p 0).1) (fun p w w' h hx=>by first|exact h.ext hx|exact ⟨h.1.ext hx,h.2.ext hx⟩|exact ⟨h.1.ext hx,h.2⟩|exact ⟨h.1.ext hx,h.2.1.ext hx,h.2.2.ext hx⟩) (fun us w' hx hf=>⟨rfl,?_⟩) ?_;(unfold gives;simp [go_sem,execOp];exact ⟨fun _=>(some ⟨w'.heap.size,0,none⟩,0),rfl,Ext.of_alloc _ _,NewB.mk (hf _ (List.mem_append_right _ (List.mem_singleton_self _)) rfl) _⟩))
   (refine VD_z ?_;intro us x hx hf;(try simp only [Act.put,q0q,q1q,q2q,wpList_none]);(try simp only [q3q,q4q,or_false,forall_eq_or_imp,forall_eq,q5q,q6q,q7q,false_or,true_and,and_true] at hf);(try simp only [Nat.reduceAdd,Nat.zero_add] at hf ⊢))
   obtain ⟨-, -,hN⟩:=hf
   obtain ⟨aN,haN⟩:∃ a,(us 9 0).1=a:=⟨_,rfl⟩
   rw [haN] at hN ⊢
   clear haN
   obtain ⟨gn,ga,nn,cc,rfl,hRd,hOn⟩:=hN
   have hxx:Ext wr (wr.ext x):=Ext.of_ext _ _
   have o3x:=o3.ext hxx
   have hzx:=hz.extB hxx
   have hRx:=hR.extB hxx
   have hBx1:=hB.extB hxx
   have hEx:=hE.trans hxx
   have hBx:=Nat.le_trans hBs hxx.size
   have o1:=o1.ext hxx
   have o2:=o2.ext hxx
   have o4:=o4.ext hxx
   clear o3 hz hR hE hBs hxx f2 g2 hB
   refine wpList_append_one V8 rfl _ _ rfl B sa k sc _ rfl gn rfl o3x ga nn cc X hRd hOn.sl hOn.le.1 (Own.inBlk hOn) (by omega) hBx ?_
   intro sa' sc' w6 hO6 hg6 hb6
   have hz6:=hzx.grown hg6 (o3x.blk hzx (by decide))
   have hR6:=hRx.grown hg6 (o3x.blk hRx (by decide))
   have hB6b:=hBx1.grown hg6 (o3x.blk hBx1 (by decide))
   have o1:=o1.grownB o3x hg6
   have o2:=o2.grownB o3x hg6
   have o4:=o4.grownB o3x hg6
   have hE6:Ext w w6:=Below.trans hEx (hb6.mono (by omega))
   have hB6:=Nat.le_trans hBx hb6.size
   haveI:=hz6.blt
   have q2:=hz6.cell? 2 rfl
   have z2:=hz6.free 2
   go_wp2
   have hset:=hz6.set 2 (.slice sa' (k+1) sc')
   have hM:Mut gO w6 (w6.setCell ⟨gO,2,none⟩ (.slice sa' (k+1) sc')):=(Mut.refl _ _).setCell 2 _
   go_roundw
   case rel=>exact ⟨k+1,sa',sc',by omega,by go_num,hset,by rw [hts.out];exact hO6.mut hz6 (by decide) (by simp) hM,Nat.le_trans hB6 hM.size,o1.mutT hz6 (by decide) hM,o2.mutT hz6 (by decide) hM,o4.mutT hz6 (by decide) hM,Blk.turn hM hB6b hne1,Blk.turn hM hR6 hne2,Below.trans hE6 (hM.below (by omega) hE6.size)⟩
   case measure=>simp [intOf];omega
  ·obtain rfl:k=n3:=by omega
   have hkn:¬ (k:Int)<(k:Int):=by omega
   rw [List.take_of_length_le (by have:=l3.out;omega)] at o3
   go_wp2_with (first
    | (refine wpList_load_arr (RJ6) rfl _ rfl (gO) (0) rfl ([.slice b1 n1 d1, .slice b2 n2 d2, .slice sa k sc, .slice b4 n4 d4, .int .i64 j.net, .int .i64 j.sent]) (hz.rd) (rfl) ?_)
    | (refine wpList_store_arr (RJ6) rfl _ _ rfl (w.heap.size+1) (0) rfl ([.slice b1 n1 d1, .slice b2 n2 d2, .slice sa k sc, .slice b4 n4 d4, .int .i64 j.net, .int .i64 j.sent]) rfl (54) _ (hR) (rfl) (by simp) (oC) ?_;intro w9 hB9 hM9)
    | fail)
   refine bodyPost_ret (results_arr Tryz.results114 (RJ6) _ _ (w.heap.size+1) (0) ([.slice b1 n1 d1, .slice b2 n2 d2, .slice sa k sc, .slice b4 n4 d4, .int .i64 j.net, .int .i64 j.sent]) rfl (hB9.rd) (rfl)) rfl ?_
   have hEz:Ext w w9:=Below.trans hE (hM9.below (by omega) hE.size)
   exact ⟨b1,d1,b2,d2,sa,sc,b4,d4,rfl,o1.mutT hR (by decide) hM9,o2.mutT hR (by decide) hM9,⟨B,hwB,Nat.le_trans hBs hM9.size,o3.mut hR (by decide) (by simp) hM9⟩,o4.mutT hR (by decide) hM9,hEz⟩
end Go.Proofs.YtdmifbfgeeldnaaGreat

/- The walks of layer 22 of the document: Put. -/
namespace Go.Jar
theorem addOne_small (j:Jar) (b:List UInt8)(h:j.ck.length≤100000):(addOne j b).ck.length≤100000:=by
 unfold addOne
 split
 ·rename_i h1;simp only [List.length_append,List.length_singleton];omega
 ·exact h
theorem addJ_small {n:Nat} (j:Jar) (l:List (List UInt8)) (hn:j.ck.length=n) (h:n≤100000):(addJ j l).ck.length≤100000:=by
 subst hn
 unfold addJ
 induction l generalizing j with
 | nil=>exact h
 | cons b l ih=>rw [List.foldl_cons];exact ih _ (addOne_small j b h)
theorem allC_no {L:List (List UInt8)} {x:List UInt8} (hx:x∈L) (h:¬ x.length=104):allC L=false:=by
 unfold allC
 rw [List.all_eq_false]
 exact ⟨x,hx,by simpa using h⟩
theorem allC_yes {L:List (List UInt8)} (h:∀ x∈L,x.length=104):allC L=true:=by
 unfold allC
 rw [List.all_eq_true]
 exact fun x hx=>by simpa using h x hx
end Go.Jar
namespace Go.Proofs.YtdmifbfgeeldnaaGreat
open Go.RowKit Go.Sec Go.Oct Go.Jar BigFrame
set_option maxHeartbeats 2000000 in
theorem rjput_any (a1 a2 a3 a4 a:Option Addr)(n1 c1 n2 c2 n3 c3 n4 c4 n c:Nat) (j:Jar) (L:List (List UInt8)) (w:World)(h1:Sl w a1 n1 j.up) (m1:n1≤1000000) (h2:Sl w a2 n2 j.dn) (m2:n2≤1000000) (h3:Bsc w a3 n3 j.ck) (hc3:n3≤c3) (hn3:n3≤100000) (hb3:∀ x∈j.ck,x.length≤1000000) (h4:Sl w a4 n4 j.last) (m4:n4≤1000000)
  (hL:Bsc w a n L) (hnn:n≤100000) (hbL:∀ x∈L,x.length≤1000000) :
  Calls Tryz.prog 74 #[.agg #[.slice a1 n1 c1, .slice a2 n2 c2, .slice a3 n3 c3, .slice a4 n4 c4, .int .i64 j.net, .int .i64 j.sent], .slice a n c] w (JarE (putJ j L) w):=by
 have hLl:=Lib.hid hL.len
 have hl3:=Lib.hid h3.len
 have hv:=fun W H1 H2 H3 H4=>rjvalid_any a1 a2 a3 a4 n1 c1 n2 c2 n3 c3 n4 c4 j W H1 H2 H3 hc3 (by omega) H4
 have hcl:=fun W H1 H2 H3 H4=>rjcopy_any a1 a2 a3 a4 n1 c1 n2 c2 n3 c3 n4 c4 j W H1 m1 H2 m2 H3 hn3 hb3 H4 m4
 obtain ⟨r,hr⟩:∃ r,putJ j L=r:=⟨_,rfl⟩
 rw [hr]
 replace hr:=Lib.hid hr
 go_enter Tryz.func74,Tryz.ntmps74
 go_wp2_with (first
  | (refine wpList_load_arr (RJ6) rfl _ rfl (w.heap.size) (0) rfl ([.slice a1 n1 c1, .slice a2 n2 c2, .slice a3 n3 c3, .slice a4 n4 c4, .int .i64 j.net, .int .i64 j.sent]) (((Blk.new w #[.slice a1 n1 c1, .slice a2 n2 c2, .slice a3 n3 c3, .slice a4 n4 c4, .int .i64 j.net, .int .i64 j.sent] 54).alloc _).rd) (rfl) ?_)
  | fail)
 refine nameC ?_
 intro W hW
 have hE:Ext w W:=by rw [hW];exact eX
 have hB:Blk W w.heap.size 54 [.slice a1 n1 c1, .slice a2 n2 c2, .slice a3 n3 c3, .slice a4 n4 c4, .int .i64 j.net, .int .i64 j.sent]:=by rw [hW];exact bK
 have hR:Blk W (w.heap.size+1) 54 [.slice none 0 0, .slice none 0 0, .slice none 0 0, .slice none 0 0, .int .i64 0, .int .i64 0]:=by rw [hW];exact bK
 clear hW
 (with_reducible refine (hv _ (h1.ext hE) (h2.ext hE) (h3.ext hE) (h4.ext hE)).mono ?_)
 rintro e w0 ⟨rfl,hx0⟩
 have hE:=hE.trans hx0
 have hB:=hB.extB hx0
 have hR:=hR.extB hx0
 clear hx0 hv
 haveI:=hB.blt
 haveI:=hR.blt
 cases q:validJ j
 ·have er:=Lib.hid (show r=(zeroJ,3) by rw [← hr.out];unfold putJ;rw [q];rfl)
  clear hr q
  go_wp2_with (first
   | (refine wpList_store_arr (RJ6) rfl _ _ rfl (w.heap.size+1) (0) rfl ([.slice none 0 0, .slice none 0 0, .slice none 0 0, .slice none 0 0, .int .i64 0, .int .i64 0]) rfl (54) _ (hR) (rfl) (by simp) (oC) ?_;intro V hV hMV)
   | fail)
  refine bodyPost_ret (results_arr_tmp Tryz.results74 (RJ6) _ _ (w.heap.size+1) (0) ([.slice none 0 0, .slice none 0 0, .slice none 0 0, .slice none 0 0, .int .i64 0, .int .i64 0]) rfl (hV.rd) (rfl) (.int .i64 3) rfl) rfl ?_
  rw [er.out]
  exact JarE.zero _ _ _ (Below.trans hE (hMV.below (by omega) hE.size))
 ·go_wp2_with fail
  go_loopw [6] (fun v6 wr=>∃ i:Nat,i≤n∧v6 = .int .i64 i∧Hid (∀ x∈L.take i,x.length=104)∧Ext w0 wr) (fun v6 _=>n-(intOf v6).toNat)
  case atStart=>exact ⟨0,by omega,rfl,Lib.hid (by simp),Ext.refl _⟩
  case round =>
   obtain ⟨i,hi,rfl,hm,hX⟩:=hrel
   have hB:=hB.extB hX
   have hR:=hR.extB hX
   have hE:=hE.trans hX
   haveI:=hB.blt
   haveI:=hR.blt
   by_cases hlt:i<n
   ·obtain ⟨b0,o0,a',n',c',rfl,hb0,hcell,hc',hS⟩:=(hL.ext hE).at i hlt
    have k0:(0:Int)≤(i:Int):=by omega
    have k1:(i:Int)<(n:Int):=by omega
    have hiL:i<L.length:=by have:=hLl.out;omega
    have hts:=Lib.hid (show L.take (i+1)=L.take i++[L[i]] from List.take_succ_eq_append_getElem hiL)
    have hmem:=Lib.hid (List.getElem_mem hiL)
    generalize L[i]=X at *
    have hXl:=hS.len
    haveI:=hb0
    by_cases q1:n'=104
    ·have q1i:((n':Int) != 104)=false:=by rw [bne_eq_false_iff_eq];omega
     have hm2:=Lib.hid (show ∀ x∈L.take (i+1),x.length=104 by
      rw [hts.out]
      intro x hx
      rcases List.mem_append.1 hx with h|h
      ·exact hm.out x h
      ·rw [List.mem_singleton.1 h];omega)
     clear hXl
     replace q1:=Lib.hid q1
     go_wp2_with fail
     go_roundw
     case rel=>exact ⟨i+1,by omega,by go_num,hm2,hX⟩
     case measure=>simp [intOf];omega
    ·have q1i:((n':Int) != 104)=true:=by rw [bne_iff_ne];omega
     have er:=Lib.hid (show r=(zeroJ,3) by rw [← hr.out];unfold putJ;rw [q,allC_no hmem.out (by omega)];rfl)
     clear hr q hXl hcl
     go_wp2_with (first
      | (refine wpList_store_arr (RJ6) rfl _ _ rfl (w.heap.size+1) (0) rfl ([.slice none 0 0, .slice none 0 0, .slice none 0 0, .slice none 0 0, .int .i64 0, .int .i64 0]) rfl (54) _ (hR) (rfl) (by simp) (oC) ?_;intro V hV hMV)
      | fail)
     refine bodyPost_ret (results_arr_tmp Tryz.results74 (RJ6) _ _ (w.heap.size+1) (0) ([.slice none 0 0, .slice none 0 0, .slice none 0 0, .slice none 0 0, .int .i64 0, .int .i64 0]) rfl (hV.rd) (rfl) (.int .i64 3) rfl) rfl ?_
     rw [er.out]
     exact JarE.zero _ _ _ (Below.trans hE (hMV.below (by omega) hE.size))
   ·obtain rfl:i=n:=by omega
    have k1:¬ (i:Int)<(i:Int):=by omega
    have er:=Lib.hid (show r=(addJ j L,0) by
     have:=hm.out
     rw [List.take_of_length_le (by have:=hLl.out;omega)] at this
     rw [← hr.out];unfold putJ;rw [q,allC_yes this];rfl)
    have hR':=hR
    have hE':=hE
    clear hr q hm
    go_wp2_with (first
     | (refine wpList_load_arr (RJ6) rfl _ rfl (w.heap.size) (0) rfl ([.slice a1 n1 c1, .slice a2 n2 c2, .slice a3 n3 c3, .slice a4 n4 c4, .int .i64 j.net, .int .i64 j.sent]) (hB.rd) (rfl) ?_)
     | fail)
    (with_reducible refine (hcl _ (h1.ext hE) (h2.ext hE) (h3.ext hE) (h4.ext hE)).mono ?_)
    rintro e w1 ⟨b1,d1,b2,d2,b3,d3,b4,d4,rfl,o1,o2,⟨B,hB0,hBs,o3⟩,o4,hx1⟩
    have hwB:w.heap.size≤B:=Nat.le_trans hE.size hB0
    have hR:=hR.extB hx1
    have hE:=hE.trans hx1
    have hlt:=hR.lt
    clear hcl hx1 hB hR' hE' hB0
    go_wp2_with (first
     | (refine wpList_alloc_store (RJ6) rfl rfl _ _ rfl rfl rfl rfl (by simp [Act.put]) ([.slice b1 n1 d1, .slice b2 n2 d2, .slice b3 n3 d3, .slice b4 n4 d4, .int .i64 j.net, .int .i64 j.sent]) rfl (by simp) (rfl) (oC) ?_;intro x hz _)
     | fail)
    have hxx:Ext w1 (w1.ext x):=Ext.of_ext _ _
    have hR:=hR.extB hxx
    have hE:=hE.trans hxx
    have o1:=o1.ext hxx
    have o2:=o2.ext hxx
    have o3:=o3.ext hxx
    have o4:=o4.ext hxx
    have hBs:=Nat.le_trans hBs hxx.size
    obtain ⟨gO,hgO⟩:∃ g,g=w1.heap.size:=⟨_,rfl⟩
    rw [← hgO] at hz hlt ⊢
    have hne2:w.heap.size+1≠gO:=by omega
    have hwg:w.heap.size≤gO:=by omega
    clear hxx hgO hlt
    generalize w1.ext x=W1 at *
    have hrest:=fun k=>(addJ_rest j (L.take k)).2.2.1
    go_loopw [8] (fun v8 wr=>∃ (k:Nat) (sa:Option Addr)(sc:Nat) (J:Jar),k≤i∧v8 = .int .i64 k∧Hid (J=addJ j (L.take k))∧Blk wr gO 54 [.slice b1 n1 d1, .slice b2 n2 d2, .slice sa J.ck.length sc, .slice b4 n4 d4, .int .i64 j.net, .int .i64 j.sent]∧OwnB wr B sa J.ck.length sc J.ck∧B≤wr.heap.size∧Own wr 0 b1 n1 d1 j.up∧Own wr 0 b2 n2 d2 j.dn∧Own wr 0 b4 n4 d4 j.last∧Blk wr (w.heap.size+1) 54 [.slice none 0 0, .slice none 0 0, .slice none 0 0, .slice none 0 0, .int .i64 0, .int .i64 0]∧Ext w wr) (fun v8 _=>i-(intOf v8).toNat)
    case atStart=>exact ⟨0,b3,d3,j,Nat.zero_le _,rfl,Lib.hid (by rw [q9q];rfl),(by rw [hl3.out];exact hz),(by rw [hl3.out];exact o3),hBs,o1,o2,o4,hR,hE⟩
    case round =>
     clear hz o3 hBs o1 o2 o4 hR hE
     obtain ⟨k,sa,sc,J,hk,rfl,hJ,hz,o3,hBs,o1,o2,o4,hR,hE⟩:=hrel
     haveI:=hz.blt
     have f2:wr.cell? ⟨gO,2,none⟩=some (.slice sa J.ck.length sc):=hz.cell? 2 rfl
     have f3:wr.cell? ⟨gO,3,none⟩=some (.slice b4 n4 d4):=hz.cell? 3 rfl
     by_cases hlt2:k<i
     ·have hk0:(0:Int)≤(k:Int):=by omega
      have hkn:(k:Int)<(i:Int):=by omega
      obtain ⟨b0,o0,a',n',c',rfl,hb0,hcell,hc',hS⟩:=(hL.ext hE).at k hlt2
      have hkL:k<L.length:=by have:=hLl.out;omega
      have hts:=Lib.hid (show L.take (k+1)=L.take k++[L[k]] from List.take_succ_eq_append_getElem hkL)
      have hbx:=hbL _ (List.getElem_mem hkL)
      generalize L[k]=X at *
      have hXl:=Lib.hid hS.len
      have hn':n'≤1000000:=by have:=hXl.out;omega
      haveI:=hb0
      have hsn:=Lib.hid (show addJ j (L.take (k+1))=addOne J X by rw [hts.out,addJ_snoc,← hJ.out])
      have o3b:=o3.bsc
      have o4s:=o4.sl
      by_cases q0:J.ck.length≤1000000
      ·have ghs:=fun V H1 H2=>rjin_any sa a' J.ck.length sc n' c' J.ck X V H1 q0 H2
       have gsm:=fun V H1 H2=>same_any b4 a' n4 d4 n' c' j.last X V H1 H2
       cases q2:decide (X∈J.ck)
       ·have q2':=of_decide_eq_false q2
        simp only [q2] at ghs
        clear q2
        cases q3:(j.last == X)
        ·simp only [q3] at gsm
         have q3':J.last≠X:=by rw [hJ.out,hrest k];simpa using q3
         clear q3
         go_wp2_with fail
         refine wp_region_vague 24 [[],[0],[],[],[2,3],[2,3,4],[0,1,2,3,4,5],[0,1,2,3,4,5,6],[0,1,2,3,4,5,6,7],[0,1,2,3,4,5,6,7,8],[0,1,2,3,4,5,6,7,8,9],[0,1,2,3,4,5,6,7,8],[0,1,2,3,4,5,6,7,8],[0,1,2,3,4,5,6,7,8,11,12],[0,1,2,3,4,5,6,7,8,11,12,13],[0,1,2,3,4,5,6,7,8,9,10,11,12,13,14],[0,1,2,3,4,5,6,7,8,9,10,11,12,13,14,15],[0,1,2,3,4,5,6,7,8,9,10,11,12,13,14,15,16],[0,1,2,3,4,5,6,7,8,9,10,11,12,13,14,15,16,17],[0,1,2,3,4,5,6,7,8,9,10,11,12,13,14,15,16,17,18],[0,1,2,3,4,5,6,7,8,9,10,11,12,13,14,15,16,17,18,19],[0,1,2,3,4,5,6,7,8,9,10,11,12,13,14,15,16,17,18,19,20],[0,1,2,3,4,5,6,7,8,9,10,11,12,13,14,15,16,17,18,19,20,21],[0,1,2,3,4,5,6,7,8,9,10,11,12,13,14,15,16,17,18,19,20,21,22]] (by kernel_rfl) (by kernel_rfl) (by kernel_rfl) (by kernel_rfl) ?_;simp only [q8q,q9q,q10q,q11q,q12q,q13q]
         (repeat (refine VD_a ?_;(try simp only [Act.put,q0q,q1q,q2q])))
         (refine VD_vag (fun _ => .bool false) (fun _ _=>True) (fun _ _ _ _ _=>trivial) (fun us w' hx hf=>⟨rfl,?_⟩) ?_;(unfold gives;simp [go_sem,execOp];refine (ghs _ (o3b.ext hx) (hS.ext hx)).mono ?_;rintro e w1 ⟨rfl,hx1⟩;first|exact ⟨rfl,hx1⟩|simpa using hx1))
         (repeat (refine VD_a ?_;(try simp only [Act.put,q0q,q1q,q2q])))
         (refine VD_vag (fun _ => .bool false) (fun _ _=>True) (fun _ _ _ _ _=>trivial) (fun us w' hx hf=>⟨rfl,?_⟩) ?_;(unfold gives;simp [go_sem,execOp];refine (gsm _ (o4s.ext hx) (hS.ext hx)).mono ?_;rintro e w1 ⟨rfl,hx1⟩;first|exact ⟨rfl,hx1⟩|simpa using hx1))
         (repeat (refine VD_a ?_;(try simp only [Act.put,q0q,q1q,q2q])))
         (refine VD_z ?_;intro us x hx hf;(try simp only [Act.put,q0q,q1q,q2q,wpList_none]);(try simp only [q3q,q4q,or_false,forall_eq_or_imp,forall_eq,q5q,q6q,q7q,false_or,true_and,and_true] at hf);(try simp only [Nat.reduceAdd,Nat.zero_add] at hf ⊢))
         by_cases q1:J.ck.length<8
         ·have q1i:(J.ck.length:Int)<8:=by omega
          have hJ2:=Lib.hid (show ({ J with ck:=J.ck++[X] }:Jar)=addJ j (L.take (k+1)) by rw [hsn.out];unfold addOne;rw [if_pos ⟨q1,q2',q3'⟩])
          have hxx:Ext wr (wr.ext x):=Ext.of_ext _ _
          have hz:=hz.extB hxx
          have o3:=o3.ext hxx
          have o1:=o1.ext hxx
          have o2:=o2.ext hxx
          have o4:=o4.ext hxx
          have hR:=hR.extB hxx
          have hE:=hE.trans hxx
          have hBs:=Nat.le_trans hBs hxx.size
          have hS:=hS.ext hxx
          have hcell:=(hxx.cell (p:=⟨b0,o0+k,none⟩) hb0.lt).trans hcell
          have hb0':BlkLt b0 (wr.ext x):=⟨Nat.lt_of_lt_of_le hb0.lt hxx.size⟩
          clear f2 f3 o3b o4s gsm ghs hxx q2' q3' hJ hsn hts
          generalize wr.ext x=W3 at *
          haveI:=hz.blt
          haveI:=hb0'
          have f2:W3.cell? ⟨gO,2,none⟩=some (.slice sa J.ck.length sc):=hz.cell? 2 rfl
          go_wp2_with fail
          refine wp_region_vague 9 [[],[0],[],[],[2,3],[2,3,4],[2,3,4,5],[2,3,4,5,6],[2,3,4,5,6,7],[0,1,2,3,4,5,6,7,8],[0,1,2,3,4,5,6,7,8,9],[0,1,2,3,4,5,6,7,8,9,10]] (by kernel_rfl) (by kernel_rfl) (by kernel_rfl) (by kernel_rfl) ?_;simp only [q8q,q9q,q10q,q11q,q12q,q13q]
          (repeat (refine VD_a ?_;(try simp only [Act.put,q0q,q1q,q2q])))
          (refine VD_vag (fun p => .slice (p 0).1 (1) (1)) (fun p w''=>Bss w'' (p 0).1 (1) ([X])) (fun p w w' h hx=>h.ext hx) (fun us w' hx hf=>⟨rfl,?_⟩) ?_;(unfold gives;simp [go_sem,execOp];exact ⟨fun _=>(some ⟨w'.heap.size,0,none⟩,0),rfl,Ext.of_alloc _ _,bss1 (hS.ext hx) _⟩))
          (refine VD_vag (fun p => .slice (p 0).1 (n') (p 0).2) (fun p w''=>Own w'' 0 (p 0).1 (n') (p 0).2 (X)) (fun p w w' h hx=>h.ext hx) (fun us w' hx hf=>⟨rfl,?_⟩) ?_;(unfold gives;simp [go_sem,execOp];exact vag_fresh (Nat.zero_le _) (join1_any _ n' X hXl.out _ (by exact (hf _ (List.mem_append_right _ (List.mem_singleton_self _)) rfl)) hn')))
          (refine VD_vag (fun p => .slice (p 0).1 1 1) (fun p w''=>NewB X w'' (p 0).1) (fun p w w' h hx=>by first|exact h.ext hx|exact ⟨h.1.ext hx,h.2.ext hx⟩|exact ⟨h.1.ext hx,h.2⟩|exact ⟨h.1.ext hx,h.2.1.ext hx,h.2.2.ext hx⟩) (fun us w' hx hf=>⟨rfl,?_⟩) ?_;(unfold gives;simp [go_sem,execOp];exact ⟨fun _=>(some ⟨w'.heap.size,0,none⟩,0),rfl,Ext.of_alloc _ _,NewB.mk (hf _ (List.mem_append_right _ (List.mem_singleton_self _)) rfl) _⟩))
          (refine VD_z ?_;intro us x hx hf;(try simp only [Act.put,q0q,q1q,q2q,wpList_none]);(try simp only [q3q,q4q,or_false,forall_eq_or_imp,forall_eq,q5q,q6q,q7q,false_or,true_and,and_true] at hf);(try simp only [Nat.reduceAdd,Nat.zero_add] at hf ⊢))
          obtain ⟨-, -,hN⟩:=hf
          obtain ⟨aN,haN⟩:∃ a,(us 8 0).1=a:=⟨_,rfl⟩
          rw [haN] at hN ⊢
          clear haN
          obtain ⟨gn,ga,nn,cc,rfl,hRd,hOn⟩:=hN
          have hxx:Ext W3 (W3.ext x):=Ext.of_ext _ _
          have o3x:=o3.ext hxx
          have hzx:=hz.extB hxx
          have hRx:=hR.extB hxx
          have hEx:=hE.trans hxx
          have hBx:=Nat.le_trans hBs hxx.size
          have o1:=o1.ext hxx
          have o2:=o2.ext hxx
          have o4:=o4.ext hxx
          clear o3 hz hR hE hBs hxx f2
          refine wpList_append_one V8 rfl _ _ rfl B sa J.ck.length sc J.ck rfl gn rfl o3x ga nn cc X hRd hOn.sl hOn.le.1 (Own.inBlk hOn) (by omega) hBx ?_
          intro sa' sc' w6 hO6 hg6 hb6
          have hz6:=hzx.grown hg6 (o3x.blk hzx (by decide))
          have hR6:=hRx.grown hg6 (o3x.blk hRx (by decide))
          have o1:=o1.grownB o3x hg6
          have o2:=o2.grownB o3x hg6
          have o4:=o4.grownB o3x hg6
          have hE6:Ext w w6:=Below.trans hEx (hb6.mono (by omega))
          have hB6:=Nat.le_trans hBx hb6.size
          haveI:=hz6.blt
          have q2:=hz6.cell? 2 rfl
          have z2:=hz6.free 2
          go_wp2
          have hset:=hz6.set 2 (.slice sa' (J.ck.length+1) sc')
          have hM:Mut gO w6 (w6.setCell ⟨gO,2,none⟩ (.slice sa' (J.ck.length+1) sc')):=(Mut.refl _ _).setCell 2 _
          go_roundw
          case rel=>exact ⟨k+1,sa',sc',{ J with ck:=J.ck++[X] },by omega,by go_num,hJ2,(by rw [List.length_append];exact hset),(by rw [List.length_append];exact hO6.mut hz6 (by decide) (by simp) hM),Nat.le_trans hB6 hM.size,o1.mutT hz6 (by decide) hM,o2.mutT hz6 (by decide) hM,o4.mutT hz6 (by decide) hM,Blk.turn hM hR6 hne2,Below.trans hE6 (hM.below hwg hE6.size)⟩
          case measure=>simp [intOf];omega
         ·have q1i:¬ (J.ck.length:Int)<8:=by omega
          have hJ2:=Lib.hid (show J=addJ j (L.take (k+1)) by rw [hsn.out];unfold addOne;rw [if_neg (fun h=>q1 h.1)])
          have hxx:Ext wr (wr.ext x):=Ext.of_ext _ _
          go_wp2_with fail
          go_roundw
          case rel=>exact ⟨k+1,sa,sc,J,by omega,by go_num,hJ2,hz.extB hxx,o3.ext hxx,Nat.le_trans hBs hxx.size,o1.ext hxx,o2.ext hxx,o4.ext hxx,hR.extB hxx,hE.trans hxx⟩
          case measure=>simp [intOf];omega
        ·simp only [q3] at gsm
         have q3':J.last=X:=by rw [hJ.out,hrest k];simpa using q3
         clear q3
         go_wp2_with fail
         refine wp_region_vague 24 [[],[0],[],[],[2,3],[2,3,4],[0,1,2,3,4,5],[0,1,2,3,4,5,6],[0,1,2,3,4,5,6,7],[0,1,2,3,4,5,6,7,8],[0,1,2,3,4,5,6,7,8,9],[0,1,2,3,4,5,6,7,8],[0,1,2,3,4,5,6,7,8],[0,1,2,3,4,5,6,7,8,11,12],[0,1,2,3,4,5,6,7,8,11,12,13],[0,1,2,3,4,5,6,7,8,9,10,11,12,13,14],[0,1,2,3,4,5,6,7,8,9,10,11,12,13,14,15],[0,1,2,3,4,5,6,7,8,9,10,11,12,13,14,15,16],[0,1,2,3,4,5,6,7,8,9,10,11,12,13,14,15,16,17],[0,1,2,3,4,5,6,7,8,9,10,11,12,13,14,15,16,17,18],[0,1,2,3,4,5,6,7,8,9,10,11,12,13,14,15,16,17,18,19],[0,1,2,3,4,5,6,7,8,9,10,11,12,13,14,15,16,17,18,19,20],[0,1,2,3,4,5,6,7,8,9,10,11,12,13,14,15,16,17,18,19,20,21],[0,1,2,3,4,5,6,7,8,9,10,11,12,13,14,15,16,17,18,19,20,21,22]] (by kernel_rfl) (by kernel_rfl) (by kernel_rfl) (by kernel_rfl) ?_;simp only [q8q,q9q,q10q,q11q,q12q,q13q]
         (repeat (refine VD_a ?_;(try simp only [Act.put,q0q,q1q,q2q])))
         (refine VD_vag (fun _ => .bool false) (fun _ _=>True) (fun _ _ _ _ _=>trivial) (fun us w' hx hf=>⟨rfl,?_⟩) ?_;(unfold gives;simp [go_sem,execOp];refine (ghs _ (o3b.ext hx) (hS.ext hx)).mono ?_;rintro e w1 ⟨rfl,hx1⟩;first|exact ⟨rfl,hx1⟩|simpa using hx1))
         (repeat (refine VD_a ?_;(try simp only [Act.put,q0q,q1q,q2q])))
         (refine VD_vag (fun _ => .bool true) (fun _ _=>True) (fun _ _ _ _ _=>trivial) (fun us w' hx hf=>⟨rfl,?_⟩) ?_;(unfold gives;simp [go_sem,execOp];refine (gsm _ (o4s.ext hx) (hS.ext hx)).mono ?_;rintro e w1 ⟨rfl,hx1⟩;first|exact ⟨rfl,hx1⟩|simpa using hx1))
         (repeat (refine VD_a ?_;(try simp only [Act.put,q0q,q1q,q2q])))
         (repeat (refine VD_skip (fun us=>rfl) ?_;(try simp only [Act.put,q0q,q1q,q2q])))
         (repeat (refine VD_a ?_;(try simp only [Act.put,q0q,q1q,q2q])))
         (refine VD_z ?_;intro us x hx hf;(try simp only [Act.put,q0q,q1q,q2q,wpList_none]);(try simp only [q3q,q4q,or_false,forall_eq_or_imp,forall_eq,q5q,q6q,q7q,false_or,true_and,and_true] at hf);(try simp only [Nat.reduceAdd,Nat.zero_add] at hf ⊢))
         have hJ2:=Lib.hid (show J=addJ j (L.take (k+1)) by rw [hsn.out];unfold addOne;rw [if_neg (fun h=>h.2.2 q3')])
         have hxx:Ext wr (wr.ext x):=Ext.of_ext _ _
         go_wp2_with fail
         go_roundw
         case rel=>exact ⟨k+1,sa,sc,J,by omega,by go_num,hJ2,hz.extB hxx,o3.ext hxx,Nat.le_trans hBs hxx.size,o1.ext hxx,o2.ext hxx,o4.ext hxx,hR.extB hxx,hE.trans hxx⟩
         case measure=>simp [intOf];omega
       ·have q2':=of_decide_eq_true q2
        simp only [q2] at ghs
        clear q2
        go_wp2_with fail
        refine wp_region_vague 24 [[],[0],[],[],[2,3],[2,3,4],[0,1,2,3,4,5],[0,1,2,3,4,5,6],[0,1,2,3,4,5,6,7],[0,1,2,3,4,5,6,7,8],[0,1,2,3,4,5,6,7,8,9],[0,1,2,3,4,5,6,7,8],[0,1,2,3,4,5,6,7,8],[0,1,2,3,4,5,6,7,8,11,12],[0,1,2,3,4,5,6,7,8,11,12,13],[0,1,2,3,4,5,6,7,8,9,10,11,12,13,14],[0,1,2,3,4,5,6,7,8,9,10,11,12,13,14,15],[0,1,2,3,4,5,6,7,8,9,10,11,12,13,14,15,16],[0,1,2,3,4,5,6,7,8,9,10,11,12,13,14,15,16,17],[0,1,2,3,4,5,6,7,8,9,10,11,12,13,14,15,16,17,18],[0,1,2,3,4,5,6,7,8,9,10,11,12,13,14,15,16,17,18,19],[0,1,2,3,4,5,6,7,8,9,10,11,12,13,14,15,16,17,18,19,20],[0,1,2,3,4,5,6,7,8,9,10,11,12,13,14,15,16,17,18,19,20,21],[0,1,2,3,4,5,6,7,8,9,10,11,12,13,14,15,16,17,18,19,20,21,22]] (by kernel_rfl) (by kernel_rfl) (by kernel_rfl) (by kernel_rfl) ?_;simp only [q8q,q9q,q10q,q11q,q12q,q13q]
        (repeat (refine VD_a ?_;(try simp only [Act.put,q0q,q1q,q2q])))
        (refine VD_vag (fun _ => .bool true) (fun _ _=>True) (fun _ _ _ _ _=>trivial) (fun us w' hx hf=>⟨rfl,?_⟩) ?_;(unfold gives;simp [go_sem,execOp];refine (ghs _ (o3b.ext hx) (hS.ext hx)).mono ?_;rintro e w1 ⟨rfl,hx1⟩;first|exact ⟨rfl,hx1⟩|simpa using hx1))
        (repeat (refine VD_a ?_;(try simp only [Act.put,q0q,q1q,q2q])))
        (repeat (refine VD_skip (fun us=>rfl) ?_;(try simp only [Act.put,q0q,q1q,q2q])))
        (repeat (refine VD_a ?_;(try simp only [Act.put,q0q,q1q,q2q])))
        (repeat (refine VD_skip (fun us=>rfl) ?_;(try simp only [Act.put,q0q,q1q,q2q])))
        (repeat (refine VD_a ?_;(try simp only [Act.put,q0q,q1q,q2q])))
        (refine VD_z ?_;intro us x hx hf;(try simp only [Act.put,q0q,q1q,q2q,wpList_none]);(try simp only [q3q,q4q,or_false,forall_eq_or_imp,forall_eq,q5q,q6q,q7q,false_or,true_and,and_true] at hf);(try simp only [Nat.reduceAdd,Nat.zero_add] at hf ⊢))
        have hJ2:=Lib.hid (show J=addJ j (L.take (k+1)) by rw [hsn.out];unfold addOne;rw [if_neg (fun h=>h.2.1 q2')])
        have hxx:Ext wr (wr.ext x):=Ext.of_ext _ _
        go_wp2_with fail
        go_roundw
        case rel=>exact ⟨k+1,sa,sc,J,by omega,by go_num,hJ2,hz.extB hxx,o3.ext hxx,Nat.le_trans hBs hxx.size,o1.ext hxx,o2.ext hxx,o4.ext hxx,hR.extB hxx,hE.trans hxx⟩
        case measure=>simp [intOf];omega
      ·exfalso
       have h1:=addJ_small j (L.take k) hl3.out hn3
       rw [← hJ.out] at h1
       omega
     ·obtain rfl:k=i:=by omega
      have hkn:¬ (k:Int)<(k:Int):=by omega
      have hJe:J=addJ j L:=by have:=hJ.out;rwa [List.take_of_length_le (by have:=hLl.out;omega)] at this
      go_wp2_with (first
       | (refine wpList_load_arr (RJ6) rfl _ rfl (gO) (0) rfl ([.slice b1 n1 d1, .slice b2 n2 d2, .slice sa J.ck.length sc, .slice b4 n4 d4, .int .i64 j.net, .int .i64 j.sent]) (hz.rd) (rfl) ?_)
       | (refine wpList_store_arr (RJ6) rfl _ _ rfl (w.heap.size+1) (0) rfl ([.slice b1 n1 d1, .slice b2 n2 d2, .slice sa J.ck.length sc, .slice b4 n4 d4, .int .i64 j.net, .int .i64 j.sent]) rfl (54) _ (hR) (rfl) (by simp) (oC) ?_;intro w9 hB9 hM9)
       | fail)
      refine bodyPost_ret (results_arr_tmp Tryz.results74 (RJ6) _ _ (w.heap.size+1) (0) ([.slice b1 n1 d1, .slice b2 n2 d2, .slice sa J.ck.length sc, .slice b4 n4 d4, .int .i64 j.net, .int .i64 j.sent]) rfl (hB9.rd) (rfl) (.int .i64 0) rfl) rfl ?_
      obtain ⟨r1,r2,r3,r4,r5⟩:=addJ_rest j L
      rw [er.out]
      have hEz:Ext w w9:=Below.trans hE (hM9.below (by omega) hE.size)
      have o3z:=o3.mut hR (by decide) (by simp) hM9
      rw [hJe] at o3z
      refine ⟨b1,n1,d1,b2,n2,d2,sa,(addJ j L).ck.length,sc,b4,n4,d4,?_,?_,?_,o3z.bsc,o3z.le,o3z.typ3,?_,hEz⟩
      ·show _=Ending.returned (.tuple #[.agg #[_,_,_,_, .int .i64 (addJ j L).net, .int .i64 (addJ j L).sent],_])
       rw [r4,r5,hJe]
      ·show Own w9 0 b1 n1 d1 (addJ j L).up
       rw [r1];exact o1.mutT hR (by decide) hM9
      ·show Own w9 0 b2 n2 d2 (addJ j L).dn
       rw [r2];exact o2.mutT hR (by decide) hM9
      ·show Own w9 0 b4 n4 d4 (addJ j L).last
       rw [r3];exact o4.mutT hR (by decide) hM9
end Go.Proofs.YtdmifbfgeeldnaaGreat
