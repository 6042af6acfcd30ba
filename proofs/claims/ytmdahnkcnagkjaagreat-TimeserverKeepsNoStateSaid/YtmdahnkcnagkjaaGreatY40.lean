/- Lemmas of this claim, several texts joined. -/
import Derived.Test.YtmdahnkcnagkjaaGreatY3
import Derived.Test.YtmdahnkcnagkjaaGreatY8
import Derived.Test.YtmdahnkcnagkjaaGreatY28
import Derived.Test.YtmdahnkcnagkjaaGreatY38
import Derived.Test.YtmdahnkcnagkjaaGreatY39
set_option maxRecDepth 100000
open Go.Value renaming int -> Zz,slice -> Zy
open Go.IntKind renaming i64 -> Zx,u64 -> Zw
open List renaming setIfInBounds_toArray -> q0q, set_cons_succ -> q1q, set_cons_zero -> q2q, mem_cons -> q3q, not_mem_nil -> q4q, nil_append -> q5q, cons_append -> q6q, mem_append -> q7q, take_succ_cons -> q8q, take_zero -> q9q, drop_succ_cons -> q10q, drop_zero -> q11q, take_nil -> q12q, drop_nil -> q13q
open Go.IntWalk renaming i64_in -> q17q, rem_in -> q18q, wrap64_in -> q19q
set_option maxHeartbeats 8000000
set_option linter.unusedVariables false
set_option linter.unusedSimpArgs false
/- The walks of layer 22 of the document: Copy. -/
namespace Go.Proofs.YtmdahnkcnagkjaaGreat
open Go.RowKit Go.Sec Go.Oct Go.Jar BigFrame
theorem dQ (a:Option Addr)(n:Nat) (l:List UInt8)(hl:l.length=n) (w:World)(h:Bss w a 1 [l]) (hn:n<=1000000):Calls Tryz.prog 55 #[Zy a 1 1] w (cj n l w):=by
 have:=aZ a 1 1 [l] w h Zo n (by rw [cz];exact hl) Zo
 rwa [cz] at this
theorem nY (a1 a2 a3 a4:Option Addr)(n1 c1 n2 c2 n3 c3 n4 c4:Nat) (j:Jar) (w:World)(h1:Sl w a1 n1 j.up) (m1:n1<=1000000) (h2:Sl w a2 n2 j.dn) (m2:n2<=1000000) (h3:Bsc w a3 n3 j.ck) (hn3:n3<=100000) (hb3:∀ x∈j.ck,x.length<=1000000) (h4:Sl w a4 n4 j.last) (m4:n4<=1000000) :
  Calls Tryz.prog 104 #[.agg #[Zy a1 n1 c1, Zy a2 n2 c2, Zy a3 n3 c3, Zy a4 n4 c4, Zz Zx j.net, Zz Zx j.sent]] w (DG j n1 n2 n3 n4 w):=by
 have l1:=Lib.hid h1.len;have l2:=Lib.hid h2.len;have l3:=Lib.hid h3.len;have l4:=Lib.hid h4.len
 go_enter Tryz.func104,Tryz.ntmps104
 go_wp2;obtain ⟨W,hW⟩:∃ W,W=(w.alloc (.cells #[Zy a1 n1 c1, Zy a2 n2 c2, Zy a3 n3 c3, Zy a4 n4 c4, Zz Zx j.net, Zz Zx j.sent] 57)).alloc (.cells #[Zy none 0 0, Zy none 0 0, Zy none 0 0, Zy none 0 0, Zz Zx 0, Zz Zx 0] 57):=⟨_,rfl⟩;have hE:Ext w W:=by rw [hW];exact eX
 have hB:Blk W w.heap.size 57 [Zy a1 n1 c1, Zy a2 n2 c2, Zy a3 n3 c3, Zy a4 n4 c4, Zz Zx j.net, Zz Zx j.sent]:=by rw [hW];exact bK
 have hR:Blk W (w.heap.size+1) 57 [Zy none 0 0, Zy none 0 0, Zy none 0 0, Zy none 0 0, Zz Zx 0, Zz Zx 0]:=by rw [hW];exact bK
 rw [<- hW];clear hW;haveI:=hB.blt;have f0:=hB.cell? 0 rfl;have f1:W.cell? ⟨w.heap.size,1,none⟩=some (Zy a2 n2 c2):=hB.cell? 1 rfl;have f3:W.cell? ⟨w.heap.size,3,none⟩=some (Zy a4 n4 c4):=hB.cell? 3 rfl;have f4:W.cell? ⟨w.heap.size,4,none⟩=some (Zz Zx j.net):=hB.cell? 4 rfl;have f5:W.cell? ⟨w.heap.size,5,none⟩=some (Zz Zx j.sent):=hB.cell? 5 rfl;have f1':W.cell? ⟨w.heap.size,0+1,none⟩=some (Zy a2 n2 c2):=hB.cell? 1 rfl;have g1:=h1.ext hE;have g2:=h2.ext hE;have g4:=h4.ext hE;refine R2.ae 21 [[],[0],[0,1],[0,1,2],[0,1,2,3],[],[5],[5,6],[5,6,7],[0,1,2,3,4,5,6,7,8],[0,1,2,3,4,5,6,7,8,9],[],[11],[11,12],[0,1,2,3,4,5,6,7,8,9,11,12,13],[],[15],[],[17],[0,1,2,3,4,5,6,7,8,9,10,11,12,13,14,15,16,17,18],[],[0,1,2,3,4,5,6,7,8,9,10,11,12,13,14,15,16,17,18,19,20]] Zk Zk Zk Zk ?_;simp only [q8q,q9q,q10q,q11q,q12q,q13q];(repeat (refine R2.cy ?_;(try simp only [Act.put,q0q,q1q,q2q])));(refine R2.ao (λ p => .slice (p 0).1 1 1) (λ p w''=>Bss w'' (p 0).1 1 ([j.up])) (λ p w w' h hx=>h.ext hx) (λ us w' hx hf=>⟨rfl,?_⟩) ?_;(unfold gives;simp [go_sem,execOp];exact ⟨λ _=>(some ⟨w'.heap.size,0,none⟩,0),rfl,Ext.of_alloc _ _,gR (g1.ext hx) _⟩));(refine R2.ao (λ p => .slice (p 0).1 n1 (p 0).2) (λ p w''=>Own w'' 0 (p 0).1 n1 (p 0).2 j.up) (λ p w w' h hx=>h.ext hx) (λ us w' hx hf=>⟨rfl,?_⟩) ?_;(unfold gives;simp [go_sem,execOp];exact aA (aam _) (dQ _ n1 j.up l1.out _ (by exact (hf _ (aad _ (aaa _)) rfl)) m1)));(repeat (refine R2.cy ?_;(try simp only [Act.put,q0q,q1q,q2q])));(refine R2.ao (λ p => .slice (p 0).1 1 1) (λ p w''=>Bss w'' (p 0).1 1 ([j.dn])) (λ p w w' h hx=>h.ext hx) (λ us w' hx hf=>⟨rfl,?_⟩) ?_;(unfold gives;simp [go_sem,execOp];exact ⟨λ _=>(some ⟨w'.heap.size,0,none⟩,0),rfl,Ext.of_alloc _ _,gR (g2.ext hx) _⟩));(refine R2.ao (λ p => .slice (p 0).1 n2 (p 0).2) (λ p w''=>Own w'' 0 (p 0).1 n2 (p 0).2 j.dn) (λ p w w' h hx=>h.ext hx) (λ us w' hx hf=>⟨rfl,?_⟩) ?_;(unfold gives;simp [go_sem,execOp];exact aA (aam _) (dQ _ n2 j.dn l2.out _ (by exact (hf _ (aad _ (aaa _)) rfl)) m2)));(repeat (refine R2.cy ?_;(try simp only [Act.put,q0q,q1q,q2q])));(refine R2.ao (λ p => .slice (p 0).1 1 1) (λ p w''=>Bss w'' (p 0).1 1 ([j.last])) (λ p w w' h hx=>h.ext hx) (λ us w' hx hf=>⟨rfl,?_⟩) ?_;(unfold gives;simp [go_sem,execOp];exact ⟨λ _=>(some ⟨w'.heap.size,0,none⟩,0),rfl,Ext.of_alloc _ _,gR (g4.ext hx) _⟩));(refine R2.ao (λ p => .slice (p 0).1 n4 (p 0).2) (λ p w''=>Own w'' 0 (p 0).1 n4 (p 0).2 j.last) (λ p w w' h hx=>h.ext hx) (λ us w' hx hf=>⟨rfl,?_⟩) ?_;(unfold gives;simp [go_sem,execOp];exact aA (aam _) (dQ _ n4 j.last l4.out _ (by exact (hf _ (aad _ (aaa _)) rfl)) m4)));(repeat (refine R2.cy ?_;(try simp only [Act.put,q0q,q1q,q2q])));(refine R2.cW _ ([Zy none 0 0, Zy none 0 0, Zy none 0 0, Zy none 0 0, Zz Zx 0, Zz Zx 0]) Tryz.zeroValue57 rfl rfl rfl ?_);(refine R2.fS ?_;intro us x hx hf hd);obtain ⟨-,hO1, -,hO2, -,hO4,gO,eg,hgW,hz⟩:=hf;obtain ⟨b1,hb1⟩:∃ a,(us 4 0).1=a:=⟨_,rfl⟩;obtain ⟨d1,hd1⟩:∃ a,(us 4 0).2=a:=⟨_,rfl⟩;rw [hb1,hd1] at hO1 ⊢;obtain ⟨b2,hb2⟩:∃ a,(us 9 0).1=a:=⟨_,rfl⟩;obtain ⟨d2,hd2⟩:∃ a,(us 9 0).2=a:=⟨_,rfl⟩;rw [hb2,hd2] at hO2 ⊢;obtain ⟨b4,hb4⟩:∃ a,(us 14 0).1=a:=⟨_,rfl⟩;obtain ⟨d4,hd4⟩:∃ a,(us 14 0).2=a:=⟨_,rfl⟩;rw [hb4,hd4] at hO4 ⊢;rw [eg];have hxx:Ext W (W.ext x):=Ext.of_ext _ _;have hlt:=hB.lt;have hltR:=hR.lt;have hB:=hB.extB hxx;have hR:=hR.extB hxx;have hgE:=aaq hE.size hgW;have hne1:w.heap.size≠gO:=Zo;have hne2:w.heap.size+1≠gO:=Zo;have hE:=hE.trans hxx;clear hb1 hd1 hb2 hd2 hb4 hd4 eg hd hxx f0 f1 f1' f3 f4 f5 g1 g2 g4 hlt hltR hgW;generalize W.ext x=W1 at *;haveI:=hz.blt
 go_wp2_with (first
  | (refine aa RJ6 rfl _ _ rfl gO 0 rfl _ rfl 57 _ hz rfl Zs oC ?_;intro V hV hMV)
  | fail)
 have o1:=hO1.mutT hz Zd hMV;have o2:=hO2.mutT hz Zd hMV;have o4:=hO4.mutT hz Zd hMV;have hB:=Blk.turn hMV hB hne1;have hR:=Blk.turn hMV hR hne2;have hE:Ext w V:=Below.trans hE (hMV.below hgE hE.size);have hz:Blk V gO 57 [Zy b1 n1 d1, Zy b2 n2 d2, Zy none 0 0, Zy b4 n4 d4, Zz Zx j.net, Zz Zx j.sent]:=hV;clear hV hMV hO1 hO2 hO4;obtain ⟨B,hBe⟩:∃ B,B=V.heap.size:=⟨_,rfl⟩;have hwB:w.heap.size<=B:=by rw [hBe];exact hE.size
 have hBV:B<=V.heap.size:=Zo;clear hBe
 go_loopw [4] (λ v4 wr=>∃ (k:Nat) (sa:Option Addr)(sc:Nat),k<=n3/\v4 = Zz Zx k/\Blk wr gO 57 [Zy b1 n1 d1, Zy b2 n2 d2, Zy sa k sc, Zy b4 n4 d4, Zz Zx j.net, Zz Zx j.sent]/\bX wr B sa k sc (j.ck.take k)/\B<=wr.heap.size/\Own wr 0 b1 n1 d1 j.up/\Own wr 0 b2 n2 d2 j.dn/\Own wr 0 b4 n4 d4 j.last/\Blk wr w.heap.size 57 [Zy a1 n1 c1, Zy a2 n2 c2, Zy a3 n3 c3, Zy a4 n4 c4, Zz Zx j.net, Zz Zx j.sent]/\Blk wr (w.heap.size+1) 57 [Zy none 0 0, Zy none 0 0, Zy none 0 0, Zy none 0 0, Zz Zx 0, Zz Zx 0]/\Ext w wr) (λ v4 _=>n3-(intOf v4).toNat)
 case atStart=>exact ⟨0,none,0,aam _,rfl,hz,bX.nil _ _,hBV,o1,o2,o4,hB,hR,hE⟩
 case round =>
  clear hz hBV o1 o2 o4 hB hR hE;obtain ⟨k,sa,sc,hk,rfl,hz,o3,hBs,o1,o2,o4,hB,hR,hE⟩:=hrel;haveI:=hz.blt;haveI:=hB.blt;have f2:wr.cell? ⟨gO,2,none⟩=some (Zy sa k sc):=hz.cell? 2 rfl;have g2:wr.cell? ⟨w.heap.size,2,none⟩=some (Zy a3 n3 c3):=hB.cell? 2 rfl;by_cases hlt2:k<n3
  ·have hk0:(0:Int)<=(k:Int):=by omega
   have hkn:(k:Int)<(n3:Int):=Zo;obtain ⟨b0,o0,a',n',c',rfl,hb0,hcell,hc',hS⟩:=(h3.ext hE).at k hlt2;have hkL:k<j.ck.length:=by have:=l3.out;omega
   have hts:=Lib.hid (show j.ck.take (k+1)=j.ck.take k++[j.ck[k]] from aaA hkL);have hbx:=hb3 _ (aaN hkL);generalize j.ck[k]=X at *;have hXl:=Lib.hid hS.len;have hn':n'<=1000000:=by have:=hXl.out;omega
   haveI:=hb0;go_wp2_with fail;refine ae 10 [[],[0],[],[2],[],[2,3,4],[2,3,4,5],[2,3,4,5,6],[2,3,4,5,6,7],[2,3,4,5,6,7,8],[0,1,2,3,4,5,6,7,8,9],[0,1,2,3,4,5,6,7,8,9,10],[0,1,2,3,4,5,6,7,8,9,10,11]] Zk Zk Zk Zk ?_;simp only [q8q,q9q,q10q,q11q,q12q,q13q];(repeat (apply aj;(case h=>(intro us w' hx hf;obtain ⟨x,rfl⟩:=hx.out;refine ⟨rfl,?_⟩;simp [go_sem,execOp, *];(try simp (disch:=omega) only [q17q,q18q,q19q]);rfl));(try simp only [Act.put,q0q,q1q,q2q])));(refine ao (λ p => .slice (p 0).1 1 1) (λ p w''=>Bss w'' (p 0).1 1 ([X])) (λ p w w' h hx=>h.ext hx) (λ us w' hx hf=>⟨rfl,?_⟩) ?_;(unfold gives;simp [go_sem,execOp];exact ⟨λ _=>(some ⟨w'.heap.size,0,none⟩,0),rfl,Ext.of_alloc _ _,gR (hS.ext hx) _⟩));(refine ao (λ p => .slice (p 0).1 n' (p 0).2) (λ p w''=>Own w'' 0 (p 0).1 n' (p 0).2 X) (λ p w w' h hx=>h.ext hx) (λ us w' hx hf=>⟨rfl,?_⟩) ?_;(unfold gives;simp [go_sem,execOp];exact aA (aam _) (dQ _ n' X hXl.out _ (by exact (hf _ (aad _ (aaa _)) rfl)) hn')));(refine ao (λ p => .slice (p 0).1 1 1) (λ p w''=>ov X w'' (p 0).1) (λ p w w' h hx=>by first|exact h.ext hx|exact ⟨h.1.ext hx,h.2.ext hx⟩|exact ⟨h.1.ext hx,h.2⟩|exact ⟨h.1.ext hx,h.2.1.ext hx,h.2.2.ext hx⟩) (λ us w' hx hf=>⟨rfl,?_⟩) ?_;(unfold gives;simp [go_sem,execOp];exact ⟨λ _=>(some ⟨w'.heap.size,0,none⟩,0),rfl,Ext.of_alloc _ _,ov.mk (hf _ (aad _ (aaa _)) rfl) _⟩));(refine aB ?_;intro us w' hx hf;obtain ⟨x,rfl⟩:=hx.out;(try simp only [Act.put,q0q,q1q,q2q,ai]);(try simp only [q3q,q4q,aar,aac,aan,q5q,q6q,q7q,aat,aau,aav] at hf);(try simp only [Nat.reduceAdd,aag] at hf ⊢));obtain ⟨-, -,hN⟩:=hf;obtain ⟨aN,haN⟩:∃ a,(us 9 0).1=a:=⟨_,rfl⟩;rw [haN] at hN ⊢;clear haN;obtain ⟨gn,ga,nn,cc,rfl,hRd,hOn⟩:=hN;have hxx:Ext wr (wr.ext x):=Ext.of_ext _ _;have o3x:=o3.ext hxx;have hzx:=hz.extB hxx;have hRx:=hR.extB hxx;have hBx1:=hB.extB hxx;have hEx:=hE.trans hxx;have hBx:=aaq hBs hxx.size;have o1:=o1.ext hxx;have o2:=o2.ext hxx;have o4:=o4.ext hxx;clear o3 hz hR hE hBs hxx f2 g2 hB;refine cK V8 rfl _ _ rfl B sa k sc _ rfl gn rfl o3x ga nn cc X hRd hOn.sl hOn.le.1 (Own.inBlk hOn) Zo hBx ?_;intro sa' sc' w6 hO6 hg6 hb6;have hz6:=hzx.grown hg6 (o3x.blk hzx Zd);have hR6:=hRx.grown hg6 (o3x.blk hRx Zd);have hB6b:=hBx1.grown hg6 (o3x.blk hBx1 Zd);have o1:=o1.grownB o3x hg6;have o2:=o2.grownB o3x hg6;have o4:=o4.grownB o3x hg6;have hE6:Ext w w6:=Below.trans hEx (hb6.mono Zo);have hB6:=aaq hBx hb6.size;haveI:=hz6.blt;have q2:=hz6.cell? 2 rfl;have z2:=hz6.free 2;go_wp2;have hset:=hz6.set 2 (Zy sa' (k+1) sc');have hM:Mut gO w6 (w6.setCell ⟨gO,2,none⟩ (Zy sa' (k+1) sc')):=(Mut.refl _ _).setCell 2 _;go_roundw
   case rel=>exact ⟨k+1,sa',sc',Zo,Zg,hset,by rw [hts.out];exact hO6.mut hz6 Zd Zs hM,aaq hB6 hM.size,o1.mutT hz6 Zd hM,o2.mutT hz6 Zd hM,o4.mutT hz6 Zd hM,Blk.turn hM hB6b hne1,Blk.turn hM hR6 hne2,Below.trans hE6 (hM.below Zo hE6.size)⟩
   case measure=>simp [intOf];omega
  ·obtain rfl:k=n3:=by omega
   have hkn:¬ (k:Int)<(k:Int):=Zo;rw [aak (by have:=l3.out;omega)] at o3
   go_wp2_with (first
    | (refine af RJ6 rfl _ rfl gO 0 rfl _ hz.rd rfl ?_)
    | (refine aa RJ6 rfl _ _ rfl (w.heap.size+1) 0 rfl _ rfl 57 _ hR rfl Zs oC ?_;intro w9 hB9 hM9)
    | fail)
   refine aab (aX Tryz.results104 RJ6 _ _ (w.heap.size+1) 0 ([Zy b1 n1 d1, Zy b2 n2 d2, Zy sa k sc, Zy b4 n4 d4, Zz Zx j.net, Zz Zx j.sent]) rfl hB9.rd rfl) rfl ?_;have hEz:Ext w w9:=Below.trans hE (hM9.below Zo hE.size);exact ⟨b1,d1,b2,d2,sa,sc,b4,d4,rfl,o1.mutT hR Zd hM9,o2.mutT hR Zd hM9,⟨B,hwB,aaq hBs hM9.size,o3.mut hR Zd Zs hM9⟩,o4.mutT hR Zd hM9,hEz⟩
end Go.Proofs.YtmdahnkcnagkjaaGreat

/- The walks of layer 22 of the document: Put. -/
namespace Go.Jar
theorem qK (j:Jar) (b:List UInt8)(h:j.ck.length<=100000):(eB j b).ck.length<=100000:=by
 unfold eB;split
 ·rename_i h1;simp only [aah,List.length_singleton];omega
 ·exact h
theorem uC {n:Nat} (j:Jar) (l:List (List UInt8)) (hn:j.ck.length=n) (h:n<=100000):(dS j l).ck.length<=100000:=by
 subst hn;unfold dS
 induction l generalizing j with
 | nil=>exact h
 | cons b l ih=>rw [List.foldl_cons];exact ih _ (qK j b h)
theorem AA {L:List (List UInt8)} {x:List UInt8} (hx:x∈L) (h:¬ x.length=104):pv L=false:=by
 unfold pv;rw [List.all_eq_false];exact ⟨x,hx,by simpa using h⟩
theorem yM {L:List (List UInt8)} (h:∀ x∈L,x.length=104):pv L=true:=by
 unfold pv;rw [aaE];exact λ x hx=>by simpa using h x hx
end Go.Jar
namespace Go.Proofs.YtmdahnkcnagkjaaGreat
open Go.RowKit Go.Sec Go.Oct Go.Jar BigFrame
theorem vR (a1 a2 a3 a4 a:Option Addr)(n1 c1 n2 c2 n3 c3 n4 c4 n c:Nat) (j:Jar) (L:List (List UInt8)) (w:World)(h1:Sl w a1 n1 j.up) (m1:n1<=1000000) (h2:Sl w a2 n2 j.dn) (m2:n2<=1000000) (h3:Bsc w a3 n3 j.ck) (hc3:n3<=c3) (hn3:n3<=100000) (hb3:∀ x∈j.ck,x.length<=1000000) (h4:Sl w a4 n4 j.last) (m4:n4<=1000000)
  (hL:Bsc w a n L) (hnn:n<=100000) (hbL:∀ x∈L,x.length<=1000000) :
  Calls Tryz.prog 66 #[.agg #[Zy a1 n1 c1, Zy a2 n2 c2, Zy a3 n3 c3, Zy a4 n4 c4, Zz Zx j.net, Zz Zx j.sent], Zy a n c] w (xl (rb j L) w):=by
 have hLl:=Lib.hid hL.len;have hl3:=Lib.hid h3.len;have hv:=λ W H1 H2 H3 H4=>ig a1 a2 a3 a4 n1 c1 n2 c2 n3 c3 n4 c4 j W H1 H2 H3 hc3 Zo H4;have hcl:=λ W H1 H2 H3 H4=>nY a1 a2 a3 a4 n1 c1 n2 c2 n3 c3 n4 c4 j W H1 m1 H2 m2 H3 hn3 hb3 H4 m4;obtain ⟨r,hr⟩:∃ r,rb j L=r:=⟨_,rfl⟩;rw [hr];replace hr:=Lib.hid hr
 go_enter Tryz.func66,Tryz.ntmps66
 go_wp2_with (first
  | (refine af RJ6 rfl _ rfl w.heap.size 0 rfl _ (((Blk.new w #[Zy a1 n1 c1, Zy a2 n2 c2, Zy a3 n3 c3, Zy a4 n4 c4, Zz Zx j.net, Zz Zx j.sent] 57).alloc _).rd) rfl ?_)
  | fail)
 refine vk ?_;intro W hW;have hE:Ext w W:=by rw [hW];exact eX
 have hB:Blk W w.heap.size 57 [Zy a1 n1 c1, Zy a2 n2 c2, Zy a3 n3 c3, Zy a4 n4 c4, Zz Zx j.net, Zz Zx j.sent]:=by rw [hW];exact bK
 have hR:Blk W (w.heap.size+1) 57 [Zy none 0 0, Zy none 0 0, Zy none 0 0, Zy none 0 0, Zz Zx 0, Zz Zx 0]:=by rw [hW];exact bK
 clear hW;(with_reducible refine (hv _ (h1.ext hE) (h2.ext hE) (h3.ext hE) (h4.ext hE)).mono ?_);rintro e w0 ⟨rfl,hx0⟩;have hE:=hE.trans hx0;have hB:=hB.extB hx0;have hR:=hR.extB hx0;clear hx0 hv;haveI:=hB.blt;haveI:=hR.blt;cases q:bP j
 ·have er:=Lib.hid (show r=(bT,3) by rw [<- hr.out];unfold rb;rw [q];rfl);clear hr q
  go_wp2_with (first
   | (refine aa RJ6 rfl _ _ rfl (w.heap.size+1) 0 rfl _ rfl 57 _ hR rfl Zs oC ?_;intro V hV hMV)
   | fail)
  refine aab (av Tryz.results66 RJ6 _ _ (w.heap.size+1) 0 ([Zy none 0 0, Zy none 0 0, Zy none 0 0, Zy none 0 0, Zz Zx 0, Zz Zx 0]) rfl hV.rd rfl (Zz Zx 3) rfl) rfl ?_;rw [er.out];exact xl.zero _ _ _ (Below.trans hE (hMV.below Zo hE.size))
 ·go_wp2_with fail
  go_loopw [6] (λ v6 wr=>∃ i:Nat,i<=n/\v6 = Zz Zx i/\Hid (∀ x∈L.take i,x.length=104)/\Ext w0 wr) (λ v6 _=>n-(intOf v6).toNat)
  case atStart=>exact ⟨0,Zo,rfl,Lib.hid Zs,Ext.refl _⟩
  case round =>
   obtain ⟨i,hi,rfl,hm,hX⟩:=hrel;have hB:=hB.extB hX;have hR:=hR.extB hX;have hE:=hE.trans hX;haveI:=hB.blt;haveI:=hR.blt;by_cases hlt:i<n
   ·obtain ⟨b0,o0,a',n',c',rfl,hb0,hcell,hc',hS⟩:=(hL.ext hE).at i hlt;have k0:(0:Int)<=(i:Int):=Zo;have k1:(i:Int)<(n:Int):=Zo;have hiL:i<L.length:=by have:=hLl.out;omega
    have hts:=Lib.hid (show L.take (i+1)=L.take i++[L[i]] from aaA hiL);have hmem:=Lib.hid (aaN hiL);generalize L[i]=X at *;have hXl:=hS.len;haveI:=hb0;by_cases q1:n'=104
    ·have q1i:((n':Int) != 104)=false:=by rw [aai];omega
     have hm2:=Lib.hid (show ∀ x∈L.take (i+1),x.length=104 by
      rw [hts.out];intro x hx;rcases aa4.1 hx with h|h
      ·exact hm.out x h
      ·rw [aaB.1 h];omega)
     clear hXl;replace q1:=Lib.hid q1;go_wp2_with fail;go_roundw
     case rel=>exact ⟨i+1,Zo,Zg,hm2,hX⟩
     case measure=>simp [intOf];omega
    ·have q1i:((n':Int) != 104)=true:=by rw [aax];omega
     have er:=Lib.hid (show r=(bT,3) by rw [<- hr.out];unfold rb;rw [q,AA hmem.out Zo];rfl);clear hr q hXl hcl
     go_wp2_with (first
      | (refine aa RJ6 rfl _ _ rfl (w.heap.size+1) 0 rfl _ rfl 57 _ hR rfl Zs oC ?_;intro V hV hMV)
      | fail)
     refine aab (av Tryz.results66 RJ6 _ _ (w.heap.size+1) 0 ([Zy none 0 0, Zy none 0 0, Zy none 0 0, Zy none 0 0, Zz Zx 0, Zz Zx 0]) rfl hV.rd rfl (Zz Zx 3) rfl) rfl ?_;rw [er.out];exact xl.zero _ _ _ (Below.trans hE (hMV.below Zo hE.size))
   ·obtain rfl:i=n:=by omega
    have k1:¬ (i:Int)<(i:Int):=Zo;have er:=Lib.hid (show r=(dS j L,0) by
     have:=hm.out;rw [aak (by have:=hLl.out;omega)] at this;rw [<- hr.out];unfold rb;rw [q,yM this];rfl)
    have hR':=hR;have hE':=hE;clear hr q hm
    go_wp2_with (first
     | (refine af RJ6 rfl _ rfl w.heap.size 0 rfl _ hB.rd rfl ?_)
     | fail)
    (with_reducible refine (hcl _ (h1.ext hE) (h2.ext hE) (h3.ext hE) (h4.ext hE)).mono ?_);rintro e w1 ⟨b1,d1,b2,d2,b3,d3,b4,d4,rfl,o1,o2,⟨B,hB0,hBs,o3⟩,o4,hx1⟩;have hwB:w.heap.size<=B:=aaq hE.size hB0;have hR:=hR.extB hx1;have hE:=hE.trans hx1;have hlt:=hR.lt;clear hcl hx1 hB hR' hE' hB0
    go_wp2_with (first
     | (refine ag RJ6 rfl rfl _ _ rfl rfl rfl rfl (by simp [Act.put]) _ rfl Zs rfl oC ?_;intro x hz _)
     | fail)
    have hxx:Ext w1 (w1.ext x):=Ext.of_ext _ _;have hR:=hR.extB hxx;have hE:=hE.trans hxx;have o1:=o1.ext hxx;have o2:=o2.ext hxx;have o3:=o3.ext hxx;have o4:=o4.ext hxx;have hBs:=aaq hBs hxx.size;obtain ⟨gO,hgO⟩:∃ g,g=w1.heap.size:=⟨_,rfl⟩;rw [<- hgO] at hz hlt ⊢;have hne2:w.heap.size+1≠gO:=Zo;have hwg:w.heap.size<=gO:=Zo;clear hxx hgO hlt;generalize w1.ext x=W1 at *;have hrest:=λ k=>(qC j (L.take k)).2.2.1
    go_loopw [8] (λ v8 wr=>∃ (k:Nat) (sa:Option Addr)(sc:Nat) (J:Jar),k<=i/\v8 = Zz Zx k/\Hid (J=dS j (L.take k))/\Blk wr gO 57 [Zy b1 n1 d1, Zy b2 n2 d2, Zy sa J.ck.length sc, Zy b4 n4 d4, Zz Zx j.net, Zz Zx j.sent]/\bX wr B sa J.ck.length sc J.ck/\B<=wr.heap.size/\Own wr 0 b1 n1 d1 j.up/\Own wr 0 b2 n2 d2 j.dn/\Own wr 0 b4 n4 d4 j.last/\Blk wr (w.heap.size+1) 57 [Zy none 0 0, Zy none 0 0, Zy none 0 0, Zy none 0 0, Zz Zx 0, Zz Zx 0]/\Ext w wr) (λ v8 _=>i-(intOf v8).toNat)
    case atStart=>exact ⟨0,b3,d3,j,aam _,rfl,Lib.hid (by rw [q9q];rfl),(by rw [hl3.out];exact hz),(by rw [hl3.out];exact o3),hBs,o1,o2,o4,hR,hE⟩
    case round =>
     clear hz o3 hBs o1 o2 o4 hR hE;obtain ⟨k,sa,sc,J,hk,rfl,hJ,hz,o3,hBs,o1,o2,o4,hR,hE⟩:=hrel;haveI:=hz.blt;have f2:wr.cell? ⟨gO,2,none⟩=some (Zy sa J.ck.length sc):=hz.cell? 2 rfl;have f3:wr.cell? ⟨gO,3,none⟩=some (Zy b4 n4 d4):=hz.cell? 3 rfl;by_cases hlt2:k<i
     ·have hk0:(0:Int)<=(k:Int):=by omega
      have hkn:(k:Int)<(i:Int):=Zo;obtain ⟨b0,o0,a',n',c',rfl,hb0,hcell,hc',hS⟩:=(hL.ext hE).at k hlt2;have hkL:k<L.length:=by have:=hLl.out;omega
      have hts:=Lib.hid (show L.take (k+1)=L.take k++[L[k]] from aaA hkL);have hbx:=hbL _ (aaN hkL);generalize L[k]=X at *;have hXl:=Lib.hid hS.len;have hn':n'<=1000000:=by have:=hXl.out;omega
      haveI:=hb0;have hsn:=Lib.hid (show dS j (L.take (k+1))=eB J X by rw [hts.out,wL,<- hJ.out]);have o3b:=o3.bsc;have o4s:=o4.sl;by_cases q0:J.ck.length<=1000000
      ·have ghs:=λ V H1 H2=>lI sa a' J.ck.length sc n' c' J.ck X V H1 q0 H2;have gsm:=λ V H1 H2=>iP b4 a' n4 d4 n' c' j.last X V H1 H2;cases q2:decide (X∈J.ck)
       ·have q2':=of_decide_eq_false q2;simp only [q2] at ghs;clear q2;cases q3:(j.last == X)
        ·simp only [q3] at gsm;have q3':J.last≠X:=by rw [hJ.out,hrest k];simpa using q3
         clear q3;go_wp2_with fail;refine ae 24 [[],[0],[],[],[2,3],[2,3,4],[0,1,2,3,4,5],[0,1,2,3,4,5,6],[0,1,2,3,4,5,6,7],[0,1,2,3,4,5,6,7,8],[0,1,2,3,4,5,6,7,8,9],[0,1,2,3,4,5,6,7,8],[0,1,2,3,4,5,6,7,8],[0,1,2,3,4,5,6,7,8,11,12],[0,1,2,3,4,5,6,7,8,11,12,13],[0,1,2,3,4,5,6,7,8,9,10,11,12,13,14],[0,1,2,3,4,5,6,7,8,9,10,11,12,13,14,15],[0,1,2,3,4,5,6,7,8,9,10,11,12,13,14,15,16],[0,1,2,3,4,5,6,7,8,9,10,11,12,13,14,15,16,17],[0,1,2,3,4,5,6,7,8,9,10,11,12,13,14,15,16,17,18],[0,1,2,3,4,5,6,7,8,9,10,11,12,13,14,15,16,17,18,19],[0,1,2,3,4,5,6,7,8,9,10,11,12,13,14,15,16,17,18,19,20],[0,1,2,3,4,5,6,7,8,9,10,11,12,13,14,15,16,17,18,19,20,21],[0,1,2,3,4,5,6,7,8,9,10,11,12,13,14,15,16,17,18,19,20,21,22]] Zk Zk Zk Zk ?_;simp only [q8q,q9q,q10q,q11q,q12q,q13q];(repeat (apply aj;(case h=>(intro us w' hx hf;obtain ⟨x,rfl⟩:=hx.out;refine ⟨rfl,?_⟩;simp [go_sem,execOp, *];(try simp (disch:=omega) only [q17q,q18q,q19q]);rfl));(try simp only [Act.put,q0q,q1q,q2q])));(refine ao (λ _ => .bool false) (λ _ _=>True) (λ _ _ _ _ _=>trivial) (λ us w' hx hf=>⟨rfl,?_⟩) ?_;(unfold gives;simp [go_sem,execOp];refine (ghs _ (o3b.ext hx) (hS.ext hx)).mono ?_;rintro e w1 ⟨rfl,hx1⟩;first|exact ⟨rfl,hx1⟩|simpa using hx1));(repeat (apply aj;(case h=>(intro us w' hx hf;obtain ⟨x,rfl⟩:=hx.out;refine ⟨rfl,?_⟩;simp [go_sem,execOp, *];(try simp (disch:=omega) only [q17q,q18q,q19q]);rfl));(try simp only [Act.put,q0q,q1q,q2q])));(refine ao (λ _ => .bool false) (λ _ _=>True) (λ _ _ _ _ _=>trivial) (λ us w' hx hf=>⟨rfl,?_⟩) ?_;(unfold gives;simp [go_sem,execOp];refine (gsm _ (o4s.ext hx) (hS.ext hx)).mono ?_;rintro e w1 ⟨rfl,hx1⟩;first|exact ⟨rfl,hx1⟩|simpa using hx1));(repeat (apply aj;(case h=>(intro us w' hx hf;obtain ⟨x,rfl⟩:=hx.out;refine ⟨rfl,?_⟩;simp [go_sem,execOp, *];(try simp (disch:=omega) only [q17q,q18q,q19q]);rfl));(try simp only [Act.put,q0q,q1q,q2q])));(refine aB ?_;intro us w' hx hf;obtain ⟨x,rfl⟩:=hx.out;(try simp only [Act.put,q0q,q1q,q2q,ai]);(try simp only [q3q,q4q,aar,aac,aan,q5q,q6q,q7q,aat,aau,aav] at hf);(try simp only [Nat.reduceAdd,aag] at hf ⊢));by_cases q1:J.ck.length<8
         ·have q1i:(J.ck.length:Int)<8:=by omega
          have hJ2:=Lib.hid (show ({ J with ck:=J.ck++[X] }:Jar)=dS j (L.take (k+1)) by rw [hsn.out];unfold eB;rw [aal ⟨q1,q2',q3'⟩]);have hxx:Ext wr (wr.ext x):=Ext.of_ext _ _;have hz:=hz.extB hxx;have o3:=o3.ext hxx;have o1:=o1.ext hxx;have o2:=o2.ext hxx;have o4:=o4.ext hxx;have hR:=hR.extB hxx;have hE:=hE.trans hxx;have hBs:=aaq hBs hxx.size;have hS:=hS.ext hxx;have hcell:=(hxx.cell (p:=⟨b0,o0+k,none⟩) hb0.lt).trans hcell;have hb0':BlkLt b0 (wr.ext x):=⟨aaj hb0.lt hxx.size⟩;clear f2 f3 o3b o4s gsm ghs hxx q2' q3' hJ hsn hts;generalize wr.ext x=W3 at *;haveI:=hz.blt;haveI:=hb0';have f2:W3.cell? ⟨gO,2,none⟩=some (Zy sa J.ck.length sc):=hz.cell? 2 rfl;go_wp2_with fail;refine ae 9 [[],[0],[],[],[2,3],[2,3,4],[2,3,4,5],[2,3,4,5,6],[2,3,4,5,6,7],[0,1,2,3,4,5,6,7,8],[0,1,2,3,4,5,6,7,8,9],[0,1,2,3,4,5,6,7,8,9,10]] Zk Zk Zk Zk ?_;simp only [q8q,q9q,q10q,q11q,q12q,q13q];(repeat (apply aj;(case h=>(intro us w' hx hf;obtain ⟨x,rfl⟩:=hx.out;refine ⟨rfl,?_⟩;simp [go_sem,execOp, *];(try simp (disch:=omega) only [q17q,q18q,q19q]);rfl));(try simp only [Act.put,q0q,q1q,q2q])));(refine ao (λ p => .slice (p 0).1 1 1) (λ p w''=>Bss w'' (p 0).1 1 ([X])) (λ p w w' h hx=>h.ext hx) (λ us w' hx hf=>⟨rfl,?_⟩) ?_;(unfold gives;simp [go_sem,execOp];exact ⟨λ _=>(some ⟨w'.heap.size,0,none⟩,0),rfl,Ext.of_alloc _ _,gR (hS.ext hx) _⟩));(refine ao (λ p => .slice (p 0).1 n' (p 0).2) (λ p w''=>Own w'' 0 (p 0).1 n' (p 0).2 X) (λ p w w' h hx=>h.ext hx) (λ us w' hx hf=>⟨rfl,?_⟩) ?_;(unfold gives;simp [go_sem,execOp];exact aA (aam _) (dQ _ n' X hXl.out _ (by exact (hf _ (aad _ (aaa _)) rfl)) hn')));(refine ao (λ p => .slice (p 0).1 1 1) (λ p w''=>ov X w'' (p 0).1) (λ p w w' h hx=>by first|exact h.ext hx|exact ⟨h.1.ext hx,h.2.ext hx⟩|exact ⟨h.1.ext hx,h.2⟩|exact ⟨h.1.ext hx,h.2.1.ext hx,h.2.2.ext hx⟩) (λ us w' hx hf=>⟨rfl,?_⟩) ?_;(unfold gives;simp [go_sem,execOp];exact ⟨λ _=>(some ⟨w'.heap.size,0,none⟩,0),rfl,Ext.of_alloc _ _,ov.mk (hf _ (aad _ (aaa _)) rfl) _⟩));(refine aB ?_;intro us w' hx hf;obtain ⟨x,rfl⟩:=hx.out;(try simp only [Act.put,q0q,q1q,q2q,ai]);(try simp only [q3q,q4q,aar,aac,aan,q5q,q6q,q7q,aat,aau,aav] at hf);(try simp only [Nat.reduceAdd,aag] at hf ⊢));obtain ⟨-, -,hN⟩:=hf;obtain ⟨aN,haN⟩:∃ a,(us 8 0).1=a:=⟨_,rfl⟩;rw [haN] at hN ⊢;clear haN;obtain ⟨gn,ga,nn,cc,rfl,hRd,hOn⟩:=hN;have hxx:Ext W3 (W3.ext x):=Ext.of_ext _ _;have o3x:=o3.ext hxx;have hzx:=hz.extB hxx;have hRx:=hR.extB hxx;have hEx:=hE.trans hxx;have hBx:=aaq hBs hxx.size;have o1:=o1.ext hxx;have o2:=o2.ext hxx;have o4:=o4.ext hxx;clear o3 hz hR hE hBs hxx f2;refine cK V8 rfl _ _ rfl B sa J.ck.length sc J.ck rfl gn rfl o3x ga nn cc X hRd hOn.sl hOn.le.1 (Own.inBlk hOn) Zo hBx ?_;intro sa' sc' w6 hO6 hg6 hb6;have hz6:=hzx.grown hg6 (o3x.blk hzx Zd);have hR6:=hRx.grown hg6 (o3x.blk hRx Zd);have o1:=o1.grownB o3x hg6;have o2:=o2.grownB o3x hg6;have o4:=o4.grownB o3x hg6;have hE6:Ext w w6:=Below.trans hEx (hb6.mono Zo);have hB6:=aaq hBx hb6.size;haveI:=hz6.blt;have q2:=hz6.cell? 2 rfl;have z2:=hz6.free 2;go_wp2;have hset:=hz6.set 2 (Zy sa' (J.ck.length+1) sc');have hM:Mut gO w6 (w6.setCell ⟨gO,2,none⟩ (Zy sa' (J.ck.length+1) sc')):=(Mut.refl _ _).setCell 2 _;go_roundw
          case rel=>exact ⟨k+1,sa',sc',{ J with ck:=J.ck++[X] },Zo,Zg,hJ2,(by rw [aah];exact hset),(by rw [aah];exact hO6.mut hz6 Zd Zs hM),aaq hB6 hM.size,o1.mutT hz6 Zd hM,o2.mutT hz6 Zd hM,o4.mutT hz6 Zd hM,Blk.turn hM hR6 hne2,Below.trans hE6 (hM.below hwg hE6.size)⟩
          case measure=>simp [intOf];omega
         ·have q1i:¬ (J.ck.length:Int)<8:=by omega
          have hJ2:=Lib.hid (show J=dS j (L.take (k+1)) by rw [hsn.out];unfold eB;rw [aaf (λ h=>q1 h.1)]);have hxx:Ext wr (wr.ext x):=Ext.of_ext _ _;go_wp2_with fail;go_roundw
          case rel=>exact ⟨k+1,sa,sc,J,Zo,Zg,hJ2,hz.extB hxx,o3.ext hxx,aaq hBs hxx.size,o1.ext hxx,o2.ext hxx,o4.ext hxx,hR.extB hxx,hE.trans hxx⟩
          case measure=>simp [intOf];omega
        ·simp only [q3] at gsm;have q3':J.last=X:=by rw [hJ.out,hrest k];simpa using q3
         clear q3;go_wp2_with fail;refine ae 24 [[],[0],[],[],[2,3],[2,3,4],[0,1,2,3,4,5],[0,1,2,3,4,5,6],[0,1,2,3,4,5,6,7],[0,1,2,3,4,5,6,7,8],[0,1,2,3,4,5,6,7,8,9],[0,1,2,3,4,5,6,7,8],[0,1,2,3,4,5,6,7,8],[0,1,2,3,4,5,6,7,8,11,12],[0,1,2,3,4,5,6,7,8,11,12,13],[0,1,2,3,4,5,6,7,8,9,10,11,12,13,14],[0,1,2,3,4,5,6,7,8,9,10,11,12,13,14,15],[0,1,2,3,4,5,6,7,8,9,10,11,12,13,14,15,16],[0,1,2,3,4,5,6,7,8,9,10,11,12,13,14,15,16,17],[0,1,2,3,4,5,6,7,8,9,10,11,12,13,14,15,16,17,18],[0,1,2,3,4,5,6,7,8,9,10,11,12,13,14,15,16,17,18,19],[0,1,2,3,4,5,6,7,8,9,10,11,12,13,14,15,16,17,18,19,20],[0,1,2,3,4,5,6,7,8,9,10,11,12,13,14,15,16,17,18,19,20,21],[0,1,2,3,4,5,6,7,8,9,10,11,12,13,14,15,16,17,18,19,20,21,22]] Zk Zk Zk Zk ?_;simp only [q8q,q9q,q10q,q11q,q12q,q13q];(repeat (apply aj;(case h=>(intro us w' hx hf;obtain ⟨x,rfl⟩:=hx.out;refine ⟨rfl,?_⟩;simp [go_sem,execOp, *];(try simp (disch:=omega) only [q17q,q18q,q19q]);rfl));(try simp only [Act.put,q0q,q1q,q2q])));(refine ao (λ _ => .bool false) (λ _ _=>True) (λ _ _ _ _ _=>trivial) (λ us w' hx hf=>⟨rfl,?_⟩) ?_;(unfold gives;simp [go_sem,execOp];refine (ghs _ (o3b.ext hx) (hS.ext hx)).mono ?_;rintro e w1 ⟨rfl,hx1⟩;first|exact ⟨rfl,hx1⟩|simpa using hx1));(repeat (apply aj;(case h=>(intro us w' hx hf;obtain ⟨x,rfl⟩:=hx.out;refine ⟨rfl,?_⟩;simp [go_sem,execOp, *];(try simp (disch:=omega) only [q17q,q18q,q19q]);rfl));(try simp only [Act.put,q0q,q1q,q2q])));(refine ao (λ _ => .bool true) (λ _ _=>True) (λ _ _ _ _ _=>trivial) (λ us w' hx hf=>⟨rfl,?_⟩) ?_;(unfold gives;simp [go_sem,execOp];refine (gsm _ (o4s.ext hx) (hS.ext hx)).mono ?_;rintro e w1 ⟨rfl,hx1⟩;first|exact ⟨rfl,hx1⟩|simpa using hx1));(repeat (apply aj;(case h=>(intro us w' hx hf;obtain ⟨x,rfl⟩:=hx.out;refine ⟨rfl,?_⟩;simp [go_sem,execOp, *];(try simp (disch:=omega) only [q17q,q18q,q19q]);rfl));(try simp only [Act.put,q0q,q1q,q2q])));(repeat (refine eV (λ us=>rfl) ?_;(try simp only [Act.put,q0q,q1q,q2q])));(repeat (apply aj;(case h=>(intro us w' hx hf;obtain ⟨x,rfl⟩:=hx.out;refine ⟨rfl,?_⟩;simp [go_sem,execOp, *];(try simp (disch:=omega) only [q17q,q18q,q19q]);rfl));(try simp only [Act.put,q0q,q1q,q2q])));(refine aB ?_;intro us w' hx hf;obtain ⟨x,rfl⟩:=hx.out;(try simp only [Act.put,q0q,q1q,q2q,ai]);(try simp only [q3q,q4q,aar,aac,aan,q5q,q6q,q7q,aat,aau,aav] at hf);(try simp only [Nat.reduceAdd,aag] at hf ⊢));have hJ2:=Lib.hid (show J=dS j (L.take (k+1)) by rw [hsn.out];unfold eB;rw [aaf (λ h=>h.2.2 q3')]);have hxx:Ext wr (wr.ext x):=Ext.of_ext _ _;go_wp2_with fail;go_roundw
         case rel=>exact ⟨k+1,sa,sc,J,Zo,Zg,hJ2,hz.extB hxx,o3.ext hxx,aaq hBs hxx.size,o1.ext hxx,o2.ext hxx,o4.ext hxx,hR.extB hxx,hE.trans hxx⟩
         case measure=>simp [intOf];omega
       ·have q2':=aaV q2;simp only [q2] at ghs;clear q2;go_wp2_with fail;refine ae 24 [[],[0],[],[],[2,3],[2,3,4],[0,1,2,3,4,5],[0,1,2,3,4,5,6],[0,1,2,3,4,5,6,7],[0,1,2,3,4,5,6,7,8],[0,1,2,3,4,5,6,7,8,9],[0,1,2,3,4,5,6,7,8],[0,1,2,3,4,5,6,7,8],[0,1,2,3,4,5,6,7,8,11,12],[0,1,2,3,4,5,6,7,8,11,12,13],[0,1,2,3,4,5,6,7,8,9,10,11,12,13,14],[0,1,2,3,4,5,6,7,8,9,10,11,12,13,14,15],[0,1,2,3,4,5,6,7,8,9,10,11,12,13,14,15,16],[0,1,2,3,4,5,6,7,8,9,10,11,12,13,14,15,16,17],[0,1,2,3,4,5,6,7,8,9,10,11,12,13,14,15,16,17,18],[0,1,2,3,4,5,6,7,8,9,10,11,12,13,14,15,16,17,18,19],[0,1,2,3,4,5,6,7,8,9,10,11,12,13,14,15,16,17,18,19,20],[0,1,2,3,4,5,6,7,8,9,10,11,12,13,14,15,16,17,18,19,20,21],[0,1,2,3,4,5,6,7,8,9,10,11,12,13,14,15,16,17,18,19,20,21,22]] Zk Zk Zk Zk ?_;simp only [q8q,q9q,q10q,q11q,q12q,q13q];(repeat (apply aj;(case h=>(intro us w' hx hf;obtain ⟨x,rfl⟩:=hx.out;refine ⟨rfl,?_⟩;simp [go_sem,execOp, *];(try simp (disch:=omega) only [q17q,q18q,q19q]);rfl));(try simp only [Act.put,q0q,q1q,q2q])));(refine ao (λ _ => .bool true) (λ _ _=>True) (λ _ _ _ _ _=>trivial) (λ us w' hx hf=>⟨rfl,?_⟩) ?_;(unfold gives;simp [go_sem,execOp];refine (ghs _ (o3b.ext hx) (hS.ext hx)).mono ?_;rintro e w1 ⟨rfl,hx1⟩;first|exact ⟨rfl,hx1⟩|simpa using hx1));(repeat (apply aj;(case h=>(intro us w' hx hf;obtain ⟨x,rfl⟩:=hx.out;refine ⟨rfl,?_⟩;simp [go_sem,execOp, *];(try simp (disch:=omega) only [q17q,q18q,q19q]);rfl));(try simp only [Act.put,q0q,q1q,q2q])));(repeat (refine eV (λ us=>rfl) ?_;(try simp only [Act.put,q0q,q1q,q2q])));(repeat (apply aj;(case h=>(intro us w' hx hf;obtain ⟨x,rfl⟩:=hx.out;refine ⟨rfl,?_⟩;simp [go_sem,execOp, *];(try simp (disch:=omega) only [q17q,q18q,q19q]);rfl));(try simp only [Act.put,q0q,q1q,q2q])));(repeat (refine eV (λ us=>rfl) ?_;(try simp only [Act.put,q0q,q1q,q2q])));(repeat (apply aj;(case h=>(intro us w' hx hf;obtain ⟨x,rfl⟩:=hx.out;refine ⟨rfl,?_⟩;simp [go_sem,execOp, *];(try simp (disch:=omega) only [q17q,q18q,q19q]);rfl));(try simp only [Act.put,q0q,q1q,q2q])));(refine aB ?_;intro us w' hx hf;obtain ⟨x,rfl⟩:=hx.out;(try simp only [Act.put,q0q,q1q,q2q,ai]);(try simp only [q3q,q4q,aar,aac,aan,q5q,q6q,q7q,aat,aau,aav] at hf);(try simp only [Nat.reduceAdd,aag] at hf ⊢));have hJ2:=Lib.hid (show J=dS j (L.take (k+1)) by rw [hsn.out];unfold eB;rw [aaf (λ h=>h.2.1 q2')]);have hxx:Ext wr (wr.ext x):=Ext.of_ext _ _;go_wp2_with fail;go_roundw
        case rel=>exact ⟨k+1,sa,sc,J,Zo,Zg,hJ2,hz.extB hxx,o3.ext hxx,aaq hBs hxx.size,o1.ext hxx,o2.ext hxx,o4.ext hxx,hR.extB hxx,hE.trans hxx⟩
        case measure=>simp [intOf];omega
      ·exfalso;have h1:=uC j (L.take k) hl3.out hn3;rw [<- hJ.out] at h1;omega
     ·obtain rfl:k=i:=by omega
      have hkn:¬ (k:Int)<(k:Int):=Zo;have hJe:J=dS j L:=by have:=hJ.out;rwa [aak (by have:=hLl.out;omega)] at this
      go_wp2_with (first
       | (refine af RJ6 rfl _ rfl gO 0 rfl _ hz.rd rfl ?_)
       | (refine aa RJ6 rfl _ _ rfl (w.heap.size+1) 0 rfl _ rfl 57 _ hR rfl Zs oC ?_;intro w9 hB9 hM9)
       | fail)
      refine aab (av Tryz.results66 RJ6 _ _ (w.heap.size+1) 0 ([Zy b1 n1 d1, Zy b2 n2 d2, Zy sa J.ck.length sc, Zy b4 n4 d4, Zz Zx j.net, Zz Zx j.sent]) rfl hB9.rd rfl (Zz Zx 0) rfl) rfl ?_;obtain ⟨r1,r2,r3,r4,r5⟩:=qC j L;rw [er.out];have hEz:Ext w w9:=Below.trans hE (hM9.below Zo hE.size);have o3z:=o3.mut hR Zd Zs hM9;rw [hJe] at o3z;refine ⟨b1,n1,d1,b2,n2,d2,sa,(dS j L).ck.length,sc,b4,n4,d4,?_,?_,?_,o3z.bsc,o3z.le,o3z.typ3,?_,hEz⟩
      ·show _=Ending.returned (.tuple #[.agg #[_,_,_,_, Zz Zx (dS j L).net, Zz Zx (dS j L).sent],_]);rw [r4,r5,hJe]
      ·show Own w9 0 b1 n1 d1 (dS j L).up;rw [r1];exact o1.mutT hR Zd hM9
      ·show Own w9 0 b2 n2 d2 (dS j L).dn;rw [r2];exact o2.mutT hR Zd hM9
      ·show Own w9 0 b4 n4 d4 (dS j L).last;rw [r3];exact o4.mutT hR Zd hM9
end Go.Proofs.YtmdahnkcnagkjaaGreat

/- The walks of layer 18: parse. -/
namespace Go.Proofs.YtmdahnkcnagkjaaGreat
open Go.RowKit Go.Sec Go.Oct Go.Pkt Go.Aes BigFrame
theorem RG2:RowT Tryz.prog 185 2:=⟨⟨_,Tryz.underlying185,rfl⟩,Zk,⟨_,Tryz.zeroValue185,Zk⟩⟩
def iR (r:Option (List UInt8 × List UInt8)) (w:World)(e:Ending) (w':World):Prop :=
 ∃ a1 n1 c1 a2 n2 c2,e = .returned (.tuple #[.agg #[Zy a1 n1 c1, Zy a2 n2 c2], .bool r.isSome])/\(∀ x,r=some x->Sl w' a1 n1 x.1/\n1<=c1/\Sl w' a2 n2 x.2/\n2<=c2)/\Ext w w'
theorem iR.no (w w':World)(hx:Ext w w'):iR none w (.returned (.tuple #[.agg #[Zy none 0 0, Zy none 0 0], .bool false])) w':=⟨_,_,_,_,_,_,rfl,λ x h=>(by cases h),hx⟩
theorem mo (l:List UInt8)(h:l.length<=2):n64 (dy l)=((bR l:Nat):Int):=by
 unfold n64;rw [fK _ Zo]
theorem lX {d:List UInt8} (h:d.length<4):db d=none:=aaf λ k=>by have:=k.1;omega
theorem iX {d:List UInt8} (h:¬ (16<=bR (d.take 2)/\bR (d.take 2)<=32)):db d=none:=aaf λ k=>h k.2.1
theorem jn {d:List UInt8} (h:d.length≠4+aI (bR (d.take 2))+aI (bR ((d.drop 2).take 2))):db d=none:=aaf λ k=>h k.2.2.1
theorem pT {d:List UInt8} (h:aD ((d.drop 4).take (bR (d.take 2))) ((d.drop (4+aI (bR (d.take 2)))).take (bR ((d.drop 2).take 2)))≠d):db d=none:=aaf λ k=>h k.2.2.2
theorem oG {d:List UInt8} (h0:4<=d.length) (h1:16<=bR (d.take 2)/\bR (d.take 2)<=32) (h2:d.length=4+aI (bR (d.take 2))+aI (bR ((d.drop 2).take 2)))
  (h:aD ((d.drop 4).take (bR (d.take 2))) ((d.drop (4+aI (bR (d.take 2)))).take (bR ((d.drop 2).take 2)))=d):db d=some ((d.drop 4).take (bR (d.take 2)),(d.drop (4+aI (bR (d.take 2)))).take (bR ((d.drop 2).take 2))):=aal ⟨h0,h1,h2,h⟩
theorem uh (a:Option Addr)(k c:Nat) (d:List UInt8)(w:World)(hS:Sl w a k d) (hc:k<=c) (hk:k<=1000000) :
  Calls Tryz.prog 125 #[Zy a k c] w (iR (db d) w):=by
 have hl:=hS.len;obtain ⟨r,hr⟩:∃ r,db d=r:=⟨_,rfl⟩;rw [hr];have hr:=Lib.hid hr;by_cases h4:k<4
 ·have er:=Lib.hid (show r=none by rw [<- hr.out];exact lX Zo);have hcut:=λ W=>yQ a k c 4 W (.inr Zo)
  go_enter Tryz.func125,Tryz.ntmps125
  go_wp2_with fail;refine bC ?_;intro W hW;have hE:Ext w W:=by rw [hW];exact eX
  have hG:Blk W w.heap.size 185 [Zy none 0 0, Zy none 0 0]:=by rw [hW];exact bK
  clear hW;(with_reducible refine (hcut W).mono ?_);rintro e w1 ⟨rfl,hx1⟩;have hE1:=hE.trans hx1;have hG:=hG.extB hx1;haveI:=hG.blt
  go_wp2_with (first
   | (refine aa RG2 rfl _ _ rfl w.heap.size 0 rfl _ rfl 185 _ hG rfl Zs oC ?_;intro V hV hMV)
   | fail)
  refine aab (av Tryz.results125 RG2 _ _ w.heap.size 0 ([Zy none 0 0, Zy none 0 0]) rfl hV.rd rfl (.bool false) rfl) rfl ?_;rw [er.out];exact iR.no _ _ (Below.trans hE1 (hMV.below Zo hE1.size))
 ·have hcut:=λ W H=>tJ a k c d 4 W H hk Zo hc;simp only [aap] at hcut;have hh1:((d.take 4).take 2).length<=2:=by simp;omega
  have hh2:((d.take 4).drop 2).length<=2:=by simp;omega
  have g1:=mo _ hh1;have g2:=mo _ hh2;have b1:=fP (d.take 4);have b2:bR ((d.take 4).drop 2)<65536:=by have:=ke ((d.take 4).drop 2);have h2:(256:Nat) ^ ((d.take 4).drop 2).length<=256 ^ 2:=Nat.pow_le_pow_right Zo hh2;omega
  have e1:(d.take 4).take 2=d.take 2:=by rw [List.take_take];rfl
  have e2:(d.take 4).drop 2=(d.drop 2).take 2:=by rw [List.drop_take]
  have hL4:(d.take 4).length=4:=by simp;omega
  have e3:∀ x,(d.drop 4).drop x=d.drop (4+x):=λ x=>by rw [abi]
  go_enter Tryz.func125,Tryz.ntmps125
  go_wp2_with fail;refine bC ?_;intro W hW;have hE:Ext w W:=by rw [hW];exact eX
  have hG:Blk W w.heap.size 185 [Zy none 0 0, Zy none 0 0]:=by rw [hW];exact bK
  clear hW;(with_reducible refine (hcut W (hS.ext hE)).mono ?_);rintro e w1 ⟨a1,c1,a2,c2,rfl,hO1,hO2,hx1⟩;have hE1:=hE.trans hx1;have hG:=hG.extB hx1;have hS:=hS.ext hE1;have s1:=hO1.sl;have s2:=hO2.sl;have k1:=hO1.le.1;have k2:=hO2.le.1;have t1:=s1.take 2 Zo;have t2:=s1.drop c1 2 k1;have hg1:=λ W H=>eG a1 2 c1 ((d.take 4).take 2) W H Zo Zo;have hg2:=λ W H=>eG (dX a1 c1 2 1) 2 (c1-2) ((d.take 4).drop 2) W H Zo Zo;rw [g1] at hg1;rw [g2] at hg2;rw [e1] at hg1 t1;rw [e2] at hg2 t2;have i2:(2:Int)<=(c1:Int):=Zo;clear hE hx1 hcut hO1 g1 g2 e1 e2 hL4 hh1 hh2;obtain ⟨n,hn⟩:∃ n,bR (d.take 2)=n:=⟨_,rfl⟩;obtain ⟨m,hm⟩:∃ m,bR ((d.drop 2).take 2)=m:=⟨_,rfl⟩;rw [hn] at hg1 ;rw [hm] at hg2;have nb:n<65536:=by rw [<- hn];exact fP d
  have mb:m<65536:=by rw [<- hm];exact fP (d.drop 2)
  have s1b:=hS;have hL:=Lib.hid hl;have e3:=Lib.hid e3;have hn:=Lib.hid hn;have hm:=Lib.hid hm;clear b1 b2 s1 hl;go_wp2_with fail;refine ae 10 [[],[0],[0,1],[0,1,2],[],[4],[0,1,2,4,5],[0,1,2,4,5,6],[0,1,2,3,4,5,6],[0,1,2,3,4,5,6,7,8]] Zk Zk Zk Zk ?_;simp only [q8q,q9q,q10q,q11q,q12q,q13q];(repeat (apply aj;(case h=>(intro us w' hx hf;obtain ⟨x,rfl⟩:=hx.out;refine ⟨rfl,?_⟩;simp [go_sem,execOp, *];(try simp (disch:=omega) only [q17q,q18q,q19q]);rfl));(try simp only [Act.put,q0q,q1q,q2q])));(refine ao (λ _ => Zz Zw ((n:Nat):Int)) (λ _ _=>True) (λ _ _ _ _ _=>trivial) (λ us w' hx hf=>⟨rfl,?_⟩) ?_;(unfold gives;simp [go_sem,execOp];refine (hg1 _ (t1.ext hx)).mono ?_;rintro e w1 ⟨rfl,hx1⟩;first|exact ⟨rfl,hx1⟩|simpa using hx1));(repeat (apply aj;(case h=>(intro us w' hx hf;obtain ⟨x,rfl⟩:=hx.out;refine ⟨rfl,?_⟩;simp [go_sem,execOp, *];(try simp (disch:=omega) only [q17q,q18q,q19q]);rfl));(try simp only [Act.put,q0q,q1q,q2q])));(refine ao (λ _ => Zz Zw ((m:Nat):Int)) (λ _ _=>True) (λ _ _ _ _ _=>trivial) (λ us w' hx hf=>⟨rfl,?_⟩) ?_;(unfold gives;simp [go_sem,execOp];refine (hg2 _ (t2.ext hx)).mono ?_;rintro e w1 ⟨rfl,hx1⟩;first|exact ⟨rfl,hx1⟩|simpa using hx1));(repeat (apply aj;(case h=>(intro us w' hx hf;obtain ⟨x,rfl⟩:=hx.out;refine ⟨rfl,?_⟩;simp [go_sem,execOp, *];(try simp (disch:=omega) only [q17q,q18q,q19q]);rfl));(try simp only [Act.put,q0q,q1q,q2q])));(refine aB ?_;intro us w' hx hf;obtain ⟨x,rfl⟩:=hx.out;(try simp only [Act.put,q0q,q1q,q2q,ai]);(try simp only [q3q,q4q,aar,aac,aan,q5q,q6q,q7q,aat,aau,aav] at hf);(try simp only [Nat.reduceAdd,aag] at hf ⊢));have hwn:IntKind.i64.wrap ((n:Nat):Int)=(n:Int):=by rw [abe];omega
  have hwm:IntKind.i64.wrap ((m:Nat):Int)=(m:Int):=by clear hwn;rw [abe];omega
  try rw [hwn]
  try rw [hwm]
  clear hwn hwm hf;have hx5:Ext w1 (w1.ext x):=Ext.of_ext _ _;have hE1:=hE1.trans hx5;have hG:=hG.extB hx5;have s2:=s2.ext hx5;have hS:=hS.ext hx5;generalize w1.ext x=w1 at *;haveI:=hG.blt;clear hg1 hg2 t1 t2 s1b;have pn:aI n<65600:=by unfold aI;omega
  have pm:aI m<65600:=by unfold aI;omega
  have pn0:n<=aI n:=by unfold aI;omega
  have pm0:m<=aI m:=by unfold aI;omega
  by_cases q1:16<=n/\n<=32
  ·have hnn:=λ W=>gU n rfl W;rw [aaC q1] at hnn;by_cases q2:k=4+aI n+aI m
   ·have i3:(((k-4:Nat):Int) != ((aI n:Nat):Int)+((aI m:Nat):Int))=false:=by rw [aai];omega
    have j1:(n:Int)<=(c2:Int):=Zo;have j2:((aI n:Nat):Int)<=((aI n:Nat):Int)+(m:Int):=Zo;have j3:((aI n:Nat):Int)+(m:Int)<=(c2:Int):=Zo;have mk1:n<=c2:=Zo;have mk2:m<=c2-aI n:=Zo;have u1:=s2.take n Zo;have u2:=(s2.drop c2 (aI n) Zo).take m Zo;have hql:=Lib.hid q2;clear q2 s2
    go_wp2_with (first
     | (go_at_call 128;refine (hnn _).mono ?_;rintro e w1 ⟨rfl,hxq⟩;obtain ⟨xq,rfl⟩:=hxq.out;clear hxq)
     | (go_at_call 148;refine (gS _ rfl _ Zo).mono ?_;rintro e w1 ⟨rfl,hxq⟩;obtain ⟨xq,rfl⟩:=hxq.out;clear hxq)
     | fail)
    refine df ?_;intro W5 hW5;have hE6:Ext w1 W5:=by rw [hW5];exact eX
    clear hW5;have hE5:=hE1.trans hE6;have hG5:=hG.extB hE6;have hS5:=hS.ext hE6;have u1:=u1.ext hE6;have u2:=u2.ext hE6;have hgW5:=hG5.lt;clear hG hS hE1 hE6 i3;refine R2.ae 13 [[],[],[0,1],[],[],[4],[],[4,5,6],[],[4,5,6,7,8],[3,4,5,6,7,8,9],[0,1,2,3,4,5,6,7,8,9,10],[],[0,1,2,3,4,5,6,7,8,9,10,11,12]] Zk Zk Zk Zk ?_;simp only [q8q,q9q,q10q,q11q,q12q,q13q];(repeat (refine R2.cy ?_;(try simp only [Act.put,q0q,q1q,q2q])));(refine R2.ao (λ _ => Zz Zx ((aI n:Nat):Int)) (λ _ _=>True) (λ _ _ _ _ _=>trivial) (λ us w' hx hf=>⟨rfl,?_⟩) ?_;(unfold gives;simp [go_sem,execOp];refine (gS n rfl _ Zo).mono ?_;rintro e w1 ⟨rfl,hx1⟩;first|exact ⟨rfl,hx1⟩|simpa using hx1));(repeat (refine R2.cy ?_;(try simp only [Act.put,q0q,q1q,q2q])));(refine R2.ao (λ _ => Zz Zx ((aI n:Nat):Int)) (λ _ _=>True) (λ _ _ _ _ _=>trivial) (λ us w' hx hf=>⟨rfl,?_⟩) ?_;(unfold gives;simp [go_sem,execOp];refine (gS n rfl _ Zo).mono ?_;rintro e w1 ⟨rfl,hx1⟩;first|exact ⟨rfl,hx1⟩|simpa using hx1));(repeat (refine R2.cy ?_;(try simp only [Act.put,q0q,q1q,q2q])));(refine R2.cW _ ([Zy none 0 0, Zy none 0 0]) Tryz.zeroValue185 rfl rfl rfl ?_);(refine R2.fS ?_;intro us x hx hf hd);obtain ⟨g,eg,hgW,hBg⟩:=hf;rw [eg];have hx6:Ext W5 (W5.ext x):=Ext.of_ext _ _;have hgE:=aaq hE5.size hgW;have hE5:=hE5.trans hx6;have hG5:=hG5.extB hx6;have u1:=u1.ext hx6;have u2:=u2.ext hx6;have hS5:=hS5.ext hx6;have hg5:=hG5.lt;have hne:w.heap.size≠g:=Zo;clear eg hd;generalize W5.ext x=W6 at *;haveI:=hG5.blt;haveI:=hBg.blt;have hz:(((aI n:Nat):Int)+(m:Int)).toNat-aI n=m:=Zo;simp only [hz];clear hz
    go_wp2_with (first
     | (refine aa RG2 rfl _ _ rfl g 0 rfl _ rfl 185 _ hBg rfl Zs oC ?_;intro V hV hMV)
     | fail)
    have hV:Blk V g 185 [Zy a2 n c2, Zy (dX a2 c2 (aI n) 1) m (c2-aI n)]:=hV;have hGV:=Blk.turn hMV hG5 hne;have hEV:Ext w V:=Below.trans hE5 (hMV.below hgE hE5.size);have v1:=Sl.mut u1 hBg Zs hMV;have v2:=Sl.mut u2 hBg Zs hMV;have hSV:=Sl.mut hS5 hBg Zs hMV;obtain ⟨N1,hN1⟩:∃ l,(d.drop 4).take n=l:=⟨_,rfl⟩;obtain ⟨N2,hN2⟩:∃ l,((d.drop 4).drop (aI n)).take m=l:=⟨_,rfl⟩;rw [hN1] at v1;rw [hN2] at v2;have hd1:(d.drop 4).take (bR (d.take 2))=N1:=by rw [hn.out];exact hN1
    have hd2:(d.drop (4+aI (bR (d.take 2)))).take (bR ((d.drop 2).take 2))=N2:=by rw [hn.out,hm.out,<- e3.out];exact hN2
    have hyes:=λ h=>oG (d:=d) (by rw [hL.out];omega) (by rw [hn.out];exact q1) (by rw [hL.out,hn.out,hm.out];exact hql.out) h;have hnot:=λ h=>pT (d:=d) h;rw [hd1,hd2,hr.out] at hyes;rw [hd1,hd2,hr.out] at hnot;clear hd1 hd2 hN1 hN2 u1 u2 hS5 hBg hG5 hMV hE5 hn hm hL e3 hql hgW hgW5;haveI:=hV.blt;haveI:=hGV.blt;refine ae 5 [[],[],[1],[],[1,2,3],[0,1,2,3,4],[0,1,2,3,4,5]] Zk Zk Zk Zk ?_;simp only [q8q,q9q,q10q,q11q,q12q,q13q];(refine ay RG2 _ rfl (λ _=>rfl) g 0 (λ _=>by simp [go_sem]) _ hV.rd rfl ?_);(refine ay RG2 _ rfl (λ _=>rfl) g 0 (λ _=>by simp [go_sem]) _ hV.rd rfl ?_);(refine ao (λ p => .slice (p 0).1 (4+aI n+aI m) (p 0).2) (λ p w''=>Own w'' 0 (p 0).1 (4+aI n+aI m) (p 0).2 (aD N1 N2)) (λ p w w' h hx=>h.ext hx) (λ us w' hx hf=>⟨rfl,?_⟩) ?_;(unfold gives;simp [go_sem,execOp];exact aA (aam _) (ns _ _ n c2 m (c2-aI n) N1 N2 _ (v1.ext hx) (v2.ext hx) Zo Zo)));(repeat (apply aj;(case h=>(intro us w' hx hf;obtain ⟨x,rfl⟩:=hx.out;refine ⟨rfl,?_⟩;simp [go_sem,execOp, *];(try simp (disch:=omega) only [q17q,q18q,q19q]);rfl));(try simp only [Act.put,q0q,q1q,q2q])));(refine ao (λ _ => .bool (aD N1 N2 == d)) (λ _ _=>True) (λ _ _ _ _ _=>trivial) (λ us w' hx hf=>⟨rfl,?_⟩) ?_;(unfold gives;simp [go_sem,execOp];refine (mh _ _ _ _ _ _ _ _ _ (Own.sl (hf _ (aad _ (aaa _)) rfl)) (hSV.ext hx)).mono ?_;rintro e w1 ⟨rfl,hx1⟩;first|exact ⟨rfl,hx1⟩|simpa using hx1));(refine aB ?_;intro us w' hx hf;obtain ⟨x,rfl⟩:=hx.out;(try simp only [Act.put,q0q,q1q,q2q,ai]);(try simp only [q3q,q4q,aar,aac,aan,q5q,q6q,q7q,aat,aau,aav] at hf);(try simp only [Nat.reduceAdd,aag] at hf ⊢));have hxx:Ext V (V.ext x):=Ext.of_ext _ _;have hGx:=hGV.extB hxx;have hEx:=hEV.trans hxx;have v1:=v1.ext hxx;have v2:=v2.ext hxx;clear hf hV hGV hEV hSV;generalize V.ext x=V at *;haveI:=hGx.blt;by_cases hq:aD N1 N2=d
    ·have er:=Lib.hid (hyes hq);have hb:(aD N1 N2 == d)=true:=abd.2 hq;rw [hb];clear hq hb hyes hnot
     go_wp2_with (first
      | (refine aa RG2 rfl _ _ rfl w.heap.size 0 rfl _ rfl 185 _ hGx rfl Zs oC ?_;intro V9 hV9 hM9)
      | fail)
     refine aab (av Tryz.results125 RG2 _ _ w.heap.size 0 ([Zy a2 n c2, Zy (dX a2 c2 (aI n) 1) m (c2-aI n)]) rfl hV9.rd rfl (.bool true) rfl) rfl ?_;rw [er.out];exact ⟨_,_,_,_,_,_,rfl,λ y hy=>(by injection hy with hy;subst hy;exact ⟨Sl.mut v1 hGx Zs hM9,mk1,Sl.mut v2 hGx Zs hM9,mk2⟩),Below.trans hEx (hM9.below (aae _) hEx.size)⟩
    ·have er:=Lib.hid (hnot hq);have hb:(aD N1 N2 == d)=false:=aaz.2 hq;rw [hb];clear hq hb hyes hnot
     go_wp2_with (first
      | (refine aa RG2 rfl _ _ rfl w.heap.size 0 rfl _ rfl 185 _ hGx rfl Zs oC ?_;intro V9 hV9 hM9)
      | fail)
     refine aab (av Tryz.results125 RG2 _ _ w.heap.size 0 ([Zy a2 n c2, Zy (dX a2 c2 (aI n) 1) m (c2-aI n)]) rfl hV9.rd rfl (.bool false) rfl) rfl ?_;rw [er.out];exact ⟨_,_,_,_,_,_,rfl,λ y hy=>(by cases hy),Below.trans hEx (hM9.below (aae _) hEx.size)⟩
   ·have er:=Lib.hid (show r=none by rw [<- hr.out];exact jn (by rw [hL.out,hn.out,hm.out];exact q2));have i3:(((k-4:Nat):Int) != ((aI n:Nat):Int)+((aI m:Nat):Int))=true:=by rw [aax];omega
    go_wp2_with (first
     | (go_at_call 128;refine (hnn _).mono ?_;rintro e w1 ⟨rfl,hxq⟩;obtain ⟨xq,rfl⟩:=hxq.out;clear hxq)
     | (go_at_call 148;refine (gS _ rfl _ Zo).mono ?_;rintro e w1 ⟨rfl,hxq⟩;obtain ⟨xq,rfl⟩:=hxq.out;clear hxq)
     | (refine aa RG2 rfl _ _ rfl w.heap.size 0 rfl _ rfl 185 _ ((hG.extB eX)) rfl Zs oC ?_;intro V hV hMV)
     | fail)
    refine aab (av Tryz.results125 RG2 _ _ w.heap.size 0 ([Zy none 0 0, Zy none 0 0]) rfl hV.rd rfl (.bool false) rfl) rfl ?_;rw [er.out];exact iR.no _ _ (Below.trans (hE1.trans eX) (hMV.below Zo (Below.size (hE1.trans eX))))
  ·have er:=Lib.hid (show r=none by rw [<- hr.out];exact iX (by rw [hn.out];exact q1));have hnn:=λ W=>gU n rfl W;rw [aaH q1] at hnn
   go_wp2_with (first
    | (go_at_call 128;refine (hnn _).mono ?_;rintro e w1 ⟨rfl,hxq⟩;obtain ⟨xq,rfl⟩:=hxq.out;clear hxq)
    | (refine aa RG2 rfl _ _ rfl w.heap.size 0 rfl _ rfl 185 _ ((hG.extB eX)) rfl Zs oC ?_;intro V hV hMV)
    | fail)
   refine aab (av Tryz.results125 RG2 _ _ w.heap.size 0 ([Zy none 0 0, Zy none 0 0]) rfl hV.rd rfl (.bool false) rfl) rfl ?_;rw [er.out];exact iR.no _ _ (Below.trans (hE1.trans eX) (hMV.below Zo (Below.size (hE1.trans eX))))
end Go.Proofs.YtmdahnkcnagkjaaGreat
