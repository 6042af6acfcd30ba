/- Lemmas of this claim, several texts joined. -/
import Derived.Test.YtmdahnkcnagkjaaGreatZ39
import Derived.Test.YtmdahnkcnagkjaaGreatZ40
set_option maxRecDepth 100000
open Go.Value renaming int -> Zz,slice -> Zy
open Go.IntKind renaming i64 -> Zx,u64 -> Zw
open List renaming setIfInBounds_toArray -> q0q, set_cons_succ -> q1q, set_cons_zero -> q2q, take_succ_cons -> q8q, take_zero -> q9q, drop_succ_cons -> q10q, drop_zero -> q11q, take_nil -> q12q, drop_nil -> q13q
set_option maxHeartbeats 8000000
set_option linter.unusedVariables false
set_option linter.unusedSimpArgs false
/- The walks of layer 22 of the document: Copy. -/
namespace Go.Proofs.P9
open Go.RowKit Go.Sec Go.Oct Go.Jar BigFrame
theorem dM (a:E8)(n:Nat) (l:E7)(hl:l.length=n) (w:World)(h:Bss w a 1 [l]) (hn:n<=1000000):Calls Tryz.prog 55 #[Zy a 1 1] w (bZ n l w):=by
 have:=aR a 1 1 [l] w h Zo n (by rw [bP];exact hl) Zo
 rwa [bP] at this
theorem nX (a1 a2 a3 a4:E8)(n1 c1 n2 c2 n3 c3 n4 c4:Nat) (j:Jar) (w:World)(h1:Sl w a1 n1 j.up) (m1:n1<=1000000) (h2:Sl w a2 n2 j.dn) (m2:n2<=1000000) (h3:Bsc w a3 n3 j.ck) (hn3:n3<=100000) (hb3:∀ x∈j.ck,x.length<=1000000) (h4:Sl w a4 n4 j.last) (m4:n4<=1000000) :
  Calls Tryz.prog 104 #[.agg #[Zy a1 n1 c1, Zy a2 n2 c2, Zy a3 n3 c3, Zy a4 n4 c4, Zz Zx j.net, Zz Zx j.sent]] w (DC j n1 n2 n3 n4 w):=by
 have l1:=FC h1.len;have l2:=FC h2.len;have l3:=FC h3.len;have l4:=FC h4.len
 go_enter Tryz.func104,Tryz.ntmps104
 go_wp2;obtain ⟨W,hW⟩:∃ W,W=(w.alloc (.cells #[Zy a1 n1 c1, Zy a2 n2 c2, Zy a3 n3 c3, Zy a4 n4 c4, Zz Zx j.net, Zz Zx j.sent] 57)).alloc (.cells #[Zy none 0 0, Zy none 0 0, Zy none 0 0, Zy none 0 0, Zz Zx 0, Zz Zx 0] 57):=⟨_,rfl⟩;have hE:Ext w W:=by rw [hW];exact eX
 have hB:Blk W w.heap.size 57 [Zy a1 n1 c1, Zy a2 n2 c2, Zy a3 n3 c3, Zy a4 n4 c4, Zz Zx j.net, Zz Zx j.sent]:=by rw [hW];exact bK
 have hR:Blk W (w.heap.size+1) 57 [Zy none 0 0, Zy none 0 0, Zy none 0 0, Zy none 0 0, Zz Zx 0, Zz Zx 0]:=by rw [hW];exact bK
 rw [<- hW];clear hW;haveI:=hB.blt;have f0:=hB.cell? 0 rfl;have f1:W.cell? ⟨w.heap.size,1,none⟩=some (Zy a2 n2 c2):=hB.cell? 1 rfl;have f3:W.cell? ⟨w.heap.size,3,none⟩=some (Zy a4 n4 c4):=hB.cell? 3 rfl;have f4:W.cell? ⟨w.heap.size,4,none⟩=some (Zz Zx j.net):=hB.cell? 4 rfl;have f5:W.cell? ⟨w.heap.size,5,none⟩=some (Zz Zx j.sent):=hB.cell? 5 rfl;have f1':W.cell? ⟨w.heap.size,0+1,none⟩=some (Zy a2 n2 c2):=hB.cell? 1 rfl;have g1:=h1.ext hE;have g2:=h2.ext hE;have g4:=h4.ext hE;refine R2.ae 21 [[],[0],[0,1],[0,1,2],[0,1,2,3],[],[5],[5,6],[5,6,7],[0,1,2,3,4,5,6,7,8],[0,1,2,3,4,5,6,7,8,9],[],[11],[11,12],[0,1,2,3,4,5,6,7,8,9,11,12,13],[],[15],[],[17],[0,1,2,3,4,5,6,7,8,9,10,11,12,13,14,15,16,17,18],[],[0,1,2,3,4,5,6,7,8,9,10,11,12,13,14,15,16,17,18,19,20]] [] (λ h=>(h rfl).elim) Zk Zk Zk Zk Zk ?_;simp only [q8q,q9q,q10q,q11q,q12q,q13q];(repeat (refine R2.av ?_;(try simp only [Act.put,q0q,q1q,q2q])));(refine R2.ai (λ p => .slice (p 0).1 1 1) (λ p w''=>Bss w'' (p 0).1 1 ([j.up])) (λ p w w' h hx=>h.ext hx) (λ us w' hx hf=>⟨rfl,?_⟩) ?_;(unfold gives;simp [go_sem,execOp];exact ⟨λ _=>(some ⟨w'.heap.size,0,none⟩,0),rfl,FA _ _,gV (g1.ext hx) _⟩));(refine R2.ai (λ p => .slice (p 0).1 n1 (p 0).2) (λ p w''=>Own w'' 0 (p 0).1 n1 (p 0).2 j.up) (λ p w w' h hx=>h.ext hx) (λ us w' hx hf=>⟨rfl,?_⟩) ?_;(unfold gives;simp [go_sem,execOp];exact az (aak _) (dM _ n1 j.up l1.out _ (by exact (hf _ (aac _ (aab _)) rfl)) m1)));(repeat (refine R2.av ?_;(try simp only [Act.put,q0q,q1q,q2q])));(refine R2.ai (λ p => .slice (p 0).1 1 1) (λ p w''=>Bss w'' (p 0).1 1 ([j.dn])) (λ p w w' h hx=>h.ext hx) (λ us w' hx hf=>⟨rfl,?_⟩) ?_;(unfold gives;simp [go_sem,execOp];exact ⟨λ _=>(some ⟨w'.heap.size,0,none⟩,0),rfl,FA _ _,gV (g2.ext hx) _⟩));(refine R2.ai (λ p => .slice (p 0).1 n2 (p 0).2) (λ p w''=>Own w'' 0 (p 0).1 n2 (p 0).2 j.dn) (λ p w w' h hx=>h.ext hx) (λ us w' hx hf=>⟨rfl,?_⟩) ?_;(unfold gives;simp [go_sem,execOp];exact az (aak _) (dM _ n2 j.dn l2.out _ (by exact (hf _ (aac _ (aab _)) rfl)) m2)));(repeat (refine R2.av ?_;(try simp only [Act.put,q0q,q1q,q2q])));(refine R2.ai (λ p => .slice (p 0).1 1 1) (λ p w''=>Bss w'' (p 0).1 1 ([j.last])) (λ p w w' h hx=>h.ext hx) (λ us w' hx hf=>⟨rfl,?_⟩) ?_;(unfold gives;simp [go_sem,execOp];exact ⟨λ _=>(some ⟨w'.heap.size,0,none⟩,0),rfl,FA _ _,gV (g4.ext hx) _⟩));(refine R2.ai (λ p => .slice (p 0).1 n4 (p 0).2) (λ p w''=>Own w'' 0 (p 0).1 n4 (p 0).2 j.last) (λ p w w' h hx=>h.ext hx) (λ us w' hx hf=>⟨rfl,?_⟩) ?_;(unfold gives;simp [go_sem,execOp];exact az (aak _) (dM _ n4 j.last l4.out _ (by exact (hf _ (aac _ (aab _)) rfl)) m4)));(repeat (refine R2.av ?_;(try simp only [Act.put,q0q,q1q,q2q])));(refine R2.cJ _ ([Zy none 0 0, Zy none 0 0, Zy none 0 0, Zy none 0 0, Zz Zx 0, Zz Zx 0]) Tryz.zeroValue57 rfl rfl rfl ?_);(refine R2.ef ?_;intro us x hx hf hd);obtain ⟨-,hO1, -,hO2, -,hO4,gO,eg,hgW,hz⟩:=hf;obtain ⟨b1,hb1⟩:∃ a,(us 4 0).1=a:=⟨_,rfl⟩;obtain ⟨d1,hd1⟩:∃ a,(us 4 0).2=a:=⟨_,rfl⟩;rw [hb1,hd1] at hO1 ⊢;obtain ⟨b2,hb2⟩:∃ a,(us 9 0).1=a:=⟨_,rfl⟩;obtain ⟨d2,hd2⟩:∃ a,(us 9 0).2=a:=⟨_,rfl⟩;rw [hb2,hd2] at hO2 ⊢;obtain ⟨b4,hb4⟩:∃ a,(us 14 0).1=a:=⟨_,rfl⟩;obtain ⟨d4,hd4⟩:∃ a,(us 14 0).2=a:=⟨_,rfl⟩;rw [hb4,hd4] at hO4 ⊢;rw [eg];have hxx:Ext W (W.ext x):=FE _ _;have hlt:=hB.lt;have hltR:=hR.lt;have hB:=hB.extB hxx;have hR:=hR.extB hxx;have hgE:=aal hE.size hgW;have hne1:w.heap.size≠gO:=Zo;have hne2:w.heap.size+1≠gO:=Zo;have hE:=hE.trans hxx;clear hb1 hd1 hb2 hd2 hb4 hd4 eg hd hxx f0 f1 f1' f3 f4 f5 g1 g2 g4 hlt hltR hgW;generalize W.ext x=W1 at *;haveI:=hz.blt
 go_wp2_with (first
  | (refine aa RJ6 rfl _ _ rfl gO 0 rfl _ rfl 57 _ hz rfl Zs oC ?_;intro V hV hMV)
  | fail)
 have o1:=hO1.mutT hz Zd hMV;have o2:=hO2.mutT hz Zd hMV;have o4:=hO4.mutT hz Zd hMV;have hB:=Blk.turn hMV hB hne1;have hR:=Blk.turn hMV hR hne2;have hE:Ext w V:=E9 hE (hMV.below hgE hE.size);have hz:Blk V gO 57 [Zy b1 n1 d1, Zy b2 n2 d2, Zy none 0 0, Zy b4 n4 d4, Zz Zx j.net, Zz Zx j.sent]:=hV;clear hV hMV hO1 hO2 hO4;obtain ⟨B,hBe⟩:∃ B,B=V.heap.size:=⟨_,rfl⟩;have hwB:w.heap.size<=B:=by rw [hBe];exact hE.size
 have hBV:B<=V.heap.size:=Zo;clear hBe
 go_loopw [4] (λ v4 wr=>∃ (k:Nat) (sa:E8)(sc:Nat),k<=n3/\v4 = Zz Zx k/\Blk wr gO 57 [Zy b1 n1 d1, Zy b2 n2 d2, Zy sa k sc, Zy b4 n4 d4, Zz Zx j.net, Zz Zx j.sent]/\bU wr B sa k sc (j.ck.take k)/\B<=wr.heap.size/\Own wr 0 b1 n1 d1 j.up/\Own wr 0 b2 n2 d2 j.dn/\Own wr 0 b4 n4 d4 j.last/\Blk wr w.heap.size 57 [Zy a1 n1 c1, Zy a2 n2 c2, Zy a3 n3 c3, Zy a4 n4 c4, Zz Zx j.net, Zz Zx j.sent]/\Blk wr (w.heap.size+1) 57 [Zy none 0 0, Zy none 0 0, Zy none 0 0, Zy none 0 0, Zz Zx 0, Zz Zx 0]/\Ext w wr) (λ v4 _=>n3-(intOf v4).toNat)
 case atStart=>exact ⟨0,none,0,aak _,rfl,hz,bU.nil _ _,hBV,o1,o2,o4,hB,hR,hE⟩
 case round =>
  clear hz hBV o1 o2 o4 hB hR hE;obtain ⟨k,sa,sc,hk,rfl,hz,o3,hBs,o1,o2,o4,hB,hR,hE⟩:=hrel;haveI:=hz.blt;haveI:=hB.blt;have f2:wr.cell? ⟨gO,2,none⟩=some (Zy sa k sc):=hz.cell? 2 rfl;have g2:wr.cell? ⟨w.heap.size,2,none⟩=some (Zy a3 n3 c3):=hB.cell? 2 rfl;by_cases hlt2:k<n3
  ·have hk0:(0:Int)<=(k:Int):=by omega
   have hkn:(k:Int)<(n3:Int):=Zo;obtain ⟨b0,o0,a',n',c',rfl,hb0,hcell,hc',hS⟩:=(h3.ext hE).at k hlt2;have hkL:k<j.ck.length:=by have:=l3.out;omega
   have hts:=FC (show j.ck.take (k+1)=j.ck.take k++[j.ck[k]] from aas hkL);have hbx:=hb3 _ (aaB hkL);generalize j.ck[k]=X at *;have hXl:=FC hS.len;have hn':n'<=1000000:=by have:=hXl.out;omega
   haveI:=hb0;go_wp2_with fail;refine R2.ae 10 [[],[0],[],[2],[],[2,3,4],[2,3,4,5],[2,3,4,5,6],[2,3,4,5,6,7],[2,3,4,5,6,7,8],[0,1,2,3,4,5,6,7,8,9],[0,1,2,3,4,5,6,7,8,9,10],[0,1,2,3,4,5,6,7,8,9,10,11]] [] (λ h=>(h rfl).elim) Zk Zk Zk Zk Zk ?_;simp only [q8q,q9q,q10q,q11q,q12q,q13q];(repeat (refine R2.av ?_;(try simp only [Act.put,q0q,q1q,q2q])));(refine R2.ai (λ p => .slice (p 0).1 1 1) (λ p w''=>Bss w'' (p 0).1 1 ([X])) (λ p w w' h hx=>h.ext hx) (λ us w' hx hf=>⟨rfl,?_⟩) ?_;(unfold gives;simp [go_sem,execOp];exact ⟨λ _=>(some ⟨w'.heap.size,0,none⟩,0),rfl,FA _ _,gV (hS.ext hx) _⟩));(refine R2.ai (λ p => .slice (p 0).1 n' (p 0).2) (λ p w''=>Own w'' 0 (p 0).1 n' (p 0).2 X) (λ p w w' h hx=>h.ext hx) (λ us w' hx hf=>⟨rfl,?_⟩) ?_;(unfold gives;simp [go_sem,execOp];exact az (aak _) (dM _ n' X hXl.out _ (by exact (hf _ (aac _ (aab _)) rfl)) hn')));(refine R2.ai (λ p => .slice (p 0).1 1 1) (λ p w''=>pJ X w'' (p 0).1) (λ p w w' h hx=>by first|exact h.ext hx|exact ⟨h.1.ext hx,h.2.ext hx⟩|exact ⟨h.1.ext hx,h.2⟩|exact ⟨h.1.ext hx,h.2.1.ext hx,h.2.2.ext hx⟩) (λ us w' hx hf=>⟨rfl,?_⟩) ?_;(unfold gives;simp [go_sem,execOp];exact ⟨λ _=>(some ⟨w'.heap.size,0,none⟩,0),rfl,FA _ _,pJ.mk (hf _ (aac _ (aab _)) rfl) _⟩));(refine R2.aU ?_;intro us x hx hf);obtain ⟨-, -,hN⟩:=hf;obtain ⟨aN,haN⟩:∃ a,(us 9 0).1=a:=⟨_,rfl⟩;rw [haN] at hN ⊢;clear haN;obtain ⟨gn,ga,nn,cc,rfl,hRd,hOn⟩:=hN;have hxx:Ext wr (wr.ext x):=FE _ _;have o3x:=o3.ext hxx;have hzx:=hz.extB hxx;have hRx:=hR.extB hxx;have hBx1:=hB.extB hxx;have hEx:=hE.trans hxx;have hBx:=aal hBs hxx.size;have o1:=o1.ext hxx;have o2:=o2.ext hxx;have o4:=o4.ext hxx;clear o3 hz hR hE hBs hxx f2 g2 hB;refine cE V8 rfl _ _ rfl B sa k sc _ rfl gn rfl o3x ga nn cc X hRd hOn.sl hOn.le.1 (Own.inBlk hOn) Zo hBx ?_;intro sa' sc' w6 hO6 hg6 hb6;have hz6:=hzx.grown hg6 (o3x.blk hzx Zd);have hR6:=hRx.grown hg6 (o3x.blk hRx Zd);have hB6b:=hBx1.grown hg6 (o3x.blk hBx1 Zd);have o1:=o1.grownB o3x hg6;have o2:=o2.grownB o3x hg6;have o4:=o4.grownB o3x hg6;have hE6:Ext w w6:=E9 hEx (hb6.mono Zo);have hB6:=aal hBx hb6.size;haveI:=hz6.blt;have q2:=hz6.cell? 2 rfl;have z2:=hz6.free 2;go_wp2;have hset:=hz6.set 2 (Zy sa' (k+1) sc');have hM:Mut gO w6 (w6.setCell ⟨gO,2,none⟩ (Zy sa' (k+1) sc')):=(Mut.refl _ _).setCell 2 _;go_roundw
   case rel=>exact ⟨k+1,sa',sc',Zo,Zg,hset,by rw [hts.out];exact hO6.mut hz6 Zd Zs hM,aal hB6 hM.size,o1.mutT hz6 Zd hM,o2.mutT hz6 Zd hM,o4.mutT hz6 Zd hM,Blk.turn hM hB6b hne1,Blk.turn hM hR6 hne2,E9 hE6 (hM.below Zo hE6.size)⟩
   case measure=>simp [intOf];omega
  ·obtain rfl:k=n3:=by omega
   have hkn:¬ (k:Int)<(k:Int):=Zo;rw [aah (by have:=l3.out;omega)] at o3
   go_wp2_with (first
    | (refine af RJ6 rfl _ rfl gO 0 rfl _ hz.rd rfl ?_)
    | (refine aa RJ6 rfl _ _ rfl (w.heap.size+1) 0 rfl _ rfl 57 _ hR rfl Zs oC ?_;intro w9 hB9 hM9)
    | fail)
   refine aaa (aL Tryz.results104 RJ6 _ _ (w.heap.size+1) 0 _ rfl hB9.rd rfl) rfl ?_;have hEz:Ext w w9:=E9 hE (hM9.below Zo hE.size);exact ⟨b1,d1,b2,d2,sa,sc,b4,d4,rfl,o1.mutT hR Zd hM9,o2.mutT hR Zd hM9,⟨B,hwB,aal hBs hM9.size,o3.mut hR Zd Zs hM9⟩,o4.mutT hR Zd hM9,hEz⟩
end Go.Proofs.P9

/- The walks of layer 22 of the document: Put. -/
namespace Go.Jar
theorem sf (j:Jar) (b:E7)(h:j.ck.length<=100000):(ey j b).ck.length<=100000:=by
 unfold ey;split
 ·rename_i h1;simp only [aag,List.length_singleton];omega
 ·exact h
theorem u0 {n:Nat} (j:Jar) (l:List E7) (hn:j.ck.length=n) (h:n<=100000):(dR j l).ck.length<=100000:=by
 subst hn;unfold dR
 induction l generalizing j with
 | nil=>exact h
 | cons b l ih=>rw [List.foldl_cons];exact ih _ (sf j b h)
theorem AA {L:List (E7)} {x:E7} (hx:x∈L) (h:¬ x.length=104):oR L=false:=by
 unfold oR;rw [abC];exact ⟨x,hx,by simpa using h⟩
theorem yN {L:List (E7)} (h:∀ x∈L,x.length=104):oR L=true:=by
 unfold oR;rw [aaw];exact λ x hx=>by simpa using h x hx
end Go.Jar
namespace Go.Proofs.P9
open Go.RowKit Go.Sec Go.Oct Go.Jar BigFrame
theorem wZ (a1 a2 a3 a4 a:E8)(n1 c1 n2 c2 n3 c3 n4 c4 n c:Nat) (j:Jar) (L:List E7) (w:World)(h1:Sl w a1 n1 j.up) (m1:n1<=1000000) (h2:Sl w a2 n2 j.dn) (m2:n2<=1000000) (h3:Bsc w a3 n3 j.ck) (hc3:n3<=c3) (hn3:n3<=100000) (hb3:∀ x∈j.ck,x.length<=1000000) (h4:Sl w a4 n4 j.last) (m4:n4<=1000000)
  (hL:Bsc w a n L) (hnn:n<=100000) (hbL:∀ x∈L,x.length<=1000000) :
  Calls Tryz.prog 66 #[.agg #[Zy a1 n1 c1, Zy a2 n2 c2, Zy a3 n3 c3, Zy a4 n4 c4, Zz Zx j.net, Zz Zx j.sent], Zy a n c] w (wX (rZ j L) w):=by
 have hLl:=FC hL.len;have hl3:=FC h3.len;have hv:=λ W H1 H2 H3 H4=>ic a1 a2 a3 a4 n1 c1 n2 c2 n3 c3 n4 c4 j W H1 H2 H3 hc3 Zo H4;have hcl:=λ W H1 H2 H3 H4=>nX a1 a2 a3 a4 n1 c1 n2 c2 n3 c3 n4 c4 j W H1 m1 H2 m2 H3 hn3 hb3 H4 m4;obtain ⟨r,hr⟩:∃ r,rZ j L=r:=⟨_,rfl⟩;rw [hr];replace hr:=FC hr
 go_enter Tryz.func66,Tryz.ntmps66
 go_wp2_with (first
  | (refine af RJ6 rfl _ rfl w.heap.size 0 rfl _ (((Blk.new w #[Zy a1 n1 c1, Zy a2 n2 c2, Zy a3 n3 c3, Zy a4 n4 c4, Zz Zx j.net, Zz Zx j.sent] 57).alloc _).rd) rfl ?_)
  | fail)
 refine vx ?_;intro W hW;have hE:Ext w W:=by rw [hW];exact eX
 have hB:Blk W w.heap.size 57 [Zy a1 n1 c1, Zy a2 n2 c2, Zy a3 n3 c3, Zy a4 n4 c4, Zz Zx j.net, Zz Zx j.sent]:=by rw [hW];exact bK
 have hR:Blk W (w.heap.size+1) 57 [Zy none 0 0, Zy none 0 0, Zy none 0 0, Zy none 0 0, Zz Zx 0, Zz Zx 0]:=by rw [hW];exact bK
 clear hW;(with_reducible refine (hv _ (h1.ext hE) (h2.ext hE) (h3.ext hE) (h4.ext hE)).mono ?_);rintro e w0 ⟨rfl,hx0⟩;have hE:=hE.trans hx0;have hB:=hB.extB hx0;have hR:=hR.extB hx0;clear hx0 hv;haveI:=hB.blt;haveI:=hR.blt;cases q:bQ j
 ·have er:=FC (show r=(bT,3) by rw [<- hr.out];unfold rZ;rw [q];rfl);clear hr q
  go_wp2_with (first
   | (refine aa RJ6 rfl _ _ rfl (w.heap.size+1) 0 rfl _ rfl 57 _ hR rfl Zs oC ?_;intro V hV hMV)
   | fail)
  refine aaa (aj Tryz.results66 RJ6 _ _ (w.heap.size+1) 0 ([Zy none 0 0, Zy none 0 0, Zy none 0 0, Zy none 0 0, Zz Zx 0, Zz Zx 0]) rfl hV.rd rfl (Zz Zx 3) rfl) rfl ?_;rw [er.out];exact wX.zero _ _ _ (E9 hE (hMV.below Zo hE.size))
 ·go_wp2_with fail
  go_loopw [6] (λ v6 wr=>∃ i:Nat,i<=n/\v6 = Zz Zx i/\Hid (∀ x∈L.take i,x.length=104)/\Ext w0 wr) (λ v6 _=>n-(intOf v6).toNat)
  case atStart=>exact ⟨0,Zo,rfl,FC Zs,FD _⟩
  case round =>
   obtain ⟨i,hi,rfl,hm,hX⟩:=hrel;have hB:=hB.extB hX;have hR:=hR.extB hX;have hE:=hE.trans hX;haveI:=hB.blt;haveI:=hR.blt;by_cases hlt:i<n
   ·obtain ⟨b0,o0,a',n',c',rfl,hb0,hcell,hc',hS⟩:=(hL.ext hE).at i hlt;have k0:(0:Int)<=(i:Int):=Zo;have k1:(i:Int)<(n:Int):=Zo;have hiL:i<L.length:=by have:=hLl.out;omega
    have hts:=FC (show L.take (i+1)=L.take i++[L[i]] from aas hiL);have hmem:=FC (aaB hiL);generalize L[i]=X at *;have hXl:=hS.len;haveI:=hb0;by_cases q1:n'=104
    ·have q1i:((n':Int) != 104)=false:=by rw [aaf];omega
     have hm2:=FC (show ∀ x∈L.take (i+1),x.length=104 by
      rw [hts.out];intro x hx;rcases aaP.1 hx with h|h
      ·exact hm.out x h
      ·rw [aau.1 h];omega)
     clear hXl;replace q1:=FC q1;go_wp2_with fail;go_roundw
     case rel=>exact ⟨i+1,Zo,Zg,hm2,hX⟩
     case measure=>simp [intOf];omega
    ·have q1i:((n':Int) != 104)=true:=by rw [aao];omega
     have er:=FC (show r=(bT,3) by rw [<- hr.out];unfold rZ;rw [q,AA hmem.out Zo];rfl);clear hr q hXl hcl
     go_wp2_with (first
      | (refine aa RJ6 rfl _ _ rfl (w.heap.size+1) 0 rfl _ rfl 57 _ hR rfl Zs oC ?_;intro V hV hMV)
      | fail)
     refine aaa (aj Tryz.results66 RJ6 _ _ (w.heap.size+1) 0 ([Zy none 0 0, Zy none 0 0, Zy none 0 0, Zy none 0 0, Zz Zx 0, Zz Zx 0]) rfl hV.rd rfl (Zz Zx 3) rfl) rfl ?_;rw [er.out];exact wX.zero _ _ _ (E9 hE (hMV.below Zo hE.size))
   ·obtain rfl:i=n:=by omega
    have k1:¬ (i:Int)<(i:Int):=Zo;have er:=FC (show r=(dR j L,0) by
     have:=hm.out;rw [aah (by have:=hLl.out;omega)] at this;rw [<- hr.out];unfold rZ;rw [q,yN this];rfl)
    have hR':=hR;have hE':=hE;clear hr q hm
    go_wp2_with (first
     | (refine af RJ6 rfl _ rfl w.heap.size 0 rfl _ hB.rd rfl ?_)
     | fail)
    (with_reducible refine (hcl _ (h1.ext hE) (h2.ext hE) (h3.ext hE) (h4.ext hE)).mono ?_);rintro e w1 ⟨b1,d1,b2,d2,b3,d3,b4,d4,rfl,o1,o2,⟨B,hB0,hBs,o3⟩,o4,hx1⟩;have hwB:w.heap.size<=B:=aal hE.size hB0;have hR:=hR.extB hx1;have hE:=hE.trans hx1;have hlt:=hR.lt;clear hcl hx1 hB hR' hE' hB0
    go_wp2_with (first
     | (refine ag RJ6 rfl rfl _ _ rfl rfl rfl rfl (by simp [Act.put]) _ rfl Zs rfl oC ?_;intro x hz _)
     | fail)
    have hxx:Ext w1 (w1.ext x):=FE _ _;have hR:=hR.extB hxx;have hE:=hE.trans hxx;have o1:=o1.ext hxx;have o2:=o2.ext hxx;have o3:=o3.ext hxx;have o4:=o4.ext hxx;have hBs:=aal hBs hxx.size;obtain ⟨gO,hgO⟩:∃ g,g=w1.heap.size:=⟨_,rfl⟩;rw [<- hgO] at hz hlt ⊢;have hne2:w.heap.size+1≠gO:=Zo;have hwg:w.heap.size<=gO:=Zo;clear hxx hgO hlt;generalize w1.ext x=W1 at *;have hrest:=λ k=>(qL j (L.take k)).2.2.1
    go_loopw [8] (λ v8 wr=>∃ (k:Nat) (sa:E8)(sc:Nat) (J:Jar),k<=i/\v8 = Zz Zx k/\Hid (J=dR j (L.take k))/\Blk wr gO 57 [Zy b1 n1 d1, Zy b2 n2 d2, Zy sa J.ck.length sc, Zy b4 n4 d4, Zz Zx j.net, Zz Zx j.sent]/\bU wr B sa J.ck.length sc J.ck/\B<=wr.heap.size/\Own wr 0 b1 n1 d1 j.up/\Own wr 0 b2 n2 d2 j.dn/\Own wr 0 b4 n4 d4 j.last/\Blk wr (w.heap.size+1) 57 [Zy none 0 0, Zy none 0 0, Zy none 0 0, Zy none 0 0, Zz Zx 0, Zz Zx 0]/\Ext w wr) (λ v8 _=>i-(intOf v8).toNat)
    case atStart=>exact ⟨0,b3,d3,j,aak _,rfl,FC (by rw [q9q];rfl),(by rw [hl3.out];exact hz),(by rw [hl3.out];exact o3),hBs,o1,o2,o4,hR,hE⟩
    case round =>
     clear hz o3 hBs o1 o2 o4 hR hE;obtain ⟨k,sa,sc,J,hk,rfl,hJ,hz,o3,hBs,o1,o2,o4,hR,hE⟩:=hrel;haveI:=hz.blt;have f2:wr.cell? ⟨gO,2,none⟩=some (Zy sa J.ck.length sc):=hz.cell? 2 rfl;have f3:wr.cell? ⟨gO,3,none⟩=some (Zy b4 n4 d4):=hz.cell? 3 rfl;by_cases hlt2:k<i
     ·have hk0:(0:Int)<=(k:Int):=by omega
      have hkn:(k:Int)<(i:Int):=Zo;obtain ⟨b0,o0,a',n',c',rfl,hb0,hcell,hc',hS⟩:=(hL.ext hE).at k hlt2;have hkL:k<L.length:=by have:=hLl.out;omega
      have hts:=FC (show L.take (k+1)=L.take k++[L[k]] from aas hkL);have hbx:=hbL _ (aaB hkL);generalize L[k]=X at *;have hXl:=FC hS.len;have hn':n'<=1000000:=by have:=hXl.out;omega
      haveI:=hb0;have hsn:=FC (show dR j (L.take (k+1))=ey J X by rw [hts.out,wE,<- hJ.out]);have o3b:=o3.bsc;have o4s:=o4.sl;by_cases q0:J.ck.length<=1000000
      ·have ghs:=λ V H1 H2=>lV sa a' J.ck.length sc n' c' J.ck X V H1 q0 H2;have gsm:=λ V H1 H2=>gQ b4 a' n4 d4 n' c' j.last X V H1 H2;cases q2:decide (X∈J.ck)
       ·have q2':=of_decide_eq_false q2;simp only [q2] at ghs;clear q2;cases q3:(j.last == X)
        ·simp only [q3] at gsm;have q3':J.last≠X:=by rw [hJ.out,hrest k];simpa using q3
         clear q3;go_wp2_with fail;refine R2.ae 24 [[],[0],[],[],[2,3],[2,3,4],[0,1,2,3,4,5],[0,1,2,3,4,5,6],[0,1,2,3,4,5,6,7],[0,1,2,3,4,5,6,7,8],[0,1,2,3,4,5,6,7,8,9],[0,1,2,3,4,5,6,7,8],[0,1,2,3,4,5,6,7,8],[0,1,2,3,4,5,6,7,8,11,12],[0,1,2,3,4,5,6,7,8,11,12,13],[0,1,2,3,4,5,6,7,8,9,10,11,12,13,14],[0,1,2,3,4,5,6,7,8,9,10,11,12,13,14,15],[0,1,2,3,4,5,6,7,8,9,10,11,12,13,14,15,16],[0,1,2,3,4,5,6,7,8,9,10,11,12,13,14,15,16,17],[0,1,2,3,4,5,6,7,8,9,10,11,12,13,14,15,16,17,18],[0,1,2,3,4,5,6,7,8,9,10,11,12,13,14,15,16,17,18,19],[0,1,2,3,4,5,6,7,8,9,10,11,12,13,14,15,16,17,18,19,20],[0,1,2,3,4,5,6,7,8,9,10,11,12,13,14,15,16,17,18,19,20,21],[0,1,2,3,4,5,6,7,8,9,10,11,12,13,14,15,16,17,18,19,20,21,22]] [] (λ h=>(h rfl).elim) Zk Zk Zk Zk Zk ?_;simp only [q8q,q9q,q10q,q11q,q12q,q13q];(repeat (refine R2.av ?_;(try simp only [Act.put,q0q,q1q,q2q])));(refine R2.ai (λ _ => .bool false) (λ _ _=>True) (λ _ _ _ _ _=>trivial) (λ us w' hx hf=>⟨rfl,?_⟩) ?_;(unfold gives;simp [go_sem,execOp];refine (ghs _ (o3b.ext hx) (hS.ext hx)).mono ?_;rintro e w1 ⟨rfl,hx1⟩;first|exact ⟨rfl,hx1⟩|simpa using hx1));(repeat (refine R2.av ?_;(try simp only [Act.put,q0q,q1q,q2q])));(refine R2.ai (λ _ => .bool false) (λ _ _=>True) (λ _ _ _ _ _=>trivial) (λ us w' hx hf=>⟨rfl,?_⟩) ?_;(unfold gives;simp [go_sem,execOp];refine (gsm _ (o4s.ext hx) (hS.ext hx)).mono ?_;rintro e w1 ⟨rfl,hx1⟩;first|exact ⟨rfl,hx1⟩|simpa using hx1));(repeat (refine R2.av ?_;(try simp only [Act.put,q0q,q1q,q2q])));(refine R2.aU ?_;intro us x hx hf);by_cases q1:J.ck.length<8
         ·have q1i:(J.ck.length:Int)<8:=by omega
          have hJ2:=FC (show ({ J with ck:=J.ck++[X] }:Jar)=dR j (L.take (k+1)) by rw [hsn.out];unfold ey;rw [aaj ⟨q1,q2',q3'⟩]);have hxx:Ext wr (wr.ext x):=FE _ _;have hz:=hz.extB hxx;have o3:=o3.ext hxx;have o1:=o1.ext hxx;have o2:=o2.ext hxx;have o4:=o4.ext hxx;have hR:=hR.extB hxx;have hE:=hE.trans hxx;have hBs:=aal hBs hxx.size;have hS:=hS.ext hxx;have hcell:=(hxx.cell (p:=⟨b0,o0+k,none⟩) hb0.lt).trans hcell;have hb0':BlkLt b0 (wr.ext x):=⟨aai hb0.lt hxx.size⟩;clear f2 f3 o3b o4s gsm ghs hxx q2' q3' hJ hsn hts;generalize wr.ext x=W3 at *;haveI:=hz.blt;haveI:=hb0';have f2:W3.cell? ⟨gO,2,none⟩=some (Zy sa J.ck.length sc):=hz.cell? 2 rfl;go_wp2_with fail;refine R2.ae 9 [[],[0],[],[],[2,3],[2,3,4],[2,3,4,5],[2,3,4,5,6],[2,3,4,5,6,7],[0,1,2,3,4,5,6,7,8],[0,1,2,3,4,5,6,7,8,9],[0,1,2,3,4,5,6,7,8,9,10]] [] (λ h=>(h rfl).elim) Zk Zk Zk Zk Zk ?_;simp only [q8q,q9q,q10q,q11q,q12q,q13q];(repeat (refine R2.av ?_;(try simp only [Act.put,q0q,q1q,q2q])));(refine R2.ai (λ p => .slice (p 0).1 1 1) (λ p w''=>Bss w'' (p 0).1 1 ([X])) (λ p w w' h hx=>h.ext hx) (λ us w' hx hf=>⟨rfl,?_⟩) ?_;(unfold gives;simp [go_sem,execOp];exact ⟨λ _=>(some ⟨w'.heap.size,0,none⟩,0),rfl,FA _ _,gV (hS.ext hx) _⟩));(refine R2.ai (λ p => .slice (p 0).1 n' (p 0).2) (λ p w''=>Own w'' 0 (p 0).1 n' (p 0).2 X) (λ p w w' h hx=>h.ext hx) (λ us w' hx hf=>⟨rfl,?_⟩) ?_;(unfold gives;simp [go_sem,execOp];exact az (aak _) (dM _ n' X hXl.out _ (by exact (hf _ (aac _ (aab _)) rfl)) hn')));(refine R2.ai (λ p => .slice (p 0).1 1 1) (λ p w''=>pJ X w'' (p 0).1) (λ p w w' h hx=>by first|exact h.ext hx|exact ⟨h.1.ext hx,h.2.ext hx⟩|exact ⟨h.1.ext hx,h.2⟩|exact ⟨h.1.ext hx,h.2.1.ext hx,h.2.2.ext hx⟩) (λ us w' hx hf=>⟨rfl,?_⟩) ?_;(unfold gives;simp [go_sem,execOp];exact ⟨λ _=>(some ⟨w'.heap.size,0,none⟩,0),rfl,FA _ _,pJ.mk (hf _ (aac _ (aab _)) rfl) _⟩));(refine R2.aU ?_;intro us x hx hf);obtain ⟨-, -,hN⟩:=hf;obtain ⟨aN,haN⟩:∃ a,(us 8 0).1=a:=⟨_,rfl⟩;rw [haN] at hN ⊢;clear haN;obtain ⟨gn,ga,nn,cc,rfl,hRd,hOn⟩:=hN;have hxx:Ext W3 (W3.ext x):=FE _ _;have o3x:=o3.ext hxx;have hzx:=hz.extB hxx;have hRx:=hR.extB hxx;have hEx:=hE.trans hxx;have hBx:=aal hBs hxx.size;have o1:=o1.ext hxx;have o2:=o2.ext hxx;have o4:=o4.ext hxx;clear o3 hz hR hE hBs hxx f2;refine cE V8 rfl _ _ rfl B sa J.ck.length sc J.ck rfl gn rfl o3x ga nn cc X hRd hOn.sl hOn.le.1 (Own.inBlk hOn) Zo hBx ?_;intro sa' sc' w6 hO6 hg6 hb6;have hz6:=hzx.grown hg6 (o3x.blk hzx Zd);have hR6:=hRx.grown hg6 (o3x.blk hRx Zd);have o1:=o1.grownB o3x hg6;have o2:=o2.grownB o3x hg6;have o4:=o4.grownB o3x hg6;have hE6:Ext w w6:=E9 hEx (hb6.mono Zo);have hB6:=aal hBx hb6.size;haveI:=hz6.blt;have q2:=hz6.cell? 2 rfl;have z2:=hz6.free 2;go_wp2;have hset:=hz6.set 2 (Zy sa' (J.ck.length+1) sc');have hM:Mut gO w6 (w6.setCell ⟨gO,2,none⟩ (Zy sa' (J.ck.length+1) sc')):=(Mut.refl _ _).setCell 2 _;go_roundw
          case rel=>exact ⟨k+1,sa',sc',{ J with ck:=J.ck++[X] },Zo,Zg,hJ2,(by rw [aag];exact hset),(by rw [aag];exact hO6.mut hz6 Zd Zs hM),aal hB6 hM.size,o1.mutT hz6 Zd hM,o2.mutT hz6 Zd hM,o4.mutT hz6 Zd hM,Blk.turn hM hR6 hne2,E9 hE6 (hM.below hwg hE6.size)⟩
          case measure=>simp [intOf];omega
         ·have q1i:¬ (J.ck.length:Int)<8:=by omega
          have hJ2:=FC (show J=dR j (L.take (k+1)) by rw [hsn.out];unfold ey;rw [aae (λ h=>q1 h.1)]);have hxx:Ext wr (wr.ext x):=FE _ _;go_wp2_with fail;go_roundw
          case rel=>exact ⟨k+1,sa,sc,J,Zo,Zg,hJ2,hz.extB hxx,o3.ext hxx,aal hBs hxx.size,o1.ext hxx,o2.ext hxx,o4.ext hxx,hR.extB hxx,hE.trans hxx⟩
          case measure=>simp [intOf];omega
        ·simp only [q3] at gsm;have q3':J.last=X:=by rw [hJ.out,hrest k];simpa using q3
         clear q3;go_wp2_with fail;refine R2.ae 24 [[],[0],[],[],[2,3],[2,3,4],[0,1,2,3,4,5],[0,1,2,3,4,5,6],[0,1,2,3,4,5,6,7],[0,1,2,3,4,5,6,7,8],[0,1,2,3,4,5,6,7,8,9],[0,1,2,3,4,5,6,7,8],[0,1,2,3,4,5,6,7,8],[0,1,2,3,4,5,6,7,8,11,12],[0,1,2,3,4,5,6,7,8,11,12,13],[0,1,2,3,4,5,6,7,8,9,10,11,12,13,14],[0,1,2,3,4,5,6,7,8,9,10,11,12,13,14,15],[0,1,2,3,4,5,6,7,8,9,10,11,12,13,14,15,16],[0,1,2,3,4,5,6,7,8,9,10,11,12,13,14,15,16,17],[0,1,2,3,4,5,6,7,8,9,10,11,12,13,14,15,16,17,18],[0,1,2,3,4,5,6,7,8,9,10,11,12,13,14,15,16,17,18,19],[0,1,2,3,4,5,6,7,8,9,10,11,12,13,14,15,16,17,18,19,20],[0,1,2,3,4,5,6,7,8,9,10,11,12,13,14,15,16,17,18,19,20,21],[0,1,2,3,4,5,6,7,8,9,10,11,12,13,14,15,16,17,18,19,20,21,22]] [] (λ h=>(h rfl).elim) Zk Zk Zk Zk Zk ?_;simp only [q8q,q9q,q10q,q11q,q12q,q13q];(repeat (refine R2.av ?_;(try simp only [Act.put,q0q,q1q,q2q])));(refine R2.ai (λ _ => .bool false) (λ _ _=>True) (λ _ _ _ _ _=>trivial) (λ us w' hx hf=>⟨rfl,?_⟩) ?_;(unfold gives;simp [go_sem,execOp];refine (ghs _ (o3b.ext hx) (hS.ext hx)).mono ?_;rintro e w1 ⟨rfl,hx1⟩;first|exact ⟨rfl,hx1⟩|simpa using hx1));(repeat (refine R2.av ?_;(try simp only [Act.put,q0q,q1q,q2q])));(refine R2.ai (λ _ => .bool true) (λ _ _=>True) (λ _ _ _ _ _=>trivial) (λ us w' hx hf=>⟨rfl,?_⟩) ?_;(unfold gives;simp [go_sem,execOp];refine (gsm _ (o4s.ext hx) (hS.ext hx)).mono ?_;rintro e w1 ⟨rfl,hx1⟩;first|exact ⟨rfl,hx1⟩|simpa using hx1));(repeat (refine R2.av ?_;(try simp only [Act.put,q0q,q1q,q2q])));(repeat (refine R2.fF (λ us=>rfl) ?_;(try simp only [Act.put,q0q,q1q,q2q])));(repeat (refine R2.av ?_;(try simp only [Act.put,q0q,q1q,q2q])));(refine R2.aU ?_;intro us x hx hf);have hJ2:=FC (show J=dR j (L.take (k+1)) by rw [hsn.out];unfold ey;rw [aae (λ h=>h.2.2 q3')]);have hxx:Ext wr (wr.ext x):=FE _ _;go_wp2_with fail;go_roundw
         case rel=>exact ⟨k+1,sa,sc,J,Zo,Zg,hJ2,hz.extB hxx,o3.ext hxx,aal hBs hxx.size,o1.ext hxx,o2.ext hxx,o4.ext hxx,hR.extB hxx,hE.trans hxx⟩
         case measure=>simp [intOf];omega
       ·have q2':=aaV q2;simp only [q2] at ghs;clear q2;go_wp2_with fail;refine R2.ae 24 [[],[0],[],[],[2,3],[2,3,4],[0,1,2,3,4,5],[0,1,2,3,4,5,6],[0,1,2,3,4,5,6,7],[0,1,2,3,4,5,6,7,8],[0,1,2,3,4,5,6,7,8,9],[0,1,2,3,4,5,6,7,8],[0,1,2,3,4,5,6,7,8],[0,1,2,3,4,5,6,7,8,11,12],[0,1,2,3,4,5,6,7,8,11,12,13],[0,1,2,3,4,5,6,7,8,9,10,11,12,13,14],[0,1,2,3,4,5,6,7,8,9,10,11,12,13,14,15],[0,1,2,3,4,5,6,7,8,9,10,11,12,13,14,15,16],[0,1,2,3,4,5,6,7,8,9,10,11,12,13,14,15,16,17],[0,1,2,3,4,5,6,7,8,9,10,11,12,13,14,15,16,17,18],[0,1,2,3,4,5,6,7,8,9,10,11,12,13,14,15,16,17,18,19],[0,1,2,3,4,5,6,7,8,9,10,11,12,13,14,15,16,17,18,19,20],[0,1,2,3,4,5,6,7,8,9,10,11,12,13,14,15,16,17,18,19,20,21],[0,1,2,3,4,5,6,7,8,9,10,11,12,13,14,15,16,17,18,19,20,21,22]] [] (λ h=>(h rfl).elim) Zk Zk Zk Zk Zk ?_;simp only [q8q,q9q,q10q,q11q,q12q,q13q];(repeat (refine R2.av ?_;(try simp only [Act.put,q0q,q1q,q2q])));(refine R2.ai (λ _ => .bool true) (λ _ _=>True) (λ _ _ _ _ _=>trivial) (λ us w' hx hf=>⟨rfl,?_⟩) ?_;(unfold gives;simp [go_sem,execOp];refine (ghs _ (o3b.ext hx) (hS.ext hx)).mono ?_;rintro e w1 ⟨rfl,hx1⟩;first|exact ⟨rfl,hx1⟩|simpa using hx1));(repeat (refine R2.av ?_;(try simp only [Act.put,q0q,q1q,q2q])));(repeat (refine R2.fF (λ us=>rfl) ?_;(try simp only [Act.put,q0q,q1q,q2q])));(repeat (refine R2.av ?_;(try simp only [Act.put,q0q,q1q,q2q])));(repeat (refine R2.fF (λ us=>rfl) ?_;(try simp only [Act.put,q0q,q1q,q2q])));(repeat (refine R2.av ?_;(try simp only [Act.put,q0q,q1q,q2q])));(refine R2.aU ?_;intro us x hx hf);have hJ2:=FC (show J=dR j (L.take (k+1)) by rw [hsn.out];unfold ey;rw [aae (λ h=>h.2.1 q2')]);have hxx:Ext wr (wr.ext x):=FE _ _;go_wp2_with fail;go_roundw
        case rel=>exact ⟨k+1,sa,sc,J,Zo,Zg,hJ2,hz.extB hxx,o3.ext hxx,aal hBs hxx.size,o1.ext hxx,o2.ext hxx,o4.ext hxx,hR.extB hxx,hE.trans hxx⟩
        case measure=>simp [intOf];omega
      ·exfalso;have h1:=u0 j (L.take k) hl3.out hn3;rw [<- hJ.out] at h1;omega
     ·obtain rfl:k=i:=by omega
      have hkn:¬ (k:Int)<(k:Int):=Zo;have hJe:J=dR j L:=by have:=hJ.out;rwa [aah (by have:=hLl.out;omega)] at this
      go_wp2_with (first
       | (refine af RJ6 rfl _ rfl gO 0 rfl _ hz.rd rfl ?_)
       | (refine aa RJ6 rfl _ _ rfl (w.heap.size+1) 0 rfl _ rfl 57 _ hR rfl Zs oC ?_;intro w9 hB9 hM9)
       | fail)
      refine aaa (aj Tryz.results66 RJ6 _ _ (w.heap.size+1) 0 ([Zy b1 n1 d1, Zy b2 n2 d2, Zy sa J.ck.length sc, Zy b4 n4 d4, Zz Zx j.net, Zz Zx j.sent]) rfl hB9.rd rfl (Zz Zx 0) rfl) rfl ?_;obtain ⟨r1,r2,r3,r4,r5⟩:=qL j L;rw [er.out];have hEz:Ext w w9:=E9 hE (hM9.below Zo hE.size);have o3z:=o3.mut hR Zd Zs hM9;rw [hJe] at o3z;refine ⟨b1,n1,d1,b2,n2,d2,sa,(dR j L).ck.length,sc,b4,n4,d4,?_,?_,?_,o3z.bsc,o3z.le,o3z.typ3,?_,hEz⟩
      ·show _=Ending.returned (.tuple #[.agg #[_,_,_,_, Zz Zx (dR j L).net, Zz Zx (dR j L).sent],_]);rw [r4,r5,hJe]
      ·show Own w9 0 b1 n1 d1 (dR j L).up;rw [r1];exact o1.mutT hR Zd hM9
      ·show Own w9 0 b2 n2 d2 (dR j L).dn;rw [r2];exact o2.mutT hR Zd hM9
      ·show Own w9 0 b4 n4 d4 (dR j L).last;rw [r3];exact o4.mutT hR Zd hM9
end Go.Proofs.P9

/- The walks of layer 18: parse. -/
namespace Go.Proofs.P9
open Go.RowKit Go.Sec Go.Oct Go.Pkt Go.Aes BigFrame
theorem RG2:RowT Tryz.prog 185 2:=⟨⟨_,Tryz.underlying185,rfl⟩,Zk,⟨_,Tryz.zeroValue185,Zk⟩⟩
def iL (r:Option (E7 × E7)) (w:World)(e:Ending) (w':World):Prop :=
 ∃ a1 n1 c1 a2 n2 c2,e = .returned (.tuple #[.agg #[Zy a1 n1 c1, Zy a2 n2 c2], .bool r.isSome])/\(∀ x,r=some x->Sl w' a1 n1 x.1/\n1<=c1/\Sl w' a2 n2 x.2/\n2<=c2)/\Ext w w'
theorem iL.no (w w':World)(hx:Ext w w'):iL none w (.returned (.tuple #[.agg #[Zy none 0 0, Zy none 0 0], .bool false])) w':=⟨_,_,_,_,_,_,rfl,λ x h=>(by cases h),hx⟩
theorem mq (l:E7)(h:l.length<=2):n64 (cR l)=((bR l:Nat):Int):=by
 unfold n64;rw [fK _ Zo]
theorem lE {d:E7} (h:d.length<4):cZ d=none:=aae λ k=>by have:=k.1;omega
theorem ju {d:E7} (h:¬ (16<=bR (d.take 2)/\bR (d.take 2)<=32)):cZ d=none:=aae λ k=>h k.2.1
theorem kU {d:E7} (h:d.length≠4+aG (bR (d.take 2))+aG (bR ((d.drop 2).take 2))):cZ d=none:=aae λ k=>h k.2.2.1
theorem qZ {d:E7} (h:aA ((d.drop 4).take (bR (d.take 2))) ((d.drop (4+aG (bR (d.take 2)))).take (bR ((d.drop 2).take 2)))≠d):cZ d=none:=aae λ k=>h k.2.2.2
theorem oK {d:E7} (h0:4<=d.length) (h1:16<=bR (d.take 2)/\bR (d.take 2)<=32) (h2:d.length=4+aG (bR (d.take 2))+aG (bR ((d.drop 2).take 2)))
  (h:aA ((d.drop 4).take (bR (d.take 2))) ((d.drop (4+aG (bR (d.take 2)))).take (bR ((d.drop 2).take 2)))=d):cZ d=some ((d.drop 4).take (bR (d.take 2)),(d.drop (4+aG (bR (d.take 2)))).take (bR ((d.drop 2).take 2))):=aaj ⟨h0,h1,h2,h⟩
theorem ui (a:E8)(k c:Nat) (d:E7)(w:World)(hS:Sl w a k d) (hc:k<=c) (hk:k<=1000000) :
  Calls Tryz.prog 125 #[Zy a k c] w (iL (cZ d) w):=by
 have hl:=hS.len;obtain ⟨r,hr⟩:∃ r,cZ d=r:=⟨_,rfl⟩;rw [hr];have hr:=FC hr;by_cases h4:k<4
 ·have er:=FC (show r=none by rw [<- hr.out];exact lE Zo);have hcut:=λ W=>zz a k c 4 W (.inr Zo)
  go_enter Tryz.func125,Tryz.ntmps125
  go_wp2_with fail;refine br ?_;intro W hW;have hE:Ext w W:=by rw [hW];exact eX
  have hG:Blk W w.heap.size 185 [Zy none 0 0, Zy none 0 0]:=by rw [hW];exact bK
  clear hW;(with_reducible refine (hcut W).mono ?_);rintro e w1 ⟨rfl,hx1⟩;have hE1:=hE.trans hx1;have hG:=hG.extB hx1;haveI:=hG.blt
  go_wp2_with (first
   | (refine aa RG2 rfl _ _ rfl w.heap.size 0 rfl _ rfl 185 _ hG rfl Zs oC ?_;intro V hV hMV)
   | fail)
  refine aaa (aj Tryz.results125 RG2 _ _ w.heap.size 0 _ rfl hV.rd rfl (.bool false) rfl) rfl ?_;rw [er.out];exact iL.no _ _ (E9 hE1 (hMV.below Zo hE1.size))
 ·have hcut:=λ W H=>uu a k c d 4 W H hk Zo hc;simp only [aan] at hcut;have hh1:((d.take 4).take 2).length<=2:=by simp;omega
  have hh2:((d.take 4).drop 2).length<=2:=by simp;omega
  have g1:=mq _ hh1;have g2:=mq _ hh2;have b1:=fM (d.take 4);have b2:bR ((d.take 4).drop 2)<65536:=by have:=ki ((d.take 4).drop 2);have h2:(256:Nat) ^ ((d.take 4).drop 2).length<=256 ^ 2:=Nat.pow_le_pow_right Zo hh2;omega
  have e1:(d.take 4).take 2=d.take 2:=by rw [List.take_take];rfl
  have e2:(d.take 4).drop 2=(d.drop 2).take 2:=by rw [List.drop_take]
  have hL4:(d.take 4).length=4:=by simp;omega
  have e3:∀ x,(d.drop 4).drop x=d.drop (4+x):=λ x=>by rw [abd]
  go_enter Tryz.func125,Tryz.ntmps125
  go_wp2_with fail;refine br ?_;intro W hW;have hE:Ext w W:=by rw [hW];exact eX
  have hG:Blk W w.heap.size 185 [Zy none 0 0, Zy none 0 0]:=by rw [hW];exact bK
  clear hW;(with_reducible refine (hcut W (hS.ext hE)).mono ?_);rintro e w1 ⟨a1,c1,a2,c2,rfl,hO1,hO2,hx1⟩;have hE1:=hE.trans hx1;have hG:=hG.extB hx1;have hS:=hS.ext hE1;have s1:=hO1.sl;have s2:=hO2.sl;have k1:=hO1.le.1;have k2:=hO2.le.1;have t1:=s1.take 2 Zo;have t2:=s1.drop c1 2 k1;have hg1:=λ W H=>eE a1 2 c1 ((d.take 4).take 2) W H Zo Zo;have hg2:=λ W H=>eE (dX a1 c1 2 1) 2 (c1-2) ((d.take 4).drop 2) W H Zo Zo;rw [g1] at hg1;rw [g2] at hg2;rw [e1] at hg1 t1;rw [e2] at hg2 t2;have i2:(2:Int)<=(c1:Int):=Zo;clear hE hx1 hcut hO1 g1 g2 e1 e2 hL4 hh1 hh2;obtain ⟨n,hn⟩:∃ n,bR (d.take 2)=n:=⟨_,rfl⟩;obtain ⟨m,hm⟩:∃ m,bR ((d.drop 2).take 2)=m:=⟨_,rfl⟩;rw [hn] at hg1 ;rw [hm] at hg2;have nb:n<65536:=by rw [<- hn];exact fM d
  have mb:m<65536:=by rw [<- hm];exact fM (d.drop 2)
  have s1b:=hS;have hL:=FC hl;have e3:=FC e3;have hn:=FC hn;have hm:=FC hm;clear b1 b2 s1 hl;go_wp2_with fail;refine R2.ae 10 [[],[0],[0,1],[0,1,2],[],[4],[0,1,2,4,5],[0,1,2,4,5,6],[0,1,2,3,4,5,6],[0,1,2,3,4,5,6,7,8]] [] (λ h=>(h rfl).elim) Zk Zk Zk Zk Zk ?_;simp only [q8q,q9q,q10q,q11q,q12q,q13q];(repeat (refine R2.av ?_;(try simp only [Act.put,q0q,q1q,q2q])));(refine R2.ai (λ _ => Zz Zw ((n:Nat):Int)) (λ _ _=>True) (λ _ _ _ _ _=>trivial) (λ us w' hx hf=>⟨rfl,?_⟩) ?_;(unfold gives;simp [go_sem,execOp];refine (hg1 _ (t1.ext hx)).mono ?_;rintro e w1 ⟨rfl,hx1⟩;first|exact ⟨rfl,hx1⟩|simpa using hx1));(repeat (refine R2.av ?_;(try simp only [Act.put,q0q,q1q,q2q])));(refine R2.ai (λ _ => Zz Zw ((m:Nat):Int)) (λ _ _=>True) (λ _ _ _ _ _=>trivial) (λ us w' hx hf=>⟨rfl,?_⟩) ?_;(unfold gives;simp [go_sem,execOp];refine (hg2 _ (t2.ext hx)).mono ?_;rintro e w1 ⟨rfl,hx1⟩;first|exact ⟨rfl,hx1⟩|simpa using hx1));(repeat (refine R2.av ?_;(try simp only [Act.put,q0q,q1q,q2q])));(refine R2.aU ?_;intro us x hx hf);have hwn:IntKind.i64.wrap ((n:Nat):Int)=(n:Int):=by rw [aaO];omega
  have hwm:IntKind.i64.wrap ((m:Nat):Int)=(m:Int):=by clear hwn;rw [aaO];omega
  try rw [hwn]
  try rw [hwm]
  clear hwn hwm hf;have hx5:Ext w1 (w1.ext x):=FE _ _;have hE1:=hE1.trans hx5;have hG:=hG.extB hx5;have s2:=s2.ext hx5;have hS:=hS.ext hx5;generalize w1.ext x=w1 at *;haveI:=hG.blt;clear hg1 hg2 t1 t2 s1b;have pn:aG n<65600:=by unfold aG;omega
  have pm:aG m<65600:=by unfold aG;omega
  have pn0:n<=aG n:=by unfold aG;omega
  have pm0:m<=aG m:=by unfold aG;omega
  by_cases q1:16<=n/\n<=32
  ·have hnn:=λ W=>gY n rfl W;rw [aav q1] at hnn;by_cases q2:k=4+aG n+aG m
   ·have i3:(((k-4:Nat):Int) != ((aG n:Nat):Int)+((aG m:Nat):Int))=false:=by rw [aaf];omega
    have j1:(n:Int)<=(c2:Int):=Zo;have j2:((aG n:Nat):Int)<=((aG n:Nat):Int)+(m:Int):=Zo;have j3:((aG n:Nat):Int)+(m:Int)<=(c2:Int):=Zo;have mk1:n<=c2:=Zo;have mk2:m<=c2-aG n:=Zo;have u1:=s2.take n Zo;have u2:=(s2.drop c2 (aG n) Zo).take m Zo;have hql:=FC q2;clear q2 s2
    go_wp2_with (first
     | (go_at_call 128;refine (hnn _).mono ?_;rintro e w1 ⟨rfl,hxq⟩;obtain ⟨xq,rfl⟩:=hxq.out;clear hxq)
     | (go_at_call 148;refine (ik _ rfl _ Zo).mono ?_;rintro e w1 ⟨rfl,hxq⟩;obtain ⟨xq,rfl⟩:=hxq.out;clear hxq)
     | fail)
    refine cU ?_;intro W5 hW5;have hE6:Ext w1 W5:=by rw [hW5];exact eX
    clear hW5;have hE5:=hE1.trans hE6;have hG5:=hG.extB hE6;have hS5:=hS.ext hE6;have u1:=u1.ext hE6;have u2:=u2.ext hE6;have hgW5:=hG5.lt;clear hG hS hE1 hE6 i3;refine R2.ae 13 [[],[],[0,1],[],[],[4],[],[4,5,6],[],[4,5,6,7,8],[3,4,5,6,7,8,9],[0,1,2,3,4,5,6,7,8,9,10],[],[0,1,2,3,4,5,6,7,8,9,10,11,12]] [] (λ h=>(h rfl).elim) Zk Zk Zk Zk Zk ?_;simp only [q8q,q9q,q10q,q11q,q12q,q13q];(repeat (refine R2.av ?_;(try simp only [Act.put,q0q,q1q,q2q])));(refine R2.ai (λ _ => Zz Zx ((aG n:Nat):Int)) (λ _ _=>True) (λ _ _ _ _ _=>trivial) (λ us w' hx hf=>⟨rfl,?_⟩) ?_;(unfold gives;simp [go_sem,execOp];refine (ik n rfl _ Zo).mono ?_;rintro e w1 ⟨rfl,hx1⟩;first|exact ⟨rfl,hx1⟩|simpa using hx1));(repeat (refine R2.av ?_;(try simp only [Act.put,q0q,q1q,q2q])));(refine R2.ai (λ _ => Zz Zx ((aG n:Nat):Int)) (λ _ _=>True) (λ _ _ _ _ _=>trivial) (λ us w' hx hf=>⟨rfl,?_⟩) ?_;(unfold gives;simp [go_sem,execOp];refine (ik n rfl _ Zo).mono ?_;rintro e w1 ⟨rfl,hx1⟩;first|exact ⟨rfl,hx1⟩|simpa using hx1));(repeat (refine R2.av ?_;(try simp only [Act.put,q0q,q1q,q2q])));(refine R2.cJ _ ([Zy none 0 0, Zy none 0 0]) Tryz.zeroValue185 rfl rfl rfl ?_);(refine R2.ef ?_;intro us x hx hf hd);obtain ⟨g,eg,hgW,hBg⟩:=hf;rw [eg];have hx6:Ext W5 (W5.ext x):=FE _ _;have hgE:=aal hE5.size hgW;have hE5:=hE5.trans hx6;have hG5:=hG5.extB hx6;have u1:=u1.ext hx6;have u2:=u2.ext hx6;have hS5:=hS5.ext hx6;have hg5:=hG5.lt;have hne:w.heap.size≠g:=Zo;clear eg hd;generalize W5.ext x=W6 at *;haveI:=hG5.blt;haveI:=hBg.blt;have hz:(((aG n:Nat):Int)+(m:Int)).toNat-aG n=m:=Zo;simp only [hz];clear hz
    go_wp2_with (first
     | (refine aa RG2 rfl _ _ rfl g 0 rfl _ rfl 185 _ hBg rfl Zs oC ?_;intro V hV hMV)
     | fail)
    have hV:Blk V g 185 [Zy a2 n c2, Zy (dX a2 c2 (aG n) 1) m (c2-aG n)]:=hV;have hGV:=Blk.turn hMV hG5 hne;have hEV:Ext w V:=E9 hE5 (hMV.below hgE hE5.size);have v1:=Sl.mut u1 hBg Zs hMV;have v2:=Sl.mut u2 hBg Zs hMV;have hSV:=Sl.mut hS5 hBg Zs hMV;obtain ⟨N1,hN1⟩:∃ l,(d.drop 4).take n=l:=⟨_,rfl⟩;obtain ⟨N2,hN2⟩:∃ l,((d.drop 4).drop (aG n)).take m=l:=⟨_,rfl⟩;rw [hN1] at v1;rw [hN2] at v2;have hd1:(d.drop 4).take (bR (d.take 2))=N1:=by rw [hn.out];exact hN1
    have hd2:(d.drop (4+aG (bR (d.take 2)))).take (bR ((d.drop 2).take 2))=N2:=by rw [hn.out,hm.out,<- e3.out];exact hN2
    have hyes:=λ h=>oK (d:=d) (by rw [hL.out];omega) (by rw [hn.out];exact q1) (by rw [hL.out,hn.out,hm.out];exact hql.out) h;have hnot:=λ h=>qZ (d:=d) h;rw [hd1,hd2,hr.out] at hyes;rw [hd1,hd2,hr.out] at hnot;clear hd1 hd2 hN1 hN2 u1 u2 hS5 hBg hG5 hMV hE5 hn hm hL e3 hql hgW hgW5;haveI:=hV.blt;haveI:=hGV.blt;refine R2.ae 5 [[],[],[1],[],[1,2,3],[0,1,2,3,4],[0,1,2,3,4,5]] [] (λ h=>(h rfl).elim) Zk Zk Zk Zk Zk ?_;simp only [q8q,q9q,q10q,q11q,q12q,q13q];(refine R2.ao RG2 _ rfl (λ _=>rfl) g 0 (λ _=>by simp [go_sem]) _ hV.rd rfl ?_);(refine R2.ao RG2 _ rfl (λ _=>rfl) g 0 (λ _=>by simp [go_sem]) _ hV.rd rfl ?_);(refine R2.ai (λ p => .slice (p 0).1 (4+aG n+aG m) (p 0).2) (λ p w''=>Own w'' 0 (p 0).1 (4+aG n+aG m) (p 0).2 (aA N1 N2)) (λ p w w' h hx=>h.ext hx) (λ us w' hx hf=>⟨rfl,?_⟩) ?_;(unfold gives;simp [go_sem,execOp];exact az (aak _) (ng _ _ n c2 m (c2-aG n) N1 N2 _ (v1.ext hx) (v2.ext hx) Zo Zo)));(repeat (refine R2.av ?_;(try simp only [Act.put,q0q,q1q,q2q])));(refine R2.ai (λ _ => .bool (aA N1 N2 == d)) (λ _ _=>True) (λ _ _ _ _ _=>trivial) (λ us w' hx hf=>⟨rfl,?_⟩) ?_;(unfold gives;simp [go_sem,execOp];refine (mO _ _ _ _ _ _ _ _ _ (Own.sl (hf _ (aac _ (aab _)) rfl)) (hSV.ext hx)).mono ?_;rintro e w1 ⟨rfl,hx1⟩;first|exact ⟨rfl,hx1⟩|simpa using hx1));(refine R2.aU ?_;intro us x hx hf);have hxx:Ext V (V.ext x):=FE _ _;have hGx:=hGV.extB hxx;have hEx:=hEV.trans hxx;have v1:=v1.ext hxx;have v2:=v2.ext hxx;clear hf hV hGV hEV hSV;generalize V.ext x=V at *;haveI:=hGx.blt;by_cases hq:aA N1 N2=d
    ·have er:=FC (hyes hq);have hb:(aA N1 N2 == d)=true:=aa5.2 hq;rw [hb];clear hq hb hyes hnot
     go_wp2_with (first
      | (refine aa RG2 rfl _ _ rfl w.heap.size 0 rfl _ rfl 185 _ hGx rfl Zs oC ?_;intro V9 hV9 hM9)
      | fail)
     refine aaa (aj Tryz.results125 RG2 _ _ w.heap.size 0 _ rfl hV9.rd rfl (.bool true) rfl) rfl ?_;rw [er.out];exact ⟨_,_,_,_,_,_,rfl,λ y hy=>(by injection hy with hy;subst hy;exact ⟨Sl.mut v1 hGx Zs hM9,mk1,Sl.mut v2 hGx Zs hM9,mk2⟩),E9 hEx (hM9.below (aad _) hEx.size)⟩
    ·have er:=FC (hnot hq);have hb:(aA N1 N2 == d)=false:=aar.2 hq;rw [hb];clear hq hb hyes hnot
     go_wp2_with (first
      | (refine aa RG2 rfl _ _ rfl w.heap.size 0 rfl _ rfl 185 _ hGx rfl Zs oC ?_;intro V9 hV9 hM9)
      | fail)
     refine aaa (aj Tryz.results125 RG2 _ _ w.heap.size 0 _ rfl hV9.rd rfl (.bool false) rfl) rfl ?_;rw [er.out];exact ⟨_,_,_,_,_,_,rfl,λ y hy=>(by cases hy),E9 hEx (hM9.below (aad _) hEx.size)⟩
   ·have er:=FC (show r=none by rw [<- hr.out];exact kU (by rw [hL.out,hn.out,hm.out];exact q2));have i3:(((k-4:Nat):Int) != ((aG n:Nat):Int)+((aG m:Nat):Int))=true:=by rw [aao];omega
    go_wp2_with (first
     | (go_at_call 128;refine (hnn _).mono ?_;rintro e w1 ⟨rfl,hxq⟩;obtain ⟨xq,rfl⟩:=hxq.out;clear hxq)
     | (go_at_call 148;refine (ik _ rfl _ Zo).mono ?_;rintro e w1 ⟨rfl,hxq⟩;obtain ⟨xq,rfl⟩:=hxq.out;clear hxq)
     | (refine aa RG2 rfl _ _ rfl w.heap.size 0 rfl _ rfl 185 _ ((hG.extB eX)) rfl Zs oC ?_;intro V hV hMV)
     | fail)
    refine aaa (aj Tryz.results125 RG2 _ _ w.heap.size 0 _ rfl hV.rd rfl (.bool false) rfl) rfl ?_;rw [er.out];exact iL.no _ _ (E9 (hE1.trans eX) (hMV.below Zo (Below.size (hE1.trans eX))))
  ·have er:=FC (show r=none by rw [<- hr.out];exact ju (by rw [hn.out];exact q1));have hnn:=λ W=>gY n rfl W;rw [aay q1] at hnn
   go_wp2_with (first
    | (go_at_call 128;refine (hnn _).mono ?_;rintro e w1 ⟨rfl,hxq⟩;obtain ⟨xq,rfl⟩:=hxq.out;clear hxq)
    | (refine aa RG2 rfl _ _ rfl w.heap.size 0 rfl _ rfl 185 _ ((hG.extB eX)) rfl Zs oC ?_;intro V hV hMV)
    | fail)
   refine aaa (aj Tryz.results125 RG2 _ _ w.heap.size 0 _ rfl hV.rd rfl (.bool false) rfl) rfl ?_;rw [er.out];exact iL.no _ _ (E9 (hE1.trans eX) (hMV.below Zo (Below.size (hE1.trans eX))))
end Go.Proofs.P9
