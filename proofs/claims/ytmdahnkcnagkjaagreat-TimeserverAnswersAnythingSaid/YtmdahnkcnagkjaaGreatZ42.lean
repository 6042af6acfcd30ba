/- Lemmas of this claim, several texts joined. -/
import Derived.Test.YtmdahnkcnagkjaaGreatZ36
import Derived.Test.YtmdahnkcnagkjaaGreatZ45
set_option maxRecDepth 100000
open Go.Value renaming int -> Zz,slice -> Zy
open Go.IntKind renaming i64 -> Zx,u8 -> Zu
open List renaming setIfInBounds_toArray -> q0q, set_cons_succ -> q1q, set_cons_zero -> q2q, take_succ_cons -> q8q, take_zero -> q9q, drop_succ_cons -> q10q, drop_zero -> q11q, take_nil -> q12q, drop_nil -> q13q
set_option maxHeartbeats 8000000
set_option linter.unusedVariables false
set_option linter.unusedSimpArgs false
/- The cases: the document's jar.New. -/
namespace Go.Proofs.P9
open Go.RowKit Go.Sec Go.Oct Go.Jar Go.Case BigFrame
theorem xv (u d a:E8)(cu cd n c:Nat) (U D:E7)(L:List E7) (pr al po net:Int) (ho:ByteArray) (w:World)(hU:Sl w u 32 U) (hD:Sl w d 32 D) (hL:Bsc w a n L) (h104:∀ x∈L,x.length=104) (h1:1<=n) (h8:n<=8) (hnet:0<=net) :
  Calls Tryz.prog 101 #[.agg #[Zz Zx pr, Zz Zx al, Zy u 32 cu, Zy d 32 cd, Zy a n c, .string ho, Zz Zx po], Zz Zx net] w (wX (⟨U,D,dedup L,[],net,0⟩,0) w):=by
 have hLl:=FC hL.len;have l1:=FC hU.len;have l2:=FC hD.len;have hneg:¬ net<0:=Zo
 go_enter Tryz.func101,Tryz.ntmps101
 go_wp2_with fail;refine cU ?_;intro W hW;have hE:Ext w W:=by rw [hW];exact eX
 have hB:Blk W w.heap.size 160 [Zz Zx pr, Zz Zx al, Zy u 32 cu, Zy d 32 cd, Zy a n c, .string ho, Zz Zx po]:=by rw [hW];exact bK
 have hR:Blk W (w.heap.size+1) 57 [Zy none 0 0, Zy none 0 0, Zy none 0 0, Zy none 0 0, Zz Zx 0, Zz Zx 0]:=by rw [hW];exact bK
 clear hW
 go_loopw [6] (λ v6 wr=>∃ i:Nat,i<=n/\v6 = Zz Zx i/\Ext W wr) (λ v6 _=>n-(intOf v6).toNat)
 case atStart=>exact ⟨0,Zo,rfl,FD _⟩
 case round =>
  obtain ⟨i,hi,rfl,hX⟩:=hrel;have hB:=hB.extB hX;have hR:=hR.extB hX;have hE:=hE.trans hX;haveI:=hB.blt;haveI:=hR.blt;have v4:=hB.cell? 4 rfl;by_cases hlt:i<n
  ·obtain ⟨b0,o0,a',n',c',rfl,hb0,hcell,hc',hS⟩:=(hL.ext hE).at i hlt;have k0:(0:Int)<=(i:Int):=Zo;have k1:(i:Int)<(n:Int):=Zo;have hiL:i<L.length:=by have:=hLl.out;omega
   have hx4:=h104 _ (aaB hiL);have hXl:=hS.len;have q1i:((n':Int) != 104)=false:=by rw [aaf];omega
   haveI:=hb0;clear hXl hx4;go_wp2_with fail;go_roundw
   case rel=>exact ⟨i+1,Zo,Zg,hX⟩
   case measure=>simp [intOf];omega
  ·obtain rfl:i=n:=by omega
   have k1:¬ (i:Int)<(i:Int):=Zo;have k8:¬ (8:Int)<(i:Int):=Zo;have k9:((i:Int) == 0)=false:=by rw [aar];omega
   have v2:=hB.cell? 2 rfl;have v3:wr.cell? ⟨w.heap.size,2+1,none⟩=some (Zy d 32 cd):=hB.cell? 3 rfl;have g1:=hU.ext hE;have g2:=hD.ext hE;go_wp2_with fail;refine R2.ae 14 [[],[0],[0,1],[0,1,2],[0,1,2,3],[],[5],[5,6],[5,6,7],[0,1,2,3,4,5,6,7,8],[0,1,2,3,4,5,6,7,8,9],[],[0,1,2,3,4,5,6,7,8,9,10,11],[],[0,1,2,3,4,5,6,7,8,9,10,11,12,13]] [] (λ h=>(h rfl).elim) Zk Zk Zk Zk Zk ?_;simp only [q8q,q9q,q10q,q11q,q12q,q13q];(repeat (refine R2.av ?_;(try simp only [Act.put,q0q,q1q,q2q])));(refine R2.ai (λ p => .slice (p 0).1 1 1) (λ p w''=>Bss w'' (p 0).1 1 ([U])) (λ p w w' h hx=>h.ext hx) (λ us w' hx hf=>⟨rfl,?_⟩) ?_;(unfold gives;simp [go_sem,execOp];exact ⟨λ _=>(some ⟨w'.heap.size,0,none⟩,0),rfl,FA _ _,gV (g1.ext hx) _⟩));(refine R2.ai (λ p => .slice (p 0).1 32 (p 0).2) (λ p w''=>Own w'' 0 (p 0).1 32 (p 0).2 U) (λ p w w' h hx=>h.ext hx) (λ us w' hx hf=>⟨rfl,?_⟩) ?_;(unfold gives;simp [go_sem,execOp];exact az (aak _) (dM _ 32 U l1.out _ (by exact (hf _ (aac _ (aab _)) rfl)) Zo)));(repeat (refine R2.av ?_;(try simp only [Act.put,q0q,q1q,q2q])));(refine R2.ai (λ p => .slice (p 0).1 1 1) (λ p w''=>Bss w'' (p 0).1 1 ([D])) (λ p w w' h hx=>h.ext hx) (λ us w' hx hf=>⟨rfl,?_⟩) ?_;(unfold gives;simp [go_sem,execOp];exact ⟨λ _=>(some ⟨w'.heap.size,0,none⟩,0),rfl,FA _ _,gV (g2.ext hx) _⟩));(refine R2.ai (λ p => .slice (p 0).1 32 (p 0).2) (λ p w''=>Own w'' 0 (p 0).1 32 (p 0).2 D) (λ p w w' h hx=>h.ext hx) (λ us w' hx hf=>⟨rfl,?_⟩) ?_;(unfold gives;simp [go_sem,execOp];exact az (aak _) (dM _ 32 D l2.out _ (by exact (hf _ (aac _ (aab _)) rfl)) Zo)));(repeat (refine R2.av ?_;(try simp only [Act.put,q0q,q1q,q2q])));(refine R2.cJ _ ([Zy none 0 0, Zy none 0 0, Zy none 0 0, Zy none 0 0, Zz Zx 0, Zz Zx 0]) Tryz.zeroValue57 rfl rfl rfl ?_);(refine R2.ef ?_;intro us x hx hf hd);obtain ⟨-,hO1, -,hO2,gO,eg,hgW,hz⟩:=hf;obtain ⟨b1,hb1⟩:∃ a,(us 4 0).1=a:=⟨_,rfl⟩;obtain ⟨d1,hd1⟩:∃ a,(us 4 0).2=a:=⟨_,rfl⟩;rw [hb1,hd1] at hO1 ⊢;obtain ⟨b2,hb2⟩:∃ a,(us 9 0).1=a:=⟨_,rfl⟩;obtain ⟨d2,hd2⟩:∃ a,(us 9 0).2=a:=⟨_,rfl⟩;rw [hb2,hd2] at hO2 ⊢;rw [eg];have hxx:Ext wr (wr.ext x):=FE _ _;have hlt:=hB.lt;have hltR:=hR.lt;have hB:=hB.extB hxx;have hR:=hR.extB hxx;have hgE:=aal hE.size hgW;have hne1:w.heap.size≠gO:=Zo;have hne2:w.heap.size+1≠gO:=Zo;have hwg:w.heap.size<=gO:=Zo;have hE:=hE.trans hxx;clear hb1 hd1 hb2 hd2 eg hd hxx v2 v3 v4 g1 g2 hlt hltR hgW hX k1 k8 k9;generalize wr.ext x=W1 at *;haveI:=hz.blt
   go_wp2_with (first
    | (refine aa RJ6 rfl _ _ rfl gO 0 rfl _ rfl 57 _ hz rfl Zs oC ?_;intro V hV hMV)
    | fail)
   have o1:=hO1.mutT hz Zd hMV;have o2:=hO2.mutT hz Zd hMV;have hB:=Blk.turn hMV hB hne1;have hR:=Blk.turn hMV hR hne2;have hE:Ext w V:=E9 hE (hMV.below hgE hE.size);have hz:Blk V gO 57 [Zy b1 32 d1, Zy b2 32 d2, Zy none 0 0, Zy none 0 0, Zz Zx net, Zz Zx 0]:=hV;clear hV hMV hO1 hO2;obtain ⟨B,hBe⟩:∃ B,B=V.heap.size:=⟨_,rfl⟩;have hwB:w.heap.size<=B:=by rw [hBe];exact hE.size
   have hBV:B<=V.heap.size:=Zo;clear hBe
   go_loopw [8] (λ v8 wr=>∃ (k:Nat) (sa:E8)(sc:Nat) (J:List E7),k<=i/\v8 = Zz Zx k/\Hid (J=dedup (L.take k))/\Blk wr gO 57 [Zy b1 32 d1, Zy b2 32 d2, Zy sa J.length sc, Zy none 0 0, Zz Zx net, Zz Zx 0]/\bU wr B sa J.length sc J/\B<=wr.heap.size/\Own wr 0 b1 32 d1 U/\Own wr 0 b2 32 d2 D/\Blk wr w.heap.size 160 [Zz Zx pr, Zz Zx al, Zy u 32 cu, Zy d 32 cd, Zy a i c, .string ho, Zz Zx po]/\Blk wr (w.heap.size+1) 57 [Zy none 0 0, Zy none 0 0, Zy none 0 0, Zy none 0 0, Zz Zx 0, Zz Zx 0]/\Ext w wr) (λ v8 _=>i-(intOf v8).toNat)
   case atStart=>exact ⟨0,none,0,[],aak _,rfl,FC rfl,hz,bU.nil _ _,hBV,o1,o2,hB,hR,hE⟩
   case round =>
    clear hz hBV o1 o2 hB hR hE;obtain ⟨k,sa,sc,J,hk,rfl,hJ,hz,o3,hBs,o1,o2,hB,hR,hE⟩:=hrel;haveI:=hz.blt;haveI:=hB.blt;have f2:wr.cell? ⟨gO,2,none⟩=some (Zy sa J.length sc):=hz.cell? 2 rfl;have v4:=hB.cell? 4 rfl;by_cases hlt2:k<i
    ·have hk0:(0:Int)<=(k:Int):=by omega
     have hkn:(k:Int)<(i:Int):=Zo;obtain ⟨b0,o0,a',n',c',hab,hb0,hcell,hc',hS⟩:=(hL.ext hE).at k hlt2;subst hab;have hkL:k<L.length:=by have:=hLl.out;omega
     have hts:=FC (show L.take (k+1)=L.take k++[L[k]] from aas hkL);have hbx:=h104 _ (aaB hkL);generalize L[k]=X at *;have hXl:=FC hS.len;have hn':n'<=1000000:=by have:=hXl.out;omega
     have hJ8:J.length<=1000000:=by
      have:=(gX (L.take k)).2.1;rw [<- hJ.out,aat] at this;omega
     haveI:=hb0;have hsn:=FC (show dedup (L.take (k+1))=wM J X by rw [hts.out,py,<- hJ.out]);have o3b:=o3.bsc;have ghs:=λ V H1 H2=>lV sa a' J.length sc n' c' J X V H1 hJ8 H2;clear hbx;cases q2:decide (X∈J)
     ·have q2':=of_decide_eq_false q2;simp only [q2] at ghs;clear q2;have hJ2:=FC (show J++[X]=dedup (L.take (k+1)) by rw [hsn.out];unfold wM;rw [aae q2']);go_wp2_with fail;refine R2.ae 9 [[],[0],[],[2],[],[2,3,4],[2,3,4,5],[0,1,2,3,4,5,6],[0,1,2,3,4,5,6,7]] [] (λ h=>(h rfl).elim) Zk Zk Zk Zk Zk ?_;simp only [q8q,q9q,q10q,q11q,q12q,q13q];(repeat (refine R2.av ?_;(try simp only [Act.put,q0q,q1q,q2q])));(refine R2.ai (λ _ => .bool false) (λ _ _=>True) (λ _ _ _ _ _=>trivial) (λ us w' hx hf=>⟨rfl,?_⟩) ?_;(unfold gives;simp [go_sem,execOp];refine (ghs _ (o3b.ext hx) (hS.ext hx)).mono ?_;rintro e w1 ⟨rfl,hx1⟩;first|exact ⟨rfl,hx1⟩|simpa using hx1));(repeat (refine R2.av ?_;(try simp only [Act.put,q0q,q1q,q2q])));(refine R2.aU ?_;intro us x hx hf);have hxx:Ext wr (wr.ext x):=FE _ _;have hz:=hz.extB hxx;have o3:=o3.ext hxx;have o1:=o1.ext hxx;have o2:=o2.ext hxx;have hB:=hB.extB hxx;have hR:=hR.extB hxx;have hE:=hE.trans hxx;have hBs:=aal hBs hxx.size;have hS:=hS.ext hxx;have hcell:=(hxx.cell (p:=⟨b0,o0+k,none⟩) hb0.lt).trans hcell;have hb0':BlkLt b0 (wr.ext x):=⟨aai hb0.lt hxx.size⟩;clear f2 v4 o3b ghs hxx q2' hJ hsn hts;generalize wr.ext x=W3 at *;haveI:=hz.blt;haveI:=hB.blt;haveI:=hb0';have f2:W3.cell? ⟨gO,2,none⟩=some (Zy sa J.length sc):=hz.cell? 2 rfl;have v4:=hB.cell? 4 rfl;go_wp2_with fail;refine R2.ae 10 [[],[0],[],[2],[],[2,3,4],[2,3,4,5],[2,3,4,5,6],[2,3,4,5,6,7],[2,3,4,5,6,7,8],[0,1,2,3,4,5,6,7,8,9],[0,1,2,3,4,5,6,7,8,9,10],[0,1,2,3,4,5,6,7,8,9,10,11]] [] (λ h=>(h rfl).elim) Zk Zk Zk Zk Zk ?_;simp only [q8q,q9q,q10q,q11q,q12q,q13q];(repeat (refine R2.av ?_;(try simp only [Act.put,q0q,q1q,q2q])));(refine R2.ai (λ p => .slice (p 0).1 1 1) (λ p w''=>Bss w'' (p 0).1 1 ([X])) (λ p w w' h hx=>h.ext hx) (λ us w' hx hf=>⟨rfl,?_⟩) ?_;(unfold gives;simp [go_sem,execOp];exact ⟨λ _=>(some ⟨w'.heap.size,0,none⟩,0),rfl,FA _ _,gV (hS.ext hx) _⟩));(refine R2.ai (λ p => .slice (p 0).1 n' (p 0).2) (λ p w''=>Own w'' 0 (p 0).1 n' (p 0).2 X) (λ p w w' h hx=>h.ext hx) (λ us w' hx hf=>⟨rfl,?_⟩) ?_;(unfold gives;simp [go_sem,execOp];exact az (aak _) (dM _ n' X hXl.out _ (by exact (hf _ (aac _ (aab _)) rfl)) hn')));(refine R2.ai (λ p => .slice (p 0).1 1 1) (λ p w''=>pJ X w'' (p 0).1) (λ p w w' h hx=>by first|exact h.ext hx|exact ⟨h.1.ext hx,h.2.ext hx⟩|exact ⟨h.1.ext hx,h.2⟩|exact ⟨h.1.ext hx,h.2.1.ext hx,h.2.2.ext hx⟩) (λ us w' hx hf=>⟨rfl,?_⟩) ?_;(unfold gives;simp [go_sem,execOp];exact ⟨λ _=>(some ⟨w'.heap.size,0,none⟩,0),rfl,FA _ _,pJ.mk (hf _ (aac _ (aab _)) rfl) _⟩));(refine R2.aU ?_;intro us x hx hf);obtain ⟨-, -,hN⟩:=hf;obtain ⟨aN,haN⟩:∃ a,(us 9 0).1=a:=⟨_,rfl⟩;rw [haN] at hN ⊢;clear haN;obtain ⟨gn,ga,nn,cc,rfl,hRd,hOn⟩:=hN;have hxx:Ext W3 (W3.ext x):=FE _ _;have o3x:=o3.ext hxx;have hzx:=hz.extB hxx;have hRx:=hR.extB hxx;have hBxx:=hB.extB hxx;have hEx:=hE.trans hxx;have hBx:=aal hBs hxx.size;have o1:=o1.ext hxx;have o2:=o2.ext hxx;clear o3 hz hR hB hE hBs hxx f2 v4;refine cE V8 rfl _ _ rfl B sa J.length sc J rfl gn rfl o3x ga nn cc X hRd hOn.sl hOn.le.1 (Own.inBlk hOn) Zo hBx ?_;intro sa' sc' w6 hO6 hg6 hb6;have hz6:=hzx.grown hg6 (o3x.blk hzx Zd);have hR6:=hRx.grown hg6 (o3x.blk hRx Zd);have hB6t:=hBxx.grown hg6 (o3x.blk hBxx Zd);have o1:=o1.grownB o3x hg6;have o2:=o2.grownB o3x hg6;have hE6:Ext w w6:=E9 hEx (hb6.mono Zo);have hB6:=aal hBx hb6.size;haveI:=hz6.blt;have q2:=hz6.cell? 2 rfl;have z2:=hz6.free 2;go_wp2;have hset:=hz6.set 2 (Zy sa' (J.length+1) sc');have hM:Mut gO w6 (w6.setCell ⟨gO,2,none⟩ (Zy sa' (J.length+1) sc')):=(Mut.refl _ _).setCell 2 _;go_roundw
      case rel=>exact ⟨k+1,sa',sc',J++[X],Zo,Zg,hJ2,(by rw [aag];exact hset),(by rw [aag];exact hO6.mut hz6 Zd Zs hM),aal hB6 hM.size,o1.mutT hz6 Zd hM,o2.mutT hz6 Zd hM,Blk.turn hM hB6t hne1,Blk.turn hM hR6 hne2,E9 hE6 (hM.below hwg hE6.size)⟩
      case measure=>simp [intOf];omega
     ·have q2':=aaV q2;simp only [q2] at ghs;clear q2;have hJ2:=FC (show J=dedup (L.take (k+1)) by rw [hsn.out];unfold wM;rw [aaj q2']);go_wp2_with fail;refine R2.ae 9 [[],[0],[],[2],[],[2,3,4],[2,3,4,5],[0,1,2,3,4,5,6],[0,1,2,3,4,5,6,7]] [] (λ h=>(h rfl).elim) Zk Zk Zk Zk Zk ?_;simp only [q8q,q9q,q10q,q11q,q12q,q13q];(repeat (refine R2.av ?_;(try simp only [Act.put,q0q,q1q,q2q])));(refine R2.ai (λ _ => .bool true) (λ _ _=>True) (λ _ _ _ _ _=>trivial) (λ us w' hx hf=>⟨rfl,?_⟩) ?_;(unfold gives;simp [go_sem,execOp];refine (ghs _ (o3b.ext hx) (hS.ext hx)).mono ?_;rintro e w1 ⟨rfl,hx1⟩;first|exact ⟨rfl,hx1⟩|simpa using hx1));(repeat (refine R2.av ?_;(try simp only [Act.put,q0q,q1q,q2q])));(refine R2.aU ?_;intro us x hx hf);have hxx:Ext wr (wr.ext x):=FE _ _;go_wp2_with fail;go_roundw
      case rel=>exact ⟨k+1,sa,sc,J,Zo,Zg,hJ2,hz.extB hxx,o3.ext hxx,aal hBs hxx.size,o1.ext hxx,o2.ext hxx,hB.extB hxx,hR.extB hxx,hE.trans hxx⟩
      case measure=>simp [intOf];omega
    ·obtain rfl:k=i:=by omega
     have hkn:¬ (k:Int)<(k:Int):=Zo;have hJe:J=dedup L:=by have:=hJ.out;rwa [aah (by have:=hLl.out;omega)] at this
     go_wp2_with (first
      | (refine af RJ6 rfl _ rfl gO 0 rfl _ hz.rd rfl ?_)
      | (refine aa RJ6 rfl _ _ rfl (w.heap.size+1) 0 rfl _ rfl 57 _ hR rfl Zs oC ?_;intro w9 hB9 hM9)
      | fail)
     refine aaa (aj Tryz.results101 RJ6 _ _ (w.heap.size+1) 0 _ rfl hB9.rd rfl (Zz Zx 0) rfl) rfl ?_;have hEz:Ext w w9:=E9 hE (hM9.below Zo hE.size);have o3z:=o3.mut hR Zd Zs hM9;subst hJe;exact ⟨b1,32,d1,b2,32,d2,sa,_,sc,none,0,0,rfl,o1.mutT hR Zd hM9,o2.mutT hR Zd hM9,o3z.bsc,o3z.le,o3z.typ3,Own.nil _ _,hEz⟩
end Go.Proofs.P9

/- The cases: Jar. -/
namespace Go.Sec
open Go.RowKit
theorem Ext.set2 {a b:World} {g:Nat} {T:TypeId} {vs:List Value} (hE:Ext a b) (hB:Blk a g T vs) (i:Nat) (v:Value):Ext (a.setCell ⟨g,i,none⟩ v) (b.setCell ⟨g,i,none⟩ v):=by
 have h1:=(Mut.refl g a).setCell i v;have h2:=(Mut.refl g b).setCell i v;refine ⟨by first|exact h2.os.trans (hE.os.trans h1.os.symm)|exact h1.os.symm.trans (hE.os.trans h2.os),by first|exact h2.tape.trans (hE.tape.trans h1.tape.symm)|exact h1.tape.symm.trans (hE.tape.trans h2.tape),by first|exact h2.output.trans (hE.output.trans h1.output.symm)|exact h1.output.symm.trans (hE.output.trans h2.output),by have:=hE.size;simpa using this,λ k hk=>?_⟩;have hk:k<a.heap.size:=by simpa using hk
 by_cases hkg:k=g
 ·subst hkg;exact ((hB.extB hE).set i v).trans (hB.set i v).symm
 ·exact (h2.block k (aai hk hE.size) (λ e=>hkg (by injection e with e;first|done|exact e.symm))).trans ((hE.block k hk).trans (h1.block k hk (λ e=>hkg (by injection e with e;first|done|exact e.symm))).symm)
end Go.Sec
namespace Go.Proofs.P9
open Go.RowKit Go.Sec Go.Oct Go.Jar Go.Case Go.Cook BigFrame
theorem RT7:RowT Tryz.prog 160 7:=⟨⟨_,Tryz.underlying160,rfl⟩,Zk,⟨_,Tryz.zeroValue160,Zk⟩⟩
def D5 (j:Jar) (w:World)(e:Ending) (w':World):Prop:=∃ b1 n1 d1 b2 n2 d2 b3 n3 d3 b4 n4 d4,e = .returned (.agg #[Zy b1 n1 d1, Zy b2 n2 d2, Zy b3 n3 d3, Zy b4 n4 d4, Zz Zx j.net, Zz Zx j.sent]) /\
 Sl w' b1 n1 j.up/\n1<=d1/\Sl w' b2 n2 j.dn/\n2<=d2/\Bsc w' b3 n3 j.ck/\n3<=d3/\fT w' b3/\Sl w' b4 n4 j.last/\n4<=d4/\Ext w w'
theorem yV (ar:E8)(nr cr:Nat) (R:Ring) (v k:Nat) (net:Int) {vI kI:Int} (hvI:vI=(v:Int)) (hkI:kI=(k:Int)) (w:World)(hI:Ib w ar nr R) (hcr:nr<=cr) (hR:aM R=true) (hv9:v<=100000) (hk1:1<=k) (hk8:k<=8) (hnet:0<=net) :
  Calls Tryz.prog 62 #[.agg #[Zy ar nr cr], Zz Zx vI, Zz Zx kI, Zz Zx net] w (D5 (pG R (v:Int) k net) w):=by
 subst hvI hkI;have hpr:=λ W=>xD v rfl W Zo;have hrs:=λ W=>mz (v+5000) 16 k (show (v:Int)+5000=((v+5000:Nat):Int) from Zo) (show (16:Int)=((16:Nat):Int) from rfl) rfl W Zo Zo Zo;have hNi:∀ i,i<k->(kQ ((v+5000:Nat):Int) 16 k)[i]?=some (rnd (((v:Int)+5000)*1000+(i:Int)) 16):=λ i hi=>by
  unfold kQ;rw [List.getElem?_map,List.getElem?_range hi];show some (rnd (((v+5000:Nat):Int)*1000+(i:Int)) 16)=_;rw [show ((v+5000:Nat):Int)=(v:Int)+5000 by omega]
 have hnl:=jH ((v+5000:Nat):Int) 16 k;generalize kQ ((v+5000:Nat):Int) 16 k=N at *;have hcs:=λ i=>xR R (v:Int) i;have h104:=λ i x hx=>pF (R:=R) (v:=(v:Int)) (k:=i) hR (x:=x) hx;have hup:=dF (v:Int);have hdn:=fz (v:Int);have hjc:pG R (v:Int) k net=⟨upC (v:Int),dnC (v:Int),dedup (iM R (v:Int) k),[],net,0⟩:=rfl;have hc0:iM R (v:Int) 0=[]:=rfl;rw [hjc];clear hjc;generalize hUg:upC (v:Int)=U at *;generalize hDg:dnC (v:Int)=D at *;have hmk0:=λ i=>za (r:=R) (algo:=15) (up:=U) (down:=D) (nonce:=rnd (((v:Int)+5000)*1000+(i:Int)) 16) hR Zo Zo hup hdn (bS _ Zo);have hrl:=hI.len;have hr4:=(bm.1 hR).2.2.2;have hcl:=λ i=>ie R (v:Int) i;generalize hCg:iM R (v:Int)=C at *;clear hUg hDg hCg
 go_enter Tryz.func62,Tryz.ntmps62
 go_wp2_with fail;refine br ?_;intro W hW;have hE:Ext w W:=by rw [hW];exact eX
 have hA:Blk W w.heap.size 26 [Zy ar nr cr]:=by rw [hW];exact bK
 have hB8:Blk W (w.heap.size+1) 57 [Zy none 0 0, Zy none 0 0, Zy none 0 0, Zy none 0 0, Zz Zx 0, Zz Zx 0]:=by rw [hW];exact bK
 clear hW;have hI:=hI.ext hE;(with_reducible refine (hpr _).mono ?_);rintro e w1 ⟨a1,c1,a2,c2,rfl,hU,hcU,hD,hcD,hx⟩;have hI:=hI.ext hx;have hA:=hA.extB hx;have hB8:=hB8.extB hx;have hE:=hE.trans hx;clear hx hpr
 go_wp2_with (first
  | ((refine ag RP2 rfl rfl _ _ rfl rfl rfl rfl (by simp [Act.put]) _ rfl Zs rfl oC ?_;intro x1 hP _);have hPr:=Blk.rd hP)
  | (refine af RP2 rfl _ rfl w1.heap.size 0 rfl _ hPr rfl ?_)
  | ((refine ag RT7 rfl rfl _ _ rfl rfl rfl rfl (by simp [Act.put]) _ rfl Zs rfl oC ?_;intro x2 hT _))
  | fail)
 have hx:Ext w1 ((w1.ext x1).ext x2):=eX;obtain ⟨gp,hgp⟩:∃ g,g=w1.heap.size:=⟨_,rfl⟩;rw [<- hgp] at hP ⊢;obtain ⟨gT,hgT⟩:∃ g,g=(w1.ext x1).heap.size:=⟨_,rfl⟩;rw [<- hgT] at hT ⊢;have hltP:gp<gT:=by rw [hgT];exact hP.lt
 have hsT:w1.heap.size<=gT:=Zo;have hP:=hP.extB (FE _ x2);clear hPr hgp hgT;generalize (w1.ext x1).ext x2=W2 at *;(with_reducible refine (hrs _).mono ?_);rintro e w3 ⟨an,cn,rfl,hN,hcn,htn,hx3⟩;have hT:=hT.extB hx3;have hP:=hP.extB hx3;have hE1:=hx.trans hx3;obtain ⟨B,hBe⟩:∃ B,B=w3.heap.size:=⟨_,rfl⟩;have hTB:gT<B:=by rw [hBe];exact hT.lt
 clear hx hx3 hrs;go_wp2_with fail
 go_loopw [12,13,14] (λ v12 _ _ wr=>∃ (i:Nat) (la:E8)(lc:Nat) (wm:World),i<=k/\v12 = Zz Zx i/\Mut gT w3 wm/\Ext wm wr/\wm.heap.size=B/\Blk wm gT 160 [Zz Zx 0, Zz Zx 0, Zy a1 32 c1, Zy a2 32 c2, Zy la i lc, .string ⟨#[]⟩, Zz Zx 0]/\bU wr B la i lc (C i)) (λ v12 _ _ _=>k-(intOf v12).toNat)
 case atStart=>exact ⟨0,none,0,w3,aak _,rfl,Mut.refl _ _,FD _,hBe.symm,hT,by rw [hc0];exact bU.nil _ _⟩
 case round =>
  obtain ⟨i,la,lc,wm,hi,rfl,hM,hEm,hwB,hTm,hO⟩:=hrel;have hE1r:Ext w1 wr:=Ext.trans (E9 hE1 (hM.below hsT hE1.size):Ext w1 wm) hEm;have hA1:=hA.extB hE1r;have hP1:=(Blk.turn hM hP Zo).extB hEm;have hT1:=hTm.extB hEm;have hBr:B<=wr.heap.size:=by rw [<- hwB];exact hEm.size
  haveI:=hA1.blt;haveI:=hP1.blt;haveI:=hT1.blt;have v4:=hT1.cell? 4 rfl;by_cases hlt:i<k
  ·have i0:(0:Int)<=(i:Int):=by omega
   have i1:(i:Int)<(k:Int):=Zo;have hN1:=(hN.mutNe (htn.ne hT Zd) hT Zs hM).ext hEm;obtain ⟨bn,on,gn,mn,dn,rfl,hbn,hcl0,hdn0,hSn⟩:=hN1.at i Zo;have hNe:N[i]=rnd (((v:Int)+5000)*1000+(i:Int)) 16:=by
    have:=hNi i hlt;rw [List.getElem?_eq_getElem Zo] at this;injection this
   have hts:=FC (hcs i);have hmk1:=hmk0 i;rw [hNe] at hSn;generalize rnd (((v:Int)+5000)*1000+(i:Int)) 16=Y at *;have hmk:=λ W' H1 H2 H3 H4=>nE ar a1 a2 gn nr cr 32 c1 32 c2 mn dn R 15 U D Y W' H1 hcr Zo H2 hcU H3 hcD H4 hdn0;rw [hmk1] at hmk;generalize dw (hd R) 15 U D Y=M at *;have hI1:=hI.ext hE1r;have hU1:=hU.ext hE1r;have hD1:=hD.ext hE1r;haveI:=hbn;clear hNe hmk1;go_wp2_with fail;refine R2.ae 10 [[],[],[],[],[2,3],[2,3,4],[0,1,2,3,4,5],[0,1,2,3,4,5,6],[0,1,2,3,4,5,6,7],[0,1,2,3,4,5,6,7],[0,1,2,3,4,5,6,7,8],[0,1,2,3,4,5,6,7,8,9,10]] [8,9] (λ _=>by intro c a d v w h;cases d <;> exact h) Zk Zk Zk Zk Zk ?_;simp only [q8q,q9q,q10q,q11q,q12q,q13q];(refine R2.ao RR1 _ rfl (λ _=>rfl) w.heap.size 0 (λ _=>by simp [go_sem]) _ hA1.rd rfl ?_);(refine R2.ao RP2 _ rfl (λ _=>rfl) gp 0 (λ _=>by simp [go_sem]) _ hP1.rd rfl ?_);(repeat (refine R2.av ?_;(try simp only [Act.put,q0q,q1q,q2q])));(refine R2.ai (λ p => .tuple #[.slice (p 0).1 M.length (p 0).2, Zz Zx 0]) (λ p w''=>Own w'' 0 (p 0).1 M.length (p 0).2 M) (λ p w w' h hx=>h.ext hx) (λ us w' hx hf=>⟨rfl,?_⟩) ?_;(unfold gives;simp [go_sem,execOp];exact kX (hmk _ (hI1.ext hx) (hU1.ext hx) (hD1.ext hx) (hSn.ext hx))));(repeat (refine R2.av ?_;(try simp only [Act.put,q0q,q1q,q2q])));(refine R2.ef ?_;intro us x hx hf hd);have hx:Ext wr (wr.ext x):=hx;have hO:=hO.ext hx;have hEm:=hEm.trans hx;have hT1:=hT1.extB hx;have hBr:=aal hBr hx.size;generalize (us 6 0).1=ax at *;generalize (us 6 0).2=cx at *;clear hx hd hmk hI1 hU1 hD1 hA1 hP1 hN1 hE1r hSn hcl0 v4;generalize wr.ext x=wx at *;haveI:=hT1.blt;have v4:=hT1.cell? 4 rfl
   go_wp2_with (first
    | (at_builtin;refine cE V8 rfl _ _ rfl B la i lc _ rfl wx.heap.size rfl (hO.ext (FA _ _)) ax M.length cx M (Blk.new wx #[Zy ax M.length cx] 33).rd (hf.ext (FA _ _)).sl hf.le.1 (Own.inBlk (hf.ext (FA _ _))) Zo (by have:=(FA wx (.cells #[Zy ax M.length cx] 33)).size;omega) ?_;intro sa sc w7 hO7 hg7 hb7;have hEm7:Ext wm w7:=E9 (hEm.trans (FA _ _)) (by rw [hwB];exact hb7);have hT7:=hTm.extB hEm7;haveI:=Blk.blt hT7;have q4:=Blk.cell? hT7 4 rfl;have z4:=Blk.free hT7 4)
    | fail)
   go_roundw
   case rel=>exact ⟨i+1,sa,sc,wm.setCell ⟨gT,4,none⟩ (Zy sa (i+1) sc),Zo,Zg,hM.setCell 4 _,Ext.set2 hEm7 hTm 4 _,by simpa using hwB,hTm.set 4 _,by rw [hts.out];exact hO7.mut hT7 Zd Zs ((Mut.refl _ _).setCell 4 _)⟩
   case measure=>simp [intOf];omega
  ·obtain rfl:i=k:=by omega
   have i1:¬ (i:Int)<(i:Int):=Zo;have hB81:=hB8.extB hE1r;have hEr:=hE.trans hE1r;have hnw:=λ W H1 H2 H3=>xv a1 a2 la c1 c2 i lc U D (C i) 0 0 0 net ⟨#[]⟩ W H1 H2 H3 (h104 i) hk1 hk8 hnet;have hlw:=hB81.lt
   go_wp2_with (first
    | (refine af RT7 rfl _ rfl gT 0 rfl _ hT1.rd rfl ?_)
    | fail)
   (with_reducible refine (hnw _ (hU.ext hE1r) (hD.ext hE1r) hO.bsc).mono ?_);rintro e w5 ⟨b1,n1,d1,b2,n2,d2,b3,n3,d3,b4,n4,d4,rfl,o1,o2,o3,hc3,ht3,o4,hx5⟩;have hB81:=hB81.extB hx5;have hEr:=hEr.trans hx5;clear hnw hx5 hT1 hP1 hA1 hE1r hEm hTm hM v4
   go_wp2_with (first
    | ((refine ag RJ6 rfl rfl _ _ rfl rfl rfl rfl (by simp [Act.put]) _ rfl Zs rfl oC ?_;intro x5 hz _);have hzr:=Blk.rd hz;have hB82:=Blk.ext hB81 x5)
    | (refine af RJ6 rfl _ rfl w5.heap.size 0 rfl _ hzr rfl ?_)
    | (refine aa RJ6 rfl _ _ rfl (w.heap.size+1) 0 rfl _ rfl 57 _ hB82 rfl Zs oC ?_;intro V hV hMV)
    | fail)
   have hx5:Ext w5 (w5.ext x5):=FE _ _;have p1:=(o1.ext hx5).mutT hB82 Zd hMV;have p2:=(o2.ext hx5).mutT hB82 Zd hMV;have p4:=(o4.ext hx5).mutT hB82 Zd hMV;have ht5:=ht3.ext hx5;have p3:=(o3.ext hx5).mutNe (ht5.ne hB82 Zd) hB82 Zs hMV;refine aaa (aL Tryz.results62 RJ6 _ _ (w.heap.size+1) 0 _ rfl hV.rd rfl) rfl ?_;exact ⟨b1,n1,d1,b2,n2,d2,b3,n3,d3,b4,n4,d4,rfl,p1.sl,p1.le.1,p2.sl,p2.le.1,p3,hc3,ht5.mut hB82 Zd hMV,p4.sl,p4.le.1,E9 (hEr.trans hx5) (hMV.below Zo (hEr.trans hx5).size)⟩
end Go.Proofs.P9

/- Layer 26: a question with a cookie of a ring. -/
namespace Go.Case
open Go.Oct Go.Sha Go.Cook Go.Jar Go.Pkt Go.Tsrv
def tQ (v:Nat):UInt64:=UInt64.ofNat (v+1) <<< 8
def jV (v:Nat) (c:E7)(m:Nat):E7:=iX (upC (v:Int)) (tQ v) (rnd ((v:Int)+1) 32) c (7-m) (rnd ((v:Int)+2) 16)
def th (v:Nat) (c:E7)(rest:List E7):Jar:=⟨upC (v:Int),dnC (v:Int),rest,c,0,1⟩
theorem kT {R:Ring} {v k:Nat} {c:E7} {rest:List (E7)} (hR:aM R=true) (hk:k<=8) (h:(pG R (v:Int) k 0).ck=c :: rest):bQ (th v c rest)=true/\c.length=104/\rest.length<=7/\∀ x∈c :: rest,x∈iM R (v:Int) k:=by
 obtain ⟨d1,d2,d3⟩:=gX (iM R (v:Int) k);rw [ie] at d2;have h:dedup (iM R (v:Int) k)=c :: rest:=h;rw [h] at d1 d2 d3;have h104:∀ b∈c :: rest,b.length=104:=λ b hb=>pF hR ((d3 b).1 hb);rw [List.nodup_cons] at d1;rw [aaM] at d2;refine ⟨kS ⟨⟨dF _,fz _⟩,?_, .inr (h104 c (aa4 ..)),d1.1,?_,?_,?_⟩ (λ b hb=>h104 b (List.mem_cons_of_mem _ hb)) d1.2,h104 c (aa4 ..),Zo,λ x hx=>(d3 x).1 hx⟩
 ·show rest.length<=8;omega
 ·show (0:Int)<=0;omega
 ·show (0:Int)<=1;omega
 ·show (1:Int)<=1099511627776;omega
theorem yz {R:Ring} {v k:Nat} {c:E7} {rest:List (E7)} (hR:aM R=true) (hk:k<=8) (h:(pG R (v:Int) k 0).ck=c :: rest) :
  lQ (pG R (v:Int) k 0) (tQ v) (rnd ((v:Int)+1) 32) (rnd ((v:Int)+2) 16)=((th v c rest,jV v c rest.length),0):=by
 have h1:=(zi (n9 (v:Int) hR hk (by omega:(0:Int)<=0)) h (by show (0:Int)≠1099511627776;omega) (tQ v) (bS ((v:Int)+1) (n:=32) Zo) (bS ((v:Int)+2) (n:=16) Zo)).1;exact h1
end Go.Case
namespace Go.Proofs.P9
open Go.RowKit Go.Sec Go.Oct Go.Jar Go.Case Go.Cook Go.Pkt Go.Tsrv BigFrame
def CQ (j:Jar) (q:E7)(w:World)(e:Ending) (w':World):Prop:=∃ b1 n1 d1 b2 n2 d2 b3 n3 d3 b4 n4 d4 b5 d5,e = .returned (.tuple #[.agg #[Zy b1 n1 d1, Zy b2 n2 d2, Zy b3 n3 d3, Zy b4 n4 d4, Zz Zx j.net, Zz Zx j.sent], Zy b5 q.length d5]) /\
 Sl w' b1 n1 j.up/\n1<=d1/\Sl w' b2 n2 j.dn/\n2<=d2/\Bsc w' b3 n3 j.ck/\n3<=d3/\fT w' b3/\Sl w' b4 n4 j.last/\n4<=d4/\Sl w' b5 q.length q/\q.length<=d5/\Ext w w'
theorem _root_.z42q91{p:Prop}(h:p:=by
 have:=aaw.1 g2 x hx;have:x.length=104:=by simpa using this
 omega):p:=h
theorem lT (ar:E8)(nr cr:Nat) (R:Ring) (v k:Nat) (c:E7)(rest:List E7) {vI kI:Int} (hvI:vI=(v:Int)) (hkI:kI=(k:Int)) (w:World)(hI:Ib w ar nr R) (hcr:nr<=cr) (hR:aM R=true) (hv9:v<=10000) (hk1:1<=k) (hk8:k<=8) (hck:(pG R (v:Int) k 0).ck=c :: rest) :
  Calls Tryz.prog 23 #[.agg #[Zy ar nr cr], Zz Zx vI, Zz Zx kI] w (CQ (th v c rest) (jV v c rest.length) w):=by
 subst hvI hkI;have hjr:=λ W H=>yV ar nr cr R v k 0 rfl rfl W H hcr hR Zo hk1 hk8 Zo;have hr1:=λ W=>gR ((v:Int)+1) 32 (show (32:Int)=((32:Nat):Int) from rfl) W Zo;have hr2:=λ W=>gR ((v:Int)+2) 16 (show (16:Int)=((16:Nat):Int) from rfl) W Zo;have hqj:=yz hR hk8 hck;have hvj:=n9 (v:Int) (net:=0) hR hk8 Zo;obtain ⟨T1,hT1⟩:∃ T,UInt64.ofNat (v+1)=T:=⟨_,rfl⟩;have hw64:IntKind.u64.wrap ((v:Int)+1)=n64 T1:=by rw [lH _ Zo Zo,<- hT1];rfl
 have htQ:tQ v=T1 <<< 8:=by unfold tQ;rw [hT1]
 clear hT1;have hlu:=bS ((v:Int)+1) (n:=32) Zo;have hln:=bS ((v:Int)+2) (n:=16) Zo;generalize rnd ((v:Int)+1) 32=u at *;generalize rnd ((v:Int)+2) 16=nc at *;generalize pG R (v:Int) k 0=j at *;generalize th v c rest=J at *;generalize jV v c rest.length=q at *;have hh:=hvj;unfold bQ at hh;rw [aaz,aaz] at hh;obtain ⟨g1,g2,_⟩:=hh;have g1:jz j:=aaV g1;have g2:∀ x∈j.ck,x.length<=1000000:=λ x hx=>by
  exact z42q91
 have hqs:=λ a1 a2 a3 a4 au an n1 c1 n2 c2 n3 c3 n4 c4 cu cn W H1 H2 H3 H4 H5 H6 H7 H8 H9 Ha Hb Hc Hd He=>vd a1 a2 a3 a4 au an n1 c1 n2 c2 n3 c3 n4 c4 32 cu 16 cn j (tQ v) u nc W H1 H2 H3 H4 H5 H6 H7 H8 g2 H9 Ha Hb Hc Hd He;rw [hqj,htQ] at hqs;clear hqj hvj hck htQ
 go_enter Tryz.func23,Tryz.ntmps23
 go_wp2_with (first
  | (refine af RR1 rfl _ rfl w.heap.size 0 rfl _ (((Blk.new w #[Zy ar nr cr] 26).alloc _).rd) rfl ?_)
  | fail)
 refine br ?_;intro W hW;have hE:Ext w W:=by rw [hW];exact eX
 have hB6:Blk W (w.heap.size+1) 57 [Zy none 0 0, Zy none 0 0, Zy none 0 0, Zy none 0 0, Zz Zx 0, Zz Zx 0]:=by rw [hW];exact bK
 clear hW;(with_reducible refine (hjr _ (hI.ext hE)).mono ?_);rintro e w1 ⟨b1,n1,d1,b2,n2,d2,b3,n3,d3,b4,n4,d4,rfl,s1,k1,s2,k2,s3,k3,t3,s4,k4,hx⟩;have hB6:=hB6.extB hx;have hE:=hE.trans hx;clear hx hjr;go_wp2_with fail;(with_reducible refine (hr1 _).mono ?_);rintro e w2 ⟨au,cu,rfl,oU,hx2⟩;go_wp2_with fail;(with_reducible refine (hr2 _).mono ?_);rintro e w3 ⟨an,cn,rfl,oN,hx3⟩;have hx:=hx2.trans hx3;have oU:=oU.ext hx3;have s1:=s1.ext hx;have s2:=s2.ext hx;have s3:=s3.ext hx;have s4:=s4.ext hx;have hB6:=hB6.extB hx;have hE:=hE.trans hx;have l1:=s1.len;have l2:=s2.len;have l3:=s3.len;have l4:=s4.len;have m1:n1<=1000000:=by rw [<- l1,g1.1.1];omega
 have m2:n2<=1000000:=by rw [<- l2,g1.1.2];omega
 have m3:n3<=100000:=by have:=g1.2.1;omega
 have m4:n4<=1000000:=by rcases g1.2.2.1 with h|h <;> omega
 clear hx hx2 hx3 hr1 hr2 l1 l2 l3 l4 g1 g2 hlu hln;go_wp2_with fail;refine (hqs b1 b2 b3 b4 au an n1 d1 n2 d2 n3 d3 n4 d4 cu cn _ s1 k1 m1 s2 m2 s3 k3 m3 s4 m4 oU.sl oU.le.1 oN.sl oN.le.1).mono ?_;rintro e w5 ⟨p1,i1,e1,p2,i2,e2,p3,i3,e3,p4,i4,e4,p5,i5,e5,rfl,r1,h1,r2,h2,r3,h3,rt,r4,h4,r5,h5,hx5⟩;have hB6:=hB6.extB hx5;have hE:=hE.trans hx5;have l5:=r5.len;subst l5;clear hqs hx5 s1 s2 s3 s4 t3 oU oN
 go_wp2_with (first
  | ((refine ag RJ6 rfl rfl _ _ rfl rfl rfl rfl (by simp [Act.put]) _ rfl Zs rfl oC ?_;intro x5 hz _);have hzr:=Blk.rd hz;have hB82:=Blk.ext hB6 x5)
  | (refine af RJ6 rfl _ rfl w5.heap.size 0 rfl _ hzr rfl ?_)
  | (refine aa RJ6 rfl _ _ rfl (w.heap.size+1) 0 rfl _ rfl 57 _ hB82 rfl Zs oC ?_;intro V hV hMV)
  | fail)
 have hx5:Ext w5 (w5.ext x5):=FE _ _;have hne:∀ z∈[Value.slice none 0 0, Zy none 0 0, Zy none 0 0, Zy none 0 0, Zz Zx 0, Zz Zx 0],∀ x,z ≠ Zz Zu x:=Zs;have rt5:=rt.ext hx5;refine aaa (aj Tryz.results23 RJ6 _ _ (w.heap.size+1) 0 _ rfl hV.rd rfl (Zy p5 q.length e5) rfl) rfl ?_;exact ⟨p1,i1,e1,p2,i2,e2,p3,i3,e3,p4,i4,e4,p5,e5,rfl,(r1.ext hx5).mut hB82 hne hMV,h1,(r2.ext hx5).mut hB82 hne hMV,h2,(r3.ext hx5).mutNe (rt5.ne hB82 Zd) hB82 hne hMV,h3,rt5.mut hB82 Zd hMV,(r4.ext hx5).mut hB82 hne hMV,h4,(r5.ext hx5).mut hB82 hne hMV,h5,E9 (hE.trans hx5) (hMV.below (by have:=hE.size;omega) (hE.trans hx5).size)⟩
end Go.Proofs.P9

/- Layer 26: rings and servers of the cases. Plain functions. -/
namespace Go.Case
open Go.Oct Go.Sha Go.Cook Go.Jar Go.Pkt Go.Tsrv
theorem pE (v:Nat) {t:Nat} (ht:t<=50):aM (lG (v:Int) t)=true/\(lG (v:Int) t).length<=4/\1<=(lG (v:Int) t).length:=by
 have h:=mR ((v:Int) % 1000).toNat (rnd (v:Int) 32) Zo t Zo;exact ⟨h.1,h.2.2.1,h.2.2.2⟩
theorem AT {R R':Ring} {i:Nat} {v:Int} {k:Nat} {c:E7} (hR':aM R'=true) (hi:R'[i]?=some (hd R)) (hc:c∈iM R v k):cW R' c=⟨15,upC v,dnC v,i,0⟩:=by
 obtain ⟨j,_,rfl⟩:=aa2.1 hc;exact xG hR' hi Zo Zo (bS _ Zo) (dF v) (fz v)
theorem C2 {R:Ring} (h:1<=R.length):R[0]?=some (hd R):=by
 unfold hd;rw [FF,List.getElem?_eq_getElem Zo];rfl
def mf (R:Ring) (ev bu:Int) (o:Bool):Srv:=⟨R,2,ev,bu,o⟩
theorem AH {R:Ring} (hR:aM R=true) {ev bu:Int} (h:fG ev bu=true) (o:Bool):cy (mf R ev bu o)=0:=by
 unfold cy mf;simp only;rw [aae (by rw [hR];simp),aae (by rw [h];simp)]
theorem Bx (v:Int) (k:Nat):∀ x∈kQ v 16 k,x.length=16:=λ _ h=>y8 Zo h
theorem BB {R R':Ring} {i v k:Nat} {c:E7} {rest:List (E7)} (hR:aM R=true) (hR':aM R'=true) (hi:R'[i]?=some (hd R)) (hk:k<=8) (hck:(pG R (v:Int) k 0).ck=c :: rest) {ev bu paid now p2:Int} {al o:Bool} (hru:fG ev bu=true) (hal:dC paid ev bu now=((p2,al),0)) (r t:UInt64)
  {N:List (E7)} (hN:∀ x∈N,x.length=16) (h9:9<=N.length) :
  ∃ b,ml (mf R' ev bu o) paid now (jV v c rest.length) r t N=((b,p2),0)/\b.length=124+108*(jF (mf R' ev bu o) ⟨15,upC (v:Int),dnC (v:Int),i,0⟩ N (7-rest.length) al).length /\
   sj (th v c rest) (rnd ((v:Int)+1) 32) b=((dR (th v c rest) ((jF (mf R' ev bu o) ⟨15,upC (v:Int),dnC (v:Int),i,0⟩ N (7-rest.length) al).map (·.2)),⟨uS (mf R' ev bu o) (tQ v) r t al,[(260,rnd ((v:Int)+1) 32)],jF (mf R' ev bu o) ⟨15,upC (v:Int),dnC (v:Int),i,0⟩ N (7-rest.length) al,true⟩),0) /\
   (jF (mf R' ev bu o) ⟨15,upC (v:Int),dnC (v:Int),i,0⟩ N (7-rest.length) al).length=(if al=true then 8-rest.length else 0)/\(jV v c rest.length).length=124+108*(8-rest.length)/\ew (jV v c rest.length)=2:=by
 obtain ⟨j1,j2,j3,j4⟩:=kT hR hk hck;have hu:=bS ((v:Int)+1) (n:=32) Zo;have hn:=bS ((v:Int)+2) (n:=16) Zo;have ho:=AT (i:=i) hR' hi (j4 c (aa4 ..));obtain ⟨b,e1,e2,e3,e4,_⟩:=Ao (s:=mf R' ev bu o) (paid:=paid) (now:=now) (tQ v) r t (k:=7-rest.length) (dF (v:Int)) hu j2 hn Zo (AH hR' hru o) hal hN h9 ho rfl rfl (fz (v:Int)) ⟨by show (0:Int)<=15;omega,by show (15:Int)<=65535;omega⟩;obtain ⟨_,q2,_,_⟩:=iZ (tQ v) (k:=7-rest.length) (dF (v:Int)) hu j2 hn Zo;refine ⟨b,e1,e2,e3 _ j1 rfl,?_,?_,?_⟩
 ·rw [e4];split <;> omega
 ·rw [show 8-rest.length=7-rest.length+1 by omega];exact q2
 ·exact qy (tQ v) (dF (v:Int)) hu j2 hn Zo
end Go.Case

/- The document's layer 26: Check, form, Kind. -/
namespace Go.Proofs.P9
open Go.RowKit Go.Sec Go.Oct Go.Pkt Go.Cook Go.Tsrv BigFrame
theorem s9 (a:E8)(n c:Nat) (s:Srv) (w:World)(hI:Ib w a n s.ring) (hc:n<=c) (hn:n<=1000000) :
  Calls Tryz.prog 22 #[.agg #[Zy a n c, Zz Zx s.str, Zz Zx s.ev, Zz Zx s.bu, .bool s.opn]] w λ e w'=>e = .returned (Zz Zx (cy s))/\Ext w w':=by
 have hv:=λ W H=>gl a n c s.ring W H hc hn;have hk:=λ W=>ra s.ev s.bu W;obtain ⟨r,hr⟩:∃ r,cy s=r:=⟨_,rfl⟩;rw [hr];unfold cy at hr;cases h1:aM s.ring
 ·rw [h1] at hv;rw [aaj h1] at hr;clear h1;replace hr:=FC hr
  go_enter Tryz.func22,Tryz.ntmps22
  go_wp2_with (first
   | (go_at_call 59;refine (hv _ (hI.ext eX)).mono ?_;rintro e w1 ⟨rfl,hxq⟩;obtain ⟨xq,rfl⟩:=hxq.out;clear hxq)
   | (go_at_call 60;refine (hk _).mono ?_;rintro e w1 ⟨rfl,hxq⟩;obtain ⟨xq,rfl⟩:=hxq.out;clear hxq)
   | fail)
  go_ret;exact ⟨by rw [<- hr.out] <;> rfl,eX⟩
 ·rw [h1] at hv;rw [aae (by rw [h1];simp)] at hr;clear h1;cases h2:fG s.ev s.bu
  ·rw [h2] at hk;rw [aaj (.inl h2)] at hr;clear h2;by_cases h3:s.str<1
   ·skip
    replace hr:=FC hr
    go_enter Tryz.func22,Tryz.ntmps22
    go_wp2_with (first
     | (go_at_call 59;refine (hv _ (hI.ext eX)).mono ?_;rintro e w1 ⟨rfl,hxq⟩;obtain ⟨xq,rfl⟩:=hxq.out;clear hxq)
     | (go_at_call 60;refine (hk _).mono ?_;rintro e w1 ⟨rfl,hxq⟩;obtain ⟨xq,rfl⟩:=hxq.out;clear hxq)
     | fail)
    go_ret;exact ⟨by rw [<- hr.out] <;> rfl,eX⟩
   ·by_cases h4:255<s.str
    ·skip
     replace hr:=FC hr
     go_enter Tryz.func22,Tryz.ntmps22
     go_wp2_with (first
      | (go_at_call 59;refine (hv _ (hI.ext eX)).mono ?_;rintro e w1 ⟨rfl,hxq⟩;obtain ⟨xq,rfl⟩:=hxq.out;clear hxq)
      | (go_at_call 60;refine (hk _).mono ?_;rintro e w1 ⟨rfl,hxq⟩;obtain ⟨xq,rfl⟩:=hxq.out;clear hxq)
      | fail)
     go_ret;exact ⟨by rw [<- hr.out] <;> rfl,eX⟩
    ·skip
     replace hr:=FC hr
     go_enter Tryz.func22,Tryz.ntmps22
     go_wp2_with (first
      | (go_at_call 59;refine (hv _ (hI.ext eX)).mono ?_;rintro e w1 ⟨rfl,hxq⟩;obtain ⟨xq,rfl⟩:=hxq.out;clear hxq)
      | (go_at_call 60;refine (hk _).mono ?_;rintro e w1 ⟨rfl,hxq⟩;obtain ⟨xq,rfl⟩:=hxq.out;clear hxq)
      | fail)
     go_ret;exact ⟨by rw [<- hr.out] <;> rfl,eX⟩
  ·rw [h2] at hk;by_cases h3:s.str<1
   ·rw [aaj (.inr (.inl h3))] at hr;clear h2;replace hr:=FC hr
    go_enter Tryz.func22,Tryz.ntmps22
    go_wp2_with (first
     | (go_at_call 59;refine (hv _ (hI.ext eX)).mono ?_;rintro e w1 ⟨rfl,hxq⟩;obtain ⟨xq,rfl⟩:=hxq.out;clear hxq)
     | (go_at_call 60;refine (hk _).mono ?_;rintro e w1 ⟨rfl,hxq⟩;obtain ⟨xq,rfl⟩:=hxq.out;clear hxq)
     | fail)
    go_ret;exact ⟨by rw [<- hr.out] <;> rfl,eX⟩
   ·by_cases h4:255<s.str
    ·rw [aaj (.inr (.inr h4))] at hr;clear h2;replace hr:=FC hr
     go_enter Tryz.func22,Tryz.ntmps22
     go_wp2_with (first
      | (go_at_call 59;refine (hv _ (hI.ext eX)).mono ?_;rintro e w1 ⟨rfl,hxq⟩;obtain ⟨xq,rfl⟩:=hxq.out;clear hxq)
      | (go_at_call 60;refine (hk _).mono ?_;rintro e w1 ⟨rfl,hxq⟩;obtain ⟨xq,rfl⟩:=hxq.out;clear hxq)
      | fail)
     go_ret;exact ⟨by rw [<- hr.out] <;> rfl,eX⟩
    ·rw [aae (by rw [h2];simp;omega)] at hr;clear h2;replace hr:=FC hr
     go_enter Tryz.func22,Tryz.ntmps22
     go_wp2_with (first
      | (go_at_call 59;refine (hv _ (hI.ext eX)).mono ?_;rintro e w1 ⟨rfl,hxq⟩;obtain ⟨xq,rfl⟩:=hxq.out;clear hxq)
      | (go_at_call 60;refine (hk _).mono ?_;rintro e w1 ⟨rfl,hxq⟩;obtain ⟨xq,rfl⟩:=hxq.out;clear hxq)
      | fail)
     go_ret;exact ⟨by rw [<- hr.out] <;> rfl,eX⟩
def re (L:List Fld):Int:=if eA L=true then (L.length:Int)-3 else 0
theorem oX (a:E8)(n c:Nat) (L:List Fld) (w:World)(hI:Ib w a n L) (hc:n<=c) (hn:n<=1000000) :
  Calls Tryz.prog 49 #[Zy a n c] w λ e w'=>e = .returned (.tuple #[Zz Zx (re L), .bool (eA L)])/\Ext w w':=by
 have hl:=hI.len;obtain ⟨r,hr⟩:∃ r,eA L=r:=⟨_,rfl⟩;obtain ⟨v,hfv⟩:∃ v,re L=v:=⟨_,rfl⟩;have hv0:r=false->v=0:=λ h=>by rw [<- hfv];unfold re;rw [hr,h];rfl
 have hv1:r=true->v=(n:Int)-3:=λ h=>by rw [<- hfv];unfold re;rw [hr,h,hl];rfl
 rw [hr,hfv];have hsh:=λ h=>((nj (L:=L) h).symm.trans hr).symm;have hof:=λ f0 f1 fl h3 h10 e0 e1 el=>(sI (L:=L) (f0:=f0) (f1:=f1) (fl:=fl) h3 h10 e0 e1 el).symm.trans hr;clear hr hfv;by_cases h3:n<3
 ·have e:=FC (hsh Zo);have i3:(n:Int)<3:=Zo;clear hsh hof hl h3;have ev:=FC (hv0 e.out);clear hv0 hv1
  go_enter Tryz.func49,Tryz.ntmps49
  go_wp2_with fail;go_ret2;exact ⟨by rw [e.out,ev.out];rfl,eX⟩
 by_cases h10:10<n
 ·have e:=FC (hsh Zo);have i3:¬ (n:Int)<3:=Zo;have i4:(10:Int)<(n:Int):=Zo;clear hsh hof hl h3 h10;have ev:=FC (hv0 e.out);clear hv0 hv1
  go_enter Tryz.func49,Tryz.ntmps49
  go_wp2_with fail;go_ret2;exact ⟨by rw [e.out,ev.out];rfl,eX⟩
 obtain ⟨k,rfl⟩:∃ k,n=k+1:=⟨n-1,Zo⟩;obtain ⟨f0,e0⟩:∃ f,L[0]?=some f:=⟨_,List.getElem?_eq_getElem Zo⟩;obtain ⟨f1,e1⟩:∃ f,L[1]?=some f:=⟨_,List.getElem?_eq_getElem Zo⟩;obtain ⟨fl,el⟩:∃ f,L[k]?=some f:=⟨_,List.getElem?_eq_getElem Zo⟩;have hv:=hof f0 f1 fl Zo Zo e0 e1 (by rw [hl];exact el);obtain ⟨b1,o1,g1,c1,hab1,hb1,r0,r1,rs,rc⟩:=hI.at 1 Zo _ e1;obtain ⟨b2,o2,g2,c2,hab2,hb2,s0,s1,ss,sc⟩:=hI.at k Zo _ el;obtain ⟨b,o,g0,c0,rfl,hb0,q0,q1,qs,qc⟩:=hI.at 0 Zo _ e0;injection hab1 with hab1
 injection hab1 with z1 z2
 subst z1 z2;injection hab2 with hab2
 injection hab2 with z1 z2
 subst z1 z2;have q0:w.cell? ⟨b,o,none⟩=some (Zz Zx f0.1):=by simpa using q0
 have q1:w.cell? ⟨b,o+1,none⟩=some (Zy g0 f0.2.length c0):=by simpa using q1
 have r0:w.cell? ⟨b,o+2,none⟩=some (Zz Zx f1.1):=by simpa using r0
 have r1:w.cell? ⟨b,o+2+1,none⟩=some (Zy g1 f1.2.length c1):=by simpa using r1
 have k3:¬ (k:Int)+1<3:=Zo;have k10:¬ (10:Int)<(k:Int)+1:=Zo;have k0:(0:Int)<=(k:Int):=Zo;have kn:(k:Int)<(k:Int)+1:=Zo;have n0:(0:Int)<(k:Int)+1:=Zo;have n1:(1:Int)<(k:Int)+1:=Zo;have hlm:=Az L;clear hsh hof rs rc ss sc qs qc e0 e1 el hb1 hb2 s1;haveI:=hb0;by_cases z0:f0.1=260
 rotate_left
 ·have e:=FC (show r=false by rw [<- hv];simp [eZ,z0]);have i0:(f0.1 != 260)=true:=by rw [aao];exact z0
  clear hv z0;have ev:=FC (hv0 e.out);clear hv0 hv1
  go_enter Tryz.func49,Tryz.ntmps49
  go_wp2_with fail;go_ret2;exact ⟨by rw [e.out,ev.out];rfl,eX⟩
 have i0:(f0.1 != 260)=false:=by rw [aaf];exact z0
 by_cases z1:f0.2.length=32
 rotate_left
 ·have e:=FC (show r=false by rw [<- hv];simp [eZ,z1]);have i1:((f0.2.length:Int) != 32)=true:=by rw [aao];omega
  clear hv z0 z1;have ev:=FC (hv0 e.out);clear hv0 hv1
  go_enter Tryz.func49,Tryz.ntmps49
  go_wp2_with fail;go_ret2;exact ⟨by rw [e.out,ev.out];rfl,eX⟩
 have i1:((f0.2.length:Int) != 32)=false:=by rw [aaf];omega
 by_cases z2:f1.1=516
 rotate_left
 ·have e:=FC (show r=false by rw [<- hv];simp [eZ,z2]);have i2:(f1.1 != 516)=true:=by rw [aao];exact z2
  clear hv z0 z1 z2;have ev:=FC (hv0 e.out);clear hv0 hv1
  go_enter Tryz.func49,Tryz.ntmps49
  go_wp2_with fail;go_ret2;exact ⟨by rw [e.out,ev.out];rfl,eX⟩
 have i2:(f1.1 != 516)=false:=by rw [aaf];exact z2
 by_cases z3:f1.2.length=104
 rotate_left
 ·have e:=FC (show r=false by rw [<- hv];simp [eZ,z3]);have i3:((f1.2.length:Int) != 104)=true:=by rw [aao];omega
  clear hv z0 z1 z2 z3;have ev:=FC (hv0 e.out);clear hv0 hv1
  go_enter Tryz.func49,Tryz.ntmps49
  go_wp2_with fail;go_ret2;exact ⟨by rw [e.out,ev.out];rfl,eX⟩
 have i3:((f1.2.length:Int) != 104)=false:=by rw [aaf];omega
 by_cases z4:fl.1=1028
 rotate_left
 ·have e:=FC (show r=false by rw [<- hv];simp [z4]);have i4:(fl.1 != 1028)=true:=by rw [aao];exact z4
  clear hv z0 z1 z2 z3 z4;have ev:=FC (hv0 e.out);clear hv0 hv1
  go_enter Tryz.func49,Tryz.ntmps49
  go_wp2_with fail;go_ret2;exact ⟨by rw [e.out,ev.out];rfl,eX⟩
 have i4:(fl.1 != 1028)=false:=by rw [aaf];exact z4
 have hvr:r=(nN L).all (isF 772 104):=by rw [<- hv];simp [eZ,z0,z1,z2,z3,z4]
 have hmid:=λ i x h hi=>BA (L:=L) (i:=i) (x:=x) h hi;clear hv z0 z1 z2 z3 z4;generalize nN L=M at *
 go_enter Tryz.func49,Tryz.ntmps49
 go_wp2_with fail;clear i0 i1 i2 i3 i4 k3 k10 kn n0 n1 q0 q1 r0 r1 s0
 go_loopw [5] (λ v5 wr=>∃ i:Nat,(2<=i/\i<=k)/\v5 = Zz Zx i/\Hid ((M.take (i-2)).all (isF 772 104)=true)/\Ext w wr) (λ v5 _=>k-(intOf v5).toNat)
 case atStart=>exact ⟨2,Zo,rfl,FC rfl,FD _⟩
 case round =>
  obtain ⟨i,⟨hi2,hi⟩,rfl,hm,hx⟩:=hrel;by_cases hlt:i<k
  ·obtain ⟨x,hxi⟩:∃ x,L[i]?=some x:=⟨_,List.getElem?_eq_getElem Zo⟩;have hM:=hmid (i-2) x (by rw [show 2+(i-2)=i by omega];exact hxi) Zo;obtain ⟨b5,o5,g',c',hab,hb5,t0,t1,hSk,hck⟩:=(hI.ext hx).at i Zo _ hxi;injection hab with hab
   injection hab with y1 y2
   subst y1 y2;have hts:=FC (show M.take (i+1-2)=M.take (i-2)++[x] by rw [show i+1-2=i-2+1 from Zo,abn,hM];rfl);have hmem:=List.mem_of_getElem? hM;have j0:(0:Int)<=(i:Int):=Zo;have j1:(i:Int)<(k:Int)+1:=Zo;have j2:(i:Int)<(k:Int):=Zo;haveI:=hb5;clear hxi hM hmid hSk hck;by_cases y:x.1=772
   rotate_left
   ·have j3:(x.1 != 772)=true:=by rw [aao];exact y
    have er:=FC (show r=false by rw [hvr,abC];exact ⟨x,hmem,by simp [eZ,y]⟩);have ev:=FC (hv0 er.out);clear y hmem hvr hv0 hv1;go_wp2_with fail;go_ret2;exact ⟨by rw [er.out,ev.out];rfl,hx⟩
   have j3:(x.1 != 772)=false:=by rw [aaf];exact y
   have yk:=y;clear y;by_cases y:x.2.length=104
   rotate_left
   ·have j4:((x.2.length:Int) != 104)=true:=by rw [aao];omega
    clear yk;have er:=FC (show r=false by rw [hvr,abC];exact ⟨x,hmem,by simp [eZ,y]⟩);have ev:=FC (hv0 er.out);clear y hmem hvr hv0 hv1;go_wp2_with fail;go_ret2;exact ⟨by rw [er.out,ev.out];rfl,hx⟩
   have j4:((x.2.length:Int) != 104)=false:=by rw [aaf];omega
   have hm2:=FC (show (M.take (i+1-2)).all (isF 772 104)=true by
    rw [hts.out,List.all_append,hm.out];simp [eZ,y,yk])
   clear y yk hts hmem hvr hv0 hv1;go_wp2_with fail;go_roundw
   case rel=>exact ⟨i+1,Zo,Zg,hm2,hx⟩
   case measure=>simp [intOf];omega
  ·obtain rfl:i=k:=by omega
   have er:=FC (show r=true by rw [hvr];have:=hm.out;rwa [aah Zo] at this);have ev:=FC (show v=(i:Int)+1-3 by rw [hv1 er.out];omega);clear hvr hv0 hv1 hmid;go_wp2_with fail;go_ret2;exact ⟨by rw [er.out,ev.out];rfl,hx⟩
theorem o7 (a:E8)(n c:Nat) (q:E7)(w:World)(h:Sl w a n q) (hc:n<=c) (hn:n<=1000000) :
  Calls Tryz.prog 16 #[Zy a n c] w λ e w'=>e = .returned (Zz Zx (ew q))/\Ext w w':=by
 have hrd:=λ W H=>lv a n c q W H hc hn;obtain ⟨r,hr⟩:∃ r,ew q=r:=⟨_,rfl⟩;rw [hr];unfold ew at hr;have hsm:=(lJ q).1;obtain ⟨P,hP⟩:∃ P,aE q=P:=⟨_,rfl⟩;rw [hP] at hr hrd hsm;clear hP;by_cases q1:P.2=0
 ·have i1:(P.2 != 0)=false:=by rw [aaf];exact q1
  by_cases q2:P.1.h.ver=4
  ·have i2:(P.1.h.ver != 4)=false:=by rw [aaf];exact q2
   by_cases q3:P.1.h.mode=3
   ·have i3:(P.1.h.mode != 3)=false:=by rw [aaf];exact q3
    rw [aae (by rw [q1,q2,q3];simp)] at hr;by_cases q4:P.1.plain=[]
    ·have i4:((P.1.plain.length:Int) == 0)=true:=by rw [q4];rfl
     rw [aaj q4] at hr;clear q1 q2 q3 q4;replace hr:=FC hr
     go_enter Tryz.func16,Tryz.ntmps16
     go_wp2_with fail;(with_reducible refine (hrd _ h).mono ?_);rintro e w1 ⟨p1,m1,rfl,⟨B,hO⟩,hE⟩;have hS:=hO.ib.1;have hm:=hO.ib.2;clear hrd hO
     go_wp2_with (first
      | ((refine ag aK rfl rfl _ _ rfl rfl rfl rfl (by simp [Act.put]) _ rfl Zs rfl oC ?_;intro x hz _);have u1:=hz.cell? 1 rfl;have u2:=hz.cell? 2 rfl;have u13:=hz.cell? 13 rfl)
      | fail)
     go_ret;exact ⟨by rw [<- hr.out] <;> rfl,hE.ext x⟩
    ·have i4:((P.1.plain.length:Int) == 0)=false:=by
      exact z43q86
     have hsh:=λ a c W H h=>oX a P.1.plain.length c P.1.plain W H h Zo;rw [aae q4] at hr;cases q5:eA P.1.plain
     ·rw [q5] at hr hsh;simp only [aaD,abg] at hr;clear q1 q2 q3 q4 q5;replace hr:=FC hr
      go_enter Tryz.func16,Tryz.ntmps16
      go_wp2_with fail;(with_reducible refine (hrd _ h).mono ?_);rintro e w1 ⟨p1,m1,rfl,⟨B,hO⟩,hE⟩;have hS:=hO.ib.1;have hm:=hO.ib.2;clear hrd hO
      go_wp2_with (first
       | ((refine ag aK rfl rfl _ _ rfl rfl rfl rfl (by simp [Act.put]) _ rfl Zs rfl oC ?_;intro x hz _);have u1:=hz.cell? 1 rfl;have u2:=hz.cell? 2 rfl;have u13:=hz.cell? 13 rfl)
       | fail)
      (with_reducible refine (hsh _ _ _ (hS.ext (FE _ _)) hm).mono ?_);rintro e w3 ⟨rfl,hx3⟩;go_wp2_with fail;go_ret;exact ⟨by rw [<- hr.out] <;> rfl,(hE.ext x).trans hx3⟩
     ·rw [q5] at hr hsh;simp only [aba] at hr;clear q1 q2 q3 q4 q5;replace hr:=FC hr
      go_enter Tryz.func16,Tryz.ntmps16
      go_wp2_with fail;(with_reducible refine (hrd _ h).mono ?_);rintro e w1 ⟨p1,m1,rfl,⟨B,hO⟩,hE⟩;have hS:=hO.ib.1;have hm:=hO.ib.2;clear hrd hO
      go_wp2_with (first
       | ((refine ag aK rfl rfl _ _ rfl rfl rfl rfl (by simp [Act.put]) _ rfl Zs rfl oC ?_;intro x hz _);have u1:=hz.cell? 1 rfl;have u2:=hz.cell? 2 rfl;have u13:=hz.cell? 13 rfl)
       | fail)
      (with_reducible refine (hsh _ _ _ (hS.ext (FE _ _)) hm).mono ?_);rintro e w3 ⟨rfl,hx3⟩;go_wp2_with fail;go_ret;exact ⟨by rw [<- hr.out] <;> rfl,(hE.ext x).trans hx3⟩
   ·have i3:(P.1.h.mode != 3)=true:=by rw [aao];exact q3
    rw [aaj (.inr (.inr q3))] at hr;clear q1 q2 q3;replace hr:=FC hr
    go_enter Tryz.func16,Tryz.ntmps16
    go_wp2_with fail;(with_reducible refine (hrd _ h).mono ?_);rintro e w1 ⟨p1,m1,rfl,⟨B,hO⟩,hE⟩;have hS:=hO.ib.1;have hm:=hO.ib.2;clear hrd hO
    go_wp2_with (first
     | ((refine ag aK rfl rfl _ _ rfl rfl rfl rfl (by simp [Act.put]) _ rfl Zs rfl oC ?_;intro x hz _);have u1:=hz.cell? 1 rfl;have u2:=hz.cell? 2 rfl;have u13:=hz.cell? 13 rfl)
     | fail)
    go_ret;exact ⟨by rw [<- hr.out] <;> rfl,hE.ext x⟩
  ·have i2:(P.1.h.ver != 4)=true:=by rw [aao];exact q2
   rw [aaj (.inr (.inl q2))] at hr;clear q1 q2;replace hr:=FC hr
   go_enter Tryz.func16,Tryz.ntmps16
   go_wp2_with fail;(with_reducible refine (hrd _ h).mono ?_);rintro e w1 ⟨p1,m1,rfl,⟨B,hO⟩,hE⟩;have hS:=hO.ib.1;have hm:=hO.ib.2;clear hrd hO
   go_wp2_with (first
    | ((refine ag aK rfl rfl _ _ rfl rfl rfl rfl (by simp [Act.put]) _ rfl Zs rfl oC ?_;intro x hz _);have u1:=hz.cell? 1 rfl;have u2:=hz.cell? 2 rfl;have u13:=hz.cell? 13 rfl)
    | fail)
   go_ret;exact ⟨by rw [<- hr.out] <;> rfl,hE.ext x⟩
 ·have i1:(P.2 != 0)=true:=by rw [aao];exact q1
  rw [aaj (.inl q1)] at hr;clear q1;replace hr:=FC hr
  go_enter Tryz.func16,Tryz.ntmps16
  go_wp2_with fail;(with_reducible refine (hrd _ h).mono ?_);rintro e w1 ⟨p1,m1,rfl,⟨B,hO⟩,hE⟩;have hS:=hO.ib.1;have hm:=hO.ib.2;clear hrd hO
  go_wp2_with (first
   | ((refine ag aK rfl rfl _ _ rfl rfl rfl rfl (by simp [Act.put]) _ rfl Zs rfl oC ?_;intro x hz _);have u1:=hz.cell? 1 rfl;have u2:=hz.cell? 2 rfl;have u13:=hz.cell? 13 rfl)
   | fail)
  go_ret;exact ⟨by rw [<- hr.out] <;> rfl,hE.ext x⟩
end Go.Proofs.P9
