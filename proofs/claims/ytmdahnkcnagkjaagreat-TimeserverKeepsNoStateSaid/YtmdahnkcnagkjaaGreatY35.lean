/- Lemmas of this claim, several texts joined. -/
import Derived.Test.YtmdahnkcnagkjaaGreatY4
import Derived.Test.YtmdahnkcnagkjaaGreatY9
import Derived.Test.YtmdahnkcnagkjaaGreatY26
import Derived.Test.YtmdahnkcnagkjaaGreatY31
import Derived.Test.YtmdahnkcnagkjaaGreatY32
import Derived.Test.YtmdahnkcnagkjaaGreatY38
set_option maxRecDepth 100000
open Go.Value renaming int -> Zz,slice -> Zy
open Go.IntKind renaming i64 -> Zx,u8 -> Zu
open List renaming setIfInBounds_toArray -> q0q, set_cons_succ -> q1q, set_cons_zero -> q2q, mem_cons -> q3q, not_mem_nil -> q4q, nil_append -> q5q, cons_append -> q6q, mem_append -> q7q, take_succ_cons -> q8q, take_zero -> q9q, drop_succ_cons -> q10q, drop_zero -> q11q, take_nil -> q12q, drop_nil -> q13q
open Go.IntWalk renaming i64_in -> q17q, rem_in -> q18q, wrap64_in -> q19q
set_option maxHeartbeats 8000000
set_option linter.unusedVariables false
set_option linter.unusedSimpArgs false
/- The walks of layer 19 of the document: Rotate. -/
namespace Go.Sec
open Go.RowKit
def tN (T:TypeId)(id:Int) (l:List UInt8)(w:World)(a:Option Addr):Prop:=∃ g ga n cc,a=some ⟨g,0,none⟩/\Rd w a [Zz Zx id, Zy ga n cc]/\Sl w ga n l/\n<=cc/\∀ base,InT T w base ga n
theorem tN.ext {T:TypeId} {id:Int} {l:List UInt8} {w w':World} {a:Option Addr} (h:tN T id l w a) (hx:Ext w w'):tN T id l w' a:=by
 obtain ⟨g,ga,n,cc,h1,h2,h3,h4,h5⟩:=h;exact ⟨g,ga,n,cc,h1,h2.ext hx,h3.ext hx,h4,λ b=>(h5 b).ext hx⟩
theorem tN.mk {T:TypeId} {id:Int} {l:List UInt8} {w:World} {ga:Option Addr} {n cc base:Nat} (h:Own w base ga n cc l) (hT:5≠T):tN T id l (w.alloc (.cells #[Zz Zx id, Zy ga n cc] T)) (some ⟨w.heap.size,0,none⟩) :=
 ⟨_,ga,n,cc,rfl,(Blk.new w #[Zz Zx id, Zy ga n cc] T).rd,h.sl.ext (Ext.of_alloc _ _),h.le.1,λ b=>(h.ext (Ext.of_alloc _ _)).inT hT⟩
end Go.Sec
namespace Go.Proofs.YtmdahnkcnagkjaaGreat
open Go.RowKit Go.Sec Go.Oct Go.Sha Go.Aes Go.Cook Go.Chan BigFrame
theorem rl (a:Option Addr)(n c:Nat) (r:Ring) (w:World)(hI:Ib w a n r) (hnc:n<=c) (hn:n<=1000000) :
  Calls Tryz.prog 24 #[.agg #[Zy a n c]] w (mY (fg r) w):=by
 have hval:=λ W h=>lJ a n c r W h hnc hn;have hrl:=hI.len;cases hv:aR r
 ·have e:fg r=([],3):=by unfold fg;rw [aal hv]
  rw [e];rw [hv] at hval
  go_enter Tryz.func24,Tryz.ntmps24
  go_wp2_with (first
   | (go_at_call 59;refine (hval _ (hI.ext eX)).mono ?_;rintro e w1 ⟨rfl,hxq⟩;obtain ⟨xq,rfl⟩:=hxq.out;clear hxq)
   | fail)
  refine aab (v := .tuple #[.agg #[Zy none 0 0], Zz Zx 3]) (by simp [results,Tryz.results24,go_sem]) rfl ?_;exact mY.err _ _ _ eX
 ·rw [hv] at hval;obtain ⟨v1,v2,v3,v4⟩:=bm.1 hv;obtain ⟨x0,hx0⟩:∃ x,r[0]?=some x:=⟨_,List.getElem?_eq_getElem Zo⟩;have hhd:hd r=x0:=by unfold hd;rw [List.getD_eq_getElem?_getD,hx0];rfl
  obtain ⟨x1,x2,x3⟩:=v1 x0 (List.mem_of_getElem? hx0);obtain ⟨id,ky⟩:=x0;simp only at x1 x2 x3;obtain ⟨K,hK⟩:∃ K,en ky vD 32=K:=⟨_,rfl⟩;have hrot:kz r=((id+1) % 4294967296,K) :: r.take 3:=by unfold kz;rw [hhd,hK]
  have hbits:=wP (id+1);obtain ⟨nid,hnid⟩:∃ i,(id+1) % 4294967296=i:=⟨_,rfl⟩;rw [hnid] at hrot hbits;obtain ⟨m,hm⟩:∃ m:Nat,m=min n 3:=⟨_,rfl⟩;have hmn:m<=n:=Zo;have hm3:m<=3:=Zo;have htk:r.take 3=r.take m:=by
   by_cases h:n<=3
   ·rw [aak Zo,aak Zo]
   ·rw [show m=3 by omega]
  rw [htk] at hrot;obtain ⟨b,off,g,cg,rfl,hb,hc0,hc1,hSd,hcd⟩:=hI.at 0 Zo _ hx0;simp only at hc0 hc1 hSd hcd;rw [x3] at hc1 hSd hcd;rw [Nat.zero_mul,abx] at hc0 hc1;have hbad:(∃ q∈r.take m,q.1=nid)->fg r=([],7):=λ ⟨q,h1,h2⟩=>by
   unfold fg;rw [aaf (by rw [hv];simp),aal (by rw [hhd,htk];simp only [hnid];exact aa6.2 ⟨q,h1,h2⟩)]
  have hgood:(∀ q∈r.take m,q.1≠nid)->fg r=((nid,K) :: r.take m,0):=λ h=>by
   unfold fg;rw [aaf (by rw [hv];simp),aaf (by
    rw [hhd,htk];simp only [hnid];intro hm;obtain ⟨q,h1,h2⟩:=aa6.1 hm;exact h q h1 h2),hrot]
  have hbad:=Lib.hid hbad;have hgood:=Lib.hid hgood;have HM:=Lib.hid hm;have hex:=λ W b' d H1 H2=>nf g b' 32 cg 12 d 32 (rfl:(32:Int)=((32:Nat):Int)) ky vD W H1 hcd Zo H2 Zd Zd;rw [hK] at hex;have hcv:=λ W=>Lib.run_convert_bytes_const (P:=Tryz.prog) W 33 5 #[Zz Zu 115, Zz Zu 101, Zz Zu 99, Zz Zu 116, Zz Zu 105, Zz Zu 109, Zz Zu 101, Zz Zu 32, Zz Zu 110, Zz Zu 101, Zz Zu 120, Zz Zu 116] 12 12 U.sl hu8;clear hrot hK hhd htk hm;haveI:=hb;have hn0:0<n:=Zo
  go_enter Tryz.func24,Tryz.ntmps24
  go_wp2_with (first
   | (go_at_call 59;refine (hval _ (hI.ext eX)).mono ?_;rintro e w1 ⟨rfl,hxq⟩;obtain ⟨xq,rfl⟩:=hxq.out;clear hxq)
   | fail)
  generalize hX:((w.alloc (.cells #[Zy (some ⟨b,off,none⟩) n c] 26)).alloc (.cells #[Zy none 0 0] 26)).ext xq=X;have hEX:Ext w X:=by rw [<- hX];exact eX
  have hB1:Blk X w.heap.size 26 [Zy (some ⟨b,off,none⟩) n c]:=by rw [<- hX];exact bK
  have hB2:Blk X (w.heap.size+1) 26 [Zy none 0 0]:=by rw [<- hX];exact bK
  clear hX;have hxa:=Ext.of_alloc X (.cells #[Zz Zu 115, Zz Zu 101, Zz Zu 99, Zz Zu 116, Zz Zu 105, Zz Zu 109, Zz Zu 101, Zz Zu 32, Zz Zu 110, Zz Zu 101, Zz Zu 120, Zz Zu 116] 5 (12,13));(with_reducible refine (hex _ _ _ (hSd.ext (hEX.trans hxa)) (y6 X 5 (12,13))).mono ?_);rintro e w1 ⟨b1,d1,rfl,hS1,hd1,hx1⟩;have hx1:=hxa.trans hx1;have hE1:=hEX.trans hx1;have hB1:=hB1.extB hx1;have hB2:=hB2.extB hx1;have hlt2:=hB2.lt;have hc0:=(hE1.cell (p:=⟨b,_,none⟩) hb.lt).trans hc0;haveI:BlkLt b w1:=⟨aaj hb.lt hE1.size⟩;haveI:=hB1.blt;haveI:=hB2.blt;have f0:=hB1.cell? 0 rfl;clear hxa hx1 hEX hex hcv;have hO0:cI 50 (w1.alloc (.cells #[Zz Zx nid, Zy b1 32 d1] 50)) w1.heap.size (some ⟨w1.heap.size,0,none⟩) 1 1 [(nid,K)]:=cI.new hS1 hd1 (aae _) (hS1.inT _)
  go_wp2_with (first
   | (refine ag RR1 rfl rfl _ _ rfl rfl rfl rfl (by simp [Act.put]) _ rfl Zs rfl oC ?_;intro x hz _)
   | fail)
  obtain ⟨W,hW⟩:∃ W,W=(w1.alloc (.cells #[Zz Zx nid, Zy b1 32 d1] 50)).ext x:=⟨_,rfl⟩;have hxW:Ext w1 W:=by rw [hW];exact eX
  have hO0:cI 50 W w1.heap.size (some ⟨w1.heap.size,0,none⟩) 1 1 [(nid,K)]:=by rw [hW];exact hO0.ext (Ext.of_ext _ _)
  rw [<- hW] at hz ⊢;rw [abf] at hz;clear hW f0;have hBW:=hxW.size;have hEW:=hE1.trans hxW;have hB1:=hB1.extB hxW;have hB2:=hB2.extB hxW;obtain ⟨B,hBe⟩:∃ B,B=w1.heap.size:=⟨_,rfl⟩;rw [<- hBe] at hO0 hz hBW hlt2 ⊢;clear hBe hc0 hxW hE1 hS1 hd1
  go_loopw [7] (λ v7 wr=>∃ (k:Nat) (sa:Option Addr)(sc:Nat),k<=m/\v7 = Zz Zx k/\Hid (∀ q∈r.take k,q.1≠nid)/\cI 50 wr B sa (k+1) sc ((nid,K) :: r.take k)/\Blk wr (B+1) 26 [Zy sa (k+1) sc]/\B<=wr.heap.size/\Blk wr w.heap.size 26 [Zy (some ⟨b,off,none⟩) n c]/\Blk wr (w.heap.size+1) 26 [Zy none 0 0]/\Ext w wr)
   (λ v7 _=>m-(intOf v7).toNat)
  case atStart=>exact ⟨0,some ⟨B,0,none⟩,1,aam _,rfl,Lib.hid Zs,by rw [q9q];exact hO0,hz,hBW,hB1,hB2,hEW⟩
  case round =>
   clear hO0 hz hBW hB1 hB2 hEW;obtain ⟨k,sa,sc,hk,rfl,hno,hO,hB6,hBx,hB1,hB2,hE⟩:=hrel;haveI:=hB1.blt;haveI:=hB2.blt;haveI:=hB6.blt;have f1:=hB1.cell? 0 rfl;have f6:=hB6.cell? 0 rfl;have hk0:(0:Int)<=(k:Int):=Zo;by_cases hlt:k<m
   ·have hkn:(k:Int)<(n:Int):=by omega
    have hk3:(k:Int)<3:=Zo;obtain ⟨xk,hxk⟩:∃ x,r[k]?=some x:=⟨_,List.getElem?_eq_getElem Zo⟩;have hts:=iD hxk;obtain ⟨_,_,y3⟩:=v1 xk (List.mem_of_getElem? hxk);have hmem:xk∈r.take m:=by
     obtain ⟨h1,h2⟩:=List.getElem?_eq_some_iff.1 hxk;exact aby.2 ⟨k,Zo,h2⟩
    obtain ⟨idk,kk⟩:=xk;obtain ⟨b',off',gk,ck,hbe,hbk,d0,d1,hSk,hck⟩:=(hI.ext hE).at k Zo _ hxk;injection hbe with hbe
    injection hbe with hbe1 hbe2
    subst hbe1 hbe2;simp only at d0 d1 hSk hck y3;rw [y3] at d1 hSk hck;haveI:=hbk;obtain ⟨hIb,hsc⟩:=hO.ib;obtain ⟨b2,off2,g2,cg2,rfl,hb2,e0,_,_,_⟩:=hIb.at 0 Zo (nid,K) rfl;simp only at e0;rw [Nat.zero_mul,abx] at e0;haveI:=hb2;have hk1:0<k+1:=Zo;by_cases hid:idk=nid
    ·have he:=Lib.hid (hbad.out ⟨_,hmem,hid⟩);have hdd:(idk == nid)=true:=by simpa using hid
     clear hid;go_wp2_with fail;refine ae 12 [[],[0],[],[0,1,2],[0,1,2,3],[0,1,2,3,4],[],[6],[6,7],[6,7,8],[6,7,8,9],[0,1,2,3,4,5,6,7,8,9,10]] Zk Zk Zk Zk ?_;simp only [q8q,q9q,q10q,q11q,q12q,q13q];(repeat (apply aj;(case h=>(intro us w' hx hf;obtain ⟨x,rfl⟩:=hx.out;refine ⟨rfl,?_⟩;simp [go_sem,execOp, *];(try simp (disch:=omega) only [q17q,q18q,q19q]);rfl));(try simp only [Act.put,q0q,q1q,q2q])));(refine aB ?_;intro us w' hx hf;obtain ⟨x,rfl⟩:=hx.out;(try simp only [Act.put,q0q,q1q,q2q,ai]);(try simp only [q3q,q4q,aar,aac,aan,q5q,q6q,q7q,aat,aau,aav] at hf);(try simp only [Nat.reduceAdd,aag] at hf ⊢))
     go_wp2_with (first
      | (refine aa RR1 rfl _ _ rfl (w.heap.size+1) 0 rfl _ rfl 26 _ ((hB2.extB eX)) rfl Zs (by first|exact aK _|(simp;done)|(simp;(repeat' (first|rfl|constructor)))) ?_;intro w9 hB9 hM9)
      | fail)
     refine aab (av Tryz.results24 RR1 _ _ (w.heap.size+1) 0 _ rfl hB9.rd rfl (Zz Zx 7) rfl) rfl ?_;rw [he.out];exact ⟨none,0,0,rfl,Ib.nil _ _,aae _,sk hE eX hM9 Zo⟩
    ·have hdd:(idk == nid)=false:=by simpa using hid
     have hno2:=Lib.hid (show ∀ q∈r.take (k+1),q.1≠nid by
      rw [hts];intro q hq;rcases aa4.1 hq with h|h
      ·exact hno.out q h
      ·rw [aaB.1 h];exact hid)
     clear hid;go_wp2_with fail;refine ae 12 [[],[0],[],[0,1,2],[0,1,2,3],[0,1,2,3,4],[],[6],[6,7],[6,7,8],[6,7,8,9],[0,1,2,3,4,5,6,7,8,9,10]] Zk Zk Zk Zk ?_;simp only [q8q,q9q,q10q,q11q,q12q,q13q];(repeat (apply aj;(case h=>(intro us w' hx hf;obtain ⟨x,rfl⟩:=hx.out;refine ⟨rfl,?_⟩;simp [go_sem,execOp, *];(try simp (disch:=omega) only [q17q,q18q,q19q]);rfl));(try simp only [Act.put,q0q,q1q,q2q])));(refine aB ?_;intro us w' hx hf;obtain ⟨x,rfl⟩:=hx.out;(try simp only [Act.put,q0q,q1q,q2q,ai]);(try simp only [q3q,q4q,aar,aac,aan,q5q,q6q,q7q,aat,aau,aav] at hf);(try simp only [Nat.reduceAdd,aag] at hf ⊢));go_wp2_with fail;refine df ?_;intro W3 hW3;have hE3:Ext wr W3:=by rw [hW3];exact eX
     clear hW3;have hO3:=hO.ext hE3;have hB6:=hB6.extB hE3;have hB1:=hB1.extB hE3;have hB2:=hB2.extB hE3;have hSk:=hSk.ext hE3;have d0:=(hE3.cell (p:=⟨b,_,none⟩) hbk.lt).trans d0;have d1:=(hE3.cell (p:=⟨b,_,none⟩) hbk.lt).trans d1;have hE3w:=hE.trans hE3;have hBx:=aaq hBx hE3.size;haveI:BlkLt b W3:=⟨aaj hbk.lt hE3.size⟩;haveI:=hB1.blt;haveI:=hB6.blt;have f1:=hB1.cell? 0 rfl;have f6:=hB6.cell? 0 rfl;clear hE hE3 e0 hIb hO hdd;refine ae 18 [[],[0],[],[2],[],[2,3,4],[2,3,4,5],[2,3,4,5,6],[],[8],[],[8,9,10],[8,9,10,11],[8,9,10,11,12],[8,9,10,11,12,13],[8,9,10,11,12,13,14],[2,3,4,5,6,7,8,9,10,11,12,13,14,15],[2,3,4,5,6,7,8,9,10,11,12,13,14,15,16],[0,1,2,3,4,5,6,7,8,9,10,11,12,13,14,15,16,17],[0,1,2,3,4,5,6,7,8,9,10,11,12,13,14,15,16,17,18],[0,1,2,3,4,5,6,7,8,9,10,11,12,13,14,15,16,17,18,19]] Zk Zk Zk Zk ?_;simp only [q8q,q9q,q10q,q11q,q12q,q13q];(repeat (apply aj;(case h=>(intro us w' hx hf;obtain ⟨x,rfl⟩:=hx.out;refine ⟨rfl,?_⟩;simp [go_sem,execOp, *];(try simp (disch:=omega) only [q17q,q18q,q19q]);rfl));(try simp only [Act.put,q0q,q1q,q2q])));(refine ao (λ p => .slice (p 0).1 1 1) (λ p w''=>Bss w'' (p 0).1 1 ([kk])) (λ p w w' h hx=>h.ext hx) (λ us w' hx hf=>⟨rfl,?_⟩) ?_;(unfold gives;simp [go_sem,execOp];exact ⟨λ _=>(some ⟨w'.heap.size,0,none⟩,0),rfl,Ext.of_alloc _ _,gR (hSk.ext hx) _⟩));(refine ao (λ p => .slice (p 0).1 32 (p 0).2) (λ p w''=>Own w'' 0 (p 0).1 32 (p 0).2 kk) (λ p w w' h hx=>h.ext hx) (λ us w' hx hf=>⟨rfl,?_⟩) ?_;(unfold gives;simp [go_sem,execOp];exact aA (aam _) ((by have:=aZ _ 1 1 [kk] w' (by exact (hf _ (aad _ (aaa _)) rfl)) Zo 32 (by rw [cz];exact y3) Zo;rw [cz] at this;exact this))));(repeat (apply aj;(case h=>(intro us w' hx hf;obtain ⟨x,rfl⟩:=hx.out;refine ⟨rfl,?_⟩;simp [go_sem,execOp, *];(try simp (disch:=omega) only [q17q,q18q,q19q]);rfl));(try simp only [Act.put,q0q,q1q,q2q])));(refine ao (λ p => .slice (p 0).1 1 1) (λ p w''=>tN 50 idk kk w'' (p 0).1) (λ p w w' h hx=>by first|exact h.ext hx|exact ⟨h.1.ext hx,h.2.ext hx⟩|exact ⟨h.1.ext hx,h.2⟩|exact ⟨h.1.ext hx,h.2.1.ext hx,h.2.2.ext hx⟩) (λ us w' hx hf=>⟨rfl,?_⟩) ?_;(unfold gives;simp [go_sem,execOp];exact ⟨λ _=>(some ⟨w'.heap.size,0,none⟩,0),rfl,Ext.of_alloc _ _,tN.mk (hf _ (aad _ (aaa _)) rfl) Zd⟩));(refine aB ?_;intro us w' hx hf;obtain ⟨x,rfl⟩:=hx.out;(try simp only [Act.put,q0q,q1q,q2q,ai]);(try simp only [q3q,q4q,aar,aac,aan,q5q,q6q,q7q,aat,aau,aav] at hf);(try simp only [Nat.reduceAdd,aag] at hf ⊢));obtain ⟨_,_,hN⟩:=hf;obtain ⟨aN,haN⟩:∃ a,(us 17 0).1=a:=⟨_,rfl⟩;rw [haN] at hN ⊢;clear haN;obtain ⟨gn,ga,nn,cc,rfl,hR,hS,hcc,hIn⟩:=hN;have hxx:Ext W3 (W3.ext x):=Ext.of_ext _ _;have hOx:=hO3.ext hxx;have hB6x:=hB6.extB hxx;have hB2x:=hB2.extB hxx;have hB1x:=hB1.extB hxx;have hEx:=hE3w.trans hxx;have hBxx:=aaq hBx hxx.size;clear hO3 hB6 hB2 hB1 hE3w hBx hxx f1 f6 d0 d1;refine dL VM rfl _ _ rfl B _ (k+1) sc _ rfl gn 1 idk ga nn cc kk rfl hOx hR hS hcc (hIn B) Zo hBxx ?_;intro sa' sc' w6 hO6 hg6 hb6;have hB66:=hB6x.grown hg6 (hOx.blk hB6x Zd);have hB26:=hB2x.grown hg6 (hOx.blk hB2x Zd);have hB16:=hB1x.grown hg6 (hOx.blk hB1x Zd);haveI:=hB66.blt;have q0:=hB66.cell? 0 rfl;have q1:=hB66.free 0;have hE6:Ext w w6:=Below.trans hEx (hb6.mono Zo);have hB6s:=aaq hBxx hb6.size;go_wp2;have hset:=hB66.set 0 (Zy sa' (k+1+1) sc');have hM:Mut (B+1) w6 (w6.setCell ⟨B+1,0,none⟩ (Zy sa' (k+1+1) sc')):=(Mut.refl _ _).setCell 0 _;go_roundw
     case rel=>exact ⟨k+1,sa',sc',Zo,Zg,hno2,by rw [hts,<- q6q];exact hO6.mut hB66 Zd Zs hM,hset,aaq hB6s hM.size,Blk.turn hM hB16 Zo,Blk.turn hM hB26 Zo,Below.trans hE6 (hM.below Zo hE6.size)⟩
     case measure=>simp [intOf];omega
   ·obtain rfl:k=m:=by omega
    have he:=Lib.hid (hgood.out hno.out);obtain ⟨hIb,hsc⟩:=hO.ib;by_cases hn3:n<=3
    ·have hkn:¬ (k:Int)<(n:Int):=by have:=HM.out;omega
     go_wp2_with (first
      | (refine af RR1 rfl _ rfl (B+1) 0 rfl _ (((hB6.extB eX).rd)) rfl ?_)
      | (refine aa RR1 rfl _ _ rfl (w.heap.size+1) 0 rfl _ rfl 26 _ ((hB2.extB eX)) rfl Zs (by first|exact aK _|(simp;done)|(simp;(repeat' (first|rfl|constructor)))) ?_;intro w9 hB9 hM9)
      | fail)
     refine aab (av Tryz.results24 RR1 _ _ (w.heap.size+1) 0 _ rfl hB9.rd rfl (Zz Zx 0) rfl) rfl ?_;rw [he.out];exact ⟨_,_,_,rfl,(hIb.ext eX).mut (hO.off Zo) (hB2.extB eX) Zs hM9,hsc,sk hE eX hM9 Zo⟩
    ·have hkn:(k:Int)<(n:Int):=by have:=HM.out;omega
     have hk3:¬ (k:Int)<3:=by have:=HM.out;omega
     go_wp2_with (first
      | (refine af RR1 rfl _ rfl (B+1) 0 rfl _ (((hB6.extB eX).rd)) rfl ?_)
      | (refine aa RR1 rfl _ _ rfl (w.heap.size+1) 0 rfl _ rfl 26 _ ((hB2.extB eX)) rfl Zs (by first|exact aK _|(simp;done)|(simp;(repeat' (first|rfl|constructor)))) ?_;intro w9 hB9 hM9)
      | fail)
     refine aab (av Tryz.results24 RR1 _ _ (w.heap.size+1) 0 _ rfl hB9.rd rfl (Zz Zx 0) rfl) rfl ?_;rw [he.out];exact ⟨_,_,_,rfl,(hIb.ext eX).mut (hO.off Zo) (hB2.extB eX) Zs hM9,hsc,sk hE eX hM9 Zo⟩
end Go.Proofs.YtmdahnkcnagkjaaGreat

/- The walks of layer 19 of the document: Open. -/
namespace Go.Sec
open Go.RowKit Go.Sec.R4
end Go.Sec
namespace Go.Proofs.YtmdahnkcnagkjaaGreat
open Go.RowKit Go.Sec Go.Oct Go.Sha Go.Aes Go.Cook Go.Chan BigFrame
end Go.Proofs.YtmdahnkcnagkjaaGreat

/- Layer 19: what the laws share: rings in boxes, SameRing, SamePair, Pair, Ring. -/
namespace Go.Sec
open Go.RowKit
theorem Ib.muts {w w':World} {a:Option Addr} {n g:Nat} {T:TypeId} {vs:List Value} {L:List (Int × List UInt8)} (h:Ib w a n L) (hB:Blk w g T vs) (hne:∀ v∈vs,(∀ x,v ≠ Zz Zu x)/\∀ x,v ≠ Zz Zx x) (hM:Mut g w w'):Ib w' a n L:=by
 by_cases h0:n=0
 ·subst h0;have:=aaw h.len;subst this;exact Ib.nil _ _
 ·refine h.mut (λ b o e hbg=>?_) hB (λ v hv=>(hne v hv).1) hM;subst e hbg;rcases h.row with hh|⟨b',off,ha,hb,hc⟩
  ·exact h0 hh
  ·injection ha with ha
   injection ha with e1 e2
   subst e1 e2;obtain ⟨_,_,h1,_⟩:=hc 0 (by rw [h.len];omega);rw [cell_of_row w _ _ _ T (0,0) hB] at h1;exact (hne _ (List.mem_of_getElem? (by simpa using h1))).2 _ rfl
theorem no1 (a:Option Addr)(n c:Nat):∀ v∈[Value.slice a n c],(∀ x,v ≠ Zz Zu x)/\∀ x,v ≠ Zz Zx x:=Zs
theorem no2 (a b:Option Addr)(n c m d:Nat):∀ v∈[Value.slice a n c,Value.slice b m d],(∀ x,v ≠ Zz Zu x)/\∀ x,v ≠ Zz Zx x:=Zs
structure RB (T:TypeId)(r:List (Int × List UInt8)) (a:Option Addr)(n c g:Nat) (w:World):Prop where
 blk:Blk w g T [Zy a n c]
 ib:Ib w a n r
 le:n<=c
theorem RB.ext {T:TypeId} {r:List (Int × List UInt8)} {a:Option Addr} {n c g:Nat} {w w':World} (h:RB T r a n c g w) (hx:Ext w w'):RB T r a n c g w':=⟨h.blk.extB hx,h.ib.ext hx,h.le⟩
theorem Sl.muts {w w':World} {g n:Nat} {a:Option Addr} {l:List UInt8} {t:TypeId} {vs:List Value} (h:Sl w a n l) (hB:Blk w g t vs) (hne:∀ v∈vs,(∀ x,v ≠ Zz Zu x)/\∀ x,v ≠ Zz Zx x) (hM:Mut g w w'):Sl w' a n l:=h.mut hB (λ v hv=>(hne v hv).1) hM
end Go.Sec
namespace Go.Proofs.YtmdahnkcnagkjaaGreat
open Go.RowKit Go.Sec Go.Oct Go.Sha Go.Aes Go.Cook Go.Chan BigFrame
def upP (s:Nat):List UInt8:=(gQ s 64).take 32
def dnP (s:Nat):List UInt8:=(gQ s 64).drop 32
def C0 (u v:List UInt8)(w:World)(e:Ending) (w':World):Prop:=∃ a c b d,e = .returned (.agg #[Zy a 32 c, Zy b 32 d])/\Sl w' a 32 u/\32<=c/\Sl w' b 32 v/\32<=d/\Ext w w'
end Go.Proofs.YtmdahnkcnagkjaaGreat

/- Layer 19: the ring of the statements' kit, light. -/
namespace Go.Cook
open Go.Sha Go.Oct Go.Aes Go.Sec
theorem zu {r:Ring} {algo:Int} {up down nonce:List UInt8} (h:aR r=true) (h0:0<=algo) (h1:algo<=65535) (hu:up.length=32) (hd':down.length=32) (hn:nonce.length=16) :
  bU r algo up down nonce=(dw (hd r) algo up down nonce,0):=by
 unfold bU;rw [aaf (by rw [h];simp),aaf Zo,aaf Zo,aaf Zo]
theorem mM (s:Nat) (key:List UInt8)(hs:s<=100000) (t:Nat) (ht:t<=100):aR (kV (fV s key) t)=true/\fg (kV (fV s key) t)=(kV (fV s key) (t+1),0)/\(kV (fV s key) t).length<=4/\1<=(kV (fV s key) t).length:=by
 have hh:(hd (fV s key)).1=s:=rfl;obtain ⟨h1,h2⟩:=CG (CI s key Zo) t (by rw [hh];omega);obtain ⟨_,_,h3⟩:=h1.rot (by rw [h2,hh];omega);obtain ⟨_,_,h4,h5⟩:=bm.1 h1.ok;exact ⟨h1.ok,h3,h5,h4⟩
end Go.Cook
namespace Go.Proofs.YtmdahnkcnagkjaaGreat
open Go.RowKit Go.Sec Go.Oct Go.Sha Go.Aes Go.Cook Go.Chan BigFrame
def RgP (r:Ring) (w:World)(e:Ending) (w':World):Prop:=∃ a n c,e = .returned (.agg #[Zy a n c])/\Ib w' a n r/\n<=c/\Ext w w'
def DN (r:Ring):Bool:=decide (r.length<=8) && r.all λ m=>decide (m.2.length<=60)
end Go.Proofs.YtmdahnkcnagkjaaGreat

/- The cases: Pair, Ring, Server, Flip. -/
namespace Go.Proofs.YtmdahnkcnagkjaaGreat
open Go.RowKit Go.Sec Go.Oct Go.Sha Go.Case Go.Cook Go.Tsrv BigFrame
def flp (l:List UInt8)(at' by':Int):List UInt8:=if l=[] then [] else chg l at' by'
theorem vX (v:Nat) {vI:Int} (hv:vI=(v:Int)) (w:World)(hv9:v<=1000000000) :
  Calls Tryz.prog 28 #[Zz Zx vI] w (C0 (upC (v:Int)) (dnC (v:Int)) w):=by
 subst hv;have h1:=λ W=>gE ((v:Int)*7+1) 32 (show (32:Int)=((32:Nat):Int) from rfl) W Zo;have h2:=λ W=>gE ((v:Int)*7+2) 32 (show (32:Int)=((32:Nat):Int) from rfl) W Zo;have e1:rnd ((v:Int)*7+1) 32=upC (v:Int):=rfl;have e2:rnd ((v:Int)*7+2) 32=dnC (v:Int):=rfl;rw [e1] at h1;rw [e2] at h2;clear e1 e2;generalize upC (v:Int)=U at *;generalize dnC (v:Int)=D at *
 go_enter Tryz.func28,Tryz.ntmps28
 go_wp2_with fail;(with_reducible refine (h1 _).mono ?_);rintro e w1 ⟨a1,c1,rfl,hO1,hx1⟩;have hR:=(Blk.new w #[Zy none 0 0, Zy none 0 0] 55).extB hx1;have hE1:Ext w w1:=(Ext.of_alloc _ _).trans hx1;go_wp2_with fail;(with_reducible refine (h2 _).mono ?_);rintro e w2 ⟨a2,c2,rfl,hO2,hx2⟩;have hR:=hR.extB hx2;have hE2:=hE1.trans hx2;have s1:=(hO1.ext hx2).sl;have s2:=hO2.sl;haveI:=hR.blt;clear h1 h2
 go_wp2_with (first
  | (refine aa RP2 rfl _ _ rfl w.heap.size 0 rfl _ rfl 55 _ hR rfl Zs oC ?_;intro w9 hB9 hM9)
  | fail)
 refine aab (aX Tryz.results28 RP2 _ _ w.heap.size 0 _ rfl hB9.rd rfl) rfl ?_;exact ⟨_,_,_,_,rfl,s1.muts hR (no2 _ _ _ _ _ _) hM9,hO1.le.1,s2.muts hR (no2 _ _ _ _ _ _) hM9,hO2.le.1,Below.trans hE2 (hM9.below (aae _) hE2.size)⟩
theorem kq (v t:Nat) {vI tI:Int} (hv:vI=(v:Int)) (ht':tI=(t:Int)) (w:World)(hv9:v<=1000000000) (ht:t<=50) :
  Calls Tryz.prog 19 #[Zz Zx vI, Zz Zx tI] w (RgP (lW (v:Int) t) w):=by
 subst hv ht';obtain ⟨s,hs⟩:∃ s:Nat,s=v % 1000:=⟨_,rfl⟩;have hs2:s<=1000:=Zo;have HS:(v:Int) % 1000=(s:Int):=Zo;have hwi:=λ W=>dE (v:Int) 1000 W Zo Zo;rw [HS] at hwi;have hrn:=λ W=>gE (v:Int) 32 (show (32:Int)=((32:Nat):Int) from rfl) W Zo;have hl32:=bS (v:Int) (show 32<=32 from Zo);have hf:=λ t ht=>mM s (rnd (v:Int) 32) Zo t ht;have hst:=λ a c W H1 H2=>sn (s:Int) a 32 c (rnd (v:Int) 32) W H1 H2;rw [wb Zo hl32] at hst;have hrg:lW (v:Int) t=kV (fV s (rnd (v:Int) 32)) t:=by unfold lW;rw [HS];rfl
 rw [hrg];obtain ⟨R0,hR0⟩:∃ R,fV s (rnd (v:Int) 32)=R:=⟨_,rfl⟩;rw [hR0] at hst hf ⊢;have hl0:=hf 0 Zo;clear hR0 hrg hl32 HS hs;generalize rnd (v:Int) 32=X at *
 go_enter Tryz.func19,Tryz.ntmps19
 go_wp2_with fail;(with_reducible refine (hwi _).mono ?_);rintro e w1 ⟨rfl,hxq⟩;obtain ⟨xq,rfl⟩:=hxq.out;clear hxq;go_wp2_with fail;(with_reducible refine (hrn _).mono ?_);rintro e w1 ⟨a1,c1,rfl,hO1,hx1⟩;have hx0:Ext w ((w.alloc (.cells #[Zy none 0 0] 26)).ext xq):=eX;have hB:Blk ((w.alloc (.cells #[Zy none 0 0] 26)).ext xq) w.heap.size 26 [Zy none 0 0]:=bK;have hE1:=hx0.trans hx1;have hB:=hB.extB hx1;go_wp2_with fail;(with_reducible refine (hst _ _ _ hO1.sl hO1.le.1).mono ?_);rintro e w2 ⟨a2,n2,c2,rfl,hI2,hc2,hx2⟩;have hE2:=hE1.trans hx2;have hB:=hB.extB hx2;have hlt:=hB.lt;clear hx1 hx2 hx0 hE1 hO1 hst hwi hrn
 go_wp2_with (first
  | (refine ag RR1 rfl rfl _ _ rfl rfl rfl rfl (by simp [Act.put]) _ rfl Zs rfl oC ?_;intro x hz _)
  | fail)
 obtain ⟨W,hW⟩:∃ W,W=w2.ext x:=⟨_,rfl⟩;have hxW:Ext w2 W:=by rw [hW];exact eX
 rw [<- hW] at hz ⊢;obtain ⟨g5,hg5⟩:∃ g,g=w2.heap.size:=⟨_,rfl⟩;rw [<- hg5] at hz hlt ⊢;have hRB:RB 26 (kV R0 0) a2 n2 c2 g5 W:=⟨hz,hI2.ext hxW,hc2⟩;have hB:=hB.extB hxW;have hE:=hE2.trans hxW;clear hW hxW hz hI2 hE2 hg5 hc2
 go_loopw [7] (λ v7 wr=>∃ (k:Nat) (a:Option Addr)(n c:Nat),k<=t/\v7 = Zz Zx k/\RB 26 (kV R0 k) a n c g5 wr/\Blk wr w.heap.size 26 [Zy none 0 0]/\Ext w wr) (λ v7 _=>t-(intOf v7).toNat)
 case atStart=>exact ⟨0,_,_,_,aam _,rfl,hRB,hB,hE⟩
 case round =>
  clear hRB hB hE;obtain ⟨k,a,n,c,hk,rfl,hRB,hB,hE⟩:=hrel;obtain ⟨f1,f2,f3,f4⟩:=hf k Zo;have hnl:=hRB.ib.len;by_cases hlt2:k<t
  ·have hki:(k:Int)<(t:Int):=by omega
   have hrot:=λ W H=>rl a n c (kV R0 k) W H hRB.le Zo;rw [f2] at hrot
   go_wp2_with (first
    | (refine af RR1 rfl _ rfl g5 0 rfl _ ((hRB.blk.rd)) rfl ?_)
    | fail)
   (with_reducible refine (hrot _ hRB.ib).mono ?_);rintro e w4 ⟨a4,n4,c4,rfl,hI4,hc4,hx4⟩;have hRB:=hRB.ext hx4;have hB:=hB.extB hx4;have hE:=hE.trans hx4
   go_wp2_with (first
    | (refine aa RR1 rfl _ _ rfl g5 0 rfl _ rfl 26 _ hRB.blk rfl Zs (by first|exact aK _|(simp;done)|(simp;(repeat' (first|rfl|constructor)))) ?_;intro w5 hB5 hM5)
    | fail)
   go_roundw
   case rel=>exact ⟨k+1,a4,n4,c4,Zo,Zg,⟨hB5,hI4.muts hRB.blk (no1 _ _ _) hM5,hc4⟩,Blk.turn hM5 hB Zo,sk hE (Ext.refl _) hM5 Zo⟩
   case measure=>simp [intOf];omega
  ·obtain rfl:k=t:=by omega
   have hki:¬ (k:Int)<(k:Int):=Zo
   go_wp2_with (first
    | (refine af RR1 rfl _ rfl g5 0 rfl _ ((hRB.blk.rd)) rfl ?_)
    | (refine aa RR1 rfl _ _ rfl w.heap.size 0 rfl _ rfl 26 _ hB rfl Zs (by first|exact aK _|(simp;done)|(simp;(repeat' (first|rfl|constructor)))) ?_;intro w5 hB5 hM5)
    | fail)
   refine aab (aX Tryz.results19 RR1 _ _ w.heap.size 0 _ rfl hB5.rd rfl) rfl ?_;exact ⟨_,_,_,rfl,hRB.ib.muts hB (no1 _ _ _) hM5,hRB.le,sk hE (Ext.refl _) hM5 (aae _)⟩
theorem fI (a:Option Addr)(n c:Nat) (o:Bool) (w:World) :
  Calls Tryz.prog 18 #[.agg #[Zy a n c], .bool o] w λ e w'=>e = .returned (.agg #[Zy a n c, Zz Zx 2, Zz Zx 1, Zz Zx 64, .bool o])/\Ext w w':=by
 have hB0:=(Blk.new w #[Zy a n c] 26).alloc (.cells #[Zy none 0 0, Zz Zx 0, Zz Zx 0, Zz Zx 0, .bool false] 30)
 go_enter Tryz.func18,Tryz.ntmps18
 go_wp2_with (first
  | (refine af RR1 rfl _ rfl w.heap.size 0 rfl _ hB0.rd rfl ?_)
  | (refine aa ma rfl _ _ rfl (w.heap.size+1) 0 rfl _ rfl 30 _ ((Blk.newAt _ _ _ _ Zs)) rfl Zs oC ?_;intro w5 hB5 hM5)
  | fail)
 refine aab (aX Tryz.results18 ma _ _ (w.heap.size+1) 0 _ rfl hB5.rd rfl) rfl ?_;exact ⟨rfl,Below.trans (b:=(w.alloc (.cells #[Zy a n c] 26)).alloc (.cells #[Zy none 0 0, Zz Zx 0, Zz Zx 0, Zz Zx 0, .bool false] 30)) eX (hM5.below Zo (by simp;omega))⟩
theorem xF (a:Option Addr)(n c:Nat) (l:List UInt8)(at' by':Int) (w:World)(H:Sl w a n l) (hn2:n<=1000000) :
  Calls Tryz.prog 30 #[Zy a n c, Zz Zx at', Zz Zx by'] w (cj n (flp l at' by') w):=by
 go_enter Tryz.func30,Tryz.ntmps30
 go_wp2_with fail;(with_reducible refine (aZ _ _ _ _ _ (gR H _) Zo n (by simp [cz,H.len]) Zo).mono ?_);rintro e w1 ⟨a1,c1,rfl,hO1,hx1⟩;rw [cz] at hO1;have hE1:Ext w w1:=(Ext.of_alloc _ _).trans hx1;have hO0:=hO1.mono (show w.heap.size<=_ from (Ext.of_alloc w _).size);have hll:=H.len;by_cases hn:n=0
 ·subst hn;have hl0:=aaw hll;subst hl0;go_wp2_with fail;go_ret;exact ⟨_,_,rfl,hO0,hE1⟩
 have hn1:1<=n:=Zo;have hnI:(0:Int)<(n:Int):=Zo;have hlt:=aaT at' (show (0:Int)<(n:Int) from Zo);have hge:=aa8 at' (show (n:Int)≠0 from Zo);obtain ⟨i,hi⟩:∃ i:Nat,at' % (n:Int)=(i:Int):=⟨(at' % (n:Int)).toNat,Zo⟩;have hin:i<n:=Zo;obtain ⟨bv,hbv⟩:∃ bv:Int,by' % 255=bv:=⟨_,rfl⟩;have hb0:0<=bv:=Zo;have hb1:bv<255:=Zo;have HC:=Lib.hid (show flp l at' by'=l.set i (l.getD i 0 ^^^ b8 (1+bv)) by
  unfold flp;rw [aaf (by intro e;rw [e] at hll;simp at hll;omega)];unfold chg;rw [H.len,hi,hbv];rfl)
 have hwr:=Lib.hid (show 1+bv=n8 (b8 (1+bv)) by rw [nq];omega);clear hlt hge hn hll;obtain ⟨g,rfl,hg,hgb,hcell,hfr,hset⟩:=hO1.at i hin;have hw1:=Lib.hid (show ∀ W,Calls Tryz.prog 10 #[Zz Zx at', Zz Zx (n:Int)] W λ e w'=>e = .returned (Zz Zx (i:Int))/\Ext W w' from λ W=>by rw [<- hi];exact dE at' n W Zo Zo);have hw2:=Lib.hid (show ∀ W,Calls Tryz.prog 10 #[Zz Zx by', Zz Zx 255] W λ e w'=>e = .returned (Zz Zx bv)/\Ext W w' from λ W=>by rw [<- hbv];exact dE by' 255 W Zo Zo);clear hi hbv;have hin2:(i:Int)<(n:Int):=Zo;go_wp2_with fail;refine ae 13 [[],[],[],[2],[1,2,3],[0,1,2,3,4],[0,1,2,3,4,5],[],[1,2,3,4,7],[1,2,3,4,7,8],[1,2,3,4,7,8,9],[0,1,2,3,4,5,6,7,8,9,10],[0,1,2,3,4,5,6,7,8,9,10,11],[0,1,2,3,4,5,6,7,8,9,10,11,12]] Zk Zk Zk Zk ?_;simp only [q8q,q9q,q10q,q11q,q12q,q13q];(repeat (apply aj;(case h=>(intro us w' hx hf;obtain ⟨x,rfl⟩:=hx.out;refine ⟨rfl,?_⟩;simp [go_sem,execOp, *];(try simp (disch:=omega) only [q17q,q18q,q19q]);rfl));(try simp only [Act.put,q0q,q1q,q2q])));(refine ao (λ _ => Zz Zx (i:Int)) (λ _ _=>True) (λ _ _ _ _ _=>trivial) (λ us w' hx hf=>⟨rfl,?_⟩) ?_;(unfold gives;simp [go_sem,execOp];refine (hw1.out _).mono ?_;rintro e w1 ⟨rfl,hx1⟩;first|exact ⟨rfl,hx1⟩|simpa using hx1));(repeat (apply aj;(case h=>(intro us w' hx hf;obtain ⟨x,rfl⟩:=hx.out;refine ⟨rfl,?_⟩;simp [go_sem,execOp, *];(try simp (disch:=omega) only [q17q,q18q,q19q]);rfl));(try simp only [Act.put,q0q,q1q,q2q])));(refine ao (λ _ => Zz Zx bv) (λ _ _=>True) (λ _ _ _ _ _=>trivial) (λ us w' hx hf=>⟨rfl,?_⟩) ?_;(unfold gives;simp [go_sem,execOp];refine (hw2.out _).mono ?_;rintro e w1 ⟨rfl,hx1⟩;first|exact ⟨rfl,hx1⟩|simpa using hx1));(repeat (apply aj;(case h=>(intro us w' hx hf;obtain ⟨x,rfl⟩:=hx.out;refine ⟨rfl,?_⟩;simp [go_sem,execOp, *];(try simp (disch:=omega) only [q17q,q18q,q19q]);rfl));(try simp only [Act.put,q0q,q1q,q2q])));(refine aB ?_;intro us w' hx hf;obtain ⟨x,rfl⟩:=hx.out;(try simp only [Act.put,q0q,q1q,q2q,ai]);(try simp only [q3q,q4q,aar,aac,aan,q5q,q6q,q7q,aat,aau,aav] at hf);(try simp only [Nat.reduceAdd,aag] at hf ⊢));go_wp2;go_ret;have hv:bits .xor .u8 (n8 (l[i]?.getD 0)) (1+bv)=n8 (l.getD i 0 ^^^ b8 (1+bv)):=by
  rw [hwr.out,Go.Sec.u8_xor,<- hwr.out];simp
 rw [hv];have hgw:w.heap.size<=g:=by simp at hg;omega
 refine ⟨_,_,rfl,?_,Ext.setCell (Ext.ext hE1 _) hgw _⟩;rw [HC.out];obtain ⟨g',he,_,_,_,_,hs⟩:=(hO1.ext (Ext.of_ext _ x)).at i hin;injection he with he
 injection he with he
 subst he;exact (hs _).mono Zs
end Go.Proofs.YtmdahnkcnagkjaaGreat
