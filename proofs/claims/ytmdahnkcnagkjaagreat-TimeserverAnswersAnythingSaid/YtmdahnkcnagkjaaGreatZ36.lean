/- Lemmas of this claim, several texts joined. -/
import Derived.Test.YtmdahnkcnagkjaaGreatZ33
import Derived.Test.YtmdahnkcnagkjaaGreatZ39
set_option maxRecDepth 100000
open Go.Value renaming int -> Zz,slice -> Zy
open Go.IntKind renaming i64 -> Zx,u64 -> Zw,u8 -> Zu
open List renaming setIfInBounds_toArray -> q0q, set_cons_succ -> q1q, set_cons_zero -> q2q, mem_cons -> q3q, not_mem_nil -> q4q, nil_append -> q5q, cons_append -> q6q, mem_append -> q7q, take_succ_cons -> q8q, take_zero -> q9q, drop_succ_cons -> q10q, drop_zero -> q11q, take_nil -> q12q, drop_nil -> q13q
open Go.IntWalk renaming i64_in -> q17q, rem_in -> q18q, wrap64_in -> q19q
set_option maxHeartbeats 8000000
set_option linter.unusedVariables false
set_option linter.unusedSimpArgs false
/- The walks of layer 19 of the document: Rotate. -/
namespace Go.Sec
open Go.RowKit
def vt (T:TypeId)(id:Int) (l:E7)(w:World)(a:E8):Prop:=∃ g ga n cc,a=some ⟨g,0,none⟩/\Rd w a [Zz Zx id, Zy ga n cc]/\Sl w ga n l/\n<=cc/\∀ base,InT T w base ga n
theorem vt.ext {T:TypeId} {id:Int} {l:E7} {w w':World} {a:E8} (h:vt T id l w a) (hx:Ext w w'):vt T id l w' a:=by
 obtain ⟨g,ga,n,cc,h1,h2,h3,h4,h5⟩:=h;exact ⟨g,ga,n,cc,h1,h2.ext hx,h3.ext hx,h4,λ b=>(h5 b).ext hx⟩
theorem vt.mk {T:TypeId} {id:Int} {l:E7} {w:World} {ga:E8} {n cc base:Nat} (h:Own w base ga n cc l) (hT:5≠T):vt T id l (w.alloc (.cells #[Zz Zx id, Zy ga n cc] T)) (some ⟨w.heap.size,0,none⟩) :=
 ⟨_,ga,n,cc,rfl,(Blk.new w #[Zz Zx id, Zy ga n cc] T).rd,h.sl.ext (FA _ _),h.le.1,λ b=>(h.ext (FA _ _)).inT hT⟩
end Go.Sec
namespace Go.Proofs.P9
open Go.RowKit Go.Sec Go.Oct Go.Sha Go.Aes Go.Cook Go.Chan BigFrame
def oe (r:Ring × Int) (w:World)(e:Ending) (w':World):Prop:=∃ a n c B,e = .returned (.tuple #[.agg #[Zy a n c], Zz Zx r.2])/\w.heap.size<=B/\B<=w'.heap.size/\cf 50 w' B a n c r.1/\Ext w w'
theorem oe.err (w w':World)(e:Int) (hx:Ext w w'):oe ([],e) w (.returned (.tuple #[.agg #[Zy none 0 0], Zz Zx e])) w':=⟨none,0,0,w.heap.size,rfl,aad _,hx.size,cf.nil _ _ _,hx⟩
theorem qh (a:E8)(n c:Nat) (r:Ring) (w:World)(hI:Ib w a n r) (hnc:n<=c) (hn:n<=1000000) :
  Calls Tryz.prog 24 #[.agg #[Zy a n c]] w (oe (eY r) w):=by
 have hval:=λ W h=>gl a n c r W h hnc hn;have hrl:=hI.len;cases hv:aM r
 ·have e:eY r=([],3):=by unfold eY;rw [aaj hv]
  rw [e];rw [hv] at hval
  go_enter Tryz.func24,Tryz.ntmps24
  go_wp2_with (first
   | (go_at_call 59;refine (hval _ (hI.ext eX)).mono ?_;rintro e w1 ⟨rfl,hxq⟩;obtain ⟨xq,rfl⟩:=hxq.out;clear hxq)
   | fail)
  refine aaa (v := .tuple #[.agg #[Zy none 0 0], Zz Zx 3]) (by simp [results,Tryz.results24,go_sem]) rfl ?_;exact oe.err _ _ _ eX
 ·rw [hv] at hval;obtain ⟨v1,v2,v3,v4⟩:=bm.1 hv;obtain ⟨x0,hx0⟩:∃ x,r[0]?=some x:=⟨_,List.getElem?_eq_getElem Zo⟩;have hhd:hd r=x0:=by unfold hd;rw [FF,hx0];rfl
  obtain ⟨x1,x2,x3⟩:=v1 x0 (List.mem_of_getElem? hx0);obtain ⟨id,ky⟩:=x0;simp only at x1 x2 x3;obtain ⟨K,hK⟩:∃ K,eh ky vB 32=K:=⟨_,rfl⟩;have hrot:ku r=((id+1) % 4294967296,K) :: r.take 3:=by unfold ku;rw [hhd,hK]
  have hbits:=xL (id+1);obtain ⟨nid,hnid⟩:∃ i,(id+1) % 4294967296=i:=⟨_,rfl⟩;rw [hnid] at hrot hbits;obtain ⟨m,hm⟩:∃ m:Nat,m=min n 3:=⟨_,rfl⟩;have hmn:m<=n:=Zo;have hm3:m<=3:=Zo;have htk:r.take 3=r.take m:=by
   by_cases h:n<=3
   ·rw [aah Zo,aah Zo]
   ·rw [show m=3 by omega]
  rw [htk] at hrot;obtain ⟨b,off,g,cg,rfl,hb,hc0,hc1,hSd,hcd⟩:=hI.at 0 Zo _ hx0;simp only at hc0 hc1 hSd hcd;rw [x3] at hc1 hSd hcd;rw [Nat.zero_mul,abv] at hc0 hc1;have hbad:(∃ q∈r.take m,q.1=nid)->eY r=([],7):=λ ⟨q,h1,h2⟩=>by
   unfold eY;rw [aae (by rw [hv];simp),aaj (by rw [hhd,htk];simp only [hnid];exact aa2.2 ⟨q,h1,h2⟩)]
  have hgood:(∀ q∈r.take m,q.1≠nid)->eY r=((nid,K) :: r.take m,0):=λ h=>by
   unfold eY;rw [aae (by rw [hv];simp),aae (by
    rw [hhd,htk];simp only [hnid];intro hm;obtain ⟨q,h1,h2⟩:=aa2.1 hm;exact h q h1 h2),hrot]
  have hbad:=FC hbad;have hgood:=FC hgood;have HM:=FC hm;have hex:=λ W b' d H1 H2=>m8 g b' 32 cg 12 d 32 (rfl:(32:Int)=((32:Nat):Int)) ky vB W H1 hcd Zo H2 Zd Zd;rw [hK] at hex;have hcv:=λ W=>Lib.run_convert_bytes_const (P:=Tryz.prog) W 33 5 #[Zz Zu 115, Zz Zu 101, Zz Zu 99, Zz Zu 116, Zz Zu 105, Zz Zu 109, Zz Zu 101, Zz Zu 32, Zz Zu 110, Zz Zu 101, Zz Zu 120, Zz Zu 116] 12 12 U.sl hu8;clear hrot hK hhd htk hm;haveI:=hb;have hn0:0<n:=Zo
  go_enter Tryz.func24,Tryz.ntmps24
  go_wp2_with (first
   | (go_at_call 59;refine (hval _ (hI.ext eX)).mono ?_;rintro e w1 ⟨rfl,hxq⟩;obtain ⟨xq,rfl⟩:=hxq.out;clear hxq)
   | fail)
  generalize hX:((w.alloc (.cells #[Zy (some ⟨b,off,none⟩) n c] 26)).alloc (.cells #[Zy none 0 0] 26)).ext xq=X;have hEX:Ext w X:=by rw [<- hX];exact eX
  have hB1:Blk X w.heap.size 26 [Zy (some ⟨b,off,none⟩) n c]:=by rw [<- hX];exact bK
  have hB2:Blk X (w.heap.size+1) 26 [Zy none 0 0]:=by rw [<- hX];exact bK
  clear hX;have hxa:=FA X (.cells #[Zz Zu 115, Zz Zu 101, Zz Zu 99, Zz Zu 116, Zz Zu 105, Zz Zu 109, Zz Zu 101, Zz Zu 32, Zz Zu 110, Zz Zu 101, Zz Zu 120, Zz Zu 116] 5 (12,13));(with_reducible refine (hex _ _ _ (hSd.ext (hEX.trans hxa)) (zF X 5 (12,13))).mono ?_);rintro e w1 ⟨b1,d1,rfl,hS1,hd1,hx1⟩;have hx1:=hxa.trans hx1;have hE1:=hEX.trans hx1;have hB1:=hB1.extB hx1;have hB2:=hB2.extB hx1;have hlt2:=hB2.lt;have hc0:=(hE1.cell (p:=⟨b,_,none⟩) hb.lt).trans hc0;haveI:BlkLt b w1:=⟨aai hb.lt hE1.size⟩;haveI:=hB1.blt;haveI:=hB2.blt;have f0:=hB1.cell? 0 rfl;clear hxa hx1 hEX hex hcv;have hO0:cf 50 (w1.alloc (.cells #[Zz Zx nid, Zy b1 32 d1] 50)) w1.heap.size (some ⟨w1.heap.size,0,none⟩) 1 1 [(nid,K)]:=cf.new hS1 hd1 (aad _) (hS1.inT _)
  go_wp2_with (first
   | (refine ag RR1 rfl rfl _ _ rfl rfl rfl rfl (by simp [Act.put]) _ rfl Zs rfl oC ?_;intro x hz _)
   | fail)
  obtain ⟨W,hW⟩:∃ W,W=(w1.alloc (.cells #[Zz Zx nid, Zy b1 32 d1] 50)).ext x:=⟨_,rfl⟩;have hxW:Ext w1 W:=by rw [hW];exact eX
  have hO0:cf 50 W w1.heap.size (some ⟨w1.heap.size,0,none⟩) 1 1 [(nid,K)]:=by rw [hW];exact hO0.ext (FE _ _)
  rw [<- hW] at hz ⊢;rw [aa8] at hz;clear hW f0;have hBW:=hxW.size;have hEW:=hE1.trans hxW;have hB1:=hB1.extB hxW;have hB2:=hB2.extB hxW;obtain ⟨B,hBe⟩:∃ B,B=w1.heap.size:=⟨_,rfl⟩;rw [<- hBe] at hO0 hz hBW hlt2 ⊢;clear hBe hc0 hxW hE1 hS1 hd1
  go_loopw [7] (λ v7 wr=>∃ (k:Nat) (sa:E8)(sc:Nat),k<=m/\v7 = Zz Zx k/\Hid (∀ q∈r.take k,q.1≠nid)/\cf 50 wr B sa (k+1) sc ((nid,K) :: r.take k)/\Blk wr (B+1) 26 [Zy sa (k+1) sc]/\B<=wr.heap.size/\Blk wr w.heap.size 26 [Zy (some ⟨b,off,none⟩) n c]/\Blk wr (w.heap.size+1) 26 [Zy none 0 0]/\Ext w wr)
   (λ v7 _=>m-(intOf v7).toNat)
  case atStart=>exact ⟨0,some ⟨B,0,none⟩,1,aak _,rfl,FC Zs,by rw [q9q];exact hO0,hz,hBW,hB1,hB2,hEW⟩
  case round =>
   clear hO0 hz hBW hB1 hB2 hEW;obtain ⟨k,sa,sc,hk,rfl,hno,hO,hB6,hBx,hB1,hB2,hE⟩:=hrel;haveI:=hB1.blt;haveI:=hB2.blt;haveI:=hB6.blt;have f1:=hB1.cell? 0 rfl;have f6:=hB6.cell? 0 rfl;have hk0:(0:Int)<=(k:Int):=Zo;by_cases hlt:k<m
   ·have hkn:(k:Int)<(n:Int):=by omega
    have hk3:(k:Int)<3:=Zo;obtain ⟨xk,hxk⟩:∃ x,r[k]?=some x:=⟨_,List.getElem?_eq_getElem Zo⟩;have hts:=gv hxk;obtain ⟨_,_,y3⟩:=v1 xk (List.mem_of_getElem? hxk);have hmem:xk∈r.take m:=by
     obtain ⟨h1,h2⟩:=List.getElem?_eq_some_iff.1 hxk;exact List.mem_take_iff_getElem.2 ⟨k,Zo,h2⟩
    obtain ⟨idk,kk⟩:=xk;obtain ⟨b',off',gk,ck,hbe,hbk,d0,d1,hSk,hck⟩:=(hI.ext hE).at k Zo _ hxk;injection hbe with hbe
    injection hbe with hbe1 hbe2
    subst hbe1 hbe2;simp only at d0 d1 hSk hck y3;rw [y3] at d1 hSk hck;haveI:=hbk;obtain ⟨hIb,hsc⟩:=hO.ib;obtain ⟨b2,off2,g2,cg2,rfl,hb2,e0,_,_,_⟩:=hIb.at 0 Zo (nid,K) rfl;simp only at e0;rw [Nat.zero_mul,abv] at e0;haveI:=hb2;have hk1:0<k+1:=Zo;by_cases hid:idk=nid
    ·have he:=FC (hbad.out ⟨_,hmem,hid⟩);have hdd:(idk == nid)=true:=by simpa using hid
     clear hid;go_wp2_with fail;refine R2.ae 12 [[],[0],[],[0,1,2],[0,1,2,3],[0,1,2,3,4],[],[6],[6,7],[6,7,8],[6,7,8,9],[0,1,2,3,4,5,6,7,8,9,10]] [] (λ h=>(h rfl).elim) Zk Zk Zk Zk Zk ?_;simp only [q8q,q9q,q10q,q11q,q12q,q13q];(repeat (refine R2.av ?_;(try simp only [Act.put,q0q,q1q,q2q])));(refine R2.aU ?_;intro us x hx hf)
     go_wp2_with (first
      | (refine aa RR1 rfl _ _ rfl (w.heap.size+1) 0 rfl _ rfl 26 _ ((hB2.extB eX)) rfl Zs (by first|exact aH _|(simp;done)|(simp;(repeat' (first|rfl|constructor)))) ?_;intro w9 hB9 hM9)
      | fail)
     refine aaa (aj Tryz.results24 RR1 _ _ (w.heap.size+1) 0 _ rfl hB9.rd rfl (Zz Zx 7) rfl) rfl ?_;rw [he.out];exact oe.err _ _ _ (nL hE eX hM9 Zo)
    ·have hdd:(idk == nid)=false:=by simpa using hid
     have hno2:=FC (show ∀ q∈r.take (k+1),q.1≠nid by
      rw [hts];intro q hq;rcases aaP.1 hq with h|h
      ·exact hno.out q h
      ·rw [aau.1 h];exact hid)
     clear hid;go_wp2_with fail;refine R2.ae 12 [[],[0],[],[0,1,2],[0,1,2,3],[0,1,2,3,4],[],[6],[6,7],[6,7,8],[6,7,8,9],[0,1,2,3,4,5,6,7,8,9,10]] [] (λ h=>(h rfl).elim) Zk Zk Zk Zk Zk ?_;simp only [q8q,q9q,q10q,q11q,q12q,q13q];(repeat (refine R2.av ?_;(try simp only [Act.put,q0q,q1q,q2q])));(refine R2.aU ?_;intro us x hx hf);go_wp2_with fail;refine cU ?_;intro W3 hW3;have hE3:Ext wr W3:=by rw [hW3];exact eX
     clear hW3;have hO3:=hO.ext hE3;have hB6:=hB6.extB hE3;have hB1:=hB1.extB hE3;have hB2:=hB2.extB hE3;have hSk:=hSk.ext hE3;have d0:=(hE3.cell (p:=⟨b,_,none⟩) hbk.lt).trans d0;have d1:=(hE3.cell (p:=⟨b,_,none⟩) hbk.lt).trans d1;have hE3w:=hE.trans hE3;have hBx:=aal hBx hE3.size;haveI:BlkLt b W3:=⟨aai hbk.lt hE3.size⟩;haveI:=hB1.blt;haveI:=hB6.blt;have f1:=hB1.cell? 0 rfl;have f6:=hB6.cell? 0 rfl;clear hE hE3 e0 hIb hO hdd;refine R2.ae 18 [[],[0],[],[2],[],[2,3,4],[2,3,4,5],[2,3,4,5,6],[],[8],[],[8,9,10],[8,9,10,11],[8,9,10,11,12],[8,9,10,11,12,13],[8,9,10,11,12,13,14],[2,3,4,5,6,7,8,9,10,11,12,13,14,15],[2,3,4,5,6,7,8,9,10,11,12,13,14,15,16],[0,1,2,3,4,5,6,7,8,9,10,11,12,13,14,15,16,17],[0,1,2,3,4,5,6,7,8,9,10,11,12,13,14,15,16,17,18],[0,1,2,3,4,5,6,7,8,9,10,11,12,13,14,15,16,17,18,19]] [] (λ h=>(h rfl).elim) Zk Zk Zk Zk Zk ?_;simp only [q8q,q9q,q10q,q11q,q12q,q13q];(repeat (refine R2.av ?_;(try simp only [Act.put,q0q,q1q,q2q])));(refine R2.ai (λ p => .slice (p 0).1 1 1) (λ p w''=>Bss w'' (p 0).1 1 ([kk])) (λ p w w' h hx=>h.ext hx) (λ us w' hx hf=>⟨rfl,?_⟩) ?_;(unfold gives;simp [go_sem,execOp];exact ⟨λ _=>(some ⟨w'.heap.size,0,none⟩,0),rfl,FA _ _,gV (hSk.ext hx) _⟩));(refine R2.ai (λ p => .slice (p 0).1 32 (p 0).2) (λ p w''=>Own w'' 0 (p 0).1 32 (p 0).2 kk) (λ p w w' h hx=>h.ext hx) (λ us w' hx hf=>⟨rfl,?_⟩) ?_;(unfold gives;simp [go_sem,execOp];exact az (aak _) ((by have:=aR _ 1 1 [kk] w' (by exact (hf _ (aac _ (aab _)) rfl)) Zo 32 (by rw [bP];exact y3) Zo;rw [bP] at this;exact this))));(repeat (refine R2.av ?_;(try simp only [Act.put,q0q,q1q,q2q])));(refine R2.ai (λ p => .slice (p 0).1 1 1) (λ p w''=>vt 50 idk kk w'' (p 0).1) (λ p w w' h hx=>by first|exact h.ext hx|exact ⟨h.1.ext hx,h.2.ext hx⟩|exact ⟨h.1.ext hx,h.2⟩|exact ⟨h.1.ext hx,h.2.1.ext hx,h.2.2.ext hx⟩) (λ us w' hx hf=>⟨rfl,?_⟩) ?_;(unfold gives;simp [go_sem,execOp];exact ⟨λ _=>(some ⟨w'.heap.size,0,none⟩,0),rfl,FA _ _,vt.mk (hf _ (aac _ (aab _)) rfl) Zd⟩));(refine R2.aU ?_;intro us x hx hf);obtain ⟨_,_,hN⟩:=hf;obtain ⟨aN,haN⟩:∃ a,(us 17 0).1=a:=⟨_,rfl⟩;rw [haN] at hN ⊢;clear haN;obtain ⟨gn,ga,nn,cc,rfl,hR,hS,hcc,hIn⟩:=hN;have hxx:Ext W3 (W3.ext x):=FE _ _;have hOx:=hO3.ext hxx;have hB6x:=hB6.extB hxx;have hB2x:=hB2.extB hxx;have hB1x:=hB1.extB hxx;have hEx:=hE3w.trans hxx;have hBxx:=aal hBx hxx.size;clear hO3 hB6 hB2 hB1 hE3w hBx hxx f1 f6 d0 d1;refine db VM rfl _ _ rfl B _ (k+1) sc _ rfl gn 1 idk ga nn cc kk rfl hOx hR hS hcc (hIn B) Zo hBxx ?_;intro sa' sc' w6 hO6 hg6 hb6;have hB66:=hB6x.grown hg6 (hOx.blk hB6x Zd);have hB26:=hB2x.grown hg6 (hOx.blk hB2x Zd);have hB16:=hB1x.grown hg6 (hOx.blk hB1x Zd);haveI:=hB66.blt;have q0:=hB66.cell? 0 rfl;have q1:=hB66.free 0;have hE6:Ext w w6:=E9 hEx (hb6.mono Zo);have hB6s:=aal hBxx hb6.size;go_wp2;have hset:=hB66.set 0 (Zy sa' (k+1+1) sc');have hM:Mut (B+1) w6 (w6.setCell ⟨B+1,0,none⟩ (Zy sa' (k+1+1) sc')):=(Mut.refl _ _).setCell 0 _;go_roundw
     case rel=>exact ⟨k+1,sa',sc',Zo,Zg,hno2,by rw [hts,<- q6q];exact hO6.mut hB66 Zd Zs hM,hset,aal hB6s hM.size,Blk.turn hM hB16 Zo,Blk.turn hM hB26 Zo,E9 hE6 (hM.below Zo hE6.size)⟩
     case measure=>simp [intOf];omega
   ·obtain rfl:k=m:=by omega
    have he:=FC (hgood.out hno.out);obtain ⟨hIb,hsc⟩:=hO.ib;by_cases hn3:n<=3
    ·have hkn:¬ (k:Int)<(n:Int):=by have:=HM.out;omega
     go_wp2_with (first
      | (refine af RR1 rfl _ rfl (B+1) 0 rfl _ (((hB6.extB eX).rd)) rfl ?_)
      | (refine aa RR1 rfl _ _ rfl (w.heap.size+1) 0 rfl _ rfl 26 _ ((hB2.extB eX)) rfl Zs (by first|exact aH _|(simp;done)|(simp;(repeat' (first|rfl|constructor)))) ?_;intro w9 hB9 hM9)
      | fail)
     refine aaa (aj Tryz.results24 RR1 _ _ (w.heap.size+1) 0 _ rfl hB9.rd rfl (Zz Zx 0) rfl) rfl ?_;rw [he.out];exact ⟨_,_,_,B,rfl,Zo,aal hBx (aal (show Ext wr _ from eX).size hM9.size),(hO.ext eX).mut (hB2.extB eX) Zd Zs hM9,nL hE eX hM9 Zo⟩
    ·have hkn:(k:Int)<(n:Int):=by have:=HM.out;omega
     have hk3:¬ (k:Int)<3:=by have:=HM.out;omega
     go_wp2_with (first
      | (refine af RR1 rfl _ rfl (B+1) 0 rfl _ (((hB6.extB eX).rd)) rfl ?_)
      | (refine aa RR1 rfl _ _ rfl (w.heap.size+1) 0 rfl _ rfl 26 _ ((hB2.extB eX)) rfl Zs (by first|exact aH _|(simp;done)|(simp;(repeat' (first|rfl|constructor)))) ?_;intro w9 hB9 hM9)
      | fail)
     refine aaa (aj Tryz.results24 RR1 _ _ (w.heap.size+1) 0 _ rfl hB9.rd rfl (Zz Zx 0) rfl) rfl ?_;rw [he.out];exact ⟨_,_,_,B,rfl,Zo,aal hBx (aal (show Ext wr _ from eX).size hM9.size),(hO.ext eX).mut (hB2.extB eX) Zd Zs hM9,nL hE eX hM9 Zo⟩
end Go.Proofs.P9

/- The walks of layer 19 of the document: Open. -/
namespace Go.Sec
open Go.RowKit Go.Sec.R4
theorem Own.chg {w w':World} {S:Nat->Prop} {base n c:Nat} {a:E8} {l:E7} (h:Own w base a n c l) (hx:Chg S w w') (hs:∀ k,S k->k<base):Own w' base a n c l:=by
 refine ⟨h.1,h.2.1,?_⟩;rcases h.2.2 with h1|⟨g,cap,cur,hv,hb,hh,r⟩
 ·exact .inl h1
 ·refine .inr ⟨g,cap,cur,hv,hb,?_,r⟩;rw [hx.block g (Array.getElem?_eq_some_iff.1 hh).1 (λ e=>by have:=hs g e;omega)];exact hh
theorem Rd.chg {w w':World} {S:Nat->Prop} {b o:Nat} {vs:List Value} (h:Rd w (some ⟨b,o,none⟩) vs) (hx:Chg S w w') (hs:¬ S b):Rd w' (some ⟨b,o,none⟩) vs:=by
 exact z32q27
theorem qQ {w:World} {b:Nat} {a1:E8} {n1 c1:Nat} {l:E7} (h:Rd w (some ⟨b,0,none⟩) [Zy a1 n1 c1]) (hS:Sl w a1 n1 l):Bss w (some ⟨b,0,none⟩) 1 [l]:=by
 exact z32q25
end Go.Sec
namespace Go.Proofs.P9
open Go.RowKit Go.Sec Go.Oct Go.Sha Go.Aes Go.Cook Go.Chan BigFrame
theorem Bi {pl:E7} (h:4<=pl.length):(pl.drop 2).take 2=[pl.getD 2 0,pl.getD 3 0]:=by
 match pl,h with
 | a :: b :: c :: d :: r,_=>rfl
theorem A6 {x:UInt8} (h:x≠0):(n8 x != 0)=true:=by
 rw [aao];intro h0;apply h;have:n8 x=n8 0:=h0;unfold Go.Sec.n8 at this;exact UInt8.toNat_inj.1 Zo
theorem uy (a b:E8)(n c nk ck:Nat) (r:Ring) (l:E7)(w:World)(hI:Ib w a n r) (hnc:n<=c) (hn:n<=1000000) (hb:Sl w b nk l) (hck:nk<=ck) :
  Calls Tryz.prog 26 #[.agg #[Zy a n c], Zy b nk ck] w (fU (cW r l) w):=by
 have hval:=λ W h=>gl a n c r W h hnc hn;have hid:=λ W h=>yd b nk ck l W h hck;have hrl:=hI.len;have hll:=hb.len;cases hV:aM r
 ·have e:cW r l=⟨0,[],[],0,3⟩:=by unfold cW;rw [aaj (.inl hV)]
  rw [e];rw [hV] at hval;clear hll e
  go_enter Tryz.func26,Tryz.ntmps26
  go_wp2_with (first
   | (go_at_call 59;refine (hval _ (hI.ext eX)).mono ?_;rintro e w1 ⟨rfl,hxq⟩;obtain ⟨xq,rfl⟩:=hxq.out;clear hxq)
   | fail)
  refine aaa (v := .tuple #[Zz Zx 0, .agg #[Zy none 0 0, Zy none 0 0], Zz Zx 0, Zz Zx 3]) (by simp [results,Tryz.results26,go_sem]) rfl ?_;exact fU.err _ _ _ eX
 ·rw [hV] at hval;by_cases n104:nk=104
  ·subst n104;have hide:idE l=(iG l,0):=by unfold idE;rw [aae Zo]
   rw [hide] at hid;obtain ⟨v1,v2,v3,v4⟩:=bm.1 hV;have hg:=FC (show ∀ i,iU r l=some i->cW r l=if (dO r i l).2≠0\/((dO r i l).1.drop 2).take 2≠[0,0] then ⟨0,[],[],0,6⟩ else ⟨n64 (cR ((dO r i l).1.take 2)),((dO r i l).1.drop 4).take 32,((dO r i l).1.drop 36).take 32,i,0⟩ from λ i hA=>by
    unfold cW;rw [aae (by rw [hV];simp;omega),hA])
   have hgo:=FC (show iU r l=none->cW r l=⟨0,[],[],0,5⟩ from λ hA=>by unfold cW;rw [aae (by rw [hV];simp;omega),hA]);clear hide
   go_enter Tryz.func26,Tryz.ntmps26
   go_wp2_with (first
    | (go_at_call 59;refine (hval _ (hI.ext eX)).mono ?_;rintro e w1 ⟨rfl,hxq⟩;obtain ⟨xq,rfl⟩:=hxq.out;clear hxq)
    | (go_at_call 67;refine (hid _ (hb.ext eX)).mono ?_;rintro e w1 ⟨rfl,hxq⟩;obtain ⟨xq,rfl⟩:=hxq.out;clear hxq)
    | fail)
   refine cU ?_;intro W hW;have hEW:Ext w W:=by rw [hW];exact eX
   have hB1:Blk W w.heap.size 26 [Zy a n c]:=by rw [hW];exact bK
   have hB2:Blk W (w.heap.size+1) 55 [Zy none 0 0, Zy none 0 0]:=by rw [hW];exact bK
   clear hW hval hid
   go_loopw [10,11,12] (λ v10 _ _ wr=>∃ k:Nat,k<=n/\v10 = Zz Zx k/\Hid (∀ m∈r.take k,m.1≠iG l)/\Blk wr w.heap.size 26 [Zy a n c]/\Blk wr (w.heap.size+1) 55 [Zy none 0 0, Zy none 0 0]/\Ext w wr) (λ v10 _ _ _=>n-(intOf v10).toNat)
   case atStart=>exact ⟨0,aak _,rfl,FC Zs,hB1,hB2,hEW⟩
   case round =>
    clear hB1 hB2 hEW;obtain ⟨k,hk,rfl,hno,hB1,hB2,hE⟩:=hrel;have hlt2:=hB2.lt;haveI:=hB1.blt;haveI:=hB2.blt;have f1:=hB1.cell? 0 rfl;have hk0:(0:Int)<=(k:Int):=Zo;by_cases hlt:k<n
    ·have hkn:(k:Int)<(n:Int):=by omega
     obtain ⟨x,hx⟩:∃ x,r[k]?=some x:=⟨_,List.getElem?_eq_getElem Zo⟩;have hts:=gv hx;have hat:=FC (λ h=>vD hx hno.out h);obtain ⟨_,_,x3⟩:=v1 x (List.mem_of_getElem? hx);obtain ⟨id,ky⟩:=x;obtain ⟨b',off',gk,cgk,rfl,hbk,d0,d1,hSk,hckk⟩:=(hI.ext hE).at k Zo _ hx;simp only at d0 d1 hSk hckk x3;rw [x3] at d1 hSk hckk;haveI:=hbk;by_cases hid:id=iG l
     ·have hg2:=hg.out k (hat.out hid);have hinn:dO r k l=bL ky [l.take 4,(l.drop 4).take 16] (l.drop 20):=by unfold dO;rw [FF,hx];rfl
      have hope:=λ bA cA aS cS W h1 h2 h3 h4=>qp gk bA aS 32 cgk 2 cA 84 cS ky [l.take 4,(l.drop 4).take 16] (l.drop 20) W h1 hckk h2 Zo h3 h4 Zo;have hlen:=iT (ky:=ky) (A:=[l.take 4,(l.drop 4).take 16]) (s:=l.drop 20);rw [<- hinn] at hope hlen;have hd84:(l.drop 20).length=84:=by rw [aaJ];omega
      rw [hd84] at hlen;obtain ⟨⟨pl,er⟩,hpe⟩:∃ q,dO r k l=q:=⟨_,rfl⟩;rw [hpe] at hope hlen hg2;simp only at hope hlen hg2;have HR:=FC hg2;have hne:(id != iG l)=false:=by rw [aaf];exact hid
      have hbr:=hb.ext hE;have s1:=hbr.take 4 Zo;have s2:=(hbr.drop ck 4 hck).take 16 Zo;have s3:=hbr.drop ck 20 hck;have k1:(4:Int)<=(ck:Int):=Zo;have k2:(20:Int)<=(ck:Int):=Zo;have k3:(104:Int)<=(ck:Int):=Zo;have k4:4<=ck:=Zo;have k5:20<=ck:=Zo;clear hg2 hpe hinn hid hat hts hg hgo hll;go_wp2_with fail;refine R2.ae 19 [[],[0],[],[0,1,2],[0,1,2,3],[0,1,2,3,4],[],[6],[],[8],[6,7,8,9],[],[11],[0,1,2,3,4,5,6,7,8,9,10,11,12],[0,1,2,3,4,5,6,7,8,9,10,11,12,13],[0,1,2,3,4,5,6,7,8,9,10,11,12,13,14],[0,1,2,3,4,5,6,7,8,9,10,11,12,13,14],[0,1,2,3,4,5,6,7,8,9,10,11,12,13,14,15],[0,1,2,3,4,5,6,7,8,9,10,11,12,13,14,15,16,17]] [] (λ h=>(h rfl).elim) Zk Zk Zk Zk Zk ?_;simp only [q8q,q9q,q10q,q11q,q12q,q13q];(repeat (refine R2.av ?_;(try simp only [Act.put,q0q,q1q,q2q])));(refine R2.ai (λ p => .slice (p 0).1 2 2) (λ p w''=>Bsc w'' (p 0).1 2 [l.take 4,(l.drop 4).take 16]) (λ p w w' h hx=>by first|exact h.ext hx|exact ⟨h.1.ext hx,h.2.ext hx⟩|exact ⟨h.1.ext hx,h.2⟩|exact ⟨h.1.ext hx,h.2.1.ext hx,h.2.2.ext hx⟩) (λ us w' hx hf=>⟨rfl,?_⟩) ?_;(unfold gives;simp [go_sem,execOp];exact ⟨λ _=>(some ⟨w'.heap.size,0,none⟩,0),rfl,FA _ _,sm (s1.ext hx) Zo (s2.ext hx) Zo _⟩));(repeat (refine R2.av ?_;(try simp only [Act.put,q0q,q1q,q2q])));(refine R2.ai (λ p => .tuple #[.slice (p 0).1 pl.length (p 0).2, Zz Zx er]) (λ p w''=>Sl w'' (p 0).1 pl.length (pl)/\(pl.length)<=(p 0).2) (λ p w w' h hx=>⟨h.1.ext hx,h.2⟩) (λ us w' hx hf=>⟨rfl,?_⟩) ?_;(unfold gives;simp [go_sem,execOp];exact dK (hope _ _ _ _ _ (hSk.ext hx) (hf _ (aac _ (aab _)) rfl) (s3.ext hx) Zo)));(repeat (refine R2.av ?_;(try simp only [Act.put,q0q,q1q,q2q])));(refine R2.aU ?_;intro us x hx hf);obtain ⟨_,hSp,hcp⟩:=hf;obtain ⟨ap,hap⟩:∃ a,(us 13 0).1=a:=⟨_,rfl⟩;obtain ⟨cp,hcpe⟩:∃ a,(us 13 0).2=a:=⟨_,rfl⟩;rw [hap] at hSp ⊢;rw [hcpe] at hcp ⊢;clear hap hcpe;obtain ⟨W,hW⟩:∃ W,W=wr.ext x:=⟨_,rfl⟩;rw [<- hW] at hSp ⊢;have hxW:Ext wr W:=by rw [hW];exact FE _ _
      clear hW;have hE:=hE.trans hxW;have hB2:=hB2.extB hxW;clear hB1 s1 s2 s3 d0 d1 hSk f1 hope hbr;haveI:=hB2.blt;by_cases her:er=0
      ·subst her;have hpl:pl.length=68:=by rw [hlen rfl]
       rw [hpl] at hSp hcp ⊢;have h2e:=Bi (pl:=pl) Zo;rw [h2e] at HR;obtain ⟨pb,po,rfl,hpb,hq2⟩:=hSp.atD 2 Zo;obtain ⟨pb2,po2,hpe2,_,hq3⟩:=hSp.atD 3 Zo;injection hpe2 with hpe2
       injection hpe2 with hpe3 hpe4
       subst hpe3 hpe4;haveI:=hpb;by_cases z2:pl.getD 2 0=0
       ·by_cases z3:pl.getD 3 0=0
        ·have HR2:=FC (show cW r l=⟨n64 (cR (pl.take 2)),(pl.drop 4).take 32,(pl.drop 36).take 32,k,0⟩ by rw [HR.out,aae (by rw [z2,z3];simp)]);rw [z2] at hq2;rw [z3] at hq3;have n0:(n8 0 != 0)=false:=Zd;clear HR h2e z2 z3;go_wp2_with fail;obtain ⟨gq,hgq⟩:∃ q,cR (pl.take 2)=q:=⟨_,rfl⟩;have hb02:=pO (pl.take 2) (by rw [aat];omega);have hg02:=λ V H=>fb (some ⟨pb,po,none⟩) 2 cp (pl.take 2) V H Zo;rw [hgq] at hb02 hg02;have hwr:IntKind.i64.wrap (n64 gq)=n64 gq:=by rw [aaO];omega
         have s02:=hSp.take 2 Zo;have s04:=(jY hSp hcp (show 4<68 from Zo)).take 32 Zo;have s36:=(jY hSp hcp (show 36<68 from Zo)).take 32 Zo;obtain ⟨U4,hU4⟩:∃ u,(pl.drop 4).take 32=u:=⟨_,rfl⟩;obtain ⟨U36,hU36⟩:∃ u,(pl.drop 36).take 32=u:=⟨_,rfl⟩;rw [hU4] at s04;rw [hU36] at s36;have l4:=s04.len;have l36:=s36.len;have j1:(2:Int)<=(cp:Int):=Zo;have j2:(4:Int)<=(cp:Int):=Zo;have j3:(36:Int)<=(cp:Int):=Zo;have j4:(68:Int)<=(cp:Int):=Zo;have j5:4<cp:=Zo;have j6:36<cp:=Zo;have hWg:w.heap.size+1<W.heap.size:=hB2.lt;clear hq2 hq3;have n4:¬ cp=4:=Zo;have n36:¬ cp=36:=Zo;refine R4.fQ 16 [[],[0],[0,1],[0,1,2],[],[4],[4,5],[0,1,2,4,5,6],[],[8],[8,9],[0,1,2,4,5,6,7,8,9,10],[0,1,2,4,5,6,7,8,9,10,11],[],[0,1,2,3,4,5,6,7,8,9,10,11],[0,1,2,3,4,5,6,7,8,9,10,11,12,14],[0,1,2,3,4,5,6,7,8,9,10,11,12,13,14,15],[0,1,2,3,4,5,6,7,8,9,10,11,12,13,14,15,16]] ([w.heap.size+1]) Zk Zk Zk Zk ?_;simp only [q8q,q9q,q10q,q11q,q12q,q13q];(repeat (apply R4.eB;(case h=>(intro us w' hx hf;refine ⟨rfl,?_⟩;simp [go_sem,execOp, *];(try simp (disch:=omega) only [q17q,q18q,q19q]);rfl));(try simp only [Act.put,q0q,q1q,q2q])));(refine R4.ai (λ _ => Zz Zw (n64 gq)) (λ _ _=>True) ⟨(λ _ h=>by cases h),λ _ _ _ _ _=>trivial⟩ (λ us w' hx hf=>⟨rfl,?_⟩) ?_;(unfold gives;simp [go_sem,execOp];refine (hg02 _ (Sl.mut s02 hB2 Zs hx.mut)).mono ?_;rintro e w1 ⟨rfl,hx1⟩;first|exact ⟨rfl,hx1⟩|simpa using hx1));(repeat (apply R4.eB;(case h=>(intro us w' hx hf;refine ⟨rfl,?_⟩;simp [go_sem,execOp, *];(try simp (disch:=omega) only [q17q,q18q,q19q]);rfl));(try simp only [Act.put,q0q,q1q,q2q])));(refine R4.ai (λ p => .slice (p 0).1 1 1) (λ p w''=>∃ b,(p 0).1=some ⟨b,0,none⟩/\w.heap.size+1<b/\Rd w'' (some ⟨b,0,none⟩) [Zy (some ⟨pb,po+4,none⟩) 32 (cp-4)]) ⟨(λ _ h=>by cases h),λ p w1 w2 ⟨b,h1,h2,h3⟩ hx=>⟨b,h1,h2,h3.chg hx (λ hn=>by have:=hn.1;simp at this;omega)⟩⟩ (λ us w' hx hf=>⟨rfl,?_⟩) ?_;(unfold gives;simp [go_sem,execOp,n4,n36];have hsz:=hx.size;exact ⟨λ _=>(some ⟨w'.heap.size,0,none⟩,0),rfl,FA _ _,w'.heap.size,rfl,Zo,(Blk.new w' #[Zy (some ⟨pb,po+4,none⟩) 32 (cp-4)] _).rd⟩));(refine R4.ai (λ p => .slice (p 0).1 32 (p 0).2) (λ p w''=>Own w'' (w.heap.size+2) (p 0).1 32 (p 0).2 U4) ⟨(λ _ h=>by cases h),λ p w1 w2 h hx=>h.chg hx (λ q hq=>by have:=hq.1;simp at this;omega)⟩ (λ us w' hx hf=>⟨rfl,?_⟩) ?_;(unfold gives;simp [go_sem,execOp];obtain ⟨bq,e1,e2,e3⟩:=(hf _ (aac _ (aab _)) rfl);rw [e1];have hsz:=hx.size;have:=aR (some ⟨bq,0,none⟩) 1 1 [U4] w' (qQ e3 (Sl.mut s04 hB2 Zs hx.mut)) Zo 32 (by rw [bP];exact l4) Zo;rw [bP] at this;exact az Zo this));(repeat (apply R4.eB;(case h=>(intro us w' hx hf;refine ⟨rfl,?_⟩;simp [go_sem,execOp, *];(try simp (disch:=omega) only [q17q,q18q,q19q]);rfl));(try simp only [Act.put,q0q,q1q,q2q])));(refine R4.ai (λ p => .slice (p 0).1 1 1) (λ p w''=>∃ b,(p 0).1=some ⟨b,0,none⟩/\w.heap.size+1<b/\Rd w'' (some ⟨b,0,none⟩) [Zy (some ⟨pb,po+36,none⟩) 32 (cp-36)]) ⟨(λ _ h=>by cases h),λ p w1 w2 ⟨b,h1,h2,h3⟩ hx=>⟨b,h1,h2,h3.chg hx (λ hn=>by have:=hn.1;simp at this;omega)⟩⟩ (λ us w' hx hf=>⟨rfl,?_⟩) ?_;(unfold gives;simp [go_sem,execOp,n4,n36];have hsz:=hx.size;exact ⟨λ _=>(some ⟨w'.heap.size,0,none⟩,0),rfl,FA _ _,w'.heap.size,rfl,Zo,(Blk.new w' #[Zy (some ⟨pb,po+36,none⟩) 32 (cp-36)] _).rd⟩));(refine R4.ai (λ p => .slice (p 0).1 32 (p 0).2) (λ p w''=>Own w'' (w.heap.size+2) (p 0).1 32 (p 0).2 U36) ⟨(λ _ h=>by cases h),λ p w1 w2 h hx=>h.chg hx (λ q hq=>by have:=hq.1;simp at this;omega)⟩ (λ us w' hx hf=>⟨rfl,?_⟩) ?_;(unfold gives;simp [go_sem,execOp];obtain ⟨bq,e1,e2,e3⟩:=(hf _ (aac _ (aab _)) rfl);rw [e1];have hsz:=hx.size;have:=aR (some ⟨bq,0,none⟩) 1 1 [U36] w' (qQ e3 (Sl.mut s36 hB2 Zs hx.mut)) Zo 32 (by rw [bP];exact l36) Zo;rw [bP] at this;exact az Zo this));(repeat (apply R4.eB;(case h=>(intro us w' hx hf;refine ⟨rfl,?_⟩;simp [go_sem,execOp, *];(try simp (disch:=omega) only [q17q,q18q,q19q]);rfl));(try simp only [Act.put,q0q,q1q,q2q])));(refine R4.tJ RP2 rfl _ _ rfl rfl (w.heap.size+1) 0 Zs Zs 55 _ hB2 Zs (λ p=>[.slice (p 0).1 32 (p 0).2, .slice (p 1).1 32 (p 1).2]) (λ p=>⟨rfl,by simp;repeat' (first|rfl|constructor)⟩) (λ p w'=>Own w' (w.heap.size+2) (p 0).1 32 (p 0).2 U4/\Own w' (w.heap.size+2) (p 1).1 32 (p 1).2 U36) (λ p w1 w2 h hx=>⟨h.1.chg hx (λ q hq=>by simp at hq;omega),h.2.chg hx (λ q hq=>by simp at hq;omega)⟩) (λ us w' hx hf=>⟨rfl,(λ j=>if j=0 then us 7 0 else us 11 0),rfl,(hf _ (aaI _ (aaI _ (aac _ (aab _)))) rfl),(hf _ (aac _ (aab _)) rfl)⟩) ?_);(refine R4.fN ?_;intro us w' hx hf hd;(try simp only [Act.put,q0q,q1q,q2q,wpList_none]);(try simp only [q3q,q4q,abt,aa7,forall_eq,q5q,q6q,q7q,false_or,true_and,and_true] at hf);(try simp only [Nat.reduceAdd,aaA] at hf ⊢));obtain ⟨_,_,_,_,hBk,hU,hD⟩:=hf;have hBk:Blk w' (w.heap.size+1) 55 [.slice (us 15 0).1 32 (us 15 0).2, .slice (us 15 1).1 32 (us 15 1).2]:=hBk;have hEE:Ext w w':=E9 hE (hx.mut.below Zo hE.size);go_wp2_with fail;refine aaa (cL Tryz.results26 RP2 _ _ (w.heap.size+1) 0 [.slice (us 15 0).1 32 (us 15 0).2, .slice (us 15 1).1 32 (us 15 1).2] rfl hBk.rd rfl _ _ _ rfl rfl rfl) rfl ?_;rw [HR2.out,hgq,hU4,hU36];exact ⟨_,_,_,_,_,_,(by first|rfl|(rw [hwr];rfl)|(simp only [hwr];rfl)),hU.sl,hU.le.1,hD.sl,hD.le.1,hEE⟩
        ·have n2:(n8 (pl.getD 2 0) != 0)=false:=by rw [z2];decide
         have n3:(n8 (pl.getD 3 0) != 0)=true:=A6 z3;generalize n8 (pl.getD 2 0)=q2 at *;generalize n8 (pl.getD 3 0)=q3 at *
         go_wp2_with (first
          | (refine aa RP2 rfl _ _ rfl (w.heap.size+1) 0 rfl _ rfl 55 _ ((hB2.extB eX)) rfl Zs (by first|exact aH _|(simp;done)|(simp;(repeat' (first|rfl|constructor)))) ?_;intro w9 hB9 hM9)
          | fail)
         refine aaa (cL Tryz.results26 RP2 _ _ (w.heap.size+1) 0 [Zy none 0 0, Zy none 0 0] rfl hB9.rd rfl _ _ _ rfl rfl rfl) rfl ?_;rw [HR.out,aaj (.inr (by intro h;injection h with _ h;injection h with h;exact z3 h))];exact fU.err _ _ _ (nL hE eX hM9 Zo)
       ·have n2:(n8 (pl.getD 2 0) != 0)=true:=A6 z2;generalize n8 (pl.getD 2 0)=q2 at *
        go_wp2_with (first
         | (refine aa RP2 rfl _ _ rfl (w.heap.size+1) 0 rfl _ rfl 55 _ ((hB2.extB eX)) rfl Zs (by first|exact aH _|(simp;done)|(simp;(repeat' (first|rfl|constructor)))) ?_;intro w9 hB9 hM9)
         | fail)
        refine aaa (cL Tryz.results26 RP2 _ _ (w.heap.size+1) 0 [Zy none 0 0, Zy none 0 0] rfl hB9.rd rfl _ _ _ rfl rfl rfl) rfl ?_;rw [HR.out,aaj (.inr (by intro h;injection h with h;exact z2 h))];exact fU.err _ _ _ (nL hE eX hM9 Zo)
      ·have her':=ne0 her
       go_wp2_with (first
        | (refine aa RP2 rfl _ _ rfl (w.heap.size+1) 0 rfl _ rfl 55 _ ((hB2.extB eX)) rfl Zs (by first|exact aH _|(simp;done)|(simp;(repeat' (first|rfl|constructor)))) ?_;intro w9 hB9 hM9)
        | fail)
       refine aaa (cL Tryz.results26 RP2 _ _ (w.heap.size+1) 0 [Zy none 0 0, Zy none 0 0] rfl hB9.rd rfl _ _ _ rfl rfl rfl) rfl ?_;rw [HR.out,aaj (.inl her)];exact fU.err _ _ _ (nL hE eX hM9 Zo)
     ·have hne:(id != iG l)=true:=by rw [aao];exact hid
      have hno2:=FC (show ∀ q∈r.take (k+1),q.1≠iG l by
       rw [hts];intro q hq;rcases aaP.1 hq with h|h
       ·exact hno.out q h
       ·rw [aau.1 h];exact hid)
      clear hid hts hat;go_wp2_with fail;go_roundw
      case rel=>exact ⟨k+1,Zo,Zg,hno2,hB1,hB2,hE⟩
      case measure=>simp [intOf];omega
    ·obtain rfl:k=n:=by omega
     have hkn:¬ (k:Int)<(k:Int):=Zo;have he:=FC (hgo.out (vC (by have:=hno.out;rwa [aah Zo] at this)))
     go_wp2_with (first
      | (refine aa RP2 rfl _ _ rfl (w.heap.size+1) 0 rfl _ rfl 55 _ ((hB2.extB eX)) rfl Zs (by first|exact aH _|(simp;done)|(simp;(repeat' (first|rfl|constructor)))) ?_;intro w9 hB9 hM9)
      | fail)
     refine aaa (cL Tryz.results26 RP2 _ _ (w.heap.size+1) 0 [Zy none 0 0, Zy none 0 0] rfl hB9.rd rfl _ _ _ rfl rfl rfl) rfl ?_;rw [he.out];exact fU.err _ _ _ (nL hE eX hM9 Zo)
  ·have e:cW r l=⟨0,[],[],0,3⟩:=by unfold cW;rw [aaj (.inr Zo)]
   have e2:idE l=(0,3):=by unfold idE;rw [aaj Zo]
   rw [e];rw [e2] at hid;clear hll e n104 e2
   go_enter Tryz.func26,Tryz.ntmps26
   go_wp2_with (first
    | (go_at_call 59;refine (hval _ (hI.ext eX)).mono ?_;rintro e w1 ⟨rfl,hxq⟩;obtain ⟨xq,rfl⟩:=hxq.out;clear hxq)
    | (go_at_call 67;refine (hid _ (hb.ext eX)).mono ?_;rintro e w1 ⟨rfl,hxq⟩;obtain ⟨xq,rfl⟩:=hxq.out;clear hxq)
    | fail)
   refine aaa (v := .tuple #[Zz Zx 0, .agg #[Zy none 0 0, Zy none 0 0], Zz Zx 0, Zz Zx 3]) (by simp [results,Tryz.results26,go_sem]) rfl ?_;exact fU.err _ _ _ eX
end Go.Proofs.P9

/- Layer 19: what the laws share: rings in boxes, SameRing, SamePair, Pair, Ring. -/
namespace Go.Sec
open Go.RowKit
theorem Ib.muts {w w':World} {a:E8} {n g:Nat} {T:TypeId} {vs:List Value} {L:List (Int × E7)} (h:Ib w a n L) (hB:Blk w g T vs) (hne:∀ v∈vs,(∀ x,v ≠ Zz Zu x)/\∀ x,v ≠ Zz Zx x) (hM:Mut g w w'):Ib w' a n L:=by
 by_cases h0:n=0
 ·subst h0;have:=aaq h.len;subst this;exact Ib.nil _ _
 ·refine h.mut (λ b o e hbg=>?_) hB (λ v hv=>(hne v hv).1) hM;subst e hbg;rcases h.row with hh|⟨b',off,ha,hb,hc⟩
  ·exact h0 hh
  ·injection ha with ha
   injection ha with e1 e2
   subst e1 e2;obtain ⟨_,_,h1,_⟩:=hc 0 (by rw [h.len];omega);rw [cell_of_row w _ _ _ T (0,0) hB] at h1;exact (hne _ (List.mem_of_getElem? (by simpa using h1))).2 _ rfl
theorem no1 (a:E8)(n c:Nat):∀ v∈[Value.slice a n c],(∀ x,v ≠ Zz Zu x)/\∀ x,v ≠ Zz Zx x:=Zs
theorem no2 (a b:E8)(n c m d:Nat):∀ v∈[Value.slice a n c,Value.slice b m d],(∀ x,v ≠ Zz Zu x)/\∀ x,v ≠ Zz Zx x:=Zs
structure RB (T:TypeId)(r:List (Int × E7)) (a:E8)(n c g:Nat) (w:World):Prop where
 blk:Blk w g T [Zy a n c]
 ib:Ib w a n r
 le:n<=c
theorem RB.ext {T:TypeId} {r:List (Int × E7)} {a:E8} {n c g:Nat} {w w':World} (h:RB T r a n c g w) (hx:Ext w w'):RB T r a n c g w':=⟨h.blk.extB hx,h.ib.ext hx,h.le⟩
theorem Sl.muts {w w':World} {g n:Nat} {a:E8} {l:E7} {t:TypeId} {vs:List Value} (h:Sl w a n l) (hB:Blk w g t vs) (hne:∀ v∈vs,(∀ x,v ≠ Zz Zu x)/\∀ x,v ≠ Zz Zx x) (hM:Mut g w w'):Sl w' a n l:=h.mut hB (λ v hv=>(hne v hv).1) hM
end Go.Sec
namespace Go.Proofs.P9
open Go.RowKit Go.Sec Go.Oct Go.Sha Go.Aes Go.Cook Go.Chan BigFrame
def upP (s:Nat):E7:=(gE s 64).take 32
def dnP (s:Nat):E7:=(gE s 64).drop 32
def Cv (u v:E7)(w:World)(e:Ending) (w':World):Prop:=∃ a c b d,e = .returned (.agg #[Zy a 32 c, Zy b 32 d])/\Sl w' a 32 u/\32<=c/\Sl w' b 32 v/\32<=d/\Ext w w'
end Go.Proofs.P9

/- Layer 19: the ring of the statements' kit, light. -/
namespace Go.Cook
open Go.Sha Go.Oct Go.Aes Go.Sec
theorem za {r:Ring} {algo:Int} {up down nonce:E7} (h:aM r=true) (h0:0<=algo) (h1:algo<=65535) (hu:up.length=32) (hd':down.length=32) (hn:nonce.length=16) :
  bV r algo up down nonce=(dw (hd r) algo up down nonce,0):=by
 unfold bV;rw [aae (by rw [h];simp),aae Zo,aae Zo,aae Zo]
theorem mR (s:Nat) (key:E7)(hs:s<=100000) (t:Nat) (ht:t<=100):aM (kz (fW s key) t)=true/\eY (kz (fW s key) t)=(kz (fW s key) (t+1),0)/\(kz (fW s key) t).length<=4/\1<=(kz (fW s key) t).length:=by
 have hh:(hd (fW s key)).1=s:=rfl;obtain ⟨h1,h2⟩:=Dd (Df s key Zo) t (by rw [hh];omega);obtain ⟨_,_,h3⟩:=h1.rot (by rw [h2,hh];omega);obtain ⟨_,_,h4,h5⟩:=bm.1 h1.ok;exact ⟨h1.ok,h3,h5,h4⟩
end Go.Cook
namespace Go.Proofs.P9
open Go.RowKit Go.Sec Go.Oct Go.Sha Go.Aes Go.Cook Go.Chan BigFrame
def RgP (r:Ring) (w:World)(e:Ending) (w':World):Prop:=∃ a n c,e = .returned (.agg #[Zy a n c])/\Ib w' a n r/\n<=c/\Ext w w'
def D0 (r:Ring):Bool:=decide (r.length<=8) && r.all λ m=>decide (m.2.length<=60)
end Go.Proofs.P9

/- The cases: Pair, Ring, Server, Flip. -/
namespace Go.Proofs.P9
open Go.RowKit Go.Sec Go.Oct Go.Sha Go.Case Go.Cook Go.Tsrv BigFrame
def flp (l:E7)(at' by':Int):E7:=if l=[] then [] else chg l at' by'
theorem xD (v:Nat) {vI:Int} (hv:vI=(v:Int)) (w:World)(hv9:v<=1000000000) :
  Calls Tryz.prog 28 #[Zz Zx vI] w (Cv (upC (v:Int)) (dnC (v:Int)) w):=by
 subst hv;have h1:=λ W=>gR ((v:Int)*7+1) 32 (show (32:Int)=((32:Nat):Int) from rfl) W Zo;have h2:=λ W=>gR ((v:Int)*7+2) 32 (show (32:Int)=((32:Nat):Int) from rfl) W Zo;have e1:rnd ((v:Int)*7+1) 32=upC (v:Int):=rfl;have e2:rnd ((v:Int)*7+2) 32=dnC (v:Int):=rfl;rw [e1] at h1;rw [e2] at h2;clear e1 e2;generalize upC (v:Int)=U at *;generalize dnC (v:Int)=D at *
 go_enter Tryz.func28,Tryz.ntmps28
 go_wp2_with fail;(with_reducible refine (h1 _).mono ?_);rintro e w1 ⟨a1,c1,rfl,hO1,hx1⟩;have hR:=(Blk.new w #[Zy none 0 0, Zy none 0 0] 55).extB hx1;have hE1:Ext w w1:=(FA _ _).trans hx1;go_wp2_with fail;(with_reducible refine (h2 _).mono ?_);rintro e w2 ⟨a2,c2,rfl,hO2,hx2⟩;have hR:=hR.extB hx2;have hE2:=hE1.trans hx2;have s1:=(hO1.ext hx2).sl;have s2:=hO2.sl;haveI:=hR.blt;clear h1 h2
 go_wp2_with (first
  | (refine aa RP2 rfl _ _ rfl w.heap.size 0 rfl _ rfl 55 _ hR rfl Zs oC ?_;intro w9 hB9 hM9)
  | fail)
 refine aaa (aL Tryz.results28 RP2 _ _ w.heap.size 0 _ rfl hB9.rd rfl) rfl ?_;exact ⟨_,_,_,_,rfl,s1.muts hR (no2 _ _ _ _ _ _) hM9,hO1.le.1,s2.muts hR (no2 _ _ _ _ _ _) hM9,hO2.le.1,E9 hE2 (hM9.below (aad _) hE2.size)⟩
def Ec (t:Nat) (R:Ring) (w:World)(e:Ending) (w':World):Prop:=∃ a n c,e = .returned (.agg #[Zy a n c])/\Ib w' a n R/\n<=c/\(1<=t->∃ B,w.heap.size<=B/\B<=w'.heap.size/\cf 50 w' B a n c R)/\Ext w w'
theorem vb (v t:Nat) {vI tI:Int} (hv:vI=(v:Int)) (ht':tI=(t:Int)) (w:World)(hv9:v<=1000000000) (ht:t<=50) :
  Calls Tryz.prog 19 #[Zz Zx vI, Zz Zx tI] w (Ec t (lG (v:Int) t) w):=by
 subst hv ht';obtain ⟨s,hs⟩:∃ s:Nat,s=v % 1000:=⟨_,rfl⟩;have hs2:s<=1000:=Zo;have HS:(v:Int) % 1000=(s:Int):=Zo;have hwi:=λ W=>eL (v:Int) 1000 W Zo Zo;rw [HS] at hwi;have hrn:=λ W=>gR (v:Int) 32 (show (32:Int)=((32:Nat):Int) from rfl) W Zo;have hl32:=bS (v:Int) (show 32<=32 from Zo);have hf:=λ t ht=>mR s (rnd (v:Int) 32) Zo t ht;have hst:=λ a c W H1 H2=>sZ (s:Int) a 32 c (rnd (v:Int) 32) W H1 H2;rw [wy Zo hl32] at hst;have hrg:lG (v:Int) t=kz (fW s (rnd (v:Int) 32)) t:=by unfold lG;rw [HS];rfl
 rw [hrg];obtain ⟨R0,hR0⟩:∃ R,fW s (rnd (v:Int) 32)=R:=⟨_,rfl⟩;rw [hR0] at hst hf ⊢;have hl0:=hf 0 Zo;clear hR0 hrg hl32 HS hs;generalize rnd (v:Int) 32=X at *
 go_enter Tryz.func19,Tryz.ntmps19
 go_wp2_with fail;(with_reducible refine (hwi _).mono ?_);rintro e w1 ⟨rfl,hxq⟩;obtain ⟨xq,rfl⟩:=hxq.out;clear hxq;go_wp2_with fail;(with_reducible refine (hrn _).mono ?_);rintro e w1 ⟨a1,c1,rfl,hO1,hx1⟩;have hx0:Ext w ((w.alloc (.cells #[Zy none 0 0] 26)).ext xq):=eX;have hB:Blk ((w.alloc (.cells #[Zy none 0 0] 26)).ext xq) w.heap.size 26 [Zy none 0 0]:=bK;have hE1:=hx0.trans hx1;have hB:=hB.extB hx1;go_wp2_with fail;(with_reducible refine (hst _ _ _ hO1.sl hO1.le.1).mono ?_);rintro e w2 ⟨a2,n2,c2,rfl,hI2,hc2,hx2⟩;have hE2:=hE1.trans hx2;have hB:=hB.extB hx2;have hlt:=hB.lt;clear hx1 hx2 hx0 hE1 hO1 hst hwi hrn
 go_wp2_with (first
  | (refine ag RR1 rfl rfl _ _ rfl rfl rfl rfl (by simp [Act.put]) _ rfl Zs rfl oC ?_;intro x hz _)
  | fail)
 obtain ⟨W,hW⟩:∃ W,W=w2.ext x:=⟨_,rfl⟩;have hxW:Ext w2 W:=by rw [hW];exact eX
 rw [<- hW] at hz ⊢;obtain ⟨g5,hg5⟩:∃ g,g=w2.heap.size:=⟨_,rfl⟩;rw [<- hg5] at hz hlt ⊢;have hRB:RB 26 (kz R0 0) a2 n2 c2 g5 W:=⟨hz,hI2.ext hxW,hc2⟩;have hB:=hB.extB hxW;have hE:=hE2.trans hxW;clear hW hxW hz hI2 hE2 hg5 hc2
 go_loopw [7] (λ v7 wr=>∃ (k:Nat) (a:E8)(n c:Nat),k<=t/\v7 = Zz Zx k/\RB 26 (kz R0 k) a n c g5 wr/\(1<=k->∃ B,w.heap.size<=B/\B<=wr.heap.size/\cf 50 wr B a n c (kz R0 k))/\Blk wr w.heap.size 26 [Zy none 0 0]/\Ext w wr) (λ v7 _=>t-(intOf v7).toNat)
 case atStart=>exact ⟨0,_,_,_,aak _,rfl,hRB,(λ h=>absurd h Zo),hB,hE⟩
 case round =>
  clear hRB hB hE;obtain ⟨k,a,n,c,hk,rfl,hRB,hOw,hB,hE⟩:=hrel;obtain ⟨f1,f2,f3,f4⟩:=hf k Zo;have hnl:=hRB.ib.len;by_cases hlt2:k<t
  ·have hki:(k:Int)<(t:Int):=by omega
   have hrot:=λ W H=>qh a n c (kz R0 k) W H hRB.le Zo;rw [f2] at hrot
   go_wp2_with (first
    | (refine af RR1 rfl _ rfl g5 0 rfl _ ((hRB.blk.rd)) rfl ?_)
    | fail)
   (with_reducible refine (hrot _ hRB.ib).mono ?_);rintro e w4 ⟨a4,n4,c4,B4,rfl,hB4w,hB4s,hO4,hx4⟩;have hI4:=hO4.ib.1;have hc4:=hO4.ib.2;have hszr:=hE.size;have hRB:=hRB.ext hx4;have hB:=hB.extB hx4;have hE:=hE.trans hx4
   go_wp2_with (first
    | (refine aa RR1 rfl _ _ rfl g5 0 rfl _ rfl 26 _ hRB.blk rfl Zs (by first|exact aH _|(simp;done)|(simp;(repeat' (first|rfl|constructor)))) ?_;intro w5 hB5 hM5)
    | fail)
   go_roundw
   case rel=>exact ⟨k+1,a4,n4,c4,Zo,Zg,⟨hB5,hI4.muts hRB.blk (no1 _ _ _) hM5,hc4⟩,(λ _=>⟨B4,aal hszr hB4w,aal hB4s hM5.size,hO4.mut hRB.blk Zd Zs hM5⟩),Blk.turn hM5 hB Zo,nL hE (FD _) hM5 Zo⟩
   case measure=>simp [intOf];omega
  ·obtain rfl:k=t:=by omega
   have hki:¬ (k:Int)<(k:Int):=Zo
   go_wp2_with (first
    | (refine af RR1 rfl _ rfl g5 0 rfl _ ((hRB.blk.rd)) rfl ?_)
    | (refine aa RR1 rfl _ _ rfl w.heap.size 0 rfl _ rfl 26 _ hB rfl Zs (by first|exact aH _|(simp;done)|(simp;(repeat' (first|rfl|constructor)))) ?_;intro w5 hB5 hM5)
    | fail)
   refine aaa (aL Tryz.results19 RR1 _ _ w.heap.size 0 _ rfl hB5.rd rfl) rfl ?_;exact ⟨_,_,_,rfl,hRB.ib.muts hB (no1 _ _ _) hM5,hRB.le,(λ h=>by
    obtain ⟨B,y1,y2,y3⟩:=hOw h;exact ⟨B,y1,aal y2 hM5.size,y3.mut hB Zd Zs hM5⟩),nL hE (FD _) hM5 (aad _)⟩
theorem mC (v t:Nat) {vI tI:Int} (hv:vI=(v:Int)) (ht':tI=(t:Int)) (w:World)(hv9:v<=1000000000) (ht:t<=50) :
  Calls Tryz.prog 19 #[Zz Zx vI, Zz Zx tI] w (RgP (lG (v:Int) t) w) :=
 (vb v t hv ht' w hv9 ht).mono λ _ _ ⟨a,n,c,h1,h2,h3,_,h4⟩=>⟨a,n,c,h1,h2,h3,h4⟩
theorem iw (a:E8)(n c:Nat) (o:Bool) (w:World) :
  Calls Tryz.prog 18 #[.agg #[Zy a n c], .bool o] w λ e w'=>e = .returned (.agg #[Zy a n c, Zz Zx 2, Zz Zx 1, Zz Zx 64, .bool o])/\Ext w w':=by
 have hB0:=(Blk.new w #[Zy a n c] 26).alloc (.cells #[Zy none 0 0, Zz Zx 0, Zz Zx 0, Zz Zx 0, .bool false] 30)
 go_enter Tryz.func18,Tryz.ntmps18
 go_wp2_with (first
  | (refine af RR1 rfl _ rfl w.heap.size 0 rfl _ hB0.rd rfl ?_)
  | (refine aa nJ rfl _ _ rfl (w.heap.size+1) 0 rfl _ rfl 30 _ ((Blk.newAt _ _ _ _ Zs)) rfl Zs oC ?_;intro w5 hB5 hM5)
  | fail)
 refine aaa (aL Tryz.results18 nJ _ _ (w.heap.size+1) 0 _ rfl hB5.rd rfl) rfl ?_;exact ⟨rfl,E9 (b:=(w.alloc (.cells #[Zy a n c] 26)).alloc (.cells #[Zy none 0 0, Zz Zx 0, Zz Zx 0, Zz Zx 0, .bool false] 30)) eX (hM5.below Zo (by simp;omega))⟩
theorem xn (a:E8)(n c:Nat) (l:E7)(at' by':Int) (w:World)(H:Sl w a n l) (hn2:n<=1000000) :
  Calls Tryz.prog 30 #[Zy a n c, Zz Zx at', Zz Zx by'] w (bZ n (flp l at' by') w):=by
 go_enter Tryz.func30,Tryz.ntmps30
 go_wp2_with fail;(with_reducible refine (aR _ _ _ _ _ (gV H _) Zo n (by simp [bP,H.len]) Zo).mono ?_);rintro e w1 ⟨a1,c1,rfl,hO1,hx1⟩;rw [bP] at hO1;have hE1:Ext w w1:=(FA _ _).trans hx1;have hO0:=hO1.mono (show w.heap.size<=_ from (FA w _).size);have hll:=H.len;by_cases hn:n=0
 ·subst hn;have hl0:=aaq hll;subst hl0;go_wp2_with fail;go_ret;exact ⟨_,_,rfl,hO0,hE1⟩
 have hn1:1<=n:=Zo;have hnI:(0:Int)<(n:Int):=Zo;have hlt:=aaQ at' (show (0:Int)<(n:Int) from Zo);have hge:=aa6 at' (show (n:Int)≠0 from Zo);obtain ⟨i,hi⟩:∃ i:Nat,at' % (n:Int)=(i:Int):=⟨(at' % (n:Int)).toNat,Zo⟩;have hin:i<n:=Zo;obtain ⟨bv,hbv⟩:∃ bv:Int,by' % 255=bv:=⟨_,rfl⟩;have hb0:0<=bv:=Zo;have hb1:bv<255:=Zo;have HC:=FC (show flp l at' by'=l.set i (l.getD i 0 ^^^ b8 (1+bv)) by
  unfold flp;rw [aae (by intro e;rw [e] at hll;simp at hll;omega)];unfold chg;rw [H.len,hi,hbv];rfl)
 have hwr:=FC (show 1+bv=n8 (b8 (1+bv)) by rw [lA];omega);clear hlt hge hn hll;obtain ⟨g,rfl,hg,hgb,hcell,hfr,hset⟩:=hO1.at i hin;have hw1:=FC (show ∀ W,Calls Tryz.prog 10 #[Zz Zx at', Zz Zx (n:Int)] W λ e w'=>e = .returned (Zz Zx (i:Int))/\Ext W w' from λ W=>by rw [<- hi];exact eL at' n W Zo Zo);have hw2:=FC (show ∀ W,Calls Tryz.prog 10 #[Zz Zx by', Zz Zx 255] W λ e w'=>e = .returned (Zz Zx bv)/\Ext W w' from λ W=>by rw [<- hbv];exact eL by' 255 W Zo Zo);clear hi hbv;have hin2:(i:Int)<(n:Int):=Zo;go_wp2_with fail;refine R2.ae 13 [[],[],[],[2],[1,2,3],[0,1,2,3,4],[0,1,2,3,4,5],[],[1,2,3,4,7],[1,2,3,4,7,8],[1,2,3,4,7,8,9],[0,1,2,3,4,5,6,7,8,9,10],[0,1,2,3,4,5,6,7,8,9,10,11],[0,1,2,3,4,5,6,7,8,9,10,11,12]] [] (λ h=>(h rfl).elim) Zk Zk Zk Zk Zk ?_;simp only [q8q,q9q,q10q,q11q,q12q,q13q];(repeat (refine R2.av ?_;(try simp only [Act.put,q0q,q1q,q2q])));(refine R2.ai (λ _ => Zz Zx (i:Int)) (λ _ _=>True) (λ _ _ _ _ _=>trivial) (λ us w' hx hf=>⟨rfl,?_⟩) ?_;(unfold gives;simp [go_sem,execOp];refine (hw1.out _).mono ?_;rintro e w1 ⟨rfl,hx1⟩;first|exact ⟨rfl,hx1⟩|simpa using hx1));(repeat (refine R2.av ?_;(try simp only [Act.put,q0q,q1q,q2q])));(refine R2.ai (λ _ => Zz Zx bv) (λ _ _=>True) (λ _ _ _ _ _=>trivial) (λ us w' hx hf=>⟨rfl,?_⟩) ?_;(unfold gives;simp [go_sem,execOp];refine (hw2.out _).mono ?_;rintro e w1 ⟨rfl,hx1⟩;first|exact ⟨rfl,hx1⟩|simpa using hx1));(repeat (refine R2.av ?_;(try simp only [Act.put,q0q,q1q,q2q])));(refine R2.aU ?_;intro us x hx hf);go_wp2;go_ret;have hv:bits .xor .u8 (n8 (l[i]?.getD 0)) (1+bv)=n8 (l.getD i 0 ^^^ b8 (1+bv)):=by
  rw [hwr.out,Go.Sec.u8_xor,<- hwr.out];simp
 rw [hv];have hgw:w.heap.size<=g:=by simp at hg;omega
 refine ⟨_,_,rfl,?_,Ext.setCell (Ext.ext hE1 _) hgw _⟩;rw [HC.out];obtain ⟨g',he,_,_,_,_,hs⟩:=(hO1.ext (FE _ x)).at i hin;injection he with he
 injection he with he
 subst he;exact (hs _).mono Zs
end Go.Proofs.P9
