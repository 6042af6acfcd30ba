/- Lemmas of this claim, several texts joined. -/
import Derived.Test.YtmdahnkcnagkjaaGreatZ4
import Derived.Test.YtmdahnkcnagkjaaGreatZ9
import Derived.Test.YtmdahnkcnagkjaaGreatZ26
import Derived.Test.YtmdahnkcnagkjaaGreatZ31
import Derived.Test.YtmdahnkcnagkjaaGreatZ32
import Derived.Test.YtmdahnkcnagkjaaGreatZ38
set_option maxRecDepth 100000
open List renaming setIfInBounds_toArray → q0q, set_cons_succ → q1q, set_cons_zero → q2q, mem_cons → q3q, not_mem_nil → q4q, nil_append → q5q, cons_append → q6q, mem_append → q7q, take_succ_cons → q8q, take_zero → q9q, drop_succ_cons → q10q, drop_zero → q11q, take_nil → q12q, drop_nil → q13q
set_option maxHeartbeats 8000000
set_option linter.unusedVariables false
set_option linter.unusedSimpArgs false
/- The walks of layer 19 of the document: Rotate. -/
namespace Go.Sec
open Go.RowKit
def tA (T:TypeId)(id:Int) (l:List UInt8)(w:World)(a:Option Addr):Prop:=∃ g ga n cc,a=some ⟨g,0,none⟩∧Rd w a [.int .i64 id, .slice ga n cc]∧Sl w ga n l∧n≤cc∧∀ base,InT T w base ga n
theorem tA.ext {T:TypeId} {id:Int} {l:List UInt8} {w w':World} {a:Option Addr} (h:tA T id l w a) (hx:Ext w w'):tA T id l w' a:=by
 obtain ⟨g,ga,n,cc,h1,h2,h3,h4,h5⟩:=h
 exact ⟨g,ga,n,cc,h1,h2.ext hx,h3.ext hx,h4,fun b=>(h5 b).ext hx⟩
theorem tA.mk {T:TypeId} {id:Int} {l:List UInt8} {w:World} {ga:Option Addr} {n cc base:Nat} (h:Own w base ga n cc l) (hT:5≠T):tA T id l (w.alloc (.cells #[.int .i64 id, .slice ga n cc] T)) (some ⟨w.heap.size,0,none⟩) :=
 ⟨_,ga,n,cc,rfl,(Blk.new w #[.int .i64 id, .slice ga n cc] T).rd,h.sl.ext (Ext.of_alloc _ _),h.le.1,fun b=>(h.ext (Ext.of_alloc _ _)).inT hT⟩
end Go.Sec
namespace Go.Proofs.YtmdahnkcnagkjaaGreat
open Go.RowKit Go.Sec Go.Oct Go.Sha Go.Aes Go.Cook Go.Chan BigFrame
theorem qx (a:Option Addr)(n c:Nat) (r:Ring) (w:World)(hI:Ib w a n r) (hnc:n≤c) (hn:n≤1000000) :
  Calls Tryz.prog 24 #[.agg #[.slice a n c]] w (mA (eN r) w):=by
 have hval:=fun W h=>lD a n c r W h hnc hn
 have hrl:=hI.len
 cases hv:aP r
 ·have e:eN r=([],3):=by unfold eN;rw [aam hv]
  rw [e]
  rw [hv] at hval
  go_enter Tryz.func24,Tryz.ntmps24
  go_wp2_with (first
   | (go_at_call 59;refine (hval _ (hI.ext eX)).mono ?_;rintro e w1 ⟨rfl,hxq⟩;obtain ⟨xq,rfl⟩:=hxq.out;clear hxq)
   | fail)
  refine aac (v := .tuple #[.agg #[.slice none 0 0], .int .i64 3]) (by simp [results,Tryz.results24,go_sem]) rfl ?_
  exact mA.err _ _ _ eX
 ·rw [hv] at hval
  obtain ⟨v1,v2,v3,v4⟩:=br.1 hv
  obtain ⟨x0,hx0⟩:∃ x,r[0]?=some x:=⟨_,List.getElem?_eq_getElem (by omega)⟩
  have hhd:hd r=x0:=by unfold hd;rw [List.getD_eq_getElem?_getD,hx0];rfl
  obtain ⟨x1,x2,x3⟩:=v1 x0 (List.mem_of_getElem? hx0)
  obtain ⟨id,ky⟩:=x0
  simp only at x1 x2 x3
  obtain ⟨K,hK⟩:∃ K,dY ky vc 32=K:=⟨_,rfl⟩
  have hrot:jV r=((id+1) % 4294967296,K) :: r.take 3:=by unfold jV;rw [hhd,hK]
  have hbits:=vm (id+1)
  obtain ⟨nid,hnid⟩:∃ i,(id+1) % 4294967296=i:=⟨_,rfl⟩
  rw [hnid] at hrot hbits
  obtain ⟨m,hm⟩:∃ m:Nat,m=min n 3:=⟨_,rfl⟩
  have hmn:m≤n:=by omega
  have hm3:m≤3:=by omega
  have htk:r.take 3=r.take m:=by
   by_cases h:n≤3
   ·rw [aaj (by omega),aaj (by omega)]
   ·rw [show m=3 by omega]
  rw [htk] at hrot
  obtain ⟨b,off,g,cg,rfl,hb,hc0,hc1,hSd,hcd⟩:=hI.at 0 (by omega) _ hx0
  simp only at hc0 hc1 hSd hcd
  rw [x3] at hc1 hSd hcd
  rw [Nat.zero_mul,abu] at hc0 hc1
  have hbad:(∃ q∈r.take m,q.1=nid)→eN r=([],7):=fun ⟨q,h1,h2⟩=>by
   unfold eN
   rw [aaf (by rw [hv];simp),aam (by rw [hhd,htk];simp only [hnid];exact aa3.2 ⟨q,h1,h2⟩)]
  have hgood:(∀ q∈r.take m,q.1≠nid)→eN r=((nid,K) :: r.take m,0):=fun h=>by
   unfold eN
   rw [aaf (by rw [hv];simp),aaf (by
    rw [hhd,htk];simp only [hnid]
    intro hm
    obtain ⟨q,h1,h2⟩:=aa3.1 hm
    exact h q h1 h2),hrot]
  have hbad:=Lib.hid hbad
  have hgood:=Lib.hid hgood
  have HM:=Lib.hid hm
  have hex:=fun W b' d H1 H2=>mT g b' 32 cg 12 d 32 (rfl:(32:Int)=((32:Nat):Int)) ky vc W H1 hcd (by omega) H2 (by decide) (by decide)
  rw [hK] at hex
  have hcv:=fun W=>Lib.run_convert_bytes_const (P:=Tryz.prog) W 33 5 #[.int .u8 115, .int .u8 101, .int .u8 99, .int .u8 116, .int .u8 105, .int .u8 109, .int .u8 101, .int .u8 32, .int .u8 110, .int .u8 101, .int .u8 120, .int .u8 116] 12 12 U.sl hu8
  clear hrot hK hhd htk hm
  haveI:=hb
  have hn0:0<n:=by omega
  go_enter Tryz.func24,Tryz.ntmps24
  go_wp2_with (first
   | (go_at_call 59;refine (hval _ (hI.ext eX)).mono ?_;rintro e w1 ⟨rfl,hxq⟩;obtain ⟨xq,rfl⟩:=hxq.out;clear hxq)
   | fail)
  generalize hX:((w.alloc (.cells #[.slice (some ⟨b,off,none⟩) n c] 26)).alloc (.cells #[.slice none 0 0] 26)).ext xq=X
  have hEX:Ext w X:=by rw [← hX];exact eX
  have hB1:Blk X w.heap.size 26 [.slice (some ⟨b,off,none⟩) n c]:=by rw [← hX];exact bK
  have hB2:Blk X (w.heap.size+1) 26 [.slice none 0 0]:=by rw [← hX];exact bK
  clear hX
  have hxa:=Ext.of_alloc X (.cells #[.int .u8 115, .int .u8 101, .int .u8 99, .int .u8 116, .int .u8 105, .int .u8 109, .int .u8 101, .int .u8 32, .int .u8 110, .int .u8 101, .int .u8 120, .int .u8 116] 5 (12,13))
  (with_reducible refine (hex _ _ _ (hSd.ext (hEX.trans hxa)) (yI X 5 (12,13))).mono ?_)
  rintro e w1 ⟨b1,d1,rfl,hS1,hd1,hx1⟩
  have hx1:=hxa.trans hx1
  have hE1:=hEX.trans hx1
  have hB1:=hB1.extB hx1
  have hB2:=hB2.extB hx1
  have hlt2:=hB2.lt
  have hc0:=(hE1.cell (p:=⟨b,_,none⟩) hb.lt).trans hc0
  haveI:BlkLt b w1:=⟨aak hb.lt hE1.size⟩
  haveI:=hB1.blt
  haveI:=hB2.blt
  have f0:=hB1.cell? 0 rfl
  clear hxa hx1 hEX hex hcv
  have hO0:cF 50 (w1.alloc (.cells #[.int .i64 nid, .slice b1 32 d1] 50)) w1.heap.size (some ⟨w1.heap.size,0,none⟩) 1 1 [(nid,K)]:=cF.new hS1 hd1 (aag _) (hS1.inT _)
  go_wp2_with (first
   | (refine ai (RR1) rfl rfl _ _ rfl rfl rfl rfl (by simp [Act.put]) _ rfl (by simp) (rfl) (oC) ?_;intro x hz _)
   | fail)
  obtain ⟨W,hW⟩:∃ W,W=(w1.alloc (.cells #[.int .i64 nid, .slice b1 32 d1] 50)).ext x:=⟨_,rfl⟩
  have hxW:Ext w1 W:=by rw [hW];exact eX
  have hO0:cF 50 W w1.heap.size (some ⟨w1.heap.size,0,none⟩) 1 1 [(nid,K)]:=by rw [hW];exact hO0.ext (Ext.of_ext _ _)
  rw [← hW] at hz ⊢
  rw [aa8] at hz
  clear hW f0
  have hBW:=hxW.size
  have hEW:=hE1.trans hxW
  have hB1:=hB1.extB hxW
  have hB2:=hB2.extB hxW
  obtain ⟨B,hBe⟩:∃ B,B=w1.heap.size:=⟨_,rfl⟩
  rw [← hBe] at hO0 hz hBW hlt2 ⊢
  clear hBe hc0 hxW hE1 hS1 hd1
  go_loopw [7] (fun v7 wr=>∃ (k:Nat) (sa:Option Addr)(sc:Nat),k≤m∧v7 = .int .i64 k∧Hid (∀ q∈r.take k,q.1≠nid)∧cF 50 wr B sa (k+1) sc ((nid,K) :: r.take k)∧Blk wr (B+1) 26 [.slice sa (k+1) sc]∧B≤wr.heap.size∧Blk wr w.heap.size 26 [.slice (some ⟨b,off,none⟩) n c]∧Blk wr (w.heap.size+1) 26 [.slice none 0 0]∧Ext w wr)
   (fun v7 _=>m-(intOf v7).toNat)
  case atStart=>exact ⟨0,some ⟨B,0,none⟩,1,aan _,rfl,Lib.hid (by simp),by rw [q9q];exact hO0,hz,hBW,hB1,hB2,hEW⟩
  case round =>
   clear hO0 hz hBW hB1 hB2 hEW
   obtain ⟨k,sa,sc,hk,rfl,hno,hO,hB6,hBx,hB1,hB2,hE⟩:=hrel
   haveI:=hB1.blt
   haveI:=hB2.blt
   haveI:=hB6.blt
   have f1:=hB1.cell? 0 rfl
   have f6:=hB6.cell? 0 rfl
   have hk0:(0:Int)≤(k:Int):=by omega
   by_cases hlt:k<m
   ·have hkn:(k:Int)<(n:Int):=by omega
    have hk3:(k:Int)<3:=by omega
    obtain ⟨xk,hxk⟩:∃ x,r[k]?=some x:=⟨_,List.getElem?_eq_getElem (by omega)⟩
    have hts:=ir hxk
    obtain ⟨_,_,y3⟩:=v1 xk (List.mem_of_getElem? hxk)
    have hmem:xk∈r.take m:=by
     obtain ⟨h1,h2⟩:=List.getElem?_eq_some_iff.1 hxk
     exact List.mem_take_iff_getElem.2 ⟨k,by omega,h2⟩
    obtain ⟨idk,kk⟩:=xk
    obtain ⟨b',off',gk,ck,hbe,hbk,d0,d1,hSk,hck⟩:=(hI.ext hE).at k (by omega) _ hxk
    injection hbe with hbe
    injection hbe with hbe1 hbe2
    subst hbe1 hbe2
    simp only at d0 d1 hSk hck y3
    rw [y3] at d1 hSk hck
    haveI:=hbk
    obtain ⟨hIb,hsc⟩:=hO.ib
    obtain ⟨b2,off2,g2,cg2,rfl,hb2,e0,_,_,_⟩:=hIb.at 0 (by omega) (nid,K) rfl
    simp only at e0
    rw [Nat.zero_mul,abu] at e0
    haveI:=hb2
    have hk1:0<k+1:=by omega
    by_cases hid:idk=nid
    ·have he:=Lib.hid (hbad.out ⟨_,hmem,hid⟩)
     have hdd:(idk == nid)=true:=by simpa using hid
     clear hid
     go_wp2_with fail
     refine ae 12 [[],[0],[],[0,1,2],[0,1,2,3],[0,1,2,3,4],[],[6],[6,7],[6,7,8],[6,7,8,9],[0,1,2,3,4,5,6,7,8,9,10]] (by kernel_rfl) (by kernel_rfl) (by kernel_rfl) (by kernel_rfl) ?_;simp only [q8q,q9q,q10q,q11q,q12q,q13q]
     (repeat (refine aA ?_;(try simp only [Act.put,q0q,q1q,q2q])))
     (refine aT ?_;intro us x hx hf;(try simp only [Act.put,q0q,q1q,q2q,ag]);(try simp only [q3q,q4q,aao,aaa,aal,q5q,q6q,q7q,aap,aaq,aar] at hf);(try simp only [Nat.reduceAdd,aad] at hf ⊢))
     go_wp2_with (first
      | (refine aa (RR1) rfl _ _ rfl (w.heap.size+1) (0) rfl _ rfl (26) _ ((hB2.extB eX)) (rfl) (by simp) (by first|exact aK _|(simp;done)|(simp;(repeat' (first|rfl|constructor)))) ?_;intro w9 hB9 hM9)
      | fail)
     refine aac (ao Tryz.results24 (RR1) _ _ (w.heap.size+1) (0) _ rfl (hB9.rd) (rfl) (.int .i64 7) rfl) rfl ?_
     rw [he.out]
     exact ⟨none,0,0,rfl,Ib.nil _ _,aag _,sW hE eX hM9 (by omega)⟩
    ·have hdd:(idk == nid)=false:=by simpa using hid
     have hno2:=Lib.hid (show ∀ q∈r.take (k+1),q.1≠nid by
      rw [hts]
      intro q hq
      rcases aba.1 hq with h|h
      ·exact hno.out q h
      ·rw [aaB.1 h];exact hid)
     clear hid
     go_wp2_with fail
     refine ae 12 [[],[0],[],[0,1,2],[0,1,2,3],[0,1,2,3,4],[],[6],[6,7],[6,7,8],[6,7,8,9],[0,1,2,3,4,5,6,7,8,9,10]] (by kernel_rfl) (by kernel_rfl) (by kernel_rfl) (by kernel_rfl) ?_;simp only [q8q,q9q,q10q,q11q,q12q,q13q]
     (repeat (refine aA ?_;(try simp only [Act.put,q0q,q1q,q2q])))
     (refine aT ?_;intro us x hx hf;(try simp only [Act.put,q0q,q1q,q2q,ag]);(try simp only [q3q,q4q,aao,aaa,aal,q5q,q6q,q7q,aap,aaq,aar] at hf);(try simp only [Nat.reduceAdd,aad] at hf ⊢))
     go_wp2_with fail
     refine dg ?_
     intro W3 hW3
     have hE3:Ext wr W3:=by rw [hW3];exact eX
     clear hW3
     have hO3:=hO.ext hE3
     have hB6:=hB6.extB hE3
     have hB1:=hB1.extB hE3
     have hB2:=hB2.extB hE3
     have hSk:=hSk.ext hE3
     have d0:=(hE3.cell (p:=⟨b,_,none⟩) hbk.lt).trans d0
     have d1:=(hE3.cell (p:=⟨b,_,none⟩) hbk.lt).trans d1
     have hE3w:=hE.trans hE3
     have hBx:=aau hBx hE3.size
     haveI:BlkLt b W3:=⟨aak hbk.lt hE3.size⟩
     haveI:=hB1.blt
     haveI:=hB6.blt
     have f1:=hB1.cell? 0 rfl
     have f6:=hB6.cell? 0 rfl
     clear hE hE3 e0 hIb hO hdd
     refine ae 18 [[],[0],[],[2],[],[2,3,4],[2,3,4,5],[2,3,4,5,6],[],[8],[],[8,9,10],[8,9,10,11],[8,9,10,11,12],[8,9,10,11,12,13],[8,9,10,11,12,13,14],[2,3,4,5,6,7,8,9,10,11,12,13,14,15],[2,3,4,5,6,7,8,9,10,11,12,13,14,15,16],[0,1,2,3,4,5,6,7,8,9,10,11,12,13,14,15,16,17],[0,1,2,3,4,5,6,7,8,9,10,11,12,13,14,15,16,17,18],[0,1,2,3,4,5,6,7,8,9,10,11,12,13,14,15,16,17,18,19]] (by kernel_rfl) (by kernel_rfl) (by kernel_rfl) (by kernel_rfl) ?_;simp only [q8q,q9q,q10q,q11q,q12q,q13q]
     (repeat (refine aA ?_;(try simp only [Act.put,q0q,q1q,q2q])))
     (refine aj (fun p => .slice (p 0).1 (1) (1)) (fun p w''=>Bss w'' (p 0).1 (1) ([kk])) (fun p w w' h hx=>h.ext hx) (fun us w' hx hf=>⟨rfl,?_⟩) ?_;(unfold gives;simp [go_sem,execOp];exact ⟨fun _=>(some ⟨w'.heap.size,0,none⟩,0),rfl,Ext.of_alloc _ _,ie (hSk.ext hx) _⟩))
     (refine aj (fun p => .slice (p 0).1 (32) (p 0).2) (fun p w''=>Own w'' 0 (p 0).1 (32) (p 0).2 (kk)) (fun p w w' h hx=>h.ext hx) (fun us w' hx hf=>⟨rfl,?_⟩) ?_;(unfold gives;simp [go_sem,execOp];exact az (aan _) ((by have:=bf _ 1 1 [kk] w' (by exact (hf _ (aae _ (aab _)) rfl)) (by omega) 32 (by rw [cC];exact y3) (by omega);rw [cC] at this;exact this))))
     (repeat (refine aA ?_;(try simp only [Act.put,q0q,q1q,q2q])))
     (refine aj (fun p => .slice (p 0).1 1 1) (fun p w''=>tA 50 idk kk w'' (p 0).1) (fun p w w' h hx=>by first|exact h.ext hx|exact ⟨h.1.ext hx,h.2.ext hx⟩|exact ⟨h.1.ext hx,h.2⟩|exact ⟨h.1.ext hx,h.2.1.ext hx,h.2.2.ext hx⟩) (fun us w' hx hf=>⟨rfl,?_⟩) ?_;(unfold gives;simp [go_sem,execOp];exact ⟨fun _=>(some ⟨w'.heap.size,0,none⟩,0),rfl,Ext.of_alloc _ _,tA.mk (hf _ (aae _ (aab _)) rfl) (by decide)⟩))
     (refine aT ?_;intro us x hx hf;(try simp only [Act.put,q0q,q1q,q2q,ag]);(try simp only [q3q,q4q,aao,aaa,aal,q5q,q6q,q7q,aap,aaq,aar] at hf);(try simp only [Nat.reduceAdd,aad] at hf ⊢))
     obtain ⟨_,_,hN⟩:=hf
     obtain ⟨aN,haN⟩:∃ a,(us 17 0).1=a:=⟨_,rfl⟩
     rw [haN] at hN ⊢
     clear haN
     obtain ⟨gn,ga,nn,cc,rfl,hR,hS,hcc,hIn⟩:=hN
     have hxx:Ext W3 (W3.ext x):=Ext.of_ext _ _
     have hOx:=hO3.ext hxx
     have hB6x:=hB6.extB hxx
     have hB2x:=hB2.extB hxx
     have hB1x:=hB1.extB hxx
     have hEx:=hE3w.trans hxx
     have hBxx:=aau hBx hxx.size
     clear hO3 hB6 hB2 hB1 hE3w hBx hxx f1 f6 d0 d1
     refine eA VM rfl _ _ rfl B _ (k+1) sc _ rfl gn 1 idk ga nn cc kk rfl hOx hR hS hcc (hIn B) (by omega) hBxx ?_
     intro sa' sc' w6 hO6 hg6 hb6
     have hB66:=hB6x.grown hg6 (hOx.blk hB6x (by decide))
     have hB26:=hB2x.grown hg6 (hOx.blk hB2x (by decide))
     have hB16:=hB1x.grown hg6 (hOx.blk hB1x (by decide))
     haveI:=hB66.blt
     have q0:=hB66.cell? 0 rfl
     have q1:=hB66.free 0
     have hE6:Ext w w6:=Below.trans hEx (hb6.mono (by omega))
     have hB6s:=aau hBxx hb6.size
     go_wp2
     have hset:=hB66.set 0 (.slice sa' (k+1+1) sc')
     have hM:Mut (B+1) w6 (w6.setCell ⟨B+1,0,none⟩ (.slice sa' (k+1+1) sc')):=(Mut.refl _ _).setCell 0 _
     go_roundw
     case rel=>exact ⟨k+1,sa',sc',by omega,by go_num,hno2,by rw [hts,← q6q];exact hO6.mut hB66 (by decide) (by simp) hM,hset,aau hB6s hM.size,Blk.turn hM hB16 (by omega),Blk.turn hM hB26 (by omega),Below.trans hE6 (hM.below (by omega) hE6.size)⟩
     case measure=>simp [intOf];omega
   ·obtain rfl:k=m:=by omega
    have he:=Lib.hid (hgood.out hno.out)
    obtain ⟨hIb,hsc⟩:=hO.ib
    by_cases hn3:n≤3
    ·have hkn:¬ (k:Int)<(n:Int):=by have:=HM.out;omega
     go_wp2_with (first
      | (refine af (RR1) rfl _ rfl (B+1) (0) rfl _ (((hB6.extB eX).rd)) (rfl) ?_)
      | (refine aa (RR1) rfl _ _ rfl (w.heap.size+1) (0) rfl _ rfl (26) _ ((hB2.extB eX)) (rfl) (by simp) (by first|exact aK _|(simp;done)|(simp;(repeat' (first|rfl|constructor)))) ?_;intro w9 hB9 hM9)
      | fail)
     refine aac (ao Tryz.results24 (RR1) _ _ (w.heap.size+1) (0) _ rfl (hB9.rd) (rfl) (.int .i64 0) rfl) rfl ?_
     rw [he.out]
     exact ⟨_,_,_,rfl,(hIb.ext eX).mut (hO.off (by omega)) (hB2.extB eX) (by simp) hM9,hsc,sW hE eX hM9 (by omega)⟩
    ·have hkn:(k:Int)<(n:Int):=by have:=HM.out;omega
     have hk3:¬ (k:Int)<3:=by have:=HM.out;omega
     go_wp2_with (first
      | (refine af (RR1) rfl _ rfl (B+1) (0) rfl _ (((hB6.extB eX).rd)) (rfl) ?_)
      | (refine aa (RR1) rfl _ _ rfl (w.heap.size+1) (0) rfl _ rfl (26) _ ((hB2.extB eX)) (rfl) (by simp) (by first|exact aK _|(simp;done)|(simp;(repeat' (first|rfl|constructor)))) ?_;intro w9 hB9 hM9)
      | fail)
     refine aac (ao Tryz.results24 (RR1) _ _ (w.heap.size+1) (0) _ rfl (hB9.rd) (rfl) (.int .i64 0) rfl) rfl ?_
     rw [he.out]
     exact ⟨_,_,_,rfl,(hIb.ext eX).mut (hO.off (by omega)) (hB2.extB eX) (by simp) hM9,hsc,sW hE eX hM9 (by omega)⟩
end Go.Proofs.YtmdahnkcnagkjaaGreat

/- The walks of layer 19 of the document: Open. -/
namespace Go.Sec
open Go.RowKit Go.Sec.R4
end Go.Sec
namespace Go.Proofs.YtmdahnkcnagkjaaGreat
open Go.RowKit Go.Sec Go.Oct Go.Sha Go.Aes Go.Cook Go.Chan BigFrame
end Go.Proofs.YtmdahnkcnagkjaaGreat

/- Layer 19: what the laws share: rings in boxes, SameRing, SamePair, Pair, Ring. -/
namespace Go.Sec
open Go.RowKit
theorem Ib.muts {w w':World} {a:Option Addr} {n g:Nat} {T:TypeId} {vs:List Value} {L:List (Int × List UInt8)} (h:Ib w a n L) (hB:Blk w g T vs) (hne:∀ v∈vs,(∀ x,v ≠ .int .u8 x)∧∀ x,v ≠ .int .i64 x) (hM:Mut g w w'):Ib w' a n L:=by
 by_cases h0:n=0
 ·subst h0
  have:=aav h.len
  subst this
  exact Ib.nil _ _
 ·refine h.mut (fun b o e hbg=>?_) hB (fun v hv=>(hne v hv).1) hM
  subst e hbg
  rcases h.row with hh|⟨b',off,ha,hb,hc⟩
  ·exact h0 hh
  ·injection ha with ha
   injection ha with e1 e2
   subst e1 e2
   obtain ⟨_,_,h1,_⟩:=hc 0 (by rw [h.len];omega)
   rw [cell_of_row w _ _ _ T (0,0) hB] at h1
   exact (hne _ (List.mem_of_getElem? (by simpa using h1))).2 _ rfl
theorem no1 (a:Option Addr)(n c:Nat):∀ v∈[Value.slice a n c],(∀ x,v ≠ .int .u8 x)∧∀ x,v ≠ .int .i64 x:=by simp
theorem no2 (a b:Option Addr)(n c m d:Nat):∀ v∈[Value.slice a n c,Value.slice b m d],(∀ x,v ≠ .int .u8 x)∧∀ x,v ≠ .int .i64 x:=by simp
structure RB (T:TypeId)(r:List (Int × List UInt8)) (a:Option Addr)(n c g:Nat) (w:World):Prop where
 blk:Blk w g T [.slice a n c]
 ib:Ib w a n r
 le:n≤c
theorem RB.ext {T:TypeId} {r:List (Int × List UInt8)} {a:Option Addr} {n c g:Nat} {w w':World} (h:RB T r a n c g w) (hx:Ext w w'):RB T r a n c g w':=⟨h.blk.extB hx,h.ib.ext hx,h.le⟩
theorem Sl.muts {w w':World} {g n:Nat} {a:Option Addr} {l:List UInt8} {t:TypeId} {vs:List Value} (h:Sl w a n l) (hB:Blk w g t vs) (hne:∀ v∈vs,(∀ x,v ≠ .int .u8 x)∧∀ x,v ≠ .int .i64 x) (hM:Mut g w w'):Sl w' a n l:=h.mut hB (fun v hv=>(hne v hv).1) hM
end Go.Sec
namespace Go.Proofs.YtmdahnkcnagkjaaGreat
open Go.RowKit Go.Sec Go.Oct Go.Sha Go.Aes Go.Cook Go.Chan BigFrame
def upP (s:Nat):List UInt8:=(gy s 64).take 32
def dnP (s:Nat):List UInt8:=(gy s 64).drop 32
def Cw (u v:List UInt8)(w:World)(e:Ending) (w':World):Prop:=∃ a c b d,e = .returned (.agg #[.slice a 32 c, .slice b 32 d])∧Sl w' a 32 u∧32≤c∧Sl w' b 32 v∧32≤d∧Ext w w'
end Go.Proofs.YtmdahnkcnagkjaaGreat

/- Layer 19: the ring of the statements' kit, light. -/
namespace Go.Cook
open Go.Sha Go.Oct Go.Aes Go.Sec
theorem yc {r:Ring} {algo:Int} {up down nonce:List UInt8} (h:aP r=true) (h0:0≤algo) (h1:algo≤65535) (hu:up.length=32) (hd':down.length=32) (hn:nonce.length=16) :
  bV r algo up down nonce=(dk (hd r) algo up down nonce,0):=by
 unfold bV
 rw [aaf (by rw [h];simp),aaf (by omega),aaf (by omega),aaf (by omega)]
theorem mh (s:Nat) (key:List UInt8)(hs:s≤100000) (t:Nat) (ht:t≤100):aP (kq (fG s key) t)=true∧eN (kq (fG s key) t)=(kq (fG s key) (t+1),0)∧(kq (fG s key) t).length≤4∧1≤(kq (fG s key) t).length:=by
 have hh:(hd (fG s key)).1=s:=rfl
 obtain ⟨h1,h2⟩:=Cp (Cf s key (by omega)) t (by rw [hh];omega)
 obtain ⟨_,_,h3⟩:=h1.rot (by rw [h2,hh];omega)
 obtain ⟨_,_,h4,h5⟩:=br.1 h1.ok
 exact ⟨h1.ok,h3,h5,h4⟩
end Go.Cook
namespace Go.Proofs.YtmdahnkcnagkjaaGreat
open Go.RowKit Go.Sec Go.Oct Go.Sha Go.Aes Go.Cook Go.Chan BigFrame
def RgP (r:Ring) (w:World)(e:Ending) (w':World):Prop:=∃ a n c,e = .returned (.agg #[.slice a n c])∧Ib w' a n r∧n≤c∧Ext w w'
def C7 (r:Ring):Bool:=decide (r.length≤8) && r.all fun m=>decide (m.2.length≤60)
end Go.Proofs.YtmdahnkcnagkjaaGreat

/- The cases: Pair, Ring, Server, Flip. -/
namespace Go.Proofs.YtmdahnkcnagkjaaGreat
open Go.RowKit Go.Sec Go.Oct Go.Sha Go.Case Go.Cook Go.Tsrv BigFrame
def flp (l:List UInt8)(at' by':Int):List UInt8:=if l=[] then [] else chg l at' by'
theorem vQ (v:Nat) {vI:Int} (hv:vI=(v:Int)) (w:World)(hv9:v≤1000000000) :
  Calls Tryz.prog 28 #[.int .i64 vI] w (Cw (upC (v:Int)) (dnC (v:Int)) w):=by
 subst hv
 have h1:=fun W=>gi ((v:Int)*7+1) 32 (show (32:Int)=((32:Nat):Int) from rfl) W (by omega)
 have h2:=fun W=>gi ((v:Int)*7+2) 32 (show (32:Int)=((32:Nat):Int) from rfl) W (by omega)
 have e1:rnd ((v:Int)*7+1) 32=upC (v:Int):=rfl
 have e2:rnd ((v:Int)*7+2) 32=dnC (v:Int):=rfl
 rw [e1] at h1
 rw [e2] at h2
 clear e1 e2
 generalize upC (v:Int)=U at *
 generalize dnC (v:Int)=D at *
 go_enter Tryz.func28,Tryz.ntmps28
 go_wp2_with fail
 (with_reducible refine (h1 _).mono ?_);rintro e w1 ⟨a1,c1,rfl,hO1,hx1⟩
 have hR:=(Blk.new w #[.slice none 0 0, .slice none 0 0] 55).extB hx1
 have hE1:Ext w w1:=(Ext.of_alloc _ _).trans hx1
 go_wp2_with fail
 (with_reducible refine (h2 _).mono ?_);rintro e w2 ⟨a2,c2,rfl,hO2,hx2⟩
 have hR:=hR.extB hx2
 have hE2:=hE1.trans hx2
 have s1:=(hO1.ext hx2).sl
 have s2:=hO2.sl
 haveI:=hR.blt
 clear h1 h2
 go_wp2_with (first
  | (refine aa (RP2) rfl _ _ rfl (w.heap.size) (0) rfl _ rfl (55) _ (hR) (rfl) (by simp) (oC) ?_;intro w9 hB9 hM9)
  | fail)
 refine aac (aQ Tryz.results28 (RP2) _ _ (w.heap.size) (0) _ rfl (hB9.rd) (rfl)) rfl ?_
 exact ⟨_,_,_,_,rfl,s1.muts hR (no2 _ _ _ _ _ _) hM9,hO1.le.1,s2.muts hR (no2 _ _ _ _ _ _) hM9,hO2.le.1,Below.trans hE2 (hM9.below (aag _) hE2.size)⟩
theorem pY (v t:Nat) {vI tI:Int} (hv:vI=(v:Int)) (ht':tI=(t:Int)) (w:World)(hv9:v≤1000000000) (ht:t≤50) :
  Calls Tryz.prog 19 #[.int .i64 vI, .int .i64 tI] w (RgP (mO (v:Int) t) w):=by
 subst hv ht'
 obtain ⟨s,hs⟩:∃ s:Nat,s=v % 1000:=⟨_,rfl⟩
 have hs2:s≤1000:=by omega
 have HS:(v:Int) % 1000=(s:Int):=by omega
 have hwi:=fun W=>gG (v:Int) 1000 W (by omega) (by omega)
 rw [HS] at hwi
 have hrn:=fun W=>gi (v:Int) 32 (show (32:Int)=((32:Nat):Int) from rfl) W (by omega)
 have hl32:=cj (v:Int) (show 32≤32 by omega)
 have hf:=fun t ht=>mh s (rnd (v:Int) 32) (by omega) t ht
 have hst:=fun a c W H1 H2=>sm (s:Int) a 32 c (rnd (v:Int) 32) W H1 H2
 rw [vk (by omega) hl32] at hst
 have hrg:mO (v:Int) t=kq (fG s (rnd (v:Int) 32)) t:=by unfold mO;rw [HS];rfl
 rw [hrg]
 obtain ⟨R0,hR0⟩:∃ R,fG s (rnd (v:Int) 32)=R:=⟨_,rfl⟩
 rw [hR0] at hst hf ⊢
 have hl0:=hf 0 (by omega)
 clear hR0 hrg hl32 HS hs
 generalize rnd (v:Int) 32=X at *
 go_enter Tryz.func19,Tryz.ntmps19
 go_wp2_with fail;(with_reducible refine (hwi _).mono ?_);rintro e w1 ⟨rfl,hxq⟩;obtain ⟨xq,rfl⟩:=hxq.out;clear hxq
 go_wp2_with fail
 (with_reducible refine (hrn _).mono ?_)
 rintro e w1 ⟨a1,c1,rfl,hO1,hx1⟩
 have hx0:Ext w ((w.alloc (.cells #[.slice none 0 0] 26)).ext xq):=eX
 have hB:Blk ((w.alloc (.cells #[.slice none 0 0] 26)).ext xq) w.heap.size 26 [.slice none 0 0]:=bK
 have hE1:=hx0.trans hx1
 have hB:=hB.extB hx1
 go_wp2_with fail
 (with_reducible refine (hst _ _ _ hO1.sl hO1.le.1).mono ?_)
 rintro e w2 ⟨a2,n2,c2,rfl,hI2,hc2,hx2⟩
 have hE2:=hE1.trans hx2
 have hB:=hB.extB hx2
 have hlt:=hB.lt
 clear hx1 hx2 hx0 hE1 hO1 hst hwi hrn
 go_wp2_with (first
  | (refine ai (RR1) rfl rfl _ _ rfl rfl rfl rfl (by simp [Act.put]) _ rfl (by simp) (rfl) (oC) ?_;intro x hz _)
  | fail)
 obtain ⟨W,hW⟩:∃ W,W=w2.ext x:=⟨_,rfl⟩
 have hxW:Ext w2 W:=by rw [hW];exact eX
 rw [← hW] at hz ⊢
 obtain ⟨g5,hg5⟩:∃ g,g=w2.heap.size:=⟨_,rfl⟩
 rw [← hg5] at hz hlt ⊢
 have hRB:RB 26 (kq R0 0) a2 n2 c2 g5 W:=⟨hz,hI2.ext hxW,hc2⟩
 have hB:=hB.extB hxW
 have hE:=hE2.trans hxW
 clear hW hxW hz hI2 hE2 hg5 hc2
 go_loopw [7] (fun v7 wr=>∃ (k:Nat) (a:Option Addr)(n c:Nat),k≤t∧v7 = .int .i64 k∧RB 26 (kq R0 k) a n c g5 wr∧Blk wr w.heap.size 26 [.slice none 0 0]∧Ext w wr) (fun v7 _=>t-(intOf v7).toNat)
 case atStart=>exact ⟨0,_,_,_,aan _,rfl,hRB,hB,hE⟩
 case round =>
  clear hRB hB hE
  obtain ⟨k,a,n,c,hk,rfl,hRB,hB,hE⟩:=hrel
  obtain ⟨f1,f2,f3,f4⟩:=hf k (by omega)
  have hnl:=hRB.ib.len
  by_cases hlt2:k<t
  ·have hki:(k:Int)<(t:Int):=by omega
   have hrot:=fun W H=>qx a n c (kq R0 k) W H hRB.le (by omega)
   rw [f2] at hrot
   go_wp2_with (first
    | (refine af (RR1) rfl _ rfl (g5) (0) rfl _ ((hRB.blk.rd)) (rfl) ?_)
    | fail)
   (with_reducible refine (hrot _ hRB.ib).mono ?_)
   rintro e w4 ⟨a4,n4,c4,rfl,hI4,hc4,hx4⟩
   have hRB:=hRB.ext hx4
   have hB:=hB.extB hx4
   have hE:=hE.trans hx4
   go_wp2_with (first
    | (refine aa (RR1) rfl _ _ rfl (g5) (0) rfl _ rfl (26) _ (hRB.blk) (rfl) (by simp) (by first|exact aK _|(simp;done)|(simp;(repeat' (first|rfl|constructor)))) ?_;intro w5 hB5 hM5)
    | fail)
   go_roundw
   case rel=>exact ⟨k+1,a4,n4,c4,by omega,by go_num,⟨hB5,hI4.muts hRB.blk (no1 _ _ _) hM5,hc4⟩,Blk.turn hM5 hB (by omega),sW hE (Ext.refl _) hM5 (by omega)⟩
   case measure=>simp [intOf];omega
  ·obtain rfl:k=t:=by omega
   have hki:¬ (k:Int)<(k:Int):=by omega
   go_wp2_with (first
    | (refine af (RR1) rfl _ rfl (g5) (0) rfl _ ((hRB.blk.rd)) (rfl) ?_)
    | (refine aa (RR1) rfl _ _ rfl (w.heap.size) (0) rfl _ rfl (26) _ (hB) (rfl) (by simp) (by first|exact aK _|(simp;done)|(simp;(repeat' (first|rfl|constructor)))) ?_;intro w5 hB5 hM5)
    | fail)
   refine aac (aQ Tryz.results19 (RR1) _ _ (w.heap.size) (0) _ rfl (hB5.rd) (rfl)) rfl ?_
   exact ⟨_,_,_,rfl,hRB.ib.muts hB (no1 _ _ _) hM5,hRB.le,sW hE (Ext.refl _) hM5 (aag _)⟩
theorem mD (a:Option Addr)(n c:Nat) (o:Bool) (w:World) :
  Calls Tryz.prog 18 #[.agg #[.slice a n c], .bool o] w fun e w'=>e = .returned (.agg #[.slice a n c, .int .i64 2, .int .i64 1, .int .i64 64, .bool o])∧Ext w w':=by
 have hB0:=(Blk.new w #[.slice a n c] 26).alloc (.cells #[.slice none 0 0, .int .i64 0, .int .i64 0, .int .i64 0, .bool false] 30)
 go_enter Tryz.func18,Tryz.ntmps18
 go_wp2_with (first
  | (refine af (RR1) rfl _ rfl (w.heap.size) (0) rfl _ (hB0.rd) (rfl) ?_)
  | (refine aa (yH) rfl _ _ rfl (w.heap.size+1) (0) rfl _ rfl (30) _ ((Blk.newAt _ _ _ _ (by simp))) (rfl) (by simp) (oC) ?_;intro w5 hB5 hM5)
  | fail)
 refine aac (aQ Tryz.results18 (yH) _ _ (w.heap.size+1) (0) _ rfl (hB5.rd) (rfl)) rfl ?_
 exact ⟨rfl,Below.trans (b:=(w.alloc (.cells #[.slice a n c] 26)).alloc (.cells #[.slice none 0 0, .int .i64 0, .int .i64 0, .int .i64 0, .bool false] 30)) eX (hM5.below (by omega) (by simp;omega))⟩
end Go.Proofs.YtmdahnkcnagkjaaGreat
