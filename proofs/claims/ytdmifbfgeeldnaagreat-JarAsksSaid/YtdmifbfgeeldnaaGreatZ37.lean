/- Lemmas of this claim, several texts joined. -/
import Derived.Test.YtdmifbfgeeldnaaGreatZ4
import Derived.Test.YtdmifbfgeeldnaaGreatZ5
import Derived.Test.YtdmifbfgeeldnaaGreatZ14
import Derived.Test.YtdmifbfgeeldnaaGreatZ15
import Derived.Test.YtdmifbfgeeldnaaGreatZ28
import Derived.Test.YtdmifbfgeeldnaaGreatZ30
import Derived.Test.YtdmifbfgeeldnaaGreatZ33
import Derived.Test.YtdmifbfgeeldnaaGreatZ36
set_option maxRecDepth 100000
open List renaming setIfInBounds_toArray → q0q, set_cons_succ → q1q, set_cons_zero → q2q, mem_cons → q3q, not_mem_nil → q4q, nil_append → q5q, cons_append → q6q, mem_append → q7q, take_succ_cons → q8q, take_zero → q9q, drop_succ_cons → q10q, drop_zero → q11q, take_nil → q12q, drop_nil → q13q
set_option linter.unusedVariables false
set_option linter.unusedSimpArgs false
/- sectimeref01.SameFields. -/
namespace Go.Proofs.YtdmifbfgeeldnaaGreat
open Go.RowKit Go.Sec Go.Oct Go.Pkt BigFrame
set_option maxHeartbeats 4000000 in
theorem sameFields_any (a b:Option Addr)(n c m d:Nat) (L K:List Fld) (w:World)(h1:Ib w a n L) (h2:Ib w b m K) (hn:n≤1000000) :
  Calls Tryz.prog 57 #[.slice a n c, .slice b m d] w fun e w'=>e = .returned (.bool (decide (L=K)))∧Ext w w':=by
 have l1:=h1.len
 have l2:=h2.len
 obtain ⟨r,hr⟩:∃ r,decide (L=K)=r:=⟨_,rfl⟩
 rw [hr]
 have hyes:=fun h:L=K=>(show r=true by rw [← hr];exact decide_eq_true h)
 have hno:=fun h:L≠K=>(show r=false by rw [← hr];exact decide_eq_false h)
 clear hr
 by_cases hnm:n=m
 ·subst hnm
  go_enter Tryz.func57,Tryz.ntmps57
  go_wp2
  go_loopw [5] (fun v5 wr=>∃ k:Nat,k≤n∧v5 = .int .i64 k∧Hid (L.take k=K.take k)∧Ext w wr) (fun v5 _=>n-(intOf v5).toNat)
  case atStart=>exact ⟨0,Nat.zero_le _,rfl,Lib.hid rfl,eX⟩
  case round =>
   obtain ⟨k,hk,rfl,hE,hx⟩:=hrel
   by_cases hlt:k<n
   ·obtain ⟨fx,hxi⟩:∃ fx,L[k]?=some fx:=⟨_,List.getElem?_eq_getElem (by omega)⟩
    obtain ⟨fy,hyi⟩:∃ fy,K[k]?=some fy:=⟨_,List.getElem?_eq_getElem (by omega)⟩
    obtain ⟨b1,o1,g1,k1,rfl,hb1,hc1,hd1,hs1,hk1⟩:=(h1.ext hx).at k hlt _ hxi
    obtain ⟨b2,o2,g2,k2,rfl,hb2,hc2,hd2,hs2,hk2⟩:=(h2.ext hx).at k hlt _ hyi
    have hk0:(0:Int)≤(k:Int):=by omega
    have hk1:(k:Int)<(n:Int):=by omega
    have hts:fx=fy→L.take (k+1)=K.take (k+1):=fun h=>by
     obtain ⟨q1,e1⟩:=List.getElem?_eq_some_iff.1 hxi
     obtain ⟨q2,e2⟩:=List.getElem?_eq_some_iff.1 hyi
     rw [List.take_succ_eq_append_getElem q1,List.take_succ_eq_append_getElem q2,hE.out,e1,e2,h]
    have hdf:fx≠fy→L≠K:=fun h e=>by subst e;rw [hxi] at hyi;injection hyi with hyi;exact h hyi
    haveI:=hb1
    haveI:=hb2
    by_cases ht:fx.1=fy.1
    ·have it:(fx.1 != fy.1)=false:=by rw [ht];simp
     go_wp2_with fail
     refine wp_region_vague 25 [[],[],[0,1],[0,1,2],[0,1,2,3],[],[],[5,6],[5,6,7],[5,6,7,8],[0,1,2,3,4,5,6,7,8,9],[0,1,2,3,4,5,6,7,8,9,10],[0,1,2,3,4,5,6,7,8,9,10,11],[0,1,2,3,4,5,6,7,8,9,10,11],[0,1,2,3,4,5,6,7,8,9,10,11,12,13],[0,1,2,3,4,5,6,7,8,9,10,11,12,13,14],[0,1,2,3,4,5,6,7,8,9,10,11,12,13,14,15],[0,1,2,3,4,5,6,7,8,9,10,11],[0,1,2,3,4,5,6,7,8,9,10,11],[0,1,2,3,4,5,6,7,8,9,10,11,17,18],[0,1,2,3,4,5,6,7,8,9,10,11,17,18,19],[0,1,2,3,4,5,6,7,8,9,10,11,17,18,19,20],[0,1,2,3,4,5,6,7,8,9,10,11,12,13,14,15,16,17,18,19,20,21],[0,1,2,3,4,5,6,7,8,9,10,11,12,13,14,15,16,17,18,19,20,21,22],[0,1,2,3,4,5,6,7,8,9,10,11,12,13,14,15,16,17,18,19,20,21,22,23]] (by kernel_rfl) (by kernel_rfl) (by kernel_rfl) (by kernel_rfl) ?_;simp only [q8q,q9q,q10q,q11q,q12q,q13q]
     (repeat (refine VD_a ?_;(try simp only [Act.put,q0q,q1q,q2q])))
     (refine VD_vag (fun _ => .bool (fx.2 == fy.2)) (fun _ _=>True) (fun _ _ _ _ _=>trivial) (fun us w' hx hf=>⟨rfl,?_⟩) ?_;(unfold gives;simp [go_sem,execOp];refine (same_any _ _ _ _ _ _ _ _ _ (hs1.ext hx) (hs2.ext hx)).mono ?_;rintro e w1 ⟨rfl,hx1⟩;first|exact ⟨rfl,hx1⟩|simpa using hx1))
     (repeat (refine VD_a ?_;(try simp only [Act.put,q0q,q1q,q2q])))
     (refine VD_z ?_;intro us x hx hf;(try simp only [Act.put,q0q,q1q,q2q,wpList_none]);(try simp only [q3q,q4q,or_false,forall_eq_or_imp,forall_eq,q5q,q6q,q7q,false_or,true_and,and_true] at hf);(try simp only [Nat.reduceAdd,Nat.zero_add] at hf ⊢))
     cases hb:(fx.2 == fy.2)
     ·have er:=Lib.hid (hno (hdf fun h=>by rw [h] at hb;simp at hb))
      go_wp2
      go_ret
      exact ⟨by rw [er.out];rfl,eX⟩
     ·have hE2:=Lib.hid (hts (Prod.ext ht (beq_iff_eq.1 hb)))
      go_wp2
      go_roundw
      case rel=>exact ⟨k+1,by omega,by go_num,hE2,eX⟩
      case measure=>simp [intOf];omega
    ·have it:(fx.1 != fy.1)=true:=by rw [bne_iff_ne];exact ht
     have er:=Lib.hid (hno (hdf fun h=>ht (by rw [h])))
     go_wp2_with fail
     refine wp_region_vague 25 [[],[],[0,1],[0,1,2],[0,1,2,3],[],[],[5,6],[5,6,7],[5,6,7,8],[0,1,2,3,4,5,6,7,8,9],[0,1,2,3,4,5,6,7,8,9,10],[0,1,2,3,4,5,6,7,8,9,10,11],[0,1,2,3,4,5,6,7,8,9,10,11],[0,1,2,3,4,5,6,7,8,9,10,11,12,13],[0,1,2,3,4,5,6,7,8,9,10,11,12,13,14],[0,1,2,3,4,5,6,7,8,9,10,11,12,13,14,15],[0,1,2,3,4,5,6,7,8,9,10,11],[0,1,2,3,4,5,6,7,8,9,10,11],[0,1,2,3,4,5,6,7,8,9,10,11,17,18],[0,1,2,3,4,5,6,7,8,9,10,11,17,18,19],[0,1,2,3,4,5,6,7,8,9,10,11,17,18,19,20],[0,1,2,3,4,5,6,7,8,9,10,11,12,13,14,15,16,17,18,19,20,21],[0,1,2,3,4,5,6,7,8,9,10,11,12,13,14,15,16,17,18,19,20,21,22],[0,1,2,3,4,5,6,7,8,9,10,11,12,13,14,15,16,17,18,19,20,21,22,23]] (by kernel_rfl) (by kernel_rfl) (by kernel_rfl) (by kernel_rfl) ?_;simp only [q8q,q9q,q10q,q11q,q12q,q13q]
     (repeat (refine VD_a ?_;(try simp only [Act.put,q0q,q1q,q2q])))
     (repeat (refine VD_skip (fun us=>rfl) ?_;(try simp only [Act.put,q0q,q1q,q2q])))
     (repeat (refine VD_a ?_;(try simp only [Act.put,q0q,q1q,q2q])))
     (refine VD_z ?_;intro us x hx hf;(try simp only [Act.put,q0q,q1q,q2q,wpList_none]);(try simp only [q3q,q4q,or_false,forall_eq_or_imp,forall_eq,q5q,q6q,q7q,false_or,true_and,and_true] at hf);(try simp only [Nat.reduceAdd,Nat.zero_add] at hf ⊢))
     go_wp2
     go_ret
     exact ⟨by rw [er.out];rfl,eX⟩
   ·obtain rfl:k=n:=by omega
    have HE:=Lib.hid (hyes (by
     have:=hE.out
     rwa [List.take_of_length_le (by omega),List.take_of_length_le (by omega)] at this))
    clear hE
    go_wp2
    go_ret
    exact ⟨by rw [HE.out];rfl,hx⟩
 ·have HN:=Lib.hid (hno fun e=>hnm (by rw [← l1,← l2,e]))
  clear l1 l2
  go_enter Tryz.func57,Tryz.ntmps57
  go_wp2
  go_ret
  exact ⟨by rw [HN.out];rfl,Ext.refl _⟩
end Go.Proofs.YtdmifbfgeeldnaaGreat

/- sectimeref18.Same of equal packets. -/
namespace Go.Proofs.YtdmifbfgeeldnaaGreat
open Go.RowKit Go.Sec Go.Oct Go.Pkt BigFrame
set_option maxHeartbeats 1000000 in
theorem same18_any (h:Hdr) (a1 a2 b1 b2:Option Addr)(n1 c1 n2 c2 d1 d2:Nat) (A B:List Fld) (g:Bool) (w:World)(h1:Ib w a1 n1 A) (h2:Ib w b1 n1 A) (h3:Ib w a2 n2 B) (h4:Ib w b2 n2 B) (m1:n1≤1000000) (m2:n2≤1000000) :
  Calls Tryz.prog 17 #[.agg #[.int .i64 h.leap, .int .i64 h.ver, .int .i64 h.mode, .int .i64 h.strat, .int .i64 h.poll, .int .i64 h.prec, .int .u32 (n32 h.rd), .int .u32 (n32 h.rp), .int .u32 (n32 h.id), .int .u64 (n64 h.ref), .int .u64 (n64 h.org), .int .u64 (n64 h.rcv), .int .u64 (n64 h.tx), .slice a1 n1 c1, .slice a2 n2 c2, .bool g], .agg #[.int .i64 h.leap, .int .i64 h.ver, .int .i64 h.mode, .int .i64 h.strat, .int .i64 h.poll, .int .i64 h.prec, .int .u32 (n32 h.rd), .int .u32 (n32 h.rp), .int .u32 (n32 h.id), .int .u64 (n64 h.ref), .int .u64 (n64 h.org), .int .u64 (n64 h.rcv), .int .u64 (n64 h.tx), .slice b1 n1 d1, .slice b2 n2 d2, .bool g]] w fun e w'=>e = .returned (.bool true)∧Ext w w':=by
 have s1:=fun W H1 H2=>sameFields_any a1 b1 n1 c1 n1 d1 A A W H1 H2 m1
 have s2:=fun W H1 H2=>sameFields_any a2 b2 n2 c2 n2 d2 B B W H1 H2 m2
 rw [decide_eq_true rfl] at s1 s2
 go_enter Tryz.func17,Tryz.ntmps17
 go_wp2_with fail;(with_reducible refine (s1 _ (h1.ext eX) (h2.ext eX)).mono ?_);rintro e w1 ⟨rfl,hxq⟩;obtain ⟨xq,rfl⟩:=hxq.out;clear hxq
 go_wp2_with fail;(with_reducible refine (s2 _ (h3.ext eX) (h4.ext eX)).mono ?_);rintro e w1 ⟨rfl,hxq⟩;obtain ⟨xq,rfl⟩:=hxq.out;clear hxq
 go_wp2_with fail
 go_ret
 exact ⟨rfl,eX⟩
end Go.Proofs.YtdmifbfgeeldnaaGreat

/- sectimeworld.Padded, AllPadded. -/
namespace Go.Proofs.YtdmifbfgeeldnaaGreat
open Go.RowKit Go.Sec Go.Oct Go.Pkt BigFrame
def lenAt (w:World)(g:Nat):Nat:=match w.cell? ⟨g,1,none⟩ with|some (.slice _ m _)=>m|_=>0
end Go.Proofs.YtdmifbfgeeldnaaGreat

/- sectimeworld.AllPadded. -/
namespace Go.Proofs.YtdmifbfgeeldnaaGreat
open Go.RowKit Go.Sec Go.Oct Go.Pkt BigFrame
end Go.Proofs.YtdmifbfgeeldnaaGreat

/- Layer 18: the law ProtectOpens. -/
namespace Go.Pkt
open Go.Oct Go.Aes Go.Sec
def protY (K N:List UInt8)(t:UInt64) (A B:List (Int × List UInt8)):List UInt8:=hdrB (askH t)++bytesF (wflds A)++fldB (1028,guardB N (sealB K ⟨askH t,wflds A,wflds B,false⟩ N))
end Go.Pkt
namespace Go.Proofs.YtdmifbfgeeldnaaGreat
open Go.RowKit Go.Sec Go.Oct Go.Pkt Go.Aes Go.Sha BigFrame
end Go.Proofs.YtdmifbfgeeldnaaGreat

/- Layer 18: the law ProtectRefuses. -/
namespace Go.Pkt
open Go.Oct Go.Aes
theorem readE_small (b:List UInt8):(readE b).1.plain.length≤24∧(readE b).1.secret=[]∧(readE b).1.guarded=false:=by
 by_cases h1:(decH b).2=0
 ·by_cases h2:(decF (decH b).1.2).2=0
  ·rw [readE_ok h1 h2]
   exact ⟨(decF_ok h2).2.1,rfl,rfl⟩
  ·rw [readE_flds h1 h2];exact ⟨by simp [zeroP],rfl,rfl⟩
 ·rw [readE_head h1];exact ⟨by simp [zeroP],rfl,rfl⟩
theorem openP_small (ky b:List UInt8):(openP ky b).1.plain.length≤24∧(openP ky b).1.secret.length≤24:=by
 have hz:(zeroP.plain.length≤24)∧zeroP.secret.length≤24:=by simp [zeroP]
 unfold openP
 split
 ·exact hz
 ·split
  ·exact hz
  ·split
   ·exact hz
   ·split
    ·exact hz
    ·split
     ·exact hz
     ·split
      ·exact hz
      ·split
       ·exact hz
       ·rename_i h
        refine ⟨?_,(decF_ok (by simpa using h)).2.1⟩
        have:=(readE_small b).1
        simp only [List.length_take];omega
end Go.Pkt
namespace Go.Proofs.YtdmifbfgeeldnaaGreat
open Go.RowKit Go.Sec Go.Oct Go.Pkt Go.Aes Go.Sha BigFrame
end Go.Proofs.YtdmifbfgeeldnaaGreat
