/- Lemmas of this claim, several texts joined. -/
import Derived.Test.YtmdahnkcnagkjaaGreatY8
import Derived.Test.YtmdahnkcnagkjaaGreatY28
set_option maxRecDepth 100000
open Go.Value renaming int -> Zz,slice -> Zy
open Go.IntKind renaming i64 -> Zx
open List renaming setIfInBounds_toArray -> q0q, set_cons_succ -> q1q, set_cons_zero -> q2q, mem_cons -> q3q, not_mem_nil -> q4q, nil_append -> q5q, cons_append -> q6q, mem_append -> q7q, take_succ_cons -> q8q, take_zero -> q9q, drop_succ_cons -> q10q, drop_zero -> q11q, take_nil -> q12q, drop_nil -> q13q
open Go.IntWalk renaming i64_in -> q17q, rem_in -> q18q, wrap64_in -> q19q
set_option maxHeartbeats 8000000
set_option linter.unusedVariables false
set_option linter.unusedSimpArgs false
/- The walks of layer 22 of the document: in, Valid. -/
namespace Go.Proofs.YtmdahnkcnagkjaaGreat
open Go.RowKit Go.Sec Go.Oct Go.Jar BigFrame
theorem lI (a b:Option Addr)(n c m d:Nat) (L:List (List UInt8)) (k:List UInt8)(w:World)(h:Bsc w a n L) (hn:n<=1000000) (hk:Sl w b m k) :
  Calls Tryz.prog 103 #[Zy a n c, Zy b m d] w λ e w'=>e = .returned (.bool (decide (k∈L)))/\Ext w w':=by
 have hl:=h.len;obtain ⟨r,hr⟩:∃ r,decide (k∈L)=r:=⟨_,rfl⟩;rw [hr];replace hr:=Lib.hid hr
 go_enter Tryz.func103,Tryz.ntmps103
 go_wp2_with fail
 go_loopw [5] (λ v5 wr=>∃ i:Nat,i<=n/\v5 = Zz Zx i/\Hid (k ∉ L.take i)/\Ext w wr) (λ v5 _=>n-(intOf v5).toNat)
 case atStart=>exact ⟨0,Zo,rfl,Lib.hid Zs,Ext.refl _⟩
 case round =>
  obtain ⟨i,hi,rfl,hm,hx⟩:=hrel;by_cases hlt:i<n
  ·obtain ⟨b0,o0,a',n',c',rfl,hb0,hcell,hc',hS⟩:=(h.ext hx).at i hlt;have i0:(0:Int)<=(i:Int):=Zo;have i1:(i:Int)<(n:Int):=Zo;have hiL:i<L.length:=Zo;have hmem:L[i]∈L:=aaN hiL;have hts:L.take (i+1)=L.take i++[L[i]]:=aaA hiL;have hsm:=λ W H1 H2=>iP a' b n' c' m d (L[i]'hiL) k W H1 H2;generalize L[i]=X at *;haveI:=hb0;cases hb:(X == k)
   ·have hm2:=Lib.hid (show k ∉ L.take (i+1) by
     rw [hts,q7q,aaB];rintro (h1|h1)
     ·exact hm.out h1
     ·rw [h1] at hb;simp at hb)
    rw [hb] at hsm;clear hts hb hmem;go_wp2_with fail;(with_reducible refine (hsm _ hS (hk.ext hx)).mono ?_);rintro e w1 ⟨rfl,hx1⟩;go_wp2_with fail;go_roundw
    case rel=>exact ⟨i+1,Zo,Zg,hm2,hx.trans hx1⟩
    case measure=>simp [intOf];omega
   ·have er:=Lib.hid (show r=true by rw [<- hr.out];exact aaC (by rw [<- abd.1 hb];exact hmem));rw [hb] at hsm;clear hts hb hmem;go_wp2_with fail;(with_reducible refine (hsm _ hS (hk.ext hx)).mono ?_);rintro e w1 ⟨rfl,hx1⟩;go_wp2_with fail;go_ret;exact ⟨by rw [er.out];rfl,hx.trans hx1⟩
  ·obtain rfl:i=n:=by omega
   have i1:¬ (i:Int)<(i:Int):=Zo;have er:=Lib.hid (show r=false by rw [<- hr.out];exact aaH (by have:=hm.out;rwa [aak Zo] at this));go_wp2_with fail;go_ret;exact ⟨by rw [er.out];rfl,hx⟩
theorem _root_.z39q1{p:Prop}(h:p:=by
 have hm':=of_decide_eq_false hm;simp only [hm] at hhs;clear hm;by_cases m1:j.net<0
 ·have hv:=Lib.hid (hno (λ h=>by have:=h.2.2.2.2.1;omega));clear hr;clear hno hl1 hl2 hl4
  go_enter Tryz.func64,Tryz.ntmps64
  go_wp2_with (first
   | (go_at_call 103;refine (hhs _ (h3.ext eX) (h4.ext eX)).mono ?_;rintro e w1 ⟨rfl,hxq⟩;obtain ⟨xq,rfl⟩:=hxq.out;clear hxq)
   | fail)
  go_ret;exact ⟨by rw [hv.out];rfl,eX⟩
 ·by_cases m2:j.sent<0
  ·have hv:=Lib.hid (hno (λ h=>by have:=h.2.2.2.2.2.1;omega));clear hr;clear hno hl1 hl2 hl4
   go_enter Tryz.func64,Tryz.ntmps64
   go_wp2_with (first
    | (go_at_call 103;refine (hhs _ (h3.ext eX) (h4.ext eX)).mono ?_;rintro e w1 ⟨rfl,hxq⟩;obtain ⟨xq,rfl⟩:=hxq.out;clear hxq)
    | fail)
   go_ret;exact ⟨by rw [hv.out];rfl,eX⟩
  ·by_cases m3:1099511627776<j.sent
   ·have hv:=Lib.hid (hno (λ h=>by have:=h.2.2.2.2.2.2;omega));clear hr;clear hno hl1 hl2 hl4
    go_enter Tryz.func64,Tryz.ntmps64
    go_wp2_with (first
     | (go_at_call 103;refine (hhs _ (h3.ext eX) (h4.ext eX)).mono ?_;rintro e w1 ⟨rfl,hxq⟩;obtain ⟨xq,rfl⟩:=hxq.out;clear hxq)
     | fail)
    go_ret;exact ⟨by rw [hv.out];rfl,eX⟩
   ·have hh:jt j:=⟨hp',n8',hla,hm',Zo,Zo,Zo⟩;clear hp' hm' hno hl1 hl2 hl4 hla n8'
    go_enter Tryz.func64,Tryz.ntmps64
    go_wp2_with (first
     | (go_at_call 103;refine (hhs _ (h3.ext eX) (h4.ext eX)).mono ?_;rintro e w1 ⟨rfl,hxq⟩;obtain ⟨xq,rfl⟩:=hxq.out;clear hxq)
     | fail)
    refine df ?_;intro W hW;have hEW:Ext w W:=by rw [hW];exact eX
    have hB:Blk W w.heap.size 57 [Zy a1 n1 c1, Zy a2 n2 c2, Zy a3 n3 c3, Zy a4 n4 c4, Zz Zx j.net, Zz Zx j.sent]:=by rw [hW];exact bK
    clear hW hhs;have hr:=Lib.hid hr
    go_loopw [3] (λ v3 wr=>∃ k:Nat,k<=n3/\v3 = Zz Zx k/\Hid ((∀ b∈j.ck.take k,b.length=104)/\(j.ck.take k).Nodup)/\Ext W wr) (λ v3 _=>n3-(intOf v3).toNat)
    case atStart=>exact ⟨0,aam _,rfl,Lib.hid ⟨Zs,Zs⟩,Ext.refl _⟩
    case round =>
     obtain ⟨k,hk,rfl,hno,hX⟩:=hrel;have hB:=hB.extB hX;have hE:=hEW.trans hX;haveI:=hB.blt;have f2:wr.cell? ⟨w.heap.size,2,none⟩=some (Zy a3 n3 c3):=hB.cell? 2 rfl;by_cases hlt:k<n3
     ·have hk0:(0:Int)<=(k:Int):=by omega
      have hkn:(k:Int)<(n3:Int):=Zo;have hkc:(k:Int)<=(c3:Int):=Zo;have h3r:=h3.ext hE;have h3k:=h3r.take k Zo;obtain ⟨b0,o0,a',n',c',rfl,hb0,hcell,hc',hS⟩:=h3r.at k hlt;have hkL:k<j.ck.length:=Zo;have hts:=Lib.hid (show j.ck.take (k+1)=j.ck.take k++[j.ck[k]] from aaA hkL);have hbad:=Lib.hid (λ h=>hr.out.symm.trans (uz (j:=j) hkL h));generalize j.ck[k]=X at *;have hXl:=hS.len;haveI:=hb0;have ghs:=λ V H1 H2=>lI (some ⟨b0,o0,none⟩) a' k c3 n' c' (j.ck.take k) X V H1 Zo H2;by_cases q1:n'=104
      ·have q1i:((n':Int) != 104)=false:=by rw [aai];omega
       cases q2:decide (X∈j.ck.take k)
       ·have q2':=of_decide_eq_false q2;simp only [q2] at ghs;have hno2:=Lib.hid (show (∀ b∈j.ck.take (k+1),b.length=104)/\(j.ck.take (k+1)).Nodup by
         rw [hts.out];refine ⟨λ b hb=>?_,?_⟩
         ·rcases aa4.1 hb with h|h
          ·exact hno.out.1 b h
          ·rw [aaB.1 h];omega
         ·rw [List.nodup_append];refine ⟨hno.out.2,Zs,λ x hx y hy e=>?_⟩;rw [aaB.1 hy] at e;exact q2' (e ▸ hx))
        clear q2 q2' hXl hbad hts;replace q1:=Lib.hid q1;go_wp2_with fail;refine ae 19 [[],[0],[],[0,1,2],[0,1,2,3],[0,1,2,3,4],[0,1,2,3,4,5],[0,1,2,3,4,5,6],[0,1,2,3,4,5,6,7],[0,1,2,3,4,5,6,7,8],[0,1,2,3,4,5,6,7],[0,1,2,3,4,5,6,7,8,9,10],[0,1,2,3,4,5,6,7],[0,1,2,3,4,5,6,7,12],[0,1,2,3,4,5,6,7],[0,1,2,3,4,5,6,7,12,13,14],[0,1,2,3,4,5,6,7,12,13,14,15],[0,1,2,3,4,5,6,7,8,9,10,11,12,13,14,15,16],[0,1,2,3,4,5,6,7,8,9,10,11,12,13,14,15,16,17]] Zk Zk Zk Zk ?_;simp only [q8q,q9q,q10q,q11q,q12q,q13q];(repeat (apply aj;(case h=>(intro us w' hx hf;obtain ⟨x,rfl⟩:=hx.out;refine ⟨rfl,?_⟩;simp [go_sem,execOp, *];(try simp (disch:=omega) only [q17q,q18q,q19q]);rfl));(try simp only [Act.put,q0q,q1q,q2q])));(refine ao (λ _ => .bool false) (λ _ _=>True) (λ _ _ _ _ _=>trivial) (λ us w' hx hf=>⟨rfl,?_⟩) ?_;(unfold gives;simp [go_sem,execOp];refine (ghs _ (h3k.ext hx) (hS.ext hx)).mono ?_;rintro e w1 ⟨rfl,hx1⟩;first|exact ⟨rfl,hx1⟩|simpa using hx1));(repeat (apply aj;(case h=>(intro us w' hx hf;obtain ⟨x,rfl⟩:=hx.out;refine ⟨rfl,?_⟩;simp [go_sem,execOp, *];(try simp (disch:=omega) only [q17q,q18q,q19q]);rfl));(try simp only [Act.put,q0q,q1q,q2q])));(refine aB ?_;intro us w' hx hf;obtain ⟨x,rfl⟩:=hx.out;(try simp only [Act.put,q0q,q1q,q2q,ai]);(try simp only [q3q,q4q,aar,aac,aan,q5q,q6q,q7q,aat,aau,aav] at hf);(try simp only [Nat.reduceAdd,aag] at hf ⊢));have hxx:Ext wr (wr.ext x):=Ext.of_ext _ _;go_wp2_with fail;go_roundw
        case rel=>exact ⟨k+1,Zo,Zg,hno2,hX.trans hxx⟩
        case measure=>simp [intOf];omega
       ·have hv:=Lib.hid (hbad.out (.inr (aaV q2)));simp only [q2] at ghs;clear q2 hXl hbad hts;replace q1:=Lib.hid q1;go_wp2_with fail;refine ae 19 [[],[0],[],[0,1,2],[0,1,2,3],[0,1,2,3,4],[0,1,2,3,4,5],[0,1,2,3,4,5,6],[0,1,2,3,4,5,6,7],[0,1,2,3,4,5,6,7,8],[0,1,2,3,4,5,6,7],[0,1,2,3,4,5,6,7,8,9,10],[0,1,2,3,4,5,6,7],[0,1,2,3,4,5,6,7,12],[0,1,2,3,4,5,6,7],[0,1,2,3,4,5,6,7,12,13,14],[0,1,2,3,4,5,6,7,12,13,14,15],[0,1,2,3,4,5,6,7,8,9,10,11,12,13,14,15,16],[0,1,2,3,4,5,6,7,8,9,10,11,12,13,14,15,16,17]] Zk Zk Zk Zk ?_;simp only [q8q,q9q,q10q,q11q,q12q,q13q];(repeat (apply aj;(case h=>(intro us w' hx hf;obtain ⟨x,rfl⟩:=hx.out;refine ⟨rfl,?_⟩;simp [go_sem,execOp, *];(try simp (disch:=omega) only [q17q,q18q,q19q]);rfl));(try simp only [Act.put,q0q,q1q,q2q])));(refine ao (λ _ => .bool true) (λ _ _=>True) (λ _ _ _ _ _=>trivial) (λ us w' hx hf=>⟨rfl,?_⟩) ?_;(unfold gives;simp [go_sem,execOp];refine (ghs _ (h3k.ext hx) (hS.ext hx)).mono ?_;rintro e w1 ⟨rfl,hx1⟩;first|exact ⟨rfl,hx1⟩|simpa using hx1));(repeat (apply aj;(case h=>(intro us w' hx hf;obtain ⟨x,rfl⟩:=hx.out;refine ⟨rfl,?_⟩;simp [go_sem,execOp, *];(try simp (disch:=omega) only [q17q,q18q,q19q]);rfl));(try simp only [Act.put,q0q,q1q,q2q])));(refine aB ?_;intro us w' hx hf;obtain ⟨x,rfl⟩:=hx.out;(try simp only [Act.put,q0q,q1q,q2q,ai]);(try simp only [q3q,q4q,aar,aac,aan,q5q,q6q,q7q,aat,aau,aav] at hf);(try simp only [Nat.reduceAdd,aag] at hf ⊢));have hxx:Ext wr (wr.ext x):=Ext.of_ext _ _;go_wp2_with fail;go_ret;exact ⟨by rw [hv.out];rfl,hE.trans hxx⟩
      ·have hv:=Lib.hid (hbad.out (.inl Zo));have q1i:((n':Int) != 104)=true:=by rw [aax];omega
       clear q1 hXl hbad hts;go_wp2_with fail;refine ae 19 [[],[0],[],[0,1,2],[0,1,2,3],[0,1,2,3,4],[0,1,2,3,4,5],[0,1,2,3,4,5,6],[0,1,2,3,4,5,6,7],[0,1,2,3,4,5,6,7,8],[0,1,2,3,4,5,6,7],[0,1,2,3,4,5,6,7,8,9,10],[0,1,2,3,4,5,6,7],[0,1,2,3,4,5,6,7,12],[0,1,2,3,4,5,6,7],[0,1,2,3,4,5,6,7,12,13,14],[0,1,2,3,4,5,6,7,12,13,14,15],[0,1,2,3,4,5,6,7,8,9,10,11,12,13,14,15,16],[0,1,2,3,4,5,6,7,8,9,10,11,12,13,14,15,16,17]] Zk Zk Zk Zk ?_;simp only [q8q,q9q,q10q,q11q,q12q,q13q];(repeat (apply aj;(case h=>(intro us w' hx hf;obtain ⟨x,rfl⟩:=hx.out;refine ⟨rfl,?_⟩;simp [go_sem,execOp, *];(try simp (disch:=omega) only [q17q,q18q,q19q]);rfl));(try simp only [Act.put,q0q,q1q,q2q])));(repeat (refine eV (λ us=>rfl) ?_;(try simp only [Act.put,q0q,q1q,q2q])));(repeat (apply aj;(case h=>(intro us w' hx hf;obtain ⟨x,rfl⟩:=hx.out;refine ⟨rfl,?_⟩;simp [go_sem,execOp, *];(try simp (disch:=omega) only [q17q,q18q,q19q]);rfl));(try simp only [Act.put,q0q,q1q,q2q])));(refine aB ?_;intro us w' hx hf;obtain ⟨x,rfl⟩:=hx.out;(try simp only [Act.put,q0q,q1q,q2q,ai]);(try simp only [q3q,q4q,aar,aac,aan,q5q,q6q,q7q,aat,aau,aav] at hf);(try simp only [Nat.reduceAdd,aag] at hf ⊢));have hxx:Ext wr (wr.ext x):=Ext.of_ext _ _;go_wp2_with fail;go_ret;exact ⟨by rw [hv.out];rfl,hE.trans hxx⟩
     ·obtain rfl:k=n3:=by omega
      have hkn:¬ (k:Int)<(k:Int):=Zo;have hv:=Lib.hid (show r=true by
       have:=hno.out;rw [aak Zo] at this;exact hr.out.symm.trans (kY hh this.1 this.2))
      go_wp2_with fail;go_ret;exact ⟨by rw [hv.out];rfl,hE⟩):p:=h
theorem _root_.z39q18{p:Prop}(h:p:=by
 have hv:=Lib.hid (hno (λ h=>h.2.2.2.1 (aaV hm)));simp only [hm] at hhs;clear hm hr;clear hno hl1 hl2 hl4
 go_enter Tryz.func64,Tryz.ntmps64
 go_wp2_with (first
  | (go_at_call 103;refine (hhs _ (h3.ext eX) (h4.ext eX)).mono ?_;rintro e w1 ⟨rfl,hxq⟩;obtain ⟨xq,rfl⟩:=hxq.out;clear hxq)
  | fail)
 go_ret;exact ⟨by rw [hv.out];rfl,eX⟩):p:=h
theorem ig (a1 a2 a3 a4:Option Addr)(n1 c1 n2 c2 n3 c3 n4 c4:Nat) (j:Jar) (w:World)(h1:Sl w a1 n1 j.up) (h2:Sl w a2 n2 j.dn) (h3:Bsc w a3 n3 j.ck) (hc3:n3<=c3) (hn3:n3<=1000000) (h4:Sl w a4 n4 j.last) :
  Calls Tryz.prog 64 #[.agg #[Zy a1 n1 c1, Zy a2 n2 c2, Zy a3 n3 c3, Zy a4 n4 c4, Zz Zx j.net, Zz Zx j.sent]] w λ e w'=>e = .returned (.bool (bP j))/\Ext w w':=by
 have hhs:=λ W H1 H2=>lI a3 a4 n3 c3 n4 c4 j.ck j.last W H1 hn3 H2;have hl1:=h1.len;have hl2:=h2.len;have hl3:=h3.len;have hl4:=h4.len;obtain ⟨r,hr⟩:∃ r,bP j=r:=⟨_,rfl⟩;rw [hr];have hno:=λ h=>(hr.symm.trans (sF (j:=j) h));by_cases u1:n1=32
 ·have i1:((n1:Int) != 32)=false:=by rw [aai];omega
  by_cases u2:n2=32
  ·have i2:((n2:Int) != 32)=false:=by rw [aai];omega
   by_cases n8:8<n3
   ·have hv:=Lib.hid (hno (λ h=>by have:=h.2.1;omega));have i8:(8:Int)<(n3:Int):=Zo;clear hr;replace u1:=Lib.hid u1;replace u2:=Lib.hid u2;clear hno hl1 hl2 hl4
    go_enter Tryz.func64,Tryz.ntmps64
    go_wp2_with (first
     | (go_at_call 103;refine (hhs _ (h3.ext eX) (h4.ext eX)).mono ?_;rintro e w1 ⟨rfl,hxq⟩;obtain ⟨xq,rfl⟩:=hxq.out;clear hxq)
     | fail)
    go_ret;exact ⟨by rw [hv.out];rfl,eX⟩
   ·have i8:¬ (8:Int)<(n3:Int):=by omega
    have hp':j.up.length=32/\j.dn.length=32:=⟨Zo,Zo⟩;have n8':j.ck.length<=8:=Zo;replace u1:=Lib.hid u1;replace u2:=Lib.hid u2;by_cases z0:n4=0
    ·have i0:((n4:Int) != 0)=false:=by rw [aai];omega
     have hla:j.last.length=0\/j.last.length=104:=Zo;replace z0:=Lib.hid z0;cases hm:decide (j.last∈j.ck)
     ·exact z39q1
     ·exact z39q18
    ·have i0:((n4:Int) != 0)=true:=by rw [aax];omega
     by_cases z1:n4=104
     ·have i1a:((n4:Int) != 104)=false:=by rw [aai];omega
      have hla:j.last.length=0\/j.last.length=104:=Zo;replace z1:=Lib.hid z1;cases hm:decide (j.last∈j.ck)
      ·exact z39q1
      ·exact z39q18
     ·have i1a:((n4:Int) != 104)=true:=by rw [aax];omega
      have hv:=Lib.hid (hno (λ h=>by have:=h.2.2.1;omega));clear hr;clear hno hl1 hl2 hl4
      go_enter Tryz.func64,Tryz.ntmps64
      go_wp2_with (first
       | (go_at_call 103;refine (hhs _ (h3.ext eX) (h4.ext eX)).mono ?_;rintro e w1 ⟨rfl,hxq⟩;obtain ⟨xq,rfl⟩:=hxq.out;clear hxq)
       | fail)
      go_ret;exact ⟨by rw [hv.out];rfl,eX⟩
  ·have i2:((n2:Int) != 32)=true:=by rw [aax];omega
   have hv:=Lib.hid (hno (λ h=>by have:=h.1.2;omega));clear hr;replace u1:=Lib.hid u1;clear hno hl1 hl2 hl4
   go_enter Tryz.func64,Tryz.ntmps64
   go_wp2_with (first
    | (go_at_call 103;refine (hhs _ (h3.ext eX) (h4.ext eX)).mono ?_;rintro e w1 ⟨rfl,hxq⟩;obtain ⟨xq,rfl⟩:=hxq.out;clear hxq)
    | fail)
   go_ret;exact ⟨by rw [hv.out];rfl,eX⟩
 ·have i1:((n1:Int) != 32)=true:=by rw [aax];omega
  have hv:=Lib.hid (hno (λ h=>by have:=h.1.1;omega));clear hr;clear hno hl1 hl2 hl4
  go_enter Tryz.func64,Tryz.ntmps64
  go_wp2_with (first
   | (go_at_call 103;refine (hhs _ (h3.ext eX) (h4.ext eX)).mono ?_;rintro e w1 ⟨rfl,hxq⟩;obtain ⟨xq,rfl⟩:=hxq.out;clear hxq)
   | fail)
  go_ret;exact ⟨by rw [hv.out];rfl,eX⟩
end Go.Proofs.YtmdahnkcnagkjaaGreat
