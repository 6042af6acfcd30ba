/- Lemmas of this claim, several texts joined. -/
import Derived.Test.YtmdahnkcnagkjaaGreatZ29
set_option maxRecDepth 100000
open Go.Value renaming int -> Zz,slice -> Zy
open Go.IntKind renaming i64 -> Zx
open List renaming setIfInBounds_toArray -> q0q, set_cons_succ -> q1q, set_cons_zero -> q2q, mem_append -> q7q, take_succ_cons -> q8q, take_zero -> q9q, drop_succ_cons -> q10q, drop_zero -> q11q, take_nil -> q12q, drop_nil -> q13q
set_option maxHeartbeats 8000000
set_option linter.unusedVariables false
set_option linter.unusedSimpArgs false
/- The walks of layer 22 of the document: in, Valid. -/
namespace Go.Proofs.P9
open Go.RowKit Go.Sec Go.Oct Go.Jar BigFrame
theorem lV (a b:E8)(n c m d:Nat) (L:List E7) (k:E7)(w:World)(h:Bsc w a n L) (hn:n<=1000000) (hk:Sl w b m k) :
  Calls Tryz.prog 103 #[Zy a n c, Zy b m d] w λ e w'=>e = .returned (.bool (decide (k∈L)))/\Ext w w':=by
 have hl:=h.len;obtain ⟨r,hr⟩:∃ r,decide (k∈L)=r:=⟨_,rfl⟩;rw [hr];replace hr:=FC hr
 go_enter Tryz.func103,Tryz.ntmps103
 go_wp2_with fail
 go_loopw [5] (λ v5 wr=>∃ i:Nat,i<=n/\v5 = Zz Zx i/\Hid (k ∉ L.take i)/\Ext w wr) (λ v5 _=>n-(intOf v5).toNat)
 case atStart=>exact ⟨0,Zo,rfl,FC Zs,FD _⟩
 case round =>
  obtain ⟨i,hi,rfl,hm,hx⟩:=hrel;by_cases hlt:i<n
  ·obtain ⟨b0,o0,a',n',c',rfl,hb0,hcell,hc',hS⟩:=(h.ext hx).at i hlt;have i0:(0:Int)<=(i:Int):=Zo;have i1:(i:Int)<(n:Int):=Zo;have hiL:i<L.length:=Zo;have hmem:L[i]∈L:=aaB hiL;have hts:L.take (i+1)=L.take i++[L[i]]:=aas hiL;have hsm:=λ W H1 H2=>gQ a' b n' c' m d (L[i]'hiL) k W H1 H2;generalize L[i]=X at *;haveI:=hb0;cases hb:(X == k)
   ·have hm2:=FC (show k ∉ L.take (i+1) by
     rw [hts,q7q,aau];rintro (h1|h1)
     ·exact hm.out h1
     ·rw [h1] at hb;simp at hb)
    rw [hb] at hsm;clear hts hb hmem;go_wp2_with fail;(with_reducible refine (hsm _ hS (hk.ext hx)).mono ?_);rintro e w1 ⟨rfl,hx1⟩;go_wp2_with fail;go_roundw
    case rel=>exact ⟨i+1,Zo,Zg,hm2,hx.trans hx1⟩
    case measure=>simp [intOf];omega
   ·have er:=FC (show r=true by rw [<- hr.out];exact aav (by rw [<- aa5.1 hb];exact hmem));rw [hb] at hsm;clear hts hb hmem;go_wp2_with fail;(with_reducible refine (hsm _ hS (hk.ext hx)).mono ?_);rintro e w1 ⟨rfl,hx1⟩;go_wp2_with fail;go_ret;exact ⟨by rw [er.out];rfl,hx.trans hx1⟩
  ·obtain rfl:i=n:=by omega
   have i1:¬ (i:Int)<(i:Int):=Zo;have er:=FC (show r=false by rw [<- hr.out];exact aay (by have:=hm.out;rwa [aah Zo] at this));go_wp2_with fail;go_ret;exact ⟨by rw [er.out];rfl,hx⟩
theorem _root_.z40q1{p:Prop}(h:p:=by
 have hm':=of_decide_eq_false hm;simp only [hm] at hhs;clear hm;by_cases m1:j.net<0
 ·have hv:=FC (hno (λ h=>by have:=h.2.2.2.2.1;omega));clear hr;clear hno hl1 hl2 hl4
  go_enter Tryz.func64,Tryz.ntmps64
  go_wp2_with (first
   | (go_at_call 103;refine (hhs _ (h3.ext eX) (h4.ext eX)).mono ?_;rintro e w1 ⟨rfl,hxq⟩;obtain ⟨xq,rfl⟩:=hxq.out;clear hxq)
   | fail)
  go_ret;exact ⟨by rw [hv.out];rfl,eX⟩
 ·by_cases m2:j.sent<0
  ·have hv:=FC (hno (λ h=>by have:=h.2.2.2.2.2.1;omega));clear hr;clear hno hl1 hl2 hl4
   go_enter Tryz.func64,Tryz.ntmps64
   go_wp2_with (first
    | (go_at_call 103;refine (hhs _ (h3.ext eX) (h4.ext eX)).mono ?_;rintro e w1 ⟨rfl,hxq⟩;obtain ⟨xq,rfl⟩:=hxq.out;clear hxq)
    | fail)
   go_ret;exact ⟨by rw [hv.out];rfl,eX⟩
  ·by_cases m3:1099511627776<j.sent
   ·have hv:=FC (hno (λ h=>by have:=h.2.2.2.2.2.2;omega));clear hr;clear hno hl1 hl2 hl4
    go_enter Tryz.func64,Tryz.ntmps64
    go_wp2_with (first
     | (go_at_call 103;refine (hhs _ (h3.ext eX) (h4.ext eX)).mono ?_;rintro e w1 ⟨rfl,hxq⟩;obtain ⟨xq,rfl⟩:=hxq.out;clear hxq)
     | fail)
    go_ret;exact ⟨by rw [hv.out];rfl,eX⟩
   ·have hh:jz j:=⟨hp',n8',hla,hm',Zo,Zo,Zo⟩;clear hp' hm' hno hl1 hl2 hl4 hla n8'
    go_enter Tryz.func64,Tryz.ntmps64
    go_wp2_with (first
     | (go_at_call 103;refine (hhs _ (h3.ext eX) (h4.ext eX)).mono ?_;rintro e w1 ⟨rfl,hxq⟩;obtain ⟨xq,rfl⟩:=hxq.out;clear hxq)
     | fail)
    refine cU ?_;intro W hW;have hEW:Ext w W:=by rw [hW];exact eX
    have hB:Blk W w.heap.size 57 [Zy a1 n1 c1, Zy a2 n2 c2, Zy a3 n3 c3, Zy a4 n4 c4, Zz Zx j.net, Zz Zx j.sent]:=by rw [hW];exact bK
    clear hW hhs;have hr:=FC hr
    go_loopw [3] (λ v3 wr=>∃ k:Nat,k<=n3/\v3 = Zz Zx k/\Hid ((∀ b∈j.ck.take k,b.length=104)/\(j.ck.take k).Nodup)/\Ext W wr) (λ v3 _=>n3-(intOf v3).toNat)
    case atStart=>exact ⟨0,aak _,rfl,FC ⟨Zs,Zs⟩,FD _⟩
    case round =>
     obtain ⟨k,hk,rfl,hno,hX⟩:=hrel;have hB:=hB.extB hX;have hE:=hEW.trans hX;haveI:=hB.blt;have f2:wr.cell? ⟨w.heap.size,2,none⟩=some (Zy a3 n3 c3):=hB.cell? 2 rfl;by_cases hlt:k<n3
     ·have hk0:(0:Int)<=(k:Int):=by omega
      have hkn:(k:Int)<(n3:Int):=Zo;have hkc:(k:Int)<=(c3:Int):=Zo;have h3r:=h3.ext hE;have h3k:=h3r.take k Zo;obtain ⟨b0,o0,a',n',c',rfl,hb0,hcell,hc',hS⟩:=h3r.at k hlt;have hkL:k<j.ck.length:=Zo;have hts:=FC (show j.ck.take (k+1)=j.ck.take k++[j.ck[k]] from aas hkL);have hbad:=FC (λ h=>hr.out.symm.trans (u9 (j:=j) hkL h));generalize j.ck[k]=X at *;have hXl:=hS.len;haveI:=hb0;have ghs:=λ V H1 H2=>lV (some ⟨b0,o0,none⟩) a' k c3 n' c' (j.ck.take k) X V H1 Zo H2;by_cases q1:n'=104
      ·have q1i:((n':Int) != 104)=false:=by rw [aaf];omega
       cases q2:decide (X∈j.ck.take k)
       ·have q2':=of_decide_eq_false q2;simp only [q2] at ghs;have hno2:=FC (show (∀ b∈j.ck.take (k+1),b.length=104)/\(j.ck.take (k+1)).Nodup by
         rw [hts.out];refine ⟨λ b hb=>?_,?_⟩
         ·rcases aaP.1 hb with h|h
          ·exact hno.out.1 b h
          ·rw [aau.1 h];omega
         ·rw [List.nodup_append];refine ⟨hno.out.2,Zs,λ x hx y hy e=>?_⟩;rw [aau.1 hy] at e;exact q2' (e ▸ hx))
        clear q2 q2' hXl hbad hts;replace q1:=FC q1;go_wp2_with fail;refine R2.ae 19 [[],[0],[],[0,1,2],[0,1,2,3],[0,1,2,3,4],[0,1,2,3,4,5],[0,1,2,3,4,5,6],[0,1,2,3,4,5,6,7],[0,1,2,3,4,5,6,7,8],[0,1,2,3,4,5,6,7],[0,1,2,3,4,5,6,7,8,9,10],[0,1,2,3,4,5,6,7],[0,1,2,3,4,5,6,7,12],[0,1,2,3,4,5,6,7],[0,1,2,3,4,5,6,7,12,13,14],[0,1,2,3,4,5,6,7,12,13,14,15],[0,1,2,3,4,5,6,7,8,9,10,11,12,13,14,15,16],[0,1,2,3,4,5,6,7,8,9,10,11,12,13,14,15,16,17]] [] (λ h=>(h rfl).elim) Zk Zk Zk Zk Zk ?_;simp only [q8q,q9q,q10q,q11q,q12q,q13q];(repeat (refine R2.av ?_;(try simp only [Act.put,q0q,q1q,q2q])));(refine R2.ai (λ _ => .bool false) (λ _ _=>True) (λ _ _ _ _ _=>trivial) (λ us w' hx hf=>⟨rfl,?_⟩) ?_;(unfold gives;simp [go_sem,execOp];refine (ghs _ (h3k.ext hx) (hS.ext hx)).mono ?_;rintro e w1 ⟨rfl,hx1⟩;first|exact ⟨rfl,hx1⟩|simpa using hx1));(repeat (refine R2.av ?_;(try simp only [Act.put,q0q,q1q,q2q])));(refine R2.aU ?_;intro us x hx hf);have hxx:Ext wr (wr.ext x):=FE _ _;go_wp2_with fail;go_roundw
        case rel=>exact ⟨k+1,Zo,Zg,hno2,hX.trans hxx⟩
        case measure=>simp [intOf];omega
       ·have hv:=FC (hbad.out (.inr (aaV q2)));simp only [q2] at ghs;clear q2 hXl hbad hts;replace q1:=FC q1;go_wp2_with fail;refine R2.ae 19 [[],[0],[],[0,1,2],[0,1,2,3],[0,1,2,3,4],[0,1,2,3,4,5],[0,1,2,3,4,5,6],[0,1,2,3,4,5,6,7],[0,1,2,3,4,5,6,7,8],[0,1,2,3,4,5,6,7],[0,1,2,3,4,5,6,7,8,9,10],[0,1,2,3,4,5,6,7],[0,1,2,3,4,5,6,7,12],[0,1,2,3,4,5,6,7],[0,1,2,3,4,5,6,7,12,13,14],[0,1,2,3,4,5,6,7,12,13,14,15],[0,1,2,3,4,5,6,7,8,9,10,11,12,13,14,15,16],[0,1,2,3,4,5,6,7,8,9,10,11,12,13,14,15,16,17]] [] (λ h=>(h rfl).elim) Zk Zk Zk Zk Zk ?_;simp only [q8q,q9q,q10q,q11q,q12q,q13q];(repeat (refine R2.av ?_;(try simp only [Act.put,q0q,q1q,q2q])));(refine R2.ai (λ _ => .bool true) (λ _ _=>True) (λ _ _ _ _ _=>trivial) (λ us w' hx hf=>⟨rfl,?_⟩) ?_;(unfold gives;simp [go_sem,execOp];refine (ghs _ (h3k.ext hx) (hS.ext hx)).mono ?_;rintro e w1 ⟨rfl,hx1⟩;first|exact ⟨rfl,hx1⟩|simpa using hx1));(repeat (refine R2.av ?_;(try simp only [Act.put,q0q,q1q,q2q])));(refine R2.aU ?_;intro us x hx hf);have hxx:Ext wr (wr.ext x):=FE _ _;go_wp2_with fail;go_ret;exact ⟨by rw [hv.out];rfl,hE.trans hxx⟩
      ·have hv:=FC (hbad.out (.inl Zo));have q1i:((n':Int) != 104)=true:=by rw [aao];omega
       clear q1 hXl hbad hts;go_wp2_with fail;refine R2.ae 19 [[],[0],[],[0,1,2],[0,1,2,3],[0,1,2,3,4],[0,1,2,3,4,5],[0,1,2,3,4,5,6],[0,1,2,3,4,5,6,7],[0,1,2,3,4,5,6,7,8],[0,1,2,3,4,5,6,7],[0,1,2,3,4,5,6,7,8,9,10],[0,1,2,3,4,5,6,7],[0,1,2,3,4,5,6,7,12],[0,1,2,3,4,5,6,7],[0,1,2,3,4,5,6,7,12,13,14],[0,1,2,3,4,5,6,7,12,13,14,15],[0,1,2,3,4,5,6,7,8,9,10,11,12,13,14,15,16],[0,1,2,3,4,5,6,7,8,9,10,11,12,13,14,15,16,17]] [] (λ h=>(h rfl).elim) Zk Zk Zk Zk Zk ?_;simp only [q8q,q9q,q10q,q11q,q12q,q13q];(repeat (refine R2.av ?_;(try simp only [Act.put,q0q,q1q,q2q])));(repeat (refine R2.fF (λ us=>rfl) ?_;(try simp only [Act.put,q0q,q1q,q2q])));(repeat (refine R2.av ?_;(try simp only [Act.put,q0q,q1q,q2q])));(refine R2.aU ?_;intro us x hx hf);have hxx:Ext wr (wr.ext x):=FE _ _;go_wp2_with fail;go_ret;exact ⟨by rw [hv.out];rfl,hE.trans hxx⟩
     ·obtain rfl:k=n3:=by omega
      have hkn:¬ (k:Int)<(k:Int):=Zo;have hv:=FC (show r=true by
       have:=hno.out;rw [aah Zo] at this;exact hr.out.symm.trans (kS hh this.1 this.2))
      go_wp2_with fail;go_ret;exact ⟨by rw [hv.out];rfl,hE⟩):p:=h
theorem _root_.z40q16{p:Prop}(h:p:=by
 have hv:=FC (hno (λ h=>h.2.2.2.1 (aaV hm)));simp only [hm] at hhs;clear hm hr;clear hno hl1 hl2 hl4
 go_enter Tryz.func64,Tryz.ntmps64
 go_wp2_with (first
  | (go_at_call 103;refine (hhs _ (h3.ext eX) (h4.ext eX)).mono ?_;rintro e w1 ⟨rfl,hxq⟩;obtain ⟨xq,rfl⟩:=hxq.out;clear hxq)
  | fail)
 go_ret;exact ⟨by rw [hv.out];rfl,eX⟩):p:=h
theorem ic (a1 a2 a3 a4:E8)(n1 c1 n2 c2 n3 c3 n4 c4:Nat) (j:Jar) (w:World)(h1:Sl w a1 n1 j.up) (h2:Sl w a2 n2 j.dn) (h3:Bsc w a3 n3 j.ck) (hc3:n3<=c3) (hn3:n3<=1000000) (h4:Sl w a4 n4 j.last) :
  Calls Tryz.prog 64 #[.agg #[Zy a1 n1 c1, Zy a2 n2 c2, Zy a3 n3 c3, Zy a4 n4 c4, Zz Zx j.net, Zz Zx j.sent]] w λ e w'=>e = .returned (.bool (bQ j))/\Ext w w':=by
 have hhs:=λ W H1 H2=>lV a3 a4 n3 c3 n4 c4 j.ck j.last W H1 hn3 H2;have hl1:=h1.len;have hl2:=h2.len;have hl3:=h3.len;have hl4:=h4.len;obtain ⟨r,hr⟩:∃ r,bQ j=r:=⟨_,rfl⟩;rw [hr];have hno:=λ h=>(hr.symm.trans (sx (j:=j) h));by_cases u1:n1=32
 ·have i1:((n1:Int) != 32)=false:=by rw [aaf];omega
  by_cases u2:n2=32
  ·have i2:((n2:Int) != 32)=false:=by rw [aaf];omega
   by_cases n8:8<n3
   ·have hv:=FC (hno (λ h=>by have:=h.2.1;omega));have i8:(8:Int)<(n3:Int):=Zo;clear hr;replace u1:=FC u1;replace u2:=FC u2;clear hno hl1 hl2 hl4
    go_enter Tryz.func64,Tryz.ntmps64
    go_wp2_with (first
     | (go_at_call 103;refine (hhs _ (h3.ext eX) (h4.ext eX)).mono ?_;rintro e w1 ⟨rfl,hxq⟩;obtain ⟨xq,rfl⟩:=hxq.out;clear hxq)
     | fail)
    go_ret;exact ⟨by rw [hv.out];rfl,eX⟩
   ·have i8:¬ (8:Int)<(n3:Int):=by omega
    have hp':j.up.length=32/\j.dn.length=32:=⟨Zo,Zo⟩;have n8':j.ck.length<=8:=Zo;replace u1:=FC u1;replace u2:=FC u2;by_cases z0:n4=0
    ·have i0:((n4:Int) != 0)=false:=by rw [aaf];omega
     have hla:j.last.length=0\/j.last.length=104:=Zo;replace z0:=FC z0;cases hm:decide (j.last∈j.ck)
     ·exact z40q1
     ·exact z40q16
    ·have i0:((n4:Int) != 0)=true:=by rw [aao];omega
     by_cases z1:n4=104
     ·have i1a:((n4:Int) != 104)=false:=by rw [aaf];omega
      have hla:j.last.length=0\/j.last.length=104:=Zo;replace z1:=FC z1;cases hm:decide (j.last∈j.ck)
      ·exact z40q1
      ·exact z40q16
     ·have i1a:((n4:Int) != 104)=true:=by rw [aao];omega
      have hv:=FC (hno (λ h=>by have:=h.2.2.1;omega));clear hr;clear hno hl1 hl2 hl4
      go_enter Tryz.func64,Tryz.ntmps64
      go_wp2_with (first
       | (go_at_call 103;refine (hhs _ (h3.ext eX) (h4.ext eX)).mono ?_;rintro e w1 ⟨rfl,hxq⟩;obtain ⟨xq,rfl⟩:=hxq.out;clear hxq)
       | fail)
      go_ret;exact ⟨by rw [hv.out];rfl,eX⟩
  ·have i2:((n2:Int) != 32)=true:=by rw [aao];omega
   have hv:=FC (hno (λ h=>by have:=h.1.2;omega));clear hr;replace u1:=FC u1;clear hno hl1 hl2 hl4
   go_enter Tryz.func64,Tryz.ntmps64
   go_wp2_with (first
    | (go_at_call 103;refine (hhs _ (h3.ext eX) (h4.ext eX)).mono ?_;rintro e w1 ⟨rfl,hxq⟩;obtain ⟨xq,rfl⟩:=hxq.out;clear hxq)
    | fail)
   go_ret;exact ⟨by rw [hv.out];rfl,eX⟩
 ·have i1:((n1:Int) != 32)=true:=by rw [aao];omega
  have hv:=FC (hno (λ h=>by have:=h.1.1;omega));clear hr;clear hno hl1 hl2 hl4
  go_enter Tryz.func64,Tryz.ntmps64
  go_wp2_with (first
   | (go_at_call 103;refine (hhs _ (h3.ext eX) (h4.ext eX)).mono ?_;rintro e w1 ⟨rfl,hxq⟩;obtain ⟨xq,rfl⟩:=hxq.out;clear hxq)
   | fail)
  go_ret;exact ⟨by rw [hv.out];rfl,eX⟩
end Go.Proofs.P9
