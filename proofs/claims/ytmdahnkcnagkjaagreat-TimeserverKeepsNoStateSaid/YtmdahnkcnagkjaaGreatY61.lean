/- Lemmas of this claim, several texts joined. -/
import Derived.Test.YtmdahnkcnagkjaaGreatY28
import Derived.Test.YtmdahnkcnagkjaaGreatY32
import Derived.Test.YtmdahnkcnagkjaaGreatY35
import Derived.Test.YtmdahnkcnagkjaaGreatY9
set_option maxRecDepth 100000
open List renaming setIfInBounds_toArray -> q0q, set_cons_succ -> q1q, set_cons_zero -> q2q, mem_cons -> q3q, not_mem_nil -> q4q, nil_append -> q5q, cons_append -> q6q, mem_append -> q7q, take_succ_cons -> q8q, take_zero -> q9q, drop_succ_cons -> q10q, drop_zero -> q11q, take_nil -> q12q, drop_nil -> q13q
open Go.IntWalk renaming i64_in -> q17q, rem_in -> q18q, wrap64_in -> q19q
set_option maxHeartbeats 8000000
set_option linter.unusedVariables false
set_option linter.unusedSimpArgs false
namespace Go.Cook
open Go.Sha Go.Oct Go.Aes Go.Sec
end Go.Cook
namespace Go.Proofs.YtmdahnkcnagkjaaGreat
open Go.RowKit Go.Sec Go.Oct Go.Sha Go.Aes Go.Cook Go.Chan BigFrame
theorem rcid_any (a:Option Addr)(n c:Nat) (l:List UInt8)(w:World)(h:Sl w a n l) (hc:n<=c) :
  Calls Tryz.prog 67 #[.slice a n c] w λ e w'=>e = .returned (.tuple #[.int .i64 (idE l).1, .int .i64 (idE l).2])/\Ext w w':=by
 have hl:=h.len;by_cases n104:n=104
 ·subst n104;obtain ⟨q,hq⟩:∃ q,dy (l.take 4)=q:=⟨_,rfl⟩;have e:=Lib.hid (show idE l=(n64 q,0) by unfold idE lM;rw [if_neg Zo,hq]);have hb:=yu (l.take 4) (by rw [List.length_take];omega);rw [hq] at hb;have hget:=λ W H1=>jD a 4 c (l.take 4) W H1 Zo;simp only [hq] at hget;have hw:IntKind.i64.wrap (n64 q)=n64 q:=by rw [IntKind.wrap_i64];omega
  have h4:=h.take 4 Zo;have k1:(4:Int)<=(c:Int):=Zo;clear hl hq
  go_enter Tryz.func67,Tryz.ntmps67
  go_wp2_with (first
   | (go_at_call 69;refine (hget _ h4).mono ?_;rintro e w1 ⟨rfl,hxq⟩;obtain ⟨xq,rfl⟩:=hxq.out;clear hxq)
   | fail)
  refine bodyPost_ret (v := .tuple #[.int .i64 (n64 q), .int .i64 0]) (by simp [results,Tryz.results67,go_sem]) rfl ?_;exact ⟨by rw [e.out],eX⟩
 ·have e:=Lib.hid (show idE l=(0,3) by unfold idE;rw [if_pos Zo]);have hI:(((n:Nat):Int) != 104)=true:=by rw [bne_iff_ne];omega
  clear hl n104
  go_enter Tryz.func67,Tryz.ntmps67
  go_wp2_with fail;refine bodyPost_ret (v := .tuple #[.int .i64 0, .int .i64 3]) (by simp [results,Tryz.results67,go_sem]) rfl ?_;exact ⟨by rw [e.out],eX⟩
end Go.Proofs.YtmdahnkcnagkjaaGreat

namespace Go.Sec
open Go.RowKit Go.Sec.R4
theorem Own.chg {w w':World} {S:Nat->Prop} {base n c:Nat} {a:Option Addr} {l:List UInt8} (h:Own w base a n c l) (hx:Chg S w w') (hs:∀ k,S k->k<base):Own w' base a n c l:=by
 refine ⟨h.1,h.2.1,?_⟩;rcases h.2.2 with h1|⟨g,cap,cur,hv,hb,hh,r⟩
 ·exact .inl h1
 ·refine .inr ⟨g,cap,cur,hv,hb,?_,r⟩;rw [hx.block g (Array.getElem?_eq_some_iff.1 hh).1 (λ e=>by have:=hs g e;omega)];exact hh
theorem Rd.chg {w w':World} {S:Nat->Prop} {b o:Nat} {vs:List Value} (h:Rd w (some ⟨b,o,none⟩) vs) (hx:Chg S w w') (hs:¬ S b):Rd w' (some ⟨b,o,none⟩) vs:=by
 rcases h with h|⟨b',o',ha,hb,hc⟩
 ·exact .inl h
 ·injection ha with ha
  injection ha with e1 e2
  subst e1 e2;exact .inr ⟨b,o,rfl,Nat.lt_of_lt_of_le hb hx.size,λ k v hk=>(World.cell?_of_block (hx.block b hb hs)).trans (hc k v hk)⟩
theorem bss_of_rd {w:World} {b:Nat} {a1:Option Addr} {n1 c1:Nat} {l:List UInt8} (h:Rd w (some ⟨b,0,none⟩) [.slice a1 n1 c1]) (hS:Sl w a1 n1 l):Bss w (some ⟨b,0,none⟩) 1 [l]:=by
 refine ⟨rfl, .inr ?_⟩;rcases h with h|⟨b',o',ha,hb,hc⟩
 ·cases h
 ·injection ha with ha
  injection ha with e1 e2
  subst e1 e2;refine ⟨b,0,rfl,hb,λ k hk=>?_⟩;obtain rfl:k=0:=by simp at hk;omega
  exact ⟨a1,n1,c1,hc 0 _ rfl,hS⟩
end Go.Sec
namespace Go.Proofs.YtmdahnkcnagkjaaGreat
open Go.RowKit Go.Sec Go.Oct Go.Sha Go.Aes Go.Cook Go.Chan BigFrame
theorem two_eq {pl:List UInt8} (h:4<=pl.length):(pl.drop 2).take 2=[pl.getD 2 0,pl.getD 3 0]:=by
 match pl,h with
 | a :: b :: c :: d :: r,_=>rfl
theorem n8_ne {x:UInt8} (h:x≠0):(n8 x != 0)=true:=by
 rw [bne_iff_ne];intro h0;apply h;have:n8 x=n8 0:=h0;unfold Go.Sec.n8 at this;exact UInt8.toNat_inj.1 Zo
theorem rcopen_any (a b:Option Addr)(n c nk ck:Nat) (r:Ring) (l:List UInt8)(w:World)(hI:Ib w a n r) (hnc:n<=c) (hn:n<=1000000) (hb:Sl w b nk l) (hck:nk<=ck) :
  Calls Tryz.prog 26 #[.agg #[.slice a n c], .slice b nk ck] w (l9 (dv r l) w):=by
 have hval:=λ W h=>lJ a n c r W h hnc hn;have hid:=λ W h=>rcid_any b nk ck l W h hck;have hrl:=hI.len;have hll:=hb.len;cases hV:aR r
 ·have e:dv r l=⟨0,[],[],0,3⟩:=by unfold dv;rw [if_pos (.inl hV)]
  rw [e];rw [hV] at hval;clear hll e
  go_enter Tryz.func26,Tryz.ntmps26
  go_wp2_with (first
   | (go_at_call 59;refine (hval _ (hI.ext eX)).mono ?_;rintro e w1 ⟨rfl,hxq⟩;obtain ⟨xq,rfl⟩:=hxq.out;clear hxq)
   | fail)
  refine bodyPost_ret (v := .tuple #[.int .i64 0, .agg #[.slice none 0 0, .slice none 0 0], .int .i64 0, .int .i64 3]) (by simp [results,Tryz.results26,go_sem]) rfl ?_;exact l9.err _ _ _ eX
 ·rw [hV] at hval;by_cases n104:nk=104
  ·subst n104;have hide:idE l=(lM l,0):=by unfold idE;rw [if_neg Zo]
   rw [hide] at hid;obtain ⟨v1,v2,v3,v4⟩:=bm.1 hV;have hg:=Lib.hid (show ∀ i,jS r l=some i->dv r l=if (iA r i l).2≠0\/((iA r i l).1.drop 2).take 2≠[0,0] then ⟨0,[],[],0,6⟩ else ⟨n64 (dy ((iA r i l).1.take 2)),((iA r i l).1.drop 4).take 32,((iA r i l).1.drop 36).take 32,i,0⟩ from λ i hA=>by
    unfold dv;rw [if_neg (by rw [hV];simp;omega),hA])
   have hgo:=Lib.hid (show jS r l=none->dv r l=⟨0,[],[],0,5⟩ from λ hA=>by unfold dv;rw [if_neg (by rw [hV];simp;omega),hA]);clear hide
   go_enter Tryz.func26,Tryz.ntmps26
   go_wp2_with (first
    | (go_at_call 59;refine (hval _ (hI.ext eX)).mono ?_;rintro e w1 ⟨rfl,hxq⟩;obtain ⟨xq,rfl⟩:=hxq.out;clear hxq)
    | (go_at_call 67;refine (hid _ (hb.ext eX)).mono ?_;rintro e w1 ⟨rfl,hxq⟩;obtain ⟨xq,rfl⟩:=hxq.out;clear hxq)
    | fail)
   refine df ?_;intro W hW;have hEW:Ext w W:=by rw [hW];exact eX
   have hB1:Blk W w.heap.size 26 [.slice a n c]:=by rw [hW];exact bK
   have hB2:Blk W (w.heap.size+1) 55 [.slice none 0 0, .slice none 0 0]:=by rw [hW];exact bK
   clear hW hval hid
   go_loopw [10,11,12] (λ v10 _ _ wr=>∃ k:Nat,k<=n/\v10 = .int .i64 k/\Hid (∀ m∈r.take k,m.1≠lM l)/\Blk wr w.heap.size 26 [.slice a n c]/\Blk wr (w.heap.size+1) 55 [.slice none 0 0, .slice none 0 0]/\Ext w wr) (λ v10 _ _ _=>n-(intOf v10).toNat)
   case atStart=>exact ⟨0,Nat.zero_le _,rfl,Lib.hid Zs,hB1,hB2,hEW⟩
   case round =>
    clear hB1 hB2 hEW;obtain ⟨k,hk,rfl,hno,hB1,hB2,hE⟩:=hrel;have hlt2:=hB2.lt;haveI:=hB1.blt;haveI:=hB2.blt;have f1:=hB1.cell? 0 rfl;have hk0:(0:Int)<=(k:Int):=Zo;by_cases hlt:k<n
    ·have hkn:(k:Int)<(n:Int):=by omega
     obtain ⟨x,hx⟩:∃ x,r[k]?=some x:=⟨_,List.getElem?_eq_getElem Zo⟩;have hts:=iD hx;have hat:=Lib.hid (λ h=>Ar hx hno.out h);obtain ⟨_,_,x3⟩:=v1 x (List.mem_of_getElem? hx);obtain ⟨id,ky⟩:=x;obtain ⟨b',off',gk,cgk,rfl,hbk,d0,d1,hSk,hckk⟩:=(hI.ext hE).at k Zo _ hx;simp only at d0 d1 hSk hckk x3;rw [x3] at d1 hSk hckk;haveI:=hbk;by_cases hid:id=lM l
     ·have hg2:=hg.out k (hat.out hid);have hinn:iA r k l=bH ky [l.take 4,(l.drop 4).take 16] (l.drop 20):=by unfold iA;rw [List.getD_eq_getElem?_getD,hx];rfl
      have hope:=λ bA cA aS cS W h1 h2 h3 h4=>wM gk bA aS 32 cgk 2 cA 84 cS ky [l.take 4,(l.drop 4).take 16] (l.drop 20) W h1 hckk h2 Zo h3 h4 Zo;have hlen:=kj (ky:=ky) (A:=[l.take 4,(l.drop 4).take 16]) (s:=l.drop 20);rw [<- hinn] at hope hlen;have hd84:(l.drop 20).length=84:=by rw [List.length_drop];omega
      rw [hd84] at hlen;obtain ⟨⟨pl,er⟩,hpe⟩:∃ q,iA r k l=q:=⟨_,rfl⟩;rw [hpe] at hope hlen hg2;simp only at hope hlen hg2;have HR:=Lib.hid hg2;have hne:(id != lM l)=false:=by rw [bne_eq_false_iff_eq];exact hid
      have hbr:=hb.ext hE;have s1:=hbr.take 4 Zo;have s2:=(hbr.drop ck 4 hck).take 16 Zo;have s3:=hbr.drop ck 20 hck;have k1:(4:Int)<=(ck:Int):=Zo;have k2:(20:Int)<=(ck:Int):=Zo;have k3:(104:Int)<=(ck:Int):=Zo;have k4:4<=ck:=Zo;have k5:20<=ck:=Zo;clear hg2 hpe hinn hid hat hts hg hgo hll;go_wp2_with fail;refine ae 19 [[],[0],[],[0,1,2],[0,1,2,3],[0,1,2,3,4],[],[6],[],[8],[6,7,8,9],[],[11],[0,1,2,3,4,5,6,7,8,9,10,11,12],[0,1,2,3,4,5,6,7,8,9,10,11,12,13],[0,1,2,3,4,5,6,7,8,9,10,11,12,13,14],[0,1,2,3,4,5,6,7,8,9,10,11,12,13,14],[0,1,2,3,4,5,6,7,8,9,10,11,12,13,14,15],[0,1,2,3,4,5,6,7,8,9,10,11,12,13,14,15,16,17]] Zk Zk Zk Zk ?_;simp only [q8q,q9q,q10q,q11q,q12q,q13q];(repeat (apply aj;(case h=>(intro us w' hx hf;obtain ⟨x,rfl⟩:=hx.out;refine ⟨rfl,?_⟩;simp [go_sem,execOp, *];(try simp (disch:=omega) only [q17q,q18q,q19q]);rfl));(try simp only [Act.put,q0q,q1q,q2q])));(refine ao (λ p => .slice (p 0).1 2 2) (λ p w''=>Bsc w'' (p 0).1 2 [l.take 4,(l.drop 4).take 16]) (λ p w w' h hx=>by first|exact h.ext hx|exact ⟨h.1.ext hx,h.2.ext hx⟩|exact ⟨h.1.ext hx,h.2⟩|exact ⟨h.1.ext hx,h.2.1.ext hx,h.2.2.ext hx⟩) (λ us w' hx hf=>⟨rfl,?_⟩) ?_;(unfold gives;simp [go_sem,execOp];exact ⟨λ _=>(some ⟨w'.heap.size,0,none⟩,0),rfl,Ext.of_alloc _ _,s6 (s1.ext hx) Zo (s2.ext hx) Zo _⟩));(repeat (apply aj;(case h=>(intro us w' hx hf;obtain ⟨x,rfl⟩:=hx.out;refine ⟨rfl,?_⟩;simp [go_sem,execOp, *];(try simp (disch:=omega) only [q17q,q18q,q19q]);rfl));(try simp only [Act.put,q0q,q1q,q2q])));(refine ao (λ p => .tuple #[.slice (p 0).1 pl.length (p 0).2, .int .i64 er]) (λ p w''=>Sl w'' (p 0).1 pl.length (pl)/\(pl.length)<=(p 0).2) (λ p w w' h hx=>⟨h.1.ext hx,h.2⟩) (λ us w' hx hf=>⟨rfl,?_⟩) ?_;(unfold gives;simp [go_sem,execOp];exact eR (hope _ _ _ _ _ (hSk.ext hx) (hf _ (List.mem_append_right _ (List.mem_singleton_self _)) rfl) (s3.ext hx) Zo)));(repeat (apply aj;(case h=>(intro us w' hx hf;obtain ⟨x,rfl⟩:=hx.out;refine ⟨rfl,?_⟩;simp [go_sem,execOp, *];(try simp (disch:=omega) only [q17q,q18q,q19q]);rfl));(try simp only [Act.put,q0q,q1q,q2q])));(refine aB ?_;intro us w' hx hf;obtain ⟨x,rfl⟩:=hx.out;(try simp only [Act.put,q0q,q1q,q2q,ai]);(try simp only [q3q,q4q,or_false,forall_eq_or_imp,forall_eq,q5q,q6q,q7q,false_or,true_and,and_true] at hf);(try simp only [Nat.reduceAdd,Nat.zero_add] at hf ⊢));obtain ⟨_,hSp,hcp⟩:=hf;obtain ⟨ap,hap⟩:∃ a,(us 13 0).1=a:=⟨_,rfl⟩;obtain ⟨cp,hcpe⟩:∃ a,(us 13 0).2=a:=⟨_,rfl⟩;rw [hap] at hSp ⊢;rw [hcpe] at hcp ⊢;clear hap hcpe;obtain ⟨W,hW⟩:∃ W,W=wr.ext x:=⟨_,rfl⟩;rw [<- hW] at hSp ⊢;have hxW:Ext wr W:=by rw [hW];exact Ext.of_ext _ _
      clear hW;have hE:=hE.trans hxW;have hB2:=hB2.extB hxW;clear hB1 s1 s2 s3 d0 d1 hSk f1 hope hbr;haveI:=hB2.blt;by_cases her:er=0
      ·subst her;have hpl:pl.length=68:=by rw [hlen rfl]
       rw [hpl] at hSp hcp ⊢;have h2e:=two_eq (pl:=pl) Zo;rw [h2e] at HR;obtain ⟨pb,po,rfl,hpb,hq2⟩:=hSp.atD 2 Zo;obtain ⟨pb2,po2,hpe2,_,hq3⟩:=hSp.atD 3 Zo;injection hpe2 with hpe2
       injection hpe2 with hpe3 hpe4
       subst hpe3 hpe4;haveI:=hpb;by_cases z2:pl.getD 2 0=0
       ·by_cases z3:pl.getD 3 0=0
        ·have HR2:=Lib.hid (show dv r l=⟨n64 (dy (pl.take 2)),(pl.drop 4).take 32,(pl.drop 36).take 32,k,0⟩ by rw [HR.out,if_neg (by rw [z2,z3];simp)]);rw [z2] at hq2;rw [z3] at hq3;have n0:(n8 0 != 0)=false:=Zd;clear HR h2e z2 z3;go_wp2_with fail;obtain ⟨gq,hgq⟩:∃ q,dy (pl.take 2)=q:=⟨_,rfl⟩;have hb02:=yu (pl.take 2) (by rw [List.length_take];omega);have hg02:=λ V H=>jD (some ⟨pb,po,none⟩) 2 cp (pl.take 2) V H Zo;rw [hgq] at hb02 hg02;have hwr:IntKind.i64.wrap (n64 gq)=n64 gq:=by rw [IntKind.wrap_i64];omega
         have s02:=hSp.take 2 Zo;have s04:=(nE hSp hcp (show 4<68 from Zo)).take 32 Zo;have s36:=(nE hSp hcp (show 36<68 from Zo)).take 32 Zo;obtain ⟨U4,hU4⟩:∃ u,(pl.drop 4).take 32=u:=⟨_,rfl⟩;obtain ⟨U36,hU36⟩:∃ u,(pl.drop 36).take 32=u:=⟨_,rfl⟩;rw [hU4] at s04;rw [hU36] at s36;have l4:=s04.len;have l36:=s36.len;have j1:(2:Int)<=(cp:Int):=Zo;have j2:(4:Int)<=(cp:Int):=Zo;have j3:(36:Int)<=(cp:Int):=Zo;have j4:(68:Int)<=(cp:Int):=Zo;have j5:4<cp:=Zo;have j6:36<cp:=Zo;have hWg:w.heap.size+1<W.heap.size:=hB2.lt;clear hq2 hq3;have n4:¬ cp=4:=Zo;have n36:¬ cp=36:=Zo;refine R4.ae 16 [[],[0],[0,1],[0,1,2],[],[4],[4,5],[0,1,2,4,5,6],[],[8],[8,9],[0,1,2,4,5,6,7,8,9,10],[0,1,2,4,5,6,7,8,9,10,11],[],[0,1,2,3,4,5,6,7,8,9,10,11],[0,1,2,3,4,5,6,7,8,9,10,11,12,14],[0,1,2,3,4,5,6,7,8,9,10,11,12,13,14,15],[0,1,2,3,4,5,6,7,8,9,10,11,12,13,14,15,16]] ([w.heap.size+1]) Zk Zk Zk Zk ?_;simp only [q8q,q9q,q10q,q11q,q12q,q13q];(repeat (apply R4.aj;(case h=>(intro us w' hx hf;refine ⟨rfl,?_⟩;simp [go_sem,execOp, *];(try simp (disch:=omega) only [q17q,q18q,q19q]);rfl));(try simp only [Act.put,q0q,q1q,q2q])));(refine R4.ao (λ _ => .int .u64 (n64 gq)) (λ _ _=>True) ⟨(λ _ h=>by cases h),λ _ _ _ _ _=>trivial⟩ (λ us w' hx hf=>⟨rfl,?_⟩) ?_;(unfold gives;simp [go_sem,execOp];refine (hg02 _ (Sl.mut s02 hB2 Zs hx.mut)).mono ?_;rintro e w1 ⟨rfl,hx1⟩;first|exact ⟨rfl,hx1⟩|simpa using hx1));(repeat (apply R4.aj;(case h=>(intro us w' hx hf;refine ⟨rfl,?_⟩;simp [go_sem,execOp, *];(try simp (disch:=omega) only [q17q,q18q,q19q]);rfl));(try simp only [Act.put,q0q,q1q,q2q])));(refine R4.ao (λ p => .slice (p 0).1 1 1) (λ p w''=>∃ b,(p 0).1=some ⟨b,0,none⟩/\w.heap.size+1<b/\Rd w'' (some ⟨b,0,none⟩) [.slice (some ⟨pb,po+4,none⟩) 32 (cp-4)]) ⟨(λ _ h=>by cases h),λ p w1 w2 ⟨b,h1,h2,h3⟩ hx=>⟨b,h1,h2,h3.chg hx (λ hn=>by have:=hn.1;simp at this;omega)⟩⟩ (λ us w' hx hf=>⟨rfl,?_⟩) ?_;(unfold gives;simp [go_sem,execOp,n4,n36];have hsz:=hx.size;exact ⟨λ _=>(some ⟨w'.heap.size,0,none⟩,0),rfl,Ext.of_alloc _ _,w'.heap.size,rfl,Zo,(Blk.new w' #[.slice (some ⟨pb,po+4,none⟩) 32 (cp-4)] _).rd⟩));(refine R4.ao (λ p => .slice (p 0).1 32 (p 0).2) (λ p w''=>Own w'' (w.heap.size+2) (p 0).1 32 (p 0).2 U4) ⟨(λ _ h=>by cases h),λ p w1 w2 h hx=>h.chg hx (λ q hq=>by have:=hq.1;simp at this;omega)⟩ (λ us w' hx hf=>⟨rfl,?_⟩) ?_;(unfold gives;simp [go_sem,execOp];obtain ⟨bq,e1,e2,e3⟩:=(hf _ (List.mem_append_right _ (List.mem_singleton_self _)) rfl);rw [e1];have hsz:=hx.size;have:=aZ (some ⟨bq,0,none⟩) 1 1 [U4] w' (bss_of_rd e3 (Sl.mut s04 hB2 Zs hx.mut)) Zo 32 (by rw [cz];exact l4) Zo;rw [cz] at this;exact aA Zo this));(repeat (apply R4.aj;(case h=>(intro us w' hx hf;refine ⟨rfl,?_⟩;simp [go_sem,execOp, *];(try simp (disch:=omega) only [q17q,q18q,q19q]);rfl));(try simp only [Act.put,q0q,q1q,q2q])));(refine R4.ao (λ p => .slice (p 0).1 1 1) (λ p w''=>∃ b,(p 0).1=some ⟨b,0,none⟩/\w.heap.size+1<b/\Rd w'' (some ⟨b,0,none⟩) [.slice (some ⟨pb,po+36,none⟩) 32 (cp-36)]) ⟨(λ _ h=>by cases h),λ p w1 w2 ⟨b,h1,h2,h3⟩ hx=>⟨b,h1,h2,h3.chg hx (λ hn=>by have:=hn.1;simp at this;omega)⟩⟩ (λ us w' hx hf=>⟨rfl,?_⟩) ?_;(unfold gives;simp [go_sem,execOp,n4,n36];have hsz:=hx.size;exact ⟨λ _=>(some ⟨w'.heap.size,0,none⟩,0),rfl,Ext.of_alloc _ _,w'.heap.size,rfl,Zo,(Blk.new w' #[.slice (some ⟨pb,po+36,none⟩) 32 (cp-36)] _).rd⟩));(refine R4.ao (λ p => .slice (p 0).1 32 (p 0).2) (λ p w''=>Own w'' (w.heap.size+2) (p 0).1 32 (p 0).2 U36) ⟨(λ _ h=>by cases h),λ p w1 w2 h hx=>h.chg hx (λ q hq=>by have:=hq.1;simp at this;omega)⟩ (λ us w' hx hf=>⟨rfl,?_⟩) ?_;(unfold gives;simp [go_sem,execOp];obtain ⟨bq,e1,e2,e3⟩:=(hf _ (List.mem_append_right _ (List.mem_singleton_self _)) rfl);rw [e1];have hsz:=hx.size;have:=aZ (some ⟨bq,0,none⟩) 1 1 [U36] w' (bss_of_rd e3 (Sl.mut s36 hB2 Zs hx.mut)) Zo 32 (by rw [cz];exact l36) Zo;rw [cz] at this;exact aA Zo this));(repeat (apply R4.aj;(case h=>(intro us w' hx hf;refine ⟨rfl,?_⟩;simp [go_sem,execOp, *];(try simp (disch:=omega) only [q17q,q18q,q19q]);rfl));(try simp only [Act.put,q0q,q1q,q2q])));(refine R4.yU RP2 rfl _ _ rfl rfl (w.heap.size+1) 0 Zs Zs 55 _ hB2 Zs (λ p=>[.slice (p 0).1 32 (p 0).2, .slice (p 1).1 32 (p 1).2]) (λ p=>⟨rfl,by simp;repeat' (first|rfl|constructor)⟩) (λ p w'=>Own w' (w.heap.size+2) (p 0).1 32 (p 0).2 U4/\Own w' (w.heap.size+2) (p 1).1 32 (p 1).2 U36) (λ p w1 w2 h hx=>⟨h.1.chg hx (λ q hq=>by simp at hq;omega),h.2.chg hx (λ q hq=>by simp at hq;omega)⟩) (λ us w' hx hf=>⟨rfl,(λ j=>if j=0 then us 7 0 else us 11 0),rfl,(hf _ (List.mem_append_left _ (List.mem_append_left _ (List.mem_append_right _ (List.mem_singleton_self _)))) rfl),(hf _ (List.mem_append_right _ (List.mem_singleton_self _)) rfl)⟩) ?_);(refine R4.aB ?_;intro us w' hx hf hd;(try simp only [Act.put,q0q,q1q,q2q,ai]);(try simp only [q3q,q4q,or_false,forall_eq_or_imp,forall_eq,q5q,q6q,q7q,false_or,true_and,and_true] at hf);(try simp only [Nat.reduceAdd,Nat.zero_add] at hf ⊢));obtain ⟨_,_,_,_,hBk,hU,hD⟩:=hf;have hBk:Blk w' (w.heap.size+1) 55 [.slice (us 15 0).1 32 (us 15 0).2, .slice (us 15 1).1 32 (us 15 1).2]:=hBk;have hEE:Ext w w':=Below.trans hE (hx.mut.below Zo hE.size);go_wp2_with fail;refine bodyPost_ret (gi Tryz.results26 RP2 _ _ (w.heap.size+1) 0 [.slice (us 15 0).1 32 (us 15 0).2, .slice (us 15 1).1 32 (us 15 1).2] rfl hBk.rd rfl _ _ _ rfl rfl rfl) rfl ?_;rw [HR2.out,hgq,hU4,hU36];exact ⟨_,_,_,_,_,_,(by first|rfl|(rw [hwr];rfl)|(simp only [hwr];rfl)),hU.sl,hU.le.1,hD.sl,hD.le.1,hEE⟩
        ·have n2:(n8 (pl.getD 2 0) != 0)=false:=by rw [z2];decide
         have n3:(n8 (pl.getD 3 0) != 0)=true:=n8_ne z3;generalize n8 (pl.getD 2 0)=q2 at *;generalize n8 (pl.getD 3 0)=q3 at *
         go_wp2_with (first
          | (refine aa RP2 rfl _ _ rfl (w.heap.size+1) 0 rfl _ rfl 55 _ ((hB2.extB eX)) rfl Zs (by first|exact aK _|(simp;done)|(simp;(repeat' (first|rfl|constructor)))) ?_;intro w9 hB9 hM9)
          | fail)
         refine bodyPost_ret (gi Tryz.results26 RP2 _ _ (w.heap.size+1) 0 [.slice none 0 0, .slice none 0 0] rfl hB9.rd rfl _ _ _ rfl rfl rfl) rfl ?_;rw [HR.out,if_pos (.inr (by intro h;injection h with _ h;injection h with h;exact z3 h))];exact l9.err _ _ _ (sk hE eX hM9 Zo)
       ·have n2:(n8 (pl.getD 2 0) != 0)=true:=n8_ne z2;generalize n8 (pl.getD 2 0)=q2 at *
        go_wp2_with (first
         | (refine aa RP2 rfl _ _ rfl (w.heap.size+1) 0 rfl _ rfl 55 _ ((hB2.extB eX)) rfl Zs (by first|exact aK _|(simp;done)|(simp;(repeat' (first|rfl|constructor)))) ?_;intro w9 hB9 hM9)
         | fail)
        refine bodyPost_ret (gi Tryz.results26 RP2 _ _ (w.heap.size+1) 0 [.slice none 0 0, .slice none 0 0] rfl hB9.rd rfl _ _ _ rfl rfl rfl) rfl ?_;rw [HR.out,if_pos (.inr (by intro h;injection h with h;exact z2 h))];exact l9.err _ _ _ (sk hE eX hM9 Zo)
      ·have her':=ne0 her
       go_wp2_with (first
        | (refine aa RP2 rfl _ _ rfl (w.heap.size+1) 0 rfl _ rfl 55 _ ((hB2.extB eX)) rfl Zs (by first|exact aK _|(simp;done)|(simp;(repeat' (first|rfl|constructor)))) ?_;intro w9 hB9 hM9)
        | fail)
       refine bodyPost_ret (gi Tryz.results26 RP2 _ _ (w.heap.size+1) 0 [.slice none 0 0, .slice none 0 0] rfl hB9.rd rfl _ _ _ rfl rfl rfl) rfl ?_;rw [HR.out,if_pos (.inl her)];exact l9.err _ _ _ (sk hE eX hM9 Zo)
     ·have hne:(id != lM l)=true:=by rw [bne_iff_ne];exact hid
      have hno2:=Lib.hid (show ∀ q∈r.take (k+1),q.1≠lM l by
       rw [hts];intro q hq;rcases List.mem_append.1 hq with h|h
       ·exact hno.out q h
       ·rw [List.mem_singleton.1 h];exact hid)
      clear hid hts hat;go_wp2_with fail;go_roundw
      case rel=>exact ⟨k+1,Zo,Zg,hno2,hB1,hB2,hE⟩
      case measure=>simp [intOf];omega
    ·obtain rfl:k=n:=by omega
     have hkn:¬ (k:Int)<(k:Int):=Zo;have he:=Lib.hid (hgo.out (Aa (by have:=hno.out;rwa [List.take_of_length_le Zo] at this)))
     go_wp2_with (first
      | (refine aa RP2 rfl _ _ rfl (w.heap.size+1) 0 rfl _ rfl 55 _ ((hB2.extB eX)) rfl Zs (by first|exact aK _|(simp;done)|(simp;(repeat' (first|rfl|constructor)))) ?_;intro w9 hB9 hM9)
      | fail)
     refine bodyPost_ret (gi Tryz.results26 RP2 _ _ (w.heap.size+1) 0 [.slice none 0 0, .slice none 0 0] rfl hB9.rd rfl _ _ _ rfl rfl rfl) rfl ?_;rw [he.out];exact l9.err _ _ _ (sk hE eX hM9 Zo)
  ·have e:dv r l=⟨0,[],[],0,3⟩:=by unfold dv;rw [if_pos (.inr Zo)]
   have e2:idE l=(0,3):=by unfold idE;rw [if_pos Zo]
   rw [e];rw [e2] at hid;clear hll e n104 e2
   go_enter Tryz.func26,Tryz.ntmps26
   go_wp2_with (first
    | (go_at_call 59;refine (hval _ (hI.ext eX)).mono ?_;rintro e w1 ⟨rfl,hxq⟩;obtain ⟨xq,rfl⟩:=hxq.out;clear hxq)
    | (go_at_call 67;refine (hid _ (hb.ext eX)).mono ?_;rintro e w1 ⟨rfl,hxq⟩;obtain ⟨xq,rfl⟩:=hxq.out;clear hxq)
    | fail)
   refine bodyPost_ret (v := .tuple #[.int .i64 0, .agg #[.slice none 0 0, .slice none 0 0], .int .i64 0, .int .i64 3]) (by simp [results,Tryz.results26,go_sem]) rfl ?_;exact l9.err _ _ _ eX
end Go.Proofs.YtmdahnkcnagkjaaGreat

namespace Go.Sec
open Go.RowKit
end Go.Sec
namespace Go.Proofs.YtmdahnkcnagkjaaGreat
open Go.RowKit Go.Sec Go.Oct Go.Sha Go.Aes Go.Cook Go.Chan BigFrame
theorem ckpair_any (a b a' b':Option Addr)(n c m d n' c' m' d':Nat) (u v:List UInt8)(w:World)(h1:Sl w a n u) (h2:Sl w b m v) (h3:Sl w a' n' u) (h4:Sl w b' m' v) :
  Calls Tryz.prog 27 #[.agg #[.slice a n c, .slice b m d], .agg #[.slice a' n' c', .slice b' m' d']] w λ e w'=>e = .returned (.bool true)/\Ext w w':=by
 have s1:=λ W H1 H2=>iP a a' n c n' c' u u W H1 H2;have s2:=λ W H1 H2=>iP b b' m d m' d' v v W H1 H2;simp only [beq_self_eq_true] at s1 s2
 go_enter Tryz.func27,Tryz.ntmps27
 go_wp2_with (first
  | (go_at_call 17;(with_reducible refine (s1 ?_ ?hq1 ?hq2).mono ?_);(case hq1=>exact sS);(case hq2=>exact sS);rintro e w1 ⟨rfl,hxq⟩;obtain ⟨xq,rfl⟩:=hxq.out;clear hxq)
  | (go_at_call 17;(with_reducible refine (s2 ?_ ?hq3 ?hq4).mono ?_);(case hq3=>exact sS);(case hq4=>exact sS);rintro e w1 ⟨rfl,hxq⟩;obtain ⟨xq,rfl⟩:=hxq.out;clear hxq)
  | fail)
 go_ret;exact ⟨rfl,eX⟩
end Go.Proofs.YtmdahnkcnagkjaaGreat
