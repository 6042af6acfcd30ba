/- Lemmas of this claim, several texts joined. -/
import Derived.Test.YtmdahnkcnagkjaaGreatY5
import Derived.Test.YtmdahnkcnagkjaaGreatY10
import Derived.Test.YtmdahnkcnagkjaaGreatY26
import Derived.Test.YtmdahnkcnagkjaaGreatY28
import Derived.Test.YtmdahnkcnagkjaaGreatY31
import Derived.Test.YtmdahnkcnagkjaaGreatY38
import Derived.Test.YtmdahnkcnagkjaaGreatY40
import Derived.Test.YtmdahnkcnagkjaaGreatY43
set_option maxRecDepth 100000
open Go.Value renaming int -> Zz,slice -> Zy
open Go.IntKind renaming i64 -> Zx,u64 -> Zw,u32 -> Zv,u8 -> Zu
open List renaming setIfInBounds_toArray -> q0q, set_cons_succ -> q1q, set_cons_zero -> q2q, mem_cons -> q3q, not_mem_nil -> q4q, nil_append -> q5q, cons_append -> q6q, mem_append -> q7q, take_succ_cons -> q8q, take_zero -> q9q, drop_succ_cons -> q10q, drop_zero -> q11q, take_nil -> q12q, drop_nil -> q13q
open Go.IntWalk renaming i64_in -> q17q, rem_in -> q18q, wrap64_in -> q19q
set_option maxHeartbeats 8000000
set_option linter.unusedVariables false
set_option linter.unusedSimpArgs false
/- The walks of layer 17 of the document: walk, Decode, Places. -/
namespace Go.Pkt
open Go.Oct
def mj (A:List Fld):List Int:=(List.range A.length).map λ i=>((aL (A.take i):Nat):Int)
theorem mN (A:List Fld):(mj A).length=A.length:=by simp [mj]
theorem wJ (A:List Fld) (f:Fld):mj (A++[f])=mj A++[((aL A:Nat):Int)]:=by
 unfold mj;rw [aah,List.length_singleton,aa7,aaP]
 congr 1
 ·refine abu λ i hi=>?_;rw [aaD (by have:=aaW.1 hi;omega)]
 ·simp
end Go.Pkt
namespace Go.Proofs.YtmdahnkcnagkjaaGreat
open Go.RowKit Go.Sec Go.Oct Go.Pkt Go.Sec.R4 BigFrame
def m9 (r:List Fld × Int) (w:World)(e:Ending) (w':World):Prop:=∃ a c b d,e = .returned (.tuple #[Zy a r.1.length c, Zy b r.1.length d, Zz Zx r.2])/\cI 79 w' w.heap.size a r.1.length c r.1/\fA w' w.heap.size b r.1.length d (mj r.1)/\Ext w w'
theorem m9.err (w w':World)(e:Int) (hx:Ext w w'):m9 ([],e) w (.returned (.tuple #[Zy none 0 0, Zy none 0 0, Zz Zx e])) w':=⟨none,0,none,0,rfl,cI.nil _ _ _,fA.nil _ _,hx⟩
theorem _root_.z44q12{p:Prop}(h:p:=by
 have er:=Lib.hid (show r=([],3) by
  have hs:cY R=3:=by unfold cY;rw [aaf Zo,hSz,aal Zo]
  rw [hm.out,fb _ R hne (by rw [hs];decide),hs];rfl)
 clear hSz hRl hl hR hst hsl;go_wp2_with fail;(with_reducible refine (hget _ hS2).mono ?_);rintro e w5 ⟨rfl,hx5⟩;go_wp2_with fail;refine aab (v := .tuple #[Zy none 0 0, Zy none 0 0, Zz Zx 3]) (by simp [results,Tryz.results109,go_sem]) rfl ?_;rw [er.out];exact m9.err _ _ _ (hE.trans hx5)):p:=h
theorem qj (a:Option Addr)(n c:Nat) (b:List UInt8)(w:World)(hS:Sl w a n b) (hc:n<=c) (hn:n<=1000000) :
  Calls Tryz.prog 109 #[Zy a n c] w (m9 (bj b) w):=by
 have hl:=hS.len;by_cases h1:1232<n
 ·have er:=Lib.hid (show bj b=([],2) from aal Zo);have i1:(1232:Int)<(n:Int):=Zo;clear hl
  go_enter Tryz.func109,Tryz.ntmps109
  go_wp2_with fail;refine aab (v := .tuple #[Zy none 0 0, Zy none 0 0, Zz Zx 2]) (by simp [results,Tryz.results109,go_sem]) rfl ?_;rw [er.out];exact m9.err _ _ _ (Ext.refl _)
 ·have i1:¬ (1232:Int)<(n:Int):=by omega
  obtain ⟨r,hr⟩:∃ r,bj b=r:=⟨_,rfl⟩;have hr24:=Lib.hid (show fi 24 b=r by rw [<- hr];exact (aaf Zo).symm);rw [hr];clear hr
  go_enter Tryz.func109,Tryz.ntmps109
  go_wp2_with fail
  go_loopw [5,6,7,8] (λ v5 v6 v7 _ wr=>∃ (o:Nat) (A:List Fld) (la:Option Addr)(lc:Nat) (pa:Option Addr)(pc:Nat),o<=n/\A.length<=24/\v7 = Zz Zx o/\v5 = Zy la A.length lc/\v6 = Zy pa A.length pc/\aL A=o/\Hid (r=nO A (fi (24-A.length) (b.drop o)))/\nA 79 wr w.heap.size la A.length lc A/\fA wr w.heap.size pa A.length pc (mj A)/\Ext w wr) (λ _ _ v7 _ _=>n-(intOf v7).toNat)
  case atStart=>exact ⟨0,[],none,0,none,0,Zo,Zs,rfl,rfl,rfl,rfl,Lib.hid (by rw [<- hr24.out];exact (sr _ _).symm),nA.nil _ _ _,fA.nil _ _,Ext.refl _⟩
  case round =>
   obtain ⟨o,A,la,lc,pa,pc,ho,hA,rfl,rfl,rfl,hto,hm,hF,hP,hE⟩:=hrel;have hSr:=hS.ext hE;by_cases hlt:o<n
   ·obtain ⟨R,hR⟩:∃ R,b.drop o=R:=⟨_,rfl⟩;have hRl:R.length=n-o:=by rw [<- hR,aaR,hl]
    have hSR:=hSr.drop c o hc;rw [hR] at hSR hm;obtain ⟨b0,o0,rfl, -, -⟩:=hSr.at 0 Zo;have hAd:dX (some ⟨b0,o0,none⟩) c o 1=some ⟨b0,o0+o,none⟩:=by unfold dX;rw [aaf Zo];simp [Addr.add]
    rw [hAd] at hSR;clear hAd;have hne:R≠[]:=λ h=>by rw [h] at hRl;simp at hRl;omega
    have i2:(o:Int)<(n:Int):=Zo;have i3:(o:Int)<=(c:Int):=Zo;by_cases h4:n-o<4
    ·have i4:(n:Int)-(o:Int)<4:=by omega
     have er:=Lib.hid (show r=([],1) by
      have hs:cY R=1:=aal Zo;rw [hm.out,fb _ R hne (by rw [hs];decide),hs];rfl)
     go_wp2_with fail;refine aab (v := .tuple #[Zy none 0 0, Zy none 0 0, Zz Zx 1]) (by simp [results,Tryz.results109,go_sem]) rfl ?_;rw [er.out];exact m9.err _ _ _ hE
    ·have i4:¬ (n:Int)-(o:Int)<4:=by omega
     have i6:(o:Int)+4<=(c:Int):=Zo;have i7:(o:Int)+2<=(o:Int)+4:=Zo;have hsl:∀ k m,k<n->m<=n-k->Sl wr (some ⟨b0,o0+k,none⟩) m ((b.drop k).take m):=λ k m hk hm=>(mR hSr hc hk).take m hm;have hS2:=hsl (o+2) 2 Zo Zo;rw [<- abi,hR] at hS2;have hget:=λ W H=>jD (some ⟨b0,o0+(o+2),none⟩) 2 (c-(o+2)) ((R.drop 2).take 2) W H Zo;rw [pg] at hget;obtain ⟨S,hSz⟩:∃ S,dk R=S:=⟨_,rfl⟩;have hSlt:=qo R;have hst:4<=R.length:=Zo;rw [hSz] at hget hSlt;by_cases hq:S % 4=0
     ·by_cases hq2:S<16
      ·exact z44q12
      ·by_cases hq3:n-o<S
       ·have er:=Lib.hid (show r=([],1) by
         have hs:cY R=1:=by unfold cY;rw [aaf Zo,hSz,aaf Zo,aal Zo]
         rw [hm.out,fb _ R hne (by rw [hs];decide),hs];rfl)
        have iq3:(n:Int)-(o:Int)<(S:Int):=Zo;clear hSz hRl hl hR hst hsl;go_wp2_with fail;(with_reducible refine (hget _ hS2).mono ?_);rintro e w5 ⟨rfl,hx5⟩;go_wp2_with fail;refine aab (v := .tuple #[Zy none 0 0, Zy none 0 0, Zz Zx 1]) (by simp [results,Tryz.results109,go_sem]) rfl ?_;rw [er.out];exact m9.err _ _ _ (hE.trans hx5)
       ·have hs:cY R=0:=by unfold cY;rw [aaf Zo,hSz,aaf Zo,aaf Zo]
        have iq3:¬ (n:Int)-(o:Int)<(S:Int):=Zo;by_cases hq4:A.length=24
        ·have er:=Lib.hid (show r=([],8) by
          rw [hm.out,hq4,ki R hne hs];rfl)
         have iq4:(A.length:Int)=24:=Zo;clear hSz hRl hl hR hst hsl;go_wp2_with fail;(with_reducible refine (hget _ hS2).mono ?_);rintro e w5 ⟨rfl,hx5⟩;go_wp2_with fail;refine aab (v := .tuple #[Zy none 0 0, Zy none 0 0, Zz Zx 8]) (by simp [results,Tryz.results109,go_sem]) rfl ?_;rw [er.out];exact m9.err _ _ _ (hE.trans hx5)
        ·obtain ⟨q,hq5⟩:∃ q,24-A.length=q+1:=⟨24-A.length-1,Zo⟩;have hm2:=Lib.hid (show r=nO (A++[eE R]) (fi (24-(A++[eE R]).length) (b.drop (o+S))) by
          rw [hm.out,hq5,iG q R hne hs,qv,hSz,aah,<- hR,abi]
          congr 2
          simp;omega)
         have iq4:¬ (A.length:Int)=24:=Zo;have hfl:=mC hs;have htot:=eM A (eE R);have hpl:=wJ A (eE R);have hfd:(eE R)=(((bR (R.take 2):Nat):Int),(R.take S).drop 4):=by unfold eE;rw [hSz]
         rw [hSz] at hfl;rw [hfl.2,hto] at htot;rw [hto] at hpl;have hS4:=hsl (o+4) (S-4) Zo Zo;rw [<- abi,hR,<- List.drop_take] at hS4;have hSt:=hsl o 2 Zo Zo;rw [hR] at hSt;have hgt:=λ W H=>jD (some ⟨b0,o0+o,none⟩) 2 (c-o) (R.take 2) W H Zo;rw [oy] at hgt;have hTlt:=fP R;have hXl:((R.take S).drop 4).length=S-4:=by have:=hfl.1;rw [hfd] at this;simp only at this;omega
         rw [hfd] at hm2 htot hpl;have hb0:b0<w.heap.size:=hS.lt Zo b0 o0 rfl;clear hfd hfl;generalize bR (R.take 2)=T at *;generalize (R.take S).drop 4=X at *;clear hSz hRl hl hR hst hs hq5 hsl;go_wp2_with fail;(with_reducible refine (hget _ hS2).mono ?_);rintro e W ⟨rfl,hx5⟩;have hE:=hE.trans hx5;have hF:=hF.ext hx5;have hP:=hP.ext hx5;have hSt:=hSt.ext hx5;have hS4:=hS4.ext hx5;clear hx5 hget hS2 hSr hSR;have j1:(o:Int)+2<=(c:Int):=Zo;have j2:(o:Int)+4<=(o:Int)+(S:Int):=Zo;have j3:(o:Int)+(S:Int)<=(c:Int):=Zo;have j5:¬ c=o:=Zo;have j7:(0:Int)<=(o:Int):=Zo;have j8:(o:Int)<=(o:Int)+2:=Zo;have j9:((o:Int)+2).toNat=o+2:=Zo;have j10:(0:Int)<=(o:Int)+4:=Zo;have j11:((o:Int)+4).toNat=o+4:=Zo;have j12:((o:Int)+(S:Int)).toNat=o+S:=Zo;have j13:o+2-o=2:=Zo;have j14:o+S-(o+4)=S-4:=Zo;have j6:¬ c=o+4:=Zo;have hBW:=hE.size;have hFo:∀ g,la.map (·.block)=some g->w.heap.size<=g/\g<W.heap.size:=λ g e=>by
          obtain ⟨_,xs,h2,_⟩:=hF;exact fv h2 g (by rw [eQ];exact e)
         have hPo:∀ g,pa.map (·.block)=some g->w.heap.size<=g/\g<W.heap.size:=λ g e=>fv hP.2 g (by rw [eQ];exact e);obtain ⟨G,hGe⟩:∃ G,G=obL la++obL pa:=⟨_,rfl⟩;have hGm:∀ k,k∈G ↔ la.map (·.block)=some k\/pa.map (·.block)=some k:=λ k=>by rw [hGe,q7q,vE,vE]
         have hG:∀ k∈G,w.heap.size<=k/\k<W.heap.size:=λ k hk=>((hGm k).1 hk).elim (hFo k) (hPo k);have hX1:kx (λ k=>k∈G/\la.map (·.block)≠some k) 79 W w.heap.size la A.length lc A:=hF.toX λ k hk=>by
          have hpk:=((hGm k).1 hk.1).resolve_left hk.2;obtain ⟨vs,hB⟩:=hP.blk k (by rw [eQ];exact hpk);exact ⟨3,vs,hB,Zd,Zd⟩
         have hdj:∀ g,pa.map (·.block)=some g->g ∉ (la.map (·.block)).toList:=λ g e hm=>by
          have he:la.map (·.block)=some g:=by
           cases hl:la.map (·.block) with
           | none=>rw [hl] at hm;cases hm
           | some g'=>rw [hl] at hm;simp at hm;rw [hm]
          obtain ⟨vs,hB⟩:=hP.blk g (by rw [eQ];exact e);obtain ⟨_,xs,h2,_⟩:=hF;exact ej h2 hB Zd (by rw [eQ];exact he)
         have hb0G:∀ o m,rN (· ∈ G) (some ⟨b0,o,none⟩) m:=λ o m => .inr λ b o' e hk=>by
          injection e with e;injection e with e1 e2;subst e1
          have:=(hG b0 hk).1;omega
         clear hGe hF;go_wp2_with fail;refine R4.ae 24 [[],[],[],[],[3],[1,2,3,4],[1,2,3,4,5],[1,2,3,4,5,6],[],[],[9],[],[],[11,12],[8,9,10,11,12,13],[8,9,10,11,12,13,14],[1,2,3,4,5,6,8,9,10,11,12,13,14,15],[1,2,3,4,5,6,7,8,9,10,11,12,13,14,15,16],[1,2,3,4,5,6,7,8,9,10,11,12,13,14,15,16,17],[0,1,2,3,4,5,6,7,8,9,10,11,12,13,14,15,16,17,18],[],[],[21],[0,1,2,3,4,5,6,7,8,9,10,11,12,13,14,15,16,17,18,19,20,21,22],[0,1,2,3,4,5,6,7,8,9,10,11,12,13,14,15,16,17,18,19,20,21,22,23],[0,1,2,3,4,5,6,7,8,9,10,11,12,13,14,15,16,17,18,19,20,21,22,23,24]] G Zk Zk Zk Zk ?_;simp only [q8q,q9q,q10q,q11q,q12q,q13q];(repeat (apply R4.aj;(case h=>(intro us w' hx hf;refine ⟨rfl,?_⟩;simp [go_sem,execOp, *];(try simp (disch:=omega) only [q17q,q18q,q19q]);rfl));(try simp only [Act.put,q0q,q1q,q2q])));(refine R4.ao (λ _ => Zz Zw ((T:Nat):Int)) (λ _ _=>True) ⟨(λ _ h=>by cases h),λ _ _ _ _ _=>trivial⟩ (λ us w' hx hf=>⟨rfl,?_⟩) ?_;(unfold gives;simp [go_sem,execOp];refine (hgt _ (tV hSt hx (hb0G _ _))).mono ?_;rintro e w1 ⟨rfl,hx1⟩;first|exact ⟨rfl,hx1⟩|simpa using hx1));(repeat (apply R4.aj;(case h=>(intro us w' hx hf;refine ⟨rfl,?_⟩;simp [go_sem,execOp, *];(try simp (disch:=omega) only [q17q,q18q,q19q]);rfl));(try simp only [Act.put,q0q,q1q,q2q])));(refine R4.ao (λ p => .slice (p 0).1 1 1) (λ p w''=>∃ bq,(p 0).1=some ⟨bq,0,none⟩/\W.heap.size<=bq/\Rd w'' (some ⟨bq,0,none⟩) [Zy (some ⟨b0,o0+(o+4),none⟩) (S-4) (c-(o+4))]) ⟨(λ _ h=>by cases h),λ p w1 w2 ⟨bq,h1,h2,h3⟩ hx=>⟨bq,h1,h2,rG h3 hx (λ hn=>by have:=hG bq hn.1;omega)⟩⟩ (λ us w' hx hf=>⟨rfl,?_⟩) ?_;(unfold gives;simp [go_sem,execOp];exact ⟨λ _=>(some ⟨w'.heap.size,0,none⟩,0),rfl,Ext.of_alloc _ _,_,rfl,hx.size,(Blk.new w' _ _).rd⟩));(refine R4.ao (λ p => .slice (p 0).1 (S-4) (p 0).2) (λ p w''=>Own w'' W.heap.size (p 0).1 (S-4) (p 0).2 X) ⟨(λ _ h=>by cases h),λ p w1 w2 h hx=>vl h hx (λ k hk=>(hG k hk.1).2)⟩ (λ us w' hx hf=>⟨rfl,?_⟩) ?_;(unfold gives;simp [go_sem,execOp];obtain ⟨bq,e1,e2,e3⟩:=(hf _ (aad _ (aaa _)) rfl);rw [e1];exact aA hx.size (by have:=aZ (some ⟨bq,0,none⟩) 1 1 [X] w' (Am e3 (tV hS4 hx (hb0G _ _))) Zo (S-4) (by rw [cz];exact hXl) Zo;rw [cz] at this;exact this)));(repeat (apply R4.aj;(case h=>(intro us w' hx hf;refine ⟨rfl,?_⟩;simp [go_sem,execOp, *];(try simp (disch:=omega) only [q17q,q18q,q19q]);rfl));(try simp only [Act.put,q0q,q1q,q2q])));(refine R4.ao (λ p => .slice (p 0).1 1 1) (λ p w''=>∃ bq,(p 0).1=some ⟨bq,0,none⟩/\W.heap.size<=bq/\Rd w'' (some ⟨bq,0,none⟩) [Zz Zx ((T:Nat):Int), .slice (p 1).1 (S-4) (p 1).2]/\Own w'' W.heap.size (p 1).1 (S-4) (p 1).2 X) ⟨(λ _ h=>by cases h),λ p w1 w2 ⟨bq,h1,h2,h3,h4⟩ hx=>⟨bq,h1,h2,rG h3 hx (λ hn=>by have:=hG bq hn.1;omega),vl h4 hx (λ k hk=>(hG k hk.1).2)⟩⟩ (λ us w' hx hf=>⟨rfl,?_⟩) ?_;(unfold gives;simp [go_sem,execOp];have hO:=(hf _ (aad _ (aaa _)) rfl);exact ⟨λ i=>if i=0 then (some ⟨w'.heap.size,0,none⟩,0) else us 16 0,rfl,Ext.of_alloc _ _,_,rfl,hx.size,(Blk.new w' _ _).rd,hO.ext (Ext.of_alloc _ _)⟩));(refine R4.AO (la.map (·.block)) (λ g e=>(hGm g).2 (.inl e)) (λ _ _ h=>by cases h) (λ p => .slice (p 0).1 (A.length+1) (p 0).2) (λ p w''=>kx (λ k=>k∈G/\la.map (·.block)≠some k) 79 w'' w.heap.size (p 0).1 (A.length+1) (p 0).2 (A++[(((T:Nat):Int),X)])) (λ p w1 w2 h hx=>h.chg hx) (λ us w' hx hf=>⟨rfl,?_⟩) ?_;(obtain ⟨bq,e1,e2,e3,e4⟩:=(hf _ (aad _ (aaa _)) rfl);obtain ⟨sa,sc,w2,r1,r2,r3⟩:=rI VF w' _ w.heap.size la A.length lc A (hX1.chg hx) bq ((T:Nat):Int) _ (S-4) _ X e3 e4.sl e4.le.1 (Own.inT e4 Zd) (Af e4 (λ k hk=>(hG k hk.1).2)) (Bn e4) Zd (λ k hk=>aaj (hG k hk.1).2 hx.size) 1 Zo (aaq hBW hx.size);exact R5.gj (s := .tmp 45) (x := .tmp 63) rfl rfl (by show Value.slice (us 18 0).1 1 1=_;rw [e1]) r1 ⟨λ _=>(sa,sc),rfl,by have:=Chg.of_grown r3;rwa [eQ] at this,r2⟩));(repeat (apply R4.aj;(case h=>(intro us w' hx hf;refine ⟨rfl,?_⟩;simp [go_sem,execOp, *];(try simp (disch:=omega) only [q17q,q18q,q19q]);rfl));(try simp only [Act.put,q0q,q1q,q2q])));(refine R4.ao (λ p => .slice (p 0).1 1 1) (λ p w''=>∃ bq,(p 0).1=some ⟨bq,0,none⟩/\W.heap.size<=bq/\Rd w'' (some ⟨bq,0,none⟩) [Zz Zx ((o:Nat):Int)]) ⟨(λ _ h=>by cases h),λ p w1 w2 ⟨bq,h1,h2,h3⟩ hx=>⟨bq,h1,h2,rG h3 hx (λ hn=>by have:=hG bq hn.1;omega)⟩⟩ (λ us w' hx hf=>⟨rfl,?_⟩) ?_;(unfold gives;simp [go_sem,execOp];exact ⟨λ _=>(some ⟨w'.heap.size,0,none⟩,0),rfl,Ext.of_alloc _ _,_,rfl,hx.size,(Blk.new w' _ _).rd⟩));(refine R4.AO (pa.map (·.block)) (λ g e=>(hGm g).2 (.inr e)) (λ g e=>by rw [q5q];exact hdj g e) (λ p => .slice (p 0).1 (A.length+1) (p 0).2) (λ p w''=>fA w'' w.heap.size (p 0).1 (A.length+1) (p 0).2 (mj A++[((o:Nat):Int)])/\∀ g,(Value.slice (p 0).1 (A.length+1) (p 0).2).ownBlock=some g->¬ (g∈G/\pa.map (·.block)≠some g)) (λ p w1 w2 h hx=>⟨h.1.chg hx h.2,h.2⟩) (λ us w' hx hf=>⟨rfl,?_⟩) ?_;(obtain ⟨bq,e1,e2,e3⟩:=(hf _ (aad _ (aaa _)) rfl);obtain ⟨sa,sc,w2,r1,r2,r3,r4⟩:=qQ w' _ w.heap.size pa A.length pc (mj A) (hP.chg hx (λ g e hk=>hk.2 (by rw [<- eQ pa A.length pc];exact e))) bq _ e3 1 Zo (aaq hBW hx.size);exact R5.gj (s := .tmp 65) (x := .tmp 67) rfl rfl (by show Value.slice (us 22 0).1 1 1=_;rw [e1]) r1 ⟨λ _=>(sa,sc),rfl,by have:=Chg.of_grown r3;rwa [eQ] at this,r2,λ g eg hk=>by
          rcases r4 with r4|r4
          ·rw [r4] at eg;exact hk.2 (by rw [<- eQ pa A.length pc];exact eg)
          ·rw [r4] at eg;injection eg with eg;have:=(hG g hk.1).2;have:=hx.size;omega⟩))
         (refine R4.aB ?_;intro us w' hx hf hd;(try simp only [Act.put,q0q,q1q,q2q,ai]);(try simp only [q3q,q4q,aar,aac,aan,q5q,q6q,q7q,aat,aau,aav] at hf);(try simp only [Nat.reduceAdd,aag] at hf ⊢));obtain ⟨-, -, -,hF2, -,hP2, -⟩:=hf;have hE2:Ext w w':=Below.trans hE ⟨hx.1,hx.2.1,hx.2.2.1,hx.size,λ k hk=>hx.block k (aaj hk hBW) (λ hkG=>by have:=(hG k hkG).1;omega)⟩;obtain ⟨sa,hsa⟩:∃ a,(us 19 0).1=a:=⟨_,rfl⟩;obtain ⟨sc,hsc⟩:∃ a,(us 19 0).2=a:=⟨_,rfl⟩;obtain ⟨ja,hja⟩:∃ a,(us 23 0).1=a:=⟨_,rfl⟩;obtain ⟨jc,hjc⟩:∃ a,(us 23 0).2=a:=⟨_,rfl⟩;rw [hsa,hsc] at hF2 ⊢;rw [hja,hjc] at hP2 ⊢;clear hsa hsc hja hjc hx hd hX1 hdj hb0G hG hGm hgt;go_wp2_with fail;go_roundw
         case rel=>exact ⟨o+S,A++[(((T:Nat):Int),X)],sa,sc,ja,jc,Zo,by simp;omega,Zg,by rw [aah];rfl,by rw [aah];rfl,htot,hm2,by rw [aah];exact hF2.ownU,by rw [aah,hpl];exact hP2,hE2⟩
         case measure=>simp [intOf];omega
     ·exact z44q12
   ·obtain rfl:o=n:=by omega
    have i2:¬ (o:Int)<(o:Int):=Zo;have er:=Lib.hid (show r=(A,0) by rw [hm.out,aaK Zo,lR];simp [nO]);go_wp2_with fail;refine aab (v := .tuple #[Zy la A.length lc, Zy pa A.length pc, Zz Zx 0]) (by simp [results,Tryz.results109,go_sem]) rfl ?_;rw [er.out];exact ⟨la,lc,pa,pc,rfl,hF.ownI,hP,hE⟩
theorem jh (a:Option Addr)(n c:Nat) (b:List UInt8)(w:World)(hS:Sl w a n b) (hc:n<=c) (hn:n<=1000000) :
  Calls Tryz.prog 70 #[Zy a n c] w (ta (bj b) w):=by
 have hw:=qj a n c b w hS hc hn;generalize bj b=r at *
 go_enter Tryz.func70,Tryz.ntmps70
 go_wp2_with fail;(with_reducible refine hw.mono ?_);rintro e w1 ⟨a1,c1,a2,c2,rfl,h1,h2,hx⟩;go_wp2_with fail;refine aab (v := .tuple #[Zy a1 r.1.length c1, Zz Zx r.2]) (by simp [results,Tryz.results70,go_sem]) rfl ?_;exact ⟨a1,c1,rfl,h1,hx⟩
def DD (r:List Fld × Int) (w:World)(e:Ending) (w':World):Prop:=∃ b d,e = .returned (.tuple #[Zy b r.1.length d, Zz Zx r.2])/\fA w' w.heap.size b r.1.length d (mj r.1)/\Ext w w'
theorem rC (a:Option Addr)(n c:Nat) (b:List UInt8)(w:World)(hS:Sl w a n b) (hc:n<=c) (hn:n<=1000000) :
  Calls Tryz.prog 88 #[Zy a n c] w (DD (bj b) w):=by
 have hw:=qj a n c b w hS hc hn;generalize bj b=r at *
 go_enter Tryz.func88,Tryz.ntmps88
 go_wp2_with fail;(with_reducible refine hw.mono ?_);rintro e w1 ⟨a1,c1,a2,c2,rfl,h1,h2,hx⟩;go_wp2_with fail;refine aab (v := .tuple #[Zy a2 r.1.length c2, Zz Zx r.2]) (by simp [results,Tryz.results88,go_sem]) rfl ?_;exact ⟨a2,c2,rfl,h2,hx⟩
theorem iZ (t:Int) (a:Option Addr)(n c:Nat) (L:List Fld) (w:World)(hI:Ib w a n L) (hn:n<=1000000) :
  Calls Tryz.prog 65 #[Zy a n c, Zz Zx t] w λ e w'=>∃ b d,e = .returned (Zy b (ixs t L L.length).length d)/\fA w' w.heap.size b (ixs t L L.length).length d ((ixs t L L.length).map λ i=>((i:Nat):Int))/\Ext w w':=by
 have hl:=hI.len;obtain ⟨R,hR⟩:∃ R,ixs t L L.length=R:=⟨_,rfl⟩;rw [hR];replace hR:=Lib.hid hR
 go_enter Tryz.func65,Tryz.ntmps65
 go_wp2_with fail
 go_loopw [5,6] (λ v5 v6 wr=>∃ (k:Nat) (M:List Nat) (b:Option Addr)(d:Nat),k<=n/\v6 = Zz Zx k/\Hid (ixs t L k=M)/\M.length<=k/\v5 = Zy b M.length d/\fA wr w.heap.size b M.length d (M.map λ i=>((i:Nat):Int))/\Ext w wr) (λ _ v6 _=>n-(intOf v6).toNat)
 case atStart=>exact ⟨0,[],none,0,Zo,rfl,Lib.hid (xS t L),Zs,rfl,fA.nil _ _,Ext.refl _⟩
 case round =>
  obtain ⟨k,M,b,d,hk,rfl,hM,hMk,rfl,hO,hx⟩:=hrel;by_cases hlt:k<n
  ·obtain ⟨y,hxi⟩:∃ y,L[k]?=some y:=⟨_,List.getElem?_eq_getElem Zo⟩;obtain ⟨b0,o0,g',c',rfl,hb0,hc0,hc1,hSk,hck⟩:=(hI.ext hx).at k hlt _ hxi;have hyd:L.getD k (0,[])=y:=by rw [List.getD_eq_getElem?_getD,hxi];rfl
   have i0:(0:Int)<=(k:Int):=Zo;have i1:(k:Int)<(n:Int):=Zo;haveI:=hb0;by_cases ht:y.1=t
   ·have it:(y.1 == t)=true:=by rw [abd];exact ht
    have hM2:=Lib.hid (show ixs t L (k+1)=M++[k] by rw [lE (by rw [hyd];exact ht),hM.out]);clear ht hyd;have hxw:=hx.size
    go_wp2_with (first
     | (at_builtin;refine nC rfl _ _ rfl w.heap.size b M.length d (M.map λ i=>((i:Nat):Int)) rfl wr.heap.size 1 k rfl (hO.ext (Ext.of_alloc _ _)) (Blk.new wr #[Zz Zx k] 3).rd Zo (aaq hxw (Ext.of_alloc wr (.cells #[Zz Zx k] 3)).size) ?_;intro sa sc w2 hO2 hg2 hB2)
     | fail)
    go_roundw
    case rel=>exact ⟨k+1,M++[k],sa,sc,Zo,Zg,hM2,by simp;omega,by rw [aah];rfl,by rw [aah,aaP];exact hO2,Below.trans (hx.alloc _) hB2⟩
    case measure=>simp [intOf];omega
   ·have it:(y.1 == t)=false:=by rw [aaz];exact ht
    have hM2:=Lib.hid (show ixs t L (k+1)=M by rw [me (by rw [hyd];exact ht),hM.out]);clear ht hyd;go_wp2_with fail;go_roundw
    case rel=>exact ⟨k+1,M,b,d,Zo,Zg,hM2,Zo,rfl,hO,hx⟩
    case measure=>simp [intOf];omega
  ·obtain rfl:k=n:=by omega
   have i1:¬ (k:Int)<(k:Int):=Zo;have hRM:R=M:=by rw [<- hR.out,hl,hM.out]
   go_wp2_with fail;refine aab (v := Zy b M.length d) (by simp [results,Tryz.results65,go_sem]) rfl ?_;exact ⟨b,d,rfl,hO,hx⟩
end Go.Proofs.YtmdahnkcnagkjaaGreat

/- The walks of layer 17 of the document: Size, Encode. -/
namespace Go.Pkt
theorem wW {L:List Fld} (h:fj L=0) (j:Nat):aL (L.take j)<=1232*j:=by
 induction j with
 | zero=>simp [aL]
 | succ j ih =>
  by_cases hj:j<L.length
  ·rw [aaA hj,eM];have:=(vd h _ (aaN hj)).2;omega
  ·rw [aak Zo] at ih ⊢;omega
end Go.Pkt
namespace Go.Sec
open Go.RowKit
def C8:Value->Nat
 | Zy _ m _=>m
 | _=>0
theorem Own.belowB {w w':World} {base n c B:Nat} {a:Option Addr} {l:List UInt8} (h:Own w base a n c l) (hx:Below B w w') (hlt:∀ g,(Value.slice a n c).ownBlock=some g->g<B):Own w' base a n c l:=by
 refine ⟨h.1,h.2.1,?_⟩;rcases h.2.2 with h1|⟨g',cap,cur,hv,hb,hh,r⟩
 ·exact .inl h1
 ·refine .inr ⟨g',cap,cur,hv,hb,?_,r⟩;rw [hx.block g' (hlt g' (by rw [hv];rfl))];exact hh
end Go.Sec
namespace Go.Proofs.YtmdahnkcnagkjaaGreat
open Go.RowKit Go.Sec Go.Oct Go.Pkt BigFrame
theorem oQ (f:Fld) (a:Option Addr)(c:Nat) (w:World)(h:f.2.length<=1000000000) :
  Calls Tryz.prog 110 #[.agg #[Zz Zx f.1, Zy a f.2.length c]] w λ e w'=>e = .returned (.tuple #[Zz Zx (cR f).1, Zz Zx (cR f).2])/\Ext w w':=by
 obtain ⟨t,l⟩:=f;simp only at h ⊢;have es:max (16:Int) ((4+(l.length:Int)+3) / 4*4)=(szN l.length:Nat):=by unfold szN;omega
 have hge:=jW l.length;by_cases h1:t<0
 ·have er:=Lib.hid (show cR (t,l)=(0,4) by unfold cR;rw [aal (.inl h1)]);clear es
  go_enter Tryz.func110,Tryz.ntmps110
  go_wp2_with fail;go_ret2;exact ⟨by rw [er.out];rfl,eX⟩
 ·by_cases h2:65535<t
  ·have er:=Lib.hid (show cR (t,l)=(0,4) by unfold cR;rw [aal (.inr h2)]);clear es
   go_enter Tryz.func110,Tryz.ntmps110
   go_wp2_with fail;go_ret2;exact ⟨by rw [er.out];rfl,eX⟩
  ·by_cases h3:1232<l.length
   ·have er:=Lib.hid (show cR (t,l)=(0,2) by unfold cR;rw [aaf (by simp;omega),aal (by simp only;omega)]);have i3:(1232:Int)<(l.length:Int):=Zo;clear es
    go_enter Tryz.func110,Tryz.ntmps110
    go_wp2_with fail;go_ret2;exact ⟨by rw [er.out];rfl,eX⟩
   ·have i3:¬ (1232:Int)<(l.length:Int):=by omega
    by_cases h4:1232<szN l.length
    ·have er:=Lib.hid (show cR (t,l)=(0,2) by unfold cR;rw [aaf (by simp;omega),aal h4]);have i4:(1232:Int)<max (16:Int) ((4+(l.length:Int)+3) / 4*4):=Zo;clear es
     go_enter Tryz.func110,Tryz.ntmps110
     go_wp2_with fail;go_ret2;exact ⟨by rw [er.out];rfl,eX⟩
    ·have er:=Lib.hid (show cR (t,l)=(((szN l.length:Nat):Int),0) by unfold cR;rw [aaf (by simp;omega),aaf h4]);have i4:¬ (1232:Int)<max (16:Int) ((4+(l.length:Int)+3) / 4*4):=Zo;have es:=Lib.hid es
     go_enter Tryz.func110,Tryz.ntmps110
     go_wp2_with fail;go_ret2;exact ⟨by rw [er.out,<- es.out];rfl,eX⟩
theorem e9 (a:Option Addr)(n c:Nat) (L:List Fld) (w:World)(hI:Ib w a n L) (hn:n<=1000000) (hL:∀ f∈L,f.2.length<=1000000) :
  Calls Tryz.prog 71 #[Zy a n c] w (bJ (aO L).1.length (aO L).1 (Zz Zx (aO L).2) w):=by
 have hl:=hI.len;obtain ⟨r,hr⟩:∃ r,aO L=r:=⟨_,rfl⟩;rw [hr];have hr:=Lib.hid hr;have hp2:∀ (v:UInt64) (vI:Int),vI=n64 v->∀ W,Calls Tryz.prog 56 #[Zz Zw vI, Zz Zx 2] W (cj 2 (aH 2 v) W):=λ v vI hv W=>by subst hv;exact ka v 2 W Zo
 go_enter Tryz.func71,Tryz.ntmps71
 go_wp2_with fail
 go_loopw [4,5,6,7] (λ v4 v5 _ _ wr=>∃ k:Nat,k<=n/\v5 = Zz Zx k/\v4 = Zz Zx (aL (L.take k):Nat)/\aL (L.take k)<=1232*k/\Hid (fj (L.take k)=0)/\Ext w wr) (λ _ v5 _ _ _=>n-(intOf v5).toNat)
 case atStart=>exact ⟨0,Zo,rfl,rfl,by simp [aL],Lib.hid rfl,Ext.refl _⟩
 case round =>
  obtain ⟨k,hk,rfl,rfl,hkt,hbad,hx⟩:=hrel;by_cases hlt:k<n
  ·obtain ⟨x,hxi⟩:∃ x,L[k]?=some x:=⟨_,List.getElem?_eq_getElem Zo⟩;have hxl:=hL x (List.mem_of_getElem? hxi);obtain ⟨b0,o0,g',c',rfl,hb0,hc0,hc1,hSk,hck⟩:=(hI.ext hx).at k hlt _ hxi;have hrd:=rd2 hb0.lt hc0 hc1;have i0:(0:Int)<=(k:Int):=Zo;have i1:(k:Int)<(n:Int):=Zo;have hsz:=λ W=>oQ x g' c' W Zo;have hts:=Lib.hid (nJ hxi);haveI:=hb0;by_cases he:(cR x).2=0
   ·obtain ⟨-,hzz,hze⟩:=vA he;have htt:=eM (L.take k) x;rw [<- hts.out] at htt;have hb2:=Lib.hid (show fj (L.take (k+1))=0 by rw [hts.out,n9 _ _ hbad.out,fj,aaf (by simpa using he)];rfl);rw [hze] at hsz;generalize szN x.2.length=N at *;clear he hze
    go_wp2_with (first
     | (refine af RF2 rfl _ rfl b0 (o0+k*2) rfl _ hrd rfl ?_)
     | (go_at_call 110;refine (hsz _).mono ?_;rintro e w1 ⟨rfl,hxq⟩;obtain ⟨xq,rfl⟩:=hxq.out;clear hxq)
     | fail)
    go_roundw
    case rel=>exact ⟨k+1,Zo,Zg,by rw [htt];go_num,Zo,hb2,hx.trans eX⟩
    case measure=>simp [intOf];omega
   ·have he2:=Lib.hid (show r=([],(cR x).2) by
     rw [<- hr.out];unfold aO;rw [vG hxi hbad.out he,aal he])
    have hne:((cR x).2 != 0)=true:=by rw [aax];exact he
    generalize (cR x).2=ev at *;generalize (cR x).1=sv at *;clear he
    go_wp2_with (first
     | (refine af RF2 rfl _ rfl b0 (o0+k*2) rfl _ hrd rfl ?_)
     | (go_at_call 110;refine (hsz _).mono ?_;rintro e w1 ⟨rfl,hxq⟩;obtain ⟨xq,rfl⟩:=hxq.out;clear hxq)
     | fail)
    go_ret2;rw [he2.out];exact aF _ _ _ (hx.trans eX)
  ·obtain rfl:k=n:=by omega
   rw [aak Zo] at *;by_cases h24:24<k
   ·exact z38q42
   ·have i24:¬ (24:Int)<(k:Int):=by omega
    by_cases hlo:1232<aL L
    ·have er:=Lib.hid (show r=([],2) by rw [<- hr.out];unfold aO;rw [hbad.out,aaf Zs,aaf Zo,aal hlo]);have il:(1232:Int)<(aL L:Nat):=Zo;go_wp2_with fail;go_ret2;rw [er.out];exact aF _ _ _ hx
    ·have er:=Lib.hid (show r=(aT L,0) by rw [<- hr.out];unfold aO;rw [hbad.out,aaf Zs,aaf Zo,aaf hlo]);have il:¬ (1232:Int)<(aL L:Nat):=Zo;have hbl2:=bf L;have hxr:=hx;have hxw:=hx.size;have hbd:=Lib.hid hbad.out;go_wp2_with fail;clear hr hbad hx;refine df ?_;intro W0 hW0;have hO0:Own W0 w.heap.size (some ⟨wr.heap.size,0,none⟩) 0 0 []:=by rw [hW0];exact (fD wr).mono hxw
     have hx0:Ext w W0:=by rw [hW0];exact hxr.alloc _
     clear hW0
     go_loopw [8,9,10,11,12] (λ v8 v9 _ _ _ wr=>∃ (j:Nat) (sa:Option Addr)(sc:Nat),j<=k/\v9 = Zz Zx j/\v8 = Zy sa (aL (L.take j)) sc/\Own wr w.heap.size sa (aL (L.take j)) sc (aT (L.take j))/\Ext w wr) (λ _ v9 _ _ _ _=>k-(intOf v9).toNat)
     case atStart=>exact ⟨0,_,_,Zo,rfl,rfl,hO0,hx0⟩
     case round =>
      clear hO0 hx0 hxr hxw;obtain ⟨j,sa,sc,hj,rfl,rfl,hO,hx⟩:=hrel;by_cases hlt:j<k
      ·obtain ⟨y,hxi⟩:∃ y,L[j]?=some y:=⟨_,List.getElem?_eq_getElem Zo⟩;have hxl:=hL y (List.mem_of_getElem? hxi);obtain ⟨⟨t0,t1⟩,hzz⟩:=vd hbd.out y (List.mem_of_getElem? hxi);obtain ⟨b0,o0,g',c',rfl,hb0,hc0,hc1,hSk,hck⟩:=(hI.ext hx).at j hlt _ hxi;have hrd:=rd2 hb0.lt hc0 hc1;have i0:(0:Int)<=(j:Int):=Zo;have i1:(j:Int)<(k:Int):=Zo;have hsz:=λ W=>oQ y g' c' W Zo;have hts:=Lib.hid (nJ hxi);have htt:=eM (L.take j) y;rw [<- hts.out] at htt;have hze:cR y=(((szN y.2.length:Nat):Int),0):=by unfold cR;rw [aaf Zo,aaf Zo]
       rw [hze] at hsz;have hzg:=jW y.2.length;obtain ⟨N,hN⟩:∃ N,szN y.2.length=N:=⟨_,rfl⟩;have hfB:dt y=aH 2 (UInt64.ofNat y.1.toNat)++(aH 2 (UInt64.ofNat N)++y.2)++List.replicate (N-(4+y.2.length)) 0:=by
        unfold dt;rw [hN,show N-4-y.2.length=N-(4+y.2.length) by omega];simp [aao]
       have hfB:=Lib.hid hfB;rw [hN] at hsz hzz hzg htt;have hN:=Lib.hid hN;haveI:=hb0;clear hze
       go_wp2_with (first
        | (refine af RF2 rfl _ rfl b0 (o0+j*2) rfl _ hrd rfl ?_)
        | (go_at_call 110;refine (hsz _).mono ?_;rintro e w1 ⟨rfl,hxq⟩;obtain ⟨xq,rfl⟩:=hxq.out;clear hxq)
        | fail)
       refine df ?_;intro W hW;have hxW:Ext wr W:=by rw [hW];exact eX
       have hc0:=(hxW.cell (p:=⟨b0,_,none⟩) hb0.lt).trans hc0;have hc1:=(hxW.cell (p:=⟨b0,_,none⟩) hb0.lt).trans hc1;have hSW:=hSk.ext hxW;have hOW:=hO.ext hxW;have hxw:=hx.trans hxW;have hbW:BlkLt b0 W:=⟨aaj hb0.lt hxW.size⟩;clear hW hxW hrd hO hx hSk;haveI:=hbW;have hv1:IntKind.u64.wrap y.1=n64 (UInt64.ofNat y.1.toNat):=by rw [aaL];unfold n64;rw [aaO];omega
       have hv2:IntKind.u64.wrap (N:Int)=n64 (UInt64.ofNat N):=by rw [aaL];unfold n64;rw [aaO];omega
       have hpa:=hp2 _ _ hv1;have hpb:=hp2 _ _ hv2;clear hv1 hv2;refine ae 15 [[],[],[0,1],[0,1,2],[0,1,2,3],[0,1,2,3,4],[0,1,2,3,4,5],[],[7],[0,1,2,3,4,5,6,7,8],[],[],[10,11],[10,11,12],[10,11,12,13],[0,1,2,3,4,5,6,7,8,9,10,11,12,13,14],[0,1,2,3,4,5,6,7,8,9,10,11,12,13,14,15],[0,1,2,3,4,5,6,7,8,9,10,11,12,13,14,15,16]] Zk Zk Zk Zk ?_;simp only [q8q,q9q,q10q,q11q,q12q,q13q];(repeat (apply aj;(case h=>(intro us w' hx hf;obtain ⟨x,rfl⟩:=hx.out;refine ⟨rfl,?_⟩;simp [go_sem,execOp, *];(try simp (disch:=omega) only [q17q,q18q,q19q]);rfl));(try simp only [Act.put,q0q,q1q,q2q])));(refine ao (λ p => .slice (p 0).1 2 (p 0).2) (λ p w''=>Own w'' 0 (p 0).1 2 (p 0).2 (aH 2 (UInt64.ofNat y.1.toNat))) (λ p w w' h hx=>h.ext hx) (λ us w' hx hf=>⟨rfl,?_⟩) ?_;(unfold gives;simp [go_sem,execOp];exact aA (aam _) (hpa _)));(repeat (apply aj;(case h=>(intro us w' hx hf;obtain ⟨x,rfl⟩:=hx.out;refine ⟨rfl,?_⟩;simp [go_sem,execOp, *];(try simp (disch:=omega) only [q17q,q18q,q19q]);rfl));(try simp only [Act.put,q0q,q1q,q2q])));(refine ao (λ p => .slice (p 0).1 2 (p 0).2) (λ p w''=>Own w'' 0 (p 0).1 2 (p 0).2 (aH 2 (UInt64.ofNat N))) (λ p w w' h hx=>h.ext hx) (λ us w' hx hf=>⟨rfl,?_⟩) ?_;(unfold gives;simp [go_sem,execOp];exact aA (aam _) (hpb _)));(repeat (apply aj;(case h=>(intro us w' hx hf;obtain ⟨x,rfl⟩:=hx.out;refine ⟨rfl,?_⟩;simp [go_sem,execOp, *];(try simp (disch:=omega) only [q17q,q18q,q19q]);rfl));(try simp only [Act.put,q0q,q1q,q2q])));(refine aB ?_;intro us w' hx hf;obtain ⟨x,rfl⟩:=hx.out;(try simp only [Act.put,q0q,q1q,q2q,ai]);(try simp only [q3q,q4q,aar,aac,aan,q5q,q6q,q7q,aat,aau,aav] at hf);(try simp only [Nat.reduceAdd,aag] at hf ⊢));have hw1:IntKind.u64.wrap y.1=y.1:=by rw [aaL];omega
       have hw2:IntKind.u64.wrap (N:Int)=(N:Int):=by clear hw1;rw [aaL];omega
       simp only [hw1,hw2];clear hw1 hw2;obtain ⟨hP1,hP2⟩:=hf;obtain ⟨p1,hp1'⟩:∃ a,(us 6 0).1=a:=⟨_,rfl⟩;obtain ⟨q1,hq1'⟩:∃ a,(us 6 0).2=a:=⟨_,rfl⟩;obtain ⟨p2,hp2'⟩:∃ a,(us 9 0).1=a:=⟨_,rfl⟩;obtain ⟨q2,hq2'⟩:∃ a,(us 9 0).2=a:=⟨_,rfl⟩;rw [hp1',hq1'] at hP1 ⊢;rw [hp2',hq2'] at hP2 ⊢;clear hp1' hq1' hp2' hq2' hpa hpb;have hxx:Ext W (W.ext x):=Ext.of_ext _ _;have hSW:=hSW.ext hxx;have hOW:=hOW.ext hxx;have hxw:=hxw.trans hxx;generalize W.ext x=W at *;have hJl:(aW [aH 2 (UInt64.ofNat y.1.toNat),aH 2 (UInt64.ofNat N),y.2]).length=4+y.2.length:=by rw [jA];simp only [aah,az];omega
       have hJ:=Lib.hid (jA (aH 2 (UInt64.ofNat y.1.toNat)) (aH 2 (UInt64.ofNat N)) y.2);go_wp2_with fail;(with_reducible refine (aZ _ _ _ _ _ (AF hP1.sl hP2.sl hSW _) Zo (4+y.2.length) hJl Zo).mono ?_);rintro e w9 ⟨a9,c9,rfl,hO9,hx9⟩;rw [hJ.out] at hO9;have hx9:Ext W w9:=(Ext.of_alloc _ _).trans hx9;have hO9:=hO9.mono (show W.heap.size<=_ from (Ext.of_alloc _ _).size);have hOW9:=hOW.ext hx9;have hxw9:=hxw.trans hx9;have hne:=λ g hg=>(fv hOW.2 g hg).2;clear hP1 hP2 hSW hJl hJ hOW hxx;go_wp2_with fail
       go_loopw [12] (λ v12 w3=>∃ (m:Nat) (sb:Option Addr)(sd:Nat),4+y.2.length<=m/\m<=N/\v12 = Zy sb m sd/\Own w3 W.heap.size sb m sd (aH 2 (UInt64.ofNat y.1.toNat)++(aH 2 (UInt64.ofNat N)++y.2)++List.replicate (m-(4+y.2.length)) 0)/\Below W.heap.size w9 w3) (λ v12 _=>N-C8 v12)
       case atStart=>exact ⟨4+y.2.length,a9,c9,aae _,Zo,rfl,by simpa using hO9,Below.refl _ _⟩
       case round =>
        clear hO9;obtain ⟨m,sb,sd,hm0,hm1,rfl,hOb,hbl⟩:=hrel;have hsz3:=aaq hx9.size hbl.size;by_cases hmn:m<N
        ·have im:(m:Int)<(N:Int):=by omega
         have HS:=Lib.hid (show m+1-(4+y.2.length)=(m-(4+y.2.length))+1 from Zo)
         go_wp2_with (at_builtin;refine aE U rfl _ _ rfl W.heap.size sb _ sd _ rfl _ 1 1 _ rfl (hOb.ext eX) (bO _ 0 _) Zo (by simp;omega) ?_;intro sa2 sc2 w2 hO2 hg2 hB2)
         go_roundw
         case rel=>exact ⟨m+1,sa2,sc2,Zo,Zo,rfl,by rw [HS.out,abz,<- aao];exact hO2,Below.trans (Below.trans hbl ((Ext.of_alloc _ _).mono hsz3)) hB2⟩
         case measure=>show N-(m+1)<N-m;omega
        ·obtain rfl:m=N:=by omega
         have hmi:¬ (m:Int)<(m:Int):=Zo;rw [<- hfB.out] at hOb;have hO3:=hOW9.belowB hbl hne;have hE3:=Below.trans hxw9 (hbl.mono hxw.size);have hjt:aL (L.take j)<=1232*j:=wW hbd.out j
         go_wp2_with (at_builtin;refine aE U rfl _ _ rfl w.heap.size sa _ sc _ rfl sb m sd _ rfl hO3 hOb.sl Zo hE3.size ?_;intro sa2 sc2 w2 hO2 hg2 hB2)
         go_roundw
         case rel=>exact ⟨j+1,sa2,sc2,Zo,Zg,by rw [htt],by rw [htt,hts.out,jT];exact hO2,Below.trans hE3 hB2⟩
         case measure=>simp [intOf];omega
      ·obtain rfl:j=k:=by omega
       have hki:¬ (j:Int)<(j:Int):=Zo;rw [aak Zo] at hO;go_wp2_with fail;go_ret2;rw [er.out];exact ⟨sa,sc,by rw [hbl2];rw [aak Zo];rfl,by rw [hbl2];exact hO.sl,by rw [hbl2];exact hO.le.1,hx⟩
end Go.Proofs.YtmdahnkcnagkjaaGreat

/- The walks of layer 18 of the document: guard, Bare, Read. -/
namespace Go.Proofs.YtmdahnkcnagkjaaGreat
open Go.RowKit Go.Sec Go.Oct Go.Pkt Go.Aes BigFrame
theorem vq (v:UInt64) {vI:Int} (h:vI=n64 v) (W:World):Calls Tryz.prog 56 #[Zz Zw vI, Zz Zx 2] W (cj 2 (aH 2 v) W):=by
 subst h;exact ka v 2 W Zo
theorem pV (a:Option Addr)(n c:Nat) (l:List UInt8)(w:World)(h:Sl w a n l) (hn:n<=1000000):Calls Tryz.prog 135 #[Zy a n c, Zz Zx 4] w (cj (aI n) (gv l 4) w):=by
 have:=vj a n c l 4 w h hn Zo Zo (aI n) (by unfold aI;omega);rw [za,h.len];exact this
theorem mO (a1 a2:Option Addr)(n1 c1 n2 c2:Nat) (u v:List UInt8)(w:World)(h1:Sl w a1 n1 u) (h2:Sl w a2 n2 v) (m1:n1<=1000000) (m2:n2<=1000000) :
  Calls Tryz.prog 91 #[Zy a1 n1 c1, Zy a2 n2 c2] w (cj (4+aI n1+aI n2) (aD u v) w):=by
 have l1:=h1.len;have l2:=h2.len;have hv1:(n1:Int)=n64 (UInt64.ofNat n1):=by unfold n64;rw [aaO];omega
 have hv2:(n2:Int)=n64 (UInt64.ofNat n2):=by unfold n64;rw [aaO];omega
 have hpa:=λ W=>vq (UInt64.ofNat n1) hv1 W;have hpb:=λ W=>vq (UInt64.ofNat n2) hv2 W;have hG:aW [aH 2 (UInt64.ofNat n1),aH 2 (UInt64.ofNat n2),gv u 4,gv v 4]=aD u v:=by unfold aD;rw [mG,l1,l2]
 have hGl:(aW [aH 2 (UInt64.ofNat n1),aH 2 (UInt64.ofNat n2),gv u 4,gv v 4]).length=4+aI n1+aI n2:=by rw [hG,eF,l1,l2]
 have HG:=Lib.hid hG;clear hG hv1 hv2 l1 l2
 go_enter Tryz.func91,Tryz.ntmps91
 go_wp2_with fail;(with_reducible refine (hpa _).mono ?_);rintro e v1 ⟨p1,q1,rfl,hO1,hx1⟩;go_wp2_with fail;(with_reducible refine (hpb _).mono ?_);rintro e v2 ⟨p2,q2,rfl,hO2,hx2⟩;have hE2:=hx1.trans hx2;go_wp2_with fail;(with_reducible refine (pV a1 n1 c1 u _ (h1.ext hE2) m1).mono ?_);rintro e v3 ⟨p3,q3,rfl,hO3,hx3⟩;have hE3:=hE2.trans hx3;go_wp2_with fail;(with_reducible refine (pV a2 n2 c2 v _ (h2.ext hE3) m2).mono ?_);rintro e v4 ⟨p4,q4,rfl,hO4,hx4⟩;have hE4:=hE3.trans hx4;have s1:=((hO1.sl.ext hx2).ext hx3).ext hx4;have s2:=(hO2.sl.ext hx3).ext hx4;have s3:=hO3.sl.ext hx4;have s4:=hO4.sl;clear hpa hpb;go_wp2_with fail;(with_reducible refine (aZ _ _ _ _ _ (Az s1 s2 s3 s4 _) Zo _ hGl (by unfold aI;omega)).mono ?_);rintro e w9 ⟨a9,c9,rfl,hO9,hx9⟩;rw [HG.out] at hO9;go_wp2_with fail;go_ret;have hx8:=hE4.trans ((Ext.of_alloc _ _).trans hx9);exact ⟨a9,c9,rfl,hO9.mono (aaq hE4.size (Ext.of_alloc _ _).size),hx8⟩
theorem tB (p:Pkt) (a1 a2:Option Addr)(n1 c1 n2 c2:Nat) (w:World)(hI1:Ib w a1 n1 p.plain) (hn1:n1<=1000000) (hL1:∀ f∈p.plain,f.2.length<=1000000) (hI2:Ib w a2 n2 p.secret) :
  Calls Tryz.prog 31 #[.agg #[Zz Zx p.h.leap, Zz Zx p.h.ver, Zz Zx p.h.mode, Zz Zx p.h.strat, Zz Zx p.h.poll, Zz Zx p.h.prec, Zz Zv (n32 p.h.rd), Zz Zv (n32 p.h.rp), Zz Zv (n32 p.h.id), Zz Zw (n64 p.h.ref), Zz Zw (n64 p.h.org), Zz Zw (n64 p.h.rcv), Zz Zw (n64 p.h.tx), Zy a1 n1 c1, Zy a2 n2 c2, .bool p.guarded]] w (bJ (cQ p).1.length (cQ p).1 (Zz Zx (cQ p).2) w):=by
 have h2:=hI2.len;have he:=λ W=>gh p.h W;have hx:=λ W H=>e9 a1 n1 c1 p.plain W H hn1 hL1;obtain ⟨r,hr⟩:∃ r,cQ p=r:=⟨_,rfl⟩;rw [hr];have hr:=Lib.hid hr
 go_enter Tryz.func31,Tryz.ntmps31
 go_wp2_with (first
  | (refine af bc rfl _ rfl w.heap.size 0 rfl _ ((Rd.left (vs:=[Zz Zx p.h.leap, Zz Zx p.h.ver, Zz Zx p.h.mode, Zz Zx p.h.strat, Zz Zx p.h.poll, Zz Zx p.h.prec, Zz Zv (n32 p.h.rd), Zz Zv (n32 p.h.rp), Zz Zv (n32 p.h.id), Zz Zw (n64 p.h.ref), Zz Zw (n64 p.h.org), Zz Zw (n64 p.h.rcv), Zz Zw (n64 p.h.tx)]) (us:=[Zy a1 n1 c1, Zy a2 n2 c2, .bool p.guarded]) (Blk.new w #[Zz Zx p.h.leap, Zz Zx p.h.ver, Zz Zx p.h.mode, Zz Zx p.h.strat, Zz Zx p.h.poll, Zz Zx p.h.prec, Zz Zv (n32 p.h.rd), Zz Zv (n32 p.h.rp), Zz Zv (n32 p.h.id), Zz Zw (n64 p.h.ref), Zz Zw (n64 p.h.org), Zz Zw (n64 p.h.rcv), Zz Zw (n64 p.h.tx), Zy a1 n1 c1, Zy a2 n2 c2, .bool p.guarded] 67).rd)) rfl ?_)
  | fail)
 refine bC ?_;intro W hW;have hE:Ext w W:=by rw [hW];exact eX
 have hB:Blk W w.heap.size 67 [Zz Zx p.h.leap, Zz Zx p.h.ver, Zz Zx p.h.mode, Zz Zx p.h.strat, Zz Zx p.h.poll, Zz Zx p.h.prec, Zz Zv (n32 p.h.rd), Zz Zv (n32 p.h.rp), Zz Zv (n32 p.h.id), Zz Zw (n64 p.h.ref), Zz Zw (n64 p.h.org), Zz Zw (n64 p.h.rcv), Zz Zw (n64 p.h.tx), Zy a1 n1 c1, Zy a2 n2 c2, .bool p.guarded]:=by rw [hW];exact bK
 clear hW;(with_reducible refine (he W).mono ?_);rintro e w1 ⟨b1,d1,rfl,hS1,hd1,hx1⟩;have hB1:=hB.extB hx1;have hE1:=hE.trans hx1;haveI:=hB1.blt;have f13:w1.cell? ⟨w.heap.size,13,none⟩=some (Zy a1 n1 c1):=hB1.cell? 13 rfl;clear he hB hE hx1;by_cases h0:(cC p.h).2=0
 ·rw [h0];go_wp2_with fail;(with_reducible refine (hx w1 (hI1.ext hE1)).mono ?_);rintro e w2 ⟨b2,d2,rfl,hS2,hd2,hx2⟩;have hB2:=hB1.extB hx2;haveI:=hB2.blt;have f14:w2.cell? ⟨w.heap.size,14,none⟩=some (Zy a2 n2 c2):=hB2.cell? 14 rfl;have f15:w2.cell? ⟨w.heap.size,15,none⟩=some (.bool p.guarded):=hB2.cell? 15 rfl;clear f13 hx;by_cases h1:(aO p.plain).2=0
  ·rw [h1];have eo:=oz h0 h1;have q3:(aM p.h p.plain).2=0:=by rw [eo]
   by_cases q4:0<n2
   ·have er:=Lib.hid (show r=([],3) by rw [<- hr.out];exact jq q3 (.inl (List.ne_nil_of_length_pos Zo)));have i4:(0:Int)<(n2:Int):=Zo;clear q3 eo h0 h1;go_wp2_with fail;go_ret2;rw [er.out];exact aF _ _ _ (hE1.trans hx2)
   ·have hs0:p.secret=[]:=aaw Zo;obtain rfl:n2=0:=Zo;cases q5:p.guarded
    ·have er:=Lib.hid (show r=((cC p.h).1++(aO p.plain).1,0) by rw [<- hr.out,sU q3 (by rw [hs0,q5];simp),eo]);have hl1:=oR (h:=p.h);have hl2:=gG (L:=p.plain);generalize (cC p.h).1=B1 at *;generalize (aO p.plain).1=B2 at *;rw [q5] at f15;have hS1:=hS1.ext hx2;have hj:aW [B1,B2]=B1++B2:=gM _ _;have hjl:(aW [B1,B2]).length=B1.length+B2.length:=by rw [hj,aah]
     have HJ:=Lib.hid hj;clear hj q3 eo h0 h1 hs0 h2 q4;go_wp2_with fail;(with_reducible refine (aZ _ _ _ [B1,B2] _ (oi (hS1.ext eX) (hS2.ext eX) _) Zo (B1.length+B2.length) hjl Zo).mono ?_);rintro e w3 ⟨a3,c3,rfl,hO3,hx3⟩;rw [HJ.out] at hO3;go_wp2_with fail;go_ret2;rw [er.out];show bJ (B1++B2).length _ _ _ _ _;rw [aah];exact ⟨a3,c3,rfl,hO3.sl,hO3.le.1,(hE1.trans hx2).trans ((Ext.of_alloc _ _).trans hx3)⟩
    ·have er:=Lib.hid (show r=([],3) by rw [<- hr.out];exact jq q3 (.inr q5));rw [q5] at f15;clear q3 eo h0 h1 hs0 h2 q4;go_wp2_with fail;go_ret2;rw [er.out];exact aF _ _ _ (hE1.trans hx2)
  ·have eo:=kR h0 h1;have er:=Lib.hid (show r=([],(aO p.plain).2) by rw [<- hr.out,kT (by rw [eo];exact h1),eo]);have hI:=ne0 h1;generalize (aO p.plain).2=v at *;clear h0 h1 eo f14 f15;go_wp2_with fail;go_ret2;rw [er.out];exact aF _ _ _ (hE1.trans hx2)
 ·have eo:=mA (L:=p.plain) h0;have er:=Lib.hid (show r=([],(cC p.h).2) by rw [<- hr.out,kT (by rw [eo];exact h0),eo]);have hI:=ne0 h0;generalize (cC p.h).2=v at *;clear h0 hx f13 eo;go_wp2_with fail;go_ret2;rw [er.out];exact aF _ _ _ hE1
theorem uE (a:Option Addr)(n c:Nat) (b:List UInt8)(w:World)(hS:Sl w a n b) (hc:n<=c) (hn:n<=1000000) :
  Calls Tryz.prog 29 #[Zy a n c] w (ie (aC b) w):=by
 have hl:=hS.len;have hdh:=λ W H=>jd a n c b W H hc hn;have hrl:=mq (b:=b);obtain ⟨r,hr⟩:∃ r,aC b=r:=⟨_,rfl⟩;rw [hr];have hr:=Lib.hid hr
 go_enter Tryz.func29,Tryz.ntmps29
 go_wp2_with fail;refine bC ?_;intro W hW;have hE:Ext w W:=by rw [hW];exact eX
 have hP:Blk W w.heap.size 67 [Zz Zx 0, Zz Zx 0, Zz Zx 0, Zz Zx 0, Zz Zx 0, Zz Zx 0, Zz Zv 0, Zz Zv 0, Zz Zv 0, Zz Zw 0, Zz Zw 0, Zz Zw 0, Zz Zw 0, Zy none 0 0, Zy none 0 0, .bool false]:=by rw [hW];exact bK
 clear hW;(with_reducible refine (hdh W (hS.ext hE)).mono ?_);rintro e w1 ⟨b1,d1,rfl,hS1,hd1,hx1⟩;have hE1:=hE.trans hx1;have hP1:=hP.extB hx1;haveI:=hP1.blt;clear hE hP hx1 hdh;by_cases q1:(bD b).2=0
 ·rw [q1];have hdf:=λ W H=>jh b1 (bD b).1.2.length d1 (bD b).1.2 W H hd1 Zo;have hok:=λ h=>iQ q1 h;have hbad:=λ h=>fx q1 h;generalize (bD b).1.2=R at *;generalize (bD b).1.1=H at *
  go_wp2_with (first
   | (refine ag bc rfl rfl _ _ rfl rfl rfl rfl (by simp [Act.put]) _ rfl Zs rfl oC ?_;intro x hz _)
   | fail)
  refine bC ?_;intro W2 hW2;have hx2:Ext w1 W2:=by rw [hW2];exact eX
  have hzz:Blk W2 w1.heap.size 64 [Zz Zx H.leap, Zz Zx H.ver, Zz Zx H.mode, Zz Zx H.strat, Zz Zx H.poll, Zz Zx H.prec, Zz Zv (n32 H.rd), Zz Zv (n32 H.rp), Zz Zv (n32 H.id), Zz Zw (n64 H.ref), Zz Zw (n64 H.org), Zz Zw (n64 H.rcv), Zz Zw (n64 H.tx)]:=by rw [hW2];exact hz.extB eX
  have hP2:=hP1.extB hx2;have hE2:=hE1.trans hx2;have hS2:=hS1.ext hx2;have hlt:=hP1.lt;clear hW2 hx2 hE1 hP1 hS1;(with_reducible refine (hdf W2 hS2).mono ?_);rintro e w3 ⟨b3,d3,rfl,hO3,hx3⟩;have hP3:=hP2.extB hx3;have hz3:=hzz.extB hx3;have hE3:=hE2.trans hx3;haveI:=hP3.blt;clear hP2 hE2 hdf hz hzz hx3;by_cases q2:(bj R).2=0
  ·rw [q2];have er:=Lib.hid (show r=(⟨H,(bj R).1,[],false⟩,0) by rw [<- hr.out];exact hok q2);clear hok hbad q2;generalize (bj R).1=L at *
   go_wp2_with (first
    | (refine af bc rfl _ rfl w1.heap.size 0 rfl _ ((hz3.extB eX).rd) rfl ?_)
    | (refine aa aV rfl _ _ rfl w.heap.size 0 rfl _ rfl 67 _ ((hP3.extB eX)) rfl Zs oC ?_;intro V hV hMV)
    | fail)
   refine aab (av Tryz.results29 aV _ _ w.heap.size 0 ([Zz Zx H.leap, Zz Zx H.ver, Zz Zx H.mode, Zz Zx H.strat, Zz Zx H.poll, Zz Zx H.prec, Zz Zv (n32 H.rd), Zz Zv (n32 H.rp), Zz Zv (n32 H.id), Zz Zw (n64 H.ref), Zz Zw (n64 H.org), Zz Zw (n64 H.rcv), Zz Zw (n64 H.tx), Zy b3 L.length d3, Zy none 0 0, .bool false]) rfl hV.rd rfl (Zz Zx 0) rfl) rfl ?_;rw [er.out];exact ⟨b3,d3,rfl,⟨_,hO3.mut hP3 Zd Zs hMV⟩,Below.trans hE3 (hMV.below (aae _) hE3.size)⟩
  ·have er:=Lib.hid (show r=(aQ,(bj R).2) by rw [<- hr.out];exact hbad q2);have i2:=ne0 q2;generalize (bj R).2=v at *;generalize (bj R).1=L at *;clear q2 hok hbad
   go_wp2_with (first
    | (refine aa aV rfl _ _ rfl w.heap.size 0 rfl _ rfl 67 _ ((hP3.extB eX)) rfl Zs oC ?_;intro V hV hMV)
    | fail)
   refine aab (av Tryz.results29 aV _ _ w.heap.size 0 ([Zz Zx 0, Zz Zx 0, Zz Zx 0, Zz Zx 0, Zz Zx 0, Zz Zx 0, Zz Zv 0, Zz Zv 0, Zz Zv 0, Zz Zw 0, Zz Zw 0, Zz Zw 0, Zz Zw 0, Zy none 0 0, Zy none 0 0, .bool false]) rfl hV.rd rfl (Zz Zx v) rfl) rfl ?_;rw [er.out];exact ie.err _ _ _ (Below.trans (hE3.trans eX) (hMV.below (aae _) (Below.size (hE3.trans eX))))
 ·have er:=Lib.hid (show r=(aQ,(bD b).2) by rw [<- hr.out];exact ft q1);have i1:=ne0 q1;generalize (bD b).2=v at *;generalize (bD b).1.1=H at *;clear q1
  go_wp2_with (first
   | (refine ag bc rfl rfl _ _ rfl rfl rfl rfl (by simp [Act.put]) _ rfl Zs rfl oC ?_;intro x hz _)
   | (refine aa aV rfl _ _ rfl w.heap.size 0 rfl _ rfl 67 _ ((hP1.extB eX)) rfl Zs oC ?_;intro V hV hMV)
   | fail)
  refine aab (av Tryz.results29 aV _ _ w.heap.size 0 ([Zz Zx 0, Zz Zx 0, Zz Zx 0, Zz Zx 0, Zz Zx 0, Zz Zx 0, Zz Zv 0, Zz Zv 0, Zz Zv 0, Zz Zw 0, Zz Zw 0, Zz Zw 0, Zz Zw 0, Zy none 0 0, Zy none 0 0, .bool false]) rfl hV.rd rfl (Zz Zx v) rfl) rfl ?_;rw [er.out];exact ie.err _ _ _ (Below.trans (hE1.trans eX) (hMV.below (aae _) (Below.size (hE1.trans eX))))
end Go.Proofs.YtmdahnkcnagkjaaGreat

/- The walks of layer 18 of the document: Protect. -/
namespace Go.Proofs.YtmdahnkcnagkjaaGreat
open Go.RowKit Go.Sec Go.Oct Go.Pkt Go.Aes BigFrame
theorem rk (ak an a1 a2:Option Addr)(nk ck nn cn n1 c1 n2 c2:Nat) (p:Pkt) (ky nonce:List UInt8)(w:World)(hk:Sl w ak nk ky) (hck:nk<=ck) (hnn:Sl w an nn nonce) (hcn:nn<=cn) (hn:nn<=1000000)
  (hI1:Ib w a1 n1 p.plain) (hn1:n1<=1000000) (hL1:∀ f∈p.plain,f.2.length<=1000000) (hI2:Ib w a2 n2 p.secret) (hn2:n2<=1000000) (hL2:∀ f∈p.secret,f.2.length<=1000000) :
  Calls Tryz.prog 51 #[Zy ak nk ck, .agg #[Zz Zx p.h.leap, Zz Zx p.h.ver, Zz Zx p.h.mode, Zz Zx p.h.strat, Zz Zx p.h.poll, Zz Zx p.h.prec, Zz Zv (n32 p.h.rd), Zz Zv (n32 p.h.rp), Zz Zv (n32 p.h.id), Zz Zw (n64 p.h.ref), Zz Zw (n64 p.h.org), Zz Zw (n64 p.h.rcv), Zz Zw (n64 p.h.tx), Zy a1 n1 c1, Zy a2 n2 c2, .bool p.guarded], Zy an nn cn] w (bJ (cD ky p nonce).1.length (cD ky p nonce).1 (Zz Zx (cD ky p nonce).2) w):=by
 have lk:=hk.len;have ln:=hnn.len;have l1:=hI1.len;have he:=λ W=>gh p.h W;have ho:=λ W H=>e9 a1 n1 c1 p.plain W H hn1 hL1;have hs:=λ W H=>e9 a2 n2 c2 p.secret W H hn2 hL2;obtain ⟨r,hr⟩:∃ r,cD ky p nonce=r:=⟨_,rfl⟩;rw [hr];have hr:=Lib.hid hr;by_cases q1:nk=32
 ·by_cases q2:16<=nn/\nn<=32
  ·have q1':ky.length=32:=by omega
   have q2':¬ (nonce.length<16\/32<nonce.length):=Zo;have q2a:¬ (nn:Int)<16:=Zo;have q2b:¬ (32:Int)<(nn:Int):=Zo;subst q1
   go_enter Tryz.func51,Tryz.ntmps51
   go_wp2_with (first
    | (refine af bc rfl _ rfl w.heap.size 0 rfl _ ((Rd.left (vs:=[Zz Zx p.h.leap, Zz Zx p.h.ver, Zz Zx p.h.mode, Zz Zx p.h.strat, Zz Zx p.h.poll, Zz Zx p.h.prec, Zz Zv (n32 p.h.rd), Zz Zv (n32 p.h.rp), Zz Zv (n32 p.h.id), Zz Zw (n64 p.h.ref), Zz Zw (n64 p.h.org), Zz Zw (n64 p.h.rcv), Zz Zw (n64 p.h.tx)]) (us:=[Zy a1 n1 c1, Zy a2 n2 c2, .bool p.guarded]) (Blk.new w #[Zz Zx p.h.leap, Zz Zx p.h.ver, Zz Zx p.h.mode, Zz Zx p.h.strat, Zz Zx p.h.poll, Zz Zx p.h.prec, Zz Zv (n32 p.h.rd), Zz Zv (n32 p.h.rp), Zz Zv (n32 p.h.id), Zz Zw (n64 p.h.ref), Zz Zw (n64 p.h.org), Zz Zw (n64 p.h.rcv), Zz Zw (n64 p.h.tx), Zy a1 n1 c1, Zy a2 n2 c2, .bool p.guarded] 67).rd)) rfl ?_)
    | fail)
   refine bC ?_;intro W hW;have hE:Ext w W:=by rw [hW];exact eX
   have hB:Blk W w.heap.size 67 [Zz Zx p.h.leap, Zz Zx p.h.ver, Zz Zx p.h.mode, Zz Zx p.h.strat, Zz Zx p.h.poll, Zz Zx p.h.prec, Zz Zv (n32 p.h.rd), Zz Zv (n32 p.h.rp), Zz Zv (n32 p.h.id), Zz Zw (n64 p.h.ref), Zz Zw (n64 p.h.org), Zz Zw (n64 p.h.rcv), Zz Zw (n64 p.h.tx), Zy a1 n1 c1, Zy a2 n2 c2, .bool p.guarded]:=by rw [hW];exact bK
   clear hW;(with_reducible refine (he W).mono ?_);rintro e w0 ⟨bh,dh,rfl,hSh,hdh,hx0⟩;have hE:=hE.trans hx0;have hB:=hB.extB hx0;haveI:=hB.blt;have f13:w0.cell? ⟨w.heap.size,13,none⟩=some (Zy a1 n1 c1):=hB.cell? 13 rfl;have f14:w0.cell? ⟨w.heap.size,14,none⟩=some (Zy a2 n2 c2):=hB.cell? 14 rfl;clear hx0 he;by_cases p0:(cC p.h).2=0
   ·rw [p0];go_wp2_with fail;clear f13 f14;(with_reducible refine (ho w0 (hI1.ext hE)).mono ?_);rintro e w1 ⟨b1,d1,rfl,hS1,hd1,hx1⟩;have hE1:=hE.trans hx1;have hB1:=hB.extB hx1;have hSh:=hSh.ext hx1;haveI:=hB1.blt;have f13:w1.cell? ⟨w.heap.size,13,none⟩=some (Zy a1 n1 c1):=hB1.cell? 13 rfl;have f14:w1.cell? ⟨w.heap.size,14,none⟩=some (Zy a2 n2 c2):=hB1.cell? 14 rfl;clear hE hB hx1 ho;by_cases p1:(aO p.plain).2=0
    ·rw [p1];have eo:=oz p0 p1;have q3:(aM p.h p.plain).2=0:=by rw [eo]
     have hn24:n1<=24:=by have:=(lU p1).2.1;omega
     have hbl:=ml p.h p.plain;have hlh:=oR (h:=p.h);have hlf:=gG (L:=p.plain);go_wp2_with fail;clear f13 f14;(with_reducible refine (hs w1 (hI2.ext hE1)).mono ?_);rintro e w2 ⟨b2,d2,rfl,hS2,hd2,hx2⟩;have hE2:=hE1.trans hx2;have hB2:=hB1.extB hx2;have hS1:=hS1.ext hx2;have hSh:=hSh.ext hx2;haveI:=hB2.blt;have f13:w2.cell? ⟨w.heap.size,13,none⟩=some (Zy a1 n1 c1):=hB2.cell? 13 rfl;clear hE1 hB1 hx2 hs;by_cases q4:(aO p.secret).2=0
     ·rw [q4];have hat:=Lib.hid (ph q1' q2' q3 q4);have hsl:(aO p.secret).1.length<=1232:=gG;have hfi:=λ W H=>iZ 1028 a1 n1 c1 p.plain W H hn1;go_wp2_with fail;clear f13;(with_reducible refine (hfi w2 (hI1.ext hE2)).mono ?_);rintro e w3 ⟨b3,d3,rfl,hO3,hx3⟩;have hE3:=hE2.trans hx3;have hB3:=hB2.extB hx3;have hS1:=hS1.ext hx3;have hSh:=hSh.ext hx3;have hS2:=hS2.ext hx3;haveI:=hB3.blt;have f13:w3.cell? ⟨w.heap.size,13,none⟩=some (Zy a1 n1 c1):=hB3.cell? 13 rfl;clear hE2 hB2 hx3 hfi hO3;by_cases q5:ixs 1028 p.plain p.plain.length=[]
      ·have i5:(ixs 1028 p.plain p.plain.length).length=0:=by rw [q5];rfl
       have hat:=Lib.hid (show r=if 24<=p.plain.length then ([],8) else if (eO ky p nonce).2≠0\/1280<(aM p.h p.plain).1.length+(eO ky p nonce).1.length then ([],2) else ((aM p.h p.plain).1++(eO ky p nonce).1,0) by
        rw [<- hr.out,hat.out,aaf (by rw [q5];simp)])
       rw [i5];clear q5 i5;by_cases q6:24<=n1
       ·have er:=Lib.hid (show r=([],8) by rw [hat.out,aal Zo]);have i6:(n1:Int)=24:=Zo;go_wp2_with fail;go_ret2;rw [er.out];exact aF _ _ _ hE3
       ·have i6:¬ (n1:Int)=24:=by omega
        have hat:=Lib.hid (show r=if (eO ky p nonce).2≠0\/1280<(aM p.h p.plain).1.length+(eO ky p nonce).1.length then ([],2) else ((aM p.h p.plain).1++(eO ky p nonce).1,0) by
         rw [hat.out,aaf Zo])
        obtain ⟨z1,z2⟩:=yL (b:=(aM p.h p.plain).1) (n:=nonce) (p:=(aO p.secret).1) q1' Zo Zo Zo;unfold eO at hat;have hse:=λ b' c' W H1 H2 H3=>qp ak b' b2 32 ck 2 c' (aO p.secret).1.length d2 ky [(aM p.h p.plain).1,nonce] (aO p.secret).1 W H1 hck H2 Zo H3 hd2;rw [z1] at hse;have eo1:aW [(cC p.h).1,(aO p.plain).1]=(aM p.h p.plain).1:=by rw [gM,eo]
        have ejl:=congrArg List.length eo1;replace eo1:=Lib.hid eo1;clear eo p0 p1;generalize (aM p.h p.plain).1=B1 at *;generalize (cC p.h).1=Hb at *;generalize (aO p.plain).1=Fb at *;generalize (aO p.secret).1=B2 at *;generalize (bI ky [B1,nonce] B2).1=S3 at *;clear q3 q4 q6 z1;replace z2:=Lib.hid z2;go_wp2_with fail;clear f13;(with_reducible refine (aZ _ _ _ [Hb,Fb] _ (oi hSh hS1 _) Zo B1.length ejl Zo).mono ?_);rintro e w3b ⟨ba,da,rfl,hOa,hxa⟩;rw [eo1.out] at hOa;have hxa:Ext w3 w3b:=(Ext.of_alloc _ _).trans hxa;have hE3:=hE3.trans hxa;have hS1:=hOa.sl;have hd1:=hOa.le.1;have hS2:=hS2.ext hxa;clear hOa hxa hSh;go_wp2_with fail;(with_reducible refine (hse _ _ _ (hk.ext (hE3.trans (Ext.of_alloc _ _))) (s6 hS1 hd1 (hnn.ext hE3) hcn _) (hS2.ext (Ext.of_alloc _ _))).mono ?_);rintro e w4 ⟨b4,d4,rfl,hS4,hd4,hx4⟩;have hx4:Ext w3b w4:=(Ext.of_alloc _ _).trans hx4;have hE4:=hE3.trans hx4;have hS1:=hS1.ext hx4;clear hE3 hx4 hse;go_wp2_with fail;(with_reducible refine (mO an b4 nn cn S3.length d4 nonce S3 _ (hnn.ext hE4) hS4 hn (by rw [z2.out];omega)).mono ?_);rintro e w5 ⟨b5,d5,rfl,hO5,hx5⟩;have hE5:=hE4.trans hx5;have hS1:=hS1.ext hx5;have hS5:=hO5.sl;have hle5:=hO5.le.1;have hGl:=eF nonce S3;have hlen:=hS5.len;rw [<- hlen] at hS5 hle5 ⊢;clear hlen;have hxe:=λ a' c' W H=>e9 a' 1 c' [(1028,aD nonce S3)] W H Zo (by intro f hf;rw [aaB.1 hf];show (aD nonce S3).length<=1000000;rw [hGl];have:=z2.out;unfold aI;omega);generalize aD nonce S3=G at *;clear hE4 hx5 hO5 hS4 hd4 hGl;go_wp2_with fail;(with_reducible refine (hxe _ _ _ (ib1 hS5 hle5 1028 _)).mono ?_);rintro e w6 ⟨b6,d6,rfl,hS6,hd6,hx6⟩;have hx6:Ext w5 w6:=(Ext.of_alloc _ _).trans hx6;have hE6:=hE5.trans hx6;have hS1:=hS1.ext hx6;clear hE5 hx6 hxe hS5;have hfl:=gG (L:=[(1028,G)]);by_cases q7:(aO [(1028,G)]).2=0
        ·rw [q7];by_cases q8:1280<B1.length+(aO [(1028,G)]).1.length
         ·exact z43q34
         ·have er:=Lib.hid (show r=(B1++(aO [(1028,G)]).1,0) by rw [hat.out,aaf (λ h=>h.elim (λ h=>h q7) q8)]);clear hat q7;generalize (aO [(1028,G)]).1=B6 at *;have i8:¬ (1280:Int)<(B1.length:Int)+(B6.length:Int):=Zo;have hj:aW [B1,B6]=B1++B6:=gM _ _;have hjl:(aW [B1,B6]).length=B1.length+B6.length:=by rw [hj,aah]
          have HJ:=Lib.hid hj;clear hj;go_wp2_with fail;(with_reducible refine (aZ _ _ _ [B1,B6] _ (oi (hS1.ext eX) (hS6.ext eX) _) Zo (B1.length+B6.length) hjl Zo).mono ?_);rintro e w7 ⟨b7,d7,rfl,hO7,hx7⟩;rw [HJ.out] at hO7;go_wp2_with fail;go_ret2;rw [er.out];show bJ (B1++B6).length _ _ _ _ _;rw [aah];exact ⟨b7,d7,rfl,hO7.sl,hO7.le.1,hE6.trans ((Ext.of_alloc _ _).trans hx7)⟩
        ·exact z43q37
      ·exact z43q22
     ·exact z43q32
    ·have eo:=kR p0 p1;have er:=Lib.hid (show r=([],(aO p.plain).2) by rw [<- hr.out,ld q1' q2' (by rw [eo];exact p1),eo]);have i3:=ne0 p1;generalize (aO p.plain).2=v at *;clear p0 p1 eo f13 f14;go_wp2_with fail;go_ret2;rw [er.out];exact aF _ _ _ hE1
   ·have eo:=mA (L:=p.plain) p0;have er:=Lib.hid (show r=([],(cC p.h).2) by rw [<- hr.out,ld q1' q2' (by rw [eo];exact p0),eo]);have i3:=ne0 p0;generalize (cC p.h).2=v at *;clear p0 eo f13 f14;go_wp2_with fail;go_ret2;rw [er.out];exact aF _ _ _ hE
  ·have i1:((nk:Int) != 32)=false:=by rw [aai];omega
   have er:=Lib.hid (show r=([],4) by rw [<- hr.out];exact mV Zo Zo);have q1:=Lib.hid q1;by_cases q2a:nn<16
   ·have q2a:(nn:Int)<16:=by omega
    clear lk ln q2
    go_enter Tryz.func51,Tryz.ntmps51
    go_wp2_with fail;go_ret2;rw [er.out];exact aF _ _ _ eX
   ·have q2b:(32:Int)<(nn:Int):=by omega
    have q2a:¬ (nn:Int)<16:=Zo;clear lk ln q2
    go_enter Tryz.func51,Tryz.ntmps51
    go_wp2_with fail;go_ret2;rw [er.out];exact aF _ _ _ eX
 ·have er:=Lib.hid (show r=([],5) by rw [<- hr.out];exact qw Zo);have i1:((nk:Int) != 32)=true:=by rw [aax];omega
  clear lk ln q1
  go_enter Tryz.func51,Tryz.ntmps51
  go_wp2_with fail;go_ret2;rw [er.out];exact aF _ _ _ eX
end Go.Proofs.YtmdahnkcnagkjaaGreat

/- The walks of layer 22 of the document: Question. -/
namespace Go.Jar
theorem zc {j:Jar} (h:(dc j).2=0):(dc j).1.1.up=j.up:=by
 unfold dc at h ⊢;split at h
 ·rename_i h1;rw [aal h1];split at h
  ·cases h
  ·rename_i h2;rw [aaf h2];split at h
   ·cases h
   ·rename_i h3;rw [aaf h3]
 ·cases h
end Go.Jar
namespace Go.Proofs.YtmdahnkcnagkjaaGreat
open Go.RowKit Go.Sec Go.Oct Go.Jar Go.Pkt BigFrame
theorem vK (t:UInt64) (w:World) :
  Calls Tryz.prog 33 #[Zz Zw (n64 t)] w λ e w'=>e = .returned (.agg #[Zz Zx 0, Zz Zx 4, Zz Zx 3, Zz Zx 0, Zz Zx 6, Zz Zx 0, Zz Zv 0, Zz Zv 0, Zz Zv 0, Zz Zw 0, Zz Zw 0, Zz Zw 0, Zz Zw (n64 t)])/\Ext w w':=by
 go_enter Tryz.func33,Tryz.ntmps33
 go_wp2;refine aab (aX Tryz.results33 bc _ _ w.heap.size 0 ([Zz Zx 0, Zz Zx 4, Zz Zx 3, Zz Zx 0, Zz Zx 6, Zz Zx 0, Zz Zv 0, Zz Zv 0, Zz Zv 0, Zz Zw 0, Zz Zw 0, Zz Zw 0, Zz Zw (n64 t)]) rfl ((Blk.new _ _ _).rd) rfl) rfl ?_;exact ⟨rfl,eX⟩
theorem va (a1 a2 a3 a4 au an:Option Addr)(n1 c1 n2 c2 n3 c3 n4 c4 nu cu nn cn:Nat) (j:Jar) (t:UInt64) (u nc:List UInt8)(w:World)(h1:Sl w a1 n1 j.up) (hc1:n1<=c1) (m1:n1<=1000000) (h2:Sl w a2 n2 j.dn) (m2:n2<=1000000) (h3:Bsc w a3 n3 j.ck) (hc3:n3<=c3) (hn3:n3<=100000) (hb3:∀ x∈j.ck,x.length<=1000000) (h4:Sl w a4 n4 j.last) (m4:n4<=1000000)
  (hu:Sl w au nu u) (hcu:nu<=cu) (hnc:Sl w an nn nc) (hcn:nn<=cn) :
  Calls Tryz.prog 61 #[.agg #[Zy a1 n1 c1, Zy a2 n2 c2, Zy a3 n3 c3, Zy a4 n4 c4, Zz Zx j.net, Zz Zx j.sent], Zz Zw (n64 t), Zy au nu cu, Zy an nn cn] w (mS (lF j t u nc) w):=by
 have hlu:=hu.len;have hln:=hnc.len;have hv:=λ W H1 H2 H3 H4=>ig a1 a2 a3 a4 n1 c1 n2 c2 n3 c3 n4 c4 j W H1 H2 H3 hc3 Zo H4;have htk:=λ W H1 H2 H3 H4 H5=>uK a1 a2 a3 a4 n1 c1 n2 c2 n3 c3 n4 c4 j W H1 m1 H2 m2 H3 hc3 hn3 hb3 H4 m4 H5;obtain ⟨r,hr⟩:∃ r,lF j t u nc=r:=⟨_,rfl⟩;rw [hr];replace hr:=Lib.hid hr
 go_enter Tryz.func61,Tryz.ntmps61
 go_wp2_with fail;refine vk ?_;intro W hW;have hE:Ext w W:=by rw [hW];exact eX
 have hB:Blk W w.heap.size 57 [Zy a1 n1 c1, Zy a2 n2 c2, Zy a3 n3 c3, Zy a4 n4 c4, Zz Zx j.net, Zz Zx j.sent]:=by rw [hW];exact bK
 have hR:Blk W (w.heap.size+1) 57 [Zy none 0 0, Zy none 0 0, Zy none 0 0, Zy none 0 0, Zz Zx 0, Zz Zx 0]:=by rw [hW];exact bK
 clear hW;(with_reducible refine (hv _ (h1.ext hE) (h2.ext hE) (h3.ext hE) (h4.ext hE)).mono ?_);rintro e w0 ⟨rfl,hx0⟩;have hE:=hE.trans hx0;have hB:=hB.extB hx0;have hR:=hR.extB hx0;clear hx0 hv;haveI:=hB.blt;haveI:=hR.blt;cases q:bP j
 ·have er:=Lib.hid (show r=((bT,[]),3) by rw [<- hr.out];unfold lF;rw [aaf (λ h=>by rw [q] at h;exact absurd h.1 Zd)]);clear hr
  go_wp2_with (first
   | (refine aa RJ6 rfl _ _ rfl (w.heap.size+1) 0 rfl _ rfl 57 _ hR rfl Zs oC ?_;intro V hV hMV)
   | fail)
  refine aab (aG Tryz.results61 RJ6 _ _ (w.heap.size+1) 0 ([Zy none 0 0, Zy none 0 0, Zy none 0 0, Zy none 0 0, Zz Zx 0, Zz Zx 0]) rfl hV.rd rfl (Zy none 0 0) (Zz Zx 3) rfl rfl) rfl ?_;rw [er.out];exact mS.zero _ _ _ (Below.trans hE (hMV.below Zo hE.size))
 ·by_cases q1:nu=32
  ·have q1i:((nu:Int) != 32)=false:=by rw [aai];omega
   by_cases q2:nn=16
   ·have q2i:((nn:Int) != 16)=false:=by rw [aai];omega
    have hhd:jt j:=by
     exact z43q80
    have hsn0:=hhd.2.2.2.2.2.1;have hqe:=hr.out;unfold lF at hqe;rw [aal ⟨q,Zo,Zo⟩] at hqe;have hok:=xG q;have hupj:=zc (j:=j);have hnnb:nn<=1000000:=Zo;clear hr hhd q1 q2;generalize dc j=T at *;replace hqe:=Lib.hid hqe;have hask:∀ W,Calls Tryz.prog 33 #[Zz Zw (n64 t)] W λ e w'=>e = .returned (.agg #[Zz Zx (bW t).leap, Zz Zx (bW t).ver, Zz Zx (bW t).mode, Zz Zx (bW t).strat, Zz Zx (bW t).poll, Zz Zx (bW t).prec, Zz Zv (n32 (bW t).rd), Zz Zv (n32 (bW t).rp), Zz Zv (n32 (bW t).id), Zz Zw (n64 (bW t).ref), Zz Zw (n64 (bW t).org), Zz Zw (n64 (bW t).rcv), Zz Zw (n64 (bW t).tx)])/\Ext W w':=λ W=>vK t W
    go_wp2_with (first
     | (refine af RJ6 rfl _ rfl w.heap.size 0 rfl _ hB.rd rfl ?_)
     | fail)
    (with_reducible refine (htk _ (h1.ext hE) (h2.ext hE) (h3.ext hE) (h4.ext hE) (.inl hsn0)).mono ?_);rintro e w1 ⟨b1,x1,d1,b2,x2,d2,b3,x3,d3,b4,x4,d4,b5,x5,d5,rfl,o1,o2,o3,k3,o4,k4,o5,hb3w,t3,hx1⟩;have hltw:=hR.lt;have hE:=hE.trans hx1;have hR:=hR.extB hx1;have hlt:=hR.lt;have hu:=hu.ext hE;have hu0:=hu;have hnc:=hnc.ext hE;have hB:=hB.extB hx1;have h1:=h1.ext hE;clear hx1 htk hsn0 h2 h3 h4 hb3;by_cases qe:T.2=0
    ·have qei:(T.2 != 0)=false:=by rw [aai];exact qe
     obtain ⟨hck,hcl,hup⟩:=hok qe;have hupj:=hupj qe;have o3l:=o3.len;have o5l:=o5.1;obtain rfl:x5=104:=Zo;obtain rfl:nu=32:=by simpa [aai] using (show nu=32 by have:=q1i;rw [aai] at this;omega)
     have hx3I:(x3:Int)<=7:=Zo
     go_wp2_with (first
      | ((refine ag RJ6 rfl rfl _ _ rfl rfl rfl rfl (by simp [Act.put]) _ rfl Zs rfl oC ?_;intro x hz _);haveI:=hz.blt;have f2:=hz.cell? 2 rfl)
      | fail)
     have hxx:Ext w1 (w1.ext x):=Ext.of_ext _ _;have hR:=hR.extB hxx;have hB:=hB.extB hxx;have hu:=hu.ext hxx;have o5:=o5.ext hxx;have hIu:InT 79 (w1.ext x) w1.heap.size au 32:=(hu0.inT w1).ext hxx;have hI5:InT 79 (w1.ext x) w1.heap.size b5 104:=o5.inT Zd;obtain ⟨go,hgo⟩:∃ g,g=w1.heap.size:=⟨_,rfl⟩;rw [<- hgo] at hz hlt hIu hI5 ⊢;have hgo1:w1.heap.size<=go:=Zo;have hxx':=hxx;generalize w1.ext x=W1 at *;have hgz:=hz.lt;clear f2;refine df ?_;intro w4 hW4;have hx34:Ext W1 w4:=by rw [hW4];exact eX
     have hrw:Blk w4 W1.heap.size 79 [Zz Zx 260, Zy au 32 cu, Zz Zx 516, Zy b5 104 d5]:=by rw [hW4];exact Blk.new W1 #[Zz Zx 260, Zy au 32 cu, Zz Zx 516, Zy b5 104 d5] 79
     clear hW4;have hz:=hz.extB hx34;have hR:=hR.extB hx34;have hB:=hB.extB hx34;have hO:cI 79 w4 go (some ⟨W1.heap.size,0,none⟩) 2 2 (bg u T.1.2 0):=cI.two hrw Zo (hu.ext hx34) hcu (hIu.ext hx34) (o5.sl.ext hx34) o5.le.1 (hI5.ext hx34);have hx04:Ext w1 w4:=hxx'.trans hx34;have hbs:go<=w4.heap.size:=by have:=hx34.size;omega
     obtain ⟨kk,hkk⟩:∃ kk,kk=7-x3:=⟨_,rfl⟩;have hk7:kk<=7:=Zo;have hx7:x3+kk=7:=Zo;clear hrw hIu hI5 hu o5 hxx' hx34 hgo hxx;replace hkk:=Lib.hid hkk
     go_loopw [14,15] (λ v14 v15 wr=>∃ (i:Nat) (sa:Option Addr)(sc:Nat),i<=kk/\v15 = Zz Zx ((x3+1+i:Nat):Int)/\v14 = Zy sa (2+i) sc/\cI 79 wr go sa (2+i) sc (bg u T.1.2 i)/\go<=wr.heap.size/\Blk wr go 57 [Zy b1 x1 d1, Zy b2 x2 d2, Zy b3 x3 d3, Zy b4 x4 d4, Zz Zx T.1.1.net, Zz Zx T.1.1.sent]/\Blk wr (w.heap.size+1) 57 [Zy none 0 0, Zy none 0 0, Zy none 0 0, Zy none 0 0, Zz Zx 0, Zz Zx 0]/\Blk wr w.heap.size 57 [Zy a1 n1 c1, Zy a2 n2 c2, Zy a3 n3 c3, Zy a4 n4 c4, Zz Zx j.net, Zz Zx j.sent]/\Ext w1 wr) (λ _ v15 _=>8-(intOf v15).toNat)
     case atStart=>exact ⟨0,_,2,Zo,Zs,rfl,hO,hbs,hz,hR,hB,hx04⟩
     case round =>
      clear hO hbs hz hR hB hx04;obtain ⟨i,sa,sc,hi,rfl,rfl,hO,hbs,hz,hR,hB,hxL⟩:=hrel;by_cases hlt2:i<kk
      ·have i1:((x3+1+i:Nat):Int)<8:=by omega
       have hmk:=de U 104 104 (aae _) Zo;simp only [aap] at hmk;have hqs:=Lib.hid (m8 u T.1.2 i);generalize bg u T.1.2 i=P at *;obtain ⟨Z,hZ⟩:∃ Z:List UInt8,Z=List.replicate 104 0:=⟨_,rfl⟩;rw [<- hZ] at hqs;have hown:∀ V:World,Own (V.alloc (.cells (bM (Zz Zu 0) 104) 5)) 0 (some ⟨V.heap.size,0,none⟩) 104 104 Z:=λ V=>by rw [hZ];exact pX V 104 Zo
       clear hZ;have hE2:Ext wr ((wr.alloc (.cells (bM (Zz Zu 0) 104) 5)).alloc (.cells #[Zz Zx 772, Zy (some ⟨wr.heap.size,0,none⟩) 104 104] 79)):=(Ext.of_alloc _ _).alloc _;have hZ2:=(hown wr).ext (Ext.of_alloc (wr.alloc (.cells (bM (Zz Zu 0) 104) 5)) (.cells #[Zz Zx 772, Zy (some ⟨wr.heap.size,0,none⟩) 104 104] 79))
       go_wp2_with (first
        | (at_builtin;refine dL VF rfl _ _ rfl go sa (2+i) sc P rfl (wr.heap.size+1) 1 772 (some ⟨wr.heap.size,0,none⟩) 104 104 Z rfl (hO.ext hE2) (Blk.newAt (wr.alloc (.cells (bM (Zz Zu 0) 104) 5)) #[Zz Zx 772, Zy (some ⟨wr.heap.size,0,none⟩) 104 104] 79 (wr.heap.size+1) Zs).rd hZ2.sl (aae _) (Own.inT hZ2 Zd) Zo (aaq hbs hE2.size) ?_;intro sa' sc' w6 hO6 hg6 hb6)
        | fail)
       skip
       have hOx:=hO.ext hE2;have hz6:=(hz.extB hE2).grown hg6 (hOx.blk (hz.extB hE2) Zd);have hR6:=(hR.extB hE2).grown hg6 (hOx.blk (hR.extB hE2) Zd);have hB6:=(hB.extB hE2).grown hg6 (hOx.blk (hB.extB hE2) Zd);have hE6:Ext w1 w6:=Below.trans (hxL.trans hE2) (hb6.mono Zo);go_roundw
       case rel=>exact ⟨i+1,sa',sc',Zo,Zg,rfl,(by rw [hqs.out];exact hO6),aaq (aaq hbs hE2.size) hb6.size,hz6,hR6,hB6,hE6⟩
       case measure=>simp [intOf];omega
      ·obtain rfl:i=kk:=by omega
       have i1:¬ ((x3+1+i:Nat):Int)<8:=Zo;have hIp:=hO.ib.1;have hpl:=fF u T.1.2 i;have hnc:=hnc.ext hxL;have h1:=h1.ext hxL;have o1:=o1.ext hxL;have o2:=o2.ext hxL;have o3:=o3.ext hxL;have t3:=t3.ext hxL;have o4:=o4.ext hxL;have hE:=hE.trans hxL;have hpr:∀ W,Sl W a1 n1 j.up->Sl W an nn nc->Ib W sa (2+i) (bg u T.1.2 i)->Calls Tryz.prog 51 #[Zy a1 n1 c1, .agg #[Zz Zx (bW t).leap, Zz Zx (bW t).ver, Zz Zx (bW t).mode, Zz Zx (bW t).strat, Zz Zx (bW t).poll, Zz Zx (bW t).prec, Zz Zv (n32 (bW t).rd), Zz Zv (n32 (bW t).rp), Zz Zv (n32 (bW t).id), Zz Zw (n64 (bW t).ref), Zz Zw (n64 (bW t).org), Zz Zw (n64 (bW t).rcv), Zz Zw (n64 (bW t).tx), Zy sa (2+i) sc, Zy none 0 0, .bool false], Zy an nn cn] W (bJ (cD T.1.1.up (kB t u T.1.2 i) nc).1.length (cD T.1.1.up (kB t u T.1.2 i) nc).1 (Zz Zx (cD T.1.1.up (kB t u T.1.2 i) nc).2) W):=λ W H1 H2 H3=>by
        rw [hupj];refine rk a1 an sa none n1 c1 nn cn (2+i) sc 0 0 (kB t u T.1.2 i) j.up nc W H1 hc1 H2 hcn hnnb H3 Zo ?_ (Ib.nil _ _) Zo (λ f hf=>by cases hf);intro f hf;rcases jZ hf with h|h|h
        ·rw [h];show u.length<=1000000;omega
        ·rw [h];show T.1.2.length<=1000000;omega
        ·rw [h];simp
       have hke:7-T.1.1.ck.length=i:=by have:=hkk.out;omega
       have hqe2:=hqe.out;rw [aal qe,hke] at hqe2;generalize cD T.1.1.up (kB t u T.1.2 i) nc=R at *;haveI:=hB.blt;have q0:=hB.cell? 0 rfl;clear hupj;go_wp2_with fail;refine ae 13 [[],[0],[0,1],[],[3],[],[3,4,5],[],[0,1,2,3,4,5,6,7],[0,1,2,3,4,5,6,7,8],[0,1,2,3,4,5,6,7,8,9],[0,1,2,3,4,5,6,7,8,9],[0,1,2,3,4,5,6,7,8,9,10],[0,1,2,3,4,5,6,7,8,9,10,11,12]] Zk Zk Zk Zk ?_;simp only [q8q,q9q,q10q,q11q,q12q,q13q];(repeat (apply aj;(case h=>(intro us w' hx hf;obtain ⟨x,rfl⟩:=hx.out;refine ⟨rfl,?_⟩;simp [go_sem,execOp, *];(try simp (disch:=omega) only [q17q,q18q,q19q]);rfl));(try simp only [Act.put,q0q,q1q,q2q])));(refine ao (λ _ => .agg #[Zz Zx (bW t).leap, Zz Zx (bW t).ver, Zz Zx (bW t).mode, Zz Zx (bW t).strat, Zz Zx (bW t).poll, Zz Zx (bW t).prec, Zz Zv (n32 (bW t).rd), Zz Zv (n32 (bW t).rp), Zz Zv (n32 (bW t).id), Zz Zw (n64 (bW t).ref), Zz Zw (n64 (bW t).org), Zz Zw (n64 (bW t).rcv), Zz Zw (n64 (bW t).tx)]) (λ _ _=>True) (λ _ _ _ _ _=>trivial) (λ us w' hx hf=>⟨rfl,?_⟩) ?_;(unfold gives;simp [go_sem,execOp];refine (hask _).mono ?_;rintro e w1 ⟨rfl,hx1⟩;first|exact ⟨rfl,hx1⟩|simpa using hx1));(repeat (apply aj;(case h=>(intro us w' hx hf;obtain ⟨x,rfl⟩:=hx.out;refine ⟨rfl,?_⟩;simp [go_sem,execOp, *];(try simp (disch:=omega) only [q17q,q18q,q19q]);rfl));(try simp only [Act.put,q0q,q1q,q2q])));(refine ao (λ p => .tuple #[.slice (p 0).1 R.1.length (p 0).2, Zz Zx R.2]) (λ p w''=>Sl w'' (p 0).1 R.1.length (R.1)/\(R.1.length)<=(p 0).2) (λ p w w' h hx=>⟨h.1.ext hx,h.2⟩) (λ us w' hx hf=>⟨rfl,?_⟩) ?_;(unfold gives;simp [go_sem,execOp];exact eR (hpr _ (h1.ext hx) (hnc.ext hx) (hIp.ext hx))));(repeat (apply aj;(case h=>(intro us w' hx hf;obtain ⟨x,rfl⟩:=hx.out;refine ⟨rfl,?_⟩;simp [go_sem,execOp, *];(try simp (disch:=omega) only [q17q,q18q,q19q]);rfl));(try simp only [Act.put,q0q,q1q,q2q])));(refine aB ?_;intro us w' hx hf;obtain ⟨x,rfl⟩:=hx.out;(try simp only [Act.put,q0q,q1q,q2q,ai]);(try simp only [q3q,q4q,aar,aac,aan,q5q,q6q,q7q,aat,aau,aav] at hf);(try simp only [Nat.reduceAdd,aag] at hf ⊢));obtain ⟨hS7,hd7⟩:=hf;obtain ⟨b7,hb7⟩:∃ a,(us 8 0).1=a:=⟨_,rfl⟩;obtain ⟨d7,hd7e⟩:∃ a,(us 8 0).2=a:=⟨_,rfl⟩;rw [hb7] at hS7 ⊢;rw [hd7e] at hd7 ⊢;clear hb7 hd7e q0 hask;have hx7:Ext wr (wr.ext x):=Ext.of_ext _ _;have hR:=hR.extB hx7;have hz:=hz.extB hx7;have o1:=o1.ext hx7;have o2:=o2.ext hx7;have o3:=o3.ext hx7;have t3:=t3.ext hx7;have o4:=o4.ext hx7;have hE:=hE.trans hx7;clear hpr hIp hO hnc h1 hB hx7;generalize wr.ext x=w7 at *;haveI:=hR.blt;haveI:=hz.blt;by_cases qr:R.2=0
       ·have qri:(R.2 != 0)=false:=by rw [aai];exact qr
        have er:=Lib.hid (show r=((T.1.1,R.1),0) by rw [<- hqe2,aal qr]);clear hqe2 hqe
        go_wp2_with (first
         | (refine af RJ6 rfl _ rfl go 0 rfl _ ((hz.rd)) rfl ?_)
         | (refine aa RJ6 rfl _ _ rfl (w.heap.size+1) 0 rfl _ rfl 57 _ hR rfl Zs oC ?_;intro V hV hMV)
         | fail)
        refine aab (aG Tryz.results61 RJ6 _ _ (w.heap.size+1) 0 ([Zy b1 x1 d1, Zy b2 x2 d2, Zy b3 x3 d3, Zy b4 x4 d4, Zz Zx T.1.1.net, Zz Zx T.1.1.sent]) rfl hV.rd rfl (Zy b7 R.1.length d7) (Zz Zx 0) rfl rfl) rfl ?_;rw [er.out];exact ⟨b1,x1,d1,b2,x2,d2,b3,x3,d3,b4,x4,d4,b7,_,d7,rfl,(o1.mutT hR Zd hMV).sl,o1.le.1,(o2.mutT hR Zd hMV).sl,o2.le.1,o3.mutNe (λ b o h=>by have:=hb3w b o h;omega) hR Zs hMV,k3,t3.mut hR Zd hMV,o4.mut hR Zs hMV,k4,hS7.mut hR Zs hMV,hd7,Below.trans hE (hMV.below Zo hE.size)⟩
       ·have qri:(R.2 != 0)=true:=by rw [aax];exact qr
        have er:=Lib.hid (show r=((bT,[]),R.2) by rw [<- hqe2,aaf qr]);clear hqe2 hqe qr
        go_wp2_with (first
         | (refine aa RJ6 rfl _ _ rfl (w.heap.size+1) 0 rfl _ rfl 57 _ hR rfl Zs oC ?_;intro V hV hMV)
         | fail)
        refine aab (aG Tryz.results61 RJ6 _ _ (w.heap.size+1) 0 ([Zy none 0 0, Zy none 0 0, Zy none 0 0, Zy none 0 0, Zz Zx 0, Zz Zx 0]) rfl hV.rd rfl (Zy none 0 0) (Zz Zx R.2) rfl rfl) rfl ?_;rw [er.out];exact mS.zero _ _ _ (Below.trans hE (hMV.below Zo hE.size))
    ·have qei:(T.2 != 0)=true:=by rw [aax];exact qe
     have er:=Lib.hid (show r=((bT,[]),T.2) by rw [<- hqe.out,aaf qe]);clear hqe hok qe
     go_wp2_with (first
      | (refine ag RJ6 rfl rfl _ _ rfl rfl rfl rfl (by simp [Act.put]) _ rfl Zs rfl oC ?_;intro x hz _)
      | (refine aa RJ6 rfl _ _ rfl (w.heap.size+1) 0 rfl _ rfl 57 _ ((hR.extB (show Ext w1 (w1.ext x) from Ext.of_ext _ _))) rfl Zs oC ?_;intro V hV hMV)
      | fail)
     refine aab (aG Tryz.results61 RJ6 _ _ (w.heap.size+1) 0 ([Zy none 0 0, Zy none 0 0, Zy none 0 0, Zy none 0 0, Zz Zx 0, Zz Zx 0]) rfl hV.rd rfl (Zy none 0 0) (Zz Zx T.2) rfl rfl) rfl ?_;rw [er.out];have hE:=hE.trans (show Ext w1 (w1.ext x) from Ext.of_ext _ _);exact mS.zero _ _ _ (Below.trans hE (hMV.below Zo hE.size))
   ·have q2i:((nn:Int) != 16)=true:=by rw [aax];omega
    have er:=Lib.hid (show r=((bT,[]),3) by rw [<- hr.out];unfold lF;rw [aaf (λ h=>Zo)]);clear hr q2
    go_wp2_with (first
     | (refine aa RJ6 rfl _ _ rfl (w.heap.size+1) 0 rfl _ rfl 57 _ hR rfl Zs oC ?_;intro V hV hMV)
     | fail)
    refine aab (aG Tryz.results61 RJ6 _ _ (w.heap.size+1) 0 ([Zy none 0 0, Zy none 0 0, Zy none 0 0, Zy none 0 0, Zz Zx 0, Zz Zx 0]) rfl hV.rd rfl (Zy none 0 0) (Zz Zx 3) rfl rfl) rfl ?_;rw [er.out];exact mS.zero _ _ _ (Below.trans hE (hMV.below Zo hE.size))
  ·have q1i:((nu:Int) != 32)=true:=by rw [aax];omega
   have er:=Lib.hid (show r=((bT,[]),3) by rw [<- hr.out];unfold lF;rw [aaf (λ h=>Zo)]);clear hr q1
   go_wp2_with (first
    | (refine aa RJ6 rfl _ _ rfl (w.heap.size+1) 0 rfl _ rfl 57 _ hR rfl Zs oC ?_;intro V hV hMV)
    | fail)
   refine aab (aG Tryz.results61 RJ6 _ _ (w.heap.size+1) 0 ([Zy none 0 0, Zy none 0 0, Zy none 0 0, Zy none 0 0, Zz Zx 0, Zz Zx 0]) rfl hV.rd rfl (Zy none 0 0) (Zz Zx 3) rfl rfl) rfl ?_;rw [er.out];exact mS.zero _ _ _ (Below.trans hE (hMV.below Zo hE.size))
end Go.Proofs.YtmdahnkcnagkjaaGreat

/- The walks of layer 18 of the document: parts. -/
namespace Go.Pkt
open Go.Oct
theorem wV {G:List UInt8} (h4:G.length % 4=0) (h12:12<=G.length) (hle:G.length<=1228):aO [(1028,G)]=(dt (1028,G),0)/\(dt (1028,G)).drop 4=G/\(dt (1028,G)).length=G.length+4:=by
 have hz:szN G.length=G.length+4:=by unfold szN;omega
 have hs:(cR (1028,G)).2=0:=by
  unfold cR;rw [aaf Zs,aaf (by simp only [hz];omega)]
 refine ⟨?_,?_,by rw [di];exact hz⟩
 ·unfold aO;have hb:fj [(1028,G)]=0:=by unfold fj;rw [aaf (by simpa using hs)];rfl
  rw [hb,aaf Zs,aaf Zs,aaf (by simp only [aL,abb,abo,List.sum_cons,List.sum_nil,hz];omega)];simp [aT]
 ·unfold dt;rw [show (4:Nat)=2+2 from rfl,iE _ _ 2 2 (az _ _),eZ _ _ _ (az _ _)];simp only [hz];rw [show G.length+4-(2+2)-G.length=0 by omega];simp
theorem oE {G:List UInt8} (h4:G.length % 4=0) (hgt:1228<G.length):aO [(1028,G)]=([],2):=by
 have hz:szN G.length=G.length+4:=by unfold szN;omega
 have hs:(cR (1028,G)).2=2:=by
  unfold cR;rw [aaf Zs,aal (by simp only [hz];omega)]
 unfold aO;have hb:fj [(1028,G)]=2:=by unfold fj;rw [aal (by rw [hs];decide),hs]
 rw [hb,aal Zd]
end Go.Pkt
namespace Go.Proofs.YtmdahnkcnagkjaaGreat
open Go.RowKit Go.Sec Go.Oct Go.Pkt Go.Aes BigFrame
def fE (r:Option (List UInt8 × List UInt8)) (w:World)(e:Ending) (w':World):Prop :=
 ∃ a1 n1 c1 a2 n2 c2,e = .returned (.tuple #[Zy a1 n1 c1, Zy a2 n2 c2, .bool r.isSome])/\(∀ x,r=some x->Sl w' a1 n1 x.1/\n1<=c1/\Sl w' a2 n2 x.2/\n2<=c2)/\Ext w w'
theorem fE.no (w w':World)(hx:Ext w w'):fE none w (.returned (.tuple #[Zy none 0 0, Zy none 0 0, .bool false])) w':=⟨none,0,0,none,0,0,rfl,λ _ h=>(by cases h),hx⟩
theorem uV (a:Option Addr)(k c:Nat) (d:List UInt8)(w:World)(hS:Sl w a k d) (hc:k<=c) (hk:k<=1228) :
  Calls Tryz.prog 87 #[Zy a k c] w (fE (db d) w):=by
 have hl:=hS.len;obtain ⟨r,hr⟩:∃ r,db d=r:=⟨_,rfl⟩;rw [hr];have hr:=Lib.hid hr;by_cases h4:k<4
 ·have er:=Lib.hid (show r=none by rw [<- hr.out];exact lX Zo);have i4:(k:Int)<4:=Zo;clear hl
  go_enter Tryz.func87,Tryz.ntmps87
  go_wp2_with fail;refine aab (v := .tuple #[Zy none 0 0, Zy none 0 0, .bool false]) (by simp [results,Tryz.results87,go_sem]) rfl ?_;rw [er.out];exact fE.no _ _ (Ext.refl _)
 ·have i4:¬ (k:Int)<4:=by omega
  obtain ⟨b0,o0,rfl,hb0, -⟩:=hS.at 0 Zo;have hsl:∀ j m,j<k->m<=k-j->Sl w (some ⟨b0,o0+j,none⟩) m ((d.drop j).take m):=λ j m hj hm=>(mR hS hc hj).take m hm;have t1:=hS.take 2 Zo;have t2:=hsl 2 2 Zo Zo;have hg1:=λ W H=>jD (some ⟨b0,o0,none⟩) 2 c (d.take 2) W H Zo;have hg2:=λ W H=>jD (some ⟨b0,o0+2,none⟩) 2 (c-2) ((d.drop 2).take 2) W H Zo;rw [mo _ (by simp;omega)] at hg1 hg2;obtain ⟨n,hn⟩:∃ n,bR (d.take 2)=n:=⟨_,rfl⟩;obtain ⟨m,hm⟩:∃ m,bR ((d.drop 2).take 2)=m:=⟨_,rfl⟩;rw [hn] at hg1;rw [hm] at hg2;have nb:n<65536:=by rw [<- hn];exact fP d
  have mb:m<65536:=by rw [<- hm];exact fP (d.drop 2)
  have hL:=Lib.hid hl;have hn:=Lib.hid hn;have hm:=Lib.hid hm;have j2:(2:Int)<=(c:Int):=Zo;have j4:(4:Int)<=(c:Int):=Zo;have d2:¬ c=2:=Zo;clear hl
  go_enter Tryz.func87,Tryz.ntmps87
  go_wp2_with fail;refine ae 9 [[],[0],[0,1],[0,1,2],[],[4],[0,1,2,4,5],[0,1,2,4,5,6],[0,1,2,3,4,5,6],[0,1,2,3,4,5,6,7,8]] Zk Zk Zk Zk ?_;simp only [q8q,q9q,q10q,q11q,q12q,q13q];(repeat (apply aj;(case h=>(intro us w' hx hf;obtain ⟨x,rfl⟩:=hx.out;refine ⟨rfl,?_⟩;simp [go_sem,execOp, *];(try simp (disch:=omega) only [q17q,q18q,q19q]);rfl));(try simp only [Act.put,q0q,q1q,q2q])));(refine ao (λ _ => Zz Zw ((n:Nat):Int)) (λ _ _=>True) (λ _ _ _ _ _=>trivial) (λ us w' hx hf=>⟨rfl,?_⟩) ?_;(unfold gives;simp [go_sem,execOp];refine (hg1 _ (t1.ext hx)).mono ?_;rintro e w1 ⟨rfl,hx1⟩;first|exact ⟨rfl,hx1⟩|simpa using hx1));(repeat (apply aj;(case h=>(intro us w' hx hf;obtain ⟨x,rfl⟩:=hx.out;refine ⟨rfl,?_⟩;simp [go_sem,execOp, *];(try simp (disch:=omega) only [q17q,q18q,q19q]);rfl));(try simp only [Act.put,q0q,q1q,q2q])));(refine ao (λ _ => Zz Zw ((m:Nat):Int)) (λ _ _=>True) (λ _ _ _ _ _=>trivial) (λ us w' hx hf=>⟨rfl,?_⟩) ?_;(unfold gives;simp [go_sem,execOp];refine (hg2 _ (t2.ext hx)).mono ?_;rintro e w1 ⟨rfl,hx1⟩;first|exact ⟨rfl,hx1⟩|simpa using hx1));(repeat (apply aj;(case h=>(intro us w' hx hf;obtain ⟨x,rfl⟩:=hx.out;refine ⟨rfl,?_⟩;simp [go_sem,execOp, *];(try simp (disch:=omega) only [q17q,q18q,q19q]);rfl));(try simp only [Act.put,q0q,q1q,q2q])));(refine aB ?_;intro us w' hx hf;obtain ⟨x,rfl⟩:=hx.out;(try simp only [Act.put,q0q,q1q,q2q,ai]);(try simp only [q3q,q4q,aar,aac,aan,q5q,q6q,q7q,aat,aau,aav] at hf);(try simp only [Nat.reduceAdd,aag] at hf ⊢));have hwn:IntKind.i64.wrap ((n:Nat):Int)=(n:Int):=by rw [abe];omega
  have hwm:IntKind.i64.wrap ((m:Nat):Int)=(m:Int):=by clear hwn;rw [abe];omega
  try rw [hwn]
  try rw [hwm]
  clear hwn hwm hf hg1 hg2 t1 t2;have hE:Ext w (w.ext x):=Ext.of_ext _ _;have hS:=hS.ext hE;generalize w.ext x=W at *;have pm0:m<=aI m:=by unfold aI;omega
  obtain ⟨Fr,hFr⟩:∃ Fr,4+aI n=Fr:=⟨_,rfl⟩;have hFi:(4:Int)+((n:Int)+3) / 4*4=(Fr:Int):=by rw [<- hFr];unfold aI;omega
  have hFn:4+n<=Fr:=by rw [<- hFr];unfold aI;omega
  have hFb:Fr<66000:=by rw [<- hFr];unfold aI;omega
  by_cases q0:n<16
  ·have er:=Lib.hid (show r=none by rw [<- hr.out];exact iX (by rw [hn.out];omega));have i5:(n:Int)<16:=Zo;go_wp2_with fail;refine aab (v := .tuple #[Zy none 0 0, Zy none 0 0, .bool false]) (by simp [results,Tryz.results87,go_sem]) rfl ?_;rw [er.out];exact fE.no _ _ hE
  ·have i5:¬ (n:Int)<16:=by omega
   by_cases q1:32<n
   ·have er:=Lib.hid (show r=none by rw [<- hr.out];exact iX (by rw [hn.out];omega));have i6:(32:Int)<(n:Int):=Zo;go_wp2_with fail;refine aab (v := .tuple #[Zy none 0 0, Zy none 0 0, .bool false]) (by simp [results,Tryz.results87,go_sem]) rfl ?_;rw [er.out];exact fE.no _ _ hE
   ·have i6:¬ (32:Int)<(n:Int):=by omega
    by_cases q2:k<Fr+m
    ·have er:=Lib.hid (show r=none by rw [<- hr.out];exact jn (by rw [hn.out,hm.out,hL.out];omega));have i7:(k:Int)<(Fr:Int)+(m:Int):=Zo;go_wp2_with fail;refine aab (v := .tuple #[Zy none 0 0, Zy none 0 0, .bool false]) (by simp [results,Tryz.results87,go_sem]) rfl ?_;rw [er.out];exact fE.no _ _ hE
    ·have i7:¬ (k:Int)<(Fr:Int)+(m:Int):=by omega
     go_wp2_with fail;have j5:(4:Int)<=4+(n:Int):=Zo;have j6:(4:Int)+(n:Int)<=(c:Int):=Zo;have j7:((4:Int)+(n:Int)).toNat=4+n:=Zo;have j8:4+n-4=n:=Zo;have j9:(0:Int)<=(Fr:Int):=Zo;have j10:(Fr:Int)<=(Fr:Int)+(m:Int):=Zo;have j11:(Fr:Int)+(m:Int)<=(c:Int):=Zo;have j12:((Fr:Int)+(m:Int)).toNat=Fr+m:=Zo;have j13:Fr+m-Fr=m:=Zo;have d4:¬ c=4:=Zo;have u1:=(mR hS hc (i:=4) Zo).take n Zo;obtain ⟨A,hA,u2⟩:∃ A,(if c=Fr then some (⟨b0,o0,none⟩:Addr) else some ⟨b0,o0+Fr,none⟩)=A/\Sl W A m ((d.drop Fr).take m):=⟨_,rfl,by have:=(hS.drop c Fr hc).take m Zo;simpa [dX,bZ] using this⟩;clear hsl;refine ae 11 [[],[],[1],[0,1,2],[],[],[],[],[6,7],[4,5,6,7,8],[0,1,2,3],[0,1,2,3,4,5,6,7,8,9,10]] Zk Zk Zk Zk ?_;simp only [q8q,q9q,q10q,q11q,q12q,q13q];(repeat (apply aj;(case h=>(intro us w' hx hf;obtain ⟨x,rfl⟩:=hx.out;refine ⟨rfl,?_⟩;simp [go_sem,execOp, *];(try simp (disch:=omega) only [q17q,q18q,q19q]);rfl));(try simp only [Act.put,q0q,q1q,q2q])));(refine aB ?_;intro us w' hx hf;obtain ⟨x,rfl⟩:=hx.out;(try simp only [Act.put,q0q,q1q,q2q,ai]);(try simp only [q3q,q4q,aar,aac,aan,q5q,q6q,q7q,aat,aau,aav] at hf);(try simp only [Nat.reduceAdd,aag] at hf ⊢));have hE2:Ext W (W.ext x):=Ext.of_ext _ _;have hE:=hE.trans hE2;have u1:=u1.ext hE2;have u2:=u2.ext hE2;have hS:=hS.ext hE2;generalize W.ext x=W at *;obtain ⟨N1,hN1⟩:∃ l,(d.drop 4).take n=l:=⟨_,rfl⟩;obtain ⟨N2,hN2⟩:∃ l,(d.drop Fr).take m=l:=⟨_,rfl⟩;rw [hN1] at u1;rw [hN2] at u2;have l1:=u1.len;have l2:=u2.len;have hGl:(aD N1 N2).length=Fr+aI m:=by rw [eF,l1,l2,<- hFr]
     have hGm:(aD N1 N2).length % 4=0:=by rw [hGl,<- hFr];unfold aI;omega
     have hd1:(d.drop 4).take (bR (d.take 2))=N1:=by rw [hn.out];exact hN1
     have hd2:(d.drop (4+aI (bR (d.take 2)))).take (bR ((d.drop 2).take 2))=N2:=by rw [hn.out,hm.out,hFr];exact hN2
     have hyes:aD N1 N2=d->r=some (N1,N2):=λ h=>by
      have hlen:d.length=4+aI n+aI m:=by rw [<- h,hGl,<- hFr]
      have:=oG (d:=d) Zo (by rw [hn.out];omega) (by rw [hn.out,hm.out];exact hlen) (by rw [hd1,hd2];exact h);rw [hd1,hd2,hr.out] at this;exact this
     have hnot:aD N1 N2≠d->r=none:=λ h=>by
      have:=pT (d:=d) (by rw [hd1,hd2];exact h);rw [hr.out] at this;exact this
     have hgu:=λ W H1 H2=>mO (some ⟨b0,o0+4,none⟩) A n (c-4) m (c-Fr) N1 N2 W H1 H2 Zo Zo;have hc1:n<=c-4:=Zo;have hc2:m<=c-Fr:=Zo;have hpm:aI m<70000:=by unfold aI;omega
     clear hN1 hN2 hd1 hd2 hr hn hm hf j5 j6 j7 j8 j9 j10 j11 j12 j13 l1 l2 d2 d4 hA q0 q1 q2 hE2;generalize aD N1 N2=G at *;have hGb:G.length<=200000/\20<=G.length:=Zo;replace hGl:=Lib.hid hGl;go_wp2_with fail;(with_reducible refine (hgu _ u1 u2).mono ?_);rintro e w5 ⟨b5,d5,rfl,hO5,hx5⟩;have hE:=hE.trans hx5;have u1:=u1.ext hx5;have u2:=u2.ext hx5;have hS:=hS.ext hx5;have hS5:=hO5.sl;have hle5:=hO5.le.1;have hlen:=hS5.len;rw [<- hlen] at hS5 hle5 ⊢;clear hlen hO5 hgu hx5;have hxe:=λ a' c' W H=>e9 a' 1 c' [(1028,G)] W H Zo (by intro f hf;rw [aaB.1 hf];show G.length<=1000000;omega);go_wp2_with fail;(with_reducible refine (hxe _ _ _ (ib1 hS5 hle5 1028 _)).mono ?_);rintro e w6 ⟨b6,d6,rfl,hS6,hd6,hx6⟩;have hx6:Ext w5 w6:=(Ext.of_alloc _ _).trans hx6;have hE:=hE.trans hx6;have u1:=u1.ext hx6;have u2:=u2.ext hx6;have hS:=hS.ext hx6;clear hxe hS5 hle5 hx6;by_cases q3:G.length<=1228
     ·obtain ⟨z1,z2,z3⟩:=wV hGm Zo q3;rw [z1] at hS6 hd6 ⊢;simp only at hS6 hd6 ⊢;clear z1;generalize dt (1028,G)=FB at *;obtain ⟨g6,o6,rfl,hg6, -⟩:=hS6.at 0 Zo;have u6:=mR hS6 hd6 (i:=4) Zo;rw [z2] at u6;have hsm:=λ W H1 H2=>iP (some ⟨g6,o6+4,none⟩) (some ⟨b0,o0,none⟩) (FB.length-4) (d6-4) k c G d W H1 H2;have j1:(4:Int)<=(FB.length:Int):=Zo;have j2:(4:Int)<=(d6:Int):=Zo;have j3:¬ d6=4:=Zo;clear hS6 z2;replace z3:=Lib.hid z3;go_wp2_with fail;(with_reducible refine (hsm _ u6 hS).mono ?_);rintro e w7 ⟨rfl,hx7⟩;have hE:=hE.trans hx7;by_cases q4:G=d
      ·have er:=Lib.hid (hyes q4);have hb:(G == d)=true:=abd.2 q4;rw [hb];clear hyes hnot q4 hb;go_wp2_with fail;refine aab (v := .tuple #[Zy (some ⟨b0,o0+4,none⟩) n (c-4), Zy A m (c-Fr), .bool true]) (by simp [results,Tryz.results87,go_sem]) rfl ?_;rw [er.out];exact ⟨_,_,_,_,_,_,rfl,λ x hx=>(by injection hx with hx;subst hx;exact ⟨u1.ext hx7,hc1,u2.ext hx7,hc2⟩),hE⟩
      ·have er:=Lib.hid (hnot q4);have hb:(G == d)=false:=aaz.2 q4;rw [hb];clear hyes hnot q4 hb;go_wp2_with fail;refine aab (v := .tuple #[Zy none 0 0, Zy none 0 0, .bool false]) (by simp [results,Tryz.results87,go_sem]) rfl ?_;rw [er.out];exact fE.no _ _ hE
     ·have er:=Lib.hid (hnot λ h=>q3 (by rw [h,hL.out];omega));have z1:=oE hGm Zo;rw [z1] at hS6 hd6 ⊢;simp only at hS6 hd6 ⊢;clear hyes hnot z1;go_wp2_with fail;refine aab (v := .tuple #[Zy none 0 0, Zy none 0 0, .bool false]) (by simp [results,Tryz.results87,go_sem]) rfl ?_;rw [er.out];exact fE.no _ _ hE
end Go.Proofs.YtmdahnkcnagkjaaGreat
