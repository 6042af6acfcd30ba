/- Lemmas of this claim, several texts joined. -/
import Derived.Test.YtmdahnkcnagkjaaGreatZ29
import Derived.Test.YtmdahnkcnagkjaaGreatZ37
import Derived.Test.YtmdahnkcnagkjaaGreatZ38
set_option maxRecDepth 100000
open Go.Value renaming int -> Zz,slice -> Zy
open Go.IntKind renaming i64 -> Zx,u64 -> Zw,u32 -> Zv
open List renaming setIfInBounds_toArray -> q0q, set_cons_succ -> q1q, set_cons_zero -> q2q, cons_append -> q6q, take_succ_cons -> q8q, take_zero -> q9q, drop_succ_cons -> q10q, drop_zero -> q11q, take_nil -> q12q, drop_nil -> q13q, getElem_toArray -> q14q, getElem_cons_succ -> q15q, getElem_cons_zero -> q16q
open Go.IntWalk renaming i64_in -> q17q, rem_in -> q18q, wrap64_in -> q19q
set_option maxHeartbeats 8000000
set_option linter.unusedVariables false
set_option linter.unusedSimpArgs false
/- The walks of layer 17: Encode. -/
namespace Go.Pkt
open Go.Sec Go.RowKit Go.Oct
theorem oT (A B:List Fld) (h:fi A=0):fi (A++B)=fi B:=by
 induction A with
 | nil=>rfl
 | cons f A ih =>
  rw [fi] at h;split at h
  ·rename_i h1;exact absurd h h1
  ·rename_i h1;rw [q6q,fi,aae h1,ih h]
theorem vw {L:List Fld} {k:Nat} {x:Fld} (hx:L[k]?=some x) (h:fi (L.take k)=0) (hx2:(cQ x).2≠0):fi L=(cQ x).2:=by
 obtain ⟨hk,rfl⟩:=List.getElem?_eq_some_iff.1 hx;have:L=L.take k++(L[k] :: L.drop (k+1)):=by rw [<- List.drop_eq_getElem_cons hk,List.take_append_drop]
 have e:=congrArg fi this;rw [oT _ _ h,fi,aaj hx2] at e;exact e
theorem nO {L:List Fld} {k:Nat} {x:Fld} (hx:L[k]?=some x):L.take (k+1)=L.take k++[x]:=by
 obtain ⟨hk,rfl⟩:=List.getElem?_eq_some_iff.1 hx;exact aas hk
theorem vA {x:Fld} (h:(cQ x).2=0):(0<=x.1/\x.1<=65535)/\szN x.2.length<=1232/\cQ x=(((szN x.2.length:Nat):Int),0):=by
 unfold cQ at h ⊢;split at h
 ·cases h
 ·rename_i h1;rw [aae h1];split at h
  ·cases h
  ·rename_i h2;rw [aae h2];exact ⟨Zo,Zo,rfl⟩
theorem zK (f:Fld) (N:Nat) (hN:szN f.2.length=N) :
  ((((List.replicate N (0:UInt8)).take 0++aF 2 (UInt64.ofNat f.1.toNat)++(List.replicate N (0:UInt8)).drop (0+2)).take (0+2)++aF 2 (UInt64.ofNat N)++((List.replicate N (0:UInt8)).take 0++aF 2 (UInt64.ofNat f.1.toNat)++(List.replicate N (0:UInt8)).drop (0+2)).drop (0+2+2)).take (0+2+2)++f.2 ++
   (((List.replicate N (0:UInt8)).take 0++aF 2 (UInt64.ofNat f.1.toNat)++(List.replicate N (0:UInt8)).drop (0+2)).take (0+2)++aF 2 (UInt64.ofNat N)++((List.replicate N (0:UInt8)).take 0++aF 2 (UInt64.ofNat f.1.toNat)++(List.replicate N (0:UInt8)).drop (0+2)).drop (0+2+2)).drop (0+2+2+f.2.length))=dt f:=by
 subst hN;have hz:=jM f.2.length;generalize hp:aF 2 (UInt64.ofNat f.1.toNat)=p;generalize hq:aF 2 (UInt64.ofNat (szN f.2.length))=q;have lp:p.length=2:=by rw [<- hp];exact aw _ _
 have lq:q.length=2:=by rw [<- hq];exact aw _ _
 unfold dt;rw [hp,hq];generalize szN f.2.length=N at *;have e1:(List.replicate N (0:UInt8)).take 0++p++(List.replicate N (0:UInt8)).drop (0+2)=p++List.replicate (N-2) 0:=Zs;rw [e1,dV _ _ _ lp,show 0+2+2=2+2 from rfl,iS _ _ 2 2 lp,List.drop_replicate,aam,<- aam p q,dV _ _ _ (by simp [lp,lq]),iS _ _ (2+2) f.2.length (by simp [lp,lq]),List.drop_replicate];rw [show N-2-2-f.2.length=N-4-f.2.length by omega]
end Go.Pkt
namespace Go.Sec
open Go.RowKit
theorem Sl.mutNe {w w':World} {a:E8} {n g:Nat} {l:E7} (h:Sl w a n l) (hM:Mut g w w') (hne:n=0\/∀ b o,a=some ⟨b,o,none⟩->b≠g):Sl w' a n l:=by
 rcases hne with h0|hne
 ·exact z32q90
 ·refine ⟨h.len,?_⟩;rcases h.by' with h1|⟨b,o,e,hb,hc⟩
  ·exact .inl h1
  ·subst e;exact Rd.turn hM (.inr ⟨b,o,rfl,hb,hc⟩) (hne b o rfl)
theorem Sl.ne {w:World} {a:E8} {n g:Nat} {l:E7} (h:Sl w a n l) (hg:w.heap.size<=g):n=0\/∀ b o,a=some ⟨b,o,none⟩->b≠g:=by
 by_cases h0:n=0
 ·exact .inl h0
 ·exact .inr λ b o e=>by have:=h.lt Zo b o e;omega
theorem Own.mutNe {w w':World} {base n c g:Nat} {a:E8} {l:E7} (h:Own w base a n c l) (hM:Mut g w w') (hne:(Value.slice a n c).ownBlock≠some g):Own w' base a n c l:=by
 refine ⟨h.1,h.2.1,?_⟩;rcases h.2.2 with h1|⟨g',cap,cur,hv,hb,hh,r⟩
 ·exact .inl h1
 ·refine .inr ⟨g',cap,cur,hv,hb,?_,r⟩;rw [hM.block g' (Array.getElem?_eq_some_iff.1 hh).1 (λ e=>hne (by rw [hv];exact e))];exact hh
theorem Own.ne {w:World} {base n c g:Nat} {a:E8} {l:E7} (h:Own w base a n c l) (hg:w.heap.size<=g):(Value.slice a n c).ownBlock≠some g:=λ e=>by
 have:=(fS h.2 g e).2;omega
end Go.Sec
namespace Go.Proofs.P9
open Go.RowKit Go.Sec Go.Oct Go.Pkt BigFrame
theorem _root_.z39q41{p:Prop}(h:p:=by
 have i24:(24:Int)<(k:Int):=Zo;have er:=FC (show r=([],8) by rw [<- hr.out];unfold aX;rw [hbad.out,aae Zs,aaj Zo]);go_wp2_with fail;go_ret2;rw [er.out];exact aC _ _ _ hx):p:=h
theorem jJ (a:E8)(n c:Nat) (L:List Fld) (w:World)(hI:Ib w a n L) (hn:n<=1000000) (hL:∀ f∈L,f.2.length<=1000000) :
  Calls Tryz.prog 129 #[Zy a n c] w (bD (aX L).1.length (aX L).1 (Zz Zx (aX L).2) w):=by
 have hl:=hI.len;obtain ⟨r,hr⟩:∃ r,aX L=r:=⟨_,rfl⟩;rw [hr];have hr:=FC hr;have hp2:=λ (v:UInt64) (vI:Int) (hv:vI=n64 v) W=>gI v 2 hv (show (2:Int)=((2:Nat):Int) from rfl) W Zo
 go_enter Tryz.func129,Tryz.ntmps129
 go_wp2_with fail
 go_loopw [4,5,7,8,9,10,13] (λ v4 v5 _ _ _ _ v13 wr=>∃ (k m:Nat) (sa:E8)(sc:Nat) (O:E7),k<=n/\v13 = Zz Zx k/\v5 = .bool (decide (1232<bf (L.take k)))/\v4 = Zy sa m sc/\m<=1232/\Own wr w.heap.size sa m sc O/\Hid (bf (L.take k)<=1232->O=aQ (L.take k))/\Hid (fi (L.take k)=0)/\Ext w wr) (λ _ _ _ _ _ _ v13 _=>n-(intOf v13).toNat)
 case atStart=>exact ⟨0,0,none,0,[],Zo,rfl,rfl,rfl,Zo,Own.nil _ _,FC λ _=>rfl,FC rfl,FD _⟩
 case round =>
  obtain ⟨k,m,sa,sc,O,hk,rfl,rfl,rfl,hm,hO,hOl,hbad,hx⟩:=hrel;by_cases hlt:k<n
  ·obtain ⟨x,hxi⟩:∃ x,L[k]?=some x:=⟨_,List.getElem?_eq_getElem Zo⟩;have hxl:=hL x (List.mem_of_getElem? hxi);obtain ⟨b0,o0,g',c',rfl,hb0,hc0,hc1,hSk,hck⟩:=(hI.ext hx).at k hlt _ hxi;have hrd:=rd2 hb0.lt hc0 hc1;have i0:(0:Int)<=(k:Int):=Zo;have i1:(k:Int)<(n:Int):=Zo;have hsz:=λ W=>xB x g' c' W Zo;have hts:=FC (nO hxi);haveI:=hb0;by_cases he:(cQ x).2=0
   ·obtain ⟨⟨t0,t1⟩,hzz,hze⟩:=vA he;obtain ⟨N,hN⟩:∃ N,szN x.2.length=N:=⟨_,rfl⟩;have hN16:=jM x.2.length;rw [hN] at hN16 hze hzz;rw [hze] at hsz;have htt:=eO (L.take k) x;have hb2:=FC (show fi (L.take (k+1))=0 by rw [hts.out,oT _ _ hbad.out,fi,aae (by simpa using he)];rfl);rw [<- hts.out,hN] at htt;clear he;by_cases hlo:1232<bf (L.take k)
    ·have il:decide (1232<bf (L.take k))=true:=aav hlo;have il2:=FC (show decide (1232<bf (L.take (k+1)))=true from aav Zo);have hol:=FC (show bf (L.take (k+1))<=1232->O=aQ (L.take (k+1)) from λ h=>Zo);rw [il];clear htt hN16 hlo hN
     go_wp2_with (first
      | (refine af RF2 rfl _ rfl b0 (o0+k*2) rfl _ hrd rfl ?_)
      | (go_at_call 153;refine (hsz _).mono ?_;rintro e w1 ⟨rfl,hxq⟩;obtain ⟨xq,rfl⟩:=hxq.out;clear hxq)
      | fail)
     go_roundw
     case rel=>exact ⟨k+1,m,sa,sc,O,Zo,Zg,by rw [il2.out],rfl,hm,hO.ext eX,hol,hb2,hx.trans eX⟩
     case measure=>simp [intOf];omega
    ·have il:decide (1232<bf (L.take k))=false:=aay hlo;have hOe:=hOl.out Zo;have hmt:m=bf (L.take k):=by rw [<- hO.1,hOe,bO]
     rw [il];by_cases hlo2:1232<m+N
     ·have il2:=FC (show decide (1232<bf (L.take (k+1)))=true from aav Zo);have hol:=FC (show bf (L.take (k+1))<=1232->O=aQ (L.take (k+1)) from λ h=>Zo);have ilo:(1232:Int)<(m:Int)+(N:Int):=Zo;clear htt hN16 hlo hN hmt hOe
      go_wp2_with (first
       | (refine af RF2 rfl _ rfl b0 (o0+k*2) rfl _ hrd rfl ?_)
       | (go_at_call 153;refine (hsz _).mono ?_;rintro e w1 ⟨rfl,hxq⟩;obtain ⟨xq,rfl⟩:=hxq.out;clear hxq)
       | fail)
      go_roundw
      case rel=>exact ⟨k+1,m,sa,sc,O,Zo,Zg,by rw [il2.out],rfl,hm,hO.ext eX,hol,hb2,hx.trans eX⟩
      case measure=>simp [intOf];omega
     ·have il2:=FC (show decide (1232<bf (L.take (k+1)))=false from aay Zo);have hol:=FC (show O++dt x=aQ (L.take (k+1)) by rw [hOe,hts.out,jT]);have ilo:¬ (1232:Int)<(m:Int)+(N:Int):=Zo;have hfill:=FC (zK x N hN);have hfl:=de x;rw [hN] at hfl;clear htt hlo hN hmt hOe;have hmk:=dc U 0 N (aak _) Zo;simp only [aan] at hmk
      go_wp2_with (first
       | (refine af RF2 rfl _ rfl b0 (o0+k*2) rfl _ hrd rfl ?_)
       | (go_at_call 153;refine (hsz _).mono ?_;rintro e w1 ⟨rfl,hxq⟩;obtain ⟨xq,rfl⟩:=hxq.out;clear hxq)
       | fail)
      refine cU ?_;intro W hW;have hEW:Ext wr W:=by rw [hW];exact eX
      have hF:Blk W wr.heap.size 79 [Zz Zx x.1, Zy g' x.2.length c']:=by rw [hW];exact bK
      have hB:=bY ((wr.alloc (.cells #[Zz Zx x.1, Zy g' x.2.length c'] 79)).ext xq) N;rw [<- hW] at hB;have hgl:wr.heap.size<=((wr.alloc (.cells #[Zz Zx x.1, Zy g' x.2.length c'] 79)).ext xq).heap.size:=Below.size (B:=wr.heap.size) eX;have hgn:wr.heap.size≠((wr.alloc (.cells #[Zz Zx x.1, Zy g' x.2.length c'] 79)).ext xq).heap.size:=by
       have h:=BZ (n:=wr.heap.size) (w:=(wr.alloc (.cells #[Zz Zx x.1, Zy g' x.2.length c'] 79)).ext xq);omega
      generalize ((wr.alloc (.cells #[Zz Zx x.1, Zy g' x.2.length c'] 79)).ext xq).heap.size=g at *;clear hW hmk;have hS0:=hSk.ext hEW;have hO0:=hO.ext hEW;have hSne:=hSk.ne hgl;have hOne:=hO.ne hgl;have hgW:=hB.lt;haveI:=hF.blt;have i4:0<=x.1:=t0;have hv1:IntKind.u64.wrap x.1=n64 (UInt64.ofNat x.1.toNat):=by rw [aaG];unfold n64;rw [aaH];omega
      have hv2:IntKind.u64.wrap (N:Int)=n64 (UInt64.ofNat N):=by rw [aaG];unfold n64;rw [aaH];omega
      have hpa:=hp2 _ _ hv1;have hpb:=hp2 _ _ hv2;clear hv1 hv2 hp2;have hfl:=FC hfl;have hSE:∀ w',Ext W w'->(λ w'=>w'.cell? ⟨wr.heap.size,0,none⟩=some (Zz Zx x.1)/\w'.cell? ⟨wr.heap.size,1,none⟩=some (Zy g' x.2.length c')) w':=(λ w' h=>⟨(hF.extB h).cell? 0 rfl,(hF.extB h).cell? 1 rfl⟩);have hExt0:Ext W (W).drew:=Ext.drew (FD _);refine aaS (S:=λ w'=>w'.cell? ⟨wr.heap.size,0,none⟩=some (Zz Zx x.1)/\w'.cell? ⟨wr.heap.size,1,none⟩=some (Zy g' x.2.length c')) Zk (hSE _ hExt0) (λ hHeld=>?_);refine aap (i:=0) (v:=?v1) rfl Zk Zk Zk (λ _ _ _ h=>h) (Or.inl ⟨by rfl,?hy1⟩) hHeld ?_;(case hy1=>(intro w' hx;simp [go_sem,execOp, *];(try simp (disch:=omega) only [q17q,q18q,q19q]);rfl));(try simp only [q14q,q15q,q16q,Act.put,q0q,q1q,q2q]);refine aap (i:=1) (v:=?v2) rfl Zk Zk Zk (λ _ _ _ h=>h) (Or.inl ⟨by rfl,?hy2⟩) hHeld ?_;(case hy2=>(intro w' hx;simp [go_sem,execOp, *];(try simp (disch:=omega) only [q17q,q18q,q19q]);rfl));(try simp only [q14q,q15q,q16q,Act.put,q0q,q1q,q2q]);refine aap (i:=2) (v:=?v3) rfl Zk Zk Zk (λ _ _ _ h=>h) (Or.inl ⟨by rfl,?hy3⟩) hHeld ?_;(case hy3=>(intro w' hx;simp [go_sem,execOp, *];(try simp (disch:=omega) only [q17q,q18q,q19q]);rfl));(try simp only [q14q,q15q,q16q,Act.put,q0q,q1q,q2q]);refine aap (i:=3) (v:=?v4) rfl Zk Zk Zk (λ _ _ _ h=>h) (Or.inl ⟨by rfl,?hy4⟩) hHeld ?_;(case hy4=>(intro w' hx;simp [go_sem,execOp, *];(try simp (disch:=omega) only [q17q,q18q,q19q]);rfl));(try simp only [q14q,q15q,q16q,Act.put,q0q,q1q,q2q]);refine aap (i:=6) (v:=?v5) rfl Zk Zk Zk (λ _ _ _ h=>h) (Or.inl ⟨by rfl,?hy5⟩) hHeld ?_;(case hy5=>(intro w' hx;simp [go_sem,execOp, *];(try simp (disch:=omega) only [q17q,q18q,q19q]);rfl));(try simp only [q14q,q15q,q16q,Act.put,q0q,q1q,q2q]);refine aap (i:=7) (v:=?v6) rfl Zk Zk Zk (λ _ _ _ h=>h) (Or.inl ⟨by rfl,?hy6⟩) hHeld ?_;(case hy6=>(intro w' hx;simp [go_sem,execOp, *];(try simp (disch:=omega) only [q17q,q18q,q19q]);rfl));(try simp only [q14q,q15q,q16q,Act.put,q0q,q1q,q2q]);refine aap (i:=10) (v:=?v7) rfl Zk Zk Zk (λ _ _ _ h=>h) (Or.inl ⟨by rfl,?hy7⟩) hHeld ?_;(case hy7=>(intro w' hx;simp [go_sem,execOp, *];(try simp (disch:=omega) only [q17q,q18q,q19q]);rfl));(try simp only [q14q,q15q,q16q,Act.put,q0q,q1q,q2q]);refine aap (i:=11) (v:=?v8) rfl Zk Zk Zk (λ _ _ _ h=>h) (Or.inl ⟨by rfl,?hy8⟩) hHeld ?_;(case hy8=>(intro w' hx;simp [go_sem,execOp, *];(try simp (disch:=omega) only [q17q,q18q,q19q]);rfl));(try simp only [q14q,q15q,q16q,Act.put,q0q,q1q,q2q]);(refine R5.aT 4 Zk rfl rfl ?_;unfold gives;simp [go_sem,execOp]);(with_reducible refine (hpa _).mono ?_);rintro e w5 ⟨a5,c5,rfl,hO5,hx5⟩;have hx5:Ext W w5:=hExt0.trans hx5;refine ⟨_,rfl,hSE _ hx5,?_⟩;(try simp only [q14q,q15q,q16q,Act.put,q0q,q1q,q2q]);refine R5.aT 5 Zk rfl rfl (R5.fx U _ _ rfl g 0 N rfl a5 2 c5 rfl _ _ (hB.extB hx5) Zs hO5.sl Zo ?_);intro w6 hB6 hM6;have hF6:=Blk.turn hM6 (hF.extB hx5) hgn;refine ⟨⟨hF6.cell? 0 rfl,hF6.cell? 1 rfl⟩,?_⟩;(try simp only [q14q,q15q,q16q,Act.put,q0q,q1q,q2q]);(refine R5.aT 8 Zk rfl rfl ?_;unfold gives;simp [go_sem,execOp]);(with_reducible refine (hpb _).mono ?_);rintro e w7 ⟨a7,c7,rfl,hO7,hx7⟩;have hF7:=hF6.extB hx7;refine ⟨_,rfl,⟨hF7.cell? 0 rfl,hF7.cell? 1 rfl⟩,?_⟩;(try simp only [q14q,q15q,q16q,Act.put,q0q,q1q,q2q]);refine R5.aT 9 Zk rfl rfl (R5.fx U _ _ rfl g (0+2) N rfl a7 2 c7 rfl _ _ (hB6.extB hx7) (by simp [aw];omega) hO7.sl Zo ?_);intro w8 hB8 hM8;have hF8:=Blk.turn hM8 hF7 hgn;have hS8:=(((hS0.ext hx5).mutNe hM6 hSne).ext hx7).mutNe hM8 hSne;refine ⟨⟨hF8.cell? 0 rfl,hF8.cell? 1 rfl⟩,?_⟩;(try simp only [q14q,q15q,q16q,Act.put,q0q,q1q,q2q]);refine R5.aT 12 Zk rfl rfl (R5.fx U _ _ rfl g (0+2+2) N rfl g' x.2.length c' rfl _ _ hB8 (by simp [aw];omega) hS8 Zo ?_);intro w9 hB9 hM9;have hF9:=Blk.turn hM9 hF8 hgn;have hO9:=((((hO0.ext hx5).mutNe hM6 hOne).ext hx7).mutNe hM8 hOne).mutNe hM9 hOne;have hE5:=(hx.trans hEW).trans hx5;have hE6:Ext w w6:=E9 hE5 (hM6.below (by have:=hx.size;omega) hE5.size);have hE7:=hE6.trans hx7;have hE8:Ext w w8:=E9 hE7 (hM8.below (by have:=hx.size;omega) hE7.size);have hE9:Ext w w9:=E9 hE8 (hM9.below (by have:=hx.size;omega) hE8.size);rw [hfill.out] at hB9;have hS9:=hB9.sl hfl.out;refine ⟨⟨hF9.cell? 0 rfl,hF9.cell? 1 rfl⟩,?_⟩;(try simp only [q14q,q15q,q16q,Act.put,q0q,q1q,q2q]);(refine R5.aT 13 Zk rfl rfl ?_;unfold gives;simp [go_sem,execOp]);refine ⟨⟨hF9.cell? 0 rfl,hF9.cell? 1 rfl⟩,?_⟩;(try simp only [q14q,q15q,q16q,Act.put,q0q,q1q,q2q]);refine abh Zk ?_ _;clear hSE hExt0 hfill hB6 hB8 hM6 hM8 hM9 hF6 hF7 hF8 hF9 hE5 hE6 hE7 hE8 hO5 hO7 hS8 hpa hpb;have iN:(N:Int)<=(N:Int):=Int.le_refl _
      go_wp2_with (at_builtin;refine aB U rfl _ _ rfl w.heap.size sa _ sc _ rfl (some ⟨g,0,none⟩) N N _ rfl hO9 hS9 Zo hE9.size ?_;intro sa2 sc2 w2 hO2 hg2 hB2)
      go_roundw
      case rel=>exact ⟨k+1,m+N,sa2,sc2,_,Zo,Zg,by rw [il2.out];simp;omega,rfl,Zo,hO2,FC λ _=>hol.out,hb2,E9 hE9 hB2⟩
      case measure=>simp [intOf];omega
   ·have he2:=FC (show r=([],(cQ x).2) by
     rw [<- hr.out];unfold aX;rw [vw hxi hbad.out he,aaj he])
    have hne:((cQ x).2 != 0)=true:=by rw [aao];exact he
    generalize (cQ x).2=ev at *;generalize (cQ x).1=sv at *;clear he
    go_wp2_with (first
     | (refine af RF2 rfl _ rfl b0 (o0+k*2) rfl _ hrd rfl ?_)
     | (go_at_call 153;refine (hsz _).mono ?_;rintro e w1 ⟨rfl,hxq⟩;obtain ⟨xq,rfl⟩:=hxq.out;clear hxq)
     | fail)
    go_ret2;rw [he2.out];exact aC _ _ _ (hx.trans eX)
  ·obtain rfl:k=n:=by omega
   rw [aah Zo] at *;by_cases h24:24<k
   ·exact z39q41
   ·have i24:¬ (24:Int)<(k:Int):=by omega
    by_cases hlo:1232<bf L
    ·have er:=FC (show r=([],2) by rw [<- hr.out];unfold aX;rw [hbad.out,aae Zs,aae Zo,aaj hlo]);have il:decide (1232<bf L)=true:=aav hlo;rw [il];go_wp2_with fail;go_ret2;rw [er.out];exact aC _ _ _ hx
    ·have er:=FC (show r=(O,0) by rw [<- hr.out];unfold aX;rw [hbad.out,aae Zs,aae Zo,aae hlo,hOl.out Zo]);have il:decide (1232<bf L)=false:=aay hlo;have hOL:=hO.1;rw [il];go_wp2_with fail;go_ret2;rw [er.out];exact ⟨sa,sc,by rw [hOL];rfl,by rw [hOL];exact hO.sl,by rw [hOL];exact hO.le.1,hx⟩
end Go.Proofs.P9

/- The walks of layer 18: open, Bare, nonced, padded, the guard's bytes. -/
namespace Go.Sec
theorem Rd.left {w:World} {a:E8} {vs us:List Value} (h:Rd w a (vs++us)):Rd w a vs:=by
 rcases h with h|⟨b,o,ha,hb,hc⟩
 ·exact .inl (List.append_eq_nil_iff.1 h).1
 ·exact .inr ⟨b,o,ha,hb,λ k v hk=>hc k v (by rw [List.getElem?_append_left (List.getElem?_eq_some_iff.1 hk).1];exact hk)⟩
end Go.Sec
namespace Go.Proofs.P9
open Go.RowKit Go.Sec Go.Oct Go.Pkt Go.Aes BigFrame
theorem aK:RowT Tryz.prog 67 16:=⟨⟨_,Tryz.underlying67,rfl⟩,Zk,⟨_,Tryz.zeroValue67,Zk⟩⟩
theorem mg {h:Hdr} {L:List Fld} (h1:(cH h).2≠0):aZ h L=([],(cH h).2):=aaj h1
theorem kV {h:Hdr} {L:List Fld} (h1:(cH h).2=0) (h2:(aX L).2≠0):aZ h L=([],(aX L).2):=by unfold aZ;rw [aae (by simpa using h1),aaj h2]
theorem pT {h:Hdr} {L:List Fld} (h1:(cH h).2=0) (h2:(aX L).2=0):aZ h L=((cH h).1++(aX L).1,0):=by unfold aZ;rw [aae (by simpa using h1),aae (by simpa using h2)]
theorem nY {h:Hdr}:(cH h).1.length<=48:=by unfold cH;split <;> simp [dB]
theorem gS {L:List Fld}:(aX L).1.length<=1232:=by
 by_cases h:(aX L).2=0
 ·obtain ⟨_,_,h3,h4⟩:=rM h;rw [h4,bO];exact h3
 ·unfold aX at h ⊢;split
  ·simp
  ·split
   ·simp
   ·split
    ·simp
    ·rename_i h1 h2 h3;rw [aae h1,aae h2,aae h3] at h;exact absurd rfl h
theorem rb (h:Hdr) (a1 a2:E8)(n1 c1 n2 c2:Nat) (gd:Bool) (L:List Fld) (w:World)(hI:Ib w a1 n1 L) (hn:n1<=1000000) (hL:∀ f∈L,f.2.length<=1000000) :
  Calls Tryz.prog 115 #[.agg #[Zz Zx h.leap, Zz Zx h.ver, Zz Zx h.mode, Zz Zx h.strat, Zz Zx h.poll, Zz Zx h.prec, Zz Zv (n32 h.rd), Zz Zv (n32 h.rp), Zz Zv (n32 h.id), Zz Zw (n64 h.ref), Zz Zw (n64 h.org), Zz Zw (n64 h.rcv), Zz Zw (n64 h.tx), Zy a1 n1 c1, Zy a2 n2 c2, .bool gd]] w (bD (aZ h L).1.length (aZ h L).1 (Zz Zx (aZ h L).2) w):=by
 have he:=λ W=>tB h W;have hx:=λ W H=>jJ a1 n1 c1 L W H hn hL
 go_enter Tryz.func115,Tryz.ntmps115
 go_wp2_with (first
  | (refine af aJ rfl _ rfl w.heap.size 0 rfl _ ((Rd.left (vs:=[Zz Zx h.leap, Zz Zx h.ver, Zz Zx h.mode, Zz Zx h.strat, Zz Zx h.poll, Zz Zx h.prec, Zz Zv (n32 h.rd), Zz Zv (n32 h.rp), Zz Zv (n32 h.id), Zz Zw (n64 h.ref), Zz Zw (n64 h.org), Zz Zw (n64 h.rcv), Zz Zw (n64 h.tx)]) (us:=[Zy a1 n1 c1, Zy a2 n2 c2, .bool gd]) (Blk.new w #[Zz Zx h.leap, Zz Zx h.ver, Zz Zx h.mode, Zz Zx h.strat, Zz Zx h.poll, Zz Zx h.prec, Zz Zv (n32 h.rd), Zz Zv (n32 h.rp), Zz Zv (n32 h.id), Zz Zw (n64 h.ref), Zz Zw (n64 h.org), Zz Zw (n64 h.rcv), Zz Zw (n64 h.tx), Zy a1 n1 c1, Zy a2 n2 c2, .bool gd] 67).rd)) rfl ?_)
  | fail)
 refine br ?_;intro W hW;have hE:Ext w W:=by rw [hW];exact eX
 have hB:Blk W w.heap.size 67 [Zz Zx h.leap, Zz Zx h.ver, Zz Zx h.mode, Zz Zx h.strat, Zz Zx h.poll, Zz Zx h.prec, Zz Zv (n32 h.rd), Zz Zv (n32 h.rp), Zz Zv (n32 h.id), Zz Zw (n64 h.ref), Zz Zw (n64 h.org), Zz Zw (n64 h.rcv), Zz Zw (n64 h.tx), Zy a1 n1 c1, Zy a2 n2 c2, .bool gd]:=by rw [hW];exact bK
 clear hW;(with_reducible refine (he W).mono ?_);rintro e w1 ⟨b1,d1,rfl,hS1,hd1,hx1⟩;have hB1:=hB.extB hx1;have hE1:=hE.trans hx1;haveI:=hB1.blt;have f13:w1.cell? ⟨w.heap.size,13,none⟩=some (Zy a1 n1 c1):=hB1.cell? 13 rfl;clear he hB hE hx1;by_cases h0:(cH h).2=0
 ·rw [h0];go_wp2_with fail;(with_reducible refine (hx w1 (hI.ext hE1)).mono ?_);rintro e w2 ⟨b2,d2,rfl,hS2,hd2,hx2⟩;by_cases h1:(aX L).2=0
  ·rw [h1];have er:=FC (pT h0 h1);have hl1:=nY (h:=h);have hl2:=gS (L:=L);generalize (cH h).1=B1 at *;generalize (aX L).1=B2 at *;clear h0 h1 hx f13;have hS1:=hS1.ext hx2;have hj:aV [B1,B2]=B1++B2:=gL _ _;have hjl:(aV [B1,B2]).length=B1.length+B2.length:=by rw [hj,aag]
   have HJ:=FC hj;clear hj;go_wp2_with fail;(with_reducible refine (gu _ _ _ [B1,B2] _ (oZ (hS1.ext eX) (hS2.ext eX) _) Zo (B1.length+B2.length) hjl Zo).mono ?_);rintro e w3 ⟨a3,c3,rfl,hO3,hx3⟩;rw [HJ.out] at hO3;go_wp2_with fail;go_ret2;rw [er.out];show bD (B1++B2).length _ _ _ _ _;rw [aag];exact ⟨a3,c3,rfl,hO3.sl,hO3.le.1,(hE1.trans hx2).trans ((FA _ _).trans hx3)⟩
  ·have er:=FC (kV h0 h1);have hI:=ne0 h1;generalize (aX L).2=v at *;clear h0 h1 hx f13;go_wp2_with fail;go_ret2;rw [er.out];exact aC _ _ _ (hE1.trans hx2)
 ·have er:=FC (mg (L:=L) h0);have hI:=ne0 h0;generalize (cH h).2=v at *;clear h0 hx f13;go_wp2_with fail;go_ret2;rw [er.out];exact aC _ _ _ hE1
theorem gY (n:Nat) {nI:Int} (hn:nI=(n:Int)) (w:World) :
  Calls Tryz.prog 128 #[Zz Zx nI] w λ e w'=>e = .returned (.bool (decide (16<=n/\n<=32)))/\Ext w w':=by
 subst hn;obtain ⟨d,hd⟩:∃ d,decide (16<=n/\n<=32)=d:=⟨_,rfl⟩;rw [hd];by_cases h1:16<=n
 ·have i1:(16:Int)<=(n:Int):=by omega
  by_cases h2:n<=32
  ·have i2:(n:Int)<=32:=by omega
   have e:=FC (show d=true by rw [<- hd];exact aav ⟨h1,h2⟩);clear h1 h2 hd
   go_enter Tryz.func128,Tryz.ntmps128
   go_wp2;go_ret;exact ⟨by rw [e.out];rfl,eX⟩
  ·have i2:¬ (n:Int)<=32:=by omega
   have e:=FC (show d=false by rw [<- hd];exact aay λ h=>h2 h.2);clear h1 h2 hd
   go_enter Tryz.func128,Tryz.ntmps128
   go_wp2;go_ret;exact ⟨by rw [e.out];rfl,eX⟩
 ·have i1:¬ (16:Int)<=(n:Int):=by omega
  have e:=FC (show d=false by rw [<- hd];exact aay λ h=>h1 h.1);clear h1 hd
  go_enter Tryz.func128,Tryz.ntmps128
  go_wp2;go_ret;exact ⟨by rw [e.out];rfl,eX⟩
theorem ik (n:Nat) {nI:Int} (hn:nI=(n:Int)) (w:World)(h:n<=1000000000) :
  Calls Tryz.prog 148 #[Zz Zx nI] w λ e w'=>e = .returned (Zz Zx ((aG n:Nat):Int))/\Ext w w':=by
 subst hn;have e:((n:Int)+4-1) / 4*4=(aG n:Nat):=by unfold aG;omega
 go_enter Tryz.func148,Tryz.ntmps148
 go_wp2;go_ret;exact ⟨by rw [<- e];rfl,eX⟩
theorem zm (l:E7):gD l 4=l++List.replicate (aG l.length-l.length) 0:=by
 unfold gD Bd aG;rw [aaj Zo]
 congr 2
 omega
theorem rT (l:E7):(gD l 4).length=aG l.length:=by
 rw [zm,aag,aaL];unfold aG;omega
theorem qG (a:E8)(n c:Nat) (l:E7)(w:World)(h:Sl w a n l) (hn:n<=1000000) :
  Calls Tryz.prog 154 #[Zy a n c, Zz Zx 4] w (bZ (aG n) (gD l 4) w):=by
 have hl:=h.len;have hp:=FC (zm l);have hcl:=λ W H=>ei a n c l W H Zo
 go_enter Tryz.func154,Tryz.ntmps154
 go_wp2_with fail;(with_reducible refine (hcl w h).mono ?_);rintro e w1 ⟨a1,c1,rfl,hO1,hx1⟩;go_wp2_with fail
 go_loopw [5] (λ v5 wr=>∃ (m:Nat) (sa:E8)(sc:Nat),n<=m/\m<=aG n/\v5 = Zy sa m sc/\Own wr w.heap.size sa m sc (l++List.replicate (m-n) 0)/\Ext w wr) (λ v5 _=>match v5 with | Zy _ m _=>aG n-m|_=>0)
 case atStart=>exact ⟨n,a1,c1,aad _,by unfold aG;omega,rfl,by simpa using hO1,hx1⟩
 case round =>
  obtain ⟨m,sa,sc,hm0,hm1,rfl,hO,hx⟩:=hrel;by_cases hlt:m<aG n
  ·have hmod:((m:Int) % 4 != 0)=true:=by rw [aao];unfold aG at hlt;omega
   have HS:=FC (show m+1-n=(m-n)+1 from Zo)
   go_wp2_with (at_builtin;refine aB U rfl _ _ rfl w.heap.size sa _ sc _ rfl _ 1 1 _ rfl (hO.ext eX) (bI _ 0 _) (by unfold aG at hm1;omega) (by simp;have:=hx.size;omega) ?_;intro sa2 sc2 w2 hO2 hg2 hB2)
   go_roundw
   case rel=>exact ⟨m+1,sa2,sc2,Zo,Zo,rfl,by rw [HS.out,aby,<- aam];exact hO2,E9 (b:=wr.alloc _) eX hB2⟩
   case measure=>show aG n-(m+1)<aG n-m;omega
  ·obtain rfl:m=aG n:=by omega
   have hmod:(((aG n:Nat):Int) % 4 != 0)=false:=by rw [aaf];unfold aG;omega
   have hq:=FC (show l++List.replicate (aG n-n) 0=gD l 4 by rw [hp.out,hl]);go_wp2;go_ret;exact ⟨_,_,rfl,by rw [<- hq.out];exact hO,hx⟩
theorem eG (n s:E7):(aA n s).length=4+aG n.length+aG s.length:=by
 simp only [aA,aag,aw,rT];omega
theorem ng (a1 a2:E8)(n1 c1 n2 c2:Nat) (u v:E7)(w:World)(h1:Sl w a1 n1 u) (h2:Sl w a2 n2 v) (m1:n1<=1000000) (m2:n2<=1000000) :
  Calls Tryz.prog 132 #[.agg #[Zy a1 n1 c1, Zy a2 n2 c2]] w (bZ (4+aG n1+aG n2) (aA u v) w):=by
 have l1:=h1.len;have l2:=h2.len;have hv1:IntKind.u64.wrap (n1:Int)=n64 (UInt64.ofNat n1):=by rw [aaG];unfold n64;rw [aaH];omega
 have hv2:IntKind.u64.wrap (n2:Int)=n64 (UInt64.ofNat n2):=by rw [aaG];unfold n64;rw [aaH];omega
 have hpa:=λ W=>gI (UInt64.ofNat n1) 2 hv1 (show (2:Int)=((2:Nat):Int) from rfl) W Zo;have hpb:=λ W=>gI (UInt64.ofNat n2) 2 hv2 (show (2:Int)=((2:Nat):Int) from rfl) W Zo;have hG:aV [aF 2 (UInt64.ofNat n1),aF 2 (UInt64.ofNat n2),gD u 4,gD v 4]=aA u v:=by unfold aA;rw [mB,l1,l2]
 have hGl:(aV [aF 2 (UInt64.ofNat n1),aF 2 (UInt64.ofNat n2),gD u 4,gD v 4]).length=4+aG n1+aG n2:=by rw [hG,eG,l1,l2]
 have HG:=FC hG;clear hG hv1 hv2 l1 l2
 go_enter Tryz.func132,Tryz.ntmps132
 go_wp2_with fail;refine cU ?_;intro W hW;have hE:Ext w W:=by rw [hW];exact eX
 have hB:Blk W w.heap.size 185 [Zy a1 n1 c1, Zy a2 n2 c2]:=by rw [hW];exact bK
 clear hW;have h1:=h1.ext hE;have h2:=h2.ext hE;haveI:=hB.blt;have f0:=hB.cell? 0 rfl;have f1:W.cell? ⟨w.heap.size,1,none⟩=some (Zy a2 n2 c2):=hB.cell? 1 rfl;refine R2.ae 16 [[],[0],[0,1],[0,1,2],[0,1,2,3],[],[5],[5,6],[5,6,7],[0,1,2,3,4,5,6,7,8],[],[10],[0,1,2,3,4,5,6,7,8,9,10,11],[],[13],[0,1,2,3,4,5,6,7,8,9,10,11,12,13,14],[0,1,2,3,4,5,6,7,8,9,10,11,12,13,14,15],[0,1,2,3,4,5,6,7,8,9,10,11,12,13,14,15,16],[0,1,2,3,4,5,6,7,8,9,10,11,12,13,14,15,16,17]] [] (λ h=>(h rfl).elim) Zk Zk Zk Zk Zk ?_;simp only [q8q,q9q,q10q,q11q,q12q,q13q];(repeat (refine R2.av ?_;(try simp only [Act.put,q0q,q1q,q2q])));(refine R2.ai (λ p => .slice (p 0).1 2 (p 0).2) (λ p w''=>Own w'' 0 (p 0).1 2 (p 0).2 (aF 2 (UInt64.ofNat n1))) (λ p w w' h hx=>h.ext hx) (λ us w' hx hf=>⟨rfl,?_⟩) ?_;(unfold gives;simp [go_sem,execOp];exact az (aak _) (hpa _)));(repeat (refine R2.av ?_;(try simp only [Act.put,q0q,q1q,q2q])));(refine R2.ai (λ p => .slice (p 0).1 2 (p 0).2) (λ p w''=>Own w'' 0 (p 0).1 2 (p 0).2 (aF 2 (UInt64.ofNat n2))) (λ p w w' h hx=>h.ext hx) (λ us w' hx hf=>⟨rfl,?_⟩) ?_;(unfold gives;simp [go_sem,execOp];exact az (aak _) (hpb _)));(repeat (refine R2.av ?_;(try simp only [Act.put,q0q,q1q,q2q])));(refine R2.ai (λ p => .slice (p 0).1 (aG n1) (p 0).2) (λ p w''=>Own w'' 0 (p 0).1 (aG n1) (p 0).2 (gD u 4)) (λ p w w' h hx=>h.ext hx) (λ us w' hx hf=>⟨rfl,?_⟩) ?_;(unfold gives;simp [go_sem,execOp];exact az (aak _) (qG a1 n1 c1 u _ (h1.ext hx) m1)));(repeat (refine R2.av ?_;(try simp only [Act.put,q0q,q1q,q2q])));(refine R2.ai (λ p => .slice (p 0).1 (aG n2) (p 0).2) (λ p w''=>Own w'' 0 (p 0).1 (aG n2) (p 0).2 (gD v 4)) (λ p w w' h hx=>h.ext hx) (λ us w' hx hf=>⟨rfl,?_⟩) ?_;(unfold gives;simp [go_sem,execOp];exact az (aak _) (qG a2 n2 c2 v _ (h2.ext hx) m2)));(refine R2.aU ?_;intro us x hx hf);obtain ⟨hO1,hO2,hO3,hO4⟩:=hf;obtain ⟨p1,hp1⟩:∃ a,(us 4 0).1=a:=⟨_,rfl⟩;obtain ⟨q1,hq1⟩:∃ a,(us 4 0).2=a:=⟨_,rfl⟩;obtain ⟨p2,hp2⟩:∃ a,(us 9 0).1=a:=⟨_,rfl⟩;obtain ⟨q2,hq2⟩:∃ a,(us 9 0).2=a:=⟨_,rfl⟩;obtain ⟨p3,hp3⟩:∃ a,(us 12 0).1=a:=⟨_,rfl⟩;obtain ⟨q3,hq3⟩:∃ a,(us 12 0).2=a:=⟨_,rfl⟩;obtain ⟨p4,hp4⟩:∃ a,(us 15 0).1=a:=⟨_,rfl⟩;obtain ⟨q4,hq4⟩:∃ a,(us 15 0).2=a:=⟨_,rfl⟩;rw [hp1,hq1] at hO1 ⊢;rw [hp2,hq2] at hO2 ⊢;rw [hp3,hq3] at hO3 ⊢;rw [hp4,hq4] at hO4 ⊢;clear hp1 hq1 hp2 hq2 hp3 hq3 hp4 hq4 f0 f1 hpa hpb;have hx5:Ext W (W.ext x):=FE _ _;have s1:=hO1.sl;have s2:=hO2.sl;have s3:=hO3.sl;have s4:=hO4.sl;generalize W.ext x=W5 at *;go_wp2_with fail;(with_reducible refine (gu _ _ _ _ _ (AF s1 s2 s3 s4 _) Zo _ hGl (by unfold aG;omega)).mono ?_);rintro e w9 ⟨a9,c9,rfl,hO9,hx9⟩;rw [HG.out] at hO9;go_wp2_with fail;go_ret;have hx8:=(hE.trans hx5).trans ((FA _ _).trans hx9);exact ⟨a9,c9,rfl,hO9.mono (aal (hE.trans hx5).size (FA _ _).size),hx8⟩
end Go.Proofs.P9

/- The walks of layer 18: Bare, Read. -/
namespace Go.Pkt
theorem fo {b:E7} (h:(bH b).2≠0):aE b=(aP,(bH b).2):=aaj h
theorem ft {b:E7} (h:(bH b).2=0) (h2:(bj (bH b).1.2).2≠0):aE b=(aP,(bj (bH b).1.2).2):=by unfold aE;rw [aae (by simpa using h),aaj h2]
theorem iR {b:E7} (h:(bH b).2=0) (h2:(bj (bH b).1.2).2=0):aE b=(⟨(bH b).1.1,(bj (bH b).1.2).1,[],false⟩,0):=by unfold aE;rw [aae (by simpa using h),aae (by simpa using h2)]
theorem mx {b:E7}:(bH b).1.2.length<=b.length:=by
 unfold bH;split
 ·simp
 ·split
  ·simp
  ·split <;> simp
theorem kW {p:Pkt} (h:(aZ p.h p.plain).2≠0):cG p=([],(aZ p.h p.plain).2):=aaj h
theorem ji {p:Pkt} (h:(aZ p.h p.plain).2=0) (h2:p.secret≠[]\/p.guarded=true):cG p=([],3):=by unfold cG;rw [aae (by simpa using h),aaj h2]
theorem tu {p:Pkt} (h:(aZ p.h p.plain).2=0) (h2:¬ (p.secret≠[]\/p.guarded=true)):cG p=aZ p.h p.plain:=by unfold cG;rw [aae (by simpa using h),aae h2]
end Go.Pkt
namespace Go.Proofs.P9
open Go.RowKit Go.Sec Go.Oct Go.Pkt Go.Aes BigFrame
theorem mK (a1 a2:E8)(n1 c1 n2 c2:Nat) (p:Pkt) (w:World)(hI1:Ib w a1 n1 p.plain) (hn1:n1<=1000000) (hL1:∀ f∈p.plain,f.2.length<=1000000) (h2:p.secret.length=n2) :
  Calls Tryz.prog 78 #[.agg #[Zz Zx p.h.leap, Zz Zx p.h.ver, Zz Zx p.h.mode, Zz Zx p.h.strat, Zz Zx p.h.poll, Zz Zx p.h.prec, Zz Zv (n32 p.h.rd), Zz Zv (n32 p.h.rp), Zz Zv (n32 p.h.id), Zz Zw (n64 p.h.ref), Zz Zw (n64 p.h.org), Zz Zw (n64 p.h.rcv), Zz Zw (n64 p.h.tx), Zy a1 n1 c1, Zy a2 n2 c2, .bool p.guarded]] w (bD (cG p).1.length (cG p).1 (Zz Zx (cG p).2) w):=by
 have ho:=λ W H=>rb p.h a1 a2 n1 c1 n2 c2 p.guarded p.plain W H hn1 hL1;obtain ⟨r,hr⟩:∃ r,cG p=r:=⟨_,rfl⟩;rw [hr];have hr:=FC hr
 go_enter Tryz.func78,Tryz.ntmps78
 go_wp2_with (first
  | (refine af aK rfl _ rfl w.heap.size 0 rfl _ (((Blk.new w #[Zz Zx p.h.leap, Zz Zx p.h.ver, Zz Zx p.h.mode, Zz Zx p.h.strat, Zz Zx p.h.poll, Zz Zx p.h.prec, Zz Zv (n32 p.h.rd), Zz Zv (n32 p.h.rp), Zz Zv (n32 p.h.id), Zz Zw (n64 p.h.ref), Zz Zw (n64 p.h.org), Zz Zw (n64 p.h.rcv), Zz Zw (n64 p.h.tx), Zy a1 n1 c1, Zy a2 n2 c2, .bool p.guarded] 67).extB eX).rd) rfl ?_)
  | fail)
 refine br ?_;intro W hW;have hE:Ext w W:=by rw [hW];exact eX
 have hB:Blk W w.heap.size 67 [Zz Zx p.h.leap, Zz Zx p.h.ver, Zz Zx p.h.mode, Zz Zx p.h.strat, Zz Zx p.h.poll, Zz Zx p.h.prec, Zz Zv (n32 p.h.rd), Zz Zv (n32 p.h.rp), Zz Zv (n32 p.h.id), Zz Zw (n64 p.h.ref), Zz Zw (n64 p.h.org), Zz Zw (n64 p.h.rcv), Zz Zw (n64 p.h.tx), Zy a1 n1 c1, Zy a2 n2 c2, .bool p.guarded]:=by rw [hW];exact bK
 clear hW;(with_reducible refine (ho W (hI1.ext hE)).mono ?_);rintro e w1 ⟨b1,d1,rfl,hS1,hd1,hx1⟩;have hE1:=hE.trans hx1;have hB1:=hB.extB hx1;haveI:=hB1.blt;have f14:w1.cell? ⟨w.heap.size,14,none⟩=some (Zy a2 n2 c2):=hB1.cell? 14 rfl;have f15:w1.cell? ⟨w.heap.size,15,none⟩=some (.bool p.guarded):=hB1.cell? 15 rfl;clear hE hB hx1 ho;by_cases q3:(aZ p.h p.plain).2=0
 ·rw [q3];by_cases q4:0<n2
  ·have er:=FC (show r=([],3) by rw [<- hr.out];exact ji q3 (.inl (List.ne_nil_of_length_pos Zo)));have i4:(0:Int)<(n2:Int):=Zo;clear q3;go_wp2_with fail;go_ret2;rw [er.out];exact aC _ _ _ hE1
  ·have h0:p.secret=[]:=aaq Zo;obtain rfl:n2=0:=Zo;cases q5:p.guarded
   ·have er:=FC (show r=((aZ p.h p.plain).1,0) by rw [<- hr.out,tu q3 (by rw [h0,q5];simp)];rw [<- q3]);rw [q5] at f15;clear q3 h0 h2 q4;go_wp2_with fail;go_ret2;rw [er.out];exact ⟨b1,d1,rfl,hS1,hd1,hE1⟩
   ·have er:=FC (show r=([],3) by rw [<- hr.out];exact ji q3 (.inr q5));rw [q5] at f15;clear q3 h0 h2 q4;go_wp2_with fail;go_ret2;rw [er.out];exact aC _ _ _ hE1
 ·have er:=FC (show r=([],(aZ p.h p.plain).2) by rw [<- hr.out];exact kW q3);have i3:=ne0 q3;generalize (aZ p.h p.plain).2=v at *;clear q3;go_wp2_with fail;go_ret2;rw [er.out];exact aC _ _ _ hE1
def iu (r:Pkt × Int) (w:World)(e:Ending) (w':World):Prop:=∃ a1 c1,e = .returned (.tuple #[.agg #[Zz Zx r.1.h.leap, Zz Zx r.1.h.ver, Zz Zx r.1.h.mode, Zz Zx r.1.h.strat, Zz Zx r.1.h.poll, Zz Zx r.1.h.prec, Zz Zv (n32 r.1.h.rd), Zz Zv (n32 r.1.h.rp), Zz Zv (n32 r.1.h.id), Zz Zw (n64 r.1.h.ref), Zz Zw (n64 r.1.h.org), Zz Zw (n64 r.1.h.rcv), Zz Zw (n64 r.1.h.tx), Zy a1 r.1.plain.length c1, Zy none 0 0, .bool false], Zz Zx r.2]) /\
 (∃ B,cf 79 w' B a1 r.1.plain.length c1 r.1.plain)/\Ext w w'
theorem iu.err (w w':World)(e:Int) (hx:Ext w w'):iu (aP,e) w (.returned (.tuple #[.agg #[Zz Zx 0, Zz Zx 0, Zz Zx 0, Zz Zx 0, Zz Zx 0, Zz Zx 0, Zz Zv 0, Zz Zv 0, Zz Zv 0, Zz Zw 0, Zz Zw 0, Zz Zw 0, Zz Zw 0, Zy none 0 0, Zy none 0 0, .bool false], Zz Zx e])) w':=⟨none,0,rfl,⟨0,cf.nil _ _ _⟩,hx⟩
theorem mj (a:E8)(n c:Nat) (b:E7)(w:World)(hS:Sl w a n b) (hc:n<=c) (hn:n<=1000000) :
  Calls Tryz.prog 42 #[Zy a n c] w (iu (aE b) w):=by
 have hl:=hS.len;have hdh:=λ W H=>s7 a n c b W H hc hn;have hrl:=mx (b:=b);obtain ⟨r,hr⟩:∃ r,aE b=r:=⟨_,rfl⟩;rw [hr];have hr:=FC hr
 go_enter Tryz.func42,Tryz.ntmps42
 go_wp2_with fail;refine br ?_;intro W hW;have hE:Ext w W:=by rw [hW];exact eX
 have hP:Blk W w.heap.size 67 [Zz Zx 0, Zz Zx 0, Zz Zx 0, Zz Zx 0, Zz Zx 0, Zz Zx 0, Zz Zv 0, Zz Zv 0, Zz Zv 0, Zz Zw 0, Zz Zw 0, Zz Zw 0, Zz Zw 0, Zy none 0 0, Zy none 0 0, .bool false]:=by rw [hW];exact bK
 clear hW;(with_reducible refine (hdh W (hS.ext hE)).mono ?_);rintro e w1 ⟨b1,d1,rfl,hS1,hd1,hx1⟩;have hE1:=hE.trans hx1;have hP1:=hP.extB hx1;haveI:=hP1.blt;clear hE hP hx1 hdh;by_cases q1:(bH b).2=0
 ·rw [q1];have hdf:=λ W H=>m7 b1 (bH b).1.2.length d1 (bH b).1.2 W H hd1 Zo;have hok:=λ h=>iR q1 h;have hbad:=λ h=>ft q1 h;generalize (bH b).1.2=R at *;generalize (bH b).1.1=H at *
  go_wp2_with (first
   | (refine ag aJ rfl rfl _ _ rfl rfl rfl rfl (by simp [Act.put]) _ rfl Zs rfl oC ?_;intro x hz _)
   | fail)
  refine br ?_;intro W2 hW2;have hx2:Ext w1 W2:=by rw [hW2];exact eX
  have hzz:Blk W2 w1.heap.size 64 [Zz Zx H.leap, Zz Zx H.ver, Zz Zx H.mode, Zz Zx H.strat, Zz Zx H.poll, Zz Zx H.prec, Zz Zv (n32 H.rd), Zz Zv (n32 H.rp), Zz Zv (n32 H.id), Zz Zw (n64 H.ref), Zz Zw (n64 H.org), Zz Zw (n64 H.rcv), Zz Zw (n64 H.tx)]:=by rw [hW2];exact hz.extB eX
  have hP2:=hP1.extB hx2;have hE2:=hE1.trans hx2;have hS2:=hS1.ext hx2;have hlt:=hP1.lt;clear hW2 hx2 hE1 hP1 hS1;(with_reducible refine (hdf W2 hS2).mono ?_);rintro e w3 ⟨b3,d3,rfl,hO3,hx3⟩;have hP3:=hP2.extB hx3;have hz3:=hzz.extB hx3;have hE3:=hE2.trans hx3;haveI:=hP3.blt;clear hP2 hE2 hdf hz hzz hx3;by_cases q2:(bj R).2=0
  ·rw [q2];have er:=FC (show r=(⟨H,(bj R).1,[],false⟩,0) by rw [<- hr.out];exact hok q2);clear hok hbad q2;generalize (bj R).1=L at *
   go_wp2_with (first
    | (refine af aJ rfl _ rfl w1.heap.size 0 rfl _ ((hz3.extB eX).rd) rfl ?_)
    | (refine aa aK rfl _ _ rfl w.heap.size 0 rfl _ rfl 67 _ ((hP3.extB eX)) rfl Zs oC ?_;intro V hV hMV)
    | fail)
   refine aaa (aj Tryz.results42 aK _ _ w.heap.size 0 _ rfl hV.rd rfl (Zz Zx 0) rfl) rfl ?_;rw [er.out];exact ⟨b3,d3,rfl,⟨_,hO3.mut hP3 Zd Zs hMV⟩,E9 hE3 (hMV.below (aad _) hE3.size)⟩
  ·have er:=FC (show r=(aP,(bj R).2) by rw [<- hr.out];exact hbad q2);have i2:=ne0 q2;generalize (bj R).2=v at *;generalize (bj R).1=L at *;clear q2 hok hbad
   go_wp2_with (first
    | (refine aa aK rfl _ _ rfl w.heap.size 0 rfl _ rfl 67 _ ((hP3.extB eX)) rfl Zs oC ?_;intro V hV hMV)
    | fail)
   refine aaa (aj Tryz.results42 aK _ _ w.heap.size 0 _ rfl hV.rd rfl (Zz Zx v) rfl) rfl ?_;rw [er.out];exact iu.err _ _ _ (E9 (hE3.trans eX) (hMV.below (aad _) (Below.size (hE3.trans eX))))
 ·have er:=FC (show r=(aP,(bH b).2) by rw [<- hr.out];exact fo q1);have i1:=ne0 q1;generalize (bH b).2=v at *;generalize (bH b).1.1=H at *;clear q1
  go_wp2_with (first
   | (refine ag aJ rfl rfl _ _ rfl rfl rfl rfl (by simp [Act.put]) _ rfl Zs rfl oC ?_;intro x hz _)
   | (refine aa aK rfl _ _ rfl w.heap.size 0 rfl _ rfl 67 _ ((hP1.extB eX)) rfl Zs oC ?_;intro V hV hMV)
   | fail)
  refine aaa (aj Tryz.results42 aK _ _ w.heap.size 0 _ rfl hV.rd rfl (Zz Zx v) rfl) rfl ?_;rw [er.out];exact iu.err _ _ _ (E9 (hE1.trans eX) (hMV.below (aad _) (Below.size (hE1.trans eX))))
end Go.Proofs.P9

/- The walks of layer 26: Check, shaped, Kind. -/
namespace Go.Tsrv
open Go.Pkt
theorem eZ (k:Int) (n:Nat) (f:Fld):isF k n f=(decide (f.1=k) && decide (f.2.length=n)):=by unfold isF;rw [Bool.decide_and]
theorem BA {L:List Fld} {i:Nat} {x:Fld} (h:L[2+i]?=some x) (hi:i<L.length-3):(nN L)[i]?=some x:=by
 unfold nN;rw [List.getElem?_take,aaj hi,List.getElem?_drop];exact h
theorem Az (L:List Fld):(nN L).length=L.length-3:=by
 unfold nN;rw [aat,aaJ];omega
end Go.Tsrv
namespace Go.Proofs.P9
open Go.RowKit Go.Sec Go.Oct Go.Pkt Go.Cook Go.Tsrv BigFrame
theorem nJ:RowT Tryz.prog 30 5:=⟨⟨_,Tryz.underlying30,rfl⟩,Zk,⟨_,Tryz.zeroValue30,Zk⟩⟩
theorem uY (a:E8)(n c:Nat) (s:Srv) (w:World)(hI:Ib w a n s.ring) (hc:n<=c) (hn:n<=1000000) :
  Calls Tryz.prog 21 #[.agg #[Zy a n c, Zz Zx s.str, Zz Zx s.ev, Zz Zx s.bu, .bool s.opn]] w λ e w'=>e = .returned (Zz Zx (cy s))/\Ext w w':=by
 have hv:=λ W H=>jK a n c s.ring W H hc hn;have hk:=λ W=>qH 0 s.ev s.bu 0 W;obtain ⟨r,hr⟩:∃ r,cy s=r:=⟨_,rfl⟩;rw [hr];unfold cy at hr;have hw:(nA 0 s.ev s.bu 0).2=if fG s.ev s.bu=false then 4 else 0:=by
  unfold nA fO;rw [show dQ 0=true by decide];cases fG s.ev s.bu <;> rfl
 rw [hw] at hk;generalize (nA 0 s.ev s.bu 0).1=z at *;clear hw;cases h1:aM s.ring
 ·rw [h1] at hv;rw [aaj h1] at hr;clear h1;replace hr:=FC hr
  go_enter Tryz.func21,Tryz.ntmps21
  go_wp2_with (first
   | (go_at_call 57;refine (hv _ (hI.ext eX)).mono ?_;rintro e w1 ⟨rfl,hxq⟩;obtain ⟨xq,rfl⟩:=hxq.out;clear hxq)
   | (go_at_call 58;refine (hk _).mono ?_;rintro e w1 ⟨rfl,hxq⟩;obtain ⟨xq,rfl⟩:=hxq.out;clear hxq)
   | fail)
  go_ret;exact ⟨by rw [<- hr.out] <;> rfl,eX⟩
 ·rw [h1] at hv;rw [aae (by rw [h1];simp)] at hr;clear h1;cases h2:fG s.ev s.bu
  ·simp only [h2,aba] at hk;rw [aaj (.inl h2)] at hr;clear h2;replace hr:=FC hr
   go_enter Tryz.func21,Tryz.ntmps21
   go_wp2_with (first
    | (go_at_call 57;refine (hv _ (hI.ext eX)).mono ?_;rintro e w1 ⟨rfl,hxq⟩;obtain ⟨xq,rfl⟩:=hxq.out;clear hxq)
    | (go_at_call 58;refine (hk _).mono ?_;rintro e w1 ⟨rfl,hxq⟩;obtain ⟨xq,rfl⟩:=hxq.out;clear hxq)
    | fail)
   go_ret;exact ⟨by rw [<- hr.out] <;> rfl,eX⟩
  ·simp only [h2,abw,abg] at hk;by_cases h3:s.str<1
   ·rw [aaj (.inr (.inl h3))] at hr;clear h2;replace hr:=FC hr
    go_enter Tryz.func21,Tryz.ntmps21
    go_wp2_with (first
     | (go_at_call 57;refine (hv _ (hI.ext eX)).mono ?_;rintro e w1 ⟨rfl,hxq⟩;obtain ⟨xq,rfl⟩:=hxq.out;clear hxq)
     | (go_at_call 58;refine (hk _).mono ?_;rintro e w1 ⟨rfl,hxq⟩;obtain ⟨xq,rfl⟩:=hxq.out;clear hxq)
     | fail)
    go_ret;exact ⟨by rw [<- hr.out] <;> rfl,eX⟩
   ·by_cases h4:255<s.str
    ·rw [aaj (.inr (.inr h4))] at hr;clear h2;replace hr:=FC hr
     go_enter Tryz.func21,Tryz.ntmps21
     go_wp2_with (first
      | (go_at_call 57;refine (hv _ (hI.ext eX)).mono ?_;rintro e w1 ⟨rfl,hxq⟩;obtain ⟨xq,rfl⟩:=hxq.out;clear hxq)
      | (go_at_call 58;refine (hk _).mono ?_;rintro e w1 ⟨rfl,hxq⟩;obtain ⟨xq,rfl⟩:=hxq.out;clear hxq)
      | fail)
     go_ret;exact ⟨by rw [<- hr.out] <;> rfl,eX⟩
    ·rw [aae (by rw [h2];simp;omega)] at hr;clear h2;replace hr:=FC hr
     go_enter Tryz.func21,Tryz.ntmps21
     go_wp2_with (first
      | (go_at_call 57;refine (hv _ (hI.ext eX)).mono ?_;rintro e w1 ⟨rfl,hxq⟩;obtain ⟨xq,rfl⟩:=hxq.out;clear hxq)
      | (go_at_call 58;refine (hk _).mono ?_;rintro e w1 ⟨rfl,hxq⟩;obtain ⟨xq,rfl⟩:=hxq.out;clear hxq)
      | fail)
     go_ret;exact ⟨by rw [<- hr.out] <;> rfl,eX⟩
theorem rH (f:Fld) (a:E8)(n c:Nat) (k:Int) (m:Nat) {mI:Int} (hm:mI=(m:Int)) (w:World)(h:f.2.length=n) :
  Calls Tryz.prog 92 #[.agg #[Zz Zx f.1, Zy a n c], Zz Zx k, Zz Zx mI] w λ e w'=>e = .returned (.bool (isF k m f))/\Ext w w':=by
 subst hm;rw [eZ,h];clear h;by_cases h1:f.1=k
 ·have i1:(f.1 == k)=true:=by rw [aa5];exact h1
  have e1:=FC (show decide (f.1=k)=true from aav h1);clear h1;by_cases h2:n=m
  ·have i2:((n:Int) == (m:Int))=true:=by rw [aa5];omega
   have e2:=FC (show decide (n=m)=true from aav h2);clear h2
   go_enter Tryz.func92,Tryz.ntmps92
   go_wp2;go_ret;exact ⟨by rw [e1.out,e2.out];rfl,eX⟩
  ·have i2:((n:Int) == (m:Int))=false:=by rw [aar];omega
   have e2:=FC (show decide (n=m)=false from aay h2);clear h2
   go_enter Tryz.func92,Tryz.ntmps92
   go_wp2;go_ret;exact ⟨by rw [e1.out,e2.out];rfl,eX⟩
 ·have i1:(f.1 == k)=false:=by rw [aar];exact h1
  have e1:=FC (show decide (f.1=k)=false from aay h1);clear h1
  go_enter Tryz.func92,Tryz.ntmps92
  go_wp2;go_ret;exact ⟨by rw [e1.out];rfl,eX⟩
theorem zx (g:Nat) (f:Fld) (a:E8)(n c:Nat) (w:World)(h:f.2.length=n) (hB:Blk w g 149 [.func (.func 92) #[] #[]]) :
  Calls Tryz.prog 94 #[.agg #[Zz Zx f.1, Zy a n c], .pointer (some ⟨g,0,none⟩)] w λ e w'=>e = .returned (.bool (!isF 772 104 f))/\Ext w w':=by
 haveI:=hB.blt;have f0:=hB.cell? 0 rfl;have hi:=λ W=>rH f a n c 772 104 (show (104:Int)=((104:Nat):Int) from rfl) W h
 go_enter Tryz.func94,Tryz.ntmps94
 go_wp2_with fail;(with_reducible refine (hi _).mono ?_);rintro e w1 ⟨rfl,hx⟩;have hE:Ext w w1:=Ext.trans eX hx;go_wp2_with fail;go_ret;exact ⟨rfl,hE⟩
def BW (L:List Fld) (w:World)(e:Ending) (w':World):Prop:=∃ r:Int,e = .returned (Zz Zx r)/\(0<=r ↔ L.all (isF 772 104)=false)/\Ext w w'
theorem vc (a:E8)(n c g:Nat) (L:List Fld) (w:World)(hI:Ib w a n L) (hn:n<=1000000) (hB:Blk w g 149 [.func (.func 92) #[] #[]]) :
  Calls Tryz.prog 123 #[Zy a n c, .func (.func 94) #[] #[.pointer (some ⟨g,0,none⟩)]] w (BW L w):=by
 have hl:=hI.len
 go_enter Tryz.func123,Tryz.ntmps123
 go_wp2_with fail
 go_loopw [5,8] (λ _ v8 wr=>∃ i:Nat,i<=n/\v8 = Zz Zx i/\Hid ((L.take i).all (isF 772 104)=true)/\Ext w wr) (λ _ v8 _=>n-(intOf v8).toNat)
 case atStart=>exact ⟨0,Zo,rfl,FC rfl,FD _⟩
 case round =>
  obtain ⟨i,hi,rfl,hm,hx⟩:=hrel;by_cases hlt:i<n
  ·obtain ⟨x,hxi⟩:∃ x,L[i]?=some x:=⟨_,List.getElem?_eq_getElem Zo⟩;obtain ⟨b0,o0,g',c',rfl,hb0,hc0,hc1,hSk,hck⟩:=(hI.ext hx).at i hlt _ hxi;have hrd:=rd2 hb0.lt hc0 hc1;have i0:(0:Int)<=(i:Int):=Zo;have i1:(i:Int)<(n:Int):=Zo;have hts:=FC (show L.take (i+1)=L.take i++[x] by rw [abn,hxi];rfl);have hmem:=List.mem_of_getElem? hxi;have hno:=λ W H=>zx g x g' x.2.length c' W rfl H;haveI:=hb0;clear hxi
   go_wp2_with (first
    | (refine af RF2 rfl _ rfl b0 (o0+i*2) rfl _ hrd rfl ?_)
    | fail)
   (with_reducible refine (hno _ (hB.extB hx)).mono ?_);rintro e w1 ⟨rfl,hx1⟩;cases hb:isF 772 104 x
   ·have hm2:=FC (show L.all (isF 772 104)=false by
     rw [abC];exact ⟨x,hmem,by rw [hb];simp⟩)
    clear hb;go_wp2_with fail;go_ret;exact ⟨i,rfl,by rw [hm2.out];simp,hx.trans hx1⟩
   ·have hm2:=FC (show (L.take (i+1)).all (isF 772 104)=true by
     rw [hts.out,List.all_append,hm.out];simp [hb])
    clear hb;go_wp2_with fail;go_roundw
    case rel=>exact ⟨i+1,Zo,Zg,hm2,hx.trans hx1⟩
    case measure=>simp [intOf];omega
  ·obtain rfl:i=n:=by omega
   have hm2:=FC (show L.all (isF 772 104)=true by have:=hm.out;rwa [aah Zo] at this);go_wp2_with fail;go_ret;exact ⟨-1,rfl,by rw [hm2.out];simp,hx⟩
theorem qb (a:E8)(n c g:Nat) (L:List Fld) (w:World)(hI:Ib w a n L) (hn:n<=1000000) (hB:Blk w g 149 [.func (.func 92) #[] #[]]) :
  Calls Tryz.prog 93 #[Zy a n c, .func (.func 94) #[] #[.pointer (some ⟨g,0,none⟩)]] w λ e w'=>e = .returned (.bool (!L.all (isF 772 104)))/\Ext w w':=by
 go_enter Tryz.func93,Tryz.ntmps93
 go_wp2_with fail;refine (vc _ _ _ _ _ _ hI hn hB).mono ?_;rintro e w1 ⟨r,rfl,hr,hx1⟩;have hd:=FC (show decide (0<=r) = !L.all (isF 772 104) by
  rw [abk,decide_eq_true_iff,hr];simp)
 clear hr;go_wp2_with fail;go_ret;exact ⟨by rw [<- hd.out];rfl,hx1⟩
end Go.Proofs.P9
