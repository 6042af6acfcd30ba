/- Lemmas of this claim, several texts joined. -/
import Derived.Test.YtmdahnkcnagkjaaGreatZ3
import Derived.Test.YtmdahnkcnagkjaaGreatZ6
import Derived.Test.YtmdahnkcnagkjaaGreatZ26
import Derived.Test.YtmdahnkcnagkjaaGreatZ28
import Derived.Test.YtmdahnkcnagkjaaGreatZ36
import Derived.Test.YtmdahnkcnagkjaaGreatZ37
set_option maxRecDepth 100000
open List renaming setIfInBounds_toArray → q0q, set_cons_succ → q1q, set_cons_zero → q2q, mem_cons → q3q, not_mem_nil → q4q, nil_append → q5q, cons_append → q6q, mem_append → q7q, take_succ_cons → q8q, take_zero → q9q, drop_succ_cons → q10q, drop_zero → q11q, take_nil → q12q, drop_nil → q13q, getElem_toArray → q14q, getElem_cons_succ → q15q, getElem_cons_zero → q16q
open Go.IntWalk renaming i64_in → q17q, rem_in → q18q, wrap64_in → q19q
set_option maxHeartbeats 8000000
set_option linter.unusedVariables false
set_option linter.unusedSimpArgs false
/- The walks of layer 17: Encode. -/
namespace Go.Pkt
open Go.Sec Go.RowKit Go.Oct
theorem oB (A B:List Fld) (h:eY A=0):eY (A++B)=eY B:=by
 induction A with
 | nil=>rfl
 | cons f A ih =>
  rw [eY] at h
  split at h
  ·rename_i h1;exact absurd h h1
  ·rename_i h1
   rw [q6q,eY,aaf h1,ih h]
theorem vb {L:List Fld} {k:Nat} {x:Fld} (hx:L[k]?=some x) (h:eY (L.take k)=0) (hx2:(cL x).2≠0):eY L=(cL x).2:=by
 obtain ⟨hk,rfl⟩:=List.getElem?_eq_some_iff.1 hx
 have:L=L.take k++(L[k] :: L.drop (k+1)):=by rw [← List.drop_eq_getElem_cons hk,List.take_append_drop]
 have e:=congrArg eY this
 rw [oB _ _ h,eY,aam hx2] at e
 exact e
theorem m5 {L:List Fld} {k:Nat} {x:Fld} (hx:L[k]?=some x):L.take (k+1)=L.take k++[x]:=by
 obtain ⟨hk,rfl⟩:=List.getElem?_eq_some_iff.1 hx
 exact aax hk
theorem uY {x:Fld} (h:(cL x).2=0):(0≤x.1∧x.1≤65535)∧szN x.2.length≤1232∧cL x=(((szN x.2.length:Nat):Int),0):=by
 unfold cL at h ⊢
 split at h
 ·cases h
 ·rename_i h1
  rw [aaf h1]
  split at h
  ·cases h
  ·rename_i h2
   rw [aaf h2]
   exact ⟨by omega,by omega,rfl⟩
theorem yN (f:Fld) (N:Nat) (hN:szN f.2.length=N) :
  ((((List.replicate N (0:UInt8)).take 0++aF 2 (UInt64.ofNat f.1.toNat)++(List.replicate N (0:UInt8)).drop (0+2)).take (0+2)++aF 2 (UInt64.ofNat N)++((List.replicate N (0:UInt8)).take 0++aF 2 (UInt64.ofNat f.1.toNat)++(List.replicate N (0:UInt8)).drop (0+2)).drop (0+2+2)).take (0+2+2)++f.2 ++
   (((List.replicate N (0:UInt8)).take 0++aF 2 (UInt64.ofNat f.1.toNat)++(List.replicate N (0:UInt8)).drop (0+2)).take (0+2)++aF 2 (UInt64.ofNat N)++((List.replicate N (0:UInt8)).take 0++aF 2 (UInt64.ofNat f.1.toNat)++(List.replicate N (0:UInt8)).drop (0+2)).drop (0+2+2)).drop (0+2+2+f.2.length))=di f:=by
 subst hN
 have hz:=js f.2.length
 generalize hp:aF 2 (UInt64.ofNat f.1.toNat)=p
 generalize hq:aF 2 (UInt64.ofNat (szN f.2.length))=q
 have lp:p.length=2:=by rw [← hp];exact ay _ _
 have lq:q.length=2:=by rw [← hq];exact ay _ _
 unfold di
 rw [hp,hq]
 generalize szN f.2.length=N at *
 have e1:(List.replicate N (0:UInt8)).take 0++p++(List.replicate N (0:UInt8)).drop (0+2)=p++List.replicate (N-2) 0:=by simp
 rw [e1,dM _ _ _ lp,show 0+2+2=2+2 from rfl,iA _ _ 2 2 lp,List.drop_replicate,aas,← aas p q,dM _ _ _ (by simp [lp,lq]),iA _ _ (2+2) f.2.length (by simp [lp,lq]),List.drop_replicate]
 rw [show N-2-2-f.2.length=N-4-f.2.length by omega]
end Go.Pkt
namespace Go.Sec
open Go.RowKit
theorem Sl.mutNe {w w':World} {a:Option Addr} {n g:Nat} {l:List UInt8} (h:Sl w a n l) (hM:Mut g w w') (hne:n=0∨∀ b o,a=some ⟨b,o,none⟩→b≠g):Sl w' a n l:=by
 rcases hne with h0|hne
 ·exact z31q90
 ·refine ⟨h.len,?_⟩
  rcases h.by' with h1|⟨b,o,e,hb,hc⟩
  ·exact .inl h1
  ·subst e
   exact Rd.turn hM (.inr ⟨b,o,rfl,hb,hc⟩) (hne b o rfl)
theorem Sl.ne {w:World} {a:Option Addr} {n g:Nat} {l:List UInt8} (h:Sl w a n l) (hg:w.heap.size≤g):n=0∨∀ b o,a=some ⟨b,o,none⟩→b≠g:=by
 by_cases h0:n=0
 ·exact .inl h0
 ·exact .inr fun b o e=>by have:=h.lt (by omega) b o e;omega
theorem Own.mutNe {w w':World} {base n c g:Nat} {a:Option Addr} {l:List UInt8} (h:Own w base a n c l) (hM:Mut g w w') (hne:(Value.slice a n c).ownBlock≠some g):Own w' base a n c l:=by
 refine ⟨h.1,h.2.1,?_⟩
 rcases h.2.2 with h1|⟨g',cap,cur,hv,hb,hh,r⟩
 ·exact .inl h1
 ·refine .inr ⟨g',cap,cur,hv,hb,?_,r⟩
  rw [hM.block g' (Array.getElem?_eq_some_iff.1 hh).1 (fun e=>hne (by rw [hv];exact e))]
  exact hh
theorem Own.ne {w:World} {base n c g:Nat} {a:Option Addr} {l:List UInt8} (h:Own w base a n c l) (hg:w.heap.size≤g):(Value.slice a n c).ownBlock≠some g:=fun e=>by
 have:=(fh h.2 g e).2;omega
end Go.Sec
namespace Go.Proofs.YtmdahnkcnagkjaaGreat
open Go.RowKit Go.Sec Go.Oct Go.Pkt BigFrame
theorem _root_.z38q42{p:Prop}(h:p:=by
 have i24:(24:Int)<(k:Int):=by omega
 have er:=Lib.hid (show r=([],8) by rw [← hr.out];unfold aW;rw [hbad.out,aaf (by simp),aam (by omega)])
 go_wp2_with fail
 go_ret2
 rw [er.out]
 exact aG _ _ _ hx):p:=h
theorem jC (a:Option Addr)(n c:Nat) (L:List Fld) (w:World)(hI:Ib w a n L) (hn:n≤1000000) (hL:∀ f∈L,f.2.length≤1000000) :
  Calls Tryz.prog 129 #[.slice a n c] w (bQ (aW L).1.length (aW L).1 (.int .i64 (aW L).2) w):=by
 have hl:=hI.len
 obtain ⟨r,hr⟩:∃ r,aW L=r:=⟨_,rfl⟩
 rw [hr]
 have hr:=Lib.hid hr
 have hp2:=fun (v:UInt64) (vI:Int) (hv:vI=n64 v) W=>gr v 2 hv (show (2:Int)=((2:Nat):Int) from rfl) W (by omega)
 go_enter Tryz.func129,Tryz.ntmps129
 go_wp2_with fail
 go_loopw [4,5,7,8,9,10,13] (fun v4 v5 _ _ _ _ v13 wr=>∃ (k m:Nat) (sa:Option Addr)(sc:Nat) (O:List UInt8),k≤n∧v13 = .int .i64 k∧v5 = .bool (decide (1232<aX (L.take k)))∧v4 = .slice sa m sc∧m≤1232∧Own wr w.heap.size sa m sc O∧Hid (aX (L.take k)≤1232→O=aM (L.take k))∧Hid (eY (L.take k)=0)∧Ext w wr) (fun _ _ _ _ _ _ v13 _=>n-(intOf v13).toNat)
 case atStart=>exact ⟨0,0,none,0,[],by omega,rfl,rfl,rfl,by omega,Own.nil _ _,Lib.hid fun _=>rfl,Lib.hid rfl,Ext.refl _⟩
 case round =>
  obtain ⟨k,m,sa,sc,O,hk,rfl,rfl,rfl,hm,hO,hOl,hbad,hx⟩:=hrel
  by_cases hlt:k<n
  ·obtain ⟨x,hxi⟩:∃ x,L[k]?=some x:=⟨_,List.getElem?_eq_getElem (by omega)⟩
   have hxl:=hL x (List.mem_of_getElem? hxi)
   obtain ⟨b0,o0,g',c',rfl,hb0,hc0,hc1,hSk,hck⟩:=(hI.ext hx).at k hlt _ hxi
   have hrd:=rd2 hb0.lt hc0 hc1
   have i0:(0:Int)≤(k:Int):=by omega
   have i1:(k:Int)<(n:Int):=by omega
   have hsz:=fun W=>wR x g' c' W (by omega)
   have hts:=Lib.hid (m5 hxi)
   haveI:=hb0
   by_cases he:(cL x).2=0
   ·obtain ⟨⟨t0,t1⟩,hzz,hze⟩:=uY he
    obtain ⟨N,hN⟩:∃ N,szN x.2.length=N:=⟨_,rfl⟩
    have hN16:=js x.2.length
    rw [hN] at hN16 hze hzz
    rw [hze] at hsz
    have htt:=eF (L.take k) x
    have hb2:=Lib.hid (show eY (L.take (k+1))=0 by rw [hts.out,oB _ _ hbad.out,eY,aaf (by simpa using he)];rfl)
    rw [← hts.out,hN] at htt
    clear he
    by_cases hlo:1232<aX (L.take k)
    ·have il:decide (1232<aX (L.take k))=true:=aaz hlo
     have il2:=Lib.hid (show decide (1232<aX (L.take (k+1)))=true from aaz (by omega))
     have hol:=Lib.hid (show aX (L.take (k+1))≤1232→O=aM (L.take (k+1)) from fun h=>by omega)
     rw [il]
     clear htt hN16 hlo hN
     go_wp2_with (first
      | (refine af (RF2) rfl _ rfl (b0) (o0+k*2) rfl _ (hrd) (rfl) ?_)
      | (go_at_call 153;refine (hsz _).mono ?_;rintro e w1 ⟨rfl,hxq⟩;obtain ⟨xq,rfl⟩:=hxq.out;clear hxq)
      | fail)
     go_roundw
     case rel=>exact ⟨k+1,m,sa,sc,O,by omega,by go_num,by rw [il2.out],rfl,hm,hO.ext eX,hol,hb2,hx.trans eX⟩
     case measure=>simp [intOf];omega
    ·have il:decide (1232<aX (L.take k))=false:=aaF hlo
     have hOe:=hOl.out (by omega)
     have hmt:m=aX (L.take k):=by rw [← hO.1,hOe,bG]
     rw [il]
     by_cases hlo2:1232<m+N
     ·have il2:=Lib.hid (show decide (1232<aX (L.take (k+1)))=true from aaz (by omega))
      have hol:=Lib.hid (show aX (L.take (k+1))≤1232→O=aM (L.take (k+1)) from fun h=>by omega)
      have ilo:(1232:Int)<(m:Int)+(N:Int):=by omega
      clear htt hN16 hlo hN hmt hOe
      go_wp2_with (first
       | (refine af (RF2) rfl _ rfl (b0) (o0+k*2) rfl _ (hrd) (rfl) ?_)
       | (go_at_call 153;refine (hsz _).mono ?_;rintro e w1 ⟨rfl,hxq⟩;obtain ⟨xq,rfl⟩:=hxq.out;clear hxq)
       | fail)
      go_roundw
      case rel=>exact ⟨k+1,m,sa,sc,O,by omega,by go_num,by rw [il2.out],rfl,hm,hO.ext eX,hol,hb2,hx.trans eX⟩
      case measure=>simp [intOf];omega
     ·have il2:=Lib.hid (show decide (1232<aX (L.take (k+1)))=false from aaF (by omega))
      have hol:=Lib.hid (show O++di x=aM (L.take (k+1)) by rw [hOe,hts.out,jF])
      have ilo:¬ (1232:Int)<(m:Int)+(N:Int):=by omega
      have hfill:=Lib.hid (yN x N hN)
      have hfl:=cY x
      rw [hN] at hfl
      clear htt hlo hN hmt hOe
      have hmk:=dv U 0 N (aan _) (by omega)
      simp only [aat] at hmk
      go_wp2_with (first
       | (refine af (RF2) rfl _ rfl (b0) (o0+k*2) rfl _ (hrd) (rfl) ?_)
       | (go_at_call 153;refine (hsz _).mono ?_;rintro e w1 ⟨rfl,hxq⟩;obtain ⟨xq,rfl⟩:=hxq.out;clear hxq)
       | fail)
      refine dg ?_
      intro W hW
      have hEW:Ext wr W:=by rw [hW];exact eX
      have hF:Blk W wr.heap.size 79 [.int .i64 x.1, .slice g' x.2.length c']:=by rw [hW];exact bK
      have hB:=bX ((wr.alloc (.cells #[.int .i64 x.1, .slice g' x.2.length c'] 79)).ext xq) N
      rw [← hW] at hB
      have hgl:wr.heap.size≤((wr.alloc (.cells #[.int .i64 x.1, .slice g' x.2.length c'] 79)).ext xq).heap.size:=Below.size (B:=wr.heap.size) eX
      have hgn:wr.heap.size≠((wr.alloc (.cells #[.int .i64 x.1, .slice g' x.2.length c'] 79)).ext xq).heap.size:=by
       have h:=AQ (n:=wr.heap.size) (w:=(wr.alloc (.cells #[.int .i64 x.1, .slice g' x.2.length c'] 79)).ext xq);omega
      generalize ((wr.alloc (.cells #[.int .i64 x.1, .slice g' x.2.length c'] 79)).ext xq).heap.size=g at *
      clear hW hmk
      have hS0:=hSk.ext hEW
      have hO0:=hO.ext hEW
      have hSne:=hSk.ne hgl
      have hOne:=hO.ne hgl
      have hgW:=hB.lt
      haveI:=hF.blt
      have i4:0≤x.1:=t0
      have hv1:IntKind.u64.wrap x.1=n64 (UInt64.ofNat x.1.toNat):=by rw [aaL];unfold n64;rw [aaN];omega
      have hv2:IntKind.u64.wrap (N:Int)=n64 (UInt64.ofNat N):=by rw [aaL];unfold n64;rw [aaN];omega
      have hpa:=hp2 _ _ hv1
      have hpb:=hp2 _ _ hv2
      clear hv1 hv2 hp2
      have hfl:=Lib.hid hfl
      have hSE:∀ w',Ext (W) w'→(fun w'=>w'.cell? ⟨wr.heap.size,0,none⟩=some (.int .i64 x.1)∧w'.cell? ⟨wr.heap.size,1,none⟩=some (.slice g' x.2.length c')) w':=(fun w' h=>⟨(hF.extB h).cell? 0 rfl,(hF.extB h).cell? 1 rfl⟩);have hExt0:Ext (W) (W).drew:=Ext.drew (Ext.refl _);refine abf (S:=fun w'=>w'.cell? ⟨wr.heap.size,0,none⟩=some (.int .i64 x.1)∧w'.cell? ⟨wr.heap.size,1,none⟩=some (.slice g' x.2.length c')) (by kernel_rfl) (hSE _ hExt0) (fun hHeld=>?_)
      refine aaE (i:=0) (v:=?v1) rfl (by kernel_rfl) (by kernel_rfl) (by kernel_rfl) (fun _ _ _ h=>h) (Or.inl ⟨by rfl,?hy1⟩) hHeld ?_;(case hy1=>(intro w' hx;simp [go_sem,execOp, *];(try simp (disch:=omega) only [q17q,q18q,q19q]);rfl));(try simp only [q14q,q15q,q16q,Act.put,q0q,q1q,q2q])
      refine aaE (i:=1) (v:=?v2) rfl (by kernel_rfl) (by kernel_rfl) (by kernel_rfl) (fun _ _ _ h=>h) (Or.inl ⟨by rfl,?hy2⟩) hHeld ?_;(case hy2=>(intro w' hx;simp [go_sem,execOp, *];(try simp (disch:=omega) only [q17q,q18q,q19q]);rfl));(try simp only [q14q,q15q,q16q,Act.put,q0q,q1q,q2q])
      refine aaE (i:=2) (v:=?v3) rfl (by kernel_rfl) (by kernel_rfl) (by kernel_rfl) (fun _ _ _ h=>h) (Or.inl ⟨by rfl,?hy3⟩) hHeld ?_;(case hy3=>(intro w' hx;simp [go_sem,execOp, *];(try simp (disch:=omega) only [q17q,q18q,q19q]);rfl));(try simp only [q14q,q15q,q16q,Act.put,q0q,q1q,q2q])
      refine aaE (i:=3) (v:=?v4) rfl (by kernel_rfl) (by kernel_rfl) (by kernel_rfl) (fun _ _ _ h=>h) (Or.inl ⟨by rfl,?hy4⟩) hHeld ?_;(case hy4=>(intro w' hx;simp [go_sem,execOp, *];(try simp (disch:=omega) only [q17q,q18q,q19q]);rfl));(try simp only [q14q,q15q,q16q,Act.put,q0q,q1q,q2q])
      refine aaE (i:=6) (v:=?v5) rfl (by kernel_rfl) (by kernel_rfl) (by kernel_rfl) (fun _ _ _ h=>h) (Or.inl ⟨by rfl,?hy5⟩) hHeld ?_;(case hy5=>(intro w' hx;simp [go_sem,execOp, *];(try simp (disch:=omega) only [q17q,q18q,q19q]);rfl));(try simp only [q14q,q15q,q16q,Act.put,q0q,q1q,q2q])
      refine aaE (i:=7) (v:=?v6) rfl (by kernel_rfl) (by kernel_rfl) (by kernel_rfl) (fun _ _ _ h=>h) (Or.inl ⟨by rfl,?hy6⟩) hHeld ?_;(case hy6=>(intro w' hx;simp [go_sem,execOp, *];(try simp (disch:=omega) only [q17q,q18q,q19q]);rfl));(try simp only [q14q,q15q,q16q,Act.put,q0q,q1q,q2q])
      refine aaE (i:=10) (v:=?v7) rfl (by kernel_rfl) (by kernel_rfl) (by kernel_rfl) (fun _ _ _ h=>h) (Or.inl ⟨by rfl,?hy7⟩) hHeld ?_;(case hy7=>(intro w' hx;simp [go_sem,execOp, *];(try simp (disch:=omega) only [q17q,q18q,q19q]);rfl));(try simp only [q14q,q15q,q16q,Act.put,q0q,q1q,q2q])
      refine aaE (i:=11) (v:=?v8) rfl (by kernel_rfl) (by kernel_rfl) (by kernel_rfl) (fun _ _ _ h=>h) (Or.inl ⟨by rfl,?hy8⟩) hHeld ?_;(case hy8=>(intro w' hx;simp [go_sem,execOp, *];(try simp (disch:=omega) only [q17q,q18q,q19q]);rfl));(try simp only [q14q,q15q,q16q,Act.put,q0q,q1q,q2q])
      (refine R5.dq 4 (by kernel_rfl) rfl rfl ?_;unfold gives;simp [go_sem,execOp])
      (with_reducible refine (hpa _).mono ?_)
      rintro e w5 ⟨a5,c5,rfl,hO5,hx5⟩
      have hx5:Ext W w5:=hExt0.trans hx5
      refine ⟨_,rfl,hSE _ hx5,?_⟩
      (try simp only [q14q,q15q,q16q,Act.put,q0q,q1q,q2q])
      refine R5.dq 5 (by kernel_rfl) rfl rfl (R5.fs U _ _ rfl g 0 N rfl a5 2 c5 rfl _ _ (hB.extB hx5) (by simp) hO5.sl (by omega) ?_)
      intro w6 hB6 hM6
      have hF6:=Blk.turn hM6 (hF.extB hx5) hgn
      refine ⟨⟨hF6.cell? 0 rfl,hF6.cell? 1 rfl⟩,?_⟩
      (try simp only [q14q,q15q,q16q,Act.put,q0q,q1q,q2q])
      (refine R5.dq 8 (by kernel_rfl) rfl rfl ?_;unfold gives;simp [go_sem,execOp])
      (with_reducible refine (hpb _).mono ?_)
      rintro e w7 ⟨a7,c7,rfl,hO7,hx7⟩
      have hF7:=hF6.extB hx7
      refine ⟨_,rfl,⟨hF7.cell? 0 rfl,hF7.cell? 1 rfl⟩,?_⟩
      (try simp only [q14q,q15q,q16q,Act.put,q0q,q1q,q2q])
      refine R5.dq 9 (by kernel_rfl) rfl rfl (R5.fs U _ _ rfl g (0+2) N rfl a7 2 c7 rfl _ _ (hB6.extB hx7) (by simp [ay];omega) hO7.sl (by omega) ?_)
      intro w8 hB8 hM8
      have hF8:=Blk.turn hM8 hF7 hgn
      have hS8:=(((hS0.ext hx5).mutNe hM6 hSne).ext hx7).mutNe hM8 hSne
      refine ⟨⟨hF8.cell? 0 rfl,hF8.cell? 1 rfl⟩,?_⟩
      (try simp only [q14q,q15q,q16q,Act.put,q0q,q1q,q2q])
      refine R5.dq 12 (by kernel_rfl) rfl rfl (R5.fs U _ _ rfl g (0+2+2) N rfl g' x.2.length c' rfl _ _ hB8 (by simp [ay];omega) hS8 (by omega) ?_)
      intro w9 hB9 hM9
      have hF9:=Blk.turn hM9 hF8 hgn
      have hO9:=((((hO0.ext hx5).mutNe hM6 hOne).ext hx7).mutNe hM8 hOne).mutNe hM9 hOne
      have hE5:=(hx.trans hEW).trans hx5
      have hE6:Ext w w6:=Below.trans hE5 (hM6.below (by have:=hx.size;omega) hE5.size)
      have hE7:=hE6.trans hx7
      have hE8:Ext w w8:=Below.trans hE7 (hM8.below (by have:=hx.size;omega) hE7.size)
      have hE9:Ext w w9:=Below.trans hE8 (hM9.below (by have:=hx.size;omega) hE8.size)
      rw [hfill.out] at hB9
      have hS9:=hB9.sl hfl.out
      refine ⟨⟨hF9.cell? 0 rfl,hF9.cell? 1 rfl⟩,?_⟩
      (try simp only [q14q,q15q,q16q,Act.put,q0q,q1q,q2q])
      (refine R5.dq 13 (by kernel_rfl) rfl rfl ?_;unfold gives;simp [go_sem,execOp])
      refine ⟨⟨hF9.cell? 0 rfl,hF9.cell? 1 rfl⟩,?_⟩
      (try simp only [q14q,q15q,q16q,Act.put,q0q,q1q,q2q])
      refine wpAnyH_done (by kernel_rfl) ?_ _
      clear hSE hExt0 hfill hB6 hB8 hM6 hM8 hM9 hF6 hF7 hF8 hF9 hE5 hE6 hE7 hE8 hO5 hO7 hS8 hpa hpb
      have iN:(N:Int)≤(N:Int):=Int.le_refl _
      go_wp2_with (at_builtin;refine aC U rfl _ _ rfl w.heap.size sa _ sc _ rfl (some ⟨g,0,none⟩) N N _ rfl hO9 hS9 (by omega) hE9.size ?_;intro sa2 sc2 w2 hO2 hg2 hB2)
      go_roundw
      case rel=>exact ⟨k+1,m+N,sa2,sc2,_,by omega,by go_num,by rw [il2.out];simp;omega,rfl,by omega,hO2,Lib.hid fun _=>hol.out,hb2,Below.trans hE9 hB2⟩
      case measure=>simp [intOf];omega
   ·have he2:=Lib.hid (show r=([],(cL x).2) by
     rw [← hr.out];unfold aW;rw [vb hxi hbad.out he,aam he])
    have hne:((cL x).2 != 0)=true:=by rw [aaw];exact he
    generalize (cL x).2=ev at *
    generalize (cL x).1=sv at *
    clear he
    go_wp2_with (first
     | (refine af (RF2) rfl _ rfl (b0) (o0+k*2) rfl _ (hrd) (rfl) ?_)
     | (go_at_call 153;refine (hsz _).mono ?_;rintro e w1 ⟨rfl,hxq⟩;obtain ⟨xq,rfl⟩:=hxq.out;clear hxq)
     | fail)
    go_ret2
    rw [he2.out]
    exact aG _ _ _ (hx.trans eX)
  ·obtain rfl:k=n:=by omega
   rw [aaj (by omega)] at *
   by_cases h24:24<k
   ·exact z38q42
   ·have i24:¬ (24:Int)<(k:Int):=by omega
    by_cases hlo:1232<aX L
    ·have er:=Lib.hid (show r=([],2) by rw [← hr.out];unfold aW;rw [hbad.out,aaf (by simp),aaf (by omega),aam hlo])
     have il:decide (1232<aX L)=true:=aaz hlo
     rw [il]
     go_wp2_with fail
     go_ret2
     rw [er.out]
     exact aG _ _ _ hx
    ·have er:=Lib.hid (show r=(O,0) by rw [← hr.out];unfold aW;rw [hbad.out,aaf (by simp),aaf (by omega),aaf hlo,hOl.out (by omega)])
     have il:decide (1232<aX L)=false:=aaF hlo
     have hOL:=hO.1
     rw [il]
     go_wp2_with fail
     go_ret2
     rw [er.out]
     exact ⟨sa,sc,by rw [hOL];rfl,by rw [hOL];exact hO.sl,by rw [hOL];exact hO.le.1,hx⟩
end Go.Proofs.YtmdahnkcnagkjaaGreat

/- The walks of layer 18: open, Bare, nonced, padded, the guard's bytes. -/
namespace Go.Sec
theorem Rd.left {w:World} {a:Option Addr} {vs us:List Value} (h:Rd w a (vs++us)):Rd w a vs:=by
 rcases h with h|⟨b,o,ha,hb,hc⟩
 ·exact .inl (List.append_eq_nil_iff.1 h).1
 ·exact .inr ⟨b,o,ha,hb,fun k v hk=>hc k v (by rw [List.getElem?_append_left (List.getElem?_eq_some_iff.1 hk).1];exact hk)⟩
end Go.Sec
namespace Go.Proofs.YtmdahnkcnagkjaaGreat
open Go.RowKit Go.Sec Go.Oct Go.Pkt Go.Aes BigFrame
theorem aY:RowT Tryz.prog 67 16:=⟨⟨_,Tryz.underlying67,rfl⟩,by kernel_rfl,⟨_,Tryz.zeroValue67,by kernel_rfl⟩⟩
theorem pT {h:Hdr} {L:List Fld} (h1:(cP h).2≠0):aU h L=([],(cP h).2):=aam h1
theorem nK {h:Hdr} {L:List Fld} (h1:(cP h).2=0) (h2:(aW L).2≠0):aU h L=([],(aW L).2):=by unfold aU;rw [aaf (by simpa using h1),aam h2]
theorem sP {h:Hdr} {L:List Fld} (h1:(cP h).2=0) (h2:(aW L).2=0):aU h L=((cP h).1++(aW L).1,0):=by unfold aU;rw [aaf (by simpa using h1),aaf (by simpa using h2)]
theorem si {h:Hdr}:(cP h).1.length≤48:=by unfold cP;split <;> simp [cU]
theorem iw {L:List Fld}:(aW L).1.length≤1232:=by
 by_cases h:(aW L).2=0
 ·obtain ⟨_,_,h3,h4⟩:=qK h
  rw [h4,bG];exact h3
 ·unfold aW at h ⊢
  split
  ·simp
  ·split
   ·simp
   ·split
    ·simp
    ·rename_i h1 h2 h3;rw [aaf h1,aaf h2,aaf h3] at h;exact absurd rfl h
theorem pX (h:Hdr) (a1 a2:Option Addr)(n1 c1 n2 c2:Nat) (gd:Bool) (L:List Fld) (w:World)(hI:Ib w a1 n1 L) (hn:n1≤1000000) (hL:∀ f∈L,f.2.length≤1000000) :
  Calls Tryz.prog 115 #[.agg #[.int .i64 h.leap, .int .i64 h.ver, .int .i64 h.mode, .int .i64 h.strat, .int .i64 h.poll, .int .i64 h.prec, .int .u32 (n32 h.rd), .int .u32 (n32 h.rp), .int .u32 (n32 h.id), .int .u64 (n64 h.ref), .int .u64 (n64 h.org), .int .u64 (n64 h.rcv), .int .u64 (n64 h.tx), .slice a1 n1 c1, .slice a2 n2 c2, .bool gd]] w (bQ (aU h L).1.length (aU h L).1 (.int .i64 (aU h L).2) w):=by
 have he:=fun W=>rP h W
 have hx:=fun W H=>jC a1 n1 c1 L W H hn hL
 go_enter Tryz.func115,Tryz.ntmps115
 go_wp2_with (first
  | (refine af (bc) rfl _ rfl (w.heap.size) (0) rfl _ ((Rd.left (vs:=[.int .i64 h.leap, .int .i64 h.ver, .int .i64 h.mode, .int .i64 h.strat, .int .i64 h.poll, .int .i64 h.prec, .int .u32 (n32 h.rd), .int .u32 (n32 h.rp), .int .u32 (n32 h.id), .int .u64 (n64 h.ref), .int .u64 (n64 h.org), .int .u64 (n64 h.rcv), .int .u64 (n64 h.tx)]) (us:=[.slice a1 n1 c1, .slice a2 n2 c2, .bool gd]) (Blk.new w #[.int .i64 h.leap, .int .i64 h.ver, .int .i64 h.mode, .int .i64 h.strat, .int .i64 h.poll, .int .i64 h.prec, .int .u32 (n32 h.rd), .int .u32 (n32 h.rp), .int .u32 (n32 h.id), .int .u64 (n64 h.ref), .int .u64 (n64 h.org), .int .u64 (n64 h.rcv), .int .u64 (n64 h.tx), .slice a1 n1 c1, .slice a2 n2 c2, .bool gd] 67).rd)) (rfl) ?_)
  | fail)
 refine bN ?_
 intro W hW
 have hE:Ext w W:=by rw [hW];exact eX
 have hB:Blk W w.heap.size 67 [.int .i64 h.leap, .int .i64 h.ver, .int .i64 h.mode, .int .i64 h.strat, .int .i64 h.poll, .int .i64 h.prec, .int .u32 (n32 h.rd), .int .u32 (n32 h.rp), .int .u32 (n32 h.id), .int .u64 (n64 h.ref), .int .u64 (n64 h.org), .int .u64 (n64 h.rcv), .int .u64 (n64 h.tx), .slice a1 n1 c1, .slice a2 n2 c2, .bool gd]:=by rw [hW];exact bK
 clear hW
 (with_reducible refine (he W).mono ?_)
 rintro e w1 ⟨b1,d1,rfl,hS1,hd1,hx1⟩
 have hB1:=hB.extB hx1
 have hE1:=hE.trans hx1
 haveI:=hB1.blt
 have f13:w1.cell? ⟨w.heap.size,13,none⟩=some (.slice a1 n1 c1):=hB1.cell? 13 rfl
 clear he hB hE hx1
 by_cases h0:(cP h).2=0
 ·rw [h0]
  go_wp2_with fail
  (with_reducible refine (hx w1 (hI.ext hE1)).mono ?_)
  rintro e w2 ⟨b2,d2,rfl,hS2,hd2,hx2⟩
  by_cases h1:(aW L).2=0
  ·rw [h1]
   have er:=Lib.hid (sP h0 h1)
   have hl1:=si (h:=h)
   have hl2:=iw (L:=L)
   generalize (cP h).1=B1 at *
   generalize (aW L).1=B2 at *
   clear h0 h1 hx f13
   have hS1:=hS1.ext hx2
   have hj:aV [B1,B2]=B1++B2:=ic _ _
   have hjl:(aV [B1,B2]).length=B1.length+B2.length:=by rw [hj,aah]
   have HJ:=Lib.hid hj
   clear hj
   go_wp2_with fail
   (with_reducible refine (fS _ _ _ [B1,B2] _ (oY (hS1.ext eX) (hS2.ext eX) _) (by omega) (B1.length+B2.length) hjl (by omega)).mono ?_)
   rintro e w3 ⟨a3,c3,rfl,hO3,hx3⟩
   rw [HJ.out] at hO3
   go_wp2_with fail
   go_ret2
   rw [er.out]
   show bQ (B1++B2).length _ _ _ _ _
   rw [aah]
   exact ⟨a3,c3,rfl,hO3.sl,hO3.le.1,(hE1.trans hx2).trans ((Ext.of_alloc _ _).trans hx3)⟩
  ·have er:=Lib.hid (nK h0 h1)
   have hI:=ne0 h1
   generalize (aW L).2=v at *
   clear h0 h1 hx f13
   go_wp2_with fail
   go_ret2
   rw [er.out]
   exact aG _ _ _ (hE1.trans hx2)
 ·have er:=Lib.hid (pT (L:=L) h0)
  have hI:=ne0 h0
  generalize (cP h).2=v at *
  clear h0 hx f13
  go_wp2_with fail
  go_ret2
  rw [er.out]
  exact aG _ _ _ hE1
theorem gL (n:Nat) {nI:Int} (hn:nI=(n:Int)) (w:World) :
  Calls Tryz.prog 128 #[.int .i64 nI] w fun e w'=>e = .returned (.bool (decide (16≤n∧n≤32)))∧Ext w w':=by
 subst hn
 obtain ⟨d,hd⟩:∃ d,decide (16≤n∧n≤32)=d:=⟨_,rfl⟩
 rw [hd]
 by_cases h1:16≤n
 ·have i1:(16:Int)≤(n:Int):=by omega
  by_cases h2:n≤32
  ·have i2:(n:Int)≤32:=by omega
   have e:=Lib.hid (show d=true by rw [← hd];exact aaz ⟨h1,h2⟩)
   clear h1 h2 hd
   go_enter Tryz.func128,Tryz.ntmps128
   go_wp2
   go_ret
   exact ⟨by rw [e.out];rfl,eX⟩
  ·have i2:¬ (n:Int)≤32:=by omega
   have e:=Lib.hid (show d=false by rw [← hd];exact aaF fun h=>h2 h.2)
   clear h1 h2 hd
   go_enter Tryz.func128,Tryz.ntmps128
   go_wp2
   go_ret
   exact ⟨by rw [e.out];rfl,eX⟩
 ·have i1:¬ (16:Int)≤(n:Int):=by omega
  have e:=Lib.hid (show d=false by rw [← hd];exact aaF fun h=>h1 h.1)
  clear h1 hd
  go_enter Tryz.func128,Tryz.ntmps128
  go_wp2
  go_ret
  exact ⟨by rw [e.out];rfl,eX⟩
theorem gH (n:Nat) {nI:Int} (hn:nI=(n:Int)) (w:World)(h:n≤1000000000) :
  Calls Tryz.prog 148 #[.int .i64 nI] w fun e w'=>e = .returned (.int .i64 ((aI n:Nat):Int))∧Ext w w':=by
 subst hn
 have e:((n:Int)+4-1) / 4*4=(aI n:Nat):=by unfold aI;omega
 go_enter Tryz.func148,Tryz.ntmps148
 go_wp2
 go_ret
 exact ⟨by rw [← e];rfl,eX⟩
theorem xW (l:List UInt8):fV l 4=l++List.replicate (aI l.length-l.length) 0:=by
 unfold fV A4 aI
 rw [aam (by omega)]
 congr 2
 omega
theorem qZ (l:List UInt8):(fV l 4).length=aI l.length:=by
 rw [xW,aah,aaP];unfold aI;omega
theorem pM (a:Option Addr)(n c:Nat) (l:List UInt8)(w:World)(h:Sl w a n l) (hn:n≤1000000) :
  Calls Tryz.prog 154 #[.slice a n c, .int .i64 4] w (cf (aI n) (fV l 4) w):=by
 have hl:=h.len
 have hp:=Lib.hid (xW l)
 have hcl:=fun W H=>ed a n c l W H (by omega)
 go_enter Tryz.func154,Tryz.ntmps154
 go_wp2_with fail
 (with_reducible refine (hcl w h).mono ?_)
 rintro e w1 ⟨a1,c1,rfl,hO1,hx1⟩
 go_wp2_with fail
 go_loopw [5] (fun v5 wr=>∃ (m:Nat) (sa:Option Addr)(sc:Nat),n≤m∧m≤aI n∧v5 = .slice sa m sc∧Own wr w.heap.size sa m sc (l++List.replicate (m-n) 0)∧Ext w wr) (fun v5 _=>match v5 with | .slice _ m _=>aI n-m|_=>0)
 case atStart=>exact ⟨n,a1,c1,aag _,by unfold aI;omega,rfl,by simpa using hO1,hx1⟩
 case round =>
  obtain ⟨m,sa,sc,hm0,hm1,rfl,hO,hx⟩:=hrel
  by_cases hlt:m<aI n
  ·have hmod:((m:Int) % 4 != 0)=true:=by rw [aaw];unfold aI at hlt;omega
   have HS:=Lib.hid (show m+1-n=(m-n)+1 by omega)
   go_wp2_with (at_builtin;refine aC U rfl _ _ rfl w.heap.size sa _ sc _ rfl _ 1 1 _ rfl (hO.ext eX) (bF _ 0 _) (by unfold aI at hm1;omega) (by simp;have:=hx.size;omega) ?_;intro sa2 sc2 w2 hO2 hg2 hB2)
   go_roundw
   case rel=>exact ⟨m+1,sa2,sc2,by omega,by omega,rfl,by rw [HS.out,abw,← aas];exact hO2,Below.trans (b:=wr.alloc _) eX hB2⟩
   case measure=>show aI n-(m+1)<aI n-m;omega
  ·obtain rfl:m=aI n:=by omega
   have hmod:(((aI n:Nat):Int) % 4 != 0)=false:=by rw [aai];unfold aI;omega
   have hq:=Lib.hid (show l++List.replicate (aI n-n) 0=fV l 4 by rw [hp.out,hl])
   go_wp2
   go_ret
   exact ⟨_,_,rfl,by rw [← hq.out];exact hO,hx⟩
theorem ey (n s:List UInt8):(aB n s).length=4+aI n.length+aI s.length:=by
 simp only [aB,aah,ay,qZ];omega
theorem mv (a1 a2:Option Addr)(n1 c1 n2 c2:Nat) (u v:List UInt8)(w:World)(h1:Sl w a1 n1 u) (h2:Sl w a2 n2 v) (m1:n1≤1000000) (m2:n2≤1000000) :
  Calls Tryz.prog 132 #[.agg #[.slice a1 n1 c1, .slice a2 n2 c2]] w (cf (4+aI n1+aI n2) (aB u v) w):=by
 have l1:=h1.len
 have l2:=h2.len
 have hv1:IntKind.u64.wrap (n1:Int)=n64 (UInt64.ofNat n1):=by rw [aaL];unfold n64;rw [aaN];omega
 have hv2:IntKind.u64.wrap (n2:Int)=n64 (UInt64.ofNat n2):=by rw [aaL];unfold n64;rw [aaN];omega
 have hpa:=fun W=>gr (UInt64.ofNat n1) 2 hv1 (show (2:Int)=((2:Nat):Int) from rfl) W (by omega)
 have hpb:=fun W=>gr (UInt64.ofNat n2) 2 hv2 (show (2:Int)=((2:Nat):Int) from rfl) W (by omega)
 have hG:aV [aF 2 (UInt64.ofNat n1),aF 2 (UInt64.ofNat n2),fV u 4,fV v 4]=aB u v:=by unfold aB;rw [lX,l1,l2]
 have hGl:(aV [aF 2 (UInt64.ofNat n1),aF 2 (UInt64.ofNat n2),fV u 4,fV v 4]).length=4+aI n1+aI n2:=by rw [hG,ey,l1,l2]
 have HG:=Lib.hid hG
 clear hG hv1 hv2 l1 l2
 go_enter Tryz.func132,Tryz.ntmps132
 go_wp2_with fail
 refine dg ?_
 intro W hW
 have hE:Ext w W:=by rw [hW];exact eX
 have hB:Blk W w.heap.size 185 [.slice a1 n1 c1, .slice a2 n2 c2]:=by rw [hW];exact bK
 clear hW
 have h1:=h1.ext hE
 have h2:=h2.ext hE
 haveI:=hB.blt
 have f0:=hB.cell? 0 rfl
 have f1:W.cell? ⟨w.heap.size,1,none⟩=some (.slice a2 n2 c2):=hB.cell? 1 rfl
 refine ae 16 [[],[0],[0,1],[0,1,2],[0,1,2,3],[],[5],[5,6],[5,6,7],[0,1,2,3,4,5,6,7,8],[],[10],[0,1,2,3,4,5,6,7,8,9,10,11],[],[13],[0,1,2,3,4,5,6,7,8,9,10,11,12,13,14],[0,1,2,3,4,5,6,7,8,9,10,11,12,13,14,15],[0,1,2,3,4,5,6,7,8,9,10,11,12,13,14,15,16],[0,1,2,3,4,5,6,7,8,9,10,11,12,13,14,15,16,17]] (by kernel_rfl) (by kernel_rfl) (by kernel_rfl) (by kernel_rfl) ?_;simp only [q8q,q9q,q10q,q11q,q12q,q13q]
 (repeat (refine aA ?_;(try simp only [Act.put,q0q,q1q,q2q])))
 (refine aj (fun p => .slice (p 0).1 (2) (p 0).2) (fun p w''=>Own w'' 0 (p 0).1 (2) (p 0).2 (aF 2 (UInt64.ofNat n1))) (fun p w w' h hx=>h.ext hx) (fun us w' hx hf=>⟨rfl,?_⟩) ?_;(unfold gives;simp [go_sem,execOp];exact az (aan _) (hpa _)))
 (repeat (refine aA ?_;(try simp only [Act.put,q0q,q1q,q2q])))
 (refine aj (fun p => .slice (p 0).1 (2) (p 0).2) (fun p w''=>Own w'' 0 (p 0).1 (2) (p 0).2 (aF 2 (UInt64.ofNat n2))) (fun p w w' h hx=>h.ext hx) (fun us w' hx hf=>⟨rfl,?_⟩) ?_;(unfold gives;simp [go_sem,execOp];exact az (aan _) (hpb _)))
 (repeat (refine aA ?_;(try simp only [Act.put,q0q,q1q,q2q])))
 (refine aj (fun p => .slice (p 0).1 (aI n1) (p 0).2) (fun p w''=>Own w'' 0 (p 0).1 (aI n1) (p 0).2 (fV u 4)) (fun p w w' h hx=>h.ext hx) (fun us w' hx hf=>⟨rfl,?_⟩) ?_;(unfold gives;simp [go_sem,execOp];exact az (aan _) (pM a1 n1 c1 u _ (h1.ext hx) m1)))
 (repeat (refine aA ?_;(try simp only [Act.put,q0q,q1q,q2q])))
 (refine aj (fun p => .slice (p 0).1 (aI n2) (p 0).2) (fun p w''=>Own w'' 0 (p 0).1 (aI n2) (p 0).2 (fV v 4)) (fun p w w' h hx=>h.ext hx) (fun us w' hx hf=>⟨rfl,?_⟩) ?_;(unfold gives;simp [go_sem,execOp];exact az (aan _) (pM a2 n2 c2 v _ (h2.ext hx) m2)))
 (refine aT ?_;intro us x hx hf;(try simp only [Act.put,q0q,q1q,q2q,ag]);(try simp only [q3q,q4q,aao,aaa,aal,q5q,q6q,q7q,aap,aaq,aar] at hf);(try simp only [Nat.reduceAdd,aad] at hf ⊢))
 obtain ⟨hO1,hO2,hO3,hO4⟩:=hf
 obtain ⟨p1,hp1⟩:∃ a,(us 4 0).1=a:=⟨_,rfl⟩
 obtain ⟨q1,hq1⟩:∃ a,(us 4 0).2=a:=⟨_,rfl⟩
 obtain ⟨p2,hp2⟩:∃ a,(us 9 0).1=a:=⟨_,rfl⟩
 obtain ⟨q2,hq2⟩:∃ a,(us 9 0).2=a:=⟨_,rfl⟩
 obtain ⟨p3,hp3⟩:∃ a,(us 12 0).1=a:=⟨_,rfl⟩
 obtain ⟨q3,hq3⟩:∃ a,(us 12 0).2=a:=⟨_,rfl⟩
 obtain ⟨p4,hp4⟩:∃ a,(us 15 0).1=a:=⟨_,rfl⟩
 obtain ⟨q4,hq4⟩:∃ a,(us 15 0).2=a:=⟨_,rfl⟩
 rw [hp1,hq1] at hO1 ⊢
 rw [hp2,hq2] at hO2 ⊢
 rw [hp3,hq3] at hO3 ⊢
 rw [hp4,hq4] at hO4 ⊢
 clear hp1 hq1 hp2 hq2 hp3 hq3 hp4 hq4 f0 f1 hpa hpb
 have hx5:Ext W (W.ext x):=Ext.of_ext _ _
 have s1:=hO1.sl
 have s2:=hO2.sl
 have s3:=hO3.sl
 have s4:=hO4.sl
 generalize W.ext x=W5 at *
 go_wp2_with fail
 (with_reducible refine (fS _ _ _ _ _ (y5 s1 s2 s3 s4 _) (by omega) _ hGl (by unfold aI;omega)).mono ?_)
 rintro e w9 ⟨a9,c9,rfl,hO9,hx9⟩
 rw [HG.out] at hO9
 go_wp2_with fail
 go_ret
 have hx8:=(hE.trans hx5).trans ((Ext.of_alloc _ _).trans hx9)
 exact ⟨a9,c9,rfl,hO9.mono (aau (hE.trans hx5).size (Ext.of_alloc _ _).size),hx8⟩
end Go.Proofs.YtmdahnkcnagkjaaGreat

/- The walks of layer 18: Bare, Read. -/
namespace Go.Pkt
theorem gu {b:List UInt8} (h:(bO b).2≠0):aH b=(aO,(bO b).2):=aam h
theorem fW {b:List UInt8} (h:(bO b).2=0) (h2:(bg (bO b).1.2).2≠0):aH b=(aO,(bg (bO b).1.2).2):=by unfold aH;rw [aaf (by simpa using h),aam h2]
theorem jo {b:List UInt8} (h:(bO b).2=0) (h2:(bg (bO b).1.2).2=0):aH b=(⟨(bO b).1.1,(bg (bO b).1.2).1,[],false⟩,0):=by unfold aH;rw [aaf (by simpa using h),aaf (by simpa using h2)]
theorem pI {b:List UInt8}:(bO b).1.2.length≤b.length:=by
 unfold bO
 split
 ·simp
 ·split
  ·simp
  ·split <;> simp
theorem tX {p:Pkt} (h:(aU p.h p.plain).2≠0):en p=([],(aU p.h p.plain).2):=aam h
theorem nt {p:Pkt} (h:(aU p.h p.plain).2=0) (h2:p.secret≠[]∨p.guarded=true):en p=([],3):=by unfold en;rw [aaf (by simpa using h),aam h2]
theorem xa {p:Pkt} (h:(aU p.h p.plain).2=0) (h2:¬ (p.secret≠[]∨p.guarded=true)):en p=aU p.h p.plain:=by unfold en;rw [aaf (by simpa using h),aaf h2]
end Go.Pkt
namespace Go.Proofs.YtmdahnkcnagkjaaGreat
open Go.RowKit Go.Sec Go.Oct Go.Pkt Go.Aes BigFrame
theorem lK (a1 a2:Option Addr)(n1 c1 n2 c2:Nat) (p:Pkt) (w:World)(hI1:Ib w a1 n1 p.plain) (hn1:n1≤1000000) (hL1:∀ f∈p.plain,f.2.length≤1000000) (h2:p.secret.length=n2) :
  Calls Tryz.prog 78 #[.agg #[.int .i64 p.h.leap, .int .i64 p.h.ver, .int .i64 p.h.mode, .int .i64 p.h.strat, .int .i64 p.h.poll, .int .i64 p.h.prec, .int .u32 (n32 p.h.rd), .int .u32 (n32 p.h.rp), .int .u32 (n32 p.h.id), .int .u64 (n64 p.h.ref), .int .u64 (n64 p.h.org), .int .u64 (n64 p.h.rcv), .int .u64 (n64 p.h.tx), .slice a1 n1 c1, .slice a2 n2 c2, .bool p.guarded]] w (bQ (en p).1.length (en p).1 (.int .i64 (en p).2) w):=by
 have ho:=fun W H=>pX p.h a1 a2 n1 c1 n2 c2 p.guarded p.plain W H hn1 hL1
 obtain ⟨r,hr⟩:∃ r,en p=r:=⟨_,rfl⟩
 rw [hr]
 have hr:=Lib.hid hr
 go_enter Tryz.func78,Tryz.ntmps78
 go_wp2_with (first
  | (refine af (aY) rfl _ rfl (w.heap.size) (0) rfl _ (((Blk.new w #[.int .i64 p.h.leap, .int .i64 p.h.ver, .int .i64 p.h.mode, .int .i64 p.h.strat, .int .i64 p.h.poll, .int .i64 p.h.prec, .int .u32 (n32 p.h.rd), .int .u32 (n32 p.h.rp), .int .u32 (n32 p.h.id), .int .u64 (n64 p.h.ref), .int .u64 (n64 p.h.org), .int .u64 (n64 p.h.rcv), .int .u64 (n64 p.h.tx), .slice a1 n1 c1, .slice a2 n2 c2, .bool p.guarded] 67).extB eX).rd) (rfl) ?_)
  | fail)
 refine bN ?_
 intro W hW
 have hE:Ext w W:=by rw [hW];exact eX
 have hB:Blk W w.heap.size 67 [.int .i64 p.h.leap, .int .i64 p.h.ver, .int .i64 p.h.mode, .int .i64 p.h.strat, .int .i64 p.h.poll, .int .i64 p.h.prec, .int .u32 (n32 p.h.rd), .int .u32 (n32 p.h.rp), .int .u32 (n32 p.h.id), .int .u64 (n64 p.h.ref), .int .u64 (n64 p.h.org), .int .u64 (n64 p.h.rcv), .int .u64 (n64 p.h.tx), .slice a1 n1 c1, .slice a2 n2 c2, .bool p.guarded]:=by rw [hW];exact bK
 clear hW
 (with_reducible refine (ho W (hI1.ext hE)).mono ?_)
 rintro e w1 ⟨b1,d1,rfl,hS1,hd1,hx1⟩
 have hE1:=hE.trans hx1
 have hB1:=hB.extB hx1
 haveI:=hB1.blt
 have f14:w1.cell? ⟨w.heap.size,14,none⟩=some (.slice a2 n2 c2):=hB1.cell? 14 rfl
 have f15:w1.cell? ⟨w.heap.size,15,none⟩=some (.bool p.guarded):=hB1.cell? 15 rfl
 clear hE hB hx1 ho
 by_cases q3:(aU p.h p.plain).2=0
 ·rw [q3]
  by_cases q4:0<n2
  ·have er:=Lib.hid (show r=([],3) by rw [← hr.out];exact nt q3 (.inl (List.ne_nil_of_length_pos (by omega))))
   have i4:(0:Int)<(n2:Int):=by omega
   clear q3
   go_wp2_with fail
   go_ret2
   rw [er.out]
   exact aG _ _ _ hE1
  ·have h0:p.secret=[]:=aav (by omega)
   obtain rfl:n2=0:=by omega
   cases q5:p.guarded
   ·have er:=Lib.hid (show r=((aU p.h p.plain).1,0) by rw [← hr.out,xa q3 (by rw [h0,q5];simp)];rw [← q3])
    rw [q5] at f15
    clear q3 h0 h2 q4
    go_wp2_with fail
    go_ret2
    rw [er.out]
    exact ⟨b1,d1,rfl,hS1,hd1,hE1⟩
   ·have er:=Lib.hid (show r=([],3) by rw [← hr.out];exact nt q3 (.inr q5))
    rw [q5] at f15
    clear q3 h0 h2 q4
    go_wp2_with fail
    go_ret2
    rw [er.out]
    exact aG _ _ _ hE1
 ·have er:=Lib.hid (show r=([],(aU p.h p.plain).2) by rw [← hr.out];exact tX q3)
  have i3:=ne0 q3
  generalize (aU p.h p.plain).2=v at *
  clear q3
  go_wp2_with fail
  go_ret2
  rw [er.out]
  exact aG _ _ _ hE1
def gX (r:Pkt × Int) (w:World)(e:Ending) (w':World):Prop:=∃ a1 c1,e = .returned (.tuple #[.agg #[.int .i64 r.1.h.leap, .int .i64 r.1.h.ver, .int .i64 r.1.h.mode, .int .i64 r.1.h.strat, .int .i64 r.1.h.poll, .int .i64 r.1.h.prec, .int .u32 (n32 r.1.h.rd), .int .u32 (n32 r.1.h.rp), .int .u32 (n32 r.1.h.id), .int .u64 (n64 r.1.h.ref), .int .u64 (n64 r.1.h.org), .int .u64 (n64 r.1.h.rcv), .int .u64 (n64 r.1.h.tx), .slice a1 r.1.plain.length c1, .slice none 0 0, .bool false], .int .i64 r.2]) ∧
 (∃ B,cF 79 w' B a1 r.1.plain.length c1 r.1.plain)∧Ext w w'
theorem gX.err (w w':World)(e:Int) (hx:Ext w w'):gX (aO,e) w (.returned (.tuple #[.agg #[.int .i64 0, .int .i64 0, .int .i64 0, .int .i64 0, .int .i64 0, .int .i64 0, .int .u32 0, .int .u32 0, .int .u32 0, .int .u64 0, .int .u64 0, .int .u64 0, .int .u64 0, .slice none 0 0, .slice none 0 0, .bool false], .int .i64 e])) w':=⟨none,0,rfl,⟨0,cF.nil _ _ _⟩,hx⟩
theorem lZ (a:Option Addr)(n c:Nat) (b:List UInt8)(w:World)(hS:Sl w a n b) (hc:n≤c) (hn:n≤1000000) :
  Calls Tryz.prog 42 #[.slice a n c] w (gX (aH b) w):=by
 have hl:=hS.len
 have hdh:=fun W H=>se a n c b W H hc hn
 have hrl:=pI (b:=b)
 obtain ⟨r,hr⟩:∃ r,aH b=r:=⟨_,rfl⟩
 rw [hr]
 have hr:=Lib.hid hr
 go_enter Tryz.func42,Tryz.ntmps42
 go_wp2_with fail
 refine bN ?_
 intro W hW
 have hE:Ext w W:=by rw [hW];exact eX
 have hP:Blk W w.heap.size 67 [.int .i64 0, .int .i64 0, .int .i64 0, .int .i64 0, .int .i64 0, .int .i64 0, .int .u32 0, .int .u32 0, .int .u32 0, .int .u64 0, .int .u64 0, .int .u64 0, .int .u64 0, .slice none 0 0, .slice none 0 0, .bool false]:=by rw [hW];exact bK
 clear hW
 (with_reducible refine (hdh W (hS.ext hE)).mono ?_)
 rintro e w1 ⟨b1,d1,rfl,hS1,hd1,hx1⟩
 have hE1:=hE.trans hx1
 have hP1:=hP.extB hx1
 haveI:=hP1.blt
 clear hE hP hx1 hdh
 by_cases q1:(bO b).2=0
 ·rw [q1]
  have hdf:=fun W H=>mP b1 (bO b).1.2.length d1 (bO b).1.2 W H hd1 (by omega)
  have hok:=fun h=>jo q1 h
  have hbad:=fun h=>fW q1 h
  generalize (bO b).1.2=R at *
  generalize (bO b).1.1=H at *
  go_wp2_with (first
   | (refine ai (bc) rfl rfl _ _ rfl rfl rfl rfl (by simp [Act.put]) _ rfl (by simp) (rfl) (oC) ?_;intro x hz _)
   | fail)
  refine bN ?_
  intro W2 hW2
  have hx2:Ext w1 W2:=by rw [hW2];exact eX
  have hzz:Blk W2 w1.heap.size 64 [.int .i64 H.leap, .int .i64 H.ver, .int .i64 H.mode, .int .i64 H.strat, .int .i64 H.poll, .int .i64 H.prec, .int .u32 (n32 H.rd), .int .u32 (n32 H.rp), .int .u32 (n32 H.id), .int .u64 (n64 H.ref), .int .u64 (n64 H.org), .int .u64 (n64 H.rcv), .int .u64 (n64 H.tx)]:=by rw [hW2];exact hz.extB eX
  have hP2:=hP1.extB hx2
  have hE2:=hE1.trans hx2
  have hS2:=hS1.ext hx2
  have hlt:=hP1.lt
  clear hW2 hx2 hE1 hP1 hS1
  (with_reducible refine (hdf W2 hS2).mono ?_)
  rintro e w3 ⟨b3,d3,rfl,hO3,hx3⟩
  have hP3:=hP2.extB hx3
  have hz3:=hzz.extB hx3
  have hE3:=hE2.trans hx3
  haveI:=hP3.blt
  clear hP2 hE2 hdf hz hzz hx3
  by_cases q2:(bg R).2=0
  ·rw [q2]
   have er:=Lib.hid (show r=(⟨H,(bg R).1,[],false⟩,0) by rw [← hr.out];exact hok q2)
   clear hok hbad q2
   generalize (bg R).1=L at *
   go_wp2_with (first
    | (refine af (bc) rfl _ rfl (w1.heap.size) (0) rfl _ ((hz3.extB eX).rd) (rfl) ?_)
    | (refine aa (aY) rfl _ _ rfl (w.heap.size) (0) rfl _ rfl (67) _ ((hP3.extB eX)) (rfl) (by simp) (oC) ?_;intro V hV hMV)
    | fail)
   refine aac (ao Tryz.results42 (aY) _ _ (w.heap.size) (0) _ rfl (hV.rd) (rfl) (.int .i64 0) rfl) rfl ?_
   rw [er.out]
   exact ⟨b3,d3,rfl,⟨_,hO3.mut hP3 (by decide) (by simp) hMV⟩,Below.trans hE3 (hMV.below (aag _) hE3.size)⟩
  ·have er:=Lib.hid (show r=(aO,(bg R).2) by rw [← hr.out];exact hbad q2)
   have i2:=ne0 q2
   generalize (bg R).2=v at *
   generalize (bg R).1=L at *
   clear q2 hok hbad
   go_wp2_with (first
    | (refine aa (aY) rfl _ _ rfl (w.heap.size) (0) rfl _ rfl (67) _ ((hP3.extB eX)) (rfl) (by simp) (oC) ?_;intro V hV hMV)
    | fail)
   refine aac (ao Tryz.results42 (aY) _ _ (w.heap.size) (0) _ rfl (hV.rd) (rfl) (.int .i64 v) rfl) rfl ?_
   rw [er.out]
   exact gX.err _ _ _ (Below.trans (hE3.trans eX) (hMV.below (aag _) (Below.size (hE3.trans eX))))
 ·have er:=Lib.hid (show r=(aO,(bO b).2) by rw [← hr.out];exact gu q1)
  have i1:=ne0 q1
  generalize (bO b).2=v at *
  generalize (bO b).1.1=H at *
  clear q1
  go_wp2_with (first
   | (refine ai (bc) rfl rfl _ _ rfl rfl rfl rfl (by simp [Act.put]) _ rfl (by simp) (rfl) (oC) ?_;intro x hz _)
   | (refine aa (aY) rfl _ _ rfl (w.heap.size) (0) rfl _ rfl (67) _ ((hP1.extB eX)) (rfl) (by simp) (oC) ?_;intro V hV hMV)
   | fail)
  refine aac (ao Tryz.results42 (aY) _ _ (w.heap.size) (0) _ rfl (hV.rd) (rfl) (.int .i64 v) rfl) rfl ?_
  rw [er.out]
  exact gX.err _ _ _ (Below.trans (hE1.trans eX) (hMV.below (aag _) (Below.size (hE1.trans eX))))
end Go.Proofs.YtmdahnkcnagkjaaGreat

/- The walks of layer 26: Check, shaped, Kind. -/
namespace Go.Tsrv
open Go.Pkt
theorem xe (k:Int) (n:Nat) (f:Fld):isF k n f=(decide (f.1=k) && decide (f.2.length=n)):=by unfold isF;rw [Bool.decide_and]
end Go.Tsrv
namespace Go.Proofs.YtmdahnkcnagkjaaGreat
open Go.RowKit Go.Sec Go.Oct Go.Pkt Go.Cook Go.Tsrv BigFrame
theorem yH:RowT Tryz.prog 30 5:=⟨⟨_,Tryz.underlying30,rfl⟩,by kernel_rfl,⟨_,Tryz.zeroValue30,by kernel_rfl⟩⟩
theorem ux (a:Option Addr)(n c:Nat) (s:Srv) (w:World)(hI:Ib w a n s.ring) (hc:n≤c) (hn:n≤1000000) :
  Calls Tryz.prog 21 #[.agg #[.slice a n c, .int .i64 s.str, .int .i64 s.ev, .int .i64 s.bu, .bool s.opn]] w fun e w'=>e = .returned (.int .i64 (eh s))∧Ext w w':=by
 have hv:=fun W H=>jB a n c s.ring W H hc hn
 have hk:=fun W=>p9 0 s.ev s.bu 0 W
 obtain ⟨r,hr⟩:∃ r,eh s=r:=⟨_,rfl⟩
 rw [hr]
 unfold eh at hr
 have hw:(mx 0 s.ev s.bu 0).2=if gl s.ev s.bu=false then 4 else 0:=by
  unfold mx fg
  rw [show eU 0=true by decide]
  cases gl s.ev s.bu <;> rfl
 rw [hw] at hk
 generalize (mx 0 s.ev s.bu 0).1=z at *
 clear hw
 cases h1:aP s.ring
 ·rw [h1] at hv
  rw [aam h1] at hr
  clear h1
  replace hr:=Lib.hid hr
  go_enter Tryz.func21,Tryz.ntmps21
  go_wp2_with (first
   | (go_at_call 57;refine (hv _ (hI.ext eX)).mono ?_;rintro e w1 ⟨rfl,hxq⟩;obtain ⟨xq,rfl⟩:=hxq.out;clear hxq)
   | (go_at_call 58;refine (hk _).mono ?_;rintro e w1 ⟨rfl,hxq⟩;obtain ⟨xq,rfl⟩:=hxq.out;clear hxq)
   | fail)
  go_ret
  exact ⟨by rw [← hr.out] <;> rfl,eX⟩
 ·rw [h1] at hv
  rw [aaf (by rw [h1];simp)] at hr
  clear h1
  cases h2:gl s.ev s.bu
  ·simp only [h2,abi] at hk
   rw [aam (.inl h2)] at hr
   clear h2
   replace hr:=Lib.hid hr
   go_enter Tryz.func21,Tryz.ntmps21
   go_wp2_with (first
    | (go_at_call 57;refine (hv _ (hI.ext eX)).mono ?_;rintro e w1 ⟨rfl,hxq⟩;obtain ⟨xq,rfl⟩:=hxq.out;clear hxq)
    | (go_at_call 58;refine (hk _).mono ?_;rintro e w1 ⟨rfl,hxq⟩;obtain ⟨xq,rfl⟩:=hxq.out;clear hxq)
    | fail)
   go_ret
   exact ⟨by rw [← hr.out] <;> rfl,eX⟩
  ·simp only [h2,Bool.true_eq_false,abk] at hk
   by_cases h3:s.str<1
   ·rw [aam (.inr (.inl h3))] at hr
    clear h2
    replace hr:=Lib.hid hr
    go_enter Tryz.func21,Tryz.ntmps21
    go_wp2_with (first
     | (go_at_call 57;refine (hv _ (hI.ext eX)).mono ?_;rintro e w1 ⟨rfl,hxq⟩;obtain ⟨xq,rfl⟩:=hxq.out;clear hxq)
     | (go_at_call 58;refine (hk _).mono ?_;rintro e w1 ⟨rfl,hxq⟩;obtain ⟨xq,rfl⟩:=hxq.out;clear hxq)
     | fail)
    go_ret
    exact ⟨by rw [← hr.out] <;> rfl,eX⟩
   ·by_cases h4:255<s.str
    ·rw [aam (.inr (.inr h4))] at hr
     clear h2
     replace hr:=Lib.hid hr
     go_enter Tryz.func21,Tryz.ntmps21
     go_wp2_with (first
      | (go_at_call 57;refine (hv _ (hI.ext eX)).mono ?_;rintro e w1 ⟨rfl,hxq⟩;obtain ⟨xq,rfl⟩:=hxq.out;clear hxq)
      | (go_at_call 58;refine (hk _).mono ?_;rintro e w1 ⟨rfl,hxq⟩;obtain ⟨xq,rfl⟩:=hxq.out;clear hxq)
      | fail)
     go_ret
     exact ⟨by rw [← hr.out] <;> rfl,eX⟩
    ·rw [aaf (by rw [h2];simp;omega)] at hr
     clear h2
     replace hr:=Lib.hid hr
     go_enter Tryz.func21,Tryz.ntmps21
     go_wp2_with (first
      | (go_at_call 57;refine (hv _ (hI.ext eX)).mono ?_;rintro e w1 ⟨rfl,hxq⟩;obtain ⟨xq,rfl⟩:=hxq.out;clear hxq)
      | (go_at_call 58;refine (hk _).mono ?_;rintro e w1 ⟨rfl,hxq⟩;obtain ⟨xq,rfl⟩:=hxq.out;clear hxq)
      | fail)
     go_ret
     exact ⟨by rw [← hr.out] <;> rfl,eX⟩
theorem qI (f:Fld) (a:Option Addr)(n c:Nat) (k:Int) (m:Nat) {mI:Int} (hm:mI=(m:Int)) (w:World)(h:f.2.length=n) :
  Calls Tryz.prog 92 #[.agg #[.int .i64 f.1, .slice a n c], .int .i64 k, .int .i64 mI] w fun e w'=>e = .returned (.bool (isF k m f))∧Ext w w':=by
 subst hm
 rw [xe,h]
 clear h
 by_cases h1:f.1=k
 ·have i1:(f.1 == k)=true:=by rw [aa7];exact h1
  have e1:=Lib.hid (show decide (f.1=k)=true from aaz h1)
  clear h1
  by_cases h2:n=m
  ·have i2:((n:Int) == (m:Int))=true:=by rw [aa7];omega
   have e2:=Lib.hid (show decide (n=m)=true from aaz h2)
   clear h2
   go_enter Tryz.func92,Tryz.ntmps92
   go_wp2
   go_ret
   exact ⟨by rw [e1.out,e2.out];rfl,eX⟩
  ·have i2:((n:Int) == (m:Int))=false:=by rw [aaJ];omega
   have e2:=Lib.hid (show decide (n=m)=false from aaF h2)
   clear h2
   go_enter Tryz.func92,Tryz.ntmps92
   go_wp2
   go_ret
   exact ⟨by rw [e1.out,e2.out];rfl,eX⟩
 ·have i1:(f.1 == k)=false:=by rw [aaJ];exact h1
  have e1:=Lib.hid (show decide (f.1=k)=false from aaF h1)
  clear h1
  go_enter Tryz.func92,Tryz.ntmps92
  go_wp2
  go_ret
  exact ⟨by rw [e1.out];rfl,eX⟩
theorem xz (g:Nat) (f:Fld) (a:Option Addr)(n c:Nat) (w:World)(h:f.2.length=n) (hB:Blk w g 149 [.func (.func 92) #[] #[]]) :
  Calls Tryz.prog 94 #[.agg #[.int .i64 f.1, .slice a n c], .pointer (some ⟨g,0,none⟩)] w fun e w'=>e = .returned (.bool (!isF 772 104 f))∧Ext w w':=by
 haveI:=hB.blt
 have f0:=hB.cell? 0 rfl
 have hi:=fun W=>qI f a n c 772 104 (show (104:Int)=((104:Nat):Int) from rfl) W h
 go_enter Tryz.func94,Tryz.ntmps94
 go_wp2_with fail
 (with_reducible refine (hi _).mono ?_);rintro e w1 ⟨rfl,hx⟩
 have hE:Ext w w1:=Ext.trans eX hx
 go_wp2_with fail
 go_ret
 exact ⟨rfl,hE⟩
def AD (L:List Fld) (w:World)(e:Ending) (w':World):Prop:=∃ r:Int,e = .returned (.int .i64 r)∧(0≤r ↔ L.all (isF 772 104)=false)∧Ext w w'
theorem uD (a:Option Addr)(n c g:Nat) (L:List Fld) (w:World)(hI:Ib w a n L) (hn:n≤1000000) (hB:Blk w g 149 [.func (.func 92) #[] #[]]) :
  Calls Tryz.prog 123 #[.slice a n c, .func (.func 94) #[] #[.pointer (some ⟨g,0,none⟩)]] w (AD L w):=by
 have hl:=hI.len
 go_enter Tryz.func123,Tryz.ntmps123
 go_wp2_with fail
 go_loopw [5,8] (fun _ v8 wr=>∃ i:Nat,i≤n∧v8 = .int .i64 i∧Hid ((L.take i).all (isF 772 104)=true)∧Ext w wr) (fun _ v8 _=>n-(intOf v8).toNat)
 case atStart=>exact ⟨0,by omega,rfl,Lib.hid rfl,Ext.refl _⟩
 case round =>
  obtain ⟨i,hi,rfl,hm,hx⟩:=hrel
  by_cases hlt:i<n
  ·obtain ⟨x,hxi⟩:∃ x,L[i]?=some x:=⟨_,List.getElem?_eq_getElem (by omega)⟩
   obtain ⟨b0,o0,g',c',rfl,hb0,hc0,hc1,hSk,hck⟩:=(hI.ext hx).at i hlt _ hxi
   have hrd:=rd2 hb0.lt hc0 hc1
   have i0:(0:Int)≤(i:Int):=by omega
   have i1:(i:Int)<(n:Int):=by omega
   have hts:=Lib.hid (show L.take (i+1)=L.take i++[x] by rw [abz,hxi];rfl)
   have hmem:=List.mem_of_getElem? hxi
   have hno:=fun W H=>xz g x g' x.2.length c' W rfl H
   haveI:=hb0
   clear hxi
   go_wp2_with (first
    | (refine af (RF2) rfl _ rfl (b0) (o0+i*2) rfl _ (hrd) (rfl) ?_)
    | fail)
   (with_reducible refine (hno _ (hB.extB hx)).mono ?_);rintro e w1 ⟨rfl,hx1⟩
   cases hb:isF 772 104 x
   ·have hm2:=Lib.hid (show L.all (isF 772 104)=false by
     rw [List.all_eq_false]
     exact ⟨x,hmem,by rw [hb];simp⟩)
    clear hb
    go_wp2_with fail
    go_ret
    exact ⟨i,rfl,by rw [hm2.out];simp,hx.trans hx1⟩
   ·have hm2:=Lib.hid (show (L.take (i+1)).all (isF 772 104)=true by
     rw [hts.out,List.all_append,hm.out]
     simp [hb])
    clear hb
    go_wp2_with fail
    go_roundw
    case rel=>exact ⟨i+1,by omega,by go_num,hm2,hx.trans hx1⟩
    case measure=>simp [intOf];omega
  ·obtain rfl:i=n:=by omega
   have hm2:=Lib.hid (show L.all (isF 772 104)=true by have:=hm.out;rwa [aaj (by omega)] at this)
   go_wp2_with fail
   go_ret
   exact ⟨-1,rfl,by rw [hm2.out];simp,hx⟩
theorem oS (a:Option Addr)(n c g:Nat) (L:List Fld) (w:World)(hI:Ib w a n L) (hn:n≤1000000) (hB:Blk w g 149 [.func (.func 92) #[] #[]]) :
  Calls Tryz.prog 93 #[.slice a n c, .func (.func 94) #[] #[.pointer (some ⟨g,0,none⟩)]] w fun e w'=>e = .returned (.bool (!L.all (isF 772 104)))∧Ext w w':=by
 go_enter Tryz.func93,Tryz.ntmps93
 go_wp2_with fail
 refine (uD _ _ _ _ _ _ hI hn hB).mono ?_;rintro e w1 ⟨r,rfl,hr,hx1⟩
 have hd:=Lib.hid (show decide (0≤r) = !L.all (isF 772 104) by
  rw [abm,abv,hr]
  simp)
 clear hr
 go_wp2_with fail
 go_ret
 exact ⟨by rw [← hd.out];rfl,hx1⟩
end Go.Proofs.YtmdahnkcnagkjaaGreat
