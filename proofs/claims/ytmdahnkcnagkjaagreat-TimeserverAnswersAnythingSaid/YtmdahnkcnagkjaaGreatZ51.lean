/- Lemmas of this claim, several texts joined. -/
import Derived.Deep.CutRange
import Derived.Deep.CutBlock
import Derived.Test.YtmdahnkcnagkjaaGreatZ49
set_option maxRecDepth 100000
open Go.Value renaming int -> Zz,slice -> Zy
open Go.IntKind renaming i64 -> Zx,u64 -> Zw,u32 -> Zv
open List renaming setIfInBounds_toArray -> q0q, set_cons_succ -> q1q, set_cons_zero -> q2q, take_succ_cons -> q8q, take_zero -> q9q, drop_succ_cons -> q10q, drop_zero -> q11q, take_nil -> q12q, drop_nil -> q13q, getElem_toArray -> q14q, getElem_cons_succ -> q15q, getElem_cons_zero -> q16q
set_option maxHeartbeats 8000000
set_option linter.unusedVariables false
set_option linter.unusedSimpArgs false
/- The document's layer 26: Answer. -/
namespace Go.Proofs.P9
open Go.RowKit Go.Sec Go.Oct Go.Pkt Go.Cook Go.Tsrv BigFrame
theorem CP {q:E7} (h:ew q=2):eA (aE q).1.plain=true:=by
 unfold ew at h;split at h
 ·exact absurd h Zd
 ·split at h
  ·exact absurd h Zd
  ·split at h
   ·rename_i h2;exact h2
   ·exact absurd h Zd
theorem rF (ar an ab:E8)(nr cr cn nb cb:Nat) (s:Srv) (paid now:Int) (r t:UInt64) (N:List E7) (q:E7)(w:World)(hI:Ib w ar nr s.ring) (hcr:nr<=cr) (hnr:nr<=1000000)
  (hN:Bsc w an N.length N) (hcn:N.length<=cn) (hnN:N.length<=1000000) (hb:Sl w ab nb q) (hcb:nb<=cb) (hnb:nb<=1000000) :
  Calls Tryz.prog 13 #[.agg #[Zy ar nr cr, Zz Zx s.str, Zz Zx s.ev, Zz Zx s.bu, .bool s.opn], .agg #[Zz Zx paid], Zy ab nb cb, Zz Zw (n64 r), Zz Zw (n64 t), Zz Zx now, Zy an N.length cn] w (ld (ml s paid now q r t N) w):=by
 have hck:=λ W H=>s9 ar nr cr s W H hcr hnr;have hal:=λ W=>uI paid s.ev s.bu now W;have hkd:=λ W H=>o7 ab nb cb q W H hcb hnb;have hrd:=λ W H=>lv ab nb cb q W H hcb hnb;obtain ⟨R,hR⟩:∃ R,ml s paid now q r t N=R:=⟨_,rfl⟩;rw [hR];unfold ml at hR
 go_enter Tryz.func13,Tryz.ntmps13
 go_wp2_with fail;refine br ?_;intro W hW;have hE:Ext w W:=by rw [hW];exact eX
 have hB0:Blk W w.heap.size 30 [Zy ar nr cr, Zz Zx s.str, Zz Zx s.ev, Zz Zx s.bu, .bool s.opn]:=by rw [hW];exact bK
 have hB1:Blk W (w.heap.size+1) 32 [Zz Zx paid]:=by rw [hW];exact bK
 have hB2:Blk W (w.heap.size+2) 32 [Zz Zx 0]:=by rw [hW];exact Blk.newAt _ _ _ _ Zs
 clear hW;replace hI:=hI.ext hE;replace hN:=hN.ext hE;replace hb:=hb.ext hE;(with_reducible refine (hck W hI).mono ?_);rintro e W2 ⟨rfl,hx⟩;replace hI:=hI.ext hx;replace hN:=hN.ext hx;replace hb:=hb.ext hx;replace hB0:=hB0.extB hx;replace hB1:=hB1.extB hx;replace hB2:=hB2.extB hx;replace hE:=hE.trans hx;clear hx hck;by_cases q1:cy s=0
 rotate_left
 ·have i1:(cy s != 0)=true:=by rw [aao];exact q1
  rw [aaj q1] at hR;replace hR:=FC hR;clear q1 hal hkd hrd;generalize cy s=ce at *
  go_wp2_with (first
   | (refine aa RB1 rfl _ _ rfl (w.heap.size+2) 0 rfl _ rfl 32 _ hB2 rfl Zs oC ?_;intro V hV hMV)
   | fail)
  refine aaa (bc Tryz.results13 RB1 _ _ (w.heap.size+2) 0 [Zz Zx 0] rfl hV.rd rfl _ _ rfl rfl) rfl ?_;rw [<- hR.out];exact ld.err _ _ _ (E9 hE (hMV.below Zo hE.size))
 have i1:(cy s != 0)=false:=by rw [aaf];exact q1
 rw [aae (by rw [q1];simp)] at hR;have hstr:0<=s.str/\s.str<=255:=by
  exact z49q79
 generalize dC paid s.ev s.bu now=A at *;have hrdRu:=Rd.sub hB0.rd 2 [Zz Zx s.ev, Zz Zx s.bu] rfl;have hR0:=hB1.rd
 go_wp2_with (first
  | (refine af RB1 rfl _ rfl (w.heap.size+1) 0 rfl _ hR0 rfl ?_)
  | (refine af BV rfl _ rfl w.heap.size 2 rfl _ hrdRu rfl ?_)
  | fail)
 clear i1 q1 hrdRu hR0;(with_reducible refine (hal _).mono ?_);rintro e W3 ⟨rfl,hx⟩;replace hI:=hI.ext hx;replace hN:=hN.ext hx;replace hb:=hb.ext hx;replace hB0:=hB0.extB hx;replace hB1:=hB1.extB hx;replace hB2:=hB2.extB hx;replace hE:=hE.trans hx;clear hx hal;by_cases q2:A.2=0
 rotate_left
 ·have i2:(A.2 != 0)=true:=by rw [aao];exact q2
  rw [aaj q2] at hR;replace hR:=FC hR;clear q2 hkd hrd
  go_wp2_with (first
   | ((refine ag RB1 rfl rfl _ _ rfl rfl rfl rfl (by simp [Act.put]) _ rfl Zs rfl oC ?_;intro x hz _);replace hB2:=hB2.ext x)
   | (refine aa RB1 rfl _ _ rfl (w.heap.size+2) 0 rfl _ rfl 32 _ hB2 rfl Zs oC ?_;intro V hV hMV)
   | fail)
  refine aaa (bc Tryz.results13 RB1 _ _ (w.heap.size+2) 0 [Zz Zx 0] rfl hV.rd rfl _ _ rfl rfl) rfl ?_;rw [<- hR.out];exact ld.err _ _ _ (E9 (hE.ext x) (hMV.below Zo (hE.ext x).size))
 have i2:(A.2 != 0)=false:=by rw [aaf];exact q2
 have hltB:=hB2.lt;rw [aae (by rw [q2];simp)] at hR;clear q2
 go_wp2_with (first
  | (refine ag RB1 rfl rfl _ _ rfl rfl rfl rfl (by simp [Act.put]) _ rfl Zs rfl oC ?_;intro x hz _)
  | fail)
 clear i2;have hx:Ext W3 (W3.ext x):=FE _ _;replace hI:=hI.ext hx;replace hN:=hN.ext hx;replace hb:=hb.ext hx;replace hB0:=hB0.extB hx;replace hB1:=hB1.extB hx;replace hB2:=hB2.extB hx;replace hE:=hE.trans hx;clear hx;obtain ⟨gp,hgp⟩:∃ g,g=W3.heap.size:=⟨_,rfl⟩;rw [<- hgp] at hz ⊢;have hlt3:w.heap.size+2<gp:=Zo;clear hgp;generalize W3.ext x=W4 at *;replace hR:=FC hR;go_wp2_with fail
 go_loopw [21] (λ v21 wr=>∃ i:Nat,i<=N.length/\v21 = Zz Zx i/\Hid (okN (N.take i)=true)/\Ext W4 wr) (λ v21 _=>N.length-(intOf v21).toNat)
 case atStart=>exact ⟨0,Zo,rfl,FC rfl,FD _⟩
 case round =>
  obtain ⟨i,hi,rfl,hm,hx⟩:=hrel;by_cases hlt:i<N.length
  ·obtain ⟨b0,o0,a',n',c',rfl,hb0,hcell,hc',hS⟩:=(hN.ext hx).at i hlt;have i0:(0:Int)<=(i:Int):=Zo;have i1:(i:Int)<(N.length:Int):=Zo;have hts:=FC (show N.take (i+1)=N.take i++[N[i]] from aas hlt);have hmem:=aaB hlt;have hXl:=hS.len;haveI:=hb0;by_cases h16:n'=16
   ·have i3:((n':Int) != 16)=false:=by rw [aaf];omega
    have hm2:=FC (show okN (N.take (i+1))=true by
     rw [hts.out];unfold okN;rw [List.all_append];have:=hm.out;unfold okN at this;rw [this];simp;omega)
    clear h16 hts hmem hXl hkd hrd;go_wp2_with fail;go_roundw
    case rel=>exact ⟨i+1,Zo,Zg,hm2,hx⟩
    case measure=>simp [intOf];omega
   ·have i3:((n':Int) != 16)=true:=by rw [aao];omega
    have hm2:(N.all λ n=>decide (n.length=16))=false:=by
     rw [abC];exact ⟨N[i],hmem,by simp;omega⟩
    replace hR:=hR.out;rw [aaj hm2] at hR;replace hR:=FC hR;clear h16 hts hmem hXl hm2 hkd hrd;replace hB2:=hB2.extB hx;replace hE:=hE.trans hx
    go_wp2_with (first
     | (refine aa RB1 rfl _ _ rfl (w.heap.size+2) 0 rfl _ rfl 32 _ hB2 rfl Zs oC ?_;intro V hV hMV)
     | fail)
    refine aaa (bc Tryz.results13 RB1 _ _ (w.heap.size+2) 0 [Zz Zx 0] rfl hV.rd rfl _ _ rfl rfl) rfl ?_;rw [<- hR.out];exact ld.err _ _ _ (E9 hE (hMV.below Zo hE.size))
  ·obtain rfl:i=N.length:=by omega
   have q3:(N.all λ n=>decide (n.length=16))=true:=by have:=hm.out;rwa [aah Zo] at this
   clear hm hi hlt;replace hR:=hR.out;rw [aae (by rw [q3];simp)] at hR;replace hI:=hI.ext hx;replace hN:=hN.ext hx;replace hb:=hb.ext hx;replace hB0:=hB0.extB hx;replace hB1:=hB1.extB hx;replace hB2:=hB2.extB hx;replace hz:=hz.extB hx;replace hE:=hE.trans hx;by_cases q4:N.length<9
   ·have i4:(N.length:Int)<9:=by omega
    rw [aaj q4] at hR;replace hR:=FC hR;clear q3 q4 hkd hrd
    go_wp2_with (first
     | (refine aa RB1 rfl _ _ rfl (w.heap.size+2) 0 rfl _ rfl 32 _ hB2 rfl Zs oC ?_;intro V hV hMV)
     | fail)
    refine aaa (bc Tryz.results13 RB1 _ _ (w.heap.size+2) 0 [Zz Zx 0] rfl hV.rd rfl _ _ rfl rfl) rfl ?_;rw [<- hR.out];exact ld.err _ _ _ (E9 hE (hMV.below Zo hE.size))
   have i4:¬ (N.length:Int)<9:=Zo;rw [aae q4] at hR;have hN16:∀ x∈N,x.length=16:=λ x hx=>by
    have:=aaw.1 q3 x hx;simpa using this
   clear q3 hx;unfold yx at hR;replace hR:=FC hR;go_wp2_with fail;(with_reducible refine (hkd _ hb).mono ?_);rintro e W6 ⟨rfl,hx⟩;replace hI:=hI.ext hx;replace hN:=hN.ext hx;replace hb:=hb.ext hx;replace hB0:=hB0.extB hx;replace hB1:=hB1.extB hx;replace hB2:=hB2.extB hx;replace hz:=hz.extB hx;replace hE:=hE.trans hx;clear hx hkd;have hk2:=λ h=>AY (q:=q) h;have hks:=λ h=>CP (q:=q) h;have hfs:=λ h f hf=>(gy (b:=q) h (f:=f) hf).2;have hkc:=oQ q;generalize aE q=P at *;generalize ew q=K at *;have hr1:=hB1.rd;haveI:=hB0.blt;haveI:=hB1.blt;haveI:=hB2.blt;haveI:=hz.blt;have v4:=hB0.cell? 4 rfl;have v1:=hB0.cell? 1 rfl;have hl2:=hB2.lt;rcases hkc with rfl|hkc
   ·replace hR:=hR.out;rw [aae Zd,aae Zd] at hR;clear hk2 hks hfs hstr hI hN hb hN16 hrd;replace hR:=FC hR;go_wp2_with fail;refine R2.ae 2 [[],[],[0,1],[0,1,2]] [] (λ h=>(h rfl).elim) Zk Zk Zk Zk Zk ?_;simp only [q8q,q9q,q10q,q11q,q12q,q13q];(refine R2.ao RB1 _ rfl (λ _=>rfl) (w.heap.size+1) 0 (λ _=>by simp [go_sem]) _ hr1 rfl ?_);(repeat (refine R2.av ?_;(try simp only [Act.put,q0q,q1q,q2q])));(refine R2.ef ?_;intro us x hx hf hd);have hx:Ext W6 (W6.ext x):=hx;replace hB2:=hB2.extB hx;replace hE:=hE.trans hx
    go_wp2_with (first
     | (refine aa RB1 rfl _ _ rfl (w.heap.size+2) 0 rfl _ rfl 32 _ hB2 rfl Zs oC ?_;intro U hU hMU)
     | fail)
    refine aaa (bc Tryz.results13 RB1 _ _ (w.heap.size+2) 0 [Zz Zx paid] rfl hU.rd rfl _ _ rfl rfl) rfl ?_;rw [<- hR.out];exact ⟨none,0,rfl,Sl.nil _ _,aad _,E9 hE (hMU.below Zo hE.size)⟩
   by_cases q5:K=1/\s.opn=false
   ·obtain ⟨rfl,q5⟩:=q5;replace hR:=hR.out;rw [aaj rfl,aae (by rw [q5];simp)] at hR;clear hk2 hks hfs hstr hI hN hb hN16 hrd hkc;replace hR:=FC hR;go_wp2_with fail;refine R2.ae 2 [[],[],[0,1],[0,1,2]] [] (λ h=>(h rfl).elim) Zk Zk Zk Zk Zk ?_;simp only [q8q,q9q,q10q,q11q,q12q,q13q];(refine R2.ao RB1 _ rfl (λ _=>rfl) (w.heap.size+1) 0 (λ _=>by simp [go_sem]) _ hr1 rfl ?_);(repeat (refine R2.av ?_;(try simp only [Act.put,q0q,q1q,q2q])));(refine R2.ef ?_;intro us x hx hf hd);have hx:Ext W6 (W6.ext x):=hx;replace hB2:=hB2.extB hx;replace hE:=hE.trans hx
    go_wp2_with (first
     | (refine aa RB1 rfl _ _ rfl (w.heap.size+2) 0 rfl _ rfl 32 _ hB2 rfl Zs oC ?_;intro U hU hMU)
     | fail)
    refine aaa (bc Tryz.results13 RB1 _ _ (w.heap.size+2) 0 [Zz Zx paid] rfl hU.rd rfl _ _ rfl rfl) rfl ?_;rw [<- hR.out];exact ⟨none,0,rfl,Sl.nil _ _,aad _,E9 hE (hMU.below Zo hE.size)⟩
   have i5:(K == 0)=false:=by rcases hkc with rfl|rfl <;> rfl
   have q6:K=1->s.opn=true:=λ h=>by
    cases h2:s.opn
    ·exact absurd ⟨h,h2⟩ q5
    ·rfl
   clear q5;replace q6:=FC q6;go_upto_region 15 with fail
   (try simp only [q14q,q15q,q16q,Act.put,q0q,q1q,q2q])
   go_cut [90] from 80 to 89 (λ v90 wx=>v90 = .bool false/\wx=W6)
   case first =>
    clear hR hk2 hks hfs hN16 hI hN hb hrd;rcases hkc with rfl|rfl
    ·replace q6:=q6.out rfl;go_wp2_with fail;go_meet;exact ⟨rfl,rfl⟩
    ·clear q6;go_wp2_with fail;go_meet;exact ⟨rfl,rfl⟩
   obtain ⟨rfl,rfl⟩:=hcut;replace hR:=hR.out;replace hR:=FC hR;go_wp2_with fail;(with_reducible refine (hrd _ hb).mono ?_);rintro e W7 ⟨p1,m1,rfl,⟨BP,hOP⟩,hx⟩;have hm1:=hOP.ib.2;have hP:=hOP.ib.1;replace hI:=hI.ext hx;replace hN:=hN.ext hx;replace hb:=hb.ext hx;replace hB0:=hB0.extB hx;replace hB1:=hB1.extB hx;replace hB2:=hB2.extB hx;replace hz:=hz.extB hx;replace hE:=hE.trans hx;clear hx hrd hOP hr1;haveI:=hB0.blt;have v1:=hB0.cell? 1 rfl;have hl2':=hB2.lt;have hlz':=hz.lt
   go_wp2_with (first
    | (refine ag aK rfl rfl _ _ rfl rfl rfl rfl (by simp [Act.put]) _ rfl Zs rfl oC ?_;intro x7 hQ _)
    | (refine af aJ rfl _ rfl W7.heap.size 0 rfl _ ((Rd.sub hQ.rd 0 [Zz Zx P.1.h.leap, Zz Zx P.1.h.ver, Zz Zx P.1.h.mode, Zz Zx P.1.h.strat, Zz Zx P.1.h.poll, Zz Zx P.1.h.prec, Zz Zv (n32 P.1.h.rd), Zz Zv (n32 P.1.h.rp), Zz Zv (n32 P.1.h.id), Zz Zw (n64 P.1.h.ref), Zz Zw (n64 P.1.h.org), Zz Zw (n64 P.1.h.rcv), Zz Zw (n64 P.1.h.tx)] rfl)) rfl ?_)
    | fail)
   have hx:Ext W7 (W7.ext x7):=FE _ _;replace hI:=hI.ext hx;replace hN:=hN.ext hx;replace hb:=hb.ext hx;replace hP:=hP.ext hx;replace hB0:=hB0.extB hx;replace hB1:=hB1.extB hx;replace hB2:=hB2.extB hx;replace hz:=hz.extB hx;replace hE:=hE.trans hx;clear hx;obtain ⟨gq,hgq⟩:∃ g,g=W7.heap.size:=⟨_,rfl⟩;rw [<- hgq] at hQ ⊢;have hltq:w.heap.size+2<gq/\gp<gq:=⟨by rw [hgq];exact hl2',by rw [hgq];exact hlz'⟩;clear hgq;generalize W7.ext x7=W8 at *;have hrp:=λ W=>lx P.1.h s.str r t W;obtain ⟨RH,hRH⟩:∃ x,iY P.1.h s.str r t=x:=⟨_,rfl⟩;rw [hRH] at hrp;replace hRH:=FC hRH;(with_reducible refine (hrp _).mono ?_);rintro e W9 ⟨rfl,hx⟩;clear hrp;replace hI:=hI.ext hx;replace hN:=hN.ext hx;replace hb:=hb.ext hx;replace hP:=hP.ext hx;replace hB0:=hB0.extB hx;replace hB1:=hB1.extB hx;replace hB2:=hB2.extB hx;replace hz:=hz.extB hx;replace hQ:=hQ.extB hx;replace hE:=hE.trans hx;clear hx;obtain ⟨al,hal⟩:∃ b,A.1.2=b:=⟨_,rfl⟩;replace hR:=hR.out;rw [hal] at hR ⊢;replace hR:=FC hR;clear hal;have hltq9:gq<W9.heap.size:=hQ.lt;go_upto_if 108 with (first
    | (refine ag aJ rfl rfl _ _ rfl rfl rfl rfl (by simp [Act.put]) _ rfl Zs rfl oC ?_;intro x9 hH _)
    | fail)
   (try simp only [q14q,q15q,q16q,Act.put,q0q,q1q,q2q]);have hx10:Ext W9 (W9.ext x9):=FE _ _;obtain ⟨gh,hgh⟩:∃ g,g=W9.heap.size:=⟨_,rfl⟩;rw [<- hgh] at hH ⊢;have hszh:W9.heap.size<=gh:=Nat.le_of_eq hgh.symm;have hltH:gq<gh:=by rw [hgh];exact hltq9
   clear hgh hltq9;generalize W9.ext x9=W10 at *
   go_cut [] from 107 to 113 (λ wx=>Ext W9 wx/\Blk wx gh 64 [Zz Zx (aI s P.1.h r t al).leap, Zz Zx (aI s P.1.h r t al).ver, Zz Zx (aI s P.1.h r t al).mode, Zz Zx (aI s P.1.h r t al).strat, Zz Zx (aI s P.1.h r t al).poll, Zz Zx (aI s P.1.h r t al).prec, Zz Zv (n32 (aI s P.1.h r t al).rd), Zz Zv (n32 (aI s P.1.h r t al).rp), Zz Zv (n32 (aI s P.1.h r t al).id), Zz Zw (n64 (aI s P.1.h r t al).ref), Zz Zw (n64 (aI s P.1.h r t al).org), Zz Zw (n64 (aI s P.1.h r t al).rcv), Zz Zw (n64 (aI s P.1.h r t al).tx)])
   case first =>
    replace hQ:=hQ.extB hx10;cases al
    ·have hkr:=λ W=>sR P.1.h r t W;have hth:=FC (show aI s P.1.h r t false=aY P.1.h r t kB by unfold aI;rw [aae Zs]);clear hR;generalize aY P.1.h r t kB=K at *
     go_wp2_with (first
      | (refine af aJ rfl _ rfl gq 0 rfl _ ((Rd.sub hQ.rd 0 [Zz Zx P.1.h.leap, Zz Zx P.1.h.ver, Zz Zx P.1.h.mode, Zz Zx P.1.h.strat, Zz Zx P.1.h.poll, Zz Zx P.1.h.prec, Zz Zv (n32 P.1.h.rd), Zz Zv (n32 P.1.h.rp), Zz Zv (n32 P.1.h.id), Zz Zw (n64 P.1.h.ref), Zz Zw (n64 P.1.h.org), Zz Zw (n64 P.1.h.rcv), Zz Zw (n64 P.1.h.tx)] rfl)) rfl ?_)
      | fail)
     (with_reducible refine (hkr _).mono ?_);rintro e W11 ⟨rfl,hx⟩;replace hH:=hH.extB hx
     go_wp2_with (first
      | (refine aa aJ rfl _ _ rfl gh 0 rfl _ rfl 64 _ hH rfl Zs oC ?_;intro V hV hMV)
      | fail)
     go_meet;rw [hth.out];exact ⟨E9 (hx10.trans hx) (hMV.below hszh (hx10.trans hx).size),hV⟩
    ·have hth:=FC (show aI s P.1.h r t true=RH.1 by unfold aI;rw [aaj rfl,hRH.out]);go_wp2_with fail;go_meet;rw [hth.out];exact ⟨hx10,hH⟩
   clear hH hx10 hRH;obtain ⟨hx,hH⟩:=hcut;replace hI:=hI.ext hx;replace hN:=hN.ext hx;replace hb:=hb.ext hx;replace hP:=hP.ext hx;replace hB0:=hB0.extB hx;replace hB1:=hB1.extB hx;replace hB2:=hB2.extB hx;replace hz:=hz.extB hx;replace hQ:=hQ.extB hx;replace hE:=hE.trans hx;clear hx;rcases hkc with rfl|rfl
   ·replace hR:=hR.out;rw [aaj rfl,aaj (q6.out rfl)] at hR;replace hR:=FC hR;clear hk2 hks hfs hN16 q6;clear hQ hN hb hP hI;obtain ⟨K,hK⟩:∃ K,aI s P.1.h r t al=K:=⟨_,rfl⟩;replace hR:=hR.out;rw [hK] at hR hH;clear hK;have hpl:∀ W,Calls Tryz.prog 31 #[.agg #[Zz Zx K.leap, Zz Zx K.ver, Zz Zx K.mode, Zz Zx K.strat, Zz Zx K.poll, Zz Zx K.prec, Zz Zv (n32 K.rd), Zz Zv (n32 K.rp), Zz Zv (n32 K.id), Zz Zw (n64 K.ref), Zz Zw (n64 K.org), Zz Zw (n64 K.rcv), Zz Zw (n64 K.tx), Zy none 0 0, Zy none 0 0, .bool false]] W (bD (cG ⟨K,[],[],false⟩).1.length (cG ⟨K,[],[],false⟩).1 (Zz Zx (cG ⟨K,[],[],false⟩).2) W):=λ W =>
     lf ⟨K,[],[],false⟩ none none 0 0 0 0 W (Ib.nil _ _) Zo (λ f hf=>by cases hf) (Ib.nil _ _)
    generalize cG ⟨K,[],[],false⟩=L at *;replace hR:=FC hR
    go_wp2_with (first
     | (refine af aJ rfl _ rfl gh 0 rfl _ hH.rd rfl ?_)
     | fail)
    (with_reducible refine (hpl _).mono ?_);rintro e W12 ⟨a5,c5,rfl,hS,hc5,hx⟩;replace hB2:=hB2.extB hx;replace hz:=hz.extB hx;replace hE:=hE.trans hx;clear hx hpl;have hrz:=hz.rd;haveI:=hz.blt;haveI:=hB2.blt;go_wp2_with fail;refine R2.ae 3 [[],[],[0],[0,1,2],[0,1,2,3]] [] (λ h=>(h rfl).elim) Zk Zk Zk Zk Zk ?_;simp only [q8q,q9q,q10q,q11q,q12q,q13q];(repeat (refine R2.av ?_;(try simp only [Act.put,q0q,q1q,q2q])));(refine R2.ao RB1 _ rfl (λ _=>rfl) gp 0 (λ _=>by simp [go_sem]) _ hrz rfl ?_);(repeat (refine R2.av ?_;(try simp only [Act.put,q0q,q1q,q2q])));(refine R2.ef ?_;intro us x hx hf hd);have hx:Ext W12 (W12.ext x):=hx;replace hB2:=hB2.extB hx;replace hE:=hE.trans hx;replace hS:=hS.ext hx
    go_wp2_with (first
     | (refine aa RB1 rfl _ _ rfl (w.heap.size+2) 0 rfl _ rfl 32 _ hB2 rfl Zs oC ?_;intro U hU hMU)
     | fail)
    refine aaa (bc Tryz.results13 RB1 _ _ (w.heap.size+2) 0 [Zz Zx A.1.1] rfl hU.rd rfl _ _ rfl rfl) rfl ?_;rw [<- hR.out];exact ⟨_,_,rfl,hS.mut hB2 Zs hMU,hc5,E9 hE (hMU.below Zo hE.size)⟩
   ·replace hR:=hR.out;rw [aae Zd,aaj rfl] at hR;replace hR:=FC hR;clear q6;obtain ⟨h0,h3,h10⟩:=hk2 (by first|rfl|trivial);have hsh:=hks (by first|rfl|trivial);have hfl:∀ f∈P.1.plain,f.2.length<=1000000:=λ f hf=>aal (hfs h0 f hf) Zo;clear hk2 hks hfs h0;obtain ⟨fc,e1⟩:∃ f,P.1.plain[1]?=some f:=⟨_,List.getElem?_eq_getElem Zo⟩;have hck:pY P.1=fc.2:=by unfold pY;rw [FF,e1];rfl
    obtain ⟨b1,o1,gc,cc,rfl,hb1,c0,c1,cs,cc1⟩:=hP.at 1 Zo _ e1;have c1:wc.cell? ⟨b1,o1+2+1,none⟩=some (Zy gc fc.2.length cc):=by simpa using c1
    obtain ⟨bn,on,gn,mn,dn,rfl,hbn,hcn0,hdn,hSn⟩:=hN.at 0 Zo;replace hcn0:wc.cell? ⟨bn,on,none⟩=some (Zy gn mn dn):=by simpa using hcn0
    have hg0:N.getD 0 []=N[0]:=by rw [FF,List.getElem?_eq_getElem Zo,abq]
    have hN0:N[0].length=16:=hN16 _ (aaB _);have hmn:=hSn.len;have hop:=λ W H1 H2=>uy ar gc nr cr fc.2.length cc s.ring fc.2 W H1 hcr hnr H2 cc1;replace hR:=hR.out;unfold jW at hR;rw [hck,hg0] at hR;generalize N[0]=Y0 at *;generalize cW s.ring fc.2=o at *;have hpo:=λ a c W H1 H2 H3=>pN a ab o.up.length c nb cb o.up q W H1 H2 H3 hcb hnb;replace hR:=FC hR;clear hck e1 c0 hg0;have hrR:=Rd.sub hB0.rd 0 [Zy ar nr cr] rfl;have n1:(1:Int)<(P.1.plain.length:Int):=Zo;haveI:BlkLt b1 wc:=hb1;haveI:=hQ.blt;haveI:=hB0.blt;have v13:=hQ.cell? 13 rfl;go_wp2_with fail;refine R2.ae 14 [[],[0],[],[2],[2,3],[2,3,4],[2,3,4,5],[0,1,2,3,4,5,6],[0,1,2,3,4,5,6,7],[0,1,2,3,4,5,6,7,8],[0,1,2,3,4,5,6,7,8],[0,1,2,3,4,5,6,7,8],[0,1,2,3,4,5,6,7,8],[],[0,1,2,3,4,5,6,7,8,9,13],[0,1,2,3,4,5,6,7,8,9,10,13,14],[0,1,2,3,4,5,6,7,8,9,10,11,13,14,15],[0,1,2,3,4,5,6,7,8,9,10,11,12,13,14,15,16]] [10,11,12] (λ _=>by intro c a d v w h;cases d <;> exact h) Zk Zk Zk Zk Zk ?_;simp only [q8q,q9q,q10q,q11q,q12q,q13q];(repeat (refine R2.av ?_;(try simp only [Act.put,q0q,q1q,q2q])));(refine R2.ao RR1 _ rfl (λ _=>rfl) w.heap.size 0 (λ _=>by simp [go_sem]) _ hrR rfl ?_);(repeat (refine R2.av ?_;(try simp only [Act.put,q0q,q1q,q2q])));(refine R2.ai (Bk o) (wJ o) (λ p w w' h hx=>h.ext hx) (λ us w' hx hf=>⟨rfl,?_⟩) ?_;(unfold gives;simp [go_sem,execOp];exact wb (hop _ (hI.ext hx) (cs.ext hx))));(repeat (refine R2.av ?_;(try simp only [Act.put,q0q,q1q,q2q])));(refine R2.cJ _ ([Zy none 0 0, Zy none 0 0]) Tryz.zeroValue55 rfl rfl rfl ?_);(refine R2.ef ?_;intro us x hx hf hd);obtain ⟨hO,g8,eg,hgW,hB8⟩:=hf;simp only [q14q,q15q,q16q];rw [eg];clear hd eg hop hrR cs c1 v13;generalize us 7=p at *;have hx:Ext wc (wc.ext x):=hx;generalize wc.ext x=W12 at *;haveI:=hB8.blt;obtain ⟨⟨hu,hcu⟩,hdd,hcd⟩:=hO;have hltH2:=hH.lt;go_upto_if 138 with (first
     | ((refine aa xu rfl _ _ rfl g8 0 rfl _ rfl 55 _ hB8 rfl Zs oC ?_;intro V hV hMV);haveI:=Blk.blt hV;have v0:=Blk.cell? hV 0 rfl)
     | fail)
    have hV:Blk V g8 55 [.slice (p 0).1 o.up.length (p 0).2, .slice (p 1).1 o.down.length (p 1).2]:=hV;have hEV:Ext wc V:=E9 hx (hMV.below hgW hx.size);replace hu:=hu.mut hB8 Zs hMV;replace hdd:=hdd.mut hB8 Zs hMV;replace hI:=hI.ext hEV;replace hP:=hP.ext hEV;replace hN:=hN.ext hEV;replace hb:=hb.ext hEV;replace hSn:=hSn.ext hEV;replace hB0:=hB0.extB hEV;replace hB1:=hB1.extB hEV;replace hB2:=hB2.extB hEV;replace hz:=hz.extB hEV;replace hQ:=hQ.extB hEV;replace hH:=hH.extB hEV;replace hcn0:=(hEV.cell (p:=⟨bn,on,none⟩) hbn.lt).trans hcn0;replace hbn:BlkLt bn V:=⟨aai hbn.lt hEV.size⟩;replace hE:=hE.trans hEV;clear hMV hB8 hx hEV;(try simp only [q14q,q15q,q16q,Act.put,q0q,q1q,q2q])
    go_cut [20] from 138 to 145 (λ v20 wx=>∃ er:Int,v20 = Zz Zx er/\(er=0 ↔ (o.err=0/\(cV o.up q).2=0))/\Ext V wx)
    case first =>
     clear hR;by_cases q1:o.err=0
     ·have i1:(o.err == 0)=true:=by rw [aa5];exact q1
      haveI:=hV.blt;have v0:=hV.cell? 0 rfl;replace q1:=FC q1;go_wp2_with fail;(with_reducible refine (hpo _ _ _ hu hcu hb).mono ?_);rintro e W4 ⟨a5,n5,c5,a6,n6,c6,rfl, -, -, -, -,hx4⟩;go_wp2_with fail;go_meet;exact ⟨_,rfl,⟨λ h=>⟨q1.out,h⟩,λ h=>h.2⟩,hx4⟩
     ·have i1:(o.err == 0)=false:=by rw [aar];exact q1
      replace q1:=FC q1;go_wp2_with fail;go_meet;exact ⟨_,rfl,⟨λ h=>absurd h q1.out,λ h=>absurd h.1 q1.out⟩,FD _⟩
    obtain ⟨er,rfl,her,hx4⟩:=hcut;generalize wc=W4 at *;replace hu:=hu.ext hx4;replace hdd:=hdd.ext hx4;replace hV:=hV.extB hx4;replace hI:=hI.ext hx4;replace hP:=hP.ext hx4;replace hN:=hN.ext hx4;replace hb:=hb.ext hx4;replace hSn:=hSn.ext hx4;replace hB0:=hB0.extB hx4;replace hB1:=hB1.extB hx4;replace hB2:=hB2.extB hx4;replace hz:=hz.extB hx4;replace hQ:=hQ.extB hx4;replace hH:=hH.extB hx4;replace hcn0:=(hx4.cell (p:=⟨bn,on,none⟩) hbn.lt).trans hcn0;replace hbn:BlkLt bn W4:=⟨aai hbn.lt hx4.size⟩;replace hE:=hE.trans hx4;clear hx4 hpo;by_cases q2:er=0
    rotate_left
    ·have i3:(er != 0)=true:=by rw [aao];exact q2
     have q1:o.err≠0\/(cV o.up q).2≠0:=by
      by_cases h:o.err=0
      ·exact .inr λ h2=>q2 (her.2 ⟨h,h2⟩)
      ·exact .inl h
     replace hR:=hR.out;rw [aaj q1,aae Zs] at hR;replace hR:=FC hR;clear q1 q2 her;go_wp2_with fail;have hrf:=λ W=>sB P.1.h r t W;have hP1:=hP.take 1 Zo;have hba:=λ W H=>lf (pP P.1 r t) (some ⟨b1,o1,none⟩) none 1 m1 0 0 W H Zo (λ f hf=>hfl f (aaN hf)) (Ib.nil _ _);obtain ⟨L,hL⟩:∃ L,cG (pP P.1 r t)=L:=⟨_,rfl⟩;replace hR:=hR.out;rw [hL] at hba hR;have hba:∀ W,Ib W (some ⟨b1,o1,none⟩) 1 (P.1.plain.take 1)->Calls Tryz.prog 31 #[.agg #[Zz Zx (aY P.1.h r t bw).leap, Zz Zx (aY P.1.h r t bw).ver, Zz Zx (aY P.1.h r t bw).mode, Zz Zx (aY P.1.h r t bw).strat, Zz Zx (aY P.1.h r t bw).poll, Zz Zx (aY P.1.h r t bw).prec, Zz Zv (n32 (aY P.1.h r t bw).rd), Zz Zv (n32 (aY P.1.h r t bw).rp), Zz Zv (n32 (aY P.1.h r t bw).id), Zz Zw (n64 (aY P.1.h r t bw).ref), Zz Zw (n64 (aY P.1.h r t bw).org), Zz Zw (n64 (aY P.1.h r t bw).rcv), Zz Zw (n64 (aY P.1.h r t bw).tx), Zy (some ⟨b1,o1,none⟩) 1 m1, Zy none 0 0, .bool false]] W (bD L.1.length L.1 (Zz Zx L.2) W):=hba;generalize aY P.1.h r t bw=K at *;replace hR:=FC hR;clear hL;haveI:=hQ.blt;have v13:=hQ.cell? 13 rfl;have m1I:(1:Int)<=(m1:Int):=Zo;refine R2.ae 13 [[],[0],[],[],[0,1,2,3],[],[5],[5,6],[0,1,2,3,4,5,6,7],[0,1,2,3,4,5,6,7,8],[0,1,2,3,4,5,6,7,8,9],[0,1,2,3,4,5,6,7,8,9,10],[0,1,2,3,4,5,6,7,8,9,10],[0,1,2,3,4,5,6,7,8,9,10,11],[0,1,2,3,4,5,6,7,8,9,10,11,12,13]] [12] (λ _=>by intro c a d v w h;cases d <;> exact h) Zk Zk Zk Zk Zk ?_;simp only [q8q,q9q,q10q,q11q,q12q,q13q];(repeat (refine R2.av ?_;(try simp only [Act.put,q0q,q1q,q2q])));(refine R2.ao aJ _ rfl (λ _=>rfl) gq 0 (λ _=>by simp [go_sem]) _ ((Rd.sub hQ.rd 0 [Zz Zx P.1.h.leap, Zz Zx P.1.h.ver, Zz Zx P.1.h.mode, Zz Zx P.1.h.strat, Zz Zx P.1.h.poll, Zz Zx P.1.h.prec, Zz Zv (n32 P.1.h.rd), Zz Zv (n32 P.1.h.rp), Zz Zv (n32 P.1.h.id), Zz Zw (n64 P.1.h.ref), Zz Zw (n64 P.1.h.org), Zz Zw (n64 P.1.h.rcv), Zz Zw (n64 P.1.h.tx)] rfl)) rfl ?_);(repeat (refine R2.av ?_;(try simp only [Act.put,q0q,q1q,q2q])));(refine R2.ai (λ _ => .agg #[Zz Zx K.leap, Zz Zx K.ver, Zz Zx K.mode, Zz Zx K.strat, Zz Zx K.poll, Zz Zx K.prec, Zz Zv (n32 K.rd), Zz Zv (n32 K.rp), Zz Zv (n32 K.id), Zz Zw (n64 K.ref), Zz Zw (n64 K.org), Zz Zw (n64 K.rcv), Zz Zw (n64 K.tx)]) (λ _ _=>True) (λ _ _ _ _ _=>trivial) (λ us w' hx hf=>⟨rfl,?_⟩) ?_;(unfold gives;simp [go_sem,execOp];refine (hrf _).mono ?_;rintro e w1 ⟨rfl,hx1⟩;first|exact ⟨rfl,hx1⟩|simpa using hx1));(repeat (refine R2.av ?_;(try simp only [Act.put,q0q,q1q,q2q])));(refine R2.ai (λ p => .tuple #[.slice (p 0).1 L.1.length (p 0).2, Zz Zx L.2]) (λ p w''=>Sl w'' (p 0).1 L.1.length (L.1)/\(L.1.length)<=(p 0).2) (λ p w w' h hx=>⟨h.1.ext hx,h.2⟩) (λ us w' hx hf=>⟨rfl,?_⟩) ?_;(unfold gives;simp [go_sem,execOp];exact dK (hba _ (hP1.ext hx))));(repeat (refine R2.av ?_;(try simp only [Act.put,q0q,q1q,q2q])));(refine R2.ef ?_;intro us x hx hf hd);obtain ⟨hS,hc5⟩:=hf;generalize (us 9 0).1=a5 at *;generalize (us 9 0).2=c5 at *;replace hB1:=hB1.extB hx;replace hB2:=hB2.extB hx;replace hE:=hE.trans hx;have hr1:=hB1.rd;haveI:=hB1.blt;haveI:=hB2.blt;clear v13 hrf hba hP1 hx hd;go_wp2_with fail;refine cU ?_;intro W14 hW14;rw [<- hW14] at hS hB1 hB2 hE hr1;haveI:=hB1.blt;haveI:=hB2.blt;clear hW14;refine R2.ae 3 [[],[],[0],[0,1,2],[0,1,2,3]] [] (λ h=>(h rfl).elim) Zk Zk Zk Zk Zk ?_;simp only [q8q,q9q,q10q,q11q,q12q,q13q];(repeat (refine R2.av ?_;(try simp only [Act.put,q0q,q1q,q2q])));(refine R2.ao RB1 _ rfl (λ _=>rfl) (w.heap.size+1) 0 (λ _=>by simp [go_sem]) _ hr1 rfl ?_);(repeat (refine R2.av ?_;(try simp only [Act.put,q0q,q1q,q2q])));(refine R2.ef ?_;intro us x hx hf hd);have hx:Ext W14 (W14.ext x):=hx;replace hB2:=hB2.extB hx;replace hE:=hE.trans hx;replace hS:=hS.ext hx
     go_wp2_with (first
      | (refine aa RB1 rfl _ _ rfl (w.heap.size+2) 0 rfl _ rfl 32 _ hB2 rfl Zs oC ?_;intro U hU hMU)
      | fail)
     refine aaa (bc Tryz.results13 RB1 _ _ (w.heap.size+2) 0 [Zz Zx paid] rfl hU.rd rfl _ _ rfl rfl) rfl ?_;rw [<- hR.out];exact ⟨_,_,rfl,hS.mut hB2 Zs hMU,hc5,E9 hE (hMU.below Zo hE.size)⟩
    have i3:(er != 0)=false:=by rw [aaf];exact q2
    obtain ⟨q1,q3⟩:=her.1 q2;replace hR:=hR.out;rw [aae (by rw [q1,q3];simp),aaj rfl] at hR;replace hR:=FC hR;clear q1 q2 q3 her;obtain ⟨m,hm⟩:∃ m,P.1.plain.length=m+2:=⟨P.1.plain.length-2,Zo⟩;have hfo:=λ W H=>oX (some ⟨b1,o1,none⟩) P.1.plain.length m1 P.1.plain W H hm1 Zo;rw [hsh] at hfo;obtain ⟨fv,hfv⟩:∃ v,re P.1.plain=v:=⟨_,rfl⟩;rw [hfv] at hfo;have hfv:Hid (fv=(m:Int)-1):=FC (by rw [<- hfv];unfold re;rw [hsh];simp [hm];omega);obtain ⟨cnt,hcnt⟩:∃ k,k=(if al=true then m else 0):=⟨_,rfl⟩;have hsec:(pS s P.1 o r t al N).secret=gF s o N cnt:=by
     rw [hcnt];cases al
     ·rfl
     ·show gF s o N (P.1.plain.length-2)=_;rw [aaj rfl,hm];rfl
    obtain ⟨L,hL⟩:∃ L,cz o.down (pS s P.1 o r t al N) Y0=L:=⟨_,rfl⟩;replace hR:=hR.out;rw [hL] at hR;replace hR:=FC hR;have hprF:∀ (ak a2:E8)(nk ck n2 c2:Nat) (W:World),Sl W ak nk o.down->nk<=ck->Sl W gn mn Y0->Ib W (some ⟨b1,o1,none⟩) 1 (P.1.plain.take 1)->Ib W a2 n2 (gF s o N cnt)->n2<=1000000->Calls Tryz.prog 51 #[Zy ak nk ck, .agg #[Zz Zx (aI s P.1.h r t al).leap, Zz Zx (aI s P.1.h r t al).ver, Zz Zx (aI s P.1.h r t al).mode, Zz Zx (aI s P.1.h r t al).strat, Zz Zx (aI s P.1.h r t al).poll, Zz Zx (aI s P.1.h r t al).prec, Zz Zv (n32 (aI s P.1.h r t al).rd), Zz Zv (n32 (aI s P.1.h r t al).rp), Zz Zv (n32 (aI s P.1.h r t al).id), Zz Zw (n64 (aI s P.1.h r t al).ref), Zz Zw (n64 (aI s P.1.h r t al).org), Zz Zw (n64 (aI s P.1.h r t al).rcv), Zz Zw (n64 (aI s P.1.h r t al).tx), Zy (some ⟨b1,o1,none⟩) 1 m1, Zy a2 n2 c2, .bool false], Zy gn mn dn] W (bD L.1.length L.1 (Zz Zx L.2) W):=λ ak a2 nk ck n2 c2 W H1 H2 H3 H4 H5 H6=>by
     have:=ma ak gn (some ⟨b1,o1,none⟩) a2 nk ck mn dn 1 m1 n2 c2 (pS s P.1 o r t al N) o.down Y0 W H1 H2 H3 hdn Zo H4 Zo (λ f hf=>hfl f (aaN hf)) (by rw [hsec];exact H5) H6 (by rw [hsec];exact pI _ _ _ _);rw [hL] at this;exact this
    clear hsec hL hsh;have hm8:m<=8/\1<=m:=Zo;clear hm;replace hcnt:=FC hcnt;generalize aI s P.1.h r t al=K at *;have hP1:=hP.take 1 Zo;haveI:=hQ.blt;have v13:=hQ.cell? 13 rfl;have m1I:(1:Int)<=(m1:Int):=Zo;go_wp2_with fail;refine R2.ae 6 [[],[],[1],[1,2],[0,1,2,3],[],[0,1,2,3,4,5]] [] (λ h=>(h rfl).elim) Zk Zk Zk Zk Zk ?_;simp only [q8q,q9q,q10q,q11q,q12q,q13q];(refine R2.ao aJ _ rfl (λ _=>rfl) gh 0 (λ _=>by simp [go_sem]) _ hH.rd rfl ?_);(repeat (refine R2.av ?_;(try simp only [Act.put,q0q,q1q,q2q])));(refine R2.cJ _ ([Zz Zx 0, Zz Zx 0, Zz Zx 0, Zz Zx 0, Zz Zx 0, Zz Zx 0, Zz Zv 0, Zz Zv 0, Zz Zv 0, Zz Zw 0, Zz Zw 0, Zz Zw 0, Zz Zw 0, Zy none 0 0, Zy none 0 0, .bool false]) Tryz.zeroValue67 rfl rfl rfl ?_);(refine R2.ef ?_;intro us x hx hf hd);obtain ⟨g11,eg,hgW,hB11⟩:=hf;(try simp only [q14q,q15q,q16q]);rw [eg];clear eg hd v13;have hx:Ext W4 (W4.ext x):=hx;generalize W4.ext x=W5 at *;haveI:=hB11.blt;go_upto_region 31 with (first
     | (refine aa aK rfl _ _ rfl g11 0 rfl _ rfl 67 _ hB11 rfl Zs oC ?_;intro U hU hMU)
     | fail)
    have hU:Blk U g11 67 [Zz Zx K.leap, Zz Zx K.ver, Zz Zx K.mode, Zz Zx K.strat, Zz Zx K.poll, Zz Zx K.prec, Zz Zv (n32 K.rd), Zz Zv (n32 K.rp), Zz Zv (n32 K.id), Zz Zw (n64 K.ref), Zz Zw (n64 K.org), Zz Zw (n64 K.rcv), Zz Zw (n64 K.tx), Zy (some ⟨b1,o1,none⟩) 1 m1, Zy none 0 0, .bool false]:=hU;have hEU:Ext W4 U:=E9 hx (hMU.below hgW hx.size);clear hB11 hMU hx;have hQU:=hQ.extB hEU;have hPU:=hP.ext hEU;haveI:=hQU.blt;have v13:=hQU.cell? 13 rfl;go_wp2_with fail;(with_reducible refine (hfo _ hPU).mono ?_);rintro e U2 ⟨rfl,hx⟩;replace hU:=hU.extB hx;replace hEU:=hEU.trans hx;clear hx hPU hQU v13 hfo hQ hH;go_upto_block 2 with fail
    (try simp only [q14q,q15q,q16q,Act.put,q0q,q1q,q2q])
    go_cut [37,38,39] from 174 to 201 (λ _ _ _ wx=>∃ (la:E8)(lc:Nat),Blk wx g11 67 [Zz Zx K.leap, Zz Zx K.ver, Zz Zx K.mode, Zz Zx K.strat, Zz Zx K.poll, Zz Zx K.prec, Zz Zv (n32 K.rd), Zz Zv (n32 K.rp), Zz Zv (n32 K.id), Zz Zw (n64 K.ref), Zz Zw (n64 K.org), Zz Zw (n64 K.rcv), Zz Zw (n64 K.tx), Zy (some ⟨b1,o1,none⟩) 1 m1, Zy la cnt lc, .bool false]/\Ib wx la cnt (gF s o N cnt)/\Ext W4 wx)
    case first =>
     go_wp2_with fail
     go_loopw [37,38,39] (λ v37 _ _ wr=>∃ (k:Nat) (la:E8)(lc:Nat),k<=cnt/\v37 = Zz Zx k/\Blk wr g11 67 [Zz Zx K.leap, Zz Zx K.ver, Zz Zx K.mode, Zz Zx K.strat, Zz Zx K.poll, Zz Zx K.prec, Zz Zv (n32 K.rd), Zz Zv (n32 K.rp), Zz Zv (n32 K.id), Zz Zw (n64 K.ref), Zz Zw (n64 K.org), Zz Zw (n64 K.rcv), Zz Zw (n64 K.tx), Zy (some ⟨b1,o1,none⟩) 1 m1, Zy la k lc, .bool false]/\cf 79 wr g11 la k lc (gF s o N k)/\Ext W4 wr) (λ v37 _ _ _=>cnt-(intOf v37).toNat)
     case atStart=>exact ⟨0,none,0,aak _,rfl,hU,cf.nil _ _ _,hEU⟩
     case round =>
      clear hU hEU hb hP hB1 hB2 hz hE hSn hcn0 hprF hP1;obtain ⟨k,la,lc,hk,rfl,hU,hO,hX⟩:=hrel;by_cases hlt:k<cnt
      ·have hkm:al=true/\k<m:=by
        replace hcnt:=hcnt.out;cases al
        ·rw [aae Zs] at hcnt;omega
        ·rw [aaj rfl] at hcnt;exact ⟨rfl,Zo⟩
       obtain ⟨hal,hkm⟩:=hkm;have i1:(k:Int)<=fv:=by have:=hfv.out;omega
       have hk1:1+k<N.length:=Zo;obtain ⟨_,_,gk,mk,dk,hak,hbk,hck,hdk,hSk⟩:=(hN.ext hX).at (1+k) hk1;cases hak;have hgd:N.getD (1+k) []=N[1+k]:=by rw [FF,List.getElem?_eq_getElem hk1,abq]
       have hts:=FC (qY s o N k);rw [hgd] at hts;generalize N[1+k]=Y at *;have j1:(0:Int)<=1+(k:Int):=Zo;have j2:1+(k:Int)<(N.length:Int):=Zo;have j3:(1+(k:Int)).toNat=1+k:=Zo;have hB0x:=hB0.extB hX;have hVx:=hV.extB hX;haveI:=hbk;haveI:=hB0x.blt;have hrR:=Rd.sub hB0x.rd 0 [Zy ar nr cr] rfl;have hmk:=λ W' H1 H2 H3 H4=>nE ar (p 0).1 (p 1).1 gk nr cr o.up.length (p 0).2 o.down.length (p 1).2 mk dk s.ring o.algo o.up o.down Y W' H1 hcr hnr H2 hcu H3 hcd H4 hdk;have hI1:=hI.ext hX;have hu1:=hu.ext hX;have hd1:=hdd.ext hX;generalize bV s.ring o.algo o.up o.down Y=M at *;subst hal;go_wp2_with fail;refine R2.ae 13 [[],[0],[],[],[],[],[5],[4,5,6],[4,5,6,7],[0,1,2,3,4,5,6,7,8],[0,1,2,3,4,5,6,7,8,9],[0,1,2,3,4,5,6,7,8,9,10],[0,1,2,3,4,5,6,7,8,9,10],[0,1,2,3,4,5,6,7,8,9,10,11],[0,1,2,3,4,5,6,7,8,9,10,11,12,13]] [11,12] (λ _=>by intro c a d v w h;cases d <;> exact h) Zk Zk Zk Zk Zk ?_;simp only [q8q,q9q,q10q,q11q,q12q,q13q];(repeat (refine R2.av ?_;(try simp only [Act.put,q0q,q1q,q2q])));(refine R2.ao RR1 _ rfl (λ _=>rfl) w.heap.size 0 (λ _=>by simp [go_sem]) _ hrR rfl ?_);(repeat (refine R2.av ?_;(try simp only [Act.put,q0q,q1q,q2q])));(refine R2.ao xu _ rfl (λ _=>rfl) g8 0 (λ _=>by simp [go_sem]) _ hVx.rd rfl ?_);(repeat (refine R2.av ?_;(try simp only [Act.put,q0q,q1q,q2q])));(refine R2.ai (λ p => .tuple #[.slice (p 0).1 M.1.length (p 0).2, Zz Zx M.2]) (λ p w''=>Own w'' 0 (p 0).1 M.1.length (p 0).2 M.1) (λ p w w' h hx=>h.ext hx) (λ us w' hx hf=>⟨rfl,?_⟩) ?_;(unfold gives;simp [go_sem,execOp];exact kX (hmk _ (hI1.ext hx) (hu1.ext hx) (hd1.ext hx) (hSk.ext hx))));(repeat (refine R2.av ?_;(try simp only [Act.put,q0q,q1q,q2q])));(refine R2.ef ?_;intro us x hx hf hd);have hx:Ext wr (wr.ext x):=hx;replace hO:=hO.ext hx;replace hU:=hU.extB hx;replace hX:=hX.trans hx;generalize (us 9 0).1=ax at *;generalize (us 9 0).2=cx at *;clear hx hd hrR hmk hck hVx hB0x hI1 hu1 hd1 hSk;generalize wr.ext x=wx at *;haveI:=hU.blt;have u14:=hU.cell? 14 rfl
       go_wp2_with (first
        | (at_builtin;refine db VF rfl _ _ rfl g11 la k lc (gF s o N k) rfl wx.heap.size 1 516 ax M.1.length cx M.1 rfl (hO.ext (FA _ _)) (Blk.new wx #[Zz Zx 516, Zy ax M.1.length cx] 79).rd (hf.ext (FA _ _)).sl hf.le.1 (Own.inT (hf.ext (FA _ _)) Zd) Zo (by have:=(FA wx (.cells #[Zz Zx 516, Zy ax M.1.length cx] 79)).size;have:=hU.lt;omega) ?_;intro sa sc w7 hO7 hg7 hb7;have hUx:=Blk.extB hU (FA wx (.cells #[Zz Zx 516, Zy ax M.1.length cx] 79));have hU7:=Blk.grown hUx hg7 (cf.blk (hO.ext (FA wx (.cells #[Zz Zx 516, Zy ax M.1.length cx] 79))) hUx Zd);haveI:=Blk.blt hU7;have q14:=Blk.cell? hU7 14 rfl;have z14:=Blk.free hU7 14)
        | fail)
       go_roundw
       case rel =>
        have hMk:Mut g11 w7 (w7.setCell ⟨g11,14,none⟩ (Zy sa (k+1) sc)):=(Mut.refl _ _).setCell 14 _;have hX7:Ext W4 w7:=E9 (hX.trans (FA _ _)) (hb7.mono hgW);exact ⟨k+1,sa,sc,Zo,Zg,hU7.set 14 _,(by rw [hts.out];exact hO7.mut hU7 Zd Zs hMk),E9 hX7 (hMk.below hgW hX7.size)⟩
       case measure=>simp [intOf];omega
      ·obtain rfl:k=cnt:=by omega
       have hIb:=hO.ib.1;clear hk hlt;cases al
       ·have i1:(k:Int)<=fv:=by
         have:=hfv.out;replace hcnt:=hcnt.out;rw [aae Zs] at hcnt;omega
        go_wp2_with fail;go_meet;exact ⟨la,lc,hU,hIb,hX⟩
       ·have i1:¬ (k:Int)<=fv:=by
         have:=hfv.out;replace hcnt:=hcnt.out;rw [aaj rfl] at hcnt;omega
        go_wp2_with fail;go_meet;exact ⟨la,lc,hU,hIb,hX⟩
    clear hU hEU;obtain ⟨la,lc,hU,hIb,hX⟩:=hcut;have hVx:=hV.extB hX;have hdx:=hdd.ext hX;have hSx:=hSn.ext hX;have hPx:=hP1.ext hX;have hzx:=hz.extB hX;have hB2x:=hB2.extB hX;have hEx:=hE.trans hX;have hcnx:=(hX.cell (p:=⟨bn,on,none⟩) hbn.lt).trans hcn0;have hbnx:BlkLt bn wc:=⟨aai hbn.lt hX.size⟩;have n0:0<N.length:=Zo;have hk9:cnt<=1000000:=by
     rw [hcnt.out];split <;> omega
    clear hcnt hfv hV hdd hSn hP1 hz hB2 hE hcn0 hb hP hI hN hB0 hB1;haveI:=hVx.blt;have v1:=hVx.cell? 1 rfl;go_wp2_with fail;refine R2.ae 10 [[],[0],[],[],[3],[3,4],[0,1,2,3,4,5],[0,1,2,3,4,5,6],[0,1,2,3,4,5,6,7],[0,1,2,3,4,5,6,7],[0,1,2,3,4,5,6,7,8],[0,1,2,3,4,5,6,7,8,9,10]] [9] (λ _=>by intro c a d v w h;cases d <;> exact h) Zk Zk Zk Zk Zk ?_;simp only [q8q,q9q,q10q,q11q,q12q,q13q];(repeat (refine R2.av ?_;(try simp only [Act.put,q0q,q1q,q2q])));(refine R2.ao aK _ rfl (λ _=>rfl) g11 0 (λ _=>by simp [go_sem]) _ hU.rd rfl ?_);(repeat (refine R2.av ?_;(try simp only [Act.put,q0q,q1q,q2q])));(refine R2.ai (λ p => .tuple #[.slice (p 0).1 L.1.length (p 0).2, Zz Zx L.2]) (λ p w''=>Sl w'' (p 0).1 L.1.length (L.1)/\(L.1.length)<=(p 0).2) (λ p w w' h hx=>⟨h.1.ext hx,h.2⟩) (λ us w' hx hf=>⟨rfl,?_⟩) ?_;(unfold gives;simp [go_sem,execOp];exact dK (hprF _ _ _ _ _ _ _ (hdx.ext hx) hcd (hSx.ext hx) (hPx.ext hx) (hIb.ext hx) hk9)));(repeat (refine R2.av ?_;(try simp only [Act.put,q0q,q1q,q2q])));(refine R2.ef ?_;intro us x hx hf hd);obtain ⟨hS,hc5⟩:=hf;generalize (us 6 0).1=a5 at *;generalize (us 6 0).2=c5 at *;have hx:Ext wc (wc.ext x):=hx;have hz:=hzx.extB hx;have hB2:=hB2x.extB hx;have hE:=hEx.trans hx;clear hd v1 hprF hIb hVx hdx hSx hPx hU hzx hB2x hEx hcnx hX hx;generalize wc.ext x=W14 at *;have hrz:=hz.rd;haveI:=hz.blt;haveI:=hB2.blt;go_wp2_with fail;refine R2.ae 3 [[],[],[0],[0,1,2],[0,1,2,3]] [] (λ h=>(h rfl).elim) Zk Zk Zk Zk Zk ?_;simp only [q8q,q9q,q10q,q11q,q12q,q13q];(repeat (refine R2.av ?_;(try simp only [Act.put,q0q,q1q,q2q])));(refine R2.ao RB1 _ rfl (λ _=>rfl) gp 0 (λ _=>by simp [go_sem]) _ hrz rfl ?_);(repeat (refine R2.av ?_;(try simp only [Act.put,q0q,q1q,q2q])));(refine R2.ef ?_;intro us x hx hf hd);have hx:Ext W14 (W14.ext x):=hx;replace hB2:=hB2.extB hx;replace hE:=hE.trans hx;replace hS:=hS.ext hx
    go_wp2_with (first
     | (refine aa RB1 rfl _ _ rfl (w.heap.size+2) 0 rfl _ rfl 32 _ hB2 rfl Zs oC ?_;intro U hU hMU)
     | fail)
    refine aaa (bc Tryz.results13 RB1 _ _ (w.heap.size+2) 0 [Zz Zx A.1.1] rfl hU.rd rfl _ _ rfl rfl) rfl ?_;rw [<- hR.out];exact ⟨_,_,rfl,hS.mut hB2 Zs hMU,hc5,E9 hE (hMU.below Zo hE.size)⟩
end Go.Proofs.P9
