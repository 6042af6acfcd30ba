/- Lemmas of this claim, several texts joined. -/
import Derived.Test.YtmdahnkcnagkjaaGreatZ25
import Derived.Test.YtmdahnkcnagkjaaGreatZ26
set_option maxRecDepth 100000
open Go.Value renaming int -> Zz,slice -> Zy
open Go.IntKind renaming i64 -> Zx,u64 -> Zw,u32 -> Zv,u8 -> Zu
open List renaming setIfInBounds_toArray -> q0q, set_cons_succ -> q1q, set_cons_zero -> q2q, mem_cons -> q3q, not_mem_nil -> q4q, nil_append -> q5q, cons_append -> q6q, mem_append -> q7q, take_succ_cons -> q8q, take_zero -> q9q, drop_succ_cons -> q10q, drop_zero -> q11q, take_nil -> q12q, drop_nil -> q13q, getElem_toArray -> q14q, getElem_cons_succ -> q15q, getElem_cons_zero -> q16q
open Go.IntWalk renaming i64_in -> q17q, rem_in -> q18q, wrap64_in -> q19q
set_option maxHeartbeats 8000000
set_option linter.unusedVariables false
set_option linter.unusedSimpArgs false
/- Layer 6: check, copies of lists, the stream of a tag. -/
namespace Go.Proofs.P9
open Go.RowKit Go.Sec Go.Oct Go.Aes BigFrame
theorem wI (a:E8)(n c:Nat) (l:E7)(w:World)(h:Sl w a n l) :
  Calls Tryz.prog 162 #[Zy a n c] w λ e w'=>e = .returned (.bool (decide (65519<l.length)))/\Ext w w':=by
 have hl:=h.len;by_cases hn:65519<n
 ·have hI:(65519:Int)<(n:Int):=by omega
  have e:=FC (show decide (65519<l.length)=true by simp;omega);clear hl
  go_enter Tryz.func162,Tryz.ntmps162
  go_wp2;go_ret;exact ⟨by rw [e.out];rfl,FD _⟩
 ·have hI:¬ (65519:Int)<(n:Int):=by omega
  have e:=FC (show decide (65519<l.length)=false by simp;omega);clear hl
  go_enter Tryz.func162,Tryz.ntmps162
  go_wp2;go_ret;exact ⟨by rw [e.out];rfl,FD _⟩
def AM (A:List E7) (w:World)(e:Ending) (w':World):Prop:=∃ r:Int,e = .returned (Zz Zx r)/\(0<=r ↔ cY A=true)/\Ext w w'
theorem p8 (a:E8)(n c:Nat) (A:List E7) (w:World)(h:Bsc w a n A) (hn:n<=1000000) :
  Calls Tryz.prog 75 #[Zy a n c, .func (.func 162) #[] #[]] w (AM A w):=by
 have hl:=h.len
 go_enter Tryz.func75,Tryz.ntmps75
 go_wp2_with fail
 go_loopw [8] (λ v8 wr=>∃ i:Nat,i<=n/\v8 = Zz Zx i/\Hid (cY (A.take i)=false)/\Ext w wr) (λ v8 _=>n-(intOf v8).toNat)
 case atStart=>exact ⟨0,Zo,rfl,FC rfl,FD _⟩
 case round =>
  obtain ⟨i,hi,rfl,hm,hx⟩:=hrel;obtain ⟨x,rfl⟩:=hx.out;by_cases hlt:i<n
  ·obtain ⟨b0,o0,a',n',c',rfl,hb0,hcell,hc',hS⟩:=(h.ext hx).at i hlt;have i0:(0:Int)<=(i:Int):=Zo;have i1:(i:Int)<(n:Int):=Zo;have hsu:=FC (show cY (A.take (i+1))=decide (65519<(A[i]'Zo).length) by
    rw [aas Zo];unfold cY;rw [List.any_append];have:=hm.out;unfold cY at this;rw [this];simp)
   have htr:=FC (show cY (A.take (i+1))=true->cY A=true from λ h=>by
    unfold cY at h ⊢;obtain ⟨x,hx,hp⟩:=List.any_eq_true.1 h;exact List.any_eq_true.2 ⟨x,aaN hx,hp⟩)
   go_wp2_with fail;refine (wI _ _ _ _ _ hS).mono ?_;rintro e w1 ⟨rfl,hx1⟩;obtain ⟨x1,rfl⟩:=hx1.out;cases hb:decide (65519<(A[i]'Zo).length)
   ·have hm2:=FC (show cY (A.take (i+1))=false by rw [hsu.out,hb]);clear hb;go_wp2_with fail;go_roundw
    case rel=>exact ⟨i+1,Zo,Zg,hm2,eX⟩
    case measure=>simp [intOf];omega
   ·have hm2:=FC (show cY A=true from htr.out (by rw [hsu.out,hb]));clear hb;go_wp2_with fail;go_ret;exact ⟨i,rfl,by rw [hm2.out];simp,eX⟩
  ·obtain rfl:i=n:=by omega
   have hlo:=FC (show cY A=false by have:=hm.out;rwa [aah Zo] at this);go_wp2_with fail;go_ret;exact ⟨-1,rfl,by rw [hlo.out];simp,eX⟩
theorem mM (a:E8)(n c:Nat) (A:List E7) (w:World)(h:Bsc w a n A) (hn:n<=1000000) :
  Calls Tryz.prog 40 #[Zy a n c, .func (.func 162) #[] #[]] w λ e w'=>e = .returned (.bool (cY A))/\Ext w w':=by
 go_enter Tryz.func40,Tryz.ntmps40
 go_wp2_with fail;refine (p8 _ _ _ _ _ h hn).mono ?_;rintro e w1 ⟨r,rfl,hr,hx1⟩;have hd:=FC (show decide (0<=r)=cY A by rw [abk];simpa using hr);clear hr;go_wp2_with fail;go_ret;exact ⟨by rw [<- hd.out];rfl,hx1⟩
theorem Cx {n:Nat} (h:n≠32):((n:Int) != 32)=true:=by rw [aao];omega
theorem qK (a b:E8)(n c m d:Nat) (ky:E7)(A:List E7) (w:World)(hk:Sl w a n ky) (hA:Bsc w b m A) (hm:m<=1000000) :
  Calls Tryz.prog 144 #[Zy a n c, Zy b m d] w λ e w'=>e = .returned (Zz Zx (aO ky A))/\Ext w w':=by
 have hkl:=hk.len;have hAl:=hA.len;by_cases h1:n=32
 ·by_cases h2:16<m
  ·have e:=FC (show aO ky A=8 by unfold aO;rw [aae Zo,aaj Zo]);have hI:((n:Int) != 32)=false:=by rw [aaf];omega
   have hI2:(16:Int)<(m:Int):=Zo;clear hkl h1
   go_enter Tryz.func144,Tryz.ntmps144
   go_wp2_with fail;go_ret;exact ⟨by rw [e.out];rfl,FD _⟩
  ·cases hb:cY A
   all_goals
    have e:=FC (show aO ky A=if cY A then 2 else 0 by unfold aO;rw [aae Zo,aae Zo]);rw [hb] at e;have hI:((n:Int) != 32)=false:=by rw [aaf];omega
    have hI2:¬ (16:Int)<(m:Int):=Zo;have hc:=λ w h=>mM b m d A w h hm;rw [hb] at hc;clear hkl h1 hb
    go_enter Tryz.func144,Tryz.ntmps144
    go_wp2_with (first|(go_at_call 40;(with_reducible refine (hc ?_ ?hq1).mono ?_);(case hq1=>exact sC);rintro e w1 ⟨rfl,hxq⟩;obtain ⟨xq,rfl⟩:=hxq.out;clear hxq)|fail)
    go_ret;exact ⟨by rw [e.out];rfl,eX⟩
 ·have e:=FC (show aO ky A=5 by unfold aO;rw [aaj Zo]);have hI:=Cx h1;clear hkl h1
  go_enter Tryz.func144,Tryz.ntmps144
  go_wp2_with fail;go_ret;exact ⟨by rw [e.out];rfl,FD _⟩
theorem uR (base:Nat) (a:E8)(n c:Nat) (A:List E7) (w:World)(h:RdB w base a n A) (hbase:base<=w.heap.size) (hn:n<=1000000) :
  Calls Tryz.prog 165 #[Zy a n c] w λ e w'=>∃ a' c',e = .returned (Zy a' n c')/\bU w' base a' n c' A/\Ext w w':=by
 have hnil:=λ W (a:E8)(n c:Nat)=>Lib.run_eql_slice_nil (P:=Tryz.prog) W 37 33 a n c 0 0 Tryz.underlying37;cases a with
 | none =>
  obtain rfl:n=0:=by
   obtain ⟨_,xs,h2,h3,_⟩:=h;rcases h3 with h3|⟨_,_,h3,_⟩
   ·subst h3;simpa using h2.symm
   ·cases h3
  obtain rfl:A=[]:=aaq h.1
  go_enter Tryz.func165,Tryz.ntmps165
  go_wp2;go_ret;exact ⟨_,_,rfl,bU.nil _ _,eX⟩
 | some ad =>
  go_enter Tryz.func165,Tryz.ntmps165
  go_wp2_with (at_builtin;refine mG V8 rfl _ _ rfl base _ 0 0 [] rfl _ n c A rfl ((bU.empty _).mono0 hbase) (h.ext (FA _ _)) Zo (by simp;omega) ?_;intro sa2 sc2 w2 hO2 hg2 hB2)
  go_ret;simp only [aaA,q5q] at hO2;refine ⟨_,_,rfl,hO2,?_⟩;have hx0:Ext w (w.alloc (.cells #[] 33)):=eX;exact Below.grown hx0 hg2 Zs (λ g hg=>by have e:w.heap.size=g:=FG hg;omega)
theorem nh (a b c:E8)(ca cb cc n:Nat) (ky t l:E7)(w:World)(hk:Sl w a 32 ky) (hca:32<=ca) (ht:Sl w b 16 t) (hl:Sl w c n l) (hn:n<=65535) :
  Calls Tryz.prog 145 #[Zy a 32 ca, Zy b 16 cb, Zy c n cc] w (bD n (stream (ky.drop 16) (dI t) l) (Zz Zx 0) w):=by
 have htl:=ht.len;obtain ⟨b0,o0,rfl,hb0,_⟩:=hk.at 0 Zo;have hk2:Sl w (some ⟨b0,o0+16,none⟩) 16 (ky.drop 16):=by
  have:=hk.drop ca 16 hca;unfold dX at this;rw [aae Zo] at this;simpa [bX] using this
 have hC:=FC (show dI t=(t.set 8 (at' t 8 &&& 127)).set 12 (at' t 12 &&& 127) from rfl);have h12:(t.set 8 (at' t 8 &&& 127)).getD 12 0=at' t 12:=by simp [at',List.getD,List.getElem?_set]
 have q:(16:Int)<=(ca:Int):=Zo
 go_enter Tryz.func145,Tryz.ntmps145
 go_wp2_with fail;(with_reducible refine (ei _ 16 _ t _ ht Zo).mono ?_);rintro e w1 ⟨a1,c1,rfl,hO1,hx1⟩;obtain ⟨g,rfl,hg,hgb,hcell8,hfr8,_⟩:=hO1.at 8 Zo;obtain ⟨_,e1,_,_,hcell12,hfr12,_⟩:=hO1.at 12 Zo;injection e1 with e1
 injection e1 with e1 _
 subst e1;have hle:=hO1.le;have hO2:=hO1.put 8 Zo (at' t 8 &&& 127);have hO3:=hO2.put 12 Zo (at' t 12 &&& 127);rw [<- hC.out] at hO3;have hx3:Ext w ((w1.setCell ⟨g,8,none⟩ (Zz Zu (n8 (at' t 8 &&& 127)))).setCell ⟨g,12,none⟩ (Zz Zu (n8 (at' t 12 &&& 127)))):=Ext.setCell (Ext.setCell hx1 hg _) hg _;rw [show t.getD 8 0=at' t 8 from rfl] at hcell8;rw [show t.getD 12 0=at' t 12 from rfl] at hcell12;clear h12 hO1 hO2;go_wp2_with fail;(refine (uc _ _ _ _ _ _ n (ky.drop 16) (dI t) l _ (hk2.ext hx3) Zo hO3.sl hle.1 (hl.ext hx3) hn).mono ?_;rintro e _ ⟨_,_,rfl,hS,hc,hx⟩);go_wp2_with fail;go_ret2;exact ⟨_,_,rfl,hS,hc,hx3.trans hx⟩
end Go.Proofs.P9

/- Layer 6 of the program: Tag, Seal, Open. -/
namespace Go.Proofs.P9
open Go.RowKit Go.Sec Go.Oct Go.Aes BigFrame
theorem ne0 {e:Int} (h:e≠0):(e != 0)=true:=by rw [aao];exact h
theorem _root_.z27q60{p:Prop}(h:p:=by
 intro x hx;rcases aaP.1 hx with h|h
 ·have:=hmx x h;omega
 ·simp only [aau] at h;subst h;omega):p:=h
theorem vW (a b c:E8)(n ca m cb k cc:Nat) (ky:E7)(A:List E7) (p:E7)(w:World)(hk:Sl w a n ky) (hca:n<=ca) (hA:Bsc w b m A) (hm:m<=1000000) (hp:Sl w c k p) (hkc:k<=cc) :
  Calls Tryz.prog 146 #[Zy a n ca, Zy b m cb, Zy c k cc] w (bD (cK ky A p).1.length (cK ky A p).1 (Zz Zx (cK ky A p).2) w):=by
 have hc:=λ w h1 h2=>qK a b n ca m cb ky A w h1 h2 hm;have hpl:=hp.len;by_cases h0:aO ky A=0
 ·rw [h0] at hc;obtain ⟨h32,h16,hmx⟩:=gC h0;rw [hk.len] at h32;rw [hA.len] at h16;subst h32;by_cases hl:65519<k
  ·have e:cK ky A p=([],2):=by unfold cK;rw [aae (by rw [h0];simp),aaj Zo]
   rw [e];have hI:(65519:Int)<(k:Int):=Zo;clear e h0 hmx hpl
   go_enter Tryz.func146,Tryz.ntmps146
   go_wp2_with (first|(go_at_call 144;(with_reducible refine (hc ?_ ?hq14 ?hq15).mono ?_);(case hq14=>exact sS);(case hq15=>exact sC);rintro e w1 ⟨rfl,hxq⟩;obtain ⟨xq,rfl⟩:=hxq.out;clear hxq)|fail)
   go_ret2;exact aC _ _ _ eX
  ·rw [jd h0 Zo];show Calls _ _ _ _ (bD (s2v _ _).length _ _ _);rw [dG];have hmax:∀ x∈A++[p],x.length<=65535:=by
    exact z27q60
   have hI:decide ((65519:Int)<(k:Int))=false:=by simp;omega
   have q:(16:Int)<=(ca:Int):=Zo;clear h0 hmx hpl
   go_enter Tryz.func146,Tryz.ntmps146
   go_wp2_with (first|(go_at_call 144;(with_reducible refine (hc ?_ ?hq16 ?hq17).mono ?_);(case hq16=>exact sS);(case hq17=>exact sC);rintro e w1 ⟨rfl,hxq⟩;obtain ⟨xq,rfl⟩:=hxq.out;clear hxq)|fail)
   have hxW:Ext w (w.ext xq):=eX;generalize w.ext xq=W at *;have hkW:=(hk.ext hxW).take 16 Zo;have hRB:=(hA.ext hxW).rdB;have hpW:=hp.ext hxW;have hSE:∀ w',Ext W w'->(Ext W) w':=(λ _ h=>h);have hExt0:Ext W (W).drew:=Ext.drew (FD _);refine aaS (S:=Ext W) Zk (hSE _ hExt0) (λ hHeld=>?_);refine aap (i:=0) (v:=?v1) rfl Zk Zk Zk (λ _ _ _ h=>h) (Or.inl ⟨by rfl,?hy1⟩) hHeld ?_;(case hy1=>(intro w' hx;simp [go_sem,execOp, *];(try simp (disch:=omega) only [q17q,q18q,q19q]);rfl));(try simp only [q14q,q15q,q16q,Act.put,q0q,q1q,q2q]);refine aap (i:=1) (v:=?v2) rfl Zk Zk Zk (λ _ _ _ h=>h) (Or.inl ⟨by rfl,?hy2⟩) hHeld ?_;(case hy2=>(intro w' hx;simp [go_sem,execOp, *];(try simp (disch:=omega) only [q17q,q18q,q19q]);rfl));(try simp only [q14q,q15q,q16q,Act.put,q0q,q1q,q2q]);refine aap (i:=2) (v:=?v3) rfl Zk Zk Zk (λ _ _ _ h=>h) (Or.inl ⟨by rfl,?hy3⟩) hHeld ?_;(case hy3=>(intro w' hx;simp [go_sem,execOp, *];(try simp (disch:=omega) only [q17q,q18q,q19q]);rfl));(try simp only [q14q,q15q,q16q,Act.put,q0q,q1q,q2q]);refine aap (i:=4) (v:=?v4) rfl Zk Zk Zk (λ _ _ _ h=>h) (Or.inl ⟨by rfl,?hy4⟩) hHeld ?_;(case hy4=>(intro w' hx;simp [go_sem,execOp, *];(try simp (disch:=omega) only [q17q,q18q,q19q]);rfl));(try simp only [q14q,q15q,q16q,Act.put,q0q,q1q,q2q]);refine R5.qS 6 8 [[],[0],[],[2],[],[4],[2,3,4,5],[0,1,2,3,4,5,6],[0,1,2,3,4,5,6,7],[0,1,2,3,4,5,6,7],[0,1,2,3,4,5,6,7,8,9],[0,1,2,3,4,5,6,7,8,9,10]] [0,1,2,4] #[true,true,true,true,true,true,true,true,false,false,false,false] 4 hExt0 hSE Zk Zk Zk Zk Zk Zk ?_;simp only [q8q,q9q,q10q,q11q,q12q,q13q,Nat.reduceSub];refine R5.dH rfl ?_;refine R5.dH rfl ?_;refine R5.dH rfl ?_;(refine R5.ai rfl (λ p => .slice (p 0).1 m (p 0).2) (λ p w''=>bU w'' W.heap.size (p 0).1 m (p 0).2 A) (λ p w w' h hx=>h.ext hx) (λ us w' hx hf=>⟨rfl,?_⟩) ?_;(unfold gives;simp [go_sem,execOp];exact R5.yH (uR W.heap.size _ _ _ _ _ (hRB.ext hx) hx.size Zo)));refine R5.dH rfl ?_;(refine R5.ai rfl (λ p => .slice (p 0).1 1 1) (λ p w''=>Rd w'' (p 0).1 [Zy c k cc]) (λ p w w' h hx=>h.ext hx) (λ us w' hx hf=>⟨rfl,?_⟩) ?_;(unfold gives;simp [go_sem,execOp];exact ⟨λ _=>(some ⟨w'.heap.size,0,none⟩,0),rfl,FA _ _,(Blk.new _ _ _).rd⟩));(refine R5.fN ?_;intro us w' hx hf;obtain ⟨x,rfl⟩:=hx.out;(try simp only [Act.put,q0q,q1q,q2q,wpList_none]);(try simp only [q3q,q4q,abt,aa7,forall_eq,q5q,q6q,q7q,false_or,true_and,and_true] at hf);(try simp only [Nat.reduceAdd,aaA] at hf ⊢));obtain ⟨hO1,hR2⟩:=hf;(refine R5.jw hSE V8 rfl rfl _ _ rfl W.heap.size _ m _ A rfl _ 1 1 ([p]) rfl hO1 (RdB.one hR2 (hpW.ext hx) hkc (hpW.inB _)) Zo hx.size (aad _) hx ?_;intro sa2 sc2 w2 hOa hg2 hB2 hx2);have hBs:=hOa.bsc;have hle:=hOa.le;have hk2:=hkW.ext hx2;(refine R5.cT rfl rfl ?_;unfold gives;simp [go_sem,execOp];(with_reducible refine (ub ?_ ?_ ?_ ?_ ?_ (ky.take 16) (A++[p]) ?_ ?hq9 ?hq10 ?hq11 ?hq12 ?hq13 hmax).mono ?_);(case hq9=>exact sS);(case hq11=>exact sC);(case hq10=>omega);(case hq12=>omega);(case hq13=>omega);rintro e _ ⟨_,_,rfl,hS,hc,hx⟩;obtain ⟨_,rfl⟩:=hx.out;clear hx;refine ⟨_,rfl,hSE _ eX,?_⟩;(try simp only [q14q,q15q,q16q,Act.put,q0q,q1q,q2q]));(refine R5.iQ ?_);refine aap (i:=8) (v:=?v5) rfl Zk Zk Zk (λ _ _ _ h=>h) (Or.inl ⟨by rfl,?hy5⟩) (hSE _ eX) ?_;(case hy5=>(intro w' hx;simp [go_sem,execOp, *];(try simp (disch:=omega) only [q17q,q18q,q19q]);rfl));(try simp only [q14q,q15q,q16q,Act.put,q0q,q1q,q2q]);refine aap (i:=9) (v:=?v6) rfl Zk Zk Zk (λ _ _ _ h=>h) (Or.inl ⟨by rfl,?hy6⟩) (hSE _ eX) ?_;(case hy6=>(intro w' hx;simp [go_sem,execOp, *];(try simp (disch:=omega) only [q17q,q18q,q19q]);rfl));(try simp only [q14q,q15q,q16q,Act.put,q0q,q1q,q2q]);refine aap (i:=10) (v:=?v7) rfl Zk Zk Zk (λ _ _ _ h=>h) (Or.inl ⟨by rfl,?hy7⟩) (hSE _ eX) ?_;(case hy7=>(intro w' hx;simp [go_sem,execOp, *];(try simp (disch:=omega) only [q17q,q18q,q19q]);rfl));(try simp only [q14q,q15q,q16q,Act.put,q0q,q1q,q2q]);refine aap (i:=11) (v:=?v8) rfl Zk Zk Zk (λ _ _ _ h=>h) (Or.inl ⟨by rfl,?hy8⟩) (hSE _ eX) ?_;(case hy8=>(intro w' hx;simp [go_sem,execOp, *];(try simp (disch:=omega) only [q17q,q18q,q19q]);rfl));(try simp only [q14q,q15q,q16q,Act.put,q0q,q1q,q2q]);refine abh Zk ?_ _;go_wp2;go_ret2;exact ⟨_,_,rfl,hS,hc,hxW.trans eX⟩
 ·have e:cK ky A p=([],aO ky A):=by unfold cK;rw [aaj h0]
  rw [e];have hI:=ne0 h0;generalize aO ky A=v at *;clear e h0
  go_enter Tryz.func146,Tryz.ntmps146
  go_wp2_with (first|(go_at_call 144;(with_reducible refine (hc ?_ ?hq18 ?hq19).mono ?_);(case hq18=>exact sS);(case hq19=>exact sC);rintro e w1 ⟨rfl,hxq⟩;obtain ⟨xq,rfl⟩:=hxq.out;clear hxq)|fail)
  go_ret2;exact aC _ _ _ eX
theorem sN (a b c:E8)(n ca m cb k cc:Nat) (ky:E7)(A:List E7) (p:E7)(w:World)(hk:Sl w a n ky) (hca:n<=ca) (hA:Bsc w b m A) (hm:m<=1000000) (hp:Sl w c k p) (hkc:k<=cc) :
  Calls Tryz.prog 131 #[Zy a n ca, Zy b m cb, Zy c k cc] w (bD (cj ky A p).1.length (cj ky A p).1 (Zz Zx (cj ky A p).2) w):=by
 have ht:=λ w h1 h3 h5=>vW a b c n ca m cb k cc ky A p w h1 hca h3 hm h5 hkc;by_cases h0:(cK ky A p).2=0
 ·obtain ⟨h16,hck,hpl⟩:=od h0;obtain ⟨h32,_,_⟩:=gC hck;rw [hk.len] at h32;rw [hp.len] at hpl;subst h32;have e:=FC (show cj ky A p=((cK ky A p).1++stream (ky.drop 16) (dI (cK ky A p).1) p,0) by unfold cj;rw [aae (by simpa using h0)]);rw [h0,h16] at ht;have hsl:=di (ky.drop 16) (dI (cK ky A p).1) p;rw [hp.len] at hsl;have hst:=λ a1 c1 w h1 h2 h3 h4=>nh a a1 c ca c1 cc k ky (cK ky A p).1 p w h1 h2 h3 h4 Zo;generalize stream (ky.drop 16) (dI (cK ky A p).1) p=st at *;generalize (cK ky A p).1=tg at *;rw [e.out];have hll:(tg++st).length=16+k:=by rw [aag,h16,hsl]
  show Calls _ _ _ _ (bD (tg++st).length _ _ _);rw [hll];clear h0 hck;have hj:aV [tg,st]=tg++st:=by simp [aV]
  have hjl:(aV [tg,st]).length=16+k:=by rw [hj,hll]
  have HJ:=FC hj;clear hj
  go_enter Tryz.func131,Tryz.ntmps131
  go_wp2_with (first
   | (go_at_call 146;(with_reducible refine (ht ?_ ?hq20 ?hq21 ?hq22).mono ?_);(case hq20=>exact sS);(case hq21=>exact sC);(case hq22=>exact sS);rintro e _ ⟨_,_,rfl,hS,hc,hx⟩;obtain ⟨_,rfl⟩:=hx.out;clear hx)
   | (go_at_call 145;(with_reducible refine (hst ?_ ?_ ?_ ?hq23 ?hq24 ?hq25 ?hq26).mono ?_);(case hq23=>exact sS);(case hq25=>exact sS);(case hq26=>exact sS);(case hq24=>omega);rintro e _ ⟨_,_,rfl,hS,hc,hx⟩;obtain ⟨_,rfl⟩:=hx.out;clear hx)
   | fail)
  (with_reducible refine (gu _ _ _ [tg,st] _ (oZ ?h1 ?h2 _) Zo (16+k) hjl Zo).mono ?_)
  case h1=>exact (by (repeat' (first|with_reducible assumption|(with_reducible exact dE _)|(with_reducible exact bI _ _ _)|(with_reducible first|apply Sl.upE|apply Sl.upA|apply Sl.upD))))
  case h2=>exact (by (repeat' (first|with_reducible assumption|(with_reducible exact dE _)|(with_reducible exact bI _ _ _)|(with_reducible first|apply Sl.upE|apply Sl.upA|apply Sl.upD))))
  rintro e _ ⟨_,_,rfl,hO,hx⟩;obtain ⟨_,rfl⟩:=hx.out;clear hx;go_wp2;rw [HJ.out] at hO;go_ret2;exact ⟨_,_,rfl,hO.sl,hO.le.1,eX⟩
 ·have e:cj ky A p=([],(cK ky A p).2):=by unfold cj;rw [aaj h0]
  rw [e];have hI:=ne0 h0;generalize (cK ky A p).2=v at *;generalize (cK ky A p).1=tg at *;clear e h0
  go_enter Tryz.func131,Tryz.ntmps131
  go_wp2_with (first|(go_at_call 146;(with_reducible refine (ht ?_ ?hq27 ?hq28 ?hq29).mono ?_);(case hq27=>exact sS);(case hq28=>exact sC);(case hq29=>exact sS);rintro e _ ⟨_,_,rfl,hS,hc,hx⟩;obtain ⟨_,rfl⟩:=hx.out;clear hx)|fail)
  go_ret2;exact aC _ _ _ eX
theorem sQ (a b c:E8)(n ca m cb k cc:Nat) (ky:E7)(A:List E7) (s:E7)(w:World)(hk:Sl w a n ky) (hca:n<=ca) (hA:Bsc w b m A) (hm:m<=1000000) (hs:Sl w c k s) (hkc:k<=cc) :
  Calls Tryz.prog 121 #[Zy a n ca, Zy b m cb, Zy c k cc] w (bD (bL ky A s).1.length (bL ky A s).1 (Zz Zx (bL ky A s).2) w):=by
 have hc:=λ w h1 h2=>qK a b n ca m cb ky A w h1 h2 hm;have hsl:=hs.len;by_cases h0:aO ky A=0
 ·obtain ⟨h32,_,_⟩:=gC h0;rw [hk.len] at h32;subst h32;by_cases hl:65535<k
  ·have e:bL ky A s=([],2):=by unfold bL;rw [aae (by rw [h0];simp),aaj Zo]
   rw [e];rw [h0] at hc;have hI:(65535:Int)<(k:Int):=Zo;clear e h0 hsl
   go_enter Tryz.func121,Tryz.ntmps121
   go_wp2_with (first|(go_at_call 144;(with_reducible refine (hc ?_ ?hq46 ?hq47).mono ?_);(case hq46=>exact sS);(case hq47=>exact sC);rintro e w1 ⟨rfl,hxq⟩;obtain ⟨xq,rfl⟩:=hxq.out;clear hxq)|fail)
   go_ret2;exact aC _ _ _ eX
  ·by_cases h16:k<16
   ·have e:bL ky A s=([],1):=by unfold bL;rw [aae (by rw [h0];simp),aae Zo,aaj Zo]
    rw [e];rw [h0] at hc;have hI:¬ (65535:Int)<(k:Int):=Zo;have hcut:=λ w=>zz c k cc 16 w (.inr Zo);clear e h0 hsl
    go_enter Tryz.func121,Tryz.ntmps121
    go_wp2_with (first|(go_at_call 144;(with_reducible refine (hc ?_ ?hq48 ?hq49).mono ?_);(case hq48=>exact sS);(case hq49=>exact sC);rintro e w1 ⟨rfl,hxq⟩;obtain ⟨xq,rfl⟩:=hxq.out;clear hxq)|(go_at_call 122;refine (hcut _).mono ?_;rintro e w1 ⟨rfl,hxq⟩;obtain ⟨xq,rfl⟩:=hxq.out;clear hxq)|fail)
    go_ret2;exact aC _ _ _ eX
   ·have e:=FC (show bL ky A s=if (cK ky A (bG ky s)).1=s.take 16 then (bG ky s,0) else ([],6) by unfold bL;rw [aae (by rw [h0];simp),aae Zo,aae Zo]);have htg:cK ky A (bG ky s)=(s2v (ky.take 16) (A++[bG ky s]),0):=jd h0 (by rw [du];omega);have ht:=λ c cc w h1 h3 h5 h6=>vW a b c 32 ca m cb (k-16) cc ky A (bG ky s) w h1 hca h3 hm h5 h6;have hts:(s.take 16).length=16:=by simp;omega
    have hpo:bG ky s=stream (ky.drop 16) (dI (s.take 16)) (s.drop 16):=rfl;have hst:=λ a1 c1 a2 c2 w h1 h2 h3 h4=>nh a a1 a2 ca c1 c2 (k-16) ky (s.take 16) (s.drop 16) w h1 h2 h3 h4 Zo;rw [<- hpo] at hst;rw [htg] at ht;rw [htg] at e;have hpl:(bG ky s).length=k-16:=by rw [du];omega
    have htl:=dG (ky.take 16) (A++[bG ky s]);rw [h0] at hc;have hI:¬ (65535:Int)<(k:Int):=Zo;have hcut:=λ w h=>uu c k cc s 16 w h Zo Zo hkc;simp only [aan] at hcut;simp only at ht e;rw [htl] at ht;generalize s2v (ky.take 16) (A++[bG ky s])=tg at *;generalize bG ky s=pl at *;generalize s.take 16=s0 at *;generalize s.drop 16=s1 at *;clear htg h0 hpo hsl;rw [e.out];by_cases he:tg=s0
    ·rw [aaj he];show Calls _ _ _ _ (bD pl.length _ _ _);rw [hpl];have hb:(tg == s0)=true:=by simpa using he
     clear he;clear e
     go_enter Tryz.func121,Tryz.ntmps121
     go_wp2_with (first|(go_at_call 144;(with_reducible refine (hc ?_ ?hq50 ?hq51).mono ?_);(case hq50=>exact sS);(case hq51=>exact sC);rintro e w1 ⟨rfl,hxq⟩;obtain ⟨xq,rfl⟩:=hxq.out;clear hxq)|fail)
     refine (hcut _ (by (repeat' (first|with_reducible assumption|(with_reducible exact dE _)|(with_reducible exact bI _ _ _)|(with_reducible first|apply Sl.upE|apply Sl.upA|apply Sl.upD))))).mono ?_;rintro e _ ⟨_,_,_,_,rfl,hO1,hO2,hx⟩;obtain ⟨_,rfl⟩:=hx.out;have hl1:=hO1.le;have hl2:=hO2.le;have hS1:=hO1.sl;have hS2:=hO2.sl;clear hO1 hO2 hx
     go_wp2_with (first
      | (go_at_call 145;(with_reducible refine (hst ?_ ?_ ?_ ?_ ?_ ?hq30 ?hq31 ?hq32 ?hq33).mono ?_);(case hq30=>exact sS);(case hq32=>exact sS);(case hq33=>exact sS);(case hq31=>omega);rintro e _ ⟨_,_,rfl,hS,hc,hx⟩;obtain ⟨_,rfl⟩:=hx.out;clear hx)
      | (go_at_call 146;(with_reducible refine (ht ?_ ?_ ?_ ?hq34 ?hq35 ?hq36 ?hq37).mono ?_);(case hq34=>exact sS);(case hq35=>exact sC);(case hq36=>exact sS);(case hq37=>omega);rintro e _ ⟨_,_,rfl,hS,hc,hx⟩;obtain ⟨_,rfl⟩:=hx.out;clear hx)
      | (go_at_call 147;(with_reducible refine (mO ?_ ?_ ?_ ?_ ?_ ?_ tg s0 ?_ ?hq52 ?hq53).mono ?_);(case hq52=>exact sS);(case hq53=>exact sS);rintro e w1 ⟨rfl,hxq⟩;obtain ⟨xq,rfl⟩:=hxq.out;clear hxq)
      | fail)
     go_ret2;exact ⟨_,_,rfl,(by (repeat' (first|with_reducible assumption|(with_reducible exact dE _)|(with_reducible exact bI _ _ _)|(with_reducible first|apply Sl.upE|apply Sl.upA|apply Sl.upD)))),Zo,eX⟩
    ·rw [aae he];have hb:(tg == s0)=false:=by simpa using he
     clear he;clear e
     go_enter Tryz.func121,Tryz.ntmps121
     go_wp2_with (first|(go_at_call 144;(with_reducible refine (hc ?_ ?hq54 ?hq55).mono ?_);(case hq54=>exact sS);(case hq55=>exact sC);rintro e w1 ⟨rfl,hxq⟩;obtain ⟨xq,rfl⟩:=hxq.out;clear hxq)|fail)
     refine (hcut _ (by (repeat' (first|with_reducible assumption|(with_reducible exact dE _)|(with_reducible exact bI _ _ _)|(with_reducible first|apply Sl.upE|apply Sl.upA|apply Sl.upD))))).mono ?_;rintro e _ ⟨_,_,_,_,rfl,hO1,hO2,hx⟩;obtain ⟨_,rfl⟩:=hx.out;have hl1:=hO1.le;have hl2:=hO2.le;have hS1:=hO1.sl;have hS2:=hO2.sl;clear hO1 hO2 hx
     go_wp2_with (first
      | (go_at_call 145;(with_reducible refine (hst ?_ ?_ ?_ ?_ ?_ ?hq38 ?hq39 ?hq40 ?hq41).mono ?_);(case hq38=>exact sS);(case hq40=>exact sS);(case hq41=>exact sS);(case hq39=>omega);rintro e _ ⟨_,_,rfl,hS,hc,hx⟩;obtain ⟨_,rfl⟩:=hx.out;clear hx)
      | (go_at_call 146;(with_reducible refine (ht ?_ ?_ ?_ ?hq42 ?hq43 ?hq44 ?hq45).mono ?_);(case hq42=>exact sS);(case hq43=>exact sC);(case hq44=>exact sS);(case hq45=>omega);rintro e _ ⟨_,_,rfl,hS,hc,hx⟩;obtain ⟨_,rfl⟩:=hx.out;clear hx)
      | (go_at_call 147;(with_reducible refine (mO ?_ ?_ ?_ ?_ ?_ ?_ tg s0 ?_ ?hq56 ?hq57).mono ?_);(case hq56=>exact sS);(case hq57=>exact sS);rintro e w1 ⟨rfl,hxq⟩;obtain ⟨xq,rfl⟩:=hxq.out;clear hxq)
      | fail)
     go_ret2;exact aC _ _ _ eX
 ·have e:bL ky A s=([],aO ky A):=by unfold bL;rw [aaj h0]
  rw [e];have hI:=ne0 h0;generalize aO ky A=v at *;clear e h0
  go_enter Tryz.func121,Tryz.ntmps121
  go_wp2_with (first|(go_at_call 144;(with_reducible refine (hc ?_ ?hq58 ?hq59).mono ?_);(case hq58=>exact sS);(case hq59=>exact sC);rintro e w1 ⟨rfl,hxq⟩;obtain ⟨xq,rfl⟩:=hxq.out;clear hxq)|fail)
  go_ret2;exact aC _ _ _ eX
end Go.Proofs.P9

/- Layer 6 of the document: check, counter, Tag. -/
namespace Go.Aes
def dr (ky:E7)(A:List E7) (p:Int):Int:=if aO ky A≠0 then aO ky A else if 65519<p then 2 else 0
theorem pH (ky:E7)(A:List E7) (k:Nat):dr ky A k=if aO ky A≠0 then aO ky A else if 65519<k then 2 else 0:=by
 unfold dr;by_cases h:aO ky A≠0
 ·rw [aaj h,aaj h]
 ·rw [aae h,aae h];by_cases h2:65519<k
  ·rw [aaj Zo,aaj h2]
  ·rw [aae Zo,aae h2]
theorem zk {ky:E7} {A:List (E7)} {p:E7} (h:¬ (aO ky A=0/\p.length<=65519)):cK ky A p=([],dr ky A p.length)/\dr ky A p.length≠0:=by
 rw [pH];unfold cK;by_cases h1:aO ky A≠0
 ·rw [aaj h1,aaj h1];exact ⟨rfl,h1⟩
 ·have h2:65519<p.length:=by
   rcases abe 65519 p.length with h3|h3
   ·exact h3
   ·exact absurd ⟨by simpa using h1,h3⟩ h
  rw [aae h1,aae h1,aaj h2,aaj h2];exact ⟨rfl,Zd⟩
end Go.Aes
namespace Go.Proofs.P9
open Go.RowKit Go.Sec Go.Oct Go.Aes BigFrame
theorem _root_.z27q65{p:Prop}(h:p:=by
 clear hkl h1
 go_enter Tryz.func105,Tryz.ntmps105
 go_wp2_with fail;go_ret;exact ⟨by rw [e.out];rfl,FD _⟩):p:=h
theorem oB (a b:E8)(n c m d:Nat) (ky:E7)(A:List E7) (p:Int) (w:World)(hk:Sl w a n ky) (hA:Bsc w b m A) (hm:m<=1000000) :
  Calls Tryz.prog 105 #[Zy a n c, Zy b m d, Zz Zx p] w λ e w'=>e = .returned (Zz Zx (dr ky A p))/\Ext w w':=by
 have hkl:=hk.len;have hAl:=hA.len;by_cases h1:n=32
 ·by_cases h2:16<m
  ·have e:=FC (show dr ky A p=8 by
    have:aO ky A=8:=by unfold aO;rw [aae Zo,aaj Zo]
    unfold dr;rw [this];rfl)
   have hI:((n:Int) != 32)=false:=by rw [aaf];omega
   have hI2:(16:Int)<(m:Int):=Zo;exact z27q65
  ·have e:=FC (show aO ky A=if cY A then 2 else 0 by unfold aO;rw [aae Zo,aae Zo]);have hI:((n:Int) != 32)=false:=by rw [aaf];omega
   have hI2:¬ (16:Int)<(m:Int):=Zo;clear hkl h1
   go_enter Tryz.func105,Tryz.ntmps105
   go_wp2_with fail
   go_loopw [7] (λ v7 wr=>∃ i:Nat,i<=m/\v7 = Zz Zx i/\Hid (cY (A.take i)=false)/\Ext w wr) (λ v7 _=>m-(intOf v7).toNat)
   case atStart=>exact ⟨0,Zo,rfl,FC rfl,FD _⟩
   case round =>
    obtain ⟨i,hi,rfl,hm',hx⟩:=hrel;obtain ⟨x,rfl⟩:=hx.out;by_cases hlt:i<m
    ·obtain ⟨b0,o0,a',n',c',rfl,hb0,hcell,hc',hS⟩:=(hA.ext hx).at i hlt;have i0:(0:Int)<=(i:Int):=Zo;have i1:(i:Int)<(m:Int):=Zo;have hsu:=FC (show cY (A.take (i+1))=decide (65519<n') by
      rw [aas Zo,<- hS.len];unfold cY;rw [List.any_append];have:=hm'.out;unfold cY at this;rw [this];simp)
     have htr:=FC (show cY (A.take (i+1))=true->cY A=true from λ h=>by
      unfold cY at h ⊢;obtain ⟨x,hx,hp⟩:=List.any_eq_true.1 h;exact List.any_eq_true.2 ⟨x,aaN hx,hp⟩)
     by_cases hn':65519<n'
     ·have hI3:(65519:Int)<(n':Int):=by omega
      have hm2:=FC (show dr ky A p=2 by
       have:aO ky A=2:=by rw [e.out,htr.out (by rw [hsu.out];simpa using hn')];rfl
       unfold dr;rw [this];rfl)
      go_wp2_with fail;go_ret;exact ⟨by rw [hm2.out];rfl,eX⟩
     ·have hI3:¬ (65519:Int)<(n':Int):=by omega
      have hm2:=FC (show cY (A.take (i+1))=false by rw [hsu.out];simpa using hn');go_wp2_with fail;go_roundw
      case rel=>exact ⟨i+1,Zo,Zg,hm2,eX⟩
      case measure=>simp [intOf];omega
    ·obtain rfl:i=m:=by omega
     have hlo:=FC (show cY A=false by have:=hm'.out;rwa [aah Zo] at this);have e2:=FC (show dr ky A p=if 65519<p then 2 else 0 by
      have:aO ky A=0:=by rw [e.out,hlo.out];rfl
      unfold dr;rw [this];rfl)
     by_cases hp:65519<p
     ·go_wp2_with fail;go_ret;exact ⟨by rw [e2.out,aaj hp];rfl,eX⟩
     ·go_wp2_with fail;go_ret;exact ⟨by rw [e2.out,aae Zo];rfl,eX⟩
 ·have e:=FC (show dr ky A p=5 by
   have:aO ky A=5:=by unfold aO;rw [aaj Zo]
   unfold dr;rw [this];rfl)
  have hI:=Cx h1;exact z27q65
theorem m9 (a:E8)(c:Nat) (t:E7)(w:World)(h:Sl w a 16 t) :
  Calls Tryz.prog 107 #[Zy a 16 c] w (bZ 16 (dI t) w):=by
 have htl:=h.len;have hC:=FC (show dI t=(t.set 8 (at' t 8 &&& 127)).set 12 (at' t 12 &&& 127) from rfl)
 go_enter Tryz.func107,Tryz.ntmps107
 go_wp2_with fail;(with_reducible refine (aR _ _ _ _ _ (gV h _) Zo 16 (by simp [bP,htl]) Zo).mono ?_);rintro e w1 ⟨a1,c1,rfl,hO1,hx1⟩;rw [bP] at hO1;have hO1:=hO1.mono (base':=w.heap.size) Zs;have hx1:Ext w w1:=Ext.trans (FA _ _) hx1;obtain ⟨g,rfl,hg,hgb,hcell8,hfr8,_⟩:=hO1.at 8 Zo;obtain ⟨_,e1,_,_,hcell12,hfr12,_⟩:=hO1.at 12 Zo;injection e1 with e1
 injection e1 with e1 _
 subst e1;have hle:=hO1.le;have hO2:=hO1.put 8 Zo (at' t 8 &&& 127);have hO3:=hO2.put 12 Zo (at' t 12 &&& 127);rw [<- hC.out] at hO3;have hx3:Ext w ((w1.setCell ⟨g,8,none⟩ (Zz Zu (n8 (at' t 8 &&& 127)))).setCell ⟨g,12,none⟩ (Zz Zu (n8 (at' t 12 &&& 127)))):=Ext.setCell (Ext.setCell hx1 hg _) hg _;rw [show t.getD 8 0=at' t 8 from rfl] at hcell8;rw [show t.getD 12 0=at' t 12 from rfl] at hcell12;clear hO1 hO2;go_wp2_with fail
 go_region
 go_wp2;go_ret;exact ⟨_,_,rfl,hO3.ext (Ext.drew (FD _)),hx3.drew⟩
theorem tM (a b c:E8)(n ca m cb k cc:Nat) (ky:E7)(A:List E7) (p:E7)(w:World)(hk:Sl w a n ky) (hca:n<=ca) (hA:Bsc w b m A) (hm:m<=1000000) (hp:Sl w c k p) (hkc:k<=cc) :
  Calls Tryz.prog 108 #[Zy a n ca, Zy b m cb, Zy c k cc] w (bD (cK ky A p).1.length (cK ky A p).1 (Zz Zx (cK ky A p).2) w):=by
 have hc:=λ w h1 h2=>oB a b n ca m cb ky A (k:Int) w h1 h2 hm;have hpl:=hp.len;have hcr:=pH ky A k;by_cases h0:aO ky A=0/\k<=65519
 ·obtain ⟨h0,hl⟩:=h0;have h00:dr ky A k=0:=by rw [hcr,aae (by rw [h0];simp),aae Zo]
  rw [h00] at hc;obtain ⟨h32,h16,hmx⟩:=gC h0;rw [hk.len] at h32;rw [hA.len] at h16;subst h32;rw [jd h0 Zo];show Calls _ _ _ _ (bD (s2v _ _).length _ _ _);rw [dG];have hmax:∀ x∈A++[p],x.length<=65535:=by
   exact z27q60
  have q:(16:Int)<=(ca:Int):=Zo;clear h0 h00 hcr hmx hpl
  go_enter Tryz.func108,Tryz.ntmps108
  go_wp2_with (first|(go_at_call 105;(with_reducible refine (hc ?_ ?hq12 ?hq13).mono ?_);(case hq12=>exact sS);(case hq13=>exact sC);rintro e w1 ⟨rfl,hxq⟩;obtain ⟨xq,rfl⟩:=hxq.out;clear hxq)|fail)
  have hxW:Ext w (w.ext xq):=eX;generalize w.ext xq=W at *;have hkW:=(hk.ext hxW).take 16 Zo;have hRB:=(hA.ext hxW).rdB;have hpW:=hp.ext hxW;have hSE:∀ w',Ext W w'->(Ext W) w':=(λ _ h=>h);have hExt0:Ext W (W).drew:=Ext.drew (FD _);refine aaS (S:=Ext W) Zk (hSE _ hExt0) (λ hHeld=>?_);refine aap (i:=0) (v:=?v1) rfl Zk Zk Zk (λ _ _ _ h=>h) (Or.inl ⟨by rfl,?hy1⟩) hHeld ?_;(case hy1=>(intro w' hx;simp [go_sem,execOp, *];(try simp (disch:=omega) only [q17q,q18q,q19q]);rfl));(try simp only [q14q,q15q,q16q,Act.put,q0q,q1q,q2q]);refine aap (i:=1) (v:=?v2) rfl Zk Zk Zk (λ _ _ _ h=>h) (Or.inl ⟨by rfl,?hy2⟩) hHeld ?_;(case hy2=>(intro w' hx;simp [go_sem,execOp, *];(try simp (disch:=omega) only [q17q,q18q,q19q]);rfl));(try simp only [q14q,q15q,q16q,Act.put,q0q,q1q,q2q]);refine aap (i:=3) (v:=?v3) rfl Zk Zk Zk (λ _ _ _ h=>h) (Or.inl ⟨by rfl,?hy3⟩) hHeld ?_;(case hy3=>(intro w' hx;simp [go_sem,execOp, *];(try simp (disch:=omega) only [q17q,q18q,q19q]);rfl));(try simp only [q14q,q15q,q16q,Act.put,q0q,q1q,q2q]);refine aap (i:=5) (v:=?v4) rfl Zk Zk Zk (λ _ _ _ h=>h) (Or.inl ⟨by rfl,?hy4⟩) hHeld ?_;(case hy4=>(intro w' hx;simp [go_sem,execOp, *];(try simp (disch:=omega) only [q17q,q18q,q19q]);rfl));(try simp only [q14q,q15q,q16q,Act.put,q0q,q1q,q2q]);refine R5.qS 7 9 [[],[0],[],[],[2,3],[],[5],[2,3,4,5,6],[0,1,2,3,4,5,6,7],[0,1,2,3,4,5,6,7,8],[0,1,2,3,4,5,6,7,8],[0,1,2,3,4,5,6,7,8,9,10],[0,1,2,3,4,5,6,7,8,9,10,11]] [0,1,3,5] #[true,true,true,true,true,true,true,true,true,false,false,false,false] 4 hExt0 hSE Zk Zk Zk Zk Zk Zk ?_;simp only [q8q,q9q,q10q,q11q,q12q,q13q,Nat.reduceSub];refine R5.dH rfl ?_;refine R5.dH rfl ?_;(refine R5.ai rfl (λ p => .slice (p 0).1 0 0) (λ p w''=>∃ g,(p 0).1=some ⟨g,0,none⟩/\bU w'' W.heap.size (some ⟨g,0,none⟩) 0 0 []) (λ p w w' h hx=>(let ⟨g,h1,h2⟩:=h;⟨g,h1,h2.ext hx⟩)) (λ us w' hx hf=>⟨rfl,?_⟩) ?_;(unfold gives;simp [go_sem,execOp];exact ⟨λ _=>(some ⟨w'.heap.size,0,none⟩,0),rfl,FA _ _,_,rfl,(bU.empty _).mono0 hx.size⟩));refine R5.dH rfl ?_;(refine R5.ai rfl (λ p => .slice (p 0).1 m (p 0).2) (λ p w''=>bU w'' W.heap.size (p 0).1 m (p 0).2 A) (λ p w w' h hx=>h.ext hx) (λ us w' hx hf=>⟨rfl,?_⟩) ?_;(obtain ⟨g,hg,hE⟩:=(hf _ (aac _ (aab _)) rfl);obtain ⟨sa,sc,w'',hrun,hO,hx'⟩:=R5.nG V8 w' 37 W.heap.size g hE _ m cb A (hRB.ext hx) Zo hx.size;exact R5.gg rfl (by show Value.slice (us 2 0).1 0 0=_;rw [hg]) rfl hrun ⟨λ _=>(sa,sc),rfl,hx',hO⟩));refine R5.dH rfl ?_;(refine R5.ai rfl (λ p => .slice (p 0).1 1 1) (λ p w''=>Rd w'' (p 0).1 [Zy c k cc]) (λ p w w' h hx=>h.ext hx) (λ us w' hx hf=>⟨rfl,?_⟩) ?_;(unfold gives;simp [go_sem,execOp];exact ⟨λ _=>(some ⟨w'.heap.size,0,none⟩,0),rfl,FA _ _,(Blk.new _ _ _).rd⟩));(refine R5.fN ?_;intro us w' hx hf;obtain ⟨x,rfl⟩:=hx.out;(try simp only [Act.put,q0q,q1q,q2q,wpList_none]);(try simp only [q3q,q4q,abt,aa7,forall_eq,q5q,q6q,q7q,false_or,true_and,and_true] at hf);(try simp only [Nat.reduceAdd,aaA] at hf ⊢));obtain ⟨-,hO1,hR2⟩:=hf;(refine R5.jw hSE V8 rfl rfl _ _ rfl W.heap.size _ m _ A rfl _ 1 1 ([p]) rfl hO1 (RdB.one hR2 (hpW.ext hx) hkc (hpW.inB _)) Zo hx.size (aad _) hx ?_;intro sa2 sc2 w2 hOa hg2 hB2 hx2);have hBs:=hOa.bsc;have hle:=hOa.le;have hk2:=hkW.ext hx2;(refine R5.cT rfl rfl ?_;unfold gives;simp [go_sem,execOp];(with_reducible refine (tA ?_ ?_ ?_ ?_ ?_ (ky.take 16) (A++[p]) ?_ ?hq9 ?hq10 ?hq11 hmax).mono ?_);(case hq9=>exact sS);(case hq10=>exact sC);(case hq11=>omega);rintro e _ ⟨_,_,rfl,hS,hc,hx⟩;obtain ⟨_,rfl⟩:=hx.out;clear hx;refine ⟨_,rfl,hSE _ eX,?_⟩;(try simp only [q14q,q15q,q16q,Act.put,q0q,q1q,q2q]));(refine R5.iQ ?_);refine aap (i:=9) (v:=?v5) rfl Zk Zk Zk (λ _ _ _ h=>h) (Or.inl ⟨by rfl,?hy5⟩) (hSE _ eX) ?_;(case hy5=>(intro w' hx;simp [go_sem,execOp, *];(try simp (disch:=omega) only [q17q,q18q,q19q]);rfl));(try simp only [q14q,q15q,q16q,Act.put,q0q,q1q,q2q]);refine aap (i:=10) (v:=?v6) rfl Zk Zk Zk (λ _ _ _ h=>h) (Or.inl ⟨by rfl,?hy6⟩) (hSE _ eX) ?_;(case hy6=>(intro w' hx;simp [go_sem,execOp, *];(try simp (disch:=omega) only [q17q,q18q,q19q]);rfl));(try simp only [q14q,q15q,q16q,Act.put,q0q,q1q,q2q]);refine aap (i:=11) (v:=?v7) rfl Zk Zk Zk (λ _ _ _ h=>h) (Or.inl ⟨by rfl,?hy7⟩) (hSE _ eX) ?_;(case hy7=>(intro w' hx;simp [go_sem,execOp, *];(try simp (disch:=omega) only [q17q,q18q,q19q]);rfl));(try simp only [q14q,q15q,q16q,Act.put,q0q,q1q,q2q]);refine aap (i:=12) (v:=?v8) rfl Zk Zk Zk (λ _ _ _ h=>h) (Or.inl ⟨by rfl,?hy8⟩) (hSE _ eX) ?_;(case hy8=>(intro w' hx;simp [go_sem,execOp, *];(try simp (disch:=omega) only [q17q,q18q,q19q]);rfl));(try simp only [q14q,q15q,q16q,Act.put,q0q,q1q,q2q]);refine abh Zk ?_ _;go_wp2;go_ret2;exact ⟨_,_,rfl,hS,hc,hxW.trans eX⟩
 ·obtain ⟨e,hne⟩:=zk (p:=p) (by rw [hpl];exact h0);rw [hpl] at e hne;rw [e];have hI:=ne0 hne;clear hne;generalize dr ky A k=v at *;clear e h0 hcr
  go_enter Tryz.func108,Tryz.ntmps108
  go_wp2_with (first|(go_at_call 105;(with_reducible refine (hc ?_ ?hq14 ?hq15).mono ?_);(case hq14=>exact sS);(case hq15=>exact sC);rintro e w1 ⟨rfl,hxq⟩;obtain ⟨xq,rfl⟩:=hxq.out;clear hxq)|fail)
  go_ret2;exact aC _ _ _ eX
end Go.Proofs.P9

/- Layer 6 of the document: Seal, Open. -/
namespace Go.Proofs.P9
open Go.RowKit Go.Sec Go.Oct Go.Aes BigFrame
theorem _root_.z27q72{p:Prop}(h:p:=by
 have:=h.drop ca i hca;unfold dX at this;rw [aae Zo] at this;simpa [bX] using this):p:=h
theorem jY {w:World} {b0 o0 n ca i:Nat} {l:E7} (h:Sl w (some ⟨b0,o0,none⟩) n l) (hca:n<=ca) (hi:i<n):Sl w (some ⟨b0,o0+i,none⟩) (n-i) (l.drop i):=by
 exact z27q72
theorem qA (a b c:E8)(n ca m cb k cc:Nat) (ky:E7)(A:List E7) (p:E7)(w:World)(hk:Sl w a n ky) (hca:n<=ca) (hA:Bsc w b m A) (hm:m<=1000000) (hp:Sl w c k p) (hkc:k<=cc) :
  Calls Tryz.prog 90 #[Zy a n ca, Zy b m cb, Zy c k cc] w (bD (cj ky A p).1.length (cj ky A p).1 (Zz Zx (cj ky A p).2) w):=by
 have ht:=λ w h1 h3 h5=>tM a b c n ca m cb k cc ky A p w h1 hca h3 hm h5 hkc;by_cases h0:(cK ky A p).2=0
 ·obtain ⟨h16,hck,hpl⟩:=od h0;obtain ⟨h32,_,_⟩:=gC hck;rw [hk.len] at h32;rw [hp.len] at hpl;subst h32;have e:=FC (show cj ky A p=((cK ky A p).1++stream (ky.drop 16) (dI (cK ky A p).1) p,0) by unfold cj;rw [aae (by simpa using h0)]);rw [h0,h16] at ht;have hsl:=di (ky.drop 16) (dI (cK ky A p).1) p;rw [hp.len] at hsl;obtain ⟨b0,o0,rfl,hb0,_⟩:=hk.at 0 Zo;have hk2:=jY hk hca (i:=16) Zo;have hst:=λ a1 a2 c1 c2 w h1 h2 h3 h4=>nC a1 a2 c c1 c2 cc k (ky.drop 16) (dI (cK ky A p).1) p w h1 h2 h3 h4 Zo;have hct:=λ a c w h=>m9 a c (cK ky A p).1 w h;generalize stream (ky.drop 16) (dI (cK ky A p).1) p=st at *;generalize dI (cK ky A p).1=ct at *;generalize (cK ky A p).1=tg at *;rw [e.out];have hll:(tg++st).length=16+k:=by rw [aag,h16,hsl]
  show Calls _ _ _ _ (bD (tg++st).length _ _ _);rw [hll];clear h0 hck;have hj:aV [tg,st]=tg++st:=by simp [aV]
  have hjl:(aV [tg,st]).length=16+k:=by rw [hj,hll]
  have HJ:=FC hj;have q:(16:Int)<=(ca:Int):=Zo;clear hj
  go_enter Tryz.func90,Tryz.ntmps90
  go_wp2_with fail;refine (ht _ hk hA hp).mono ?_;rintro e W ⟨a3,c3,rfl,hS3,hc3,hxW⟩;have hkW:=hk2.ext hxW;have hpW:=hp.ext hxW;have q4:¬ ca=16:=Zo;go_wp2_with fail;refine R2.ae 11 [[],[0],[],[2],[],[0,1,2,3,4],[0,1,2,3,4,5],[0,1,2,3,4,5,6],[0,1,2,3,4,5,6],[0,1,2,3,4,5,6,7],[0,1,2,3,4,5,6,7,8,9]] [] (λ h=>(h rfl).elim) Zk Zk Zk Zk Zk ?_;simp only [q8q,q9q,q10q,q11q,q12q,q13q];(repeat (refine R2.av ?_;(try simp only [Act.put,q0q,q1q,q2q])));(refine R2.ai (λ p => .slice (p 0).1 16 (p 0).2) (λ p w''=>Own w'' 0 (p 0).1 16 (p 0).2 ct) (λ p w w' h hx=>h.ext hx) (λ us w' hx hf=>⟨rfl,?_⟩) ?_;(unfold gives;simp [go_sem,execOp];exact az (aak _) (hct _ _ _ (hS3.ext hx))));(repeat (refine R2.av ?_;(try simp only [Act.put,q0q,q1q,q2q])));(refine R2.ai (λ p => .tuple #[.slice (p 0).1 k (p 0).2, Zz Zx 0]) (λ p w''=>Sl w'' (p 0).1 k (st)/\(k)<=(p 0).2) (λ p w w' h hx=>⟨h.1.ext hx,h.2⟩) (λ us w' hx hf=>⟨rfl,?_⟩) ?_;(unfold gives;simp [go_sem,execOp];exact dK (hst _ _ _ _ _ (hkW.ext hx) (Own.sl (by exact (hf _ (aac _ (aab _)) rfl))) (Own.le (by exact (hf _ (aac _ (aab _)) rfl))).1 (hpW.ext hx))));(repeat (refine R2.av ?_;(try simp only [Act.put,q0q,q1q,q2q])));(refine R2.aU ?_;intro us x hx hf);obtain ⟨-,hS4,hc4⟩:=hf;go_wp2_with fail;(with_reducible refine (aR _ _ _ [tg,st] _ (oZ ?h1 ?h2 _) Zo (16+k) hjl Zo).mono ?_)
  case h1=>exact (by (repeat' (first|with_reducible assumption|(with_reducible exact dE _)|(with_reducible exact bI _ _ _)|(with_reducible first|apply Sl.upE|apply Sl.upA|apply Sl.upD))))
  case h2=>exact (by (repeat' (first|with_reducible assumption|(with_reducible exact dE _)|(with_reducible exact bI _ _ _)|(with_reducible first|apply Sl.upE|apply Sl.upA|apply Sl.upD))))
  rintro e _ ⟨_,_,rfl,hO,hx⟩;obtain ⟨_,rfl⟩:=hx.out;clear hx;go_wp2;rw [HJ.out] at hO;go_ret2;exact ⟨_,_,rfl,hO.sl,hO.le.1,hxW.trans eX⟩
 ·have e:cj ky A p=([],(cK ky A p).2):=by unfold cj;rw [aaj h0]
  rw [e];have hI:=ne0 h0;generalize (cK ky A p).2=v at *;generalize (cK ky A p).1=tg at *;clear e h0
  go_enter Tryz.func90,Tryz.ntmps90
  go_wp2_with (first|(go_at_call 108;(with_reducible refine (ht ?_ ?hq1 ?hq2 ?hq3).mono ?_);(case hq1=>exact sS);(case hq2=>exact sC);(case hq3=>exact sS);rintro e _ ⟨_,_,rfl,hS,hc,hx⟩;obtain ⟨_,rfl⟩:=hx.out;clear hx)|fail)
  go_ret2;exact aC _ _ _ eX
theorem qp (a b c:E8)(n ca m cb k cc:Nat) (ky:E7)(A:List E7) (s:E7)(w:World)(hk:Sl w a n ky) (hca:n<=ca) (hA:Bsc w b m A) (hm:m<=1000000) (hs:Sl w c k s) (hkc:k<=cc) (hk1:k<=1000000) :
  Calls Tryz.prog 68 #[Zy a n ca, Zy b m cb, Zy c k cc] w (bD (bL ky A s).1.length (bL ky A s).1 (Zz Zx (bL ky A s).2) w):=by
 have hc:=λ w h1 h2=>oB a b n ca m cb ky A ((k:Int)-16) w h1 h2 hm;have hsl:=hs.len;by_cases h0:aO ky A=0/\k<=65535
 ·obtain ⟨h0,hl⟩:=h0;obtain ⟨h32,_,_⟩:=gC h0;rw [hk.len] at h32;subst h32;have h00:dr ky A ((k:Int)-16)=0:=by unfold dr;rw [aae (by rw [h0];simp),aae Zo]
  rw [h00] at hc;by_cases h16:k<16
  ·have e:bL ky A s=([],1):=by unfold bL;rw [aae (by rw [h0];simp),aae Zo,aaj Zo]
   rw [e];have hI:decide ((k:Int)<16)=true:=by simp;omega
   clear e h0 hsl h00
   go_enter Tryz.func68,Tryz.ntmps68
   go_wp2_with (first|(go_at_call 105;(with_reducible refine (hc ?_ ?hq12 ?hq13).mono ?_);(case hq12=>exact sS);(case hq13=>exact sC);rintro e w1 ⟨rfl,hxq⟩;obtain ⟨xq,rfl⟩:=hxq.out;clear hxq)|fail)
   go_ret2;exact aC _ _ _ eX
  ·have e:=FC (show bL ky A s=if (cK ky A (bG ky s)).1=s.take 16 then (bG ky s,0) else ([],6) by unfold bL;rw [aae (by rw [h0];simp),aae Zo,aae Zo]);have htg:cK ky A (bG ky s)=(s2v (ky.take 16) (A++[bG ky s]),0):=jd h0 (by rw [du];omega);have ht:=λ c cc w h1 h3 h5 h6=>tM a b c 32 ca m cb (k-16) cc ky A (bG ky s) w h1 hca h3 hm h5 h6;have hpo:bG ky s=stream (ky.drop 16) (dI (s.take 16)) (s.drop 16):=rfl;obtain ⟨b0,o0,rfl,hb0,_⟩:=hk.at 0 Zo;have hk2:=jY hk hca (i:=16) Zo;have hs1:=hs.take 16 Zo;have hs2:=hs.drop cc 16 hkc;have hst:=λ a1 a2 a3 c1 c2 c3 w h1 h2 h3 h4=>nC a1 a2 a3 c1 c2 c3 (k-16) (ky.drop 16) (dI (s.take 16)) (s.drop 16) w h1 h2 h3 h4 Zo;have hct:=λ a c w h=>m9 a c (s.take 16) w h;rw [<- hpo] at hst;rw [htg] at ht;rw [htg] at e;have hpl:(bG ky s).length=k-16:=by rw [du];omega
   have htl:=dG (ky.take 16) (A++[bG ky s]);simp only at ht e;rw [htl] at ht;generalize s2v (ky.take 16) (A++[bG ky s])=tg at *;generalize bG ky s=pl at *;generalize dI (s.take 16)=ct at *;generalize s.take 16=s0 at *;generalize s.drop 16=s1 at *;clear htg h0 hpo hsl h00;rw [e.out];have hI:decide ((k:Int)<16)=false:=by simp;omega
   have q:(16:Int)<=(ca:Int):=Zo;have q2:(16:Int)<=(k:Int):=Zo;have q3:(16:Int)<=(cc:Int):=Zo;have q4:¬ ca=16:=Zo;by_cases he:tg=s0
   ·rw [aaj he];show Calls _ _ _ _ (bD pl.length _ _ _);rw [hpl];have hb:(tg == s0)=true:=by simpa using he
    clear he;clear e
    go_enter Tryz.func68,Tryz.ntmps68
    go_wp2_with (first|(go_at_call 105;(with_reducible refine (hc ?_ ?hq14 ?hq15).mono ?_);(case hq14=>exact sS);(case hq15=>exact sC);rintro e w1 ⟨rfl,hxq⟩;obtain ⟨xq,rfl⟩:=hxq.out;clear hxq)|fail)
    have hxW:Ext w (w.ext xq):=eX;have hkW:=hk2.ext hxW;have hs1W:=hs1.ext hxW;have hs2W:=hs2.ext hxW;have hkk:=hk.ext hxW;have hAA:=hA.ext hxW;generalize w.ext xq=W at *;refine R2.ae 13 [[],[0],[],[2],[2,3],[],[5],[0,1,2,3,4,5,6],[0,1,2,3,4,5,6,7],[0,1,2,3,4,5,6,7,8],[0,1,2,3,4,5,6,7,8],[0,1,2,3,4,5,6,7,8,9],[0,1,2,3,4,5,6,7,8,9,10,11]] [] (λ h=>(h rfl).elim) Zk Zk Zk Zk Zk ?_;simp only [q8q,q9q,q10q,q11q,q12q,q13q];(repeat (refine R2.av ?_;(try simp only [Act.put,q0q,q1q,q2q])));(refine R2.ai (λ p => .slice (p 0).1 16 (p 0).2) (λ p w''=>Own w'' 0 (p 0).1 16 (p 0).2 ct) (λ p w w' h hx=>h.ext hx) (λ us w' hx hf=>⟨rfl,?_⟩) ?_;(unfold gives;simp [go_sem,execOp];exact az (aak _) (hct _ _ _ (hs1W.ext hx))));(repeat (refine R2.av ?_;(try simp only [Act.put,q0q,q1q,q2q])));(refine R2.ai (λ p => .tuple #[.slice (p 0).1 (k-16) (p 0).2, Zz Zx 0]) (λ p w''=>Sl w'' (p 0).1 (k-16) pl/\k<=(p 0).2+16) (λ p w w' h hx=>⟨h.1.ext hx,h.2⟩) (λ us w' hx hf=>⟨rfl,?_⟩) ?_;(unfold gives;simp [go_sem,execOp];exact (hst _ _ _ _ _ _ _ (hkW.ext hx) (Own.sl (by exact (hf _ (aac _ (aab _)) rfl))) (Own.le (by exact (hf _ (aac _ (aab _)) rfl))).1 (hs2W.ext hx)).mono λ _ _ ⟨a,c,he,hO,hc,hx⟩=>⟨_,he,λ _=>(a,c),rfl,hx,hO,by show k<=c+16;omega⟩));(repeat (refine R2.av ?_;(try simp only [Act.put,q0q,q1q,q2q])));(refine R2.aU ?_;intro us x hx hf);obtain ⟨-,hS4,hc4⟩:=hf
    go_wp2_with (first
     | (go_at_call 108;(with_reducible refine (ht ?_ ?_ ?_ ?hq4 ?hq5 ?hq6 ?hq7).mono ?_);(case hq4=>exact sS);(case hq5=>exact sC);(case hq6=>exact sS);(case hq7=>omega);rintro e _ ⟨_,_,rfl,hS,hc,hx⟩;obtain ⟨_,rfl⟩:=hx.out;clear hx)
     | (go_at_call 17;(with_reducible refine (gQ ?_ ?_ ?_ ?_ ?_ ?_ tg s0 ?_ ?hq16 ?hq17).mono ?_);(case hq16=>exact sS);(case hq17=>exact sS);rintro e w1 ⟨rfl,hxq⟩;obtain ⟨xq,rfl⟩:=hxq.out;clear hxq)
     | fail)
    go_ret2;exact ⟨_,_,rfl,(by (repeat' (first|with_reducible assumption|(with_reducible exact dE _)|(with_reducible exact bI _ _ _)|(with_reducible first|apply Sl.upE|apply Sl.upA|apply Sl.upD)))),Zo,hxW.trans eX⟩
   ·rw [aae he];have hb:(tg == s0)=false:=by simpa using he
    clear he;clear e
    go_enter Tryz.func68,Tryz.ntmps68
    go_wp2_with (first|(go_at_call 105;(with_reducible refine (hc ?_ ?hq18 ?hq19).mono ?_);(case hq18=>exact sS);(case hq19=>exact sC);rintro e w1 ⟨rfl,hxq⟩;obtain ⟨xq,rfl⟩:=hxq.out;clear hxq)|fail)
    have hxW:Ext w (w.ext xq):=eX;have hkW:=hk2.ext hxW;have hs1W:=hs1.ext hxW;have hs2W:=hs2.ext hxW;have hkk:=hk.ext hxW;have hAA:=hA.ext hxW;generalize w.ext xq=W at *;refine R2.ae 13 [[],[0],[],[2],[2,3],[],[5],[0,1,2,3,4,5,6],[0,1,2,3,4,5,6,7],[0,1,2,3,4,5,6,7,8],[0,1,2,3,4,5,6,7,8],[0,1,2,3,4,5,6,7,8,9],[0,1,2,3,4,5,6,7,8,9,10,11]] [] (λ h=>(h rfl).elim) Zk Zk Zk Zk Zk ?_;simp only [q8q,q9q,q10q,q11q,q12q,q13q];(repeat (refine R2.av ?_;(try simp only [Act.put,q0q,q1q,q2q])));(refine R2.ai (λ p => .slice (p 0).1 16 (p 0).2) (λ p w''=>Own w'' 0 (p 0).1 16 (p 0).2 ct) (λ p w w' h hx=>h.ext hx) (λ us w' hx hf=>⟨rfl,?_⟩) ?_;(unfold gives;simp [go_sem,execOp];exact az (aak _) (hct _ _ _ (hs1W.ext hx))));(repeat (refine R2.av ?_;(try simp only [Act.put,q0q,q1q,q2q])));(refine R2.ai (λ p => .tuple #[.slice (p 0).1 (k-16) (p 0).2, Zz Zx 0]) (λ p w''=>Sl w'' (p 0).1 (k-16) pl/\k<=(p 0).2+16) (λ p w w' h hx=>⟨h.1.ext hx,h.2⟩) (λ us w' hx hf=>⟨rfl,?_⟩) ?_;(unfold gives;simp [go_sem,execOp];exact (hst _ _ _ _ _ _ _ (hkW.ext hx) (Own.sl (by exact (hf _ (aac _ (aab _)) rfl))) (Own.le (by exact (hf _ (aac _ (aab _)) rfl))).1 (hs2W.ext hx)).mono λ _ _ ⟨a,c,he,hO,hc,hx⟩=>⟨_,he,λ _=>(a,c),rfl,hx,hO,by show k<=c+16;omega⟩));(repeat (refine R2.av ?_;(try simp only [Act.put,q0q,q1q,q2q])));(refine R2.aU ?_;intro us x hx hf);obtain ⟨-,hS4,hc4⟩:=hf
    go_wp2_with (first
     | (go_at_call 108;(with_reducible refine (ht ?_ ?_ ?_ ?hq8 ?hq9 ?hq10 ?hq11).mono ?_);(case hq8=>exact sS);(case hq9=>exact sC);(case hq10=>exact sS);(case hq11=>omega);rintro e _ ⟨_,_,rfl,hS,hc,hx⟩;obtain ⟨_,rfl⟩:=hx.out;clear hx)
     | (go_at_call 17;(with_reducible refine (gQ ?_ ?_ ?_ ?_ ?_ ?_ tg s0 ?_ ?hq20 ?hq21).mono ?_);(case hq20=>exact sS);(case hq21=>exact sS);rintro e w1 ⟨rfl,hxq⟩;obtain ⟨xq,rfl⟩:=hxq.out;clear hxq)
     | fail)
    go_ret2;exact aC _ _ _ (hxW.trans eX)
 ·have e:bL ky A s=([],dr ky A ((k:Int)-16))/\dr ky A ((k:Int)-16)≠0:=by
   unfold bL dr;by_cases h1:aO ky A≠0
   ·rw [aaj h1,aaj h1];exact ⟨rfl,h1⟩
   ·have h2:65535<k:=by
     rcases abe 65535 k with h3|h3
     ·exact h3
     ·exact absurd ⟨by simpa using h1,h3⟩ h0
    rw [aae h1,aae h1,aaj Zo,aaj Zo];exact ⟨rfl,Zd⟩
  obtain ⟨e,hne⟩:=e;rw [e];have hI:=ne0 hne;generalize dr ky A ((k:Int)-16)=v at *;clear e h0 hne
  go_enter Tryz.func68,Tryz.ntmps68
  go_wp2_with (first|(go_at_call 105;(with_reducible refine (hc ?_ ?hq22 ?hq23).mono ?_);(case hq22=>exact sS);(case hq23=>exact sC);rintro e w1 ⟨rfl,hxq⟩;obtain ⟨xq,rfl⟩:=hxq.out;clear hxq)|fail)
  go_ret2;exact aC _ _ _ eX
end Go.Proofs.P9

/- Layer 6: the sanity check, and the laws AeadActs and AeadOpens. -/
namespace Go.Aes
def DK (ky:E7)(A:List E7) (b:E7):Bool:=decide (ky.length<=60) && decide (A.length<=20) && decide (b.length<=100) && A.all λ x=>decide (x.length<=60)
theorem sn {ky:E7} {A:List (E7)} (h1:ky.length=32) (h2:A.length<=16) (h3:∀ x∈A,x.length<=60):aO ky A=0:=by
 unfold aO cY;rw [aae Zo,aae Zo,aae];rw [Bool.not_eq_true,List.any_eq_false];intro x hx;have:=h3 x hx;simp;omega
end Go.Aes
namespace Go.Proofs.P9
open Go.RowKit Go.Sec Go.Oct Go.Aes Go.Sha BigFrame
def EY:E7:=[102,102,102,101,102,100,102,99,102,98,102,97,102,57,102,56,102,55,102,54,102,53,102,52,102,51,102,50,102,49,102,48,102,48,102,49,102,50,102,51,102,52,102,53,102,54,102,55,102,56,102,57,102,97,102,98,102,99,102,100,102,101,102,102]
def EU:E7:=[255,254,253,252,251,250,249,248,247,246,245,244,243,242,241,240,240,241,242,243,244,245,246,247,248,249,250,251,252,253,254,255]
def EN:E7:=[49,48,49,49,49,50,49,51,49,52,49,53,49,54,49,55,49,56,49,57,49,97,49,98,49,99,49,100,49,101,49,102,50,48,50,49,50,50,50,51,50,52,50,53,50,54,50,55]
def E2:E7:=[16,17,18,19,20,21,22,23,24,25,26,27,28,29,30,31,32,33,34,35,36,37,38,39]
def ER:E7:=[49,49,50,50,51,51,52,52,53,53,54,54,55,55,56,56,57,57,97,97,98,98,99,99,100,100,101,101]
def E6:E7:=[17,34,51,68,85,102,119,136,153,170,187,204,221,238]
def EW:E7:=[56,53,54,51,50,100,48,55,99,54,101,56,102,51,55,102,57,53,48,97,99,100,51,50,48,97,50,101,99,99,57,51,52,48,99,48,50,98,57,54,57,48,99,52,100,99,48,52,100,97,101,102,55,102,54,97,102,101,53,99]
def E4:E7:=[133,99,45,7,198,232,243,127,149,10,205,50,10,46,204,147,64,192,43,150,144,196,220,4,218,239,127,106,254,92]
end Go.Proofs.P9

/- Layer 20 as plain functions. -/
namespace Go.Chan
open Go.Sha Go.Oct Go.Aes Go.Sec
structure Ch where
 cl:Bool
 sec:E7
 snd:E7
 rcv:E7
 st:Int
 rc:Int
deriving DecidableEq
def upS:E7:=[115,101,99,116,105,109,101,32,117,112]
def CU:E7:=[115,101,99,116,105,109,101,32,100,111,119,110]
def DS:E7:=[115,101,99,116,105,109,101,32,101,120,112,111,114,116]
def upK (s:E7):E7:=eh s upS 32
def AV (s:E7):E7:=eh s CU 32
def keyed (cl:Bool) (s:E7)(st rc:Int):Ch:=⟨cl,s,if cl then upK s else AV s,if cl then AV s else upK s,st,rc⟩
def fs:Ch:=⟨false,[],[],[],0,0⟩
def CX (c:Ch):Prop:=c.sec.length=32/\0<=c.st/\c.st<=1099511627776/\0<=c.rc/\c.rc<=1099511627776
instance (c:Ch):Decidable (CX c):=inferInstanceAs (Decidable (_/\_))
def rA (c:Ch):Bool:=decide (CX c) && ((keyed c.cl c.sec c.st c.rc).snd == c.snd && (keyed c.cl c.sec c.st c.rc).rcv == c.rcv)
def DZ (cl:Bool) (secret hello:E7):Ch × Int:=if secret.length<16\/65535<secret.length then (fs,5) else (keyed cl (kN (sha hello) secret) 0 0,0)
def AZ (kind:Int) (n:Nat):E7:=b8 kind :: aF 2 (UInt64.ofNat (n+16))
def CB (st:Int):E7:=aF 8 (UInt64.ofNat st.toNat)
def recC (c:Ch) (kind:Int) (b:E7):E7:=AZ kind b.length++(cj c.snd [CB c.st,AZ kind b.length] b).1
def Em (c:Ch) (kind:Int) (b:E7):Ch × E7 × Int :=
 if rA c=false then (fs,[],3) else if kind<0\/255<kind then (fs,[],4) else if 16384<b.length then (fs,[],2) else if c.st=1099511627776 then (fs,[],7)
 else (keyed c.cl c.sec (c.st+1) c.rc,recC c kind b,0)
def CZ (r:E7):Nat:=(cR ((r.drop 1).take 2)).toNat
def inC (c:Ch) (r:E7):E7 × Int:=bL c.rcv [CB c.rc,r.take 3] (r.drop 3)
def En (c:Ch) (r:E7):Ch × Int × E7 × Int :=
 if rA c=false then (fs,0,[],3) else if r.length<3 then (fs,0,[],1) else if r.length-3<CZ r then (fs,0,[],1)
 else if CZ r<r.length-3\/16400<r.length-3 then (fs,0,[],2) else if c.rc=1099511627776 then (fs,0,[],7)
 else if (inC c r).2≠0 then (fs,0,[],6) else (keyed c.cl c.sec c.st (c.rc+1),n8 (r.getD 0 0),(inC c r).1,0)
def Ds (c:Ch) (label ctx:E7)(n:Int):E7 × Int :=
 if rA c=false then ([],3) else if n<0\/8160<n then ([],4) else (eh c.sec (Bn DS label ctx) n.toNat,0)
def DB (c:Ch) (fresh:E7):Ch × Int :=
 if rA c=false then (fs,3) else if fresh.length<16\/64<fresh.length then (fs,5) else (keyed c.cl (kN fresh c.sec) 0 0,0)
end Go.Chan

/- Layer 19 as plain functions. -/
namespace Go.Cook
open Go.Sha Go.Oct Go.Aes Go.Sec
abbrev Ring:=List (Int × E7)
def mv:E7:=[115,101,99,116,105,109,101,32,115,116,97,114,116]
def vB:E7:=[115,101,99,116,105,109,101,32,110,101,120,116]
def okM (m:Int × E7):Bool:=decide (0<=m.1/\m.1<=4294967295/\m.2.length=32)
def zp (r:Ring):Bool:=r.all okM && decide (r.map (·.1)).Nodup
def aM (r:Ring):Bool:=zp r && decide (1<=r.length/\r.length<=4)
def jt (id:Int) (seed:E7):Ring × Int :=
 if id<0\/4294967295<id then ([],4) else if seed.length≠32 then ([],5) else ([(id,eh seed mv 32)],0)
def hd (r:Ring):Int × E7:=r.getD 0 (0,[])
def ku (r:Ring):Ring:=(((hd r).1+1) % 4294967296,eh (hd r).2 vB 32) :: r.take 3
def eY (r:Ring):Ring × Int :=
 if aM r=false then ([],3) else if ((hd r).1+1) % 4294967296∈(r.take 3).map (·.1) then ([],7) else (ku r,0)
def idB (id:Int):E7:=aF 4 (UInt64.ofNat id.toNat)
def fe (algo:Int) (up down:E7):E7:=aF 2 (UInt64.ofNat algo.toNat)++([0,0]++(up++down))
def dw (m:Int × E7) (algo:Int) (up down nonce:E7):E7 :=
 idB m.1++(nonce++(cj m.2 [idB m.1,nonce] (fe algo up down)).1)
def bV (r:Ring) (algo:Int) (up down nonce:E7):E7 × Int :=
 if aM r=false then ([],3) else if algo<0\/65535<algo then ([],4) else if up.length≠32\/down.length≠32 then ([],5) else if nonce.length≠16 then ([],3)
 else (dw (hd r) algo up down nonce,0)
def iG (c:E7):Int:=n64 (cR (c.take 4))
def idE (c:E7):Int × Int:=if c.length≠104 then (0,3) else (iG c,0)
def iU (r:Ring) (c:E7):Option Nat:=r.findIdx? λ m=>m.1 == iG c
def dO (r:Ring) (i:Nat) (c:E7):E7 × Int:=bL (r.getD i (0,[])).2 [c.take 4,(c.drop 4).take 16] (c.drop 20)
structure Opened where
 algo:Int
 up:E7
 down:E7
 age:Int
 err:Int
deriving DecidableEq
def cW (r:Ring) (c:E7):Opened :=
 if aM r=false\/c.length≠104 then ⟨0,[],[],0,3⟩ else
 match iU r c with
 | none=>⟨0,[],[],0,5⟩
 | some i=>if (dO r i c).2≠0\/((dO r i c).1.drop 2).take 2≠[0,0] then ⟨0,[],[],0,6⟩
  else ⟨n64 (cR ((dO r i c).1.take 2)),((dO r i c).1.drop 4).take 32,((dO r i c).1.drop 36).take 32,i,0⟩
theorem gU (id:Int):(idB id).length=4:=aw _ _
theorem kG (algo:Int) (up down:E7):(fe algo up down).length=4+up.length+down.length:=by simp [fe,aw];omega
theorem ve {ky nonce:E7} (hk:ky.length=32) (hn:nonce.length=16) (id:Int):aO ky [idB id,nonce]=0 :=
 sn hk Zs (by simp [gU];omega)
theorem bm {r:Ring}:aM r=true ↔ (∀ m∈r,0<=m.1/\m.1<=4294967295/\m.2.length=32)/\(r.map (·.1)).Nodup/\1<=r.length/\r.length<=4:=by
 unfold aM zp okM;simp [and_assoc]
theorem rQ {r:Ring} (h:1<=r.length):hd r∈r:=by
 unfold hd;rw [FF,List.getElem?_eq_getElem Zo,abq];exact aaB _
theorem ux {r:Ring}:∀ m∈r.take 3,m∈r:=λ _ h=>aaN h
theorem _root_.z27q94{p:Prop}(h:p:=by
 exact ⟨by simp only;omega,by simp only;omega,ot _ _ _⟩):p:=h
theorem vk {r:Ring} (h:aM r=true) (hn:((hd r).1+1) % 4294967296 ∉ (r.take 3).map (·.1)):aM (ku r)=true:=by
 obtain ⟨h1,h2,h3,h4⟩:=bm.1 h;refine bm.2 ⟨?_,?_,?_,?_⟩
 ·intro m hm;rcases abr.1 hm with rfl|hm
  ·exact z27q94
  ·exact h1 m (ux m hm)
 ·unfold ku;rw [aa3,List.nodup_cons];exact ⟨hn,by rw [List.map_take];exact h2.sublist (List.take_sublist _ _)⟩
 ·simp [ku]
 ·simp [ku];omega
def Down (r:Ring):Prop:=(r.map (·.1)).Pairwise (· > ·)
theorem zA {r:Ring} (h:aM r=true) (hd':Down r) (hb:(hd r).1<4294967295):Down (ku r)/\(hd (ku r)).1=(hd r).1+1/\aM (ku r)=true/\eY r=(ku r,0):=by
 obtain ⟨h1,h2,h3,h4⟩:=bm.1 h;have h0:=(h1 _ (rQ h3)).1;have e:((hd r).1+1) % 4294967296=(hd r).1+1:=Zo;have hle:∀ m∈r,m.1<=(hd r).1:=by
  intro m hm;cases r with
  | nil=>cases hm
  | cons x r =>
   have hx:hd (x :: r)=x:=rfl;rw [hx];rcases abr.1 hm with rfl|hm
   ·exact Int.le_refl _
   ·unfold Down at hd';rw [aa3,List.pairwise_cons] at hd';have:=hd'.1 m.1 (List.mem_map_of_mem hm);omega
 have hn:((hd r).1+1) % 4294967296 ∉ (r.take 3).map (·.1):=by
  rw [e];intro hm;obtain ⟨m,hm,he⟩:=aa2.1 hm;have:=hle m (ux m hm);omega
 refine ⟨?_,?_,vk h hn,?_⟩
 ·unfold Down ku;rw [aa3,List.pairwise_cons];refine ⟨?_,by rw [List.map_take];exact hd'.sublist (List.take_sublist _ _)⟩;intro a ha;obtain ⟨m,hm,rfl⟩:=aa2.1 ha;have:=hle m (ux m hm);simp only;omega
 ·show ((hd r).1+1) % 4294967296=_;exact e
 ·unfold eY;rw [aae (by rw [h];simp),aae hn]
def fW (s:Nat) (key:E7):Ring:=[((s:Int),eh key mv 32)]
def kz (r:Ring):Nat->Ring
 | 0=>r
 | t+1=>ku (kz r t)
structure Fine (r:Ring):Prop where
 ok:aM r=true
 down:Down r
theorem Fine.rot {r:Ring} (h:Fine r) (hb:(hd r).1<4294967295):Fine (ku r)/\(hd (ku r)).1=(hd r).1+1/\eY r=(ku r,0):=by
 obtain ⟨h1,h2,h3,h4⟩:=zA h.ok h.down hb;exact ⟨⟨h3,h1⟩,h2,h4⟩
theorem Df (s:Nat) (key:E7)(hs:s<=4294967295):Fine (fW s key):=by
 refine ⟨bm.2 ⟨?_,by simp [fW],by simp [fW],by simp [fW]⟩,by simp [Down,fW]⟩;intro m hm;simp only [fW,aau] at hm;subst hm;exact z27q94
theorem Dd {r:Ring} (h:Fine r) (t:Nat) (hb:(hd r).1+t<=4294967295):Fine (kz r t)/\(hd (kz r t)).1=(hd r).1+t:=by
 induction t with
 | zero=>exact ⟨h,by simp [kz]⟩
 | succ t ih =>
  obtain ⟨h1,h2⟩:=ih Zo;obtain ⟨h3,h4,_⟩:=h1.rot Zo;exact ⟨h3,by rw [kz,h4,h2];omega⟩
theorem wy {s:Nat} {seed:E7} (h:s<=4294967295) (hl:seed.length=32):jt (s:Int) seed=(fW s seed,0):=by
 unfold jt;rw [aae Zo,aae Zo];rfl
theorem ig {m:Int × E7} {algo:Int} {up down nonce:E7} (h0:0<=m.1) (h1:m.1<=4294967295) (hk:m.2.length=32) (hn:nonce.length=16) (hu:up.length=32) (hd':down.length=32) :
  (dw m algo up down nonce).length=104/\(dw m algo up down nonce).take 4=idB m.1/\((dw m algo up down nonce).drop 4).take 16=nonce/\(dw m algo up down nonce).drop 20=(cj m.2 [idB m.1,nonce] (fe algo up down)).1/\iG (dw m algo up down nonce)=m.1:=by
 have hl:=gU m.1;have hpl:=kG algo up down;have ht:(dw m algo up down nonce).take 4=idB m.1:=by unfold dw;rw [aax Zo,aah Zo]
 have hd4:(dw m algo up down nonce).drop 4=nonce++(cj m.2 [idB m.1,nonce] (fe algo up down)).1:=by
  unfold dw;rw [aa0 Zo,aaF Zo,q5q]
 refine ⟨?_,ht,?_,?_,?_⟩
 ·unfold dw;rw [pg (ve hk hn _) Zo];simp only [aag,dG,di,hl,hn,hpl];omega
 ·rw [hd4,aax Zo,aah Zo]
 ·rw [show 20=4+16 from rfl,<- abd,hd4,aa0 Zo,aaF Zo,q5q]
 ·unfold iG;rw [ht];unfold idB;unfold n64;rw [tO 4 _ Zo Zo];omega
theorem vr {r:Ring} {c:E7} {i:Nat} {m:Int × E7} (hnd:(r.map (·.1)).Nodup) (hm:r[i]?=some m) (hid:m.1=iG c):iU r c=some i:=by
 unfold iU;obtain ⟨hi,hm⟩:=List.getElem?_eq_some_iff.1 hm;rw [List.findIdx?_eq_some_iff_getElem];refine ⟨hi,by rw [hm];simpa using hid,λ j hj=>?_⟩;have:=List.pairwise_iff_getElem.1 hnd j i (by simp;omega) (by simpa using hi) hj;simp only [abp] at this;rw [hm,hid] at this;simpa using this
theorem xG {r:Ring} {i:Nat} {m:Int × E7} {algo:Int} {up down nonce:E7} (hr:aM r=true) (hm:r[i]?=some m) (ha:0<=algo) (ha2:algo<=65535) (hn:nonce.length=16) (hu:up.length=32) (hd':down.length=32) :
  cW r (dw m algo up down nonce)=⟨algo,up,down,i,0⟩:=by
 obtain ⟨h1,h2,h3,h4⟩:=bm.1 hr;obtain ⟨k0,k1,k2⟩:=h1 m (List.mem_of_getElem? hm);obtain ⟨c1,c2,c3,c4,c5⟩:=ig (algo:=algo) k0 k1 k2 hn hu hd';have hpl:=kG algo up down;have hin:dO r i (dw m algo up down nonce)=(fe algo up down,0):=by
  unfold dO;rw [c2,c3,c4,FF,hm,abq];exact oP (ve k2 hn _) Zo
 have p2:=aw 2 (UInt64.ofNat algo.toNat);have e1:(fe algo up down).take 2=aF 2 (UInt64.ofNat algo.toNat):=by unfold fe;rw [aax Zo,aah Zo]
 have e2:(fe algo up down).drop 2=[0,0]++(up++down):=by unfold fe;rw [aa0 Zo,aaF Zo,q5q]
 have e3:(fe algo up down).drop 4=up++down:=by rw [show 4=2+2 from rfl,<- abd,e2];rfl
 have e4:(fe algo up down).drop 36=down:=by rw [show 36=4+32 from rfl,<- abd,e3,aa0 Zo,aaF Zo,q5q]
 unfold cW;rw [aae (by simp [hr,c1]),vr h2 hm c5.symm];simp only;rw [hin];simp only;rw [e1,e2,e3,e4,aae Zs,aax Zo,aah Zo,aah Zo];unfold n64;rw [tO 2 _ Zo Zo]
 congr 1;omega
end Go.Cook

/- Layers 25 and 26 as plain functions: rates, refusals, a server without state. -/
namespace Go.Tsrv
open Go.Oct Go.Pkt Go.Cook
structure Srv where
 ring:Ring
 str:Int
 ev:Int
 bu:Int
 opn:Bool
def dQ (t:Int):Bool:=decide (-1152921504606846976<=t/\t<=1152921504606846976)
def fG (ev bu:Int):Bool:=decide ((1<=ev/\ev<=1099511627776)/\1<=bu/\bu<=64)
def fO (paid ev bu now:Int):Bool:=fG ev bu && (dQ now && dQ paid)
def nA (paid ev bu now:Int):Int × Int:=if fO paid ev bu now=false then (0,4) else (max 0 (paid-now-(bu-1)*ev),0)
def dC (paid ev bu now:Int):(Int × Bool) × Int :=
 if fO paid ev bu now=false then ((0,false),4) else if (bu-1)*ev<paid-now then ((paid,false),0)
 else if dQ (max paid now+ev)=false then ((0,false),4) else ((max paid now+ev,true),0)
def cy (s:Srv):Int:=if aM s.ring=false then 3 else if fG s.ev s.bu=false\/s.str<1\/255<s.str then 4 else 0
def isF (k:Int) (n:Nat) (f:Fld):Bool:=decide (f.1=k/\f.2.length=n)
def nN (L:List Fld):List Fld:=(L.drop 2).take (L.length-3)
def eA (L:List Fld):Bool :=
 decide (3<=L.length/\L.length<=10) && (isF 260 32 (L.getD 0 (0,[])) && (isF 516 104 (L.getD 1 (0,[])) && (decide ((L.getD (L.length-1) (0,[])).1=1028) && (nN L).all (isF 772 104))))
def ew (q:E7):Int :=
 if (aE q).2≠0\/(aE q).1.h.ver≠4\/(aE q).1.h.mode≠3 then 0 else if (aE q).1.plain=[] then 1 else if eA (aE q).1.plain=true then 2 else 0
def aY (q:Hdr) (r t:UInt64) (code:UInt32):Hdr:={ (iY q 0 r t).1 with id:=code }
def kB:UInt32:=1380013125
def bw:UInt32:=1314149198
def aI (s:Srv) (q:Hdr) (r t:UInt64) (al:Bool):Hdr:=if al=true then (iY q s.str r t).1 else aY q r t kB
def gF (s:Srv) (o:Opened) (N:List E7) (n:Nat):List Fld:=(List.range n).map λ k=>(516,(bV s.ring o.algo o.up o.down (N.getD (1+k) [])).1)
def pP (P:Pkt) (r t:UInt64):Pkt:=⟨aY P.h r t bw,P.plain.take 1,[],false⟩
def pS (s:Srv) (P:Pkt) (o:Opened) (r t:UInt64) (al:Bool) (N:List E7):Pkt:=⟨aI s P.h r t al,P.plain.take 1,if al=true then gF s o N (P.plain.length-2) else [],false⟩
def pY (P:Pkt):E7:=(P.plain.getD 1 (0,[])).2
def jW (s:Srv) (P:Pkt) (q:E7)(r t:UInt64) (al:Bool) (N:List E7):E7 × Bool :=
 if (cW s.ring (pY P)).err≠0\/(cV (cW s.ring (pY P)).up q).2≠0 then ((cG (pP P r t)).1,false)
 else ((cz (cW s.ring (pY P)).down (pS s P (cW s.ring (pY P)) r t al N) (N.getD 0 [])).1,true)
def yx (s:Srv) (paid paid2:Int) (al:Bool) (q:E7)(r t:UInt64) (N:List E7):E7 × Int :=
 if ew q=1 then (if s.opn=true then ((cG ⟨aI s (aE q).1.h r t al,[],[],false⟩).1,paid2) else ([],paid))
 else if ew q=2 then ((jW s (aE q).1 q r t al N).1,if (jW s (aE q).1 q r t al N).2=true then paid2 else paid) else ([],paid)
def ml (s:Srv) (paid now:Int) (q:E7)(r t:UInt64) (N:List E7):(E7 × Int) × Int :=
 if cy s≠0 then (([],0),cy s) else if (dC paid s.ev s.bu now).2≠0 then (([],0),(dC paid s.ev s.bu now).2)
 else if (N.all λ n=>decide (n.length=16))=false then (([],0),3) else if N.length<9 then (([],0),1)
 else (yx s paid (dC paid s.ev s.bu now).1.1 (dC paid s.ev s.bu now).1.2 q r t N,0)
theorem oQ (q:E7):ew q=0\/ew q=1\/ew q=2:=by
 unfold ew;split
 ·exact .inl rfl
 ·split
  ·exact .inr (.inl rfl)
  ·split
   ·exact .inr (.inr rfl)
   ·exact .inl rfl
theorem tC (q:Hdr) {s:Int} (r t:UInt64) (code:UInt32) (h0:0<=s) (h1:s<=255):{ (iY q s r t).1 with strat:=0,id:=code }=aY q r t code:=by
 unfold aY iY;split
 ·rfl
 ·split
  ·rfl
  ·rw [aae Zo,aae Zo]
end Go.Tsrv

/- The walks of layer 25: ticks.Valid, valid, Wait, Allow; of the document: Rule, Allow. -/
namespace Go.Tsrv
theorem vj {ev bu:Int} (h:fG ev bu=true):0<=(bu-1)*ev/\(bu-1)*ev<=69269232549888/\1<=ev/\ev<=1099511627776/\1<=bu/\bu<=64:=by
 unfold fG at h;obtain ⟨⟨h1,h2⟩,h3,h4⟩:=aaV h;refine ⟨Int.mul_nonneg Zo Zo,?_,h1,h2,h3,h4⟩
 calc (bu-1)*ev<=63*ev:=Int.mul_le_mul_of_nonneg_right Zo Zo
  _<=69269232549888:=Zo
theorem kh {t:Int} (h:dQ t=true) : -1152921504606846976<=t/\t<=1152921504606846976:=by
 unfold dQ at h;exact aaV h
end Go.Tsrv
namespace Go.Proofs.P9
open Go.RowKit Go.Sec Go.Tsrv BigFrame
theorem RB1:RowT Tryz.prog 32 1:=⟨⟨_,Tryz.underlying32,rfl⟩,Zk,⟨_,Tryz.zeroValue32,Zk⟩⟩
theorem dU (t:Int) (w:World) :
  Calls Tryz.prog 74 #[Zz Zx t] w λ e w'=>e = .returned (.bool (dQ t))/\Ext w w':=by
 by_cases h1 : -1152921504606846976<=t
 ·by_cases h2:t<=1152921504606846976
  ·have e:=FC (show dQ t=true from aav ⟨h1,h2⟩)
   go_enter Tryz.func74,Tryz.ntmps74
   go_wp2;go_ret;exact ⟨by rw [e.out];rfl,eX⟩
  ·have e:=FC (show dQ t=false from aay λ h=>h2 h.2)
   go_enter Tryz.func74,Tryz.ntmps74
   go_wp2;go_ret;exact ⟨by rw [e.out];rfl,eX⟩
 ·have e:=FC (show dQ t=false from aay λ h=>h1 h.1)
  go_enter Tryz.func74,Tryz.ntmps74
  go_wp2;go_ret;exact ⟨by rw [e.out];rfl,eX⟩
theorem gx (t:Int) (w:World) :
  Calls Tryz.prog 85 #[Zz Zx t] w λ e w'=>e = .returned (.bool (dQ t))/\Ext w w':=by
 by_cases h1 : -1152921504606846976<=t
 ·by_cases h2:t<=1152921504606846976
  ·have e:=FC (show dQ t=true from aav ⟨h1,h2⟩)
   go_enter Tryz.func85,Tryz.ntmps85
   go_wp2;go_ret;exact ⟨by rw [e.out];rfl,eX⟩
  ·have e:=FC (show dQ t=false from aay λ h=>h2 h.2)
   go_enter Tryz.func85,Tryz.ntmps85
   go_wp2;go_ret;exact ⟨by rw [e.out];rfl,eX⟩
 ·have e:=FC (show dQ t=false from aay λ h=>h1 h.1)
  go_enter Tryz.func85,Tryz.ntmps85
  go_wp2;go_ret;exact ⟨by rw [e.out];rfl,eX⟩
theorem uU (p ev bu now:Int) (w:World) :
  Calls Tryz.prog 99 #[.agg #[Zz Zx p], .agg #[Zz Zx ev, Zz Zx bu], Zz Zx now] w λ e w'=>e = .returned (.bool (fO p ev bu now))/\Ext w w':=by
 obtain ⟨r,hr⟩:∃ r,fO p ev bu now=r:=⟨_,rfl⟩;rw [hr];have hru:fG ev bu=false->r=false:=λ h=>by rw [<- hr];unfold fO;rw [h];rfl
 have hok:fG ev bu=true->r=(dQ now && dQ p):=λ h=>by rw [<- hr];unfold fO;rw [h];rfl
 clear hr;by_cases c1:1<=ev
 ·by_cases c2:ev<=1099511627776
  ·by_cases c3:1<=bu
   ·by_cases c4:bu<=64
    ·cases h1:dQ now
     ·have e:=FC (show r=false by rw [hok (aav ⟨⟨c1,c2⟩,c3,c4⟩),h1];rfl);clear hru hok
      go_enter Tryz.func99,Tryz.ntmps99
      go_wp2_with (first
       | (go_at_call 74;refine (dU _ _).mono ?_;rintro e w1 ⟨rfl,hxq⟩;obtain ⟨xq,rfl⟩:=hxq.out;clear hxq)
       | fail)
      go_ret;exact ⟨by rw [e.out];rfl,eX⟩
     ·cases h2:dQ p
      ·have e:=FC (show r=false by rw [hok (aav ⟨⟨c1,c2⟩,c3,c4⟩),h1,h2];rfl);clear hru hok
       go_enter Tryz.func99,Tryz.ntmps99
       go_wp2_with (first
        | (go_at_call 74;refine (dU _ _).mono ?_;rintro e w1 ⟨rfl,hxq⟩;obtain ⟨xq,rfl⟩:=hxq.out;clear hxq)
        | fail)
       go_ret;exact ⟨by rw [e.out];rfl,eX⟩
      ·have e:=FC (show r=true by rw [hok (aav ⟨⟨c1,c2⟩,c3,c4⟩),h1,h2];rfl);clear hru hok
       go_enter Tryz.func99,Tryz.ntmps99
       go_wp2_with (first
        | (go_at_call 74;refine (dU _ _).mono ?_;rintro e w1 ⟨rfl,hxq⟩;obtain ⟨xq,rfl⟩:=hxq.out;clear hxq)
        | fail)
       go_ret;exact ⟨by rw [e.out];rfl,eX⟩
    ·have e:=FC (hru (aay λ h=>c4 h.2.2));clear hru hok
     go_enter Tryz.func99,Tryz.ntmps99
     go_wp2_with (first
      | (go_at_call 74;refine (dU _ _).mono ?_;rintro e w1 ⟨rfl,hxq⟩;obtain ⟨xq,rfl⟩:=hxq.out;clear hxq)
      | fail)
     go_ret;exact ⟨by rw [e.out];rfl,eX⟩
   ·have e:=FC (hru (aay λ h=>c3 h.2.1));clear hru hok
    go_enter Tryz.func99,Tryz.ntmps99
    go_wp2_with (first
     | (go_at_call 74;refine (dU _ _).mono ?_;rintro e w1 ⟨rfl,hxq⟩;obtain ⟨xq,rfl⟩:=hxq.out;clear hxq)
     | fail)
    go_ret;exact ⟨by rw [e.out];rfl,eX⟩
  ·have e:=FC (hru (aay λ h=>c2 h.1.2));clear hru hok
   go_enter Tryz.func99,Tryz.ntmps99
   go_wp2_with (first
    | (go_at_call 74;refine (dU _ _).mono ?_;rintro e w1 ⟨rfl,hxq⟩;obtain ⟨xq,rfl⟩:=hxq.out;clear hxq)
    | fail)
   go_ret;exact ⟨by rw [e.out];rfl,eX⟩
 ·have e:=FC (hru (aay λ h=>c1 h.1.1));clear hru hok
  go_enter Tryz.func99,Tryz.ntmps99
  go_wp2_with (first
   | (go_at_call 74;refine (dU _ _).mono ?_;rintro e w1 ⟨rfl,hxq⟩;obtain ⟨xq,rfl⟩:=hxq.out;clear hxq)
   | fail)
  go_ret;exact ⟨by rw [e.out];rfl,eX⟩
theorem lC {p ev bu now:Int} (h:fO p ev bu now=true):fG ev bu=true/\dQ now=true/\dQ p=true:=by
 unfold fO at h;rw [aaz,aaz] at h;exact h
theorem qH (p ev bu now:Int) (w:World) :
  Calls Tryz.prog 58 #[.agg #[Zz Zx p], .agg #[Zz Zx ev, Zz Zx bu], Zz Zx now] w λ e w'=>e = .returned (.tuple #[Zz Zx (nA p ev bu now).1, Zz Zx (nA p ev bu now).2])/\Ext w w':=by
 have hk:=λ W=>uU p ev bu now W;obtain ⟨r,hr⟩:∃ r,nA p ev bu now=r:=⟨_,rfl⟩;rw [hr];unfold nA at hr;cases hv:fO p ev bu now
 ·rw [hv] at hk hr;rw [aaj rfl] at hr;have hr:=FC hr
  go_enter Tryz.func58,Tryz.ntmps58
  go_wp2_with (first
   | (go_at_call 99;refine (hk _).mono ?_;rintro e w1 ⟨rfl,hxq⟩;obtain ⟨xq,rfl⟩:=hxq.out;clear hxq)
   | fail)
  go_ret2;exact ⟨by rw [<- hr.out];rfl,eX⟩
 ·obtain ⟨q1,q2,q3⟩:=lC hv;obtain ⟨z0,z1,e0,e1,b0,b1⟩:=vj q1;have n1:=kh q2;have p1:=kh q3;rw [hv] at hk hr;rw [aae Zs] at hr;have hr:=FC hr;clear q1 q2 q3 hv
  go_enter Tryz.func58,Tryz.ntmps58
  go_wp2_with (first
   | (go_at_call 99;refine (hk _).mono ?_;rintro e w1 ⟨rfl,hxq⟩;obtain ⟨xq,rfl⟩:=hxq.out;clear hxq)
   | fail)
  go_ret2;exact ⟨by rw [<- hr.out];rfl,eX⟩
theorem uK (p ev bu now:Int) (w:World) :
  Calls Tryz.prog 39 #[.agg #[Zz Zx p], .agg #[Zz Zx ev, Zz Zx bu], Zz Zx now] w λ e w'=>e = .returned (.tuple #[.agg #[Zz Zx (dC p ev bu now).1.1], .bool (dC p ev bu now).1.2, Zz Zx (dC p ev bu now).2])/\Ext w w':=by
 have hk:=λ W=>qH p ev bu now W;obtain ⟨r,hr⟩:∃ r,dC p ev bu now=r:=⟨_,rfl⟩;rw [hr];unfold dC at hr;unfold nA at hk;cases hv:fO p ev bu now
 ·rw [hv] at hk hr;rw [aaj rfl] at hr;simp only [aba] at hk;have hr:=FC hr;clear hv
  go_enter Tryz.func39,Tryz.ntmps39
  go_wp2_with (first
   | (go_at_call 58;refine (hk _).mono ?_;rintro e w1 ⟨rfl,hxq⟩;obtain ⟨xq,rfl⟩:=hxq.out;clear hxq)
   | (go_at_call 74;refine (dU _ _).mono ?_;rintro e w1 ⟨rfl,hxq⟩;obtain ⟨xq,rfl⟩:=hxq.out;clear hxq)
   | fail)
  go_returns
  exact ⟨by rw [<- hr.out] <;> rfl,by repeat (first|(with_reducible exact FD _)|assumption|(with_reducible apply Ext.alloc)|(with_reducible apply Ext.ext)|(refine Ext.setCell ?_ (by dsimp only;omega) _))⟩
 ·obtain ⟨q1,q2,q3⟩:=lC hv;obtain ⟨z0,z1,e0,e1,b0,b1⟩:=vj q1;have n1:=kh q2;have p1:=kh q3;rw [hv] at hk hr;rw [aae Zs] at hr;simp only [abw,abg] at hk;clear q1 q2 q3 hv;generalize (bu-1)*ev=z at *;by_cases hz:z<p-now
  ·rw [aaj hz] at hr;have hr:=FC hr;have hm:max 0 (p-now-z)=p-now-z:=Zo;have hm2:0<p-now-z:=Zo;rw [hm] at hk;clear hz hm
   go_enter Tryz.func39,Tryz.ntmps39
   go_wp2_with (first
    | (go_at_call 58;refine (hk _).mono ?_;rintro e w1 ⟨rfl,hxq⟩;obtain ⟨xq,rfl⟩:=hxq.out;clear hxq)
    | (go_at_call 74;refine (dU _ _).mono ?_;rintro e w1 ⟨rfl,hxq⟩;obtain ⟨xq,rfl⟩:=hxq.out;clear hxq)
    | fail)
   go_returns
   exact ⟨by rw [<- hr.out] <;> rfl,by repeat (first|(with_reducible exact FD _)|assumption|(with_reducible apply Ext.alloc)|(with_reducible apply Ext.ext)|(refine Ext.setCell ?_ (by dsimp only;omega) _))⟩
  ·rw [aae hz] at hr;have hm:max 0 (p-now-z)=0:=Zo;rw [hm] at hk;clear hm hz;obtain ⟨x,hx⟩:∃ x,max p now=x:=⟨_,rfl⟩;have hx1 : -1152921504606846976<=x:=Zo;have hx2:x<=1152921504606846976:=Zo;rw [hx] at hr;cases ht:dQ (x+ev)
   ·rw [ht,aaj rfl] at hr;have hr:=FC hr
    go_enter Tryz.func39,Tryz.ntmps39
    go_wp2_with (first
     | (go_at_call 58;refine (hk _).mono ?_;rintro e w1 ⟨rfl,hxq⟩;obtain ⟨xq,rfl⟩:=hxq.out;clear hxq)
     | (go_at_call 74;refine (dU _ _).mono ?_;rintro e w1 ⟨rfl,hxq⟩;obtain ⟨xq,rfl⟩:=hxq.out;clear hxq)
     | fail)
    go_returns
    exact ⟨by rw [<- hr.out] <;> rfl,by repeat (first|(with_reducible exact FD _)|assumption|(with_reducible apply Ext.alloc)|(with_reducible apply Ext.ext)|(refine Ext.setCell ?_ (by dsimp only;omega) _))⟩
   ·rw [ht,aae Zs] at hr;have hr:=FC hr
    go_enter Tryz.func39,Tryz.ntmps39
    go_wp2_with (first
     | (go_at_call 58;refine (hk _).mono ?_;rintro e w1 ⟨rfl,hxq⟩;obtain ⟨xq,rfl⟩:=hxq.out;clear hxq)
     | (go_at_call 74;refine (dU _ _).mono ?_;rintro e w1 ⟨rfl,hxq⟩;obtain ⟨xq,rfl⟩:=hxq.out;clear hxq)
     | fail)
    go_returns
    exact ⟨by rw [<- hr.out] <;> rfl,by repeat (first|(with_reducible exact FD _)|assumption|(with_reducible apply Ext.alloc)|(with_reducible apply Ext.ext)|(refine Ext.setCell ?_ (by dsimp only;omega) _))⟩
theorem ra (ev bu:Int) (w:World) :
  Calls Tryz.prog 60 #[.agg #[Zz Zx ev, Zz Zx bu]] w λ e w'=>e = .returned (.bool (fG ev bu))/\Ext w w':=by
 obtain ⟨r,hr⟩:∃ r,fG ev bu=r:=⟨_,rfl⟩;rw [hr];have hru:¬ ((1<=ev/\ev<=1099511627776)/\1<=bu/\bu<=64)->r=false:=λ h=>by rw [<- hr];exact aay h
 have hok:((1<=ev/\ev<=1099511627776)/\1<=bu/\bu<=64)->r=true:=λ h=>by rw [<- hr];exact aav h
 clear hr;by_cases c1:1<=ev
 ·by_cases c2:ev<=1099511627776
  ·by_cases c3:1<=bu
   ·by_cases c4:bu<=64
    ·have e:=FC (hok ⟨⟨c1,c2⟩,c3,c4⟩);clear hru hok
     go_enter Tryz.func60,Tryz.ntmps60
     go_wp2_with fail;go_ret;exact ⟨by rw [e.out];rfl,eX⟩
    ·have e:=FC (hru λ h=>c4 h.2.2);clear hru hok
     go_enter Tryz.func60,Tryz.ntmps60
     go_wp2_with fail;go_ret;exact ⟨by rw [e.out];rfl,eX⟩
   ·have e:=FC (hru λ h=>c3 h.2.1);clear hru hok
    go_enter Tryz.func60,Tryz.ntmps60
    go_wp2_with fail;go_ret;exact ⟨by rw [e.out];rfl,eX⟩
  ·have e:=FC (hru λ h=>c2 h.1.2);clear hru hok
   go_enter Tryz.func60,Tryz.ntmps60
   go_wp2_with fail;go_ret;exact ⟨by rw [e.out];rfl,eX⟩
 ·have e:=FC (hru λ h=>c1 h.1.1);clear hru hok
  go_enter Tryz.func60,Tryz.ntmps60
  go_wp2_with fail;go_ret;exact ⟨by rw [e.out];rfl,eX⟩
theorem uI (p ev bu now:Int) (w:World) :
  Calls Tryz.prog 45 #[.agg #[Zz Zx p], .agg #[Zz Zx ev, Zz Zx bu], Zz Zx now] w λ e w'=>e = .returned (.tuple #[.agg #[Zz Zx (dC p ev bu now).1.1], .bool (dC p ev bu now).1.2, Zz Zx (dC p ev bu now).2])/\Ext w w':=by
 have hk:=λ W=>ra ev bu W;obtain ⟨r,hr⟩:∃ r,dC p ev bu now=r:=⟨_,rfl⟩;rw [hr];unfold dC fO at hr;cases h1:fG ev bu
 ·rw [h1] at hk hr;simp only [Bool.true_and,Bool.false_and,Bool.and_false,Bool.and_true,aba,abw,abg] at hr;have hr:=FC hr;clear h1
  go_enter Tryz.func45,Tryz.ntmps45
  go_wp2_with (first
   | (go_at_call 60;refine (hk _).mono ?_;rintro e w1 ⟨rfl,hxq⟩;obtain ⟨xq,rfl⟩:=hxq.out;clear hxq)
   | (go_at_call 85;refine (gx _ _).mono ?_;rintro e w1 ⟨rfl,hxq⟩;obtain ⟨xq,rfl⟩:=hxq.out;clear hxq)
   | fail)
  go_returns
  exact ⟨by rw [<- hr.out] <;> rfl,by repeat (first|(with_reducible exact FD _)|assumption|(with_reducible apply Ext.alloc)|(with_reducible apply Ext.ext)|(refine Ext.setCell ?_ (by dsimp only;omega) _))⟩
 ·obtain ⟨z0,z1,e0,e1,b0,b1⟩:=vj h1;rw [h1] at hk hr;clear h1;cases h2:dQ now
  ·simp only [h2,Bool.true_and,Bool.false_and,Bool.and_false,Bool.and_true,aba,abw,abg] at hr;have hr:=FC hr
   go_enter Tryz.func45,Tryz.ntmps45
   go_wp2_with (first
    | (go_at_call 60;refine (hk _).mono ?_;rintro e w1 ⟨rfl,hxq⟩;obtain ⟨xq,rfl⟩:=hxq.out;clear hxq)
    | (go_at_call 85;refine (gx _ _).mono ?_;rintro e w1 ⟨rfl,hxq⟩;obtain ⟨xq,rfl⟩:=hxq.out;clear hxq)
    | fail)
   go_returns
   exact ⟨by rw [<- hr.out] <;> rfl,by repeat (first|(with_reducible exact FD _)|assumption|(with_reducible apply Ext.alloc)|(with_reducible apply Ext.ext)|(refine Ext.setCell ?_ (by dsimp only;omega) _))⟩
  ·have n1:=kh h2;cases h3:dQ p
   ·simp only [h2,h3,Bool.true_and,Bool.false_and,Bool.and_false,Bool.and_true,aba,abw,abg] at hr;have hr:=FC hr
    go_enter Tryz.func45,Tryz.ntmps45
    go_wp2_with (first
     | (go_at_call 60;refine (hk _).mono ?_;rintro e w1 ⟨rfl,hxq⟩;obtain ⟨xq,rfl⟩:=hxq.out;clear hxq)
     | (go_at_call 85;refine (gx _ _).mono ?_;rintro e w1 ⟨rfl,hxq⟩;obtain ⟨xq,rfl⟩:=hxq.out;clear hxq)
     | fail)
    go_returns
    exact ⟨by rw [<- hr.out] <;> rfl,by repeat (first|(with_reducible exact FD _)|assumption|(with_reducible apply Ext.alloc)|(with_reducible apply Ext.ext)|(refine Ext.setCell ?_ (by dsimp only;omega) _))⟩
   ·have p1:=kh h3;simp only [h2,h3,Bool.true_and,Bool.false_and,Bool.and_false,Bool.and_true,aba,abw,abg] at hr;obtain ⟨x,hx⟩:∃ x,max p now=x:=⟨_,rfl⟩;have hx1 : -1152921504606846976<=x:=Zo;have hx2:x<=1152921504606846976:=Zo;have hx3:x-now<=2305843009213693952:=Zo;have hx4:0<=x-now:=Zo;generalize hz:(bu-1)*ev=z at *;have hw1:IntKind.i64.wrap ((bu-1)*ev)=z:=by rw [hz,aaO];omega
    by_cases hc:z<p-now
    ·have hc2:z<x-now:=by omega
     rw [aaj hc] at hr;have hr:=FC hr;clear hc
     go_enter Tryz.func45,Tryz.ntmps45
     go_wp2_with (first
      | (go_at_call 60;refine (hk _).mono ?_;rintro e w1 ⟨rfl,hxq⟩;obtain ⟨xq,rfl⟩:=hxq.out;clear hxq)
      | (go_at_call 85;refine (gx _ _).mono ?_;rintro e w1 ⟨rfl,hxq⟩;obtain ⟨xq,rfl⟩:=hxq.out;clear hxq)
      | fail)
     go_returns
     exact ⟨by rw [<- hr.out] <;> rfl,by repeat (first|(with_reducible exact FD _)|assumption|(with_reducible apply Ext.alloc)|(with_reducible apply Ext.ext)|(refine Ext.setCell ?_ (by dsimp only;omega) _))⟩
    ·have hc2:¬ z<x-now:=by omega
     rw [aae hc,hx] at hr;clear hc;cases ht:dQ (x+ev)
     ·rw [ht,aaj rfl] at hr;have hr:=FC hr
      go_enter Tryz.func45,Tryz.ntmps45
      go_wp2_with (first
       | (go_at_call 60;refine (hk _).mono ?_;rintro e w1 ⟨rfl,hxq⟩;obtain ⟨xq,rfl⟩:=hxq.out;clear hxq)
       | (go_at_call 85;refine (gx _ _).mono ?_;rintro e w1 ⟨rfl,hxq⟩;obtain ⟨xq,rfl⟩:=hxq.out;clear hxq)
       | fail)
      go_returns
      exact ⟨by rw [<- hr.out] <;> rfl,by repeat (first|(with_reducible exact FD _)|assumption|(with_reducible apply Ext.alloc)|(with_reducible apply Ext.ext)|(refine Ext.setCell ?_ (by dsimp only;omega) _))⟩
     ·rw [ht,aae Zs] at hr;have hr:=FC hr
      go_enter Tryz.func45,Tryz.ntmps45
      go_wp2_with (first
       | (go_at_call 60;refine (hk _).mono ?_;rintro e w1 ⟨rfl,hxq⟩;obtain ⟨xq,rfl⟩:=hxq.out;clear hxq)
       | (go_at_call 85;refine (gx _ _).mono ?_;rintro e w1 ⟨rfl,hxq⟩;obtain ⟨xq,rfl⟩:=hxq.out;clear hxq)
       | fail)
      go_returns
      exact ⟨by rw [<- hr.out] <;> rfl,by repeat (first|(with_reducible exact FD _)|assumption|(with_reducible apply Ext.alloc)|(with_reducible apply Ext.ext)|(refine Ext.setCell ?_ (by dsimp only;omega) _))⟩
end Go.Proofs.P9

/- The walks of layer 16: Ask, Encode. -/
namespace Go.Proofs.P9
open Go.RowKit Go.Sec Go.Oct Go.Pkt BigFrame
def T3 (h:Hdr) (k:Nat):E7:=iW h++aV ([aF 4 h.rd.toUInt64,aF 4 h.rp.toUInt64,aF 4 h.id.toUInt64].take k)
def T4 (h:Hdr) (k:Nat):E7:=iW h++(aF 4 h.rd.toUInt64++(aF 4 h.rp.toUInt64++(aF 4 h.id.toUInt64++aV ([aF 8 h.ref,aF 8 h.org,aF 8 h.rcv,aF 8 h.tx].take k))))
theorem _root_.z27q48{p:Prop}(h:p:=by
 obtain ⟨h1,h2,h3,_⟩:=hk;exact D _ (by simp only [q3q,q4q,abt];omega) _ (by simp only [q3q,q4q,abt];omega) _ (by simp only [q3q,q4q,abt];omega)):p:=h
theorem Dk {h:Hdr} (hk:okH h):bits .or .i64 (bits .or .i64 (wrap64 (h.leap*64)) (wrap64 (h.ver*8))) h.mode % 256=n8 (b8 (h.leap*64+h.ver*8+h.mode)):=by
 have D:∀ a∈[(0:Int),1,2,3],∀ b∈[(3:Int),4],∀ c∈[(0:Int),1,2,3,4,5,6,7],bits .or .i64 (bits .or .i64 (wrap64 (a*64)) (wrap64 (b*8))) c % 256=n8 (b8 (a*64+b*8+c)):=by decide +kernel
 exact z27q48
theorem tB (h:Hdr) (w:World) :
  Calls Tryz.prog 142 #[.agg #[Zz Zx h.leap, Zz Zx h.ver, Zz Zx h.mode, Zz Zx h.strat, Zz Zx h.poll, Zz Zx h.prec, Zz Zv (n32 h.rd), Zz Zv (n32 h.rp), Zz Zv (n32 h.id), Zz Zw (n64 h.ref), Zz Zw (n64 h.org), Zz Zw (n64 h.rcv), Zz Zw (n64 h.tx)]] w (bD (cH h).1.length (cH h).1 (Zz Zx (cH h).2) w):=by
 have hv:=λ W=>kY h W;have hp4:=λ x W=>gI x 4 rfl (show (4:Int)=((4:Nat):Int) from rfl) W Zo;have hp8:=λ x W=>gI x 8 rfl (show (8:Int)=((8:Nat):Int) from rfl) W Zo;by_cases hk:okH h
 ·have er:cH h=(dg h,0):=aaj hk;rw [er] at hv ⊢;have hl:=dB h;show Calls _ _ _ _ (bD (dg h).length _ _ _);rw [hl]
  go_enter Tryz.func142,Tryz.ntmps142
  go_wp2_with (first
   | (go_at_call 161;refine (hv _).mono ?_;rintro e w1 ⟨rfl,hxq⟩;obtain ⟨xq,rfl⟩:=hxq.out;clear hxq)
   | fail)
  rw [Dk hk,<- lA h.strat,<- lA h.poll,<- lA h.prec];refine cU ?_;intro W hW;have hE:Ext w W:=by rw [hW];exact eX
  have hB:Blk W w.heap.size 64 [Zz Zx h.leap, Zz Zx h.ver, Zz Zx h.mode, Zz Zx h.strat, Zz Zx h.poll, Zz Zx h.prec, Zz Zv (n32 h.rd), Zz Zv (n32 h.rp), Zz Zv (n32 h.id), Zz Zw (n64 h.ref), Zz Zw (n64 h.org), Zz Zw (n64 h.rcv), Zz Zw (n64 h.tx)]:=by rw [hW];exact bK
  have hO:=Own.of_blk (w:=W) (l:=iW h) (base:=w.heap.size) (by rw [hW];exact Blk.new _ _ _) (Below.size (B:=w.heap.size) eX) (by rw [show (iW h).length=4 from rfl];decide);have hO:Own W w.heap.size _ 4 4 (iW h):=hO;clear hW hv er hk
  go_loopw [5,7,43] (λ v5 _ v43 wr=>∃ (k:Nat) (sa:E8)(sc:Nat),k<=3/\v43 = Zz Zx k/\v5 = Zy sa (4+4*k) sc/\Own wr w.heap.size sa (4+4*k) sc (T3 h k)/\Blk wr w.heap.size 64 [Zz Zx h.leap, Zz Zx h.ver, Zz Zx h.mode, Zz Zx h.strat, Zz Zx h.poll, Zz Zx h.prec, Zz Zv (n32 h.rd), Zz Zv (n32 h.rp), Zz Zv (n32 h.id), Zz Zw (n64 h.ref), Zz Zw (n64 h.org), Zz Zw (n64 h.rcv), Zz Zw (n64 h.tx)]/\Ext w wr) (λ _ _ v43 _=>3-(intOf v43).toNat)
  case atStart=>exact ⟨0,_,_,Zo,rfl,rfl,hO,hB,hE⟩
  case round =>
   clear hO hB hE;obtain ⟨k,sa,sc,hk,rfl,rfl,hO,hB,hE⟩:=hrel;obtain rfl|rfl|rfl|rfl:k=0\/k=1\/k=2\/k=3:=Zo
   ·have HT:=FC (show T3 h (0+1)=T3 h 0++aF 4 h.rd.toUInt64 by simp [T3,aV]);simp only [Nat.reduceAdd,Nat.reduceMul,aan] at hO ⊢
    go_wp2_with (first
     | (refine aW 209 62 3 Tryz.underlying209 (.inl ⟨_,Tryz.underlying62⟩) Zk rfl _ _ rfl _ 0 _ rfl rfl Zo rfl ?_)
     | fail)
    (with_reducible refine (hp4 _ _).mono ?_);rintro e w1 ⟨a1,c1,rfl,hO1,hx1⟩
    go_wp2_with (at_builtin;refine aB U rfl _ _ rfl w.heap.size sa _ sc _ rfl a1 4 c1 _ rfl (hO.ext hx1) hO1.sl Zo (hE.trans hx1).size ?_;intro sa2 sc2 w2 hO2 hg2 hB2)
    go_roundw
    case rel=>exact ⟨0+1,sa2,sc2,Zo,Zg,rfl,by rw [HT.out];exact hO2,(hB.extB hx1).grown hg2 (ed (hO.ext hx1).2 (hB.extB hx1) Zd),E9 (hE.trans hx1) hB2⟩
    case measure=>simp [intOf]
   ·have HT:=FC (show T3 h (1+1)=T3 h 1++aF 4 h.rp.toUInt64 by simp [T3,aV]);simp only [Nat.reduceAdd,Nat.reduceMul,aan] at hO ⊢
    go_wp2_with (first
     | (refine aW 209 62 3 Tryz.underlying209 (.inl ⟨_,Tryz.underlying62⟩) Zk rfl _ _ rfl _ 1 _ rfl rfl Zo rfl ?_)
     | fail)
    (with_reducible refine (hp4 _ _).mono ?_);rintro e w1 ⟨a1,c1,rfl,hO1,hx1⟩
    go_wp2_with (at_builtin;refine aB U rfl _ _ rfl w.heap.size sa _ sc _ rfl a1 4 c1 _ rfl (hO.ext hx1) hO1.sl Zo (hE.trans hx1).size ?_;intro sa2 sc2 w2 hO2 hg2 hB2)
    go_roundw
    case rel=>exact ⟨1+1,sa2,sc2,Zo,Zg,rfl,by rw [HT.out];exact hO2,(hB.extB hx1).grown hg2 (ed (hO.ext hx1).2 (hB.extB hx1) Zd),E9 (hE.trans hx1) hB2⟩
    case measure=>simp [intOf]
   ·have HT:=FC (show T3 h (2+1)=T3 h 2++aF 4 h.id.toUInt64 by simp [T3,aV]);simp only [Nat.reduceAdd,Nat.reduceMul,aan] at hO ⊢
    go_wp2_with (first
     | (refine aW 209 62 3 Tryz.underlying209 (.inl ⟨_,Tryz.underlying62⟩) Zk rfl _ _ rfl _ 2 _ rfl rfl Zo rfl ?_)
     | fail)
    (with_reducible refine (hp4 _ _).mono ?_);rintro e w1 ⟨a1,c1,rfl,hO1,hx1⟩
    go_wp2_with (at_builtin;refine aB U rfl _ _ rfl w.heap.size sa _ sc _ rfl a1 4 c1 _ rfl (hO.ext hx1) hO1.sl Zo (hE.trans hx1).size ?_;intro sa2 sc2 w2 hO2 hg2 hB2)
    go_roundw
    case rel=>exact ⟨2+1,sa2,sc2,Zo,Zg,rfl,by rw [HT.out];exact hO2,(hB.extB hx1).grown hg2 (ed (hO.ext hx1).2 (hB.extB hx1) Zd),E9 (hE.trans hx1) hB2⟩
    case measure=>simp [intOf]
   ·simp only [Nat.reduceAdd,Nat.reduceMul,aan] at hO ⊢;have hO:Own wr w.heap.size sa 16 sc (T4 h 0):=by have:=hO;unfold T4;simpa [T3,aV] using this
    haveI:=hB.blt;have f9:=hB.cell? 9 rfl;have f10:=hB.cell? 10 rfl;have f11:=hB.cell? 11 rfl;have f12:=hB.cell? 12 rfl;go_wp2_with fail;clear f9 f10 f11 f12
    go_loopw [5,9,61] (λ v5 _ v61 wr=>∃ (k:Nat) (sa:E8)(sc:Nat),k<=4/\v61 = Zz Zx k/\v5 = Zy sa (16+8*k) sc/\Own wr w.heap.size sa (16+8*k) sc (T4 h k)/\Ext w wr) (λ _ _ v61 _=>4-(intOf v61).toNat)
    case atStart=>exact ⟨0,_,_,Zo,rfl,rfl,hO,hE⟩
    case round =>
     clear hO hB hE;obtain ⟨k,sa,sc,hk,rfl,rfl,hO,hE⟩:=hrel;obtain rfl|rfl|rfl|rfl|rfl:k=0\/k=1\/k=2\/k=3\/k=4:=Zo
     ·have HT:=FC (show T4 h (0+1)=T4 h 0++aF 8 h.ref by simp [T4,aV]);simp only [Nat.reduceAdd,Nat.reduceMul,aan] at hO ⊢
      go_wp2_with (first
       | (refine aW 210 23 4 Tryz.underlying210 (.inl ⟨_,Tryz.underlying23⟩) Zk rfl _ _ rfl _ 0 _ rfl rfl Zo rfl ?_)
       | fail)
      (with_reducible refine (hp8 _ _).mono ?_);rintro e w1 ⟨a1,c1,rfl,hO1,hx1⟩
      go_wp2_with (at_builtin;refine aB U rfl _ _ rfl w.heap.size sa _ sc _ rfl a1 8 c1 _ rfl (hO.ext hx1) hO1.sl Zo (hE.trans hx1).size ?_;intro sa2 sc2 w2 hO2 hg2 hB2)
      go_roundw
      case rel=>exact ⟨0+1,sa2,sc2,Zo,Zg,rfl,by rw [HT.out];exact hO2,E9 (hE.trans hx1) hB2⟩
      case measure=>simp [intOf]
     ·have HT:=FC (show T4 h (1+1)=T4 h 1++aF 8 h.org by simp [T4,aV]);simp only [Nat.reduceAdd,Nat.reduceMul,aan] at hO ⊢
      go_wp2_with (first
       | (refine aW 210 23 4 Tryz.underlying210 (.inl ⟨_,Tryz.underlying23⟩) Zk rfl _ _ rfl _ 1 _ rfl rfl Zo rfl ?_)
       | fail)
      (with_reducible refine (hp8 _ _).mono ?_);rintro e w1 ⟨a1,c1,rfl,hO1,hx1⟩
      go_wp2_with (at_builtin;refine aB U rfl _ _ rfl w.heap.size sa _ sc _ rfl a1 8 c1 _ rfl (hO.ext hx1) hO1.sl Zo (hE.trans hx1).size ?_;intro sa2 sc2 w2 hO2 hg2 hB2)
      go_roundw
      case rel=>exact ⟨1+1,sa2,sc2,Zo,Zg,rfl,by rw [HT.out];exact hO2,E9 (hE.trans hx1) hB2⟩
      case measure=>simp [intOf]
     ·have HT:=FC (show T4 h (2+1)=T4 h 2++aF 8 h.rcv by simp [T4,aV]);simp only [Nat.reduceAdd,Nat.reduceMul,aan] at hO ⊢
      go_wp2_with (first
       | (refine aW 210 23 4 Tryz.underlying210 (.inl ⟨_,Tryz.underlying23⟩) Zk rfl _ _ rfl _ 2 _ rfl rfl Zo rfl ?_)
       | fail)
      (with_reducible refine (hp8 _ _).mono ?_);rintro e w1 ⟨a1,c1,rfl,hO1,hx1⟩
      go_wp2_with (at_builtin;refine aB U rfl _ _ rfl w.heap.size sa _ sc _ rfl a1 8 c1 _ rfl (hO.ext hx1) hO1.sl Zo (hE.trans hx1).size ?_;intro sa2 sc2 w2 hO2 hg2 hB2)
      go_roundw
      case rel=>exact ⟨2+1,sa2,sc2,Zo,Zg,rfl,by rw [HT.out];exact hO2,E9 (hE.trans hx1) hB2⟩
      case measure=>simp [intOf]
     ·have HT:=FC (show T4 h (3+1)=T4 h 3++aF 8 h.tx by simp [T4,aV]);simp only [Nat.reduceAdd,Nat.reduceMul,aan] at hO ⊢
      go_wp2_with (first
       | (refine aW 210 23 4 Tryz.underlying210 (.inl ⟨_,Tryz.underlying23⟩) Zk rfl _ _ rfl _ 3 _ rfl rfl Zo rfl ?_)
       | fail)
      (with_reducible refine (hp8 _ _).mono ?_);rintro e w1 ⟨a1,c1,rfl,hO1,hx1⟩
      go_wp2_with (at_builtin;refine aB U rfl _ _ rfl w.heap.size sa _ sc _ rfl a1 8 c1 _ rfl (hO.ext hx1) hO1.sl Zo (hE.trans hx1).size ?_;intro sa2 sc2 w2 hO2 hg2 hB2)
      go_roundw
      case rel=>exact ⟨3+1,sa2,sc2,Zo,Zg,rfl,by rw [HT.out];exact hO2,E9 (hE.trans hx1) hB2⟩
      case measure=>simp [intOf]
     ·simp only [Nat.reduceAdd,Nat.reduceMul,aan] at hO ⊢;have hT:T4 h 4=dg h:=by simp [T4,dg,pA,aV]
      rw [hT] at hO;go_wp2_with fail;go_ret2;exact ⟨_,_,rfl,hO.sl,hO.le.1,hE⟩
 ·have er:cH h=([],4):=aae hk;rw [er] at hv ⊢
  go_enter Tryz.func142,Tryz.ntmps142
  go_wp2_with (first
   | (go_at_call 161;refine (hv _).mono ?_;rintro e w1 ⟨rfl,hxq⟩;obtain ⟨xq,rfl⟩:=hxq.out;clear hxq)
   | fail)
  go_ret2;exact aC _ _ _ eX
end Go.Proofs.P9
