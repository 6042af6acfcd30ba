/- Lemmas of this claim, several texts joined. -/
import Derived.Test.YtmdahnkcnagkjaaGreatY1
import Derived.Test.YtmdahnkcnagkjaaGreatY4
import Derived.Test.YtmdahnkcnagkjaaGreatY6
import Derived.Test.YtmdahnkcnagkjaaGreatY9
import Derived.Test.YtmdahnkcnagkjaaGreatY10
import Derived.Test.YtmdahnkcnagkjaaGreatY14
import Derived.Test.YtmdahnkcnagkjaaGreatY24
import Derived.Test.YtmdahnkcnagkjaaGreatY25
set_option maxRecDepth 100000
open Go.Value renaming int -> Zz,slice -> Zy
open Go.IntKind renaming i64 -> Zx,u64 -> Zw,u32 -> Zv,u8 -> Zu
open List renaming setIfInBounds_toArray -> q0q, set_cons_succ -> q1q, set_cons_zero -> q2q, mem_cons -> q3q, not_mem_nil -> q4q, nil_append -> q5q, cons_append -> q6q, mem_append -> q7q, take_succ_cons -> q8q, take_zero -> q9q, drop_succ_cons -> q10q, drop_zero -> q11q, take_nil -> q12q, drop_nil -> q13q, getElem_toArray -> q14q, getElem_cons_succ -> q15q, getElem_cons_zero -> q16q
open Go.IntWalk renaming i64_in -> q17q, rem_in -> q18q, wrap64_in -> q19q
set_option maxHeartbeats 8000000
set_option linter.unusedVariables false
set_option linter.unusedSimpArgs false
/- Layer 6: check, copies of lists, the stream of a tag. -/
namespace Go.Proofs.YtmdahnkcnagkjaaGreat
open Go.RowKit Go.Sec Go.Oct Go.Aes BigFrame
theorem wv (a:Option Addr)(n c:Nat) (l:List UInt8)(w:World)(h:Sl w a n l) :
  Calls Tryz.prog 162 #[Zy a n c] w λ e w'=>e = .returned (.bool (decide (65519<l.length)))/\Ext w w':=by
 have hl:=h.len;by_cases hn:65519<n
 ·have hI:(65519:Int)<(n:Int):=by omega
  have e:=Lib.hid (show decide (65519<l.length)=true by simp;omega);clear hl
  go_enter Tryz.func162,Tryz.ntmps162
  go_wp2;go_ret;exact ⟨by rw [e.out];rfl,Ext.refl _⟩
 ·have hI:¬ (65519:Int)<(n:Int):=by omega
  have e:=Lib.hid (show decide (65519<l.length)=false by simp;omega);clear hl
  go_enter Tryz.func162,Tryz.ntmps162
  go_wp2;go_ret;exact ⟨by rw [e.out];rfl,Ext.refl _⟩
def AJ (A:List (List UInt8)) (w:World)(e:Ending) (w':World):Prop:=∃ r:Int,e = .returned (Zz Zx r)/\(0<=r ↔ cX A=true)/\Ext w w'
theorem pD (a:Option Addr)(n c:Nat) (A:List (List UInt8)) (w:World)(h:Bsc w a n A) (hn:n<=1000000) :
  Calls Tryz.prog 75 #[Zy a n c, .func (.func 162) #[] #[]] w (AJ A w):=by
 have hl:=h.len
 go_enter Tryz.func75,Tryz.ntmps75
 go_wp2_with fail
 go_loopw [8] (λ v8 wr=>∃ i:Nat,i<=n/\v8 = Zz Zx i/\Hid (cX (A.take i)=false)/\Ext w wr) (λ v8 _=>n-(intOf v8).toNat)
 case atStart=>exact ⟨0,Zo,rfl,Lib.hid rfl,Ext.refl _⟩
 case round =>
  obtain ⟨i,hi,rfl,hm,hx⟩:=hrel;obtain ⟨x,rfl⟩:=hx.out;by_cases hlt:i<n
  ·obtain ⟨b0,o0,a',n',c',rfl,hb0,hcell,hc',hS⟩:=(h.ext hx).at i hlt;have i0:(0:Int)<=(i:Int):=Zo;have i1:(i:Int)<(n:Int):=Zo;have hsu:=Lib.hid (show cX (A.take (i+1))=decide (65519<(A[i]'Zo).length) by
    rw [aaA Zo];unfold cX;rw [List.any_append];have:=hm.out;unfold cX at this;rw [this];simp)
   have htr:=Lib.hid (show cX (A.take (i+1))=true->cX A=true from λ h=>by
    unfold cX at h ⊢;obtain ⟨x,hx,hp⟩:=List.any_eq_true.1 h;exact List.any_eq_true.2 ⟨x,aba hx,hp⟩)
   go_wp2_with fail;refine (wv _ _ _ _ _ hS).mono ?_;rintro e w1 ⟨rfl,hx1⟩;obtain ⟨x1,rfl⟩:=hx1.out;cases hb:decide (65519<(A[i]'Zo).length)
   ·have hm2:=Lib.hid (show cX (A.take (i+1))=false by rw [hsu.out,hb]);clear hb;go_wp2_with fail;go_roundw
    case rel=>exact ⟨i+1,Zo,Zg,hm2,eX⟩
    case measure=>simp [intOf];omega
   ·have hm2:=Lib.hid (show cX A=true from htr.out (by rw [hsu.out,hb]));clear hb;go_wp2_with fail;go_ret;exact ⟨i,rfl,by rw [hm2.out];simp,eX⟩
  ·obtain rfl:i=n:=by omega
   have hlo:=Lib.hid (show cX A=false by have:=hm.out;rwa [aak Zo] at this);go_wp2_with fail;go_ret;exact ⟨-1,rfl,by rw [hlo.out];simp,eX⟩
theorem mf (a:Option Addr)(n c:Nat) (A:List (List UInt8)) (w:World)(h:Bsc w a n A) (hn:n<=1000000) :
  Calls Tryz.prog 40 #[Zy a n c, .func (.func 162) #[] #[]] w λ e w'=>e = .returned (.bool (cX A))/\Ext w w':=by
 go_enter Tryz.func40,Tryz.ntmps40
 go_wp2_with fail;refine (pD _ _ _ _ _ h hn).mono ?_;rintro e w1 ⟨r,rfl,hr,hx1⟩;have hd:=Lib.hid (show decide (0<=r)=cX A by rw [abp];simpa using hr);clear hr;go_wp2_with fail;go_ret;exact ⟨by rw [<- hd.out];rfl,hx1⟩
theorem CD {n:Nat} (h:n≠32):((n:Int) != 32)=true:=by rw [aax];omega
theorem p8 (a b:Option Addr)(n c m d:Nat) (ky:List UInt8)(A:List (List UInt8)) (w:World)(hk:Sl w a n ky) (hA:Bsc w b m A) (hm:m<=1000000) :
  Calls Tryz.prog 144 #[Zy a n c, Zy b m d] w λ e w'=>e = .returned (Zz Zx (aP ky A))/\Ext w w':=by
 have hkl:=hk.len;have hAl:=hA.len;by_cases h1:n=32
 ·by_cases h2:16<m
  ·have e:=Lib.hid (show aP ky A=8 by unfold aP;rw [aaf Zo,aal Zo]);have hI:((n:Int) != 32)=false:=by rw [aai];omega
   have hI2:(16:Int)<(m:Int):=Zo;clear hkl h1
   go_enter Tryz.func144,Tryz.ntmps144
   go_wp2_with fail;go_ret;exact ⟨by rw [e.out];rfl,Ext.refl _⟩
  ·cases hb:cX A
   all_goals
    have e:=Lib.hid (show aP ky A=if cX A then 2 else 0 by unfold aP;rw [aaf Zo,aaf Zo]);rw [hb] at e;have hI:((n:Int) != 32)=false:=by rw [aai];omega
    have hI2:¬ (16:Int)<(m:Int):=Zo;have hc:=λ w h=>mf b m d A w h hm;rw [hb] at hc;clear hkl h1 hb
    go_enter Tryz.func144,Tryz.ntmps144
    go_wp2_with (first|(go_at_call 40;(with_reducible refine (hc ?_ ?hq1).mono ?_);(case hq1=>exact sC);rintro e w1 ⟨rfl,hxq⟩;obtain ⟨xq,rfl⟩:=hxq.out;clear hxq)|fail)
    go_ret;exact ⟨by rw [e.out];rfl,eX⟩
 ·have e:=Lib.hid (show aP ky A=5 by unfold aP;rw [aal Zo]);have hI:=CD h1;clear hkl h1
  go_enter Tryz.func144,Tryz.ntmps144
  go_wp2_with fail;go_ret;exact ⟨by rw [e.out];rfl,Ext.refl _⟩
theorem um (base:Nat) (a:Option Addr)(n c:Nat) (A:List (List UInt8)) (w:World)(h:RdB w base a n A) (hbase:base<=w.heap.size) (hn:n<=1000000) :
  Calls Tryz.prog 165 #[Zy a n c] w λ e w'=>∃ a' c',e = .returned (Zy a' n c')/\bX w' base a' n c' A/\Ext w w':=by
 have hnil:=λ W (a:Option Addr)(n c:Nat)=>Lib.run_eql_slice_nil (P:=Tryz.prog) W 37 33 a n c 0 0 Tryz.underlying37;cases a with
 | none =>
  obtain rfl:n=0:=by
   obtain ⟨_,xs,h2,h3,_⟩:=h;rcases h3 with h3|⟨_,_,h3,_⟩
   ·subst h3;simpa using h2.symm
   ·cases h3
  obtain rfl:A=[]:=aaw h.1
  go_enter Tryz.func165,Tryz.ntmps165
  go_wp2;go_ret;exact ⟨_,_,rfl,bX.nil _ _,eX⟩
 | some ad =>
  go_enter Tryz.func165,Tryz.ntmps165
  go_wp2_with (at_builtin;refine mB V8 rfl _ _ rfl base _ 0 0 [] rfl _ n c A rfl ((bX.empty _).mono0 hbase) (h.ext (Ext.of_alloc _ _)) Zo (by simp;omega) ?_;intro sa2 sc2 w2 hO2 hg2 hB2)
  go_ret;simp only [aag,q5q] at hO2;refine ⟨_,_,rfl,hO2,?_⟩;have hx0:Ext w (w.alloc (.cells #[] 33)):=eX;exact Below.grown hx0 hg2 Zs (λ g hg=>by have e:w.heap.size=g:=Option.some.inj hg;omega)
theorem m7 (a b c:Option Addr)(ca cb cc n:Nat) (ky t l:List UInt8)(w:World)(hk:Sl w a 32 ky) (hca:32<=ca) (ht:Sl w b 16 t) (hl:Sl w c n l) (hn:n<=65535) :
  Calls Tryz.prog 145 #[Zy a 32 ca, Zy b 16 cb, Zy c n cc] w (bJ n (stream (ky.drop 16) (dK t) l) (Zz Zx 0) w):=by
 have htl:=ht.len;obtain ⟨b0,o0,rfl,hb0,_⟩:=hk.at 0 Zo;have hk2:Sl w (some ⟨b0,o0+16,none⟩) 16 (ky.drop 16):=by
  have:=hk.drop ca 16 hca;unfold dX at this;rw [aaf Zo] at this;simpa [bZ] using this
 have hC:=Lib.hid (show dK t=(t.set 8 (at' t 8 &&& 127)).set 12 (at' t 12 &&& 127) from rfl);have h12:(t.set 8 (at' t 8 &&& 127)).getD 12 0=at' t 12:=by simp [at',List.getD,List.getElem?_set]
 have q:(16:Int)<=(ca:Int):=Zo
 go_enter Tryz.func145,Tryz.ntmps145
 go_wp2_with fail;(with_reducible refine (eu _ 16 _ t _ ht Zo).mono ?_);rintro e w1 ⟨a1,c1,rfl,hO1,hx1⟩;obtain ⟨g,rfl,hg,hgb,hcell8,hfr8,_⟩:=hO1.at 8 Zo;obtain ⟨_,e1,_,_,hcell12,hfr12,_⟩:=hO1.at 12 Zo;injection e1 with e1
 injection e1 with e1 _
 subst e1;have hle:=hO1.le;have hO2:=hO1.put 8 Zo (at' t 8 &&& 127);have hO3:=hO2.put 12 Zo (at' t 12 &&& 127);rw [<- hC.out] at hO3;have hx3:Ext w ((w1.setCell ⟨g,8,none⟩ (Zz Zu (n8 (at' t 8 &&& 127)))).setCell ⟨g,12,none⟩ (Zz Zu (n8 (at' t 12 &&& 127)))):=Ext.setCell (Ext.setCell hx1 hg _) hg _;rw [show t.getD 8 0=at' t 8 from rfl] at hcell8;rw [show t.getD 12 0=at' t 12 from rfl] at hcell12;clear h12 hO1 hO2;go_wp2_with fail;(refine (uY _ _ _ _ _ _ n (ky.drop 16) (dK t) l _ (hk2.ext hx3) Zo hO3.sl hle.1 (hl.ext hx3) hn).mono ?_;rintro e _ ⟨_,_,rfl,hS,hc,hx⟩);go_wp2_with fail;go_ret2;exact ⟨_,_,rfl,hS,hc,hx3.trans hx⟩
end Go.Proofs.YtmdahnkcnagkjaaGreat

/- Layer 6 of the program: Tag, Seal, Open. -/
namespace Go.Proofs.YtmdahnkcnagkjaaGreat
open Go.RowKit Go.Sec Go.Oct Go.Aes BigFrame
theorem ne0 {e:Int} (h:e≠0):(e != 0)=true:=by rw [aax];exact h
theorem _root_.z26q62{p:Prop}(h:p:=by
 intro x hx;rcases aa4.1 hx with h|h
 ·have:=hmx x h;omega
 ·simp only [aaB] at h;subst h;omega):p:=h
theorem vC (a b c:Option Addr)(n ca m cb k cc:Nat) (ky:List UInt8)(A:List (List UInt8)) (p:List UInt8)(w:World)(hk:Sl w a n ky) (hca:n<=ca) (hA:Bsc w b m A) (hm:m<=1000000) (hp:Sl w c k p) (hkc:k<=cc) :
  Calls Tryz.prog 146 #[Zy a n ca, Zy b m cb, Zy c k cc] w (bJ (cG ky A p).1.length (cG ky A p).1 (Zz Zx (cG ky A p).2) w):=by
 have hc:=λ w h1 h2=>p8 a b n ca m cb ky A w h1 h2 hm;have hpl:=hp.len;by_cases h0:aP ky A=0
 ·rw [h0] at hc;obtain ⟨h32,h16,hmx⟩:=gr h0;rw [hk.len] at h32;rw [hA.len] at h16;subst h32;by_cases hl:65519<k
  ·have e:cG ky A p=([],2):=by unfold cG;rw [aaf (by rw [h0];simp),aal Zo]
   rw [e];have hI:(65519:Int)<(k:Int):=Zo;clear e h0 hmx hpl
   go_enter Tryz.func146,Tryz.ntmps146
   go_wp2_with (first|(go_at_call 144;(with_reducible refine (hc ?_ ?hq14 ?hq15).mono ?_);(case hq14=>exact sS);(case hq15=>exact sC);rintro e w1 ⟨rfl,hxq⟩;obtain ⟨xq,rfl⟩:=hxq.out;clear hxq)|fail)
   go_ret2;exact aF _ _ _ eX
  ·rw [jb h0 Zo];show Calls _ _ _ _ (bJ (s2v _ _).length _ _ _);rw [dr];have hmax:∀ x∈A++[p],x.length<=65535:=by
    exact z26q62
   have hI:decide ((65519:Int)<(k:Int))=false:=by simp;omega
   have q:(16:Int)<=(ca:Int):=Zo;clear h0 hmx hpl
   go_enter Tryz.func146,Tryz.ntmps146
   go_wp2_with (first|(go_at_call 144;(with_reducible refine (hc ?_ ?hq16 ?hq17).mono ?_);(case hq16=>exact sS);(case hq17=>exact sC);rintro e w1 ⟨rfl,hxq⟩;obtain ⟨xq,rfl⟩:=hxq.out;clear hxq)|fail)
   have hxW:Ext w (w.ext xq):=eX;generalize w.ext xq=W at *;have hkW:=(hk.ext hxW).take 16 Zo;have hRB:=(hA.ext hxW).rdB;have hpW:=hp.ext hxW;have hSE:∀ w',Ext W w'->(Ext W) w':=(λ _ h=>h);have hExt0:Ext W (W).drew:=Ext.drew (Ext.refl _);refine aaX (S:=Ext W) Zk (hSE _ hExt0) (λ hHeld=>?_);refine aas (i:=0) (v:=?v1) rfl Zk Zk Zk (λ _ _ _ h=>h) (Or.inl ⟨by rfl,?hy1⟩) hHeld ?_;(case hy1=>(intro w' hx;simp [go_sem,execOp, *];(try simp (disch:=omega) only [q17q,q18q,q19q]);rfl));(try simp only [q14q,q15q,q16q,Act.put,q0q,q1q,q2q]);refine aas (i:=1) (v:=?v2) rfl Zk Zk Zk (λ _ _ _ h=>h) (Or.inl ⟨by rfl,?hy2⟩) hHeld ?_;(case hy2=>(intro w' hx;simp [go_sem,execOp, *];(try simp (disch:=omega) only [q17q,q18q,q19q]);rfl));(try simp only [q14q,q15q,q16q,Act.put,q0q,q1q,q2q]);refine aas (i:=2) (v:=?v3) rfl Zk Zk Zk (λ _ _ _ h=>h) (Or.inl ⟨by rfl,?hy3⟩) hHeld ?_;(case hy3=>(intro w' hx;simp [go_sem,execOp, *];(try simp (disch:=omega) only [q17q,q18q,q19q]);rfl));(try simp only [q14q,q15q,q16q,Act.put,q0q,q1q,q2q]);refine aas (i:=4) (v:=?v4) rfl Zk Zk Zk (λ _ _ _ h=>h) (Or.inl ⟨by rfl,?hy4⟩) hHeld ?_;(case hy4=>(intro w' hx;simp [go_sem,execOp, *];(try simp (disch:=omega) only [q17q,q18q,q19q]);rfl));(try simp only [q14q,q15q,q16q,Act.put,q0q,q1q,q2q]);refine R5.qd 6 8 [[],[0],[],[2],[],[4],[2,3,4,5],[0,1,2,3,4,5,6],[0,1,2,3,4,5,6,7],[0,1,2,3,4,5,6,7],[0,1,2,3,4,5,6,7,8,9],[0,1,2,3,4,5,6,7,8,9,10]] [0,1,2,4] #[true,true,true,true,true,true,true,true,false,false,false,false] 4 hExt0 hSE Zk Zk Zk Zk Zk Zk ?_;simp only [q8q,q9q,q10q,q11q,q12q,q13q,Nat.reduceSub];refine R5.dM rfl ?_;refine R5.dM rfl ?_;refine R5.dM rfl ?_;(refine R5.ao rfl (λ p => .slice (p 0).1 m (p 0).2) (λ p w''=>bX w'' W.heap.size (p 0).1 m (p 0).2 A) (λ p w w' h hx=>h.ext hx) (λ us w' hx hf=>⟨rfl,?_⟩) ?_;(unfold gives;simp [go_sem,execOp];exact R5.yG (um W.heap.size _ _ _ _ _ (hRB.ext hx) hx.size Zo)));refine R5.dM rfl ?_;(refine R5.ao rfl (λ p => .slice (p 0).1 1 1) (λ p w''=>Rd w'' (p 0).1 [Zy c k cc]) (λ p w w' h hx=>h.ext hx) (λ us w' hx hf=>⟨rfl,?_⟩) ?_;(unfold gives;simp [go_sem,execOp];exact ⟨λ _=>(some ⟨w'.heap.size,0,none⟩,0),rfl,Ext.of_alloc _ _,(Blk.new _ _ _).rd⟩));(refine R5.aB ?_;intro us w' hx hf;obtain ⟨x,rfl⟩:=hx.out;(try simp only [Act.put,q0q,q1q,q2q,ai]);(try simp only [q3q,q4q,aar,aac,aan,q5q,q6q,q7q,aat,aau,aav] at hf);(try simp only [Nat.reduceAdd,aag] at hf ⊢));obtain ⟨hO1,hR2⟩:=hf;(refine R5.ju hSE V8 rfl rfl _ _ rfl W.heap.size _ m _ A rfl _ 1 1 ([p]) rfl hO1 (RdB.one hR2 (hpW.ext hx) hkc (hpW.inB _)) Zo hx.size (aae _) hx ?_;intro sa2 sc2 w2 hOa hg2 hB2 hx2);have hBs:=hOa.bsc;have hle:=hOa.le;have hk2:=hkW.ext hx2;(refine R5.cV rfl rfl ?_;unfold gives;simp [go_sem,execOp];(with_reducible refine (uQ ?_ ?_ ?_ ?_ ?_ (ky.take 16) (A++[p]) ?_ ?hq9 ?hq10 ?hq11 ?hq12 ?hq13 hmax).mono ?_);(case hq9=>exact sS);(case hq11=>exact sC);(case hq10=>omega);(case hq12=>omega);(case hq13=>omega);rintro e _ ⟨_,_,rfl,hS,hc,hx⟩;obtain ⟨_,rfl⟩:=hx.out;clear hx;refine ⟨_,rfl,hSE _ eX,?_⟩;(try simp only [q14q,q15q,q16q,Act.put,q0q,q1q,q2q]));(refine R5.iU ?_);refine aas (i:=8) (v:=?v5) rfl Zk Zk Zk (λ _ _ _ h=>h) (Or.inl ⟨by rfl,?hy5⟩) (hSE _ eX) ?_;(case hy5=>(intro w' hx;simp [go_sem,execOp, *];(try simp (disch:=omega) only [q17q,q18q,q19q]);rfl));(try simp only [q14q,q15q,q16q,Act.put,q0q,q1q,q2q]);refine aas (i:=9) (v:=?v6) rfl Zk Zk Zk (λ _ _ _ h=>h) (Or.inl ⟨by rfl,?hy6⟩) (hSE _ eX) ?_;(case hy6=>(intro w' hx;simp [go_sem,execOp, *];(try simp (disch:=omega) only [q17q,q18q,q19q]);rfl));(try simp only [q14q,q15q,q16q,Act.put,q0q,q1q,q2q]);refine aas (i:=10) (v:=?v7) rfl Zk Zk Zk (λ _ _ _ h=>h) (Or.inl ⟨by rfl,?hy7⟩) (hSE _ eX) ?_;(case hy7=>(intro w' hx;simp [go_sem,execOp, *];(try simp (disch:=omega) only [q17q,q18q,q19q]);rfl));(try simp only [q14q,q15q,q16q,Act.put,q0q,q1q,q2q]);refine aas (i:=11) (v:=?v8) rfl Zk Zk Zk (λ _ _ _ h=>h) (Or.inl ⟨by rfl,?hy8⟩) (hSE _ eX) ?_;(case hy8=>(intro w' hx;simp [go_sem,execOp, *];(try simp (disch:=omega) only [q17q,q18q,q19q]);rfl));(try simp only [q14q,q15q,q16q,Act.put,q0q,q1q,q2q]);refine abl Zk ?_ _;go_wp2;go_ret2;exact ⟨_,_,rfl,hS,hc,hxW.trans eX⟩
 ·have e:cG ky A p=([],aP ky A):=by unfold cG;rw [aal h0]
  rw [e];have hI:=ne0 h0;generalize aP ky A=v at *;clear e h0
  go_enter Tryz.func146,Tryz.ntmps146
  go_wp2_with (first|(go_at_call 144;(with_reducible refine (hc ?_ ?hq18 ?hq19).mono ?_);(case hq18=>exact sS);(case hq19=>exact sC);rintro e w1 ⟨rfl,hxq⟩;obtain ⟨xq,rfl⟩:=hxq.out;clear hxq)|fail)
  go_ret2;exact aF _ _ _ eX
theorem ts (a b c:Option Addr)(n ca m cb k cc:Nat) (ky:List UInt8)(A:List (List UInt8)) (p:List UInt8)(w:World)(hk:Sl w a n ky) (hca:n<=ca) (hA:Bsc w b m A) (hm:m<=1000000) (hp:Sl w c k p) (hkc:k<=cc) :
  Calls Tryz.prog 131 #[Zy a n ca, Zy b m cb, Zy c k cc] w (bJ (bI ky A p).1.length (bI ky A p).1 (Zz Zx (bI ky A p).2) w):=by
 have ht:=λ w h1 h3 h5=>vC a b c n ca m cb k cc ky A p w h1 hca h3 hm h5 hkc;by_cases h0:(cG ky A p).2=0
 ·obtain ⟨h16,hck,hpl⟩:=py h0;obtain ⟨h32,_,_⟩:=gr hck;rw [hk.len] at h32;rw [hp.len] at hpl;subst h32;have e:=Lib.hid (show bI ky A p=((cG ky A p).1++stream (ky.drop 16) (dK (cG ky A p).1) p,0) by unfold bI;rw [aaf (by simpa using h0)]);rw [h0,h16] at ht;have hsl:=cO (ky.drop 16) (dK (cG ky A p).1) p;rw [hp.len] at hsl;have hst:=λ a1 c1 w h1 h2 h3 h4=>m7 a a1 c ca c1 cc k ky (cG ky A p).1 p w h1 h2 h3 h4 Zo;generalize stream (ky.drop 16) (dK (cG ky A p).1) p=st at *;generalize (cG ky A p).1=tg at *;rw [e.out];have hll:(tg++st).length=16+k:=by rw [aah,h16,hsl]
  show Calls _ _ _ _ (bJ (tg++st).length _ _ _);rw [hll];clear h0 hck;have hj:aW [tg,st]=tg++st:=by simp [aW]
  have hjl:(aW [tg,st]).length=16+k:=by rw [hj,hll]
  have HJ:=Lib.hid hj;clear hj
  go_enter Tryz.func131,Tryz.ntmps131
  go_wp2_with (first
   | (go_at_call 146;(with_reducible refine (ht ?_ ?hq20 ?hq21 ?hq22).mono ?_);(case hq20=>exact sS);(case hq21=>exact sC);(case hq22=>exact sS);rintro e _ ⟨_,_,rfl,hS,hc,hx⟩;obtain ⟨_,rfl⟩:=hx.out;clear hx)
   | (go_at_call 145;(with_reducible refine (hst ?_ ?_ ?_ ?hq23 ?hq24 ?hq25 ?hq26).mono ?_);(case hq23=>exact sS);(case hq25=>exact sS);(case hq26=>exact sS);(case hq24=>omega);rintro e _ ⟨_,_,rfl,hS,hc,hx⟩;obtain ⟨_,rfl⟩:=hx.out;clear hx)
   | fail)
  (with_reducible refine (gu _ _ _ [tg,st] _ (oi ?h1 ?h2 _) Zo (16+k) hjl Zo).mono ?_)
  case h1=>exact (by (repeat' (first|with_reducible assumption|(with_reducible exact dG _)|(with_reducible exact bO _ _ _)|(with_reducible first|apply Sl.upE|apply Sl.upA|apply Sl.upD))))
  case h2=>exact (by (repeat' (first|with_reducible assumption|(with_reducible exact dG _)|(with_reducible exact bO _ _ _)|(with_reducible first|apply Sl.upE|apply Sl.upA|apply Sl.upD))))
  rintro e _ ⟨_,_,rfl,hO,hx⟩;obtain ⟨_,rfl⟩:=hx.out;clear hx;go_wp2;rw [HJ.out] at hO;go_ret2;exact ⟨_,_,rfl,hO.sl,hO.le.1,eX⟩
 ·have e:bI ky A p=([],(cG ky A p).2):=by unfold bI;rw [aal h0]
  rw [e];have hI:=ne0 h0;generalize (cG ky A p).2=v at *;generalize (cG ky A p).1=tg at *;clear e h0
  go_enter Tryz.func131,Tryz.ntmps131
  go_wp2_with (first|(go_at_call 146;(with_reducible refine (ht ?_ ?hq27 ?hq28 ?hq29).mono ?_);(case hq27=>exact sS);(case hq28=>exact sC);(case hq29=>exact sS);rintro e _ ⟨_,_,rfl,hS,hc,hx⟩;obtain ⟨_,rfl⟩:=hx.out;clear hx)|fail)
  go_ret2;exact aF _ _ _ eX
theorem sL (a b c:Option Addr)(n ca m cb k cc:Nat) (ky:List UInt8)(A:List (List UInt8)) (s:List UInt8)(w:World)(hk:Sl w a n ky) (hca:n<=ca) (hA:Bsc w b m A) (hm:m<=1000000) (hs:Sl w c k s) (hkc:k<=cc) :
  Calls Tryz.prog 121 #[Zy a n ca, Zy b m cb, Zy c k cc] w (bJ (bH ky A s).1.length (bH ky A s).1 (Zz Zx (bH ky A s).2) w):=by
 have hc:=λ w h1 h2=>p8 a b n ca m cb ky A w h1 h2 hm;have hsl:=hs.len;by_cases h0:aP ky A=0
 ·obtain ⟨h32,_,_⟩:=gr h0;rw [hk.len] at h32;subst h32;by_cases hl:65535<k
  ·have e:bH ky A s=([],2):=by unfold bH;rw [aaf (by rw [h0];simp),aal Zo]
   rw [e];rw [h0] at hc;have hI:(65535:Int)<(k:Int):=Zo;clear e h0 hsl
   go_enter Tryz.func121,Tryz.ntmps121
   go_wp2_with (first|(go_at_call 144;(with_reducible refine (hc ?_ ?hq46 ?hq47).mono ?_);(case hq46=>exact sS);(case hq47=>exact sC);rintro e w1 ⟨rfl,hxq⟩;obtain ⟨xq,rfl⟩:=hxq.out;clear hxq)|fail)
   go_ret2;exact aF _ _ _ eX
  ·by_cases h16:k<16
   ·have e:bH ky A s=([],1):=by unfold bH;rw [aaf (by rw [h0];simp),aaf Zo,aal Zo]
    rw [e];rw [h0] at hc;have hI:¬ (65535:Int)<(k:Int):=Zo;have hcut:=λ w=>yQ c k cc 16 w (.inr Zo);clear e h0 hsl
    go_enter Tryz.func121,Tryz.ntmps121
    go_wp2_with (first|(go_at_call 144;(with_reducible refine (hc ?_ ?hq48 ?hq49).mono ?_);(case hq48=>exact sS);(case hq49=>exact sC);rintro e w1 ⟨rfl,hxq⟩;obtain ⟨xq,rfl⟩:=hxq.out;clear hxq)|(go_at_call 122;refine (hcut _).mono ?_;rintro e w1 ⟨rfl,hxq⟩;obtain ⟨xq,rfl⟩:=hxq.out;clear hxq)|fail)
    go_ret2;exact aF _ _ _ eX
   ·have e:=Lib.hid (show bH ky A s=if (cG ky A (bE ky s)).1=s.take 16 then (bE ky s,0) else ([],6) by unfold bH;rw [aaf (by rw [h0];simp),aaf Zo,aaf Zo]);have htg:cG ky A (bE ky s)=(s2v (ky.take 16) (A++[bE ky s]),0):=jb h0 (by rw [dA];omega);have ht:=λ c cc w h1 h3 h5 h6=>vC a b c 32 ca m cb (k-16) cc ky A (bE ky s) w h1 hca h3 hm h5 h6;have hts:(s.take 16).length=16:=by simp;omega
    have hpo:bE ky s=stream (ky.drop 16) (dK (s.take 16)) (s.drop 16):=rfl;have hst:=λ a1 c1 a2 c2 w h1 h2 h3 h4=>m7 a a1 a2 ca c1 c2 (k-16) ky (s.take 16) (s.drop 16) w h1 h2 h3 h4 Zo;rw [<- hpo] at hst;rw [htg] at ht;rw [htg] at e;have hpl:(bE ky s).length=k-16:=by rw [dA];omega
    have htl:=dr (ky.take 16) (A++[bE ky s]);rw [h0] at hc;have hI:¬ (65535:Int)<(k:Int):=Zo;have hcut:=λ w h=>tJ c k cc s 16 w h Zo Zo hkc;simp only [aap] at hcut;simp only at ht e;rw [htl] at ht;generalize s2v (ky.take 16) (A++[bE ky s])=tg at *;generalize bE ky s=pl at *;generalize s.take 16=s0 at *;generalize s.drop 16=s1 at *;clear htg h0 hpo hsl;rw [e.out];by_cases he:tg=s0
    ·rw [aal he];show Calls _ _ _ _ (bJ pl.length _ _ _);rw [hpl];have hb:(tg == s0)=true:=by simpa using he
     clear he;clear e
     go_enter Tryz.func121,Tryz.ntmps121
     go_wp2_with (first|(go_at_call 144;(with_reducible refine (hc ?_ ?hq50 ?hq51).mono ?_);(case hq50=>exact sS);(case hq51=>exact sC);rintro e w1 ⟨rfl,hxq⟩;obtain ⟨xq,rfl⟩:=hxq.out;clear hxq)|fail)
     refine (hcut _ (by (repeat' (first|with_reducible assumption|(with_reducible exact dG _)|(with_reducible exact bO _ _ _)|(with_reducible first|apply Sl.upE|apply Sl.upA|apply Sl.upD))))).mono ?_;rintro e _ ⟨_,_,_,_,rfl,hO1,hO2,hx⟩;obtain ⟨_,rfl⟩:=hx.out;have hl1:=hO1.le;have hl2:=hO2.le;have hS1:=hO1.sl;have hS2:=hO2.sl;clear hO1 hO2 hx
     go_wp2_with (first
      | (go_at_call 145;(with_reducible refine (hst ?_ ?_ ?_ ?_ ?_ ?hq30 ?hq31 ?hq32 ?hq33).mono ?_);(case hq30=>exact sS);(case hq32=>exact sS);(case hq33=>exact sS);(case hq31=>omega);rintro e _ ⟨_,_,rfl,hS,hc,hx⟩;obtain ⟨_,rfl⟩:=hx.out;clear hx)
      | (go_at_call 146;(with_reducible refine (ht ?_ ?_ ?_ ?hq34 ?hq35 ?hq36 ?hq37).mono ?_);(case hq34=>exact sS);(case hq35=>exact sC);(case hq36=>exact sS);(case hq37=>omega);rintro e _ ⟨_,_,rfl,hS,hc,hx⟩;obtain ⟨_,rfl⟩:=hx.out;clear hx)
      | (go_at_call 147;(with_reducible refine (mh ?_ ?_ ?_ ?_ ?_ ?_ tg s0 ?_ ?hq52 ?hq53).mono ?_);(case hq52=>exact sS);(case hq53=>exact sS);rintro e w1 ⟨rfl,hxq⟩;obtain ⟨xq,rfl⟩:=hxq.out;clear hxq)
      | fail)
     go_ret2;exact ⟨_,_,rfl,(by (repeat' (first|with_reducible assumption|(with_reducible exact dG _)|(with_reducible exact bO _ _ _)|(with_reducible first|apply Sl.upE|apply Sl.upA|apply Sl.upD)))),Zo,eX⟩
    ·rw [aaf he];have hb:(tg == s0)=false:=by simpa using he
     clear he;clear e
     go_enter Tryz.func121,Tryz.ntmps121
     go_wp2_with (first|(go_at_call 144;(with_reducible refine (hc ?_ ?hq54 ?hq55).mono ?_);(case hq54=>exact sS);(case hq55=>exact sC);rintro e w1 ⟨rfl,hxq⟩;obtain ⟨xq,rfl⟩:=hxq.out;clear hxq)|fail)
     refine (hcut _ (by (repeat' (first|with_reducible assumption|(with_reducible exact dG _)|(with_reducible exact bO _ _ _)|(with_reducible first|apply Sl.upE|apply Sl.upA|apply Sl.upD))))).mono ?_;rintro e _ ⟨_,_,_,_,rfl,hO1,hO2,hx⟩;obtain ⟨_,rfl⟩:=hx.out;have hl1:=hO1.le;have hl2:=hO2.le;have hS1:=hO1.sl;have hS2:=hO2.sl;clear hO1 hO2 hx
     go_wp2_with (first
      | (go_at_call 145;(with_reducible refine (hst ?_ ?_ ?_ ?_ ?_ ?hq38 ?hq39 ?hq40 ?hq41).mono ?_);(case hq38=>exact sS);(case hq40=>exact sS);(case hq41=>exact sS);(case hq39=>omega);rintro e _ ⟨_,_,rfl,hS,hc,hx⟩;obtain ⟨_,rfl⟩:=hx.out;clear hx)
      | (go_at_call 146;(with_reducible refine (ht ?_ ?_ ?_ ?hq42 ?hq43 ?hq44 ?hq45).mono ?_);(case hq42=>exact sS);(case hq43=>exact sC);(case hq44=>exact sS);(case hq45=>omega);rintro e _ ⟨_,_,rfl,hS,hc,hx⟩;obtain ⟨_,rfl⟩:=hx.out;clear hx)
      | (go_at_call 147;(with_reducible refine (mh ?_ ?_ ?_ ?_ ?_ ?_ tg s0 ?_ ?hq56 ?hq57).mono ?_);(case hq56=>exact sS);(case hq57=>exact sS);rintro e w1 ⟨rfl,hxq⟩;obtain ⟨xq,rfl⟩:=hxq.out;clear hxq)
      | fail)
     go_ret2;exact aF _ _ _ eX
 ·have e:bH ky A s=([],aP ky A):=by unfold bH;rw [aal h0]
  rw [e];have hI:=ne0 h0;generalize aP ky A=v at *;clear e h0
  go_enter Tryz.func121,Tryz.ntmps121
  go_wp2_with (first|(go_at_call 144;(with_reducible refine (hc ?_ ?hq58 ?hq59).mono ?_);(case hq58=>exact sS);(case hq59=>exact sC);rintro e w1 ⟨rfl,hxq⟩;obtain ⟨xq,rfl⟩:=hxq.out;clear hxq)|fail)
  go_ret2;exact aF _ _ _ eX
end Go.Proofs.YtmdahnkcnagkjaaGreat

/- Layer 6 of the document: check, counter, Tag. -/
namespace Go.Aes
def dj (ky:List UInt8)(A:List (List UInt8)) (p:Int):Int:=if aP ky A≠0 then aP ky A else if 65519<p then 2 else 0
theorem nN (ky:List UInt8)(A:List (List UInt8)) (k:Nat):dj ky A k=if aP ky A≠0 then aP ky A else if 65519<k then 2 else 0:=by
 unfold dj;by_cases h:aP ky A≠0
 ·rw [aal h,aal h]
 ·rw [aaf h,aaf h];by_cases h2:65519<k
  ·rw [aal Zo,aal h2]
  ·rw [aaf Zo,aaf h2]
theorem zj {ky:List UInt8} {A:List (List UInt8)} {p:List UInt8} (h:¬ (aP ky A=0/\p.length<=65519)):cG ky A p=([],dj ky A p.length)/\dj ky A p.length≠0:=by
 rw [nN];unfold cG;by_cases h1:aP ky A≠0
 ·rw [aal h1,aal h1];exact ⟨rfl,h1⟩
 ·have h2:65519<p.length:=by
   rcases abj 65519 p.length with h3|h3
   ·exact h3
   ·exact absurd ⟨by simpa using h1,h3⟩ h
  rw [aaf h1,aaf h1,aal h2,aal h2];exact ⟨rfl,Zd⟩
end Go.Aes
namespace Go.Proofs.YtmdahnkcnagkjaaGreat
open Go.RowKit Go.Sec Go.Oct Go.Aes BigFrame
theorem _root_.z26q67{p:Prop}(h:p:=by
 clear hkl h1
 go_enter Tryz.func105,Tryz.ntmps105
 go_wp2_with fail;go_ret;exact ⟨by rw [e.out];rfl,Ext.refl _⟩):p:=h
theorem o8 (a b:Option Addr)(n c m d:Nat) (ky:List UInt8)(A:List (List UInt8)) (p:Int) (w:World)(hk:Sl w a n ky) (hA:Bsc w b m A) (hm:m<=1000000) :
  Calls Tryz.prog 105 #[Zy a n c, Zy b m d, Zz Zx p] w λ e w'=>e = .returned (Zz Zx (dj ky A p))/\Ext w w':=by
 have hkl:=hk.len;have hAl:=hA.len;by_cases h1:n=32
 ·by_cases h2:16<m
  ·have e:=Lib.hid (show dj ky A p=8 by
    have:aP ky A=8:=by unfold aP;rw [aaf Zo,aal Zo]
    unfold dj;rw [this];rfl)
   have hI:((n:Int) != 32)=false:=by rw [aai];omega
   have hI2:(16:Int)<(m:Int):=Zo;exact z26q67
  ·have e:=Lib.hid (show aP ky A=if cX A then 2 else 0 by unfold aP;rw [aaf Zo,aaf Zo]);have hI:((n:Int) != 32)=false:=by rw [aai];omega
   have hI2:¬ (16:Int)<(m:Int):=Zo;clear hkl h1
   go_enter Tryz.func105,Tryz.ntmps105
   go_wp2_with fail
   go_loopw [7] (λ v7 wr=>∃ i:Nat,i<=m/\v7 = Zz Zx i/\Hid (cX (A.take i)=false)/\Ext w wr) (λ v7 _=>m-(intOf v7).toNat)
   case atStart=>exact ⟨0,Zo,rfl,Lib.hid rfl,Ext.refl _⟩
   case round =>
    obtain ⟨i,hi,rfl,hm',hx⟩:=hrel;obtain ⟨x,rfl⟩:=hx.out;by_cases hlt:i<m
    ·obtain ⟨b0,o0,a',n',c',rfl,hb0,hcell,hc',hS⟩:=(hA.ext hx).at i hlt;have i0:(0:Int)<=(i:Int):=Zo;have i1:(i:Int)<(m:Int):=Zo;have hsu:=Lib.hid (show cX (A.take (i+1))=decide (65519<n') by
      rw [aaA Zo,<- hS.len];unfold cX;rw [List.any_append];have:=hm'.out;unfold cX at this;rw [this];simp)
     have htr:=Lib.hid (show cX (A.take (i+1))=true->cX A=true from λ h=>by
      unfold cX at h ⊢;obtain ⟨x,hx,hp⟩:=List.any_eq_true.1 h;exact List.any_eq_true.2 ⟨x,aba hx,hp⟩)
     by_cases hn':65519<n'
     ·have hI3:(65519:Int)<(n':Int):=by omega
      have hm2:=Lib.hid (show dj ky A p=2 by
       have:aP ky A=2:=by rw [e.out,htr.out (by rw [hsu.out];simpa using hn')];rfl
       unfold dj;rw [this];rfl)
      go_wp2_with fail;go_ret;exact ⟨by rw [hm2.out];rfl,eX⟩
     ·have hI3:¬ (65519:Int)<(n':Int):=by omega
      have hm2:=Lib.hid (show cX (A.take (i+1))=false by rw [hsu.out];simpa using hn');go_wp2_with fail;go_roundw
      case rel=>exact ⟨i+1,Zo,Zg,hm2,eX⟩
      case measure=>simp [intOf];omega
    ·obtain rfl:i=m:=by omega
     have hlo:=Lib.hid (show cX A=false by have:=hm'.out;rwa [aak Zo] at this);have e2:=Lib.hid (show dj ky A p=if 65519<p then 2 else 0 by
      have:aP ky A=0:=by rw [e.out,hlo.out];rfl
      unfold dj;rw [this];rfl)
     by_cases hp:65519<p
     ·go_wp2_with fail;go_ret;exact ⟨by rw [e2.out,aal hp];rfl,eX⟩
     ·go_wp2_with fail;go_ret;exact ⟨by rw [e2.out,aaf Zo];rfl,eX⟩
 ·have e:=Lib.hid (show dj ky A p=5 by
   have:aP ky A=5:=by unfold aP;rw [aal Zo]
   unfold dj;rw [this];rfl)
  have hI:=CD h1;exact z26q67
theorem m5 (a:Option Addr)(c:Nat) (t:List UInt8)(w:World)(h:Sl w a 16 t) :
  Calls Tryz.prog 107 #[Zy a 16 c] w (cj 16 (dK t) w):=by
 have htl:=h.len;have hC:=Lib.hid (show dK t=(t.set 8 (at' t 8 &&& 127)).set 12 (at' t 12 &&& 127) from rfl)
 go_enter Tryz.func107,Tryz.ntmps107
 go_wp2_with fail;(with_reducible refine (aZ _ _ _ _ _ (gR h _) Zo 16 (by simp [cz,htl]) Zo).mono ?_);rintro e w1 ⟨a1,c1,rfl,hO1,hx1⟩;rw [cz] at hO1;have hO1:=hO1.mono (base':=w.heap.size) Zs;have hx1:Ext w w1:=Ext.trans (Ext.of_alloc _ _) hx1;obtain ⟨g,rfl,hg,hgb,hcell8,hfr8,_⟩:=hO1.at 8 Zo;obtain ⟨_,e1,_,_,hcell12,hfr12,_⟩:=hO1.at 12 Zo;injection e1 with e1
 injection e1 with e1 _
 subst e1;have hle:=hO1.le;have hO2:=hO1.put 8 Zo (at' t 8 &&& 127);have hO3:=hO2.put 12 Zo (at' t 12 &&& 127);rw [<- hC.out] at hO3;have hx3:Ext w ((w1.setCell ⟨g,8,none⟩ (Zz Zu (n8 (at' t 8 &&& 127)))).setCell ⟨g,12,none⟩ (Zz Zu (n8 (at' t 12 &&& 127)))):=Ext.setCell (Ext.setCell hx1 hg _) hg _;rw [show t.getD 8 0=at' t 8 from rfl] at hcell8;rw [show t.getD 12 0=at' t 12 from rfl] at hcell12;clear hO1 hO2;go_wp2_with fail
 go_region
 go_wp2;go_ret;exact ⟨_,_,rfl,hO3.ext (Ext.drew (Ext.refl _)),hx3.drew⟩
theorem sI (a b c:Option Addr)(n ca m cb k cc:Nat) (ky:List UInt8)(A:List (List UInt8)) (p:List UInt8)(w:World)(hk:Sl w a n ky) (hca:n<=ca) (hA:Bsc w b m A) (hm:m<=1000000) (hp:Sl w c k p) (hkc:k<=cc) :
  Calls Tryz.prog 108 #[Zy a n ca, Zy b m cb, Zy c k cc] w (bJ (cG ky A p).1.length (cG ky A p).1 (Zz Zx (cG ky A p).2) w):=by
 have hc:=λ w h1 h2=>o8 a b n ca m cb ky A (k:Int) w h1 h2 hm;have hpl:=hp.len;have hcr:=nN ky A k;by_cases h0:aP ky A=0/\k<=65519
 ·obtain ⟨h0,hl⟩:=h0;have h00:dj ky A k=0:=by rw [hcr,aaf (by rw [h0];simp),aaf Zo]
  rw [h00] at hc;obtain ⟨h32,h16,hmx⟩:=gr h0;rw [hk.len] at h32;rw [hA.len] at h16;subst h32;rw [jb h0 Zo];show Calls _ _ _ _ (bJ (s2v _ _).length _ _ _);rw [dr];have hmax:∀ x∈A++[p],x.length<=65535:=by
   exact z26q62
  have q:(16:Int)<=(ca:Int):=Zo;clear h0 h00 hcr hmx hpl
  go_enter Tryz.func108,Tryz.ntmps108
  go_wp2_with (first|(go_at_call 105;(with_reducible refine (hc ?_ ?hq12 ?hq13).mono ?_);(case hq12=>exact sS);(case hq13=>exact sC);rintro e w1 ⟨rfl,hxq⟩;obtain ⟨xq,rfl⟩:=hxq.out;clear hxq)|fail)
  have hxW:Ext w (w.ext xq):=eX;generalize w.ext xq=W at *;have hkW:=(hk.ext hxW).take 16 Zo;have hRB:=(hA.ext hxW).rdB;have hpW:=hp.ext hxW;have hSE:∀ w',Ext W w'->(Ext W) w':=(λ _ h=>h);have hExt0:Ext W (W).drew:=Ext.drew (Ext.refl _);refine aaX (S:=Ext W) Zk (hSE _ hExt0) (λ hHeld=>?_);refine aas (i:=0) (v:=?v1) rfl Zk Zk Zk (λ _ _ _ h=>h) (Or.inl ⟨by rfl,?hy1⟩) hHeld ?_;(case hy1=>(intro w' hx;simp [go_sem,execOp, *];(try simp (disch:=omega) only [q17q,q18q,q19q]);rfl));(try simp only [q14q,q15q,q16q,Act.put,q0q,q1q,q2q]);refine aas (i:=1) (v:=?v2) rfl Zk Zk Zk (λ _ _ _ h=>h) (Or.inl ⟨by rfl,?hy2⟩) hHeld ?_;(case hy2=>(intro w' hx;simp [go_sem,execOp, *];(try simp (disch:=omega) only [q17q,q18q,q19q]);rfl));(try simp only [q14q,q15q,q16q,Act.put,q0q,q1q,q2q]);refine aas (i:=3) (v:=?v3) rfl Zk Zk Zk (λ _ _ _ h=>h) (Or.inl ⟨by rfl,?hy3⟩) hHeld ?_;(case hy3=>(intro w' hx;simp [go_sem,execOp, *];(try simp (disch:=omega) only [q17q,q18q,q19q]);rfl));(try simp only [q14q,q15q,q16q,Act.put,q0q,q1q,q2q]);refine aas (i:=5) (v:=?v4) rfl Zk Zk Zk (λ _ _ _ h=>h) (Or.inl ⟨by rfl,?hy4⟩) hHeld ?_;(case hy4=>(intro w' hx;simp [go_sem,execOp, *];(try simp (disch:=omega) only [q17q,q18q,q19q]);rfl));(try simp only [q14q,q15q,q16q,Act.put,q0q,q1q,q2q]);refine R5.qd 7 9 [[],[0],[],[],[2,3],[],[5],[2,3,4,5,6],[0,1,2,3,4,5,6,7],[0,1,2,3,4,5,6,7,8],[0,1,2,3,4,5,6,7,8],[0,1,2,3,4,5,6,7,8,9,10],[0,1,2,3,4,5,6,7,8,9,10,11]] [0,1,3,5] #[true,true,true,true,true,true,true,true,true,false,false,false,false] 4 hExt0 hSE Zk Zk Zk Zk Zk Zk ?_;simp only [q8q,q9q,q10q,q11q,q12q,q13q,Nat.reduceSub];refine R5.dM rfl ?_;refine R5.dM rfl ?_;(refine R5.ao rfl (λ p => .slice (p 0).1 0 0) (λ p w''=>∃ g,(p 0).1=some ⟨g,0,none⟩/\bX w'' W.heap.size (some ⟨g,0,none⟩) 0 0 []) (λ p w w' h hx=>(let ⟨g,h1,h2⟩:=h;⟨g,h1,h2.ext hx⟩)) (λ us w' hx hf=>⟨rfl,?_⟩) ?_;(unfold gives;simp [go_sem,execOp];exact ⟨λ _=>(some ⟨w'.heap.size,0,none⟩,0),rfl,Ext.of_alloc _ _,_,rfl,(bX.empty _).mono0 hx.size⟩));refine R5.dM rfl ?_;(refine R5.ao rfl (λ p => .slice (p 0).1 m (p 0).2) (λ p w''=>bX w'' W.heap.size (p 0).1 m (p 0).2 A) (λ p w w' h hx=>h.ext hx) (λ us w' hx hf=>⟨rfl,?_⟩) ?_;(obtain ⟨g,hg,hE⟩:=(hf _ (aad _ (aaa _)) rfl);obtain ⟨sa,sc,w'',hrun,hO,hx'⟩:=R5.nB V8 w' 37 W.heap.size g hE _ m cb A (hRB.ext hx) Zo hx.size;exact R5.gj rfl (by show Value.slice (us 2 0).1 0 0=_;rw [hg]) rfl hrun ⟨λ _=>(sa,sc),rfl,hx',hO⟩));refine R5.dM rfl ?_;(refine R5.ao rfl (λ p => .slice (p 0).1 1 1) (λ p w''=>Rd w'' (p 0).1 [Zy c k cc]) (λ p w w' h hx=>h.ext hx) (λ us w' hx hf=>⟨rfl,?_⟩) ?_;(unfold gives;simp [go_sem,execOp];exact ⟨λ _=>(some ⟨w'.heap.size,0,none⟩,0),rfl,Ext.of_alloc _ _,(Blk.new _ _ _).rd⟩));(refine R5.aB ?_;intro us w' hx hf;obtain ⟨x,rfl⟩:=hx.out;(try simp only [Act.put,q0q,q1q,q2q,ai]);(try simp only [q3q,q4q,aar,aac,aan,q5q,q6q,q7q,aat,aau,aav] at hf);(try simp only [Nat.reduceAdd,aag] at hf ⊢));obtain ⟨-,hO1,hR2⟩:=hf;(refine R5.ju hSE V8 rfl rfl _ _ rfl W.heap.size _ m _ A rfl _ 1 1 ([p]) rfl hO1 (RdB.one hR2 (hpW.ext hx) hkc (hpW.inB _)) Zo hx.size (aae _) hx ?_;intro sa2 sc2 w2 hOa hg2 hB2 hx2);have hBs:=hOa.bsc;have hle:=hOa.le;have hk2:=hkW.ext hx2;(refine R5.cV rfl rfl ?_;unfold gives;simp [go_sem,execOp];(with_reducible refine (ti ?_ ?_ ?_ ?_ ?_ (ky.take 16) (A++[p]) ?_ ?hq9 ?hq10 ?hq11 hmax).mono ?_);(case hq9=>exact sS);(case hq10=>exact sC);(case hq11=>omega);rintro e _ ⟨_,_,rfl,hS,hc,hx⟩;obtain ⟨_,rfl⟩:=hx.out;clear hx;refine ⟨_,rfl,hSE _ eX,?_⟩;(try simp only [q14q,q15q,q16q,Act.put,q0q,q1q,q2q]));(refine R5.iU ?_);refine aas (i:=9) (v:=?v5) rfl Zk Zk Zk (λ _ _ _ h=>h) (Or.inl ⟨by rfl,?hy5⟩) (hSE _ eX) ?_;(case hy5=>(intro w' hx;simp [go_sem,execOp, *];(try simp (disch:=omega) only [q17q,q18q,q19q]);rfl));(try simp only [q14q,q15q,q16q,Act.put,q0q,q1q,q2q]);refine aas (i:=10) (v:=?v6) rfl Zk Zk Zk (λ _ _ _ h=>h) (Or.inl ⟨by rfl,?hy6⟩) (hSE _ eX) ?_;(case hy6=>(intro w' hx;simp [go_sem,execOp, *];(try simp (disch:=omega) only [q17q,q18q,q19q]);rfl));(try simp only [q14q,q15q,q16q,Act.put,q0q,q1q,q2q]);refine aas (i:=11) (v:=?v7) rfl Zk Zk Zk (λ _ _ _ h=>h) (Or.inl ⟨by rfl,?hy7⟩) (hSE _ eX) ?_;(case hy7=>(intro w' hx;simp [go_sem,execOp, *];(try simp (disch:=omega) only [q17q,q18q,q19q]);rfl));(try simp only [q14q,q15q,q16q,Act.put,q0q,q1q,q2q]);refine aas (i:=12) (v:=?v8) rfl Zk Zk Zk (λ _ _ _ h=>h) (Or.inl ⟨by rfl,?hy8⟩) (hSE _ eX) ?_;(case hy8=>(intro w' hx;simp [go_sem,execOp, *];(try simp (disch:=omega) only [q17q,q18q,q19q]);rfl));(try simp only [q14q,q15q,q16q,Act.put,q0q,q1q,q2q]);refine abl Zk ?_ _;go_wp2;go_ret2;exact ⟨_,_,rfl,hS,hc,hxW.trans eX⟩
 ·obtain ⟨e,hne⟩:=zj (p:=p) (by rw [hpl];exact h0);rw [hpl] at e hne;rw [e];have hI:=ne0 hne;clear hne;generalize dj ky A k=v at *;clear e h0 hcr
  go_enter Tryz.func108,Tryz.ntmps108
  go_wp2_with (first|(go_at_call 105;(with_reducible refine (hc ?_ ?hq14 ?hq15).mono ?_);(case hq14=>exact sS);(case hq15=>exact sC);rintro e w1 ⟨rfl,hxq⟩;obtain ⟨xq,rfl⟩:=hxq.out;clear hxq)|fail)
  go_ret2;exact aF _ _ _ eX
end Go.Proofs.YtmdahnkcnagkjaaGreat

/- Layer 6 of the document: Seal, Open. -/
namespace Go.Proofs.YtmdahnkcnagkjaaGreat
open Go.RowKit Go.Sec Go.Oct Go.Aes BigFrame
theorem _root_.z26q74{p:Prop}(h:p:=by
 have:=h.drop ca i hca;unfold dX at this;rw [aaf Zo] at this;simpa [bZ] using this):p:=h
theorem nE {w:World} {b0 o0 n ca i:Nat} {l:List UInt8} (h:Sl w (some ⟨b0,o0,none⟩) n l) (hca:n<=ca) (hi:i<n):Sl w (some ⟨b0,o0+i,none⟩) (n-i) (l.drop i):=by
 exact z26q74
theorem qp (a b c:Option Addr)(n ca m cb k cc:Nat) (ky:List UInt8)(A:List (List UInt8)) (p:List UInt8)(w:World)(hk:Sl w a n ky) (hca:n<=ca) (hA:Bsc w b m A) (hm:m<=1000000) (hp:Sl w c k p) (hkc:k<=cc) :
  Calls Tryz.prog 90 #[Zy a n ca, Zy b m cb, Zy c k cc] w (bJ (bI ky A p).1.length (bI ky A p).1 (Zz Zx (bI ky A p).2) w):=by
 have ht:=λ w h1 h3 h5=>sI a b c n ca m cb k cc ky A p w h1 hca h3 hm h5 hkc;by_cases h0:(cG ky A p).2=0
 ·obtain ⟨h16,hck,hpl⟩:=py h0;obtain ⟨h32,_,_⟩:=gr hck;rw [hk.len] at h32;rw [hp.len] at hpl;subst h32;have e:=Lib.hid (show bI ky A p=((cG ky A p).1++stream (ky.drop 16) (dK (cG ky A p).1) p,0) by unfold bI;rw [aaf (by simpa using h0)]);rw [h0,h16] at ht;have hsl:=cO (ky.drop 16) (dK (cG ky A p).1) p;rw [hp.len] at hsl;obtain ⟨b0,o0,rfl,hb0,_⟩:=hk.at 0 Zo;have hk2:=nE hk hca (i:=16) Zo;have hst:=λ a1 a2 c1 c2 w h1 h2 h3 h4=>mK a1 a2 c c1 c2 cc k (ky.drop 16) (dK (cG ky A p).1) p w h1 h2 h3 h4 Zo;have hct:=λ a c w h=>m5 a c (cG ky A p).1 w h;generalize stream (ky.drop 16) (dK (cG ky A p).1) p=st at *;generalize dK (cG ky A p).1=ct at *;generalize (cG ky A p).1=tg at *;rw [e.out];have hll:(tg++st).length=16+k:=by rw [aah,h16,hsl]
  show Calls _ _ _ _ (bJ (tg++st).length _ _ _);rw [hll];clear h0 hck;have hj:aW [tg,st]=tg++st:=by simp [aW]
  have hjl:(aW [tg,st]).length=16+k:=by rw [hj,hll]
  have HJ:=Lib.hid hj;have q:(16:Int)<=(ca:Int):=Zo;clear hj
  go_enter Tryz.func90,Tryz.ntmps90
  go_wp2_with fail;refine (ht _ hk hA hp).mono ?_;rintro e W ⟨a3,c3,rfl,hS3,hc3,hxW⟩;have hkW:=hk2.ext hxW;have hpW:=hp.ext hxW;have q4:¬ ca=16:=Zo;go_wp2_with fail;refine ae 11 [[],[0],[],[2],[],[0,1,2,3,4],[0,1,2,3,4,5],[0,1,2,3,4,5,6],[0,1,2,3,4,5,6],[0,1,2,3,4,5,6,7],[0,1,2,3,4,5,6,7,8,9]] Zk Zk Zk Zk ?_;simp only [q8q,q9q,q10q,q11q,q12q,q13q];(repeat (apply aj;(case h=>(intro us w' hx hf;obtain ⟨x,rfl⟩:=hx.out;refine ⟨rfl,?_⟩;simp [go_sem,execOp, *];(try simp (disch:=omega) only [q17q,q18q,q19q]);rfl));(try simp only [Act.put,q0q,q1q,q2q])));(refine ao (λ p => .slice (p 0).1 16 (p 0).2) (λ p w''=>Own w'' 0 (p 0).1 16 (p 0).2 ct) (λ p w w' h hx=>h.ext hx) (λ us w' hx hf=>⟨rfl,?_⟩) ?_;(unfold gives;simp [go_sem,execOp];exact aA (aam _) (hct _ _ _ (hS3.ext hx))));(repeat (apply aj;(case h=>(intro us w' hx hf;obtain ⟨x,rfl⟩:=hx.out;refine ⟨rfl,?_⟩;simp [go_sem,execOp, *];(try simp (disch:=omega) only [q17q,q18q,q19q]);rfl));(try simp only [Act.put,q0q,q1q,q2q])));(refine ao (λ p => .tuple #[.slice (p 0).1 k (p 0).2, Zz Zx 0]) (λ p w''=>Sl w'' (p 0).1 k (st)/\(k)<=(p 0).2) (λ p w w' h hx=>⟨h.1.ext hx,h.2⟩) (λ us w' hx hf=>⟨rfl,?_⟩) ?_;(unfold gives;simp [go_sem,execOp];exact eR (hst _ _ _ _ _ (hkW.ext hx) (Own.sl (by exact (hf _ (aad _ (aaa _)) rfl))) (Own.le (by exact (hf _ (aad _ (aaa _)) rfl))).1 (hpW.ext hx))));(repeat (apply aj;(case h=>(intro us w' hx hf;obtain ⟨x,rfl⟩:=hx.out;refine ⟨rfl,?_⟩;simp [go_sem,execOp, *];(try simp (disch:=omega) only [q17q,q18q,q19q]);rfl));(try simp only [Act.put,q0q,q1q,q2q])));(refine aB ?_;intro us w' hx hf;obtain ⟨x,rfl⟩:=hx.out;(try simp only [Act.put,q0q,q1q,q2q,ai]);(try simp only [q3q,q4q,aar,aac,aan,q5q,q6q,q7q,aat,aau,aav] at hf);(try simp only [Nat.reduceAdd,aag] at hf ⊢));obtain ⟨-,hS4,hc4⟩:=hf;go_wp2_with fail;(with_reducible refine (aZ _ _ _ [tg,st] _ (oi ?h1 ?h2 _) Zo (16+k) hjl Zo).mono ?_)
  case h1=>exact (by (repeat' (first|with_reducible assumption|(with_reducible exact dG _)|(with_reducible exact bO _ _ _)|(with_reducible first|apply Sl.upE|apply Sl.upA|apply Sl.upD))))
  case h2=>exact (by (repeat' (first|with_reducible assumption|(with_reducible exact dG _)|(with_reducible exact bO _ _ _)|(with_reducible first|apply Sl.upE|apply Sl.upA|apply Sl.upD))))
  rintro e _ ⟨_,_,rfl,hO,hx⟩;obtain ⟨_,rfl⟩:=hx.out;clear hx;go_wp2;rw [HJ.out] at hO;go_ret2;exact ⟨_,_,rfl,hO.sl,hO.le.1,hxW.trans eX⟩
 ·have e:bI ky A p=([],(cG ky A p).2):=by unfold bI;rw [aal h0]
  rw [e];have hI:=ne0 h0;generalize (cG ky A p).2=v at *;generalize (cG ky A p).1=tg at *;clear e h0
  go_enter Tryz.func90,Tryz.ntmps90
  go_wp2_with (first|(go_at_call 108;(with_reducible refine (ht ?_ ?hq1 ?hq2 ?hq3).mono ?_);(case hq1=>exact sS);(case hq2=>exact sC);(case hq3=>exact sS);rintro e _ ⟨_,_,rfl,hS,hc,hx⟩;obtain ⟨_,rfl⟩:=hx.out;clear hx)|fail)
  go_ret2;exact aF _ _ _ eX
theorem wM (a b c:Option Addr)(n ca m cb k cc:Nat) (ky:List UInt8)(A:List (List UInt8)) (s:List UInt8)(w:World)(hk:Sl w a n ky) (hca:n<=ca) (hA:Bsc w b m A) (hm:m<=1000000) (hs:Sl w c k s) (hkc:k<=cc) (hk1:k<=1000000) :
  Calls Tryz.prog 68 #[Zy a n ca, Zy b m cb, Zy c k cc] w (bJ (bH ky A s).1.length (bH ky A s).1 (Zz Zx (bH ky A s).2) w):=by
 have hc:=λ w h1 h2=>o8 a b n ca m cb ky A ((k:Int)-16) w h1 h2 hm;have hsl:=hs.len;by_cases h0:aP ky A=0/\k<=65535
 ·obtain ⟨h0,hl⟩:=h0;obtain ⟨h32,_,_⟩:=gr h0;rw [hk.len] at h32;subst h32;have h00:dj ky A ((k:Int)-16)=0:=by unfold dj;rw [aaf (by rw [h0];simp),aaf Zo]
  rw [h00] at hc;by_cases h16:k<16
  ·have e:bH ky A s=([],1):=by unfold bH;rw [aaf (by rw [h0];simp),aaf Zo,aal Zo]
   rw [e];have hI:decide ((k:Int)<16)=true:=by simp;omega
   clear e h0 hsl h00
   go_enter Tryz.func68,Tryz.ntmps68
   go_wp2_with (first|(go_at_call 105;(with_reducible refine (hc ?_ ?hq12 ?hq13).mono ?_);(case hq12=>exact sS);(case hq13=>exact sC);rintro e w1 ⟨rfl,hxq⟩;obtain ⟨xq,rfl⟩:=hxq.out;clear hxq)|fail)
   go_ret2;exact aF _ _ _ eX
  ·have e:=Lib.hid (show bH ky A s=if (cG ky A (bE ky s)).1=s.take 16 then (bE ky s,0) else ([],6) by unfold bH;rw [aaf (by rw [h0];simp),aaf Zo,aaf Zo]);have htg:cG ky A (bE ky s)=(s2v (ky.take 16) (A++[bE ky s]),0):=jb h0 (by rw [dA];omega);have ht:=λ c cc w h1 h3 h5 h6=>sI a b c 32 ca m cb (k-16) cc ky A (bE ky s) w h1 hca h3 hm h5 h6;have hpo:bE ky s=stream (ky.drop 16) (dK (s.take 16)) (s.drop 16):=rfl;obtain ⟨b0,o0,rfl,hb0,_⟩:=hk.at 0 Zo;have hk2:=nE hk hca (i:=16) Zo;have hs1:=hs.take 16 Zo;have hs2:=hs.drop cc 16 hkc;have hst:=λ a1 a2 a3 c1 c2 c3 w h1 h2 h3 h4=>mK a1 a2 a3 c1 c2 c3 (k-16) (ky.drop 16) (dK (s.take 16)) (s.drop 16) w h1 h2 h3 h4 Zo;have hct:=λ a c w h=>m5 a c (s.take 16) w h;rw [<- hpo] at hst;rw [htg] at ht;rw [htg] at e;have hpl:(bE ky s).length=k-16:=by rw [dA];omega
   have htl:=dr (ky.take 16) (A++[bE ky s]);simp only at ht e;rw [htl] at ht;generalize s2v (ky.take 16) (A++[bE ky s])=tg at *;generalize bE ky s=pl at *;generalize dK (s.take 16)=ct at *;generalize s.take 16=s0 at *;generalize s.drop 16=s1 at *;clear htg h0 hpo hsl h00;rw [e.out];have hI:decide ((k:Int)<16)=false:=by simp;omega
   have q:(16:Int)<=(ca:Int):=Zo;have q2:(16:Int)<=(k:Int):=Zo;have q3:(16:Int)<=(cc:Int):=Zo;have q4:¬ ca=16:=Zo;by_cases he:tg=s0
   ·rw [aal he];show Calls _ _ _ _ (bJ pl.length _ _ _);rw [hpl];have hb:(tg == s0)=true:=by simpa using he
    clear he;clear e
    go_enter Tryz.func68,Tryz.ntmps68
    go_wp2_with (first|(go_at_call 105;(with_reducible refine (hc ?_ ?hq14 ?hq15).mono ?_);(case hq14=>exact sS);(case hq15=>exact sC);rintro e w1 ⟨rfl,hxq⟩;obtain ⟨xq,rfl⟩:=hxq.out;clear hxq)|fail)
    have hxW:Ext w (w.ext xq):=eX;have hkW:=hk2.ext hxW;have hs1W:=hs1.ext hxW;have hs2W:=hs2.ext hxW;have hkk:=hk.ext hxW;have hAA:=hA.ext hxW;generalize w.ext xq=W at *;refine ae 13 [[],[0],[],[2],[2,3],[],[5],[0,1,2,3,4,5,6],[0,1,2,3,4,5,6,7],[0,1,2,3,4,5,6,7,8],[0,1,2,3,4,5,6,7,8],[0,1,2,3,4,5,6,7,8,9],[0,1,2,3,4,5,6,7,8,9,10,11]] Zk Zk Zk Zk ?_;simp only [q8q,q9q,q10q,q11q,q12q,q13q];(repeat (apply aj;(case h=>(intro us w' hx hf;obtain ⟨x,rfl⟩:=hx.out;refine ⟨rfl,?_⟩;simp [go_sem,execOp, *];(try simp (disch:=omega) only [q17q,q18q,q19q]);rfl));(try simp only [Act.put,q0q,q1q,q2q])));(refine ao (λ p => .slice (p 0).1 16 (p 0).2) (λ p w''=>Own w'' 0 (p 0).1 16 (p 0).2 ct) (λ p w w' h hx=>h.ext hx) (λ us w' hx hf=>⟨rfl,?_⟩) ?_;(unfold gives;simp [go_sem,execOp];exact aA (aam _) (hct _ _ _ (hs1W.ext hx))));(repeat (apply aj;(case h=>(intro us w' hx hf;obtain ⟨x,rfl⟩:=hx.out;refine ⟨rfl,?_⟩;simp [go_sem,execOp, *];(try simp (disch:=omega) only [q17q,q18q,q19q]);rfl));(try simp only [Act.put,q0q,q1q,q2q])));(refine ao (λ p => .tuple #[.slice (p 0).1 (k-16) (p 0).2, Zz Zx 0]) (λ p w''=>Sl w'' (p 0).1 (k-16) pl/\k<=(p 0).2+16) (λ p w w' h hx=>⟨h.1.ext hx,h.2⟩) (λ us w' hx hf=>⟨rfl,?_⟩) ?_;(unfold gives;simp [go_sem,execOp];exact (hst _ _ _ _ _ _ _ (hkW.ext hx) (Own.sl (by exact (hf _ (aad _ (aaa _)) rfl))) (Own.le (by exact (hf _ (aad _ (aaa _)) rfl))).1 (hs2W.ext hx)).mono λ _ _ ⟨a,c,he,hO,hc,hx⟩=>⟨_,he,λ _=>(a,c),rfl,hx,hO,by show k<=c+16;omega⟩));(repeat (apply aj;(case h=>(intro us w' hx hf;obtain ⟨x,rfl⟩:=hx.out;refine ⟨rfl,?_⟩;simp [go_sem,execOp, *];(try simp (disch:=omega) only [q17q,q18q,q19q]);rfl));(try simp only [Act.put,q0q,q1q,q2q])));(refine aB ?_;intro us w' hx hf;obtain ⟨x,rfl⟩:=hx.out;(try simp only [Act.put,q0q,q1q,q2q,ai]);(try simp only [q3q,q4q,aar,aac,aan,q5q,q6q,q7q,aat,aau,aav] at hf);(try simp only [Nat.reduceAdd,aag] at hf ⊢));obtain ⟨-,hS4,hc4⟩:=hf
    go_wp2_with (first
     | (go_at_call 108;(with_reducible refine (ht ?_ ?_ ?_ ?hq4 ?hq5 ?hq6 ?hq7).mono ?_);(case hq4=>exact sS);(case hq5=>exact sC);(case hq6=>exact sS);(case hq7=>omega);rintro e _ ⟨_,_,rfl,hS,hc,hx⟩;obtain ⟨_,rfl⟩:=hx.out;clear hx)
     | (go_at_call 17;(with_reducible refine (iP ?_ ?_ ?_ ?_ ?_ ?_ tg s0 ?_ ?hq16 ?hq17).mono ?_);(case hq16=>exact sS);(case hq17=>exact sS);rintro e w1 ⟨rfl,hxq⟩;obtain ⟨xq,rfl⟩:=hxq.out;clear hxq)
     | fail)
    go_ret2;exact ⟨_,_,rfl,(by (repeat' (first|with_reducible assumption|(with_reducible exact dG _)|(with_reducible exact bO _ _ _)|(with_reducible first|apply Sl.upE|apply Sl.upA|apply Sl.upD)))),Zo,hxW.trans eX⟩
   ·rw [aaf he];have hb:(tg == s0)=false:=by simpa using he
    clear he;clear e
    go_enter Tryz.func68,Tryz.ntmps68
    go_wp2_with (first|(go_at_call 105;(with_reducible refine (hc ?_ ?hq18 ?hq19).mono ?_);(case hq18=>exact sS);(case hq19=>exact sC);rintro e w1 ⟨rfl,hxq⟩;obtain ⟨xq,rfl⟩:=hxq.out;clear hxq)|fail)
    have hxW:Ext w (w.ext xq):=eX;have hkW:=hk2.ext hxW;have hs1W:=hs1.ext hxW;have hs2W:=hs2.ext hxW;have hkk:=hk.ext hxW;have hAA:=hA.ext hxW;generalize w.ext xq=W at *;refine ae 13 [[],[0],[],[2],[2,3],[],[5],[0,1,2,3,4,5,6],[0,1,2,3,4,5,6,7],[0,1,2,3,4,5,6,7,8],[0,1,2,3,4,5,6,7,8],[0,1,2,3,4,5,6,7,8,9],[0,1,2,3,4,5,6,7,8,9,10,11]] Zk Zk Zk Zk ?_;simp only [q8q,q9q,q10q,q11q,q12q,q13q];(repeat (apply aj;(case h=>(intro us w' hx hf;obtain ⟨x,rfl⟩:=hx.out;refine ⟨rfl,?_⟩;simp [go_sem,execOp, *];(try simp (disch:=omega) only [q17q,q18q,q19q]);rfl));(try simp only [Act.put,q0q,q1q,q2q])));(refine ao (λ p => .slice (p 0).1 16 (p 0).2) (λ p w''=>Own w'' 0 (p 0).1 16 (p 0).2 ct) (λ p w w' h hx=>h.ext hx) (λ us w' hx hf=>⟨rfl,?_⟩) ?_;(unfold gives;simp [go_sem,execOp];exact aA (aam _) (hct _ _ _ (hs1W.ext hx))));(repeat (apply aj;(case h=>(intro us w' hx hf;obtain ⟨x,rfl⟩:=hx.out;refine ⟨rfl,?_⟩;simp [go_sem,execOp, *];(try simp (disch:=omega) only [q17q,q18q,q19q]);rfl));(try simp only [Act.put,q0q,q1q,q2q])));(refine ao (λ p => .tuple #[.slice (p 0).1 (k-16) (p 0).2, Zz Zx 0]) (λ p w''=>Sl w'' (p 0).1 (k-16) pl/\k<=(p 0).2+16) (λ p w w' h hx=>⟨h.1.ext hx,h.2⟩) (λ us w' hx hf=>⟨rfl,?_⟩) ?_;(unfold gives;simp [go_sem,execOp];exact (hst _ _ _ _ _ _ _ (hkW.ext hx) (Own.sl (by exact (hf _ (aad _ (aaa _)) rfl))) (Own.le (by exact (hf _ (aad _ (aaa _)) rfl))).1 (hs2W.ext hx)).mono λ _ _ ⟨a,c,he,hO,hc,hx⟩=>⟨_,he,λ _=>(a,c),rfl,hx,hO,by show k<=c+16;omega⟩));(repeat (apply aj;(case h=>(intro us w' hx hf;obtain ⟨x,rfl⟩:=hx.out;refine ⟨rfl,?_⟩;simp [go_sem,execOp, *];(try simp (disch:=omega) only [q17q,q18q,q19q]);rfl));(try simp only [Act.put,q0q,q1q,q2q])));(refine aB ?_;intro us w' hx hf;obtain ⟨x,rfl⟩:=hx.out;(try simp only [Act.put,q0q,q1q,q2q,ai]);(try simp only [q3q,q4q,aar,aac,aan,q5q,q6q,q7q,aat,aau,aav] at hf);(try simp only [Nat.reduceAdd,aag] at hf ⊢));obtain ⟨-,hS4,hc4⟩:=hf
    go_wp2_with (first
     | (go_at_call 108;(with_reducible refine (ht ?_ ?_ ?_ ?hq8 ?hq9 ?hq10 ?hq11).mono ?_);(case hq8=>exact sS);(case hq9=>exact sC);(case hq10=>exact sS);(case hq11=>omega);rintro e _ ⟨_,_,rfl,hS,hc,hx⟩;obtain ⟨_,rfl⟩:=hx.out;clear hx)
     | (go_at_call 17;(with_reducible refine (iP ?_ ?_ ?_ ?_ ?_ ?_ tg s0 ?_ ?hq20 ?hq21).mono ?_);(case hq20=>exact sS);(case hq21=>exact sS);rintro e w1 ⟨rfl,hxq⟩;obtain ⟨xq,rfl⟩:=hxq.out;clear hxq)
     | fail)
    go_ret2;exact aF _ _ _ (hxW.trans eX)
 ·have e:bH ky A s=([],dj ky A ((k:Int)-16))/\dj ky A ((k:Int)-16)≠0:=by
   unfold bH dj;by_cases h1:aP ky A≠0
   ·rw [aal h1,aal h1];exact ⟨rfl,h1⟩
   ·have h2:65535<k:=by
     rcases abj 65535 k with h3|h3
     ·exact h3
     ·exact absurd ⟨by simpa using h1,h3⟩ h0
    rw [aaf h1,aaf h1,aal Zo,aal Zo];exact ⟨rfl,Zd⟩
  obtain ⟨e,hne⟩:=e;rw [e];have hI:=ne0 hne;generalize dj ky A ((k:Int)-16)=v at *;clear e h0 hne
  go_enter Tryz.func68,Tryz.ntmps68
  go_wp2_with (first|(go_at_call 105;(with_reducible refine (hc ?_ ?hq22 ?hq23).mono ?_);(case hq22=>exact sS);(case hq23=>exact sC);rintro e w1 ⟨rfl,hxq⟩;obtain ⟨xq,rfl⟩:=hxq.out;clear hxq)|fail)
  go_ret2;exact aF _ _ _ eX
end Go.Proofs.YtmdahnkcnagkjaaGreat

/- Layer 6: the sanity check, and the laws AeadActs and AeadOpens. -/
namespace Go.Aes
def Du (ky:List UInt8)(A:List (List UInt8)) (b:List UInt8):Bool:=decide (ky.length<=60) && decide (A.length<=20) && decide (b.length<=100) && A.all λ x=>decide (x.length<=60)
theorem qN {ky:List UInt8} {A:List (List UInt8)} (h1:ky.length=32) (h2:A.length<=16) (h3:∀ x∈A,x.length<=60):aP ky A=0:=by
 unfold aP cX;rw [aaf Zo,aaf Zo,aaf];rw [Bool.not_eq_true,List.any_eq_false];intro x hx;have:=h3 x hx;simp;omega
end Go.Aes
namespace Go.Proofs.YtmdahnkcnagkjaaGreat
open Go.RowKit Go.Sec Go.Oct Go.Aes Go.Sha BigFrame
def EM:List UInt8:=[102,102,102,101,102,100,102,99,102,98,102,97,102,57,102,56,102,55,102,54,102,53,102,52,102,51,102,50,102,49,102,48,102,48,102,49,102,50,102,51,102,52,102,53,102,54,102,55,102,56,102,57,102,97,102,98,102,99,102,100,102,101,102,102]
def EC:List UInt8:=[255,254,253,252,251,250,249,248,247,246,245,244,243,242,241,240,240,241,242,243,244,245,246,247,248,249,250,251,252,253,254,255]
def Ey:List UInt8:=[49,48,49,49,49,50,49,51,49,52,49,53,49,54,49,55,49,56,49,57,49,97,49,98,49,99,49,100,49,101,49,102,50,48,50,49,50,50,50,51,50,52,50,53,50,54,50,55]
def Ez:List UInt8:=[16,17,18,19,20,21,22,23,24,25,26,27,28,29,30,31,32,33,34,35,36,37,38,39]
def EP:List UInt8:=[49,49,50,50,51,51,52,52,53,53,54,54,55,55,56,56,57,57,97,97,98,98,99,99,100,100,101,101]
def EN:List UInt8:=[17,34,51,68,85,102,119,136,153,170,187,204,221,238]
def Eu:List UInt8:=[56,53,54,51,50,100,48,55,99,54,101,56,102,51,55,102,57,53,48,97,99,100,51,50,48,97,50,101,99,99,57,51,52,48,99,48,50,98,57,54,57,48,99,52,100,99,48,52,100,97,101,102,55,102,54,97,102,101,53,99]
def EF:List UInt8:=[133,99,45,7,198,232,243,127,149,10,205,50,10,46,204,147,64,192,43,150,144,196,220,4,218,239,127,106,254,92]
end Go.Proofs.YtmdahnkcnagkjaaGreat

/- Layer 20 as plain functions. -/
namespace Go.Chan
open Go.Sha Go.Oct Go.Aes Go.Sec
structure Ch where
 cl:Bool
 sec:List UInt8
 snd:List UInt8
 rcv:List UInt8
 st:Int
 rc:Int
deriving DecidableEq
def upS:List UInt8:=[115,101,99,116,105,109,101,32,117,112]
def C3:List UInt8:=[115,101,99,116,105,109,101,32,100,111,119,110]
def DE:List UInt8:=[115,101,99,116,105,109,101,32,101,120,112,111,114,116]
def upK (s:List UInt8):List UInt8:=en s upS 32
def AQ (s:List UInt8):List UInt8:=en s C3 32
def keyed (cl:Bool) (s:List UInt8)(st rc:Int):Ch:=⟨cl,s,if cl then upK s else AQ s,if cl then AQ s else upK s,st,rc⟩
def fu:Ch:=⟨false,[],[],[],0,0⟩
def Cl (c:Ch):Prop:=c.sec.length=32/\0<=c.st/\c.st<=1099511627776/\0<=c.rc/\c.rc<=1099511627776
instance (c:Ch):Decidable (Cl c):=inferInstanceAs (Decidable (_/\_))
def rR (c:Ch):Bool:=decide (Cl c) && ((keyed c.cl c.sec c.st c.rc).snd == c.snd && (keyed c.cl c.sec c.st c.rc).rcv == c.rcv)
def DT (cl:Bool) (secret hello:List UInt8):Ch × Int:=if secret.length<16\/65535<secret.length then (fu,5) else (keyed cl (kN (sha hello) secret) 0 0,0)
def AS (kind:Int) (n:Nat):List UInt8:=b8 kind :: aH 2 (UInt64.ofNat (n+16))
def Ck (st:Int):List UInt8:=aH 8 (UInt64.ofNat st.toNat)
def recC (c:Ch) (kind:Int) (b:List UInt8):List UInt8:=AS kind b.length++(bI c.snd [Ck c.st,AS kind b.length] b).1
def Eb (c:Ch) (kind:Int) (b:List UInt8):Ch × List UInt8 × Int :=
 if rR c=false then (fu,[],3) else if kind<0\/255<kind then (fu,[],4) else if 16384<b.length then (fu,[],2) else if c.st=1099511627776 then (fu,[],7)
 else (keyed c.cl c.sec (c.st+1) c.rc,recC c kind b,0)
def CN (r:List UInt8):Nat:=(dy ((r.drop 1).take 2)).toNat
def inC (c:Ch) (r:List UInt8):List UInt8 × Int:=bH c.rcv [Ck c.rc,r.take 3] (r.drop 3)
def D0 (c:Ch) (r:List UInt8):Ch × Int × List UInt8 × Int :=
 if rR c=false then (fu,0,[],3) else if r.length<3 then (fu,0,[],1) else if r.length-3<CN r then (fu,0,[],1)
 else if CN r<r.length-3\/16400<r.length-3 then (fu,0,[],2) else if c.rc=1099511627776 then (fu,0,[],7)
 else if (inC c r).2≠0 then (fu,0,[],6) else (keyed c.cl c.sec c.st (c.rc+1),n8 (r.getD 0 0),(inC c r).1,0)
def De (c:Ch) (label ctx:List UInt8)(n:Int):List UInt8 × Int :=
 if rR c=false then ([],3) else if n<0\/8160<n then ([],4) else (en c.sec (BD DE label ctx) n.toNat,0)
def DP (c:Ch) (fresh:List UInt8):Ch × Int :=
 if rR c=false then (fu,3) else if fresh.length<16\/64<fresh.length then (fu,5) else (keyed c.cl (kN fresh c.sec) 0 0,0)
end Go.Chan

/- Layer 19 as plain functions. -/
namespace Go.Cook
open Go.Sha Go.Oct Go.Aes Go.Sec
abbrev Ring:=List (Int × List UInt8)
def mi:List UInt8:=[115,101,99,116,105,109,101,32,115,116,97,114,116]
def vD:List UInt8:=[115,101,99,116,105,109,101,32,110,101,120,116]
def okM (m:Int × List UInt8):Bool:=decide (0<=m.1/\m.1<=4294967295/\m.2.length=32)
def y9 (r:Ring):Bool:=r.all okM && decide (r.map (·.1)).Nodup
def aR (r:Ring):Bool:=y9 r && decide (1<=r.length/\r.length<=4)
def jk (id:Int) (seed:List UInt8):Ring × Int :=
 if id<0\/4294967295<id then ([],4) else if seed.length≠32 then ([],5) else ([(id,en seed mi 32)],0)
def hd (r:Ring):Int × List UInt8:=r.getD 0 (0,[])
def kz (r:Ring):Ring:=(((hd r).1+1) % 4294967296,en (hd r).2 vD 32) :: r.take 3
def fg (r:Ring):Ring × Int :=
 if aR r=false then ([],3) else if ((hd r).1+1) % 4294967296∈(r.take 3).map (·.1) then ([],7) else (kz r,0)
def idB (id:Int):List UInt8:=aH 4 (UInt64.ofNat id.toNat)
def eW (algo:Int) (up down:List UInt8):List UInt8:=aH 2 (UInt64.ofNat algo.toNat)++([0,0]++(up++down))
def dw (m:Int × List UInt8) (algo:Int) (up down nonce:List UInt8):List UInt8 :=
 idB m.1++(nonce++(bI m.2 [idB m.1,nonce] (eW algo up down)).1)
def bU (r:Ring) (algo:Int) (up down nonce:List UInt8):List UInt8 × Int :=
 if aR r=false then ([],3) else if algo<0\/65535<algo then ([],4) else if up.length≠32\/down.length≠32 then ([],5) else if nonce.length≠16 then ([],3)
 else (dw (hd r) algo up down nonce,0)
def lM (c:List UInt8):Int:=n64 (dy (c.take 4))
def idE (c:List UInt8):Int × Int:=if c.length≠104 then (0,3) else (lM c,0)
def jS (r:Ring) (c:List UInt8):Option Nat:=r.findIdx? λ m=>m.1 == lM c
def iA (r:Ring) (i:Nat) (c:List UInt8):List UInt8 × Int:=bH (r.getD i (0,[])).2 [c.take 4,(c.drop 4).take 16] (c.drop 20)
structure Opened where
 algo:Int
 up:List UInt8
 down:List UInt8
 age:Int
 err:Int
deriving DecidableEq
def dv (r:Ring) (c:List UInt8):Opened :=
 if aR r=false\/c.length≠104 then ⟨0,[],[],0,3⟩ else
 match jS r c with
 | none=>⟨0,[],[],0,5⟩
 | some i=>if (iA r i c).2≠0\/((iA r i c).1.drop 2).take 2≠[0,0] then ⟨0,[],[],0,6⟩
  else ⟨n64 (dy ((iA r i c).1.take 2)),((iA r i c).1.drop 4).take 32,((iA r i c).1.drop 36).take 32,i,0⟩
theorem gy (id:Int):(idB id).length=4:=az _ _
theorem kD (algo:Int) (up down:List UInt8):(eW algo up down).length=4+up.length+down.length:=by simp [eW,az];omega
theorem tE {ky nonce:List UInt8} (hk:ky.length=32) (hn:nonce.length=16) (id:Int):aP ky [idB id,nonce]=0 :=
 qN hk Zs (by simp [gy];omega)
theorem bm {r:Ring}:aR r=true ↔ (∀ m∈r,0<=m.1/\m.1<=4294967295/\m.2.length=32)/\(r.map (·.1)).Nodup/\1<=r.length/\r.length<=4:=by
 unfold aR y9 okM;simp [and_assoc]
theorem oF {r:Ring} (h:1<=r.length):hd r∈r:=by
 unfold hd;rw [List.getD_eq_getElem?_getD,List.getElem?_eq_getElem Zo,abI];exact aaN _
theorem tX {r:Ring}:∀ m∈r.take 3,m∈r:=λ _ h=>aba h
theorem _root_.z26q93{p:Prop}(h:p:=by
 exact ⟨by simp only;omega,by simp only;omega,nU _ _ _⟩):p:=h
theorem uv {r:Ring} (h:aR r=true) (hn:((hd r).1+1) % 4294967296 ∉ (r.take 3).map (·.1)):aR (kz r)=true:=by
 obtain ⟨h1,h2,h3,h4⟩:=bm.1 h;refine bm.2 ⟨?_,?_,?_,?_⟩
 ·intro m hm;rcases abv.1 hm with rfl|hm
  ·exact z26q93
  ·exact h1 m (tX m hm)
 ·unfold kz;rw [abb,List.nodup_cons];exact ⟨hn,by rw [List.map_take];exact h2.sublist (List.take_sublist _ _)⟩
 ·simp [kz]
 ·simp [kz];omega
def Down (r:Ring):Prop:=(r.map (·.1)).Pairwise (· > ·)
theorem ym {r:Ring} (h:aR r=true) (hd':Down r) (hb:(hd r).1<4294967295):Down (kz r)/\(hd (kz r)).1=(hd r).1+1/\aR (kz r)=true/\fg r=(kz r,0):=by
 obtain ⟨h1,h2,h3,h4⟩:=bm.1 h;have h0:=(h1 _ (oF h3)).1;have e:((hd r).1+1) % 4294967296=(hd r).1+1:=Zo;have hle:∀ m∈r,m.1<=(hd r).1:=by
  intro m hm;cases r with
  | nil=>cases hm
  | cons x r =>
   have hx:hd (x :: r)=x:=rfl;rw [hx];rcases abv.1 hm with rfl|hm
   ·exact Int.le_refl _
   ·unfold Down at hd';rw [abb,List.pairwise_cons] at hd';have:=hd'.1 m.1 (List.mem_map_of_mem hm);omega
 have hn:((hd r).1+1) % 4294967296 ∉ (r.take 3).map (·.1):=by
  rw [e];intro hm;obtain ⟨m,hm,he⟩:=aa6.1 hm;have:=hle m (tX m hm);omega
 refine ⟨?_,?_,uv h hn,?_⟩
 ·unfold Down kz;rw [abb,List.pairwise_cons];refine ⟨?_,by rw [List.map_take];exact hd'.sublist (List.take_sublist _ _)⟩;intro a ha;obtain ⟨m,hm,rfl⟩:=aa6.1 ha;have:=hle m (tX m hm);simp only;omega
 ·show ((hd r).1+1) % 4294967296=_;exact e
 ·unfold fg;rw [aaf (by rw [h];simp),aaf hn]
def fV (s:Nat) (key:List UInt8):Ring:=[((s:Int),en key mi 32)]
def kV (r:Ring):Nat->Ring
 | 0=>r
 | t+1=>kz (kV r t)
structure Fine (r:Ring):Prop where
 ok:aR r=true
 down:Down r
theorem Fine.rot {r:Ring} (h:Fine r) (hb:(hd r).1<4294967295):Fine (kz r)/\(hd (kz r)).1=(hd r).1+1/\fg r=(kz r,0):=by
 obtain ⟨h1,h2,h3,h4⟩:=ym h.ok h.down hb;exact ⟨⟨h3,h1⟩,h2,h4⟩
theorem CI (s:Nat) (key:List UInt8)(hs:s<=4294967295):Fine (fV s key):=by
 refine ⟨bm.2 ⟨?_,by simp [fV],by simp [fV],by simp [fV]⟩,by simp [Down,fV]⟩;intro m hm;simp only [fV,aaB] at hm;subst hm;exact z26q93
theorem CG {r:Ring} (h:Fine r) (t:Nat) (hb:(hd r).1+t<=4294967295):Fine (kV r t)/\(hd (kV r t)).1=(hd r).1+t:=by
 induction t with
 | zero=>exact ⟨h,by simp [kV]⟩
 | succ t ih =>
  obtain ⟨h1,h2⟩:=ih Zo;obtain ⟨h3,h4,_⟩:=h1.rot Zo;exact ⟨h3,by rw [kV,h4,h2];omega⟩
theorem wb {s:Nat} {seed:List UInt8} (h:s<=4294967295) (hl:seed.length=32):jk (s:Int) seed=(fV s seed,0):=by
 unfold jk;rw [aaf Zo,aaf Zo];rfl
theorem fQ {m:Int × List UInt8} {algo:Int} {up down nonce:List UInt8} (h0:0<=m.1) (h1:m.1<=4294967295) (hk:m.2.length=32) (hn:nonce.length=16) (hu:up.length=32) (hd':down.length=32) :
  (dw m algo up down nonce).length=104/\(dw m algo up down nonce).take 4=idB m.1/\((dw m algo up down nonce).drop 4).take 16=nonce/\(dw m algo up down nonce).drop 20=(bI m.2 [idB m.1,nonce] (eW algo up down)).1/\lM (dw m algo up down nonce)=m.1:=by
 have hl:=gy m.1;have hpl:=kD algo up down;have ht:(dw m algo up down nonce).take 4=idB m.1:=by unfold dw;rw [aaD Zo,aak Zo]
 have hd4:(dw m algo up down nonce).drop 4=nonce++(bI m.2 [idB m.1,nonce] (eW algo up down)).1:=by
  unfold dw;rw [aa9 Zo,aaK Zo,q5q]
 refine ⟨?_,ht,?_,?_,?_⟩
 ·unfold dw;rw [oW (tE hk hn _) Zo];simp only [aah,dr,cO,hl,hn,hpl];omega
 ·rw [hd4,aaD Zo,aak Zo]
 ·rw [show 20=4+16 from rfl,<- abi,hd4,aa9 Zo,aaK Zo,q5q]
 ·unfold lM;rw [ht];unfold idB;unfold n64;rw [rU 4 _ Zo Zo];omega
theorem tz {r:Ring} {c:List UInt8} {i:Nat} {m:Int × List UInt8} (hnd:(r.map (·.1)).Nodup) (hm:r[i]?=some m) (hid:m.1=lM c):jS r c=some i:=by
 unfold jS;obtain ⟨hi,hm⟩:=List.getElem?_eq_some_iff.1 hm;rw [List.findIdx?_eq_some_iff_getElem];refine ⟨hi,by rw [hm];simpa using hid,λ j hj=>?_⟩;have:=List.pairwise_iff_getElem.1 hnd j i (by simp;omega) (by simpa using hi) hj;simp only [abG] at this;rw [hm,hid] at this;simpa using this
theorem wk {r:Ring} {i:Nat} {m:Int × List UInt8} {algo:Int} {up down nonce:List UInt8} (hr:aR r=true) (hm:r[i]?=some m) (ha:0<=algo) (ha2:algo<=65535) (hn:nonce.length=16) (hu:up.length=32) (hd':down.length=32) :
  dv r (dw m algo up down nonce)=⟨algo,up,down,i,0⟩:=by
 obtain ⟨h1,h2,h3,h4⟩:=bm.1 hr;obtain ⟨k0,k1,k2⟩:=h1 m (List.mem_of_getElem? hm);obtain ⟨c1,c2,c3,c4,c5⟩:=fQ (algo:=algo) k0 k1 k2 hn hu hd';have hpl:=kD algo up down;have hin:iA r i (dw m algo up down nonce)=(eW algo up down,0):=by
  unfold iA;rw [c2,c3,c4,List.getD_eq_getElem?_getD,hm,abI];exact nQ (tE k2 hn _) Zo
 have p2:=az 2 (UInt64.ofNat algo.toNat);have e1:(eW algo up down).take 2=aH 2 (UInt64.ofNat algo.toNat):=by unfold eW;rw [aaD Zo,aak Zo]
 have e2:(eW algo up down).drop 2=[0,0]++(up++down):=by unfold eW;rw [aa9 Zo,aaK Zo,q5q]
 have e3:(eW algo up down).drop 4=up++down:=by rw [show 4=2+2 from rfl,<- abi,e2];rfl
 have e4:(eW algo up down).drop 36=down:=by rw [show 36=4+32 from rfl,<- abi,e3,aa9 Zo,aaK Zo,q5q]
 unfold dv;rw [aaf (by simp [hr,c1]),tz h2 hm c5.symm];simp only;rw [hin];simp only;rw [e1,e2,e3,e4,aaf Zs,aaD Zo,aak Zo,aak Zo];unfold n64;rw [rU 2 _ Zo Zo]
 congr 1;omega
end Go.Cook

/- Layers 25 and 26 as plain functions: rates, refusals, a server without state. -/
namespace Go.Tsrv
open Go.Oct Go.Pkt Go.Cook
structure Srv where
 ring:Ring
 str:Int
 ev:Int
 bu:Int
 opn:Bool
def fe (t:Int):Bool:=decide (-1152921504606846976<=t/\t<=1152921504606846976)
def eS (ev bu:Int):Bool:=decide ((1<=ev/\ev<=1099511627776)/\1<=bu/\bu<=64)
def fq (paid ev bu now:Int):Bool:=eS ev bu && (fe now && fe paid)
def nh (paid ev bu now:Int):Int × Int:=if fq paid ev bu now=false then (0,4) else (max 0 (paid-now-(bu-1)*ev),0)
def ef (paid ev bu now:Int):(Int × Bool) × Int :=
 if fq paid ev bu now=false then ((0,false),4) else if (bu-1)*ev<paid-now then ((paid,false),0)
 else if fe (max paid now+ev)=false then ((0,false),4) else ((max paid now+ev,true),0)
def cZ (s:Srv):Int:=if aR s.ring=false then 3 else if eS s.ev s.bu=false\/s.str<1\/255<s.str then 4 else 0
def isF (k:Int) (n:Nat) (f:Fld):Bool:=decide (f.1=k/\f.2.length=n)
def pH (L:List Fld):List Fld:=(L.drop 2).take (L.length-3)
def eA (L:List Fld):Bool :=
 decide (3<=L.length/\L.length<=10) && (isF 260 32 (L.getD 0 (0,[])) && (isF 516 104 (L.getD 1 (0,[])) && (decide ((L.getD (L.length-1) (0,[])).1=1028) && (pH L).all (isF 772 104))))
def fk (q:List UInt8):Int :=
 if (aC q).2≠0\/(aC q).1.h.ver≠4\/(aC q).1.h.mode≠3 then 0 else if (aC q).1.plain=[] then 1 else if eA (aC q).1.plain=true then 2 else 0
def cE (q:Hdr) (r t:UInt64) (code:UInt32):Hdr:={ (jV q 0 r t).1 with id:=code }
def rX:UInt32:=1380013125
def cU:UInt32:=1314149198
def bG (s:Srv) (q:Hdr) (r t:UInt64) (al:Bool):Hdr:=if al=true then (jV q s.str r t).1 else cE q r t rX
def iC (s:Srv) (o:Opened) (N:List (List UInt8)) (n:Nat):List Fld:=(List.range n).map λ k=>(516,(bU s.ring o.algo o.up o.down (N.getD (1+k) [])).1)
def mQ (P:Pkt) (r t:UInt64):Pkt:=⟨cE P.h r t cU,P.plain.take 1,[],false⟩
def mz (s:Srv) (P:Pkt) (o:Opened) (r t:UInt64) (al:Bool) (N:List (List UInt8)):Pkt:=⟨bG s P.h r t al,P.plain.take 1,if al=true then iC s o N (P.plain.length-2) else [],false⟩
def lh (P:Pkt):List UInt8:=(P.plain.getD 1 (0,[])).2
def jx (s:Srv) (P:Pkt) (q:List UInt8)(r t:UInt64) (al:Bool) (N:List (List UInt8)):List UInt8 × Bool :=
 if (dv s.ring (lh P)).err≠0\/(cT (dv s.ring (lh P)).up q).2≠0 then ((cQ (mQ P r t)).1,false)
 else ((cD (dv s.ring (lh P)).down (mz s P (dv s.ring (lh P)) r t al N) (N.getD 0 [])).1,true)
def wC (s:Srv) (paid paid2:Int) (al:Bool) (q:List UInt8)(r t:UInt64) (N:List (List UInt8)):List UInt8 × Int :=
 if fk q=1 then (if s.opn=true then ((cQ ⟨bG s (aC q).1.h r t al,[],[],false⟩).1,paid2) else ([],paid))
 else if fk q=2 then ((jx s (aC q).1 q r t al N).1,if (jx s (aC q).1 q r t al N).2=true then paid2 else paid) else ([],paid)
def jN (s:Srv) (paid now:Int) (q:List UInt8)(r t:UInt64) (N:List (List UInt8)):(List UInt8 × Int) × Int :=
 if cZ s≠0 then (([],0),cZ s) else if (ef paid s.ev s.bu now).2≠0 then (([],0),(ef paid s.ev s.bu now).2)
 else if (N.all λ n=>decide (n.length=16))=false then (([],0),3) else if N.length<9 then (([],0),1)
 else (wC s paid (ef paid s.ev s.bu now).1.1 (ef paid s.ev s.bu now).1.2 q r t N,0)
theorem uT (q:List UInt8):fk q=0\/fk q=1\/fk q=2:=by
 unfold fk;split
 ·exact .inl rfl
 ·split
  ·exact .inr (.inl rfl)
  ·split
   ·exact .inr (.inr rfl)
   ·exact .inl rfl
theorem sH (q:Hdr) {s:Int} (r t:UInt64) (code:UInt32) (h0:0<=s) (h1:s<=255):{ (jV q s r t).1 with strat:=0,id:=code }=cE q r t code:=by
 unfold cE jV;split
 ·rfl
 ·split
  ·rfl
  ·rw [aaf Zo,aaf Zo]
end Go.Tsrv

/- The walks of layer 25: ticks.Valid, valid, Wait, Allow; of the document: Rule, Allow. -/
namespace Go.Tsrv
theorem xQ {ev bu:Int} (h:eS ev bu=true):0<=(bu-1)*ev/\(bu-1)*ev<=69269232549888/\1<=ev/\ev<=1099511627776/\1<=bu/\bu<=64:=by
 unfold eS at h;obtain ⟨⟨h1,h2⟩,h3,h4⟩:=aaV h;refine ⟨Int.mul_nonneg Zo Zo,?_,h1,h2,h3,h4⟩
 calc (bu-1)*ev<=63*ev:=Int.mul_le_mul_of_nonneg_right Zo Zo
  _<=69269232549888:=Zo
theorem nF {t:Int} (h:fe t=true) : -1152921504606846976<=t/\t<=1152921504606846976:=by
 unfold fe at h;exact aaV h
end Go.Tsrv
namespace Go.Proofs.YtmdahnkcnagkjaaGreat
open Go.RowKit Go.Sec Go.Tsrv BigFrame
theorem RB1:RowT Tryz.prog 32 1:=⟨⟨_,Tryz.underlying32,rfl⟩,Zk,⟨_,Tryz.zeroValue32,Zk⟩⟩
theorem ei (t:Int) (w:World) :
  Calls Tryz.prog 74 #[Zz Zx t] w λ e w'=>e = .returned (.bool (fe t))/\Ext w w':=by
 by_cases h1 : -1152921504606846976<=t
 ·by_cases h2:t<=1152921504606846976
  ·have e:=Lib.hid (show fe t=true from aaC ⟨h1,h2⟩)
   go_enter Tryz.func74,Tryz.ntmps74
   go_wp2;go_ret;exact ⟨by rw [e.out];rfl,eX⟩
  ·have e:=Lib.hid (show fe t=false from aaH λ h=>h2 h.2)
   go_enter Tryz.func74,Tryz.ntmps74
   go_wp2;go_ret;exact ⟨by rw [e.out];rfl,eX⟩
 ·have e:=Lib.hid (show fe t=false from aaH λ h=>h1 h.1)
  go_enter Tryz.func74,Tryz.ntmps74
  go_wp2;go_ret;exact ⟨by rw [e.out];rfl,eX⟩
theorem uL (p ev bu now:Int) (w:World) :
  Calls Tryz.prog 99 #[.agg #[Zz Zx p], .agg #[Zz Zx ev, Zz Zx bu], Zz Zx now] w λ e w'=>e = .returned (.bool (fq p ev bu now))/\Ext w w':=by
 obtain ⟨r,hr⟩:∃ r,fq p ev bu now=r:=⟨_,rfl⟩;rw [hr];have hru:eS ev bu=false->r=false:=λ h=>by rw [<- hr];unfold fq;rw [h];rfl
 have hok:eS ev bu=true->r=(fe now && fe p):=λ h=>by rw [<- hr];unfold fq;rw [h];rfl
 clear hr;by_cases c1:1<=ev
 ·by_cases c2:ev<=1099511627776
  ·by_cases c3:1<=bu
   ·by_cases c4:bu<=64
    ·cases h1:fe now
     ·have e:=Lib.hid (show r=false by rw [hok (aaC ⟨⟨c1,c2⟩,c3,c4⟩),h1];rfl);clear hru hok
      go_enter Tryz.func99,Tryz.ntmps99
      go_wp2_with (first
       | (go_at_call 74;refine (ei _ _).mono ?_;rintro e w1 ⟨rfl,hxq⟩;obtain ⟨xq,rfl⟩:=hxq.out;clear hxq)
       | fail)
      go_ret;exact ⟨by rw [e.out];rfl,eX⟩
     ·cases h2:fe p
      ·have e:=Lib.hid (show r=false by rw [hok (aaC ⟨⟨c1,c2⟩,c3,c4⟩),h1,h2];rfl);clear hru hok
       go_enter Tryz.func99,Tryz.ntmps99
       go_wp2_with (first
        | (go_at_call 74;refine (ei _ _).mono ?_;rintro e w1 ⟨rfl,hxq⟩;obtain ⟨xq,rfl⟩:=hxq.out;clear hxq)
        | fail)
       go_ret;exact ⟨by rw [e.out];rfl,eX⟩
      ·have e:=Lib.hid (show r=true by rw [hok (aaC ⟨⟨c1,c2⟩,c3,c4⟩),h1,h2];rfl);clear hru hok
       go_enter Tryz.func99,Tryz.ntmps99
       go_wp2_with (first
        | (go_at_call 74;refine (ei _ _).mono ?_;rintro e w1 ⟨rfl,hxq⟩;obtain ⟨xq,rfl⟩:=hxq.out;clear hxq)
        | fail)
       go_ret;exact ⟨by rw [e.out];rfl,eX⟩
    ·have e:=Lib.hid (hru (aaH λ h=>c4 h.2.2));clear hru hok
     go_enter Tryz.func99,Tryz.ntmps99
     go_wp2_with (first
      | (go_at_call 74;refine (ei _ _).mono ?_;rintro e w1 ⟨rfl,hxq⟩;obtain ⟨xq,rfl⟩:=hxq.out;clear hxq)
      | fail)
     go_ret;exact ⟨by rw [e.out];rfl,eX⟩
   ·have e:=Lib.hid (hru (aaH λ h=>c3 h.2.1));clear hru hok
    go_enter Tryz.func99,Tryz.ntmps99
    go_wp2_with (first
     | (go_at_call 74;refine (ei _ _).mono ?_;rintro e w1 ⟨rfl,hxq⟩;obtain ⟨xq,rfl⟩:=hxq.out;clear hxq)
     | fail)
    go_ret;exact ⟨by rw [e.out];rfl,eX⟩
  ·have e:=Lib.hid (hru (aaH λ h=>c2 h.1.2));clear hru hok
   go_enter Tryz.func99,Tryz.ntmps99
   go_wp2_with (first
    | (go_at_call 74;refine (ei _ _).mono ?_;rintro e w1 ⟨rfl,hxq⟩;obtain ⟨xq,rfl⟩:=hxq.out;clear hxq)
    | fail)
   go_ret;exact ⟨by rw [e.out];rfl,eX⟩
 ·have e:=Lib.hid (hru (aaH λ h=>c1 h.1.1));clear hru hok
  go_enter Tryz.func99,Tryz.ntmps99
  go_wp2_with (first
   | (go_at_call 74;refine (ei _ _).mono ?_;rintro e w1 ⟨rfl,hxq⟩;obtain ⟨xq,rfl⟩:=hxq.out;clear hxq)
   | fail)
  go_ret;exact ⟨by rw [e.out];rfl,eX⟩
theorem lN {p ev bu now:Int} (h:fq p ev bu now=true):eS ev bu=true/\fe now=true/\fe p=true:=by
 unfold fq at h;rw [aay,aay] at h;exact h
theorem qE (p ev bu now:Int) (w:World) :
  Calls Tryz.prog 58 #[.agg #[Zz Zx p], .agg #[Zz Zx ev, Zz Zx bu], Zz Zx now] w λ e w'=>e = .returned (.tuple #[Zz Zx (nh p ev bu now).1, Zz Zx (nh p ev bu now).2])/\Ext w w':=by
 have hk:=λ W=>uL p ev bu now W;obtain ⟨r,hr⟩:∃ r,nh p ev bu now=r:=⟨_,rfl⟩;rw [hr];unfold nh at hr;cases hv:fq p ev bu now
 ·rw [hv] at hk hr;rw [aal rfl] at hr;have hr:=Lib.hid hr
  go_enter Tryz.func58,Tryz.ntmps58
  go_wp2_with (first
   | (go_at_call 99;refine (hk _).mono ?_;rintro e w1 ⟨rfl,hxq⟩;obtain ⟨xq,rfl⟩:=hxq.out;clear hxq)
   | fail)
  go_ret2;exact ⟨by rw [<- hr.out];rfl,eX⟩
 ·obtain ⟨q1,q2,q3⟩:=lN hv;obtain ⟨z0,z1,e0,e1,b0,b1⟩:=xQ q1;have n1:=nF q2;have p1:=nF q3;rw [hv] at hk hr;rw [aaf Zs] at hr;have hr:=Lib.hid hr;clear q1 q2 q3 hv
  go_enter Tryz.func58,Tryz.ntmps58
  go_wp2_with (first
   | (go_at_call 99;refine (hk _).mono ?_;rintro e w1 ⟨rfl,hxq⟩;obtain ⟨xq,rfl⟩:=hxq.out;clear hxq)
   | fail)
  go_ret2;exact ⟨by rw [<- hr.out];rfl,eX⟩
theorem uF (p ev bu now:Int) (w:World) :
  Calls Tryz.prog 39 #[.agg #[Zz Zx p], .agg #[Zz Zx ev, Zz Zx bu], Zz Zx now] w λ e w'=>e = .returned (.tuple #[.agg #[Zz Zx (ef p ev bu now).1.1], .bool (ef p ev bu now).1.2, Zz Zx (ef p ev bu now).2])/\Ext w w':=by
 have hk:=λ W=>qE p ev bu now W;obtain ⟨r,hr⟩:∃ r,ef p ev bu now=r:=⟨_,rfl⟩;rw [hr];unfold ef at hr;unfold nh at hk;cases hv:fq p ev bu now
 ·rw [hv] at hk hr;rw [aal rfl] at hr;simp only [abg] at hk;have hr:=Lib.hid hr;clear hv
  go_enter Tryz.func39,Tryz.ntmps39
  go_wp2_with (first
   | (go_at_call 58;refine (hk _).mono ?_;rintro e w1 ⟨rfl,hxq⟩;obtain ⟨xq,rfl⟩:=hxq.out;clear hxq)
   | (go_at_call 74;refine (ei _ _).mono ?_;rintro e w1 ⟨rfl,hxq⟩;obtain ⟨xq,rfl⟩:=hxq.out;clear hxq)
   | fail)
  go_returns
  exact ⟨by rw [<- hr.out] <;> rfl,by repeat (first|(with_reducible exact Ext.refl _)|assumption|(with_reducible apply Ext.alloc)|(with_reducible apply Ext.ext)|(refine Ext.setCell ?_ (by dsimp only;omega) _))⟩
 ·obtain ⟨q1,q2,q3⟩:=lN hv;obtain ⟨z0,z1,e0,e1,b0,b1⟩:=xQ q1;have n1:=nF q2;have p1:=nF q3;rw [hv] at hk hr;rw [aaf Zs] at hr;simp only [Bool.true_eq_false,abn] at hk;clear q1 q2 q3 hv;generalize (bu-1)*ev=z at *;by_cases hz:z<p-now
  ·rw [aal hz] at hr;have hr:=Lib.hid hr;have hm:max 0 (p-now-z)=p-now-z:=Zo;have hm2:0<p-now-z:=Zo;rw [hm] at hk;clear hz hm
   go_enter Tryz.func39,Tryz.ntmps39
   go_wp2_with (first
    | (go_at_call 58;refine (hk _).mono ?_;rintro e w1 ⟨rfl,hxq⟩;obtain ⟨xq,rfl⟩:=hxq.out;clear hxq)
    | (go_at_call 74;refine (ei _ _).mono ?_;rintro e w1 ⟨rfl,hxq⟩;obtain ⟨xq,rfl⟩:=hxq.out;clear hxq)
    | fail)
   go_returns
   exact ⟨by rw [<- hr.out] <;> rfl,by repeat (first|(with_reducible exact Ext.refl _)|assumption|(with_reducible apply Ext.alloc)|(with_reducible apply Ext.ext)|(refine Ext.setCell ?_ (by dsimp only;omega) _))⟩
  ·rw [aaf hz] at hr;have hm:max 0 (p-now-z)=0:=Zo;rw [hm] at hk;clear hm hz;obtain ⟨x,hx⟩:∃ x,max p now=x:=⟨_,rfl⟩;have hx1 : -1152921504606846976<=x:=Zo;have hx2:x<=1152921504606846976:=Zo;rw [hx] at hr;cases ht:fe (x+ev)
   ·rw [ht,aal rfl] at hr;have hr:=Lib.hid hr
    go_enter Tryz.func39,Tryz.ntmps39
    go_wp2_with (first
     | (go_at_call 58;refine (hk _).mono ?_;rintro e w1 ⟨rfl,hxq⟩;obtain ⟨xq,rfl⟩:=hxq.out;clear hxq)
     | (go_at_call 74;refine (ei _ _).mono ?_;rintro e w1 ⟨rfl,hxq⟩;obtain ⟨xq,rfl⟩:=hxq.out;clear hxq)
     | fail)
    go_returns
    exact ⟨by rw [<- hr.out] <;> rfl,by repeat (first|(with_reducible exact Ext.refl _)|assumption|(with_reducible apply Ext.alloc)|(with_reducible apply Ext.ext)|(refine Ext.setCell ?_ (by dsimp only;omega) _))⟩
   ·rw [ht,aaf Zs] at hr;have hr:=Lib.hid hr
    go_enter Tryz.func39,Tryz.ntmps39
    go_wp2_with (first
     | (go_at_call 58;refine (hk _).mono ?_;rintro e w1 ⟨rfl,hxq⟩;obtain ⟨xq,rfl⟩:=hxq.out;clear hxq)
     | (go_at_call 74;refine (ei _ _).mono ?_;rintro e w1 ⟨rfl,hxq⟩;obtain ⟨xq,rfl⟩:=hxq.out;clear hxq)
     | fail)
    go_returns
    exact ⟨by rw [<- hr.out] <;> rfl,by repeat (first|(with_reducible exact Ext.refl _)|assumption|(with_reducible apply Ext.alloc)|(with_reducible apply Ext.ext)|(refine Ext.setCell ?_ (by dsimp only;omega) _))⟩
end Go.Proofs.YtmdahnkcnagkjaaGreat

/- The walks of layer 16: Ask, Encode. -/
namespace Go.Proofs.YtmdahnkcnagkjaaGreat
open Go.RowKit Go.Sec Go.Oct Go.Pkt BigFrame
def T3 (h:Hdr) (k:Nat):List UInt8:=iS h++aW ([aH 4 h.rd.toUInt64,aH 4 h.rp.toUInt64,aH 4 h.id.toUInt64].take k)
def T4 (h:Hdr) (k:Nat):List UInt8:=iS h++(aH 4 h.rd.toUInt64++(aH 4 h.rp.toUInt64++(aH 4 h.id.toUInt64++aW ([aH 8 h.ref,aH 8 h.org,aH 8 h.rcv,aH 8 h.tx].take k))))
theorem _root_.z26q49{p:Prop}(h:p:=by
 obtain ⟨h1,h2,h3,_⟩:=hk;exact D _ (by simp only [q3q,q4q,aar];omega) _ (by simp only [q3q,q4q,aar];omega) _ (by simp only [q3q,q4q,aar];omega)):p:=h
theorem CJ {h:Hdr} (hk:okH h):bits .or .i64 (bits .or .i64 (wrap64 (h.leap*64)) (wrap64 (h.ver*8))) h.mode % 256=n8 (b8 (h.leap*64+h.ver*8+h.mode)):=by
 have D:∀ a∈[(0:Int),1,2,3],∀ b∈[(3:Int),4],∀ c∈[(0:Int),1,2,3,4,5,6,7],bits .or .i64 (bits .or .i64 (wrap64 (a*64)) (wrap64 (b*8))) c % 256=n8 (b8 (a*64+b*8+c)):=by decide +kernel
 exact z26q49
theorem sM (h:Hdr) (w:World) :
  Calls Tryz.prog 142 #[.agg #[Zz Zx h.leap, Zz Zx h.ver, Zz Zx h.mode, Zz Zx h.strat, Zz Zx h.poll, Zz Zx h.prec, Zz Zv (n32 h.rd), Zz Zv (n32 h.rp), Zz Zv (n32 h.id), Zz Zw (n64 h.ref), Zz Zw (n64 h.org), Zz Zw (n64 h.rcv), Zz Zw (n64 h.tx)]] w (bJ (cC h).1.length (cC h).1 (Zz Zx (cC h).2) w):=by
 have hv:=λ W=>kK h W;have hp4:=λ x W=>gL x 4 rfl (show (4:Int)=((4:Nat):Int) from rfl) W Zo;have hp8:=λ x W=>gL x 8 rfl (show (8:Int)=((8:Nat):Int) from rfl) W Zo;by_cases hk:okH h
 ·have er:cC h=(cJ h,0):=aal hk;rw [er] at hv ⊢;have hl:=cH h;show Calls _ _ _ _ (bJ (cJ h).length _ _ _);rw [hl]
  go_enter Tryz.func142,Tryz.ntmps142
  go_wp2_with (first
   | (go_at_call 161;refine (hv _).mono ?_;rintro e w1 ⟨rfl,hxq⟩;obtain ⟨xq,rfl⟩:=hxq.out;clear hxq)
   | fail)
  rw [CJ hk,<- nq h.strat,<- nq h.poll,<- nq h.prec];refine df ?_;intro W hW;have hE:Ext w W:=by rw [hW];exact eX
  have hB:Blk W w.heap.size 64 [Zz Zx h.leap, Zz Zx h.ver, Zz Zx h.mode, Zz Zx h.strat, Zz Zx h.poll, Zz Zx h.prec, Zz Zv (n32 h.rd), Zz Zv (n32 h.rp), Zz Zv (n32 h.id), Zz Zw (n64 h.ref), Zz Zw (n64 h.org), Zz Zw (n64 h.rcv), Zz Zw (n64 h.tx)]:=by rw [hW];exact bK
  have hO:=Own.of_blk (w:=W) (l:=iS h) (base:=w.heap.size) (by rw [hW];exact Blk.new _ _ _) (Below.size (B:=w.heap.size) eX) (by rw [show (iS h).length=4 from rfl];decide);have hO:Own W w.heap.size _ 4 4 (iS h):=hO;clear hW hv er hk
  go_loopw [5,7,43] (λ v5 _ v43 wr=>∃ (k:Nat) (sa:Option Addr)(sc:Nat),k<=3/\v43 = Zz Zx k/\v5 = Zy sa (4+4*k) sc/\Own wr w.heap.size sa (4+4*k) sc (T3 h k)/\Blk wr w.heap.size 64 [Zz Zx h.leap, Zz Zx h.ver, Zz Zx h.mode, Zz Zx h.strat, Zz Zx h.poll, Zz Zx h.prec, Zz Zv (n32 h.rd), Zz Zv (n32 h.rp), Zz Zv (n32 h.id), Zz Zw (n64 h.ref), Zz Zw (n64 h.org), Zz Zw (n64 h.rcv), Zz Zw (n64 h.tx)]/\Ext w wr) (λ _ _ v43 _=>3-(intOf v43).toNat)
  case atStart=>exact ⟨0,_,_,Zo,rfl,rfl,hO,hB,hE⟩
  case round =>
   clear hO hB hE;obtain ⟨k,sa,sc,hk,rfl,rfl,hO,hB,hE⟩:=hrel;obtain rfl|rfl|rfl|rfl:k=0\/k=1\/k=2\/k=3:=Zo
   ·have HT:=Lib.hid (show T3 h (0+1)=T3 h 0++aH 4 h.rd.toUInt64 by simp [T3,aW]);simp only [Nat.reduceAdd,Nat.reduceMul,aap] at hO ⊢
    go_wp2_with (first
     | (refine aY 209 62 3 Tryz.underlying209 (.inl ⟨_,Tryz.underlying62⟩) Zk rfl _ _ rfl _ 0 _ rfl rfl Zo rfl ?_)
     | fail)
    (with_reducible refine (hp4 _ _).mono ?_);rintro e w1 ⟨a1,c1,rfl,hO1,hx1⟩
    go_wp2_with (at_builtin;refine aE U rfl _ _ rfl w.heap.size sa _ sc _ rfl a1 4 c1 _ rfl (hO.ext hx1) hO1.sl Zo (hE.trans hx1).size ?_;intro sa2 sc2 w2 hO2 hg2 hB2)
    go_roundw
    case rel=>exact ⟨0+1,sa2,sc2,Zo,Zg,rfl,by rw [HT.out];exact hO2,(hB.extB hx1).grown hg2 (ej (hO.ext hx1).2 (hB.extB hx1) Zd),Below.trans (hE.trans hx1) hB2⟩
    case measure=>simp [intOf]
   ·have HT:=Lib.hid (show T3 h (1+1)=T3 h 1++aH 4 h.rp.toUInt64 by simp [T3,aW]);simp only [Nat.reduceAdd,Nat.reduceMul,aap] at hO ⊢
    go_wp2_with (first
     | (refine aY 209 62 3 Tryz.underlying209 (.inl ⟨_,Tryz.underlying62⟩) Zk rfl _ _ rfl _ 1 _ rfl rfl Zo rfl ?_)
     | fail)
    (with_reducible refine (hp4 _ _).mono ?_);rintro e w1 ⟨a1,c1,rfl,hO1,hx1⟩
    go_wp2_with (at_builtin;refine aE U rfl _ _ rfl w.heap.size sa _ sc _ rfl a1 4 c1 _ rfl (hO.ext hx1) hO1.sl Zo (hE.trans hx1).size ?_;intro sa2 sc2 w2 hO2 hg2 hB2)
    go_roundw
    case rel=>exact ⟨1+1,sa2,sc2,Zo,Zg,rfl,by rw [HT.out];exact hO2,(hB.extB hx1).grown hg2 (ej (hO.ext hx1).2 (hB.extB hx1) Zd),Below.trans (hE.trans hx1) hB2⟩
    case measure=>simp [intOf]
   ·have HT:=Lib.hid (show T3 h (2+1)=T3 h 2++aH 4 h.id.toUInt64 by simp [T3,aW]);simp only [Nat.reduceAdd,Nat.reduceMul,aap] at hO ⊢
    go_wp2_with (first
     | (refine aY 209 62 3 Tryz.underlying209 (.inl ⟨_,Tryz.underlying62⟩) Zk rfl _ _ rfl _ 2 _ rfl rfl Zo rfl ?_)
     | fail)
    (with_reducible refine (hp4 _ _).mono ?_);rintro e w1 ⟨a1,c1,rfl,hO1,hx1⟩
    go_wp2_with (at_builtin;refine aE U rfl _ _ rfl w.heap.size sa _ sc _ rfl a1 4 c1 _ rfl (hO.ext hx1) hO1.sl Zo (hE.trans hx1).size ?_;intro sa2 sc2 w2 hO2 hg2 hB2)
    go_roundw
    case rel=>exact ⟨2+1,sa2,sc2,Zo,Zg,rfl,by rw [HT.out];exact hO2,(hB.extB hx1).grown hg2 (ej (hO.ext hx1).2 (hB.extB hx1) Zd),Below.trans (hE.trans hx1) hB2⟩
    case measure=>simp [intOf]
   ·simp only [Nat.reduceAdd,Nat.reduceMul,aap] at hO ⊢;have hO:Own wr w.heap.size sa 16 sc (T4 h 0):=by have:=hO;unfold T4;simpa [T3,aW] using this
    haveI:=hB.blt;have f9:=hB.cell? 9 rfl;have f10:=hB.cell? 10 rfl;have f11:=hB.cell? 11 rfl;have f12:=hB.cell? 12 rfl;go_wp2_with fail;clear f9 f10 f11 f12
    go_loopw [5,9,61] (λ v5 _ v61 wr=>∃ (k:Nat) (sa:Option Addr)(sc:Nat),k<=4/\v61 = Zz Zx k/\v5 = Zy sa (16+8*k) sc/\Own wr w.heap.size sa (16+8*k) sc (T4 h k)/\Ext w wr) (λ _ _ v61 _=>4-(intOf v61).toNat)
    case atStart=>exact ⟨0,_,_,Zo,rfl,rfl,hO,hE⟩
    case round =>
     clear hO hB hE;obtain ⟨k,sa,sc,hk,rfl,rfl,hO,hE⟩:=hrel;obtain rfl|rfl|rfl|rfl|rfl:k=0\/k=1\/k=2\/k=3\/k=4:=Zo
     ·have HT:=Lib.hid (show T4 h (0+1)=T4 h 0++aH 8 h.ref by simp [T4,aW]);simp only [Nat.reduceAdd,Nat.reduceMul,aap] at hO ⊢
      go_wp2_with (first
       | (refine aY 210 23 4 Tryz.underlying210 (.inl ⟨_,Tryz.underlying23⟩) Zk rfl _ _ rfl _ 0 _ rfl rfl Zo rfl ?_)
       | fail)
      (with_reducible refine (hp8 _ _).mono ?_);rintro e w1 ⟨a1,c1,rfl,hO1,hx1⟩
      go_wp2_with (at_builtin;refine aE U rfl _ _ rfl w.heap.size sa _ sc _ rfl a1 8 c1 _ rfl (hO.ext hx1) hO1.sl Zo (hE.trans hx1).size ?_;intro sa2 sc2 w2 hO2 hg2 hB2)
      go_roundw
      case rel=>exact ⟨0+1,sa2,sc2,Zo,Zg,rfl,by rw [HT.out];exact hO2,Below.trans (hE.trans hx1) hB2⟩
      case measure=>simp [intOf]
     ·have HT:=Lib.hid (show T4 h (1+1)=T4 h 1++aH 8 h.org by simp [T4,aW]);simp only [Nat.reduceAdd,Nat.reduceMul,aap] at hO ⊢
      go_wp2_with (first
       | (refine aY 210 23 4 Tryz.underlying210 (.inl ⟨_,Tryz.underlying23⟩) Zk rfl _ _ rfl _ 1 _ rfl rfl Zo rfl ?_)
       | fail)
      (with_reducible refine (hp8 _ _).mono ?_);rintro e w1 ⟨a1,c1,rfl,hO1,hx1⟩
      go_wp2_with (at_builtin;refine aE U rfl _ _ rfl w.heap.size sa _ sc _ rfl a1 8 c1 _ rfl (hO.ext hx1) hO1.sl Zo (hE.trans hx1).size ?_;intro sa2 sc2 w2 hO2 hg2 hB2)
      go_roundw
      case rel=>exact ⟨1+1,sa2,sc2,Zo,Zg,rfl,by rw [HT.out];exact hO2,Below.trans (hE.trans hx1) hB2⟩
      case measure=>simp [intOf]
     ·have HT:=Lib.hid (show T4 h (2+1)=T4 h 2++aH 8 h.rcv by simp [T4,aW]);simp only [Nat.reduceAdd,Nat.reduceMul,aap] at hO ⊢
      go_wp2_with (first
       | (refine aY 210 23 4 Tryz.underlying210 (.inl ⟨_,Tryz.underlying23⟩) Zk rfl _ _ rfl _ 2 _ rfl rfl Zo rfl ?_)
       | fail)
      (with_reducible refine (hp8 _ _).mono ?_);rintro e w1 ⟨a1,c1,rfl,hO1,hx1⟩
      go_wp2_with (at_builtin;refine aE U rfl _ _ rfl w.heap.size sa _ sc _ rfl a1 8 c1 _ rfl (hO.ext hx1) hO1.sl Zo (hE.trans hx1).size ?_;intro sa2 sc2 w2 hO2 hg2 hB2)
      go_roundw
      case rel=>exact ⟨2+1,sa2,sc2,Zo,Zg,rfl,by rw [HT.out];exact hO2,Below.trans (hE.trans hx1) hB2⟩
      case measure=>simp [intOf]
     ·have HT:=Lib.hid (show T4 h (3+1)=T4 h 3++aH 8 h.tx by simp [T4,aW]);simp only [Nat.reduceAdd,Nat.reduceMul,aap] at hO ⊢
      go_wp2_with (first
       | (refine aY 210 23 4 Tryz.underlying210 (.inl ⟨_,Tryz.underlying23⟩) Zk rfl _ _ rfl _ 3 _ rfl rfl Zo rfl ?_)
       | fail)
      (with_reducible refine (hp8 _ _).mono ?_);rintro e w1 ⟨a1,c1,rfl,hO1,hx1⟩
      go_wp2_with (at_builtin;refine aE U rfl _ _ rfl w.heap.size sa _ sc _ rfl a1 8 c1 _ rfl (hO.ext hx1) hO1.sl Zo (hE.trans hx1).size ?_;intro sa2 sc2 w2 hO2 hg2 hB2)
      go_roundw
      case rel=>exact ⟨3+1,sa2,sc2,Zo,Zg,rfl,by rw [HT.out];exact hO2,Below.trans (hE.trans hx1) hB2⟩
      case measure=>simp [intOf]
     ·simp only [Nat.reduceAdd,Nat.reduceMul,aap] at hO ⊢;have hT:T4 h 4=cJ h:=by simp [T4,cJ,pB,aW]
      rw [hT] at hO;go_wp2_with fail;go_ret2;exact ⟨_,_,rfl,hO.sl,hO.le.1,hE⟩
 ·have er:cC h=([],4):=aaf hk;rw [er] at hv ⊢
  go_enter Tryz.func142,Tryz.ntmps142
  go_wp2_with (first
   | (go_at_call 161;refine (hv _).mono ?_;rintro e w1 ⟨rfl,hxq⟩;obtain ⟨xq,rfl⟩:=hxq.out;clear hxq)
   | fail)
  go_ret2;exact aF _ _ _ eX
end Go.Proofs.YtmdahnkcnagkjaaGreat
