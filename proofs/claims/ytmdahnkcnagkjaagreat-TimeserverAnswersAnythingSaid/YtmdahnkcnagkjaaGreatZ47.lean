/- Lemmas of this claim, several texts joined. -/
import Derived.WalkMore
import Derived.Test.YtmdahnkcnagkjaaGreatZ46
set_option maxRecDepth 100000
open Go.Value renaming int -> Zz,slice -> Zy
open Go.IntKind renaming i64 -> Zx,u64 -> Zw,u32 -> Zv,u8 -> Zu
open List renaming setIfInBounds_toArray -> q0q, set_cons_succ -> q1q, set_cons_zero -> q2q, take_succ_cons -> q8q, take_zero -> q9q, drop_succ_cons -> q10q, drop_zero -> q11q, take_nil -> q12q, drop_nil -> q13q, getElem_toArray -> q14q, getElem_cons_succ -> q15q, getElem_cons_zero -> q16q
set_option maxHeartbeats 8000000
set_option linter.unusedVariables false
set_option linter.unusedSimpArgs false
/- The walks of layer 22: Answer. -/
namespace Go.Pkt
open Go.Oct Go.Aes
theorem zw {l:E7} (h:(bj l).2=0) {f:Fld} (hf:f∈(bj l).1):f.2.length<=1280:=by
 have h1:=(nU h).1;have h2:=td hf;have h3:l.length<=1232:=by
  rcases abe 1232 l.length with hh|hh
  ·have:bj l=([],2):=aaj hh;rw [this] at h;cases h
  ·exact hh
 unfold szN at h2;omega
theorem tX (ky b:E7):(∀ f∈(cV ky b).1.plain,f.2.length<=1280)/\∀ f∈(cV ky b).1.secret,f.2.length<=1280:=by
 have hz:(∀ f∈aP.plain,f.2.length<=1280)/\∀ f∈aP.secret,f.2.length<=1280:=by simp [aP]
 unfold cV;split
 ·exact hz
 ·split
  ·exact hz
  ·rename_i hr;have hr:(aE b).2=0:=by simpa using hr
   split
   ·exact hz
   ·split
    ·exact hz
    ·split
     ·exact hz
     ·split
      ·exact hz
      ·split
       ·exact hz
       ·rename_i h;exact ⟨λ f hf=>(gy hr (aaN hf)).2,λ f hf=>zw (by simpa using h) hf⟩
end Go.Pkt
namespace Go.Sec
open Go.RowKit
def pz:List Value->Bool
 | Zz Zx _ :: Zy _ _ _ :: _=>false
 | _ :: vs=>pz vs
 | []=>true
theorem qt:∀ {vs:List Value},pz vs=true->∀ {i x p m c},vs[i]?=some (Zz Zx x)->vs[i+1]?=some (Zy p m c)->False
 | [],_,i,_,_,_,_,h1,_=>by simp at h1
 | v :: vs,h,i+1,x,p,m,c,h1,h2=>by
  refine qt (vs:=vs) ?_ (i:=i) (by simpa using h1) (by simpa using h2);unfold pz at h;split at h
  ·cases h
  ·simp_all
  ·simp_all
 | v :: vs,h,0,x,p,m,c,h1,h2=>by
  simp only [List.getElem?_cons_zero,Option.some.injEq] at h1;subst h1;cases vs with
  | nil=>simp at h2
  | cons v2 vs =>
   simp only [aaA,List.getElem?_cons_succ,List.getElem?_cons_zero,Option.some.injEq] at h2;subst h2;simp [pz] at h
theorem Ib.mutq {w w':World} {a:E8} {n g:Nat} {T:TypeId} {vs:List Value} {L:List (Int × E7)} (h:Ib w a n L) (hB:Blk w g T vs) (hne:∀ v∈vs,∀ x,v ≠ Zz Zu x) (hp:pz vs=true) (hM:Mut g w w'):Ib w' a n L:=by
 refine ⟨h.len,h.row.imp id ?_⟩;by_cases h0:n=0
 ·subst h0;have:=aaq h.len;subst this;rintro ⟨b,off,ha,hb,_⟩;exact ⟨b,off,ha,aai hb hM.size,λ k hk=>by cases hk⟩
 rintro ⟨b,off,ha,hb,hc⟩;have hbg:b≠g:=by
  rintro rfl;obtain ⟨_,_,h1,h2,_⟩:=hc 0 (by rw [h.len];omega);rw [cell_of_row w _ _ _ T (0,0) hB] at h1 h2;exact qt hp (by simpa using h1) (by simpa using h2)
 exact z29q24
end Go.Sec
namespace Go.Proofs.P9
open Go.RowKit Go.Sec Go.Oct Go.Jar Go.Pkt BigFrame
end Go.Proofs.P9

/- The walk of the document's Answer. -/
namespace Go.Proofs.P9
open Go.RowKit Go.Sec Go.Oct Go.Jar Go.Pkt BigFrame
def uE (v:Value)(w:World)(a:E8):Prop:=∃ g,a=some ⟨g,0,none⟩/\Rd w a [v]
theorem uE.ext {v:Value} {w w':World} {a:E8} (h:uE v w a) (hx:Ext w w'):uE v w' a:=by
 obtain ⟨g,h1,h2⟩:=h;exact ⟨g,h1,h2.ext hx⟩
theorem uE.mk (v:Value)(w:World)(T:TypeId):uE v (w.alloc (.cells #[v] T)) (some ⟨w.heap.size,0,none⟩):=⟨_,rfl,(Blk.new w #[v] T).rd⟩
theorem _root_.z47q7{p:Prop}(h:p:=by
 have hV:Blk V (w.heap.size+1) 57 [Zy none 0 0, Zy none 0 0, Zy none 0 0, Zy none 0 0, Zz Zx 0, Zz Zx 0]:=hV;have hV3:=Blk.turn hMV2 hV Zo;refine aaa (bF Tryz.results25 RJ6 aK _ _ (w.heap.size+1) 0 [Zy none 0 0, Zy none 0 0, Zy none 0 0, Zy none 0 0, Zz Zx 0, Zz Zx 0] rfl hV3.rd rfl (w.heap.size+2) 0 [Zz Zx 0, Zz Zx 0, Zz Zx 0, Zz Zx 0, Zz Zx 0, Zz Zx 0, Zz Zv 0, Zz Zv 0, Zz Zv 0, Zz Zw 0, Zz Zw 0, Zz Zw 0, Zz Zw 0, Zy none 0 0, Zy none 0 0, .bool false] rfl hV2.rd rfl (Zz Zx 3) rfl) rfl ?_;rw [er.out];have hEV:Ext w V:=E9 hEz (hMV.below Zo hEz.size);exact oH.zero _ _ _ (E9 hEV (hMV2.below Zo hEV.size))):p:=h
theorem rX (a1 a2 a3 a4 au ab:E8)(n1 c1 n2 c2 n3 c3 n4 c4 nu cu nb cb:Nat) (j:Jar) (u b:E7)(w:World)(h1:Sl w a1 n1 j.up) (m1:n1<=1000000) (h2:Sl w a2 n2 j.dn) (hc2:n2<=c2) (m2:n2<=1000000) (h3:Bsc w a3 n3 j.ck) (hc3:n3<=c3) (hn3:n3<=100000) (hb3:∀ x∈j.ck,x.length<=1000000) (h4:Sl w a4 n4 j.last) (m4:n4<=1000000)
  (hu:Sl w au nu u) (hb:Sl w ab nb b) (hcb:nb<=cb) (hnb:nb<=1000000) :
  Calls Tryz.prog 25 #[.agg #[Zy a1 n1 c1, Zy a2 n2 c2, Zy a3 n3 c3, Zy a4 n4 c4, Zz Zx j.net, Zz Zx j.sent], Zy au nu cu, Zy ab nb cb] w (oH (sj j u b) w):=by
 have hlu:=hu.len;have hv:=λ W H1 H2 H3 H4=>ic a1 a2 a3 a4 n1 c1 n2 c2 n3 c3 n4 c4 j W H1 H2 H3 hc3 Zo H4;have hop:=λ W H1 H2=>pN a2 ab n2 c2 nb cb j.dn b W H1 hc2 H2 hcb hnb;have hsm:=sJ j.dn b;have hfl:=tX j.dn b;obtain ⟨r,hr⟩:∃ r,sj j u b=r:=⟨_,rfl⟩;rw [hr];replace hr:=FC hr
 go_enter Tryz.func25,Tryz.ntmps25
 go_wp2_with fail;refine vx ?_;intro W hW;have hE:Ext w W:=by rw [hW];exact eX
 have hB:Blk W w.heap.size 57 [Zy a1 n1 c1, Zy a2 n2 c2, Zy a3 n3 c3, Zy a4 n4 c4, Zz Zx j.net, Zz Zx j.sent]:=by rw [hW];exact bK
 have hR:Blk W (w.heap.size+1) 57 [Zy none 0 0, Zy none 0 0, Zy none 0 0, Zy none 0 0, Zz Zx 0, Zz Zx 0]:=by rw [hW];exact bK
 have hQ:Blk W (w.heap.size+2) 67 [Zz Zx 0, Zz Zx 0, Zz Zx 0, Zz Zx 0, Zz Zx 0, Zz Zx 0, Zz Zv 0, Zz Zv 0, Zz Zv 0, Zz Zw 0, Zz Zw 0, Zz Zw 0, Zz Zw 0, Zy none 0 0, Zy none 0 0, .bool false]:=by rw [hW];exact bK
 clear hW;(with_reducible refine (hv _ (h1.ext hE) (h2.ext hE) (h3.ext hE) (h4.ext hE)).mono ?_);rintro e w0 ⟨rfl,hx0⟩;have hE:=hE.trans hx0;have hB:=hB.extB hx0;have hR:=hR.extB hx0;have hQ:=hQ.extB hx0;clear hx0 hv;haveI:=hB.blt;cases q:bQ j
 ·have er:=FC (show r=((bT,aP),3) by rw [<- hr.out];unfold sj;rw [aae (λ h=>by rw [q] at h;exact absurd h.1 Zd)]);clear hr q hop hsm hfl hlu;have hRz:=hR.extB (FD w0);have hQz:=hQ.extB (FD w0);have hEz:=hE.trans (FD w0);haveI:=hRz.blt;haveI:=hQz.blt
  go_wp2_with (first
   | ((refine aa RJ6 rfl _ _ rfl (w.heap.size+1) 0 rfl _ rfl 57 _ hRz rfl Zs oC ?_;intro V hV hMV);have hQV:=Blk.turn hMV hQz Zo;haveI:=hQV.blt)
   | (refine aa aK rfl _ _ rfl (w.heap.size+2) 0 rfl _ rfl 67 _ hQV rfl Zs oC ?_;intro V2 hV2 hMV2)
   | fail)
  have hV:Blk V (w.heap.size+1) 57 [Zy none 0 0, Zy none 0 0, Zy none 0 0, Zy none 0 0, Zz Zx 0, Zz Zx 0]:=hV;have hV3:=Blk.turn hMV2 hV Zo;refine aaa (bF Tryz.results25 RJ6 aK _ _ (w.heap.size+1) 0 [Zy none 0 0, Zy none 0 0, Zy none 0 0, Zy none 0 0, Zz Zx 0, Zz Zx 0] rfl hV3.rd rfl (w.heap.size+2) 0 [Zz Zx 0, Zz Zx 0, Zz Zx 0, Zz Zx 0, Zz Zx 0, Zz Zx 0, Zz Zv 0, Zz Zv 0, Zz Zv 0, Zz Zw 0, Zz Zw 0, Zz Zw 0, Zz Zw 0, Zy none 0 0, Zy none 0 0, .bool false] rfl hV2.rd rfl (Zz Zx 3) rfl) rfl ?_;rw [er.out];have hEV:Ext w V:=E9 hEz (hMV.below Zo hEz.size);exact oH.zero _ _ _ (E9 hEV (hMV2.below Zo hEV.size))
 by_cases q1:nu=32
 case neg =>
  have q1i:((nu:Int) != 32)=true:=by rw [aao];omega
  have er:=FC (show r=((bT,aP),3) by rw [<- hr.out];unfold sj;rw [aae (λ h=>Zo)]);clear hr q hop hsm hfl hlu q1;have hRz:=hR.extB (FD w0);have hQz:=hQ.extB (FD w0);have hEz:=hE.trans (FD w0);haveI:=hRz.blt;haveI:=hQz.blt
  go_wp2_with (first
   | ((refine aa RJ6 rfl _ _ rfl (w.heap.size+1) 0 rfl _ rfl 57 _ hRz rfl Zs oC ?_;intro V hV hMV);have hQV:=Blk.turn hMV hQz Zo;haveI:=hQV.blt)
   | (refine aa aK rfl _ _ rfl (w.heap.size+2) 0 rfl _ rfl 67 _ hQV rfl Zs oC ?_;intro V2 hV2 hMV2)
   | fail)
  exact z47q7
 have q1i:((nu:Int) != 32)=false:=by rw [aaf];omega
 have hat:=FC (show r=qF j u (cV j.dn b) by rw [<- hr.out];unfold sj;rw [aaj ⟨q,Zo⟩]);clear hr hlu q1;generalize cV j.dn b=P at *;have f1:w0.cell? ⟨w.heap.size,1,none⟩=some (Zy a2 n2 c2):=hB.cell? 1 rfl;have f1':w0.cell? ⟨w.heap.size,0+1,none⟩=some (Zy a2 n2 c2):=hB.cell? 1 rfl;go_wp2_with fail;clear f1 f1';(with_reducible refine (hop _ (h2.ext hE) (hb.ext hE)).mono ?_);rintro e w1 ⟨p1,e1,k1,p2,e2,k2,rfl,hI1,g1,hI2,g2,hx1⟩;have hE:=hE.trans hx1;have hB:=hB.extB hx1;have hR:=hR.extB hx1;have hQ:=hQ.extB hx1;have le1:=FC hI1.len;have le2:=FC hI2.len;have hltQ:=hQ.lt;clear hx1 hop;haveI:=hR.blt;haveI:=hQ.blt;by_cases qe:P.2=0
 case neg =>
  have er:=FC (show r=((bT,aP),P.2) by rw [hat.out];unfold qF;rw [aaj qe]);have qei:(P.2 != 0)=true:=by rw [aao];exact qe
  clear hat qe;generalize P.2=PV at *
  go_wp2_with (first
   | ((refine ag aK rfl rfl _ _ rfl rfl rfl rfl (by simp [Act.put]) _ rfl Zs rfl oC ?_;intro x hz _);have hRz:=hR.extB (show Ext w1 (w1.ext x) from FE _ _);have hQz:=hQ.extB (show Ext w1 (w1.ext x) from FE _ _);haveI:=hRz.blt;haveI:=hQz.blt;haveI:=hz.blt;have f2:=hz.cell? 2 rfl)
   | ((refine aa RJ6 rfl _ _ rfl (w.heap.size+1) 0 rfl _ rfl 57 _ hRz rfl Zs oC ?_;intro V hV hMV);have hQV:=Blk.turn hMV hQz Zo;haveI:=hQV.blt)
   | (refine aa aK rfl _ _ rfl (w.heap.size+2) 0 rfl _ rfl 67 _ hQV rfl Zs oC ?_;intro V2 hV2 hMV2)
   | fail)
  have hEz:=hE.trans (show Ext w1 (w1.ext x) from FE _ _);have hV:Blk V (w.heap.size+1) 57 [Zy none 0 0, Zy none 0 0, Zy none 0 0, Zy none 0 0, Zz Zx 0, Zz Zx 0]:=hV;have hV3:=Blk.turn hMV2 hV Zo;refine aaa (bF Tryz.results25 RJ6 aK _ _ (w.heap.size+1) 0 [Zy none 0 0, Zy none 0 0, Zy none 0 0, Zy none 0 0, Zz Zx 0, Zz Zx 0] rfl hV3.rd rfl (w.heap.size+2) 0 [Zz Zx 0, Zz Zx 0, Zz Zx 0, Zz Zx 0, Zz Zx 0, Zz Zx 0, Zz Zv 0, Zz Zv 0, Zz Zv 0, Zz Zw 0, Zz Zw 0, Zz Zw 0, Zz Zw 0, Zy none 0 0, Zy none 0 0, .bool false] rfl hV2.rd rfl (Zz Zx PV) rfl) rfl ?_;rw [er.out];have hEV:Ext w V:=E9 hEz (hMV.below Zo hEz.size);exact oH.zero _ _ _ (E9 hEV (hMV2.below Zo hEV.size))
 have qei:(P.2 != 0)=false:=by rw [aaf];exact qe
 by_cases qm:P.1.h.mode=4
 case neg =>
  have er:=FC (show r=((bT,aP),3) by rw [hat.out];unfold qF;rw [aae (λ h=>h qe),aaj qm]);have qmi:(P.1.h.mode != 4)=true:=by rw [aao];exact qm
  clear hat qe qm
  go_wp2_with (first
   | ((refine ag aK rfl rfl _ _ rfl rfl rfl rfl (by simp [Act.put]) _ rfl Zs rfl oC ?_;intro x hz _);have hRz:=hR.extB (show Ext w1 (w1.ext x) from FE _ _);have hQz:=hQ.extB (show Ext w1 (w1.ext x) from FE _ _);haveI:=hRz.blt;haveI:=hQz.blt;haveI:=hz.blt;have f2:=hz.cell? 2 rfl)
   | ((refine aa RJ6 rfl _ _ rfl (w.heap.size+1) 0 rfl _ rfl 57 _ hRz rfl Zs oC ?_;intro V hV hMV);have hQV:=Blk.turn hMV hQz Zo;haveI:=hQV.blt)
   | (refine aa aK rfl _ _ rfl (w.heap.size+2) 0 rfl _ rfl 67 _ hQV rfl Zs oC ?_;intro V2 hV2 hMV2)
   | fail)
  have hEz:=hE.trans (show Ext w1 (w1.ext x) from FE _ _);exact z47q7
 have qmi:(P.1.h.mode != 4)=false:=by rw [aaf];exact qm
 have hat2:=FC (show r=if ¬ zu P.1.plain u then ((bT,aP),7) else if oR (jb P.1.secret)=true then ((dR j (jb P.1.secret),P.1),0) else ((bT,aP),3) by
  rw [hat.out];unfold qF;rw [aae (λ h=>h qe),aae (λ h=>h qm)])
 clear hat qe qm
 go_wp2_with (first
  | ((refine ag aK rfl rfl _ _ rfl rfl rfl rfl (by simp [Act.put]) _ rfl Zs rfl oC ?_;intro x hz _);haveI:=hz.blt;have f2:=hz.cell? 2 rfl;have f13:=hz.cell? 13 rfl)
  | fail)
 have hxx:Ext w1 (w1.ext x):=FE _ _;obtain ⟨gP,hgP⟩:∃ g,g=w1.heap.size:=⟨_,rfl⟩;rw [<- hgP] at hz hltQ ⊢;have hE:=hE.trans hxx;have hB:=hB.extB hxx;have hR:=hR.extB hxx;have hQ:=hQ.extB hxx;have hI1:=hI1.ext hxx;have hI2:=hI2.ext hxx;clear f2 f13 hxx hgP;generalize w1.ext x=w2 at *;(with_reducible refine (jj 260 p1 e1 k1 P.1.plain _ hI1 (by have:=le1.out;omega)).mono ?_);rintro e w3 ⟨bx,dx,rfl,hOx,hx3⟩;have hE:=hE.trans hx3;have hB:=hB.extB hx3;have hR:=hR.extB hx3;have hQ:=hQ.extB hx3;have hz:=hz.extB hx3;have hI1:=hI1.ext hx3;have hI2:=hI2.ext hx3;have hu:=hu.ext hE;clear hx3;haveI:=hz.blt;haveI:=hB.blt;have f13:w3.cell? ⟨gP,13,none⟩=some (Zy p1 e1 k1):=hz.cell? 13 rfl;cases hix:ixs 260 P.1.plain P.1.plain.length with
 | nil =>
  have er:=FC (show r=((bT,aP),7) by rw [hat2.out,aaj (λ h=>by obtain ⟨i,h1,_⟩:=h;rw [hix] at h1;cases h1)]);clear hix hat2 hOx;go_wp2_with fail;refine R2.ae 16 [[],[0],[0,1],[0,1,2],[0,1,2,3],[0,1,2,3,4],[0,1,2,3],[0,1,2,3,6],[0,1,2,3,6,7],[0,1,2,3,4,5,6,7,8],[0,1,2,3,4,5,6,7,8,9],[0,1,2,3,4,5,6,7,8,9,10],[0,1,2,3],[0,1,2,3,4,5,6,7,8,9,10,11,12],[0,1,2,3,4,5,6,7,8,9,10,11,12,13],[0,1,2,3,4,5,6,7,8,9,10,11,12,13,14]] [] (λ h=>(h rfl).elim) Zk Zk Zk Zk Zk ?_;simp only [q8q,q9q,q10q,q11q,q12q,q13q];(repeat (refine R2.av ?_;(try simp only [Act.put,q0q,q1q,q2q])));(repeat (refine R2.fF (λ us=>rfl) ?_;(try simp only [Act.put,q0q,q1q,q2q])));(repeat (refine R2.av ?_;(try simp only [Act.put,q0q,q1q,q2q])));(refine R2.aU ?_;intro us x hx hf);clear f13;have hRz:=hR.extB (FE w3 x);have hQz:=hQ.extB (FE w3 x);have hEz:=hE.trans (FE w3 x);haveI:=hRz.blt;haveI:=hQz.blt
  go_wp2_with (first
   | ((refine aa RJ6 rfl _ _ rfl (w.heap.size+1) 0 rfl _ rfl 57 _ hRz rfl Zs oC ?_;intro V hV hMV);have hQV:=Blk.turn hMV hQz Zo;haveI:=hQV.blt)
   | (refine aa aK rfl _ _ rfl (w.heap.size+2) 0 rfl _ rfl 67 _ hQV rfl Zs oC ?_;intro V2 hV2 hMV2)
   | fail)
  have hV:Blk V (w.heap.size+1) 57 [Zy none 0 0, Zy none 0 0, Zy none 0 0, Zy none 0 0, Zz Zx 0, Zz Zx 0]:=hV;have hV3:=Blk.turn hMV2 hV Zo;refine aaa (bF Tryz.results25 RJ6 aK _ _ (w.heap.size+1) 0 [Zy none 0 0, Zy none 0 0, Zy none 0 0, Zy none 0 0, Zz Zx 0, Zz Zx 0] rfl hV3.rd rfl (w.heap.size+2) 0 [Zz Zx 0, Zz Zx 0, Zz Zx 0, Zz Zx 0, Zz Zx 0, Zz Zx 0, Zz Zv 0, Zz Zv 0, Zz Zv 0, Zz Zw 0, Zz Zw 0, Zz Zw 0, Zz Zw 0, Zy none 0 0, Zy none 0 0, .bool false] rfl hV2.rd rfl (Zz Zx 7) rfl) rfl ?_;rw [er.out];have hEV:Ext w V:=E9 hEz (hMV.below Zo hEz.size);exact oH.zero _ _ _ (E9 hEV (hMV2.below Zo hEV.size))
 | cons i rest =>
  cases rest with
  | cons i2 rest2 =>
   have er:=FC (show r=((bT,aP),7) by rw [hat2.out,aaj (λ h=>by obtain ⟨i,h1,_⟩:=h;rw [hix] at h1;injection h1 with _ h1;cases h1)]);obtain ⟨M,hM⟩:∃ M,(i :: i2 :: rest2).length=M:=⟨_,rfl⟩
   have hM1:((M:Int) != 1)=true:=by rw [aao];have:2<=M:=by rw [<- hM];simp
                                    omega
   rw [hM];clear hix hat2 hOx hM;go_wp2_with fail;refine R2.ae 16 [[],[0],[0,1],[0,1,2],[0,1,2,3],[0,1,2,3,4],[0,1,2,3],[0,1,2,3,6],[0,1,2,3,6,7],[0,1,2,3,4,5,6,7,8],[0,1,2,3,4,5,6,7,8,9],[0,1,2,3,4,5,6,7,8,9,10],[0,1,2,3],[0,1,2,3,4,5,6,7,8,9,10,11,12],[0,1,2,3,4,5,6,7,8,9,10,11,12,13],[0,1,2,3,4,5,6,7,8,9,10,11,12,13,14]] [] (λ h=>(h rfl).elim) Zk Zk Zk Zk Zk ?_;simp only [q8q,q9q,q10q,q11q,q12q,q13q];(repeat (refine R2.av ?_;(try simp only [Act.put,q0q,q1q,q2q])));(repeat (refine R2.fF (λ us=>rfl) ?_;(try simp only [Act.put,q0q,q1q,q2q])));(repeat (refine R2.av ?_;(try simp only [Act.put,q0q,q1q,q2q])));(refine R2.aU ?_;intro us x hx hf);clear f13;have hRz:=hR.extB (FE w3 x);have hQz:=hQ.extB (FE w3 x);have hEz:=hE.trans (FE w3 x);haveI:=hRz.blt;haveI:=hQz.blt
   go_wp2_with (first
    | ((refine aa RJ6 rfl _ _ rfl (w.heap.size+1) 0 rfl _ rfl 57 _ hRz rfl Zs oC ?_;intro V hV hMV);have hQV:=Blk.turn hMV hQz Zo;haveI:=hQV.blt)
    | (refine aa aK rfl _ _ rfl (w.heap.size+2) 0 rfl _ rfl 67 _ hQV rfl Zs oC ?_;intro V2 hV2 hMV2)
    | fail)
   have hV:Blk V (w.heap.size+1) 57 [Zy none 0 0, Zy none 0 0, Zy none 0 0, Zy none 0 0, Zz Zx 0, Zz Zx 0]:=hV;have hV3:=Blk.turn hMV2 hV Zo;refine aaa (bF Tryz.results25 RJ6 aK _ _ (w.heap.size+1) 0 [Zy none 0 0, Zy none 0 0, Zy none 0 0, Zy none 0 0, Zz Zx 0, Zz Zx 0] rfl hV3.rd rfl (w.heap.size+2) 0 [Zz Zx 0, Zz Zx 0, Zz Zx 0, Zz Zx 0, Zz Zx 0, Zz Zx 0, Zz Zv 0, Zz Zv 0, Zz Zv 0, Zz Zw 0, Zz Zw 0, Zz Zw 0, Zz Zw 0, Zy none 0 0, Zy none 0 0, .bool false] rfl hV2.rd rfl (Zz Zx 7) rfl) rfl ?_;rw [er.out];have hEV:Ext w V:=E9 hEz (hMV.below Zo hEz.size);exact oH.zero _ _ _ (E9 hEV (hMV2.below Zo hEV.size))
  | nil =>
   have hi:i<P.1.plain.length:=yD (k:=260) (L:=P.1.plain) (by rw [hix];exact aab _);obtain ⟨y,hy⟩:∃ y,P.1.plain[i]?=some y:=⟨_,List.getElem?_eq_getElem hi⟩;have hyd:P.1.plain.getD i (0,[])=y:=by rw [FF,hy];rfl
   rw [hix] at hOx;have hOx1:fA w3 _ bx 1 dx [(i:Int)]:=hOx;obtain ⟨xb,xo,rfl,hxb,hxc⟩:=hOx1.rd.at 0 Zs;have hxc:w3.cell? ⟨xb,xo,none⟩=some (Zz Zx (i:Int)):=hxc;haveI:=hxb;obtain ⟨gA,oA,g',c',rfl,hb0,hc0,hc1,hSk,hcy⟩:=hI1.at i (by have:=le1.out;omega) _ hy;haveI:=hb0;have hi0:(0:Int)<=(i:Int):=Zo;have hi1:(i:Int)<(e1:Int):=by have:=le1.out;omega
   have hsa:=λ W H1 H2=>gQ g' au y.2.length c' nu cu y.2 u W H1 H2;have hidy:zu P.1.plain u ↔ y.2=u:=⟨λ ⟨k,h1,h2⟩=>by rw [hix] at h1;injection h1 with h1;subst h1;rw [<- h2,hyd],λ h=>⟨i,hix,by rw [hyd];exact h⟩⟩;replace hidy:=FC hidy;clear hix hOx hOx1 hyd;cases hq:(y.2 == u)
   ·have er:=FC (show r=((bT,aP),7) by rw [hat2.out,aaj (λ h=>by rw [hidy.out.1 h] at hq;simp at hq)]);rw [hq] at hsa;clear hq hat2 hidy;go_wp2_with fail;refine R2.ae 16 [[],[0],[0,1],[0,1,2],[0,1,2,3],[0,1,2,3,4],[0,1,2,3],[0,1,2,3,6],[0,1,2,3,6,7],[0,1,2,3,4,5,6,7,8],[0,1,2,3,4,5,6,7,8,9],[0,1,2,3,4,5,6,7,8,9,10],[0,1,2,3],[0,1,2,3,4,5,6,7,8,9,10,11,12],[0,1,2,3,4,5,6,7,8,9,10,11,12,13],[0,1,2,3,4,5,6,7,8,9,10,11,12,13,14]] [] (λ h=>(h rfl).elim) Zk Zk Zk Zk Zk ?_;simp only [q8q,q9q,q10q,q11q,q12q,q13q];(repeat (refine R2.av ?_;(try simp only [Act.put,q0q,q1q,q2q])));(refine R2.ai (λ _ => .bool false) (λ _ _=>True) (λ _ _ _ _ _=>trivial) (λ us w' hx hf=>⟨rfl,?_⟩) ?_;(unfold gives;simp [go_sem,execOp];refine (hsa _ (hSk.ext hx) (hu.ext hx)).mono ?_;rintro e w1 ⟨rfl,hx1⟩;first|exact ⟨rfl,hx1⟩|simpa using hx1));(repeat (refine R2.av ?_;(try simp only [Act.put,q0q,q1q,q2q])));(refine R2.aU ?_;intro us x hx hf);clear f13 hxc hc0 hc1;have hRz:=hR.extB (FE w3 x);have hQz:=hQ.extB (FE w3 x);have hEz:=hE.trans (FE w3 x);haveI:=hRz.blt;haveI:=hQz.blt
    go_wp2_with (first
     | ((refine aa RJ6 rfl _ _ rfl (w.heap.size+1) 0 rfl _ rfl 57 _ hRz rfl Zs oC ?_;intro V hV hMV);have hQV:=Blk.turn hMV hQz Zo;haveI:=hQV.blt)
     | (refine aa aK rfl _ _ rfl (w.heap.size+2) 0 rfl _ rfl 67 _ hQV rfl Zs oC ?_;intro V2 hV2 hMV2)
     | fail)
    have hV:Blk V (w.heap.size+1) 57 [Zy none 0 0, Zy none 0 0, Zy none 0 0, Zy none 0 0, Zz Zx 0, Zz Zx 0]:=hV;have hV3:=Blk.turn hMV2 hV Zo;refine aaa (bF Tryz.results25 RJ6 aK _ _ (w.heap.size+1) 0 [Zy none 0 0, Zy none 0 0, Zy none 0 0, Zy none 0 0, Zz Zx 0, Zz Zx 0] rfl hV3.rd rfl (w.heap.size+2) 0 [Zz Zx 0, Zz Zx 0, Zz Zx 0, Zz Zx 0, Zz Zx 0, Zz Zx 0, Zz Zv 0, Zz Zv 0, Zz Zv 0, Zz Zw 0, Zz Zw 0, Zz Zw 0, Zz Zw 0, Zy none 0 0, Zy none 0 0, .bool false] rfl hV2.rd rfl (Zz Zx 7) rfl) rfl ?_;rw [er.out];have hEV:Ext w V:=E9 hEz (hMV.below Zo hEz.size);exact oH.zero _ _ _ (E9 hEV (hMV2.below Zo hEV.size))
   ·have hat3:=FC (show r=if oR (jb P.1.secret)=true then ((dR j (jb P.1.secret),P.1),0) else ((bT,aP),3) by rw [hat2.out,aae (λ h=>h (hidy.out.2 (aa5.1 hq)))]);rw [hq] at hsa;clear hq hat2 hidy;go_wp2_with fail;refine R2.ae 16 [[],[0],[0,1],[0,1,2],[0,1,2,3],[0,1,2,3,4],[0,1,2,3],[0,1,2,3,6],[0,1,2,3,6,7],[0,1,2,3,4,5,6,7,8],[0,1,2,3,4,5,6,7,8,9],[0,1,2,3,4,5,6,7,8,9,10],[0,1,2,3],[0,1,2,3,4,5,6,7,8,9,10,11,12],[0,1,2,3,4,5,6,7,8,9,10,11,12,13],[0,1,2,3,4,5,6,7,8,9,10,11,12,13,14]] [] (λ h=>(h rfl).elim) Zk Zk Zk Zk Zk ?_;simp only [q8q,q9q,q10q,q11q,q12q,q13q];(repeat (refine R2.av ?_;(try simp only [Act.put,q0q,q1q,q2q])));(refine R2.ai (λ _ => .bool true) (λ _ _=>True) (λ _ _ _ _ _=>trivial) (λ us w' hx hf=>⟨rfl,?_⟩) ?_;(unfold gives;simp [go_sem,execOp];refine (hsa _ (hSk.ext hx) (hu.ext hx)).mono ?_;rintro e w1 ⟨rfl,hx1⟩;first|exact ⟨rfl,hx1⟩|simpa using hx1));(repeat (refine R2.av ?_;(try simp only [Act.put,q0q,q1q,q2q])));(refine R2.aU ?_;intro us x hx hf);have hxx:Ext w3 (w3.ext x):=FE _ _;have hE:=hE.trans hxx;have hB:=hB.extB hxx;have hR:=hR.extB hxx;have hQ:=hQ.extB hxx;have hz:=hz.extB hxx;have hI1:=hI1.ext hxx;have hI2:=hI2.ext hxx;clear f13 hxc hc0 hc1 hsa hSk hu hxx hxb hb0 hi0 hi1 hy;generalize w3.ext x=W2 at *;haveI:=hz.blt;have f14:W2.cell? ⟨gP,14,none⟩=some (Zy p2 e2 k2):=hz.cell? 14 rfl;have hwW:=hE.size;obtain ⟨B,hBe⟩:∃ B,B=W2.heap.size:=⟨_,rfl⟩;go_wp2_with fail;go_wp2_with fail;clear f14;(with_reducible refine (jj 516 p2 e2 k2 P.1.secret _ hI2 (by have:=le2.out;omega)).mono ?_);rintro e w5 ⟨bz,dz,rfl,hOz,hx5⟩;have hE:=hE.trans hx5;have hB:=hB.extB hx5;have hR:=hR.extB hx5;have hQ:=hQ.extB hx5;have hz:=hz.extB hx5;have hI1:=hI1.ext hx5;have hI2:=hI2.ext hx5;clear hx5;have hall:=yF P.1.secret;have hIl:=oW 516 P.1.secret P.1.secret.length;have hIm:=λ i => @vN 516 P.1.secret P.1.secret.length i;generalize ixs 516 P.1.secret P.1.secret.length=I at *;obtain ⟨M,hM⟩:∃ M,I.length=M:=⟨_,rfl⟩;have hM24:M<=24:=by have:=hsm.2;omega
    have hOz:=hOz.rd;have hcl:(jb P.1.secret).length=M:=by rw [hall,aaC,hM]
    have hMh:=FC hM;rw [hM];clear hM hIl;obtain ⟨L,hL⟩:∃ L,jb P.1.secret=L:=⟨_,rfl⟩;have hflL:∀ x∈L,x.length<=1280:=by
     intro x hx;rw [<- hL,hall] at hx;obtain ⟨i,hi,rfl⟩:=aa2.1 hx;have h1:=(hIm i).1 hi;have h2:P.1.secret[i]?=some P.1.secret[i]:=List.getElem?_eq_getElem h1.1;have h3:P.1.secret.getD i (0,[])=P.1.secret[i]:=by rw [FF,h2];rfl
     rw [h3];exact hfl.2 _ (List.mem_of_getElem? h2)
    have hstep:∀ k,k<M->∃ i y,I[k]?=some i/\i<e2/\P.1.secret[i]?=some y/\L.take (k+1)=L.take k++[y.2]/\y.2.length<=1280:=by
     intro k hk;have hk2:k<I.length:=by rw [hMh.out];exact hk
     have h1:=(hIm I[k]).1 (aaB hk2);have h2:P.1.secret[I[k]]?=some P.1.secret[I[k]]:=List.getElem?_eq_getElem h1.1;have h3:P.1.secret.getD I[k] (0,[])=P.1.secret[I[k]]:=by rw [FF,h2];rfl
     refine ⟨I[k],P.1.secret[I[k]],List.getElem?_eq_getElem hk2,by rw [<- le2.out];exact h1.1,h2,?_,hfl.2 _ (List.mem_of_getElem? h2)⟩;have h4:L[k]?=some (P.1.secret[I[k]]).2:=by rw [<- hL,hall,List.getElem?_map,List.getElem?_eq_getElem hk2];simp only [Option.map_some,h3]
     rw [abn,h4];rfl
    rw [hL] at hat3 hcl;clear hL hall hIm hfl hMh;have hwW:=hE.size;obtain ⟨B,hBe⟩:∃ B,B=w5.heap.size:=⟨_,rfl⟩;go_wp2_with fail
    go_loopw [12,14] (λ v12 v14 wr=>∃ (k:Nat) (sa:E8)(sc:Nat),k<=M/\v14 = Zz Zx k/\v12 = Zy sa k sc/\bU wr B sa k sc (L.take k)/\Ext w5 wr) (λ _ v14 _=>M-(intOf v14).toNat)
    case atStart=>exact ⟨0,none,0,Zo,rfl,rfl,bU.nil _ _,FD _⟩
    case round =>
     obtain ⟨k,sa,sc,hk,rfl,rfl,hO,hX⟩:=hrel;have hBs:B<=wr.heap.size:=by rw [hBe];exact hX.size
     by_cases hlt:k<M
     ·obtain ⟨i,y,hki,hie,hy,hnx,hyb⟩:=hstep k hlt;replace hnx:=FC hnx;have hkI:k<(I.map λ i=>((i:Nat):Int)).length:=by
       rw [aaC];rcases abe k I.length with h|h
       ·exact h
       ·rw [List.getElem?_eq_none h] at hki;cases hki
      obtain ⟨zb,zo,rfl,hzb,hzc⟩:=hOz.at k (by rw [aaC];exact hkI);have hzv:((I.map λ i=>((i:Nat):Int)).map nK)[k]'(by rw [aaC];exact hkI) = Zz Zx (i:Int):=by
       rw [abp,abp];have:I[k]'(by simpa using hkI)=i:=by
        have h2:=List.getElem?_eq_getElem (show k<I.length by simpa using hkI);rw [h2] at hki;injection hki
       rw [this]
      rw [hzv] at hzc;obtain ⟨g0,o0,g',c',rfl,hb0,hc0,hc1,hSk,hcy⟩:=hI2.at i hie _ hy;have hinB:InB wr B g' y.2.length:=by rw [hBe];exact hSk.inB wr
      have hzc:=(hX.cell (p:=⟨zb,_,none⟩) hzb.lt).trans hzc;have hc1:=(hX.cell (p:=⟨g0,_,none⟩) hb0.lt).trans hc1;have hSk:=hSk.ext hX;have hb0:BlkLt g0 wr:=⟨aai hb0.lt hX.size⟩;have hzb:BlkLt zb wr:=⟨aai hzb.lt hX.size⟩;have hzr:=hz.extB hX;haveI:=hzr.blt;haveI:=hb0;haveI:=hzb;have f15:wr.cell? ⟨gP,14,none⟩=some (Zy (some ⟨g0,o0,none⟩) e2 k2):=hzr.cell? 14 rfl;have k0:(0:Int)<=(k:Int):=Zo;have k1i:(k:Int)<(M:Int):=Zo;have i0:(0:Int)<=(i:Int):=Zo;have i1:(i:Int)<(e2:Int):=Zo;clear hstep hkI hzv hki;generalize y.2=Y at *;clear hy;go_wp2_with fail;refine R2.ae 11 [[],[],[1],[],[],[3,4],[3,4,5],[1,2,3,4,5,6],[1,2,3,4,5,6,7],[1,2,3,4,5,6,7,8],[1,2,3,4,5,6,7,8,9],[0,1,2,3,4,5,6,7,8,9,10],[0,1,2,3,4,5,6,7,8,9,10,11]] [] (λ h=>(h rfl).elim) Zk Zk Zk Zk Zk ?_;simp only [q8q,q9q,q10q,q11q,q12q,q13q];(repeat (refine R2.av ?_;(try simp only [Act.put,q0q,q1q,q2q])));(refine R2.ai (λ p => .slice (p 0).1 1 1) (λ p w''=>uE (Zy g' Y.length c') w'' (p 0).1) (λ p w w' h hx=>by first|exact h.ext hx|exact ⟨h.1.ext hx,h.2.ext hx⟩|exact ⟨h.1.ext hx,h.2⟩|exact ⟨h.1.ext hx,h.2.1.ext hx,h.2.2.ext hx⟩) (λ us w' hx hf=>⟨rfl,?_⟩) ?_;(unfold gives;simp [go_sem,execOp];exact ⟨λ _=>(some ⟨w'.heap.size,0,none⟩,0),rfl,FA _ _,uE.mk _ _ _⟩));(refine R2.aU ?_;intro us x hx hf);obtain ⟨aN,haN⟩:∃ a,(us 10 0).1=a:=⟨_,rfl⟩;rw [haN] at hf ⊢;clear haN;obtain ⟨gn,rfl,hRd⟩:=hf;have hxx:Ext wr (wr.ext x):=FE _ _;have hOx:=hO.ext hxx;have hBx:=aal hBs hxx.size;have hEx:=hX.trans hxx;refine cE V8 rfl _ _ rfl B sa k sc _ rfl gn rfl hOx g' Y.length c' Y hRd (hSk.ext hxx) hcy (hinB.ext hxx) Zo hBx ?_;intro sa' sc' w6 hO6 hg6 hb6;go_wp2;go_roundw
      case rel=>exact ⟨k+1,sa',sc',Zo,Zg,rfl,by rw [hnx.out];exact hO6,E9 hEx (hb6.mono (Nat.le_of_eq hBe.symm))⟩
      case measure=>simp [intOf];omega
     ·have hke:k=M:=by omega
      subst hke;have kn:¬ (k:Int)<(k:Int):=Zo;rw [aah Zo] at hO;have hE:=hE.trans hX;have hB:=hB.extB hX;have hR:=hR.extB hX;have hQ:=hQ.extB hX;have hz:=hz.extB hX;have hI1:=hI1.ext hX;have hI2:=hI2.ext hX;have hpt:=λ W H1 H2 H3 H4 H5=>wZ a1 a2 a3 a4 sa n1 c1 n2 c2 n3 c3 n4 c4 k sc j L W H1 m1 H2 m2 H3 hc3 hn3 hb3 H4 m4 H5 Zo (λ x hx=>by have:=hflL x hx;omega);clear hX hstep;haveI:=hB.blt
      go_wp2_with (first
       | (refine af RJ6 rfl _ rfl w.heap.size 0 rfl _ hB.rd rfl ?_)
       | fail)
      (with_reducible refine (hpt _ (h1.ext hE) (h2.ext hE) (h3.ext hE) (h4.ext hE) hO.bsc).mono ?_);rintro e w7 ⟨b1,x1,d1,b2,x2,d2,b3,x3,d3,b4,x4,d4,rfl,o1,o2,o3,l3,t3,o4,hx7⟩;have hE:=hE.trans hx7;have hR:=hR.extB hx7;have hQ:=hQ.extB hx7;have hz:=hz.extB hx7;have hI1:=hI1.ext hx7;have hI2:=hI2.ext hx7;clear hpt hO hx7 hB;haveI:=hR.blt;haveI:=hQ.blt;haveI:=hz.blt;cases hal:oR L
      ·have ep:rZ j L=(bT,3):=by unfold rZ;rw [hal,Bool.and_false];rfl
       have er:=FC (show r=((bT,aP),3) by rw [hat3.out,aae (by rw [hal];decide)]);rw [ep] at o1 o2 o3 o4 ⊢;clear hat3 hal ep;simp only [bT] at o1 o2 o3 o4 ⊢
       go_wp2_with (first
        | ((refine ag RJ6 rfl rfl _ _ rfl rfl rfl rfl (by simp [Act.put]) _ rfl Zs rfl oC ?_;intro xx hzJ _);have hRz:=hR.extB (show Ext w7 (w7.ext xx) from FE _ _);have hQz:=hQ.extB (show Ext w7 (w7.ext xx) from FE _ _);haveI:=hRz.blt;haveI:=hQz.blt;haveI:=hzJ.blt)
        | ((refine aa RJ6 rfl _ _ rfl (w.heap.size+1) 0 rfl _ rfl 57 _ hRz rfl Zs oC ?_;intro V hV hMV);have hQV:=Blk.turn hMV hQz Zo;haveI:=hQV.blt)
        | (refine aa aK rfl _ _ rfl (w.heap.size+2) 0 rfl _ rfl 67 _ hQV rfl Zs oC ?_;intro V2 hV2 hMV2)
        | fail)
       have hEz:=hE.trans (show Ext w7 (w7.ext xx) from FE _ _);have hV:Blk V (w.heap.size+1) 57 [Zy none 0 0, Zy none 0 0, Zy none 0 0, Zy none 0 0, Zz Zx 0, Zz Zx 0]:=hV;have hV3:=Blk.turn hMV2 hV Zo;refine aaa (bF Tryz.results25 RJ6 aK _ _ (w.heap.size+1) 0 [Zy none 0 0, Zy none 0 0, Zy none 0 0, Zy none 0 0, Zz Zx 0, Zz Zx 0] rfl hV3.rd rfl (w.heap.size+2) 0 [Zz Zx 0, Zz Zx 0, Zz Zx 0, Zz Zx 0, Zz Zx 0, Zz Zx 0, Zz Zv 0, Zz Zv 0, Zz Zv 0, Zz Zw 0, Zz Zw 0, Zz Zw 0, Zz Zw 0, Zy none 0 0, Zy none 0 0, .bool false] rfl hV2.rd rfl (Zz Zx 3) rfl) rfl ?_;rw [er.out];have hEV:Ext w V:=E9 hEz (hMV.below Zo hEz.size);exact oH.zero _ _ _ (E9 hEV (hMV2.below Zo hEV.size))
      ·have ep:rZ j L=(dR j L,0):=by unfold rZ;rw [hal,q];rfl
       have er:=FC (show r=((dR j L,P.1),0) by rw [hat3.out,aaj hal]);rw [ep] at o1 o2 o3 o4 ⊢;clear hat3 hal ep;simp only at o1 o2 o3 o4 ⊢;generalize dR j L=J at *
       go_wp2_with (first
        | ((refine ag RJ6 rfl rfl _ _ rfl rfl rfl rfl (by simp [Act.put]) _ rfl Zs rfl oC ?_;intro xx hzJ _);haveI:=hzJ.blt)
        | fail)
       have hxx:Ext w7 (w7.ext xx):=FE _ _;have hl1:=hR.lt;have hl2:=hQ.lt;have hl3:=hz.lt;have hE:=hE.trans hxx;have hR:=hR.extB hxx;have hQ:=hQ.extB hxx;have hz:=hz.extB hxx;have hI1:=hI1.ext hxx;have hI2:=hI2.ext hxx;have o1:=o1.ext hxx;have o2:=o2.ext hxx;have o3:=o3.ext hxx;have t3:=t3.ext hxx;have o4:=o4.ext hxx;obtain ⟨gJ,hgJ⟩:∃ g,g=w7.heap.size:=⟨_,rfl⟩;rw [<- hgJ] at hzJ hl1 hl2 hl3 ⊢;clear hxx hgJ;generalize w7.ext xx=W7 at *;have hSE:∀ w',Ext W7 w'->(λ w'=>Blk w' gJ 57 [Zy b1 x1 d1, Zy b2 x2 d2, Zy b3 x3 d3, Zy b4 x4 d4, Zz Zx J.net, Zz Zx J.sent]/\Blk w' gP 67 [Zz Zx P.1.h.leap, Zz Zx P.1.h.ver, Zz Zx P.1.h.mode, Zz Zx P.1.h.strat, Zz Zx P.1.h.poll, Zz Zx P.1.h.prec, Zz Zv (n32 P.1.h.rd), Zz Zv (n32 P.1.h.rp), Zz Zv (n32 P.1.h.id), Zz Zw (n64 P.1.h.ref), Zz Zw (n64 P.1.h.org), Zz Zw (n64 P.1.h.rcv), Zz Zw (n64 P.1.h.tx), Zy (some ⟨gA,oA,none⟩) e1 k1, Zy p2 e2 k2, .bool P.1.guarded]) w':=(λ w' h=>⟨hzJ.extB h,hz.extB h⟩);have hExt0:Ext W7 (W7).drew:=Ext.drew (FD _);refine aaS (S:=λ w'=>Blk w' gJ 57 [Zy b1 x1 d1, Zy b2 x2 d2, Zy b3 x3 d3, Zy b4 x4 d4, Zz Zx J.net, Zz Zx J.sent]/\Blk w' gP 67 [Zz Zx P.1.h.leap, Zz Zx P.1.h.ver, Zz Zx P.1.h.mode, Zz Zx P.1.h.strat, Zz Zx P.1.h.poll, Zz Zx P.1.h.prec, Zz Zv (n32 P.1.h.rd), Zz Zv (n32 P.1.h.rp), Zz Zv (n32 P.1.h.id), Zz Zw (n64 P.1.h.ref), Zz Zw (n64 P.1.h.org), Zz Zw (n64 P.1.h.rcv), Zz Zw (n64 P.1.h.tx), Zy (some ⟨gA,oA,none⟩) e1 k1, Zy p2 e2 k2, .bool P.1.guarded]) Zk (hSE _ hExt0) (λ hHeld=>?_);refine aap (i:=0) rfl Zk Zk Zk (λ _ _ _ h=>h) (R5.ee RJ6 _ rfl rfl gJ 0 rfl ([.slice b1 x1 d1, .slice b2 x2 d2, .slice b3 x3 d3, .slice b4 x4 d4, .int .i64 J.net, .int .i64 J.sent]) ((λ w' h=>h.1.rd)) rfl) hHeld ?_;(try simp only [q14q,q15q,q16q,Act.put,q0q,q1q,q2q]);refine aap (i:=1) rfl Zk Zk Zk (λ _ _ _ h=>h) (R5.ee aK _ rfl rfl gP 0 rfl ([.int .i64 P.1.h.leap, .int .i64 P.1.h.ver, .int .i64 P.1.h.mode, .int .i64 P.1.h.strat, .int .i64 P.1.h.poll, .int .i64 P.1.h.prec, .int .u32 (n32 P.1.h.rd), .int .u32 (n32 P.1.h.rp), .int .u32 (n32 P.1.h.id), .int .u64 (n64 P.1.h.ref), .int .u64 (n64 P.1.h.org), .int .u64 (n64 P.1.h.rcv), .int .u64 (n64 P.1.h.tx), .slice (some ⟨gA,oA,none⟩) e1 k1, .slice p2 e2 k2, .bool P.1.guarded]) ((λ w' h=>h.2.rd)) rfl) hHeld ?_;(try simp only [q14q,q15q,q16q,Act.put,q0q,q1q,q2q]);have hzJ:=hzJ.extB hExt0;have hz:=hz.extB hExt0;have hR:=hR.extB hExt0;have hQ:=hQ.extB hExt0;have hE:=hE.trans hExt0;(refine R5.cI RJ6 2 Zk rfl rfl _ _ rfl (w.heap.size+1) 0 rfl [Zy b1 x1 d1, Zy b2 x2 d2, Zy b3 x3 d3, Zy b4 x4 d4, Zz Zx J.net, Zz Zx J.sent] rfl 57 _ hR rfl Zs (by simp;(repeat' (first|rfl|constructor))) ?_;intro w8 hV8 hM8);refine ⟨⟨Blk.turn hM8 hzJ Zo,Blk.turn hM8 hz Zo⟩,?_⟩;(try simp only [q14q,q15q,q16q,Act.put,q0q,q1q,q2q]);have hQ8:=Blk.turn hM8 hQ Zo;(refine R5.cI aK 3 Zk rfl rfl _ _ rfl (w.heap.size+2) 0 rfl [Zz Zx P.1.h.leap, Zz Zx P.1.h.ver, Zz Zx P.1.h.mode, Zz Zx P.1.h.strat, Zz Zx P.1.h.poll, Zz Zx P.1.h.prec, Zz Zv (n32 P.1.h.rd), Zz Zv (n32 P.1.h.rp), Zz Zv (n32 P.1.h.id), Zz Zw (n64 P.1.h.ref), Zz Zw (n64 P.1.h.org), Zz Zw (n64 P.1.h.rcv), Zz Zw (n64 P.1.h.tx), Zy (some ⟨gA,oA,none⟩) e1 k1, Zy p2 e2 k2, .bool P.1.guarded] rfl 67 _ hQ8 rfl Zs (by simp;(repeat' (first|rfl|constructor))) ?_;intro w9 hV9 hM9);have hV8:Blk w8 (w.heap.size+1) 57 [Zy b1 x1 d1, Zy b2 x2 d2, Zy b3 x3 d3, Zy b4 x4 d4, Zz Zx J.net, Zz Zx J.sent]:=hV8;refine ⟨⟨Blk.turn hM9 (Blk.turn hM8 hzJ Zo) Zo,Blk.turn hM9 (Blk.turn hM8 hz Zo) Zo⟩,?_⟩;(try simp only [q14q,q15q,q16q,Act.put,q0q,q1q,q2q]);(refine R5.aT 4 Zk rfl rfl ?_;unfold gives;simp [go_sem,execOp]);refine ⟨⟨Blk.turn hM9 (Blk.turn hM8 hzJ Zo) Zo,Blk.turn hM9 (Blk.turn hM8 hz Zo) Zo⟩,?_⟩;(try simp only [q14q,q15q,q16q,Act.put,q0q,q1q,q2q]);refine abh Zk ?_ _;have hV8:=Blk.turn hM9 hV8 Zo;go_wp2;refine aaa (bF Tryz.results25 RJ6 aK _ _ (w.heap.size+1) 0 [Zy b1 x1 d1, Zy b2 x2 d2, Zy b3 x3 d3, Zy b4 x4 d4, Zz Zx J.net, Zz Zx J.sent] rfl hV8.rd rfl (w.heap.size+2) 0 [Zz Zx P.1.h.leap, Zz Zx P.1.h.ver, Zz Zx P.1.h.mode, Zz Zx P.1.h.strat, Zz Zx P.1.h.poll, Zz Zx P.1.h.prec, Zz Zv (n32 P.1.h.rd), Zz Zv (n32 P.1.h.rp), Zz Zv (n32 P.1.h.id), Zz Zw (n64 P.1.h.ref), Zz Zw (n64 P.1.h.org), Zz Zw (n64 P.1.h.rcv), Zz Zw (n64 P.1.h.tx), Zy (some ⟨gA,oA,none⟩) e1 k1, Zy p2 e2 k2, .bool P.1.guarded] rfl hV9.rd rfl (Zz Zx 0) rfl) rfl ?_;rw [er.out];have hE8:Ext w w8:=E9 hE (hM8.below Zo hE.size);have hE9:Ext w w9:=E9 hE8 (hM9.below Zo hE8.size);have o1:=((o1.ext hExt0).mutT hR Zd hM8).mutT hQ8 Zd hM9;have o2:=((o2.ext hExt0).mutT hR Zd hM8).mutT hQ8 Zd hM9;have o4:=((o4.ext hExt0).mutT hR Zd hM8).mutT hQ8 Zd hM9;have t3:=t3.ext hExt0;have o3:=(o3.ext hExt0).mutNe (t3.ne hR Zd) hR Zs hM8;have t3:=t3.mut hR Zd hM8;have o3:=o3.mutNe (t3.ne hQ8 Zd) hQ8 Zs hM9;have t3:=t3.mut hQ8 Zd hM9;exact ⟨b1,x1,d1,b2,x2,d2,b3,x3,d3,b4,x4,d4,_,e1,k1,p2,e2,k2,rfl,o1.sl,o1.le.1,o2.sl,o2.le.1,o3,l3,t3,o4.sl,o4.le.1,(hI1.ext hExt0).mutq hR Zs rfl hM8 |>.mutq hQ8 Zs rfl hM9,g1,(hI2.ext hExt0).mutq hR Zs rfl hM8 |>.mutq hQ8 Zs rfl hM9,g2,hE9⟩
end Go.Proofs.P9
