/- Lemmas of this claim, several texts joined. -/
import Derived.Test.YtmdahnkcnagkjaaGreatZ10
import Derived.Test.YtmdahnkcnagkjaaGreatZ22
set_option maxRecDepth 100000
open Go.Value renaming int -> Zz,slice -> Zy
open Go.IntKind renaming i64 -> Zx,u8 -> Zu
open List renaming setIfInBounds_toArray -> q0q, set_cons_succ -> q1q, set_cons_zero -> q2q, mem_cons -> q3q, not_mem_nil -> q4q, nil_append -> q5q, cons_append -> q6q, mem_append -> q7q, take_succ_cons -> q8q, take_zero -> q9q, drop_succ_cons -> q10q, drop_zero -> q11q, take_nil -> q12q, drop_nil -> q13q
open Go.IntWalk renaming i64_in -> q17q, rem_in -> q18q, wrap64_in -> q19q
set_option maxHeartbeats 8000000
set_option linter.unusedVariables false
set_option linter.unusedSimpArgs false
/- The stream of layer 4. -/
namespace Go.Aes
def mT (l:E7)(o:Nat) (k:E7):E7:=(List.range l.length).map λ i=>if o<=i/\i<o+16 then at' l i ^^^ at' k (i-o) else at' l i
def gZ (ks:E7)(s:E7 × E7) (x:Nat):E7 × E7:=(mT s.1 (16*x) (enc ks s.2),nxt s.2)
def dS (ks ctr b:E7)(pre:List Nat):E7 × E7:=pre.foldl (gZ ks) (b,ctr)
theorem ns (ks ctr b:E7)(pre:List Nat) (x:Nat):dS ks ctr b (pre++[x])=gZ ks (dS ks ctr b pre) x:=by simp [dS,List.foldl_append]
theorem jn (l:E7)(o:Nat) (k:E7):(mT l o k).length=l.length:=by simp [mT]
theorem iC (ks ctr b:E7)(pre:List Nat) (hc:ctr.length=16):(dS ks ctr b pre).1.length=b.length/\(dS ks ctr b pre).2.length=16:=by
 have:∀ s:E7 × E7,s.2.length=16->(pre.foldl (gZ ks) s).1.length=s.1.length/\(pre.foldl (gZ ks) s).2.length=16:=by
  induction pre with
  | nil=>intro s h;exact ⟨rfl,h⟩
  | cons x r ih =>
   intro s h;have:=ih (gZ ks s x) (by simp [gZ,ug,h]);refine ⟨this.1.trans ?_,this.2⟩;simp [gZ,jn]
 exact this _ hc
def oi (l:E7)(o:Nat) (k:E7)(i:Nat):E7:=(List.range l.length).map λ j=>if o<=j/\j<o+i then at' l j ^^^ at' k (j-o) else at' l j
theorem eM (l:E7)(o:Nat) (k:E7)(i:Nat):(oi l o k i).length=l.length:=by simp [oi]
theorem nQ (l:E7)(o:Nat) (k:E7)(i j:Nat) (hj:j<l.length):at' (oi l o k i) j=if o<=j/\j<o+i then at' l j ^^^ at' k (j-o) else at' l j:=by
 rw [bE _ _ (by rw [eM];exact hj)];simp [oi]
theorem wQ (l:E7)(o:Nat) (k:E7):oi l o k 0=l:=by
 apply abE (eM _ _ _ _);intro j h1 h2;have:=nQ l o k 0 j h2;rw [bE _ _ h1,bE _ _ h2] at this;rw [this,aae Zo]
theorem xh (l:E7)(o:Nat) (k:E7)(i:Nat) (h:o+i<l.length):(oi l o k i).set (o+i) (at' l (o+i) ^^^ at' k i)=oi l o k (i+1):=by
 apply abE
 ·simp [eM]
 ·intro j h1 h2;have hj:j<l.length:=by rwa [eM] at h2
  have e1:=nQ l o k i j hj;have e2:=nQ l o k (i+1) j hj;rw [bE _ _ (by rw [eM];exact hj)] at e1 e2;rw [List.getElem_set,e2];split
  ·rename_i e;subst e;rw [aaj Zo,show o+i-o=i by omega]
  ·rename_i e;rw [e1];by_cases hc:o<=j/\j<o+i
   ·rw [aaj hc,aaj Zo]
   ·rw [aae hc,aae Zo]
theorem zC (l:E7)(o:Nat) (k:E7)(e:Nat) (he:e=min 16 (l.length-o)):oi l o k e=mT l o k:=by
 unfold oi mT;apply abo;intro j hj;have hj:=aaR.1 hj;by_cases hc:o<=j/\j<o+16
 ·rw [aaj hc,aaj Zo]
 ·rw [aae hc,aae Zo]
def ir (ks ctr b:E7):E7:=(dS ks ctr b (List.range ((b.length+15) / 16))).1
def stream (key ctr b:E7):E7:=ir (expand key) ctr b
end Go.Aes
namespace Go.Sec
open Go.RowKit
theorem Blk.owned {W W':World} {row:Option Nat} {g:Nat} {t:TypeId} {vs:List Value} (h:Blk W g t vs) (hg:W.grownBy W' row) (hr:∀ r,row=some r->∃ o:Obj,W.heap[r]?=some o/\o.isCells=false):Blk W' g t vs :=
 (grownBy_keeps_cells hg hr h rfl).trans h
theorem Rd.owned {W W':World} {row:Option Nat} {a:E8} {vs:List Value} (h:Rd W a vs) (hg:W.grownBy W' row) (hr:∀ r,row=some r->∃ o:Obj,W.heap[r]?=some o/\o.isCells=false):Rd W' a vs:=by
 rcases h with h|⟨b,o,ha,hb,hc⟩
 ·exact .inl h
 ·exact .inr ⟨b,o,ha,aai hb hg.size,λ k v hk=>cell_kept (hc k v hk) hg hr⟩
theorem Sl.owned {W W':World} {row:Option Nat} {a:E8} {n:Nat} {l:E7} (h:Sl W a n l) (hg:W.grownBy W' row) (hr:∀ r,row=some r->∃ o:Obj,W.heap[r]?=some o/\o.isCells=false):Sl W' a n l:=⟨h.len,h.by'.owned hg hr⟩
end Go.Sec
namespace Go.Proofs.P9
open Go.RowKit Go.Sec Go.Oct Go.Aes BigFrame
attribute [local go_sem] Oper.semAt_some
theorem _root_.z23q74{p:Prop}(h:p:=by
 rw [Below.heap_setCell _ _ _ _ (by simp;omega),hx5.block _ Zo,hkb _ Zo Zo]):p:=h
theorem uc (a b c:E8)(ca cb cc n:Nat) (ky ctr l:E7)(w:World)(hk:Sl w a 16 ky) (hca:16<=ca) (hcv:Sl w b 16 ctr) (hcb:16<=cb) (hl:Sl w c n l) (hn:n<=65535) :
  Calls Tryz.prog 163 #[Zy a 16 ca, Zy b 16 cb, Zy c n cc] w (bD n (stream ky ctr l) (Zz Zx 0) w):=by
 refine callsIn_wide (n:=3) |>.1 ?_
 refine callsIn_of_wp_marks Tryz.func163 rfl trivial ?_ rfl;simp only [Tryz.ntmps163,List.size_toArray,aaM,List.length_nil,Nat.reduceAdd,Nat.reduceSub,Array.replicate_succ,Array.replicate_zero,List.push_toArray,List.append_toArray,q5q,q6q];refine wpIn_wide.2 ?_;have hnI:¬ (65535:Int)<(n:Int):=Zo;go_wp2_with fail;refine (vM a ca ky _ (hk.ext (FA _ _)) hca).mono ?_;rintro e w1 ⟨gc,rfl,hgc,hC1,hx1⟩;have hb1:Blk w1 w.heap.size 33 [Zy b 16 cb]:=(Blk.newAt _ _ _ _ rfl).extB hx1;have hxw1:Ext w w1:=Ext.trans (FA _ _) hx1;simp only [aa8] at hgc;have hgl:=hC1.lt;clear hx1;go_wp2_with fail;refine (ei c n cc l _ (hl.ext hxw1) Zo).mono ?_;rintro e w2 ⟨a2,c2,rfl,hO2,hx2⟩;go_wp2_with fail;refine (xi a2 n c2 16 _ Zo).mono ?_;rintro e w3 ⟨rfl,hB1,hB2,hx3⟩;go_wp2_with fail;simp only [aa8] at hB1 hB2;have hB8:Blk w3 w2.heap.size 214 [.pointer (some ⟨gc,0,none⟩)]:=(Blk.newAt _ _ _ _ rfl).extB hx3;have hx23:Ext w2 w3:=Ext.trans (FA _ _) hx3;have hb4:=(hb1.extB hx2).extB hx23;have hC3:=(hC1.extB hx2).extB hx23;have hO3:=hO2.ext hx23;have hxw3:Ext w w3:=hxw1.trans (hx2.trans hx23);have s1:=hx2.size;have s2:=hB2.lt;have hle:=hO2.le;obtain ⟨g,vs0,hg⟩:∃ g vs,0<n->a2=some ⟨g,0,none⟩/\w1.heap.size<=g/\g<w2.heap.size/\Blk w3 g 5 vs/\vs.length=c2/\vs.take n=l.map u8v:=by
  by_cases h0:0<n
  ·obtain ⟨g,vs,h1,h2,h3,h4,_,_,h5⟩:=Blk.of_own hO2.2 h0;exact ⟨g,vs,λ _=>⟨h1,h2,h3.lt,h3.extB hx23,h4,h5⟩⟩
  ·exact ⟨0,[],λ h=>absurd h h0⟩
 have hks:(expand ky).length=176:=dd ky 40 hk.len;have hfin:=FC (show stream ky ctr l=(dS (expand ky) ctr l (List.range ((n+15) / 16))).1 by unfold stream ir;rw [hl.len]);have hll:=hl.len;have hcl:=hcv.len;have hcv3:=hcv.ext hxw3;have hcp:∀ bb oo,b=some ⟨bb,oo,none⟩->bb<w.heap.size:=λ bb oo e=>by
  obtain ⟨b',o',h1,h2,_⟩:=hcv.at 0 Zo;rw [e] at h1;injection h1 with h1
  injection h1 with h1 h3
  rw [h1];exact h2.lt
 generalize expand ky=ks at *;clear hC1 hb1 hxw1 hO2 hx2 hx3 hcv hx23;refine (wpIn_wide (n:=3)).1 ?_;apply (wpIn_rangeFunc_ownF (F:=Fence.wide) (n:=3) rfl Zo (gf:=180) (lb:=#[.pointer (some ⟨w2.heap.size+1,0,none⟩), .pointer (some ⟨w2.heap.size+1+1,0,none⟩)]) rfl trivial (enters_of Tryz.func180 Zk rfl)
  (rU 2 Zo g 0 n c2 16 (w2.heap.size+1) (w2.heap.size+1+1) ((n+16-1) / 16) a2 (λ h=>(hg h).1) w3 Zo rfl Zo hle.1 hB1 hB2)
  (λ h k=>qn.trans h k) ?hKb (Below.refl _ _) (λ _=>rfl)
  (λ pre W=>∃ (ca4:E8)(cc4:Nat),16<=cc4/\Blk W w.heap.size 33 [Zy ca4 16 cc4]/\Sl W ca4 16 (dS ks ctr l pre).2/\(∀ bb oo,ca4=some ⟨bb,oo,none⟩->bb<w.heap.size\/w3.heap.size<=bb) /\
   (0<n->∃ vs,Blk W g 5 vs/\vs.length=c2/\vs.take n=(dS ks ctr l pre).1.map u8v)/\Blk W w2.heap.size 214 [.pointer (some ⟨gc,0,none⟩)]/\Blk W gc 231 (ks.map u8v)/\w3.heap.size<=W.heap.size/\Ext w W)
  (λ _ _ _=>False) ?hI (λ _ _ _ _ _ h=>h.elim) ?h0 _ ?assign ?body ?done ?stop)
 case hKb =>
  intro W l0 o o' h1 h2 _ _;exact ⟨World.putObj_heap_other Zo,World.putObj_heap_other Zo⟩
 case h0=>exact ⟨b,cb,hcb,hb4,hcv3,λ bb oo e => .inl (hcp bb oo e),λ h=>⟨vs0,(hg h).2.2.2.1,(hg h).2.2.2.2.1,(hg h).2.2.2.2.2⟩,hB8,hC3,aad _,hxw3⟩
 case hI =>
  rintro pre W W' row ⟨ca4,cc4,h1,h2,h3,h4,h5,h6,h7,h8,h9⟩ hgr hrow;have hr2:=λ r e=>(hrow r e).2;refine ⟨ca4,cc4,h1,h2.owned hgr hr2,h3.owned hgr hr2,h4,λ h=>?_,h6.owned hgr hr2,h7.owned hgr hr2,aal h8 hgr.size,h9.grown hgr h9.size (λ k e=>?_)⟩
  ·obtain ⟨vs,e1,e2,e3⟩:=h5 h;exact ⟨vs,e1.owned hgr hr2,e2,e3⟩
  ·have:=(hrow k e).1;have:=hxw3.size;omega
 case assign =>
  intro l x W K hK;simp only [BQ,List.zip_toArray,List.zip_cons_cons,List.zip_nil_right,List.zip_nil_left,List.foldl_toArray,List.foldl_cons,List.foldl_nil,q0q,q1q,q2q,List.size_toArray,List.foldl_toArray']
  gi_wp2
  exact hK
 case body =>
  rintro l0 pre px W ⟨ca4,cc4,h1,h2,h3,h4,h5,h6,h7,h8,h9⟩ _;have hc4:=h2.cell? 0 rfl;have hc8:=h6.cell? 0 rfl;have hcl2:=h3.len;obtain ⟨b0,o0,rfl,hb0,_⟩:=h3.at 0 Zo;have hrd:=h3.by';have hcI:(16:Int)<=(cc4:Int):=Zo;have har2:=λ W a len cap=>run_arrayAt (P:=Tryz.prog) W 219 5 16 a len cap Tryz.underlying219;obtain ⟨kv,hkv⟩:∃ kv,kv=(dS ks ctr l pre).2:=⟨_,rfl⟩;rw [<- hkv] at h3 hcl2 hrd;haveI:=h6.blt;haveI:=h2.blt;haveI:=h7.blt
  gi_wp2_with (first
   | (refine rD (ti l0) (λ ⟨_,_,h⟩=>h) rfl ?_;(refine af R60 rfl _ rfl b0 o0 rfl (kv.map u8v) hrd ((by simpa using hcl2)) ?_);refine pU ?_)
   | (refine r8 (ti l0) (λ ⟨_,_,h⟩=>h) rfl ?_;(refine ag R60 rfl rfl _ _ rfl rfl rfl rfl (by simp [Act.put]) (kv.map u8v) rfl Zs ((by simpa using hcl2)) (aH _) ?_;intro xx hBx _);refine pU ?_)
   | fail)
  have hWx:=(FE W xx);refine ⟨trivial,(lh (ti l0) (nS W.heap.size gc 0 219 kv ks (W.ext xx) hBx hcl2 hks (h7.ext xx).rd (by have:=h7.lt;omega))).mono ?_⟩;rintro e w4 ⟨rfl,hE4,hM4⟩;have hx4:Ext W w4:=E9 hWx (hM4.below (aad _) hWx.size);have f2:=h2.extB hx4;have f3:=h3.ext hx4;have f6:=h6.extB hx4;have f7:=h7.extB hx4;have s8:=hx4.size;have hsx:=hBx.lt;have h7l:=h7.lt;have h2l:=h2.lt;clear hM4 hBx hWx;have hel:=FC (show (dS ks ctr l (pre++[px]))=(mT (dS ks ctr l pre).1 (16*px) (enc ks kv),nxt kv) by rw [ns,hkv];rfl);have hcur:=(iC ks ctr l pre hcl).1;obtain ⟨cur,hcu⟩:∃ cur,cur=(dS ks ctr l pre).1:=⟨_,rfl⟩;rw [<- hcu] at hel h5 hcur;obtain ⟨ek,hek⟩:∃ ek,ek=enc ks kv:=⟨_,rfl⟩;have hekl:ek.length=16:=by rw [hek];exact gM _ _
  rw [<- hek] at hel hE4;obtain ⟨e,he⟩:∃ e,Hid (e=rN 16 n px):=⟨_,FC rfl⟩;rw [<- he.out];clear hcu hek
  gi_wp2
  gi_loopw [12,39] (λ _ v39 wr=>∃ i:Nat,i<=e/\v39 = Zz Zx i/\(0<n->∃ vs,Blk wr g 5 vs/\vs.length=c2/\vs.take n=(oi cur (16*px) ek i).map u8v)/\Mut g w4 wr/\(n=0->Ext w4 wr)) (λ _ v39 _=>e-(intOf v39).toNat)
  case atStart=>exact ⟨0,Zo,rfl,λ h=>by obtain ⟨vs,e1,e2,e3⟩:=h5 h;exact ⟨vs,e1.extB hx4,e2,by rw [wQ];exact e3⟩,Mut.refl _ _,λ _=>FD _⟩
  case round =>
   obtain ⟨i,hi,rfl,hG,hMg,hM0⟩:=hrel;by_cases hlt:i<e
   ·have he':=he.out;unfold rN at he';have hi16:i<16:=Zo;have hin:16*px+i<n:=Zo;obtain ⟨vs,e1,e2,e3⟩:=hG Zo;have hgn:=hg Zo;have hE5:=hE4.turn hMg Zo;have hck:=hE5.cell? i (v := Zz Zu (n8 (at' ek i))) (by rw [List.getElem?_map,bE ek i Zo];simp [show i<ek.length by omega]);have hv:vs[16*px+i]?=some (Zz Zu (n8 (at' cur (16*px+i)))):=by
     have h0:(vs.take n)[16*px+i]?=vs[16*px+i]?:=by rw [List.getElem?_take,aaj hin]
     rw [<- h0,e3,List.getElem?_map];have hl0:16*px+i<(oi cur (16*px) ek i).length:=by rw [eM];omega
     rw [List.getElem?_eq_getElem hl0,<- bE _ _ hl0,nQ _ _ _ _ _ Zo,aae Zo];rfl
    have hcell:=e1.cell? (16*px+i) hv;have hfr:=e1.free (16*px+i);have hS:=FC (xh cur (16*px) ek i Zo);have i0:(0:Int)<=(i:Int):=Zo;have i1:(i:Int)<(e:Int):=Zo;have i2:(i:Int)<16:=Zo;haveI:=e1.blt;haveI:=hE5.blt;have hal:Tryz.prog.arrayLen 219=16:=Zk;clear he' hv hG
    gi_wp2
    refine R4.lZ (ti l0) (λ ⟨_,_,h⟩=>h) rfl 9 [[],[],[0,1],[0,1,2],[],[4],[4,5],[0,1,2,3,4,5,6],[0,1,2,3,4,5,6,7],[0,1,2,3,4,5,6,7,8]] [] Zk Zk Zk Zk ?_;simp only [q8q,q9q,q10q,q11q,q12q,q13q];(repeat (apply R4.eB;(case h=>(intro us w' hx hf;obtain ⟨x,rfl⟩:=hx.ext.out;refine ⟨rfl,?_⟩;simp [go_sem,execOp, *];(try simp (disch:=omega) only [q17q,q18q,q19q]);rfl));(try simp only [Act.put,q0q,q1q,q2q])));(refine R4.fN ?_;intro us w' hx hf hd;obtain ⟨x,rfl⟩:=hx.ext.out;(try simp only [Act.put,q0q,q1q,q2q,wpList_none]);(try simp only [q3q,q4q,abt,aa7,forall_eq,q5q,q6q,q7q,false_or,true_and,and_true] at hf);(try simp only [Nat.reduceAdd,aaA] at hf ⊢));go_wp2
    gi_wp2
    go_roundw
    case rel =>
     refine ⟨i+1,Zo,Zg,λ _=>⟨_,(e1.ext _).set (16*px+i) _,by simpa using e2,?_⟩,(hMg.ext _).setCell _ _,λ h=>Zo⟩;rw [List.take_set,e3,<- aaT (f:=u8v),hS.out]
    case measure=>simp [intOf];omega
   ·obtain rfl:i=e:=by omega
    have he':=he.out;unfold rN at he';have hpass:∀ {k:Nat} {t:TypeId} {vs:List Value},Blk w4 k t vs->(0<n->k≠g)->Blk wr k t vs:=λ h hne=>by
     by_cases h0:0<n
     ·exact h.turn hMg (hne h0)
     ·exact h.extB (hM0 Zo)
    have hgr:0<n->w1.heap.size<=g/\g<w2.heap.size:=λ h=>⟨(hg h).2.1,(hg h).2.2.1⟩;have hsr:w4.heap.size<=wr.heap.size:=hMg.size;have p2:=hpass f2 (λ h=>by have:=hgr h;omega);have p6:=hpass f6 (λ h=>by have:=hgr h;omega);have p7:=hpass f7 (λ h=>by have:=hgr h;omega);have hb0g:0<n->b0≠g:=λ h=>by
     have:=hgr h;rcases h4 b0 o0 rfl with h|h <;> omega
    have p3:Sl wr (some ⟨b0,o0,none⟩) 16 kv:=by
     by_cases h0:0<n
     ·exact ⟨f3.len,f3.by'.turn hMg (hb0g h0)⟩
     ·exact f3.ext (hM0 Zo)
    have hko1:KeepsOthers W w4:=KeepsOthers.of_grownBy (row:=none) ⟨hx4.os,hx4.tape,hx4.output,hx4.size,λ k hk _=>hx4.block k hk⟩ (λ _ _ e=>by cases e);have hko2:KeepsOthers w4 wr:=by
     by_cases h0:0<n
     ·obtain ⟨vs,e1,_,_⟩:=h5 h0;have e4:=e1.extB hx4;exact KeepsOthers.of_grownBy hMg (λ k o e ho=>by
       injection e with e
       subst e;rw [e4] at ho;injection ho with ho
       subst ho;rfl)
     ·have h:=hM0 Zo;exact KeepsOthers.of_grownBy (row:=none) ⟨h.os,h.tape,h.output,h.size,λ k hk _=>h.block k hk⟩ (λ _ _ e=>by cases e)
    have hkb:∀ k,w2.heap.size<k->k<w3.heap.size->wr.heap[k]?=W.heap[k]?:=λ k hk1 hk2=>by
     have a1:w4.heap[k]?=W.heap[k]?:=hx4.block k Zo;by_cases h0:0<n
     ·have:=hgr h0;rw [hMg.block k Zo (λ e=>by injection e with e;omega),a1]
     ·rw [(hM0 Zo).block k Zo,a1]
    have hxr:Ext w wr:=by
     have hw4:Ext w w4:=E9 h9 (hx4.mono h9.size);by_cases h0:0<n
     ·have:=hgr h0;exact E9 hw4 (hMg.below Zo hw4.size)
     ·exact hw4.trans (hM0 Zo)
    have hcr:=p2.cell? 0 rfl;have hfr:=p2.free 0;haveI:=p2.blt;clear hcr hfr;have hcr:=p2.cell? 0 rfl
    gi_wp2_with fail
    refine ⟨trivial,(lh (ti l0) (yw (some ⟨b0,o0,none⟩) cc4 kv wr p3)).mono ?_⟩;rintro e w5 ⟨a5,c5,rfl,hO5,hx5⟩;have hle5:=hO5.le;obtain ⟨g5,vs5,rfl,h51,hB5,h52,h53,h54,h55⟩:=Blk.of_own hO5.2 Zo;have q2:=p2.extB hx5;have q6:=p6.extB hx5;have q7:=p7.extB hx5;have hxw5:=hxr.trans hx5;have hs5:=hx5.size;haveI:=q2.blt;have hqc:=q2.cell? 0 rfl;have hqf:=q2.free 0;have h6l:=h6.lt;clear hcr
    gi_wp2
    refine ⟨(hko1.trans hko2).trans ((KeepsOthers.of_grownBy (row:=none) ⟨hx5.os,hx5.tape,hx5.output,hx5.size,λ k hk _=>hx5.block k hk⟩ (λ _ _ e=>by cases e)).trans (KeepsOthers.setCell _ _ _)),⟨?_,?_⟩,some ⟨g5,0,none⟩,c5,hle5.1,?_,?_,?_,?_,?_,?_,?_,?_⟩
    ·exact z23q74
    ·exact z23q74
    ·exact q2.set 0 _
    ·rw [hel.out];have h10:=(hB5.other (a:=⟨w.heap.size,0,none⟩) (by simp;omega) (Zy (some ⟨g5,0,none⟩) 16 c5)).rd.head 16;rw [h55] at h10;exact ⟨hO5.1,h10⟩
    ·intro bb oo e;injection e with e
     injection e with e1 e2
     exact .inr Zo
    ·intro h0;obtain ⟨vs,e1,e2,e3⟩:=hG h0;have:=hgr h0;refine ⟨vs,(e1.extB hx5).other (by simp;omega) _,e2,?_⟩;rw [hel.out,e3,zC _ _ _ _ (by rw [hcur,hll];exact he')]
    ·exact q6.other (by simp;omega) _
    ·exact q7.other (by simp;omega) _
    ·simp;omega
    ·exact hxw5.setCell Zs _
 case done =>
  rintro D xs W hD rfl ⟨ca4,cc4,h1,h2,h3,h4,h5,h6,h7,h8,h9⟩ hK;go_wp2;refine ⟨Zs, .inl ⟨_,_,rfl,run_takeDeferred hK,?_⟩⟩;have hgr:=grownBy_putObj' W D (.deferred none);have hrow:∀ r,some D=some r->∃ o:Obj,W.heap[r]?=some o/\o.isCells=false:=λ r e=>by cases e;exact ⟨_,hK,rfl⟩
  refine ⟨_,results_tmp2 rfl _ _ _,a2,c2,rfl,?_,hle.1,?_⟩
  ·rw [hfin.out];by_cases h0:0<n
   ·obtain ⟨vs,e1,e2,e3⟩:=h5 h0;obtain ⟨e4,_⟩:=hg h0;rw [e4];have h10:=(e1.owned hgr hrow).rd.head n;rw [e3] at h10;exact ⟨by rw [(iC ks ctr l _ hcl).1,hll],h10⟩
   ·obtain rfl:n=0:=by omega
    have:(dS ks ctr l (List.range ((0+15) / 16))).1=[]:=aaq (by rw [(iC ks ctr l _ hcl).1,hll]);rw [this];exact Sl.nil _ _
  ·exact E9 h9 (belowK_b (w:=w) (aad _) W D _ _ (by have:=hxw3.size;omega) hK rfl rfl)
 case stop =>
  rintro D c0 pre W _ _ h _;exact h.elim
end Go.Proofs.P9

/- The stream, byte by byte. No program. -/
namespace Go.Aes
def rL:Nat->E7->E7
 | 0,c=>c
 | k+1,c=>nxt (rL k c)
def qk (ks ctr l:E7)(i:Nat):UInt8:=at' l i ^^^ at' (enc ks (rL (i / 16) ctr)) (i % 16)
theorem yu (l:E7)(o:Nat) (k:E7)(j:Nat) (hj:j<l.length):at' (mT l o k) j=if o<=j/\j<o+16 then at' l j ^^^ at' k (j-o) else at' l j:=by
 rw [bE _ _ (by rw [jn];exact hj)];simp [mT]
theorem lU (ks ctr l:E7)(N:Nat):(dS ks ctr l (List.range N)).2=rL N ctr/\(dS ks ctr l (List.range N)).1.length=l.length/\∀ i,i<l.length->at' (dS ks ctr l (List.range N)).1 i=if i<16*N then qk ks ctr l i else at' l i:=by
 induction N with
 | zero=>exact ⟨rfl,rfl,λ i _=>by rw [aae Zo];rfl⟩
 | succ N ih =>
  obtain ⟨h1,h2,h3⟩:=ih;rw [aaZ,ns];unfold gZ;refine ⟨by rw [h1,rL],by rw [jn,h2],λ i hi=>?_⟩;simp only;rw [yu _ _ _ _ (by rw [h2];exact hi),h3 i hi,h1];by_cases hc:16*N<=i/\i<16*N+16
  ·rw [aaj hc,aae Zo,aaj Zo];unfold qk;rw [show i / 16=N from Zo,show i % 16=i-16*N by omega]
  ·rw [aae hc];by_cases h:i<16*N
   ·rw [aaj h,aaj Zo]
   ·rw [aae h,aae Zo]
theorem ec (ks ctr l:E7):(ir ks ctr l).length=l.length:=(lU ks ctr l _).2.1
theorem kO (ks ctr l:E7)(i:Nat) (hi:i<l.length):at' (ir ks ctr l) i=qk ks ctr l i:=by
 unfold ir;rw [(lU ks ctr l _).2.2 i hi,aaj Zo]
theorem yq {l m:E7} (hl:l.length=m.length) (h:∀ i,i<m.length->at' l i=at' m i):l=m:=by
 apply abE hl;intro i h1 h2;have:=h i h2
 rwa [bE _ _ h1,bE _ _ h2] at this
theorem sr (ks ctr l:E7):ir ks ctr (ir ks ctr l)=l:=by
 refine yq (by rw [ec,ec]) λ i hi=>?_;rw [kO _ _ _ _ (by rw [ec];exact hi)];unfold qk;rw [kO _ _ _ _ hi];unfold qk;rw [UInt8.xor_assoc,UInt8.xor_self,UInt8.xor_zero]
end Go.Aes
