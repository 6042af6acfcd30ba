/- Lemmas of this claim, several texts joined. -/
import Derived.Test.YtmdahnkcnagkjaaGreatZ9
import Derived.Test.YtmdahnkcnagkjaaGreatZ11
import Derived.Test.YtmdahnkcnagkjaaGreatZ18
import Derived.Test.YtmdahnkcnagkjaaGreatZ30
set_option maxRecDepth 100000
open List renaming setIfInBounds_toArray → q0q, set_cons_succ → q1q, set_cons_zero → q2q, mem_cons → q3q, not_mem_nil → q4q, nil_append → q5q, cons_append → q6q, mem_append → q7q, take_succ_cons → q8q, take_zero → q9q, drop_succ_cons → q10q, drop_zero → q11q, take_nil → q12q, drop_nil → q13q
set_option maxHeartbeats 8000000
set_option linter.unusedVariables false
set_option linter.unusedSimpArgs false
/- The document's layer 5: the mac of a prepared key. -/
namespace Go.Aes
theorem sD (a b c:List UInt8):bJ (bJ a b) c=bJ a (bJ b c):=by
 unfold bJ
 apply abq
 intro i hi
 have hi:=aaU.1 hi
 unfold jt
 rw [nm _ _ hi,nm _ _ hi,UInt8.xor_assoc]
def sz (ks r:List UInt8):List UInt8:=if r.length=16 then bJ r (eW ks) else bJ (fill r) (e9 ks)
theorem zF (ks b:List UInt8):mac ks b=enc ks (bJ (cbc ks b ((b.length-1) / 16)) (sz ks (b.drop (16*((b.length-1) / 16))))):=by
 unfold mac oO
 simp only
 rw [sD]
 unfold sz ml
 split <;> rfl
end Go.Aes
namespace Go.Proofs.YtmdahnkcnagkjaaGreat
open Go.RowKit Go.Sec Go.Oct Go.Aes Go.Sha BigFrame
theorem lV (a:Option Addr)(n c:Nat) (l:List UInt8)(w:World)(h:Sl w a n l) (h1:1≤n) (h2:n≤16) :
  Calls Tryz.prog 135 #[.slice a n c, .int .i64 16] w (cf 16 (l++List.replicate (16-n) 0) w) :=
 uJ a n c l 16 w h (by omega) (by omega) (by omega) 16 (by omega)
theorem xT (a:Option Addr)(n c:Nat) (ks b:List UInt8)(hks:ks.length=176) (w:World)(h:Sl w a n b) (hnc:n≤c) (hn:n≤1000000) :
  Calls Tryz.prog 158 #[.agg ((pre ks).map u8v).toArray, .slice a n c] w (cf 16 (mac ks b) w):=by
 have hpl:=eE ks (by omega)
 have hbl:=h.len
 have renc:∀ (a:Option Addr)(c:Nat) (l:List UInt8)(w:World),Sl w a 16 l→16≤c→Calls Tryz.prog 139 #[.agg ((pre ks).map u8v).toArray, .slice a 16 c] w (cf 16 (enc ks l) w):=fun a c l w h hc=>rH a c ks l hks w h hc
 obtain ⟨pk,hpk⟩:∃ pk,Hid (pk=pre ks):=⟨_,Lib.hid rfl⟩
 rw [← hpk.out] at renc hpl ⊢
 have hM0:=Blk.new w (List.map u8v pk).toArray 197
 have hx0:Ext w (w.alloc (.cells (List.map u8v pk).toArray 197)):=eX
 obtain ⟨nb,hnb⟩:∃ nb,Hid (nb=(n-1) / 16):=⟨_,Lib.hid rfl⟩
 have hfin:=Lib.hid (zF ks b)
 rw [hbl,← hnb.out] at hfin
 have hs1:=Lib.hid (show eW ks=tw (enc ks dd) from rfl)
 go_enter Tryz.func158,Tryz.ntmps158
 go_wp2_with fail
 have hM0:Blk (w.alloc (.cells (List.map u8v pk).toArray 197)) w.heap.size 197 (pk.map u8v):=hM0
 generalize w.alloc _=W at *
 refine ae 5 [[],[],[0,1],[0,1,2],[0,1,2,3]] (by kernel_rfl) (by kernel_rfl) (by kernel_rfl) (by kernel_rfl) ?_;simp only [q8q,q9q,q10q,q11q,q12q,q13q]
 (repeat (refine aA ?_;(try simp only [Act.put,q0q,q1q,q2q])))
 (refine aw (R84) _ rfl (fun _=>rfl) (w.heap.size) (0) (fun _=>by simp [go_sem]) (pk.map u8v) (hM0.rd) ((by simpa using hpl)) ?_)
 (refine aj (fun p => .slice (p 0).1 (16) (16)) (fun p w''=>Sl w'' (p 0).1 (16) (dd)) (fun p w w' h hx=>h.ext hx) (fun us w' hx hf=>⟨rfl,?_⟩) ?_;(unfold gives;simp [go_sem,execOp,lL];exact ⟨fun _=>(some ⟨w'.heap.size,0,none⟩,0),rfl,Ext.of_alloc _ _,(bX _ _).sl rfl⟩))
 (refine aj (fun p => .slice (p 0).1 (16) (p 0).2) (fun p w''=>Own w'' 0 (p 0).1 (16) (p 0).2 (enc ks dd)) (fun p w w' h hx=>h.ext hx) (fun us w' hx hf=>⟨rfl,?_⟩) ?_;(unfold gives;simp [go_sem,execOp];exact az (aan _) (renc _ _ _ _ (hf _ (aae _ (aab _)) rfl) (by omega))))
 (refine aj (fun p => .slice (p 0).1 (16) (p 0).2) (fun p w''=>Own w'' 0 (p 0).1 (16) (p 0).2 (tw (enc ks dd))) (fun p w w' h hx=>h.ext hx) (fun us w' hx hf=>⟨rfl,?_⟩) ?_;(unfold gives;simp [go_sem,execOp];exact az (aan _) (fD _ _ _ _ (Own.sl (by exact (hf _ (aae _ (aab _)) rfl))))))
 (repeat (refine aA ?_;(try simp only [Act.put,q0q,q1q,q2q])))
 (refine aT ?_;intro us x hx hf;(try simp only [Act.put,q0q,q1q,q2q,ag]);(try simp only [q3q,q4q,aao,aaa,aal,q5q,q6q,q7q,aap,aaq,aar] at hf);(try simp only [Nat.reduceAdd,aad] at hf ⊢))
 obtain ⟨-, -,hO3⟩:=hf
 rw [← hs1.out] at hO3
 have hM1:=hM0.extB hx
 have hx1:=hx0.trans hx
 generalize (us 3 0).1=a5 at *
 generalize (us 3 0).2=c5 at *
 generalize us 1=u1 at *
 generalize us 2=u2 at *
 clear hM0 hx0
 generalize W.ext x=W1 at *
 clear hx
 have hle3:=hO3.le
 obtain ⟨lst,hlst⟩:∃ lst:Nat,Hid (lst=16*nb):=⟨_,Lib.hid rfl⟩
 have hq0:n=0→lst=0:=fun h0=>by rw [hlst.out,hnb.out,h0]
 have hq1:0<n→((n:Int)+15) / 16*16-16=(lst:Int):=fun h0=>by rw [hlst.out,hnb.out];omega
 have hq2:lst≤n:=by rw [hlst.out,hnb.out];omega
 have hdv:((n:Int)+15) / 16≤100000000:=by omega
 have hdv0:(0:Int)≤((n:Int)+15) / 16:=by omega
 have hmk:=lL
 have hV0:=dB W1
 have hM2:=hM1.alloc (.cells (bM (.int .u8 0) 16) 5)
 have hx2:Ext w (W1.alloc (.cells (bM (.int .u8 0) 16) 5)):=hx1.alloc _
 have hO5:=hO3.ext (Ext.of_alloc W1 (.cells (bM (.int .u8 0) 16) 5))
 have hsc:Sl w (dU a c lst 1) (n-lst) (b.drop lst):=h.drop c lst hnc
 by_cases h0:n=0
 ·have h0I:((n:Int) == 0)=true:=by rw [aa7];omega
  have hq:=hq0 h0
  go_wp2_with fail
  clear hM1 hx1 hO3
  generalize W1.alloc _=W2 at *
  go_loopw [7,8] (fun v7 v8 wr=>∃ (a7:Option Addr)(c7:Nat),v7 = .slice a7 16 c7∧v8 = .int .i64 0∧16≤c7∧Sl wr a7 16 dd∧Blk wr w.heap.size 197 (pk.map u8v)∧Own wr 0 a5 16 c5 (eW ks)∧Ext w wr) (fun _ v8 _=>0)
  case atStart=>exact ⟨_,_,rfl,rfl,by omega,hV0,hM2,hO5,hx2⟩
  case round =>
   clear hV0 hM2 hx2 hO5
   obtain ⟨a7,c7,rfl,rfl,hc7,hV,hM,hO5,hx⟩:=hrel
   have hcb:Hid (cbc ks b nb=dd):=Lib.hid (by rw [hnb.out,h0];rfl)
   have hSr:Sl w a 0 []:=Sl.nil _ _
   have hrd:Hid (b.drop (16*nb)=[]):=Lib.hid (by rw [aaK (by omega)])
   have hSr1:=hSr.ext hx
   have hvl:(cbc ks b nb).length=16:=fX _ _ _
   rw [hcb.out] at hvl
   go_wp2_with fail;(with_reducible refine (bf _ 1 1 [[]] _ (ie hSr1 _) (by omega) _ (by rw [cC,hSr1.len]) (by omega)).mono ?_);rintro e w9 ⟨a9,c9,rfl,hO9,hx9⟩
   rw [cC] at hO9
   replace hx9:=Ext.trans (Ext.of_alloc _ _) hx9
   replace hO9:=hO9.mono (base':=wr.heap.size) (by simp)
   have hsz9:=hx9.size
   clear hSr1
   have hER:=Lib.hid (show sz ks []=du (fill []) (e9 ks) by unfold sz;rw [aaf (by have:=hSr.len;omega),fq _ _ (cK [] (by have:=hSr.len;omega))])
   have hfl:=cK [] (by have:=hSr.len;omega)
   have hpd:=Lib.hid (show []++[128]++List.replicate (16-(0+1)) 0=fill [] by unfold fill;rw [hSr.len,show 16-(0+1)=15-0 by omega])
   have hs2:=Lib.hid (show e9 ks=tw (eW ks) from rfl)
   go_wp2_with (at_builtin;refine aC U rfl _ _ rfl wr.heap.size a9 _ c9 _ rfl _ 1 1 _ rfl (hO9.ext eX) (bF _ 128 _) (by omega) (by simp;omega) ?_;intro sa2 sc2 w2 hOa hg2 hB2)
   (try simp only [Nat.reduceAdd,aad] at hOa)
   have hx2:Ext wr w2:=Below.trans (b:=w9.alloc _) (hx9.alloc _) hB2
   have hM2:=hM.extB hx2
   have hV2:=hV.ext hx2
   have hO52:=hO5.ext hx2
   have hxx2:=hx.trans hx2
   clear hM hV hO5 hx hx9 hO9 hB2 hg2 hx2
   go_wp2_with fail;(with_reducible refine (lV _ _ _ _ _ hOa.sl (by omega) (by omega)).mono ?_);rintro e w3 ⟨a3,c3,rfl,hO3,hx3⟩
   rw [hpd.out] at hO3
   go_wp2_with fail;(with_reducible refine (fD _ _ _ _ (hO52.sl.ext hx3)).mono ?_);rintro e w4 ⟨a4,c4,rfl,hO4,hx4⟩
   rw [← hs2.out] at hO4
   go_wp2_with fail;(with_reducible refine (eu _ _ 16 c3 16 _ _ _ _ (hO3.sl.ext hx4) hO4.sl (by omega) (by omega)).mono ?_);rintro e w5 ⟨a5',c5',rfl,hO6,hx5⟩
   have hx35:=hx3.trans (hx4.trans hx5)
   have hM6:=hM2.extB hx35
   have hV6:=hV2.ext hx35
   have hx6:=hxx2.trans hx35
   clear hM2 hV2 hO52 hxx2 hx3 hx4 hx5 hO3 hO4 hx35 hOa
   rw [hlst.out] at hlst
   have hEnd:=Lib.hid (show mac ks b=enc ks (du dd (du (fill []) (e9 ks))) by first|rw [hfin.out,fq _ _ hvl,← hcb.out,hrd.out,hER.out]|rw [hfin.out,fq _ _ hvl,hrd.out,hER.out])
   go_wp2
   refine ae 6 [[],[],[],[1,2],[0,1,2,3],[0,1,2,3,4]] (by kernel_rfl) (by kernel_rfl) (by kernel_rfl) (by kernel_rfl) ?_;simp only [q8q,q9q,q10q,q11q,q12q,q13q]
   (repeat (refine aA ?_;(try simp only [Act.put,q0q,q1q,q2q])))
   (refine aw (R84) _ rfl (fun _=>rfl) (w.heap.size) (0) (fun _=>by simp [go_sem]) (pk.map u8v) (hM6.rd) ((by simpa using hpl)) ?_)
   (repeat (refine aA ?_;(try simp only [Act.put,q0q,q1q,q2q])))
   (refine aj (fun p => .slice (p 0).1 (16) (p 0).2) (fun p w''=>Own w'' 0 (p 0).1 (16) (p 0).2 (du dd (du (fill []) (e9 ks)))) (fun p w w' h hx=>h.ext hx) (fun us w' hx hf=>⟨rfl,?_⟩) ?_;(unfold gives;simp [go_sem,execOp];exact az (aan _) (eu _ _ 16 c7 16 _ _ _ _ (hV6.ext hx) (hO6.sl.ext hx) (by omega) (by omega))))
   (refine aj (fun p => .slice (p 0).1 (16) (p 0).2) (fun p w''=>Own w'' w.heap.size (p 0).1 (16) (p 0).2 (enc ks (du dd (du (fill []) (e9 ks))))) (fun p w w' h hx=>h.ext hx) (fun us w' hx hf=>⟨rfl,?_⟩) ?_;(unfold gives;simp [go_sem,execOp];exact az ((hx6.trans hx).size) (renc _ _ _ _ (Own.sl (by exact (hf _ (aae _ (aab _)) rfl))) (Own.le (by exact (hf _ (aae _ (aab _)) rfl))).1)))
   (repeat (refine aA ?_;(try simp only [Act.put,q0q,q1q,q2q])))
   (refine aT ?_;intro us x hx hf;(try simp only [Act.put,q0q,q1q,q2q,ag]);(try simp only [q3q,q4q,aao,aaa,aal,q5q,q6q,q7q,aap,aaq,aar] at hf);(try simp only [Nat.reduceAdd,aad] at hf ⊢))
   obtain ⟨-,hO8⟩:=hf
   rw [← hEnd.out] at hO8
   go_wp2
   go_ret
   exact ⟨_,_,rfl,hO8,hx6.trans hx⟩
 ·have h0I:((n:Int) == 0)=false:=by rw [aaJ];omega
  have hq:=hq1 (by omega)
  go_wp2_with fail
  clear hM1 hx1 hO3
  generalize W1.alloc _=W2 at *
  go_loopw [7,8] (fun v7 v8 wr=>∃ (k:Nat) (a7:Option Addr)(c7:Nat),k≤nb∧v7 = .slice a7 16 c7∧v8 = .int .i64 (16*(k:Int))∧16≤c7∧Sl wr a7 16 (cbc ks b k)∧Blk wr w.heap.size 197 (pk.map u8v)∧Own wr 0 a5 16 c5 (eW ks)∧Ext w wr) (fun _ v8 _=>lst-(intOf v8).toNat)
  case atStart=>exact ⟨0,_,_,aan _,rfl,rfl,by omega,hV0,hM2,hO5,hx2⟩
  case round =>
   clear hV0 hM2 hx2 hO5
   obtain ⟨k,a7,c7,hk,rfl,rfl,hc7,hV,hM,hO5,hx⟩:=hrel
   have hlst':=hlst.out
   by_cases hlt:k<nb
   ·have k0:16*(k:Int)<(lst:Int):=by omega
    have k1:(0:Int)≤16*(k:Int):=by omega
    have k2:16*(k:Int)≤16*(k:Int)+16:=by omega
    have k3:16*(k:Int)+16≤(c:Int):=by omega
    have k4:(16*(k:Int)).toNat=16*k:=by omega
    have k5:(16*(k:Int)+16).toNat=16*k+16:=by omega
    have k6:16*k+16-16*k=16:=by omega
    have hSp:∀ W,Ext wr W→Sl W (dU a c (16*k) 1) 16 ((b.drop (16*k)).take 16):=fun W hW=>(((h.ext (hx.trans hW)).drop c (16*k) hnc).take 16 (by omega))
    have hxw:=hx
    have hcb:=Lib.hid (show cbc ks b (k+1)=enc ks (bJ (cbc ks b k) ((b.drop (16*k)).take 16)) from rfl)
    have hcl:=fX ks b k
    rw [← fq _ _ hcl] at hcb
    generalize cbc ks b k=v at *
    generalize (b.drop (16*k)).take 16=bl at *
    go_wp2
    refine ae 9 [[],[],[],[],[],[4],[2,3,4,5],[1,2,3,4,5,6],[0,1,2,3,4,5,6,7],[0,1,2,3,4,5,6,7,8]] (by kernel_rfl) (by kernel_rfl) (by kernel_rfl) (by kernel_rfl) ?_;simp only [q8q,q9q,q10q,q11q,q12q,q13q]
    (repeat (refine aA ?_;(try simp only [Act.put,q0q,q1q,q2q])))
    (refine aw (R84) _ rfl (fun _=>rfl) (w.heap.size) (0) (fun _=>by simp [go_sem]) (pk.map u8v) (hM.rd) ((by simpa using hpl)) ?_)
    (repeat (refine aA ?_;(try simp only [Act.put,q0q,q1q,q2q])))
    (refine aj (fun p => .slice (p 0).1 (16) (p 0).2) (fun p w''=>Own w'' 0 (p 0).1 (16) (p 0).2 (du v bl)) (fun p w w' h hx=>h.ext hx) (fun us w' hx hf=>⟨rfl,?_⟩) ?_;(unfold gives;simp [go_sem,execOp];exact az (aan _) (eu _ _ 16 c7 16 _ _ _ _ (hV.ext hx) (hSp _ hx) (by omega) (by omega))))
    (refine aj (fun p => .slice (p 0).1 (16) (p 0).2) (fun p w''=>Own w'' 0 (p 0).1 (16) (p 0).2 (enc ks (du v bl))) (fun p w w' h hx=>h.ext hx) (fun us w' hx hf=>⟨rfl,?_⟩) ?_;(unfold gives;simp [go_sem,execOp];exact az (aan _) (renc _ _ _ _ (Own.sl (by exact (hf _ (aae _ (aab _)) rfl))) (Own.le (by exact (hf _ (aae _ (aab _)) rfl))).1)))
    (refine aT ?_;intro us x hx hf;(try simp only [Act.put,q0q,q1q,q2q,ag]);(try simp only [q3q,q4q,aao,aaa,aal,q5q,q6q,q7q,aap,aaq,aar] at hf);(try simp only [Nat.reduceAdd,aad] at hf ⊢))
    obtain ⟨-,hO8⟩:=hf
    rw [← hcb.out] at hO8
    have hle8:=hO8.le
    generalize (us 8 0).1=a8 at *
    generalize (us 8 0).2=c8 at *
    generalize us 7=u7 at *
    have hM2:=hM.extB hx
    have hx2:=hxw.trans hx
    have hO52:=hO5.ext hx
    clear hM hO5 hV hSp hx
    generalize wr.ext x=W3 at *
    go_wp2_with fail
    go_roundw
    case rel=>exact ⟨k+1,a8,c8,by omega,rfl,by go_num,hle8.1,hO8.sl,hM2,hO52,hx2⟩
    case measure=>simp [intOf];omega
   ·obtain rfl:nb=k:=by omega
    have hk0:¬ 16*(nb:Int)<(lst:Int):=by omega
    have hSr:=hsc
    rw [hlst.out] at hSr
    have hrd:Hid (b.drop (16*nb)=b.drop (16*nb)):=Lib.hid rfl
    have hmm:n-16*nb≤16:=by have:=hnb.out;omega
    generalize hgr:b.drop (16*nb)=r at hSr hrd
    have hcb:Hid (cbc ks b nb=cbc ks b nb):=Lib.hid rfl
    replace hrd:Hid (b.drop (16*nb)=r):=Lib.hid hgr
    clear hgr
    generalize hgm:n-16*nb=m at *
    have hSr1:=hSr.ext hx
    have hvl:(cbc ks b nb).length=16:=fX _ _ _
    rw [hcb.out] at hvl
    go_wp2_with fail;(with_reducible refine (bf _ 1 1 [r] _ (ie hSr1 _) (by omega) _ (by rw [cC,hSr1.len]) (by omega)).mono ?_);rintro e w9 ⟨a9,c9,rfl,hO9,hx9⟩
    rw [cC] at hO9
    replace hx9:=Ext.trans (Ext.of_alloc _ _) hx9
    replace hO9:=hO9.mono (base':=wr.heap.size) (by simp)
    have hsz9:=hx9.size
    clear hSr1
    by_cases h16:m=16
    ·subst h16
     have hrl:r.length=16:=hSr.len
     have hER:=Lib.hid (show sz ks r=du r (eW ks) by unfold sz;rw [aam hrl,fq _ _ hrl])
     have hO59:=hO5.ext hx9
     go_wp2_with fail;(with_reducible refine (eu _ _ 16 c9 16 _ _ _ _ hO9.sl hO59.sl (by omega) (by omega)).mono ?_);rintro e w5 ⟨a5',c5',rfl,hO6,hx5⟩
     have hM6:=(hM.extB hx9).extB hx5
     have hV6:=(hV.ext hx9).ext hx5
     have hx6:=hx.trans (hx9.trans hx5)
     clear hM hV hO5 hx hx9 hx5 hO59 hO9
     rw [hlst.out] at hlst
     have hEnd:=Lib.hid (show mac ks b=enc ks (du (cbc ks b nb) (du r (eW ks))) by first|rw [hfin.out,fq _ _ hvl,← hcb.out,hrd.out,hER.out]|rw [hfin.out,fq _ _ hvl,hrd.out,hER.out])
     go_wp2
     refine ae 6 [[],[],[],[1,2],[0,1,2,3],[0,1,2,3,4]] (by kernel_rfl) (by kernel_rfl) (by kernel_rfl) (by kernel_rfl) ?_;simp only [q8q,q9q,q10q,q11q,q12q,q13q]
     (repeat (refine aA ?_;(try simp only [Act.put,q0q,q1q,q2q])))
     (refine aw (R84) _ rfl (fun _=>rfl) (w.heap.size) (0) (fun _=>by simp [go_sem]) (pk.map u8v) (hM6.rd) ((by simpa using hpl)) ?_)
     (repeat (refine aA ?_;(try simp only [Act.put,q0q,q1q,q2q])))
     (refine aj (fun p => .slice (p 0).1 (16) (p 0).2) (fun p w''=>Own w'' 0 (p 0).1 (16) (p 0).2 (du (cbc ks b nb) (du r (eW ks)))) (fun p w w' h hx=>h.ext hx) (fun us w' hx hf=>⟨rfl,?_⟩) ?_;(unfold gives;simp [go_sem,execOp];exact az (aan _) (eu _ _ 16 c7 16 _ _ _ _ (hV6.ext hx) (hO6.sl.ext hx) (by omega) (by omega))))
     (refine aj (fun p => .slice (p 0).1 (16) (p 0).2) (fun p w''=>Own w'' w.heap.size (p 0).1 (16) (p 0).2 (enc ks (du (cbc ks b nb) (du r (eW ks))))) (fun p w w' h hx=>h.ext hx) (fun us w' hx hf=>⟨rfl,?_⟩) ?_;(unfold gives;simp [go_sem,execOp];exact az ((hx6.trans hx).size) (renc _ _ _ _ (Own.sl (by exact (hf _ (aae _ (aab _)) rfl))) (Own.le (by exact (hf _ (aae _ (aab _)) rfl))).1)))
     (repeat (refine aA ?_;(try simp only [Act.put,q0q,q1q,q2q])))
     (refine aT ?_;intro us x hx hf;(try simp only [Act.put,q0q,q1q,q2q,ag]);(try simp only [q3q,q4q,aao,aaa,aal,q5q,q6q,q7q,aap,aaq,aar] at hf);(try simp only [Nat.reduceAdd,aad] at hf ⊢))
     obtain ⟨-,hO8⟩:=hf
     rw [← hEnd.out] at hO8
     go_wp2
     go_ret
     exact ⟨_,_,rfl,hO8,hx6.trans hx⟩
    ·have hm16:((m:Int) == 16)=false:=by rw [aaJ];omega
     have hm15:m<16:=by omega
     have hER:=Lib.hid (show sz ks r=du (fill r) (e9 ks) by unfold sz;rw [aaf (by have:=hSr.len;omega),fq _ _ (cK r (by have:=hSr.len;omega))])
     have hfl:=cK r (by have:=hSr.len;omega)
     have hpd:=Lib.hid (show r++[128]++List.replicate (16-(m+1)) 0=fill r by unfold fill;rw [hSr.len,show 16-(m+1)=15-m by omega])
     have hs2:=Lib.hid (show e9 ks=tw (eW ks) from rfl)
     go_wp2_with (at_builtin;refine aC U rfl _ _ rfl wr.heap.size a9 _ c9 _ rfl _ 1 1 _ rfl (hO9.ext eX) (bF _ 128 _) (by omega) (by simp;omega) ?_;intro sa2 sc2 w2 hOa hg2 hB2)
     (try simp only [Nat.reduceAdd,aad] at hOa)
     have hx2:Ext wr w2:=Below.trans (b:=w9.alloc _) (hx9.alloc _) hB2
     have hM2:=hM.extB hx2
     have hV2:=hV.ext hx2
     have hO52:=hO5.ext hx2
     have hxx2:=hx.trans hx2
     clear hM hV hO5 hx hx9 hO9 hB2 hg2 hx2
     go_wp2_with fail;(with_reducible refine (lV _ _ _ _ _ hOa.sl (by omega) (by omega)).mono ?_);rintro e w3 ⟨a3,c3,rfl,hO3,hx3⟩
     rw [hpd.out] at hO3
     go_wp2_with fail;(with_reducible refine (fD _ _ _ _ (hO52.sl.ext hx3)).mono ?_);rintro e w4 ⟨a4,c4,rfl,hO4,hx4⟩
     rw [← hs2.out] at hO4
     go_wp2_with fail;(with_reducible refine (eu _ _ 16 c3 16 _ _ _ _ (hO3.sl.ext hx4) hO4.sl (by omega) (by omega)).mono ?_);rintro e w5 ⟨a5',c5',rfl,hO6,hx5⟩
     have hx35:=hx3.trans (hx4.trans hx5)
     have hM6:=hM2.extB hx35
     have hV6:=hV2.ext hx35
     have hx6:=hxx2.trans hx35
     clear hM2 hV2 hO52 hxx2 hx3 hx4 hx5 hO3 hO4 hx35 hOa
     rw [hlst.out] at hlst
     have hEnd:=Lib.hid (show mac ks b=enc ks (du (cbc ks b nb) (du (fill r) (e9 ks))) by first|rw [hfin.out,fq _ _ hvl,← hcb.out,hrd.out,hER.out]|rw [hfin.out,fq _ _ hvl,hrd.out,hER.out])
     go_wp2
     refine ae 6 [[],[],[],[1,2],[0,1,2,3],[0,1,2,3,4]] (by kernel_rfl) (by kernel_rfl) (by kernel_rfl) (by kernel_rfl) ?_;simp only [q8q,q9q,q10q,q11q,q12q,q13q]
     (repeat (refine aA ?_;(try simp only [Act.put,q0q,q1q,q2q])))
     (refine aw (R84) _ rfl (fun _=>rfl) (w.heap.size) (0) (fun _=>by simp [go_sem]) (pk.map u8v) (hM6.rd) ((by simpa using hpl)) ?_)
     (repeat (refine aA ?_;(try simp only [Act.put,q0q,q1q,q2q])))
     (refine aj (fun p => .slice (p 0).1 (16) (p 0).2) (fun p w''=>Own w'' 0 (p 0).1 (16) (p 0).2 (du (cbc ks b nb) (du (fill r) (e9 ks)))) (fun p w w' h hx=>h.ext hx) (fun us w' hx hf=>⟨rfl,?_⟩) ?_;(unfold gives;simp [go_sem,execOp];exact az (aan _) (eu _ _ 16 c7 16 _ _ _ _ (hV6.ext hx) (hO6.sl.ext hx) (by omega) (by omega))))
     (refine aj (fun p => .slice (p 0).1 (16) (p 0).2) (fun p w''=>Own w'' w.heap.size (p 0).1 (16) (p 0).2 (enc ks (du (cbc ks b nb) (du (fill r) (e9 ks))))) (fun p w w' h hx=>h.ext hx) (fun us w' hx hf=>⟨rfl,?_⟩) ?_;(unfold gives;simp [go_sem,execOp];exact az ((hx6.trans hx).size) (renc _ _ _ _ (Own.sl (by exact (hf _ (aae _ (aab _)) rfl))) (Own.le (by exact (hf _ (aae _ (aab _)) rfl))).1)))
     (repeat (refine aA ?_;(try simp only [Act.put,q0q,q1q,q2q])))
     (refine aT ?_;intro us x hx hf;(try simp only [Act.put,q0q,q1q,q2q,ag]);(try simp only [q3q,q4q,aao,aaa,aal,q5q,q6q,q7q,aap,aaq,aar] at hf);(try simp only [Nat.reduceAdd,aad] at hf ⊢))
     obtain ⟨-,hO8⟩:=hf
     rw [← hEnd.out] at hO8
     go_wp2
     go_ret
     exact ⟨_,_,rfl,hO8,hx6.trans hx⟩
end Go.Proofs.YtmdahnkcnagkjaaGreat

/- CmacDoubles: Subkeys, and the law's walk. -/
namespace Go.Proofs.YtmdahnkcnagkjaaGreat
open Go.RowKit Go.Sec Go.Oct Go.Aes Go.Sha BigFrame
end Go.Proofs.YtmdahnkcnagkjaaGreat

/- The walks of the program's SHA-256: all blocks, the end, the whole. -/
namespace Go.Sec
open Go.RowKit Go.Sha Go.Oct
theorem Sl.mut {w w':World} {g n:Nat} {a:Option Addr} {l:List UInt8} {t:TypeId} {vs:List Value} (h:Sl w a n l) (hB:Blk w g t vs) (hv:∀ v∈vs,∀ x,v ≠ .int .u8 x) (hM:Mut g w w'):Sl w' a n l:=by
 refine ⟨h.len,?_⟩
 rcases h.by' with h0|⟨b,off,rfl,hb,hc⟩
 ·exact .inl h0
 ·by_cases hl:l.map u8v=[]
  ·exact .inl hl
  ·refine Rd.turn hM (.inr ⟨b,off,rfl,hb,hc⟩) (fun e=>?_)
   subst e
   obtain ⟨v,hv0⟩:∃ v,(l.map u8v)[0]?=some v:=by
    cases hm:l.map u8v with
    | nil=>exact absurd hm hl
    | cons v r=>exact ⟨v,rfl⟩
   have h2:=hc 0 v hv0
   rw [cell_of_row w _ _ _ t (0,0) hB] at h2
   have hm:=List.mem_of_getElem? (show vs[off+0]?=some v by simpa using h2)
   obtain ⟨x,_,rfl⟩:=aa3.1 (List.mem_of_getElem? hv0)
   exact hv _ hm _ rfl
@[go_sem] theorem Bv (x:UInt32):IntKind.u8.wrap (n32 x)=n8 x.toUInt8:=by
 unfold n8 n32;rw [abb,UInt32.toNat_toUInt8];omega
end Go.Sec
namespace Go.Sha
open Go.Oct
end Go.Sha
namespace Go.Proofs.YtmdahnkcnagkjaaGreat
open Go.RowKit Go.Sec Go.Oct Go.Sha BigFrame
end Go.Proofs.YtmdahnkcnagkjaaGreat
