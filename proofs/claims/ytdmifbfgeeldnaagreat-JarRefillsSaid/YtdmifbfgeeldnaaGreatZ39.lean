/- Lemmas of this claim, several texts joined. -/
import Derived.WalkMore
import Derived.Test.YtdmifbfgeeldnaaGreatZ14
import Derived.Test.YtdmifbfgeeldnaaGreatZ32
import Derived.Test.YtdmifbfgeeldnaaGreatZ34
import Derived.Test.YtdmifbfgeeldnaaGreatZ38
set_option maxRecDepth 100000
open List renaming setIfInBounds_toArray → q0q, set_cons_succ → q1q, set_cons_zero → q2q, mem_cons → q3q, not_mem_nil → q4q, nil_append → q5q, cons_append → q6q, mem_append → q7q, take_succ_cons → q8q, take_zero → q9q, drop_succ_cons → q10q, drop_zero → q11q, take_nil → q12q, drop_nil → q13q, getElem_toArray → q14q, getElem_cons_succ → q15q, getElem_cons_zero → q16q
open Go.IntWalk renaming i64_in → q17q, rem_in → q18q, wrap64_in → q19q
set_option linter.unusedVariables false
set_option linter.unusedSimpArgs false
/- The walks of layer 22: Answer. -/
namespace Go.Pkt
open Go.Oct Go.Aes
theorem decF_mem {l:List UInt8} (h:(decF l).2=0) {f:Fld} (hf:f∈(decF l).1):f.2.length≤1280:=by
 have h1:=(decF_ok h).1
 have h2:=totN_mem hf
 have h3:l.length≤1232:=by
  rcases Nat.lt_or_ge 1232 l.length with hh|hh
  ·have:decF l=([],2):=if_pos hh
   rw [this] at h
   cases h
  ·exact hh
 unfold szN at h2
 omega
theorem openP_flds (ky b:List UInt8):(∀ f∈(openP ky b).1.plain,f.2.length≤1280)∧∀ f∈(openP ky b).1.secret,f.2.length≤1280:=by
 have hz:(∀ f∈zeroP.plain,f.2.length≤1280)∧∀ f∈zeroP.secret,f.2.length≤1280:=by simp [zeroP]
 unfold openP
 split
 ·exact hz
 ·split
  ·exact hz
  ·rename_i hr
   have hr:(readE b).2=0:=by simpa using hr
   split
   ·exact hz
   ·split
    ·exact hz
    ·split
     ·exact hz
     ·split
      ·exact hz
      ·split
       ·exact hz
       ·rename_i h
        exact ⟨fun f hf=>(readE_fld hr (List.mem_of_mem_take hf)).2,fun f hf=>decF_mem (by simpa using h) hf⟩
end Go.Pkt
namespace Go.Sec
open Go.RowKit
def noPair:List Value→Bool
 | .int .i64 _ :: .slice _ _ _ :: _=>false
 | _ :: vs=>noPair vs
 | []=>true
theorem noPair_at:∀ {vs:List Value},noPair vs=true→∀ {i x p m c},vs[i]?=some (.int .i64 x)→vs[i+1]?=some (.slice p m c)→False
 | [],_,i,_,_,_,_,h1,_=>by simp at h1
 | v :: vs,h,i+1,x,p,m,c,h1,h2=>by
  refine noPair_at (vs:=vs) ?_ (i:=i) (by simpa using h1) (by simpa using h2)
  unfold noPair at h
  split at h
  ·cases h
  ·simp_all
  ·simp_all
 | v :: vs,h,0,x,p,m,c,h1,h2=>by
  simp only [List.getElem?_cons_zero,Option.some.injEq] at h1
  subst h1
  cases vs with
  | nil=>simp at h2
  | cons v2 vs =>
   simp only [Nat.zero_add,List.getElem?_cons_succ,List.getElem?_cons_zero,Option.some.injEq] at h2
   subst h2
   simp [noPair] at h
theorem Ib.mutq {w w':World} {a:Option Addr} {n g:Nat} {T:TypeId} {vs:List Value} {L:List (Int × List UInt8)} (h:Ib w a n L) (hB:Blk w g T vs) (hne:∀ v∈vs,∀ x,v ≠ .int .u8 x) (hp:noPair vs=true) (hM:Mut g w w'):Ib w' a n L:=by
 refine ⟨h.len,h.row.imp id ?_⟩
 by_cases h0:n=0
 ·subst h0
  have:=List.eq_nil_of_length_eq_zero h.len
  subst this
  rintro ⟨b,off,ha,hb,_⟩
  exact ⟨b,off,ha,Nat.lt_of_lt_of_le hb hM.size,fun k hk=>by cases hk⟩
 rintro ⟨b,off,ha,hb,hc⟩
 have hbg:b≠g:=by
  rintro rfl
  obtain ⟨_,_,h1,h2,_⟩:=hc 0 (by rw [h.len];omega)
  rw [cell_of_row w _ _ _ T (0,0) hB] at h1 h2
  exact noPair_at hp (by simpa using h1) (by simpa using h2)
 have hblk:=hM.block b hb (fun e=>hbg (by injection e))
 refine ⟨b,off,ha,Nat.lt_of_lt_of_le hb hM.size,fun k hk=>?_⟩
 obtain ⟨g',c,h1,h2,h3,h4⟩:=hc k hk
 exact ⟨g',c,(World.cell?_of_block hblk).trans h1,(World.cell?_of_block hblk).trans h2,h3.mut hB hne hM,h4⟩
theorem noGoto_body {P:Program} {fn:Func} {Q:Ending→World→Prop}:Exit.noGoto (bodyPost P fn Q)=bodyPost P fn Q:=by
 funext e a w
 cases e <;> rfl
end Go.Sec
namespace Go.Proofs.YtdmifbfgeeldnaaGreat
open Go.RowKit Go.Sec Go.Oct Go.Jar Go.Pkt BigFrame
theorem _root_.z39q9{p:Prop}(h:p:=by
 have hV:Blk V (w.heap.size+1) 54 [.slice none 0 0, .slice none 0 0, .slice none 0 0, .slice none 0 0, .int .i64 0, .int .i64 0]:=hV
 have hV3:=Blk.turn hMV2 hV (by omega)
 refine bodyPost_ret (results_arr2_tmp Tryz.results29 RJ6 RP16 _ _ (w.heap.size+1) 0 [.slice none 0 0, .slice none 0 0, .slice none 0 0, .slice none 0 0, .int .i64 0, .int .i64 0] rfl hV3.rd rfl (w.heap.size+2) 0 [.int .i64 0, .int .i64 0, .int .i64 0, .int .i64 0, .int .i64 0, .int .i64 0, .int .u32 0, .int .u32 0, .int .u32 0, .int .u64 0, .int .u64 0, .int .u64 0, .int .u64 0, .slice none 0 0, .slice none 0 0, .bool false] rfl hV2.rd rfl (.int .i64 (3)) rfl) rfl ?_
 rw [er.out]
 have hEV:Ext w V:=Below.trans hEz (hMV.below (by omega) hEz.size)
 exact AnsE.zero _ _ _ (Below.trans hEV (hMV2.below (by omega) hEV.size))):p:=h
theorem _root_.z39q51{p:Prop}(h:p:=by
 rw [er.out]
 have hEV:Ext w V:=Below.trans hEz (hMV.below (by omega) hEz.size)
 exact AnsE.zero _ _ _ (Below.trans hEV (hMV2.below (by omega) hEV.size))):p:=h
set_option maxHeartbeats 2000000 in
theorem janswer_any (a1 a2 a3 a4 au ab:Option Addr)(n1 c1 n2 c2 n3 c3 n4 c4 nu cu nb cb:Nat) (j:Jar) (u b:List UInt8)(w:World)(h1:Sl w a1 n1 j.up) (m1:n1≤1000000) (h2:Sl w a2 n2 j.dn) (hc2:n2≤c2) (m2:n2≤1000000) (h3:Bsc w a3 n3 j.ck) (hc3:n3≤c3) (hn3:n3≤100000) (hb3:∀ x∈j.ck,x.length≤1000000) (h4:Sl w a4 n4 j.last) (m4:n4≤1000000)
  (hu:Sl w au nu u) (hb:Sl w ab nb b) (hcb:nb≤cb) (hnb:nb≤1000000) :
  Calls Tryz.prog 29 #[.agg #[.slice a1 n1 c1, .slice a2 n2 c2, .slice a3 n3 c3, .slice a4 n4 c4, .int .i64 j.net, .int .i64 j.sent], .slice au nu cu, .slice ab nb cb] w (AnsE (ansJ j u b) w):=by
 have hlu:=hu.len
 have hv:=fun W H1 H2 H3 H4=>jvalid_any a1 a2 a3 a4 n1 c1 n2 c2 n3 c3 n4 c4 j W H1 H2 H3 hc3 (by omega) H4
 have hop:=fun W H1 H2=>popenp_any a2 ab n2 c2 nb cb j.dn b W H1 hc2 H2 hcb hnb
 have hsm:=openP_small j.dn b
 have hfl:=openP_flds j.dn b
 obtain ⟨r,hr⟩:∃ r,ansJ j u b=r:=⟨_,rfl⟩
 rw [hr]
 replace hr:=Lib.hid hr
 go_enter Tryz.func29,Tryz.ntmps29
 go_wp2_with fail
 refine nameW ?_
 intro W hW
 have hE:Ext w W:=by rw [hW];exact eX
 have hB:Blk W w.heap.size 54 [.slice a1 n1 c1, .slice a2 n2 c2, .slice a3 n3 c3, .slice a4 n4 c4, .int .i64 j.net, .int .i64 j.sent]:=by rw [hW];exact bK
 have hR:Blk W (w.heap.size+1) 54 [.slice none 0 0, .slice none 0 0, .slice none 0 0, .slice none 0 0, .int .i64 0, .int .i64 0]:=by rw [hW];exact bK
 have hQ:Blk W (w.heap.size+2) 32 [.int .i64 0, .int .i64 0, .int .i64 0, .int .i64 0, .int .i64 0, .int .i64 0, .int .u32 0, .int .u32 0, .int .u32 0, .int .u64 0, .int .u64 0, .int .u64 0, .int .u64 0, .slice none 0 0, .slice none 0 0, .bool false]:=by rw [hW];exact bK
 clear hW
 refine wp_scope_straight ?_
 rw [noGoto_body]
 go_wp2_with (first
  | (refine wpList_load_arr (RJ6) rfl _ rfl (w.heap.size) (0) rfl ([.slice a1 n1 c1, .slice a2 n2 c2, .slice a3 n3 c3, .slice a4 n4 c4, .int .i64 j.net, .int .i64 j.sent]) (hB.rd) (rfl) ?_)
  | fail)
 (with_reducible refine (hv _ (h1.ext hE) (h2.ext hE) (h3.ext hE) (h4.ext hE)).mono ?_)
 rintro e w0 ⟨rfl,hx0⟩
 have hE:=hE.trans hx0
 have hB:=hB.extB hx0
 have hR:=hR.extB hx0
 have hQ:=hQ.extB hx0
 clear hx0 hv
 haveI:=hB.blt
 cases q:validJ j
 ·have er:=Lib.hid (show r=((zeroJ,zeroP),3) by rw [← hr.out];unfold ansJ;rw [if_neg (fun h=>by rw [q] at h;exact absurd h.1 (by decide))])
  clear hr q hop hsm hfl hlu
  have hRz:=hR.extB (Ext.refl w0)
  have hQz:=hQ.extB (Ext.refl w0)
  have hEz:=hE.trans (Ext.refl w0)
  haveI:=hRz.blt
  haveI:=hQz.blt
  go_wp2_with (first
   | ((refine wpList_store_arr (RJ6) rfl _ _ rfl (w.heap.size+1) (0) rfl ([.slice none 0 0, .slice none 0 0, .slice none 0 0, .slice none 0 0, .int .i64 0, .int .i64 0]) rfl (54) _ (hRz) (rfl) (by simp) (oC) ?_;intro V hV hMV);have hQV:=Blk.turn hMV hQz (by omega);haveI:=hQV.blt)
   | (refine wpList_store_arr (RP16) rfl _ _ rfl (w.heap.size+2) (0) rfl ([.int .i64 0, .int .i64 0, .int .i64 0, .int .i64 0, .int .i64 0, .int .i64 0, .int .u32 0, .int .u32 0, .int .u32 0, .int .u64 0, .int .u64 0, .int .u64 0, .int .u64 0, .slice none 0 0, .slice none 0 0, .bool false]) rfl (32) _ (hQV) (rfl) (by simp) (oC) ?_;intro V2 hV2 hMV2)
   | fail)
  have hV:Blk V (w.heap.size+1) 54 [.slice none 0 0, .slice none 0 0, .slice none 0 0, .slice none 0 0, .int .i64 0, .int .i64 0]:=hV
  have hV3:=Blk.turn hMV2 hV (by omega)
  refine bodyPost_ret (results_arr2_tmp Tryz.results29 RJ6 RP16 _ _ (w.heap.size+1) 0 [.slice none 0 0, .slice none 0 0, .slice none 0 0, .slice none 0 0, .int .i64 0, .int .i64 0] rfl hV3.rd rfl (w.heap.size+2) 0 [.int .i64 0, .int .i64 0, .int .i64 0, .int .i64 0, .int .i64 0, .int .i64 0, .int .u32 0, .int .u32 0, .int .u32 0, .int .u64 0, .int .u64 0, .int .u64 0, .int .u64 0, .slice none 0 0, .slice none 0 0, .bool false] rfl hV2.rd rfl (.int .i64 (3)) rfl) rfl ?_
  rw [er.out]
  have hEV:Ext w V:=Below.trans hEz (hMV.below (by omega) hEz.size)
  exact AnsE.zero _ _ _ (Below.trans hEV (hMV2.below (by omega) hEV.size))
 by_cases q1:nu=32
 case neg =>
  have q1i:((nu:Int) != 32)=true:=by rw [bne_iff_ne];omega
  have er:=Lib.hid (show r=((zeroJ,zeroP),3) by rw [← hr.out];unfold ansJ;rw [if_neg (fun h=>by omega)])
  clear hr q hop hsm hfl hlu q1
  have hRz:=hR.extB (Ext.refl w0)
  have hQz:=hQ.extB (Ext.refl w0)
  have hEz:=hE.trans (Ext.refl w0)
  haveI:=hRz.blt
  haveI:=hQz.blt
  go_wp2_with (first
   | ((refine wpList_store_arr (RJ6) rfl _ _ rfl (w.heap.size+1) (0) rfl ([.slice none 0 0, .slice none 0 0, .slice none 0 0, .slice none 0 0, .int .i64 0, .int .i64 0]) rfl (54) _ (hRz) (rfl) (by simp) (oC) ?_;intro V hV hMV);have hQV:=Blk.turn hMV hQz (by omega);haveI:=hQV.blt)
   | (refine wpList_store_arr (RP16) rfl _ _ rfl (w.heap.size+2) (0) rfl ([.int .i64 0, .int .i64 0, .int .i64 0, .int .i64 0, .int .i64 0, .int .i64 0, .int .u32 0, .int .u32 0, .int .u32 0, .int .u64 0, .int .u64 0, .int .u64 0, .int .u64 0, .slice none 0 0, .slice none 0 0, .bool false]) rfl (32) _ (hQV) (rfl) (by simp) (oC) ?_;intro V2 hV2 hMV2)
   | fail)
  exact z39q9
 have q1i:((nu:Int) != 32)=false:=by rw [bne_eq_false_iff_eq];omega
 have hat:=Lib.hid (show r=ansAt j u (openP j.dn b) by rw [← hr.out];unfold ansJ;rw [if_pos ⟨q,by omega⟩])
 clear hr hlu q1
 generalize openP j.dn b=P at *
 have f1:w0.cell? ⟨w.heap.size,1,none⟩=some (.slice a2 n2 c2):=hB.cell? 1 rfl
 have f1':w0.cell? ⟨w.heap.size,0+1,none⟩=some (.slice a2 n2 c2):=hB.cell? 1 rfl
 go_wp2_with fail
 clear f1 f1'
 (with_reducible refine (hop _ (h2.ext hE) (hb.ext hE)).mono ?_)
 rintro e w1 ⟨p1,e1,k1,p2,e2,k2,rfl,hI1,g1,hI2,g2,hx1⟩
 have hE:=hE.trans hx1
 have hB:=hB.extB hx1
 have hR:=hR.extB hx1
 have hQ:=hQ.extB hx1
 have le1:=Lib.hid hI1.len
 have le2:=Lib.hid hI2.len
 have hltQ:=hQ.lt
 clear hx1 hop
 haveI:=hR.blt
 haveI:=hQ.blt
 by_cases qe:P.2=0
 case neg =>
  have er:=Lib.hid (show r=((zeroJ,zeroP),P.2) by rw [hat.out];unfold ansAt;rw [if_pos qe])
  have qei:(P.2 != 0)=true:=by rw [bne_iff_ne];exact qe
  clear hat qe
  generalize P.2=PV at *
  go_wp2_with (first
   | ((refine wpList_alloc_store (RP16) rfl rfl _ _ rfl rfl rfl rfl (by simp [Act.put]) ([.int .i64 P.1.h.leap, .int .i64 P.1.h.ver, .int .i64 P.1.h.mode, .int .i64 P.1.h.strat, .int .i64 P.1.h.poll, .int .i64 P.1.h.prec, .int .u32 (n32 P.1.h.rd), .int .u32 (n32 P.1.h.rp), .int .u32 (n32 P.1.h.id), .int .u64 (n64 P.1.h.ref), .int .u64 (n64 P.1.h.org), .int .u64 (n64 P.1.h.rcv), .int .u64 (n64 P.1.h.tx), .slice p1 e1 k1, .slice p2 e2 k2, .bool P.1.guarded]) rfl (by simp) (rfl) (oC) ?_;intro x hz _);have hRz:=hR.extB (show Ext w1 (w1.ext x) from Ext.of_ext _ _);have hQz:=hQ.extB (show Ext w1 (w1.ext x) from Ext.of_ext _ _);haveI:=hRz.blt;haveI:=hQz.blt;haveI:=hz.blt;have f2:=hz.cell? 2 rfl)
   | ((refine wpList_store_arr (RJ6) rfl _ _ rfl (w.heap.size+1) (0) rfl ([.slice none 0 0, .slice none 0 0, .slice none 0 0, .slice none 0 0, .int .i64 0, .int .i64 0]) rfl (54) _ (hRz) (rfl) (by simp) (oC) ?_;intro V hV hMV);have hQV:=Blk.turn hMV hQz (by omega);haveI:=hQV.blt)
   | (refine wpList_store_arr (RP16) rfl _ _ rfl (w.heap.size+2) (0) rfl ([.int .i64 0, .int .i64 0, .int .i64 0, .int .i64 0, .int .i64 0, .int .i64 0, .int .u32 0, .int .u32 0, .int .u32 0, .int .u64 0, .int .u64 0, .int .u64 0, .int .u64 0, .slice none 0 0, .slice none 0 0, .bool false]) rfl (32) _ (hQV) (rfl) (by simp) (oC) ?_;intro V2 hV2 hMV2)
   | fail)
  have hEz:=hE.trans (show Ext w1 (w1.ext x) from Ext.of_ext _ _)
  have hV:Blk V (w.heap.size+1) 54 [.slice none 0 0, .slice none 0 0, .slice none 0 0, .slice none 0 0, .int .i64 0, .int .i64 0]:=hV
  have hV3:=Blk.turn hMV2 hV (by omega)
  refine bodyPost_ret (results_arr2_tmp Tryz.results29 RJ6 RP16 _ _ (w.heap.size+1) 0 [.slice none 0 0, .slice none 0 0, .slice none 0 0, .slice none 0 0, .int .i64 0, .int .i64 0] rfl hV3.rd rfl (w.heap.size+2) 0 [.int .i64 0, .int .i64 0, .int .i64 0, .int .i64 0, .int .i64 0, .int .i64 0, .int .u32 0, .int .u32 0, .int .u32 0, .int .u64 0, .int .u64 0, .int .u64 0, .int .u64 0, .slice none 0 0, .slice none 0 0, .bool false] rfl hV2.rd rfl (.int .i64 (PV)) rfl) rfl ?_
  exact z39q51
 have qei:(P.2 != 0)=false:=by rw [bne_eq_false_iff_eq];exact qe
 by_cases qm:P.1.h.mode=4
 case neg =>
  have er:=Lib.hid (show r=((zeroJ,zeroP),3) by rw [hat.out];unfold ansAt;rw [if_neg (fun h=>h qe),if_pos qm])
  have qmi:(P.1.h.mode != 4)=true:=by rw [bne_iff_ne];exact qm
  clear hat qe qm
  go_wp2_with (first
   | ((refine wpList_alloc_store (RP16) rfl rfl _ _ rfl rfl rfl rfl (by simp [Act.put]) ([.int .i64 P.1.h.leap, .int .i64 P.1.h.ver, .int .i64 P.1.h.mode, .int .i64 P.1.h.strat, .int .i64 P.1.h.poll, .int .i64 P.1.h.prec, .int .u32 (n32 P.1.h.rd), .int .u32 (n32 P.1.h.rp), .int .u32 (n32 P.1.h.id), .int .u64 (n64 P.1.h.ref), .int .u64 (n64 P.1.h.org), .int .u64 (n64 P.1.h.rcv), .int .u64 (n64 P.1.h.tx), .slice p1 e1 k1, .slice p2 e2 k2, .bool P.1.guarded]) rfl (by simp) (rfl) (oC) ?_;intro x hz _);have hRz:=hR.extB (show Ext w1 (w1.ext x) from Ext.of_ext _ _);have hQz:=hQ.extB (show Ext w1 (w1.ext x) from Ext.of_ext _ _);haveI:=hRz.blt;haveI:=hQz.blt;haveI:=hz.blt;have f2:=hz.cell? 2 rfl)
   | ((refine wpList_store_arr (RJ6) rfl _ _ rfl (w.heap.size+1) (0) rfl ([.slice none 0 0, .slice none 0 0, .slice none 0 0, .slice none 0 0, .int .i64 0, .int .i64 0]) rfl (54) _ (hRz) (rfl) (by simp) (oC) ?_;intro V hV hMV);have hQV:=Blk.turn hMV hQz (by omega);haveI:=hQV.blt)
   | (refine wpList_store_arr (RP16) rfl _ _ rfl (w.heap.size+2) (0) rfl ([.int .i64 0, .int .i64 0, .int .i64 0, .int .i64 0, .int .i64 0, .int .i64 0, .int .u32 0, .int .u32 0, .int .u32 0, .int .u64 0, .int .u64 0, .int .u64 0, .int .u64 0, .slice none 0 0, .slice none 0 0, .bool false]) rfl (32) _ (hQV) (rfl) (by simp) (oC) ?_;intro V2 hV2 hMV2)
   | fail)
  have hEz:=hE.trans (show Ext w1 (w1.ext x) from Ext.of_ext _ _)
  exact z39q9
 have qmi:(P.1.h.mode != 4)=false:=by rw [bne_eq_false_iff_eq];exact qm
 have hat2:=Lib.hid (show r=if ¬ idOk P.1.plain u then ((zeroJ,zeroP),7) else if allC (cksF P.1.secret)=true then ((addJ j (cksF P.1.secret),P.1),0) else ((zeroJ,zeroP),3) by
  rw [hat.out];unfold ansAt;rw [if_neg (fun h=>h qe),if_neg (fun h=>h qm)])
 clear hat qe qm
 go_wp2_with (first
  | ((refine wpList_alloc_store (RP16) rfl rfl _ _ rfl rfl rfl rfl (by simp [Act.put]) ([.int .i64 P.1.h.leap, .int .i64 P.1.h.ver, .int .i64 P.1.h.mode, .int .i64 P.1.h.strat, .int .i64 P.1.h.poll, .int .i64 P.1.h.prec, .int .u32 (n32 P.1.h.rd), .int .u32 (n32 P.1.h.rp), .int .u32 (n32 P.1.h.id), .int .u64 (n64 P.1.h.ref), .int .u64 (n64 P.1.h.org), .int .u64 (n64 P.1.h.rcv), .int .u64 (n64 P.1.h.tx), .slice p1 e1 k1, .slice p2 e2 k2, .bool P.1.guarded]) rfl (by simp) (rfl) (oC) ?_;intro x hz _);haveI:=hz.blt;have f2:=hz.cell? 2 rfl;have f13:=hz.cell? 13 rfl)
  | fail)
 have hxx:Ext w1 (w1.ext x):=Ext.of_ext _ _
 obtain ⟨gP,hgP⟩:∃ g,g=w1.heap.size:=⟨_,rfl⟩
 rw [← hgP] at hz hltQ ⊢
 have hE:=hE.trans hxx
 have hB:=hB.extB hxx
 have hR:=hR.extB hxx
 have hQ:=hQ.extB hxx
 have hI1:=hI1.ext hxx
 have hI2:=hI2.ext hxx
 clear f2 f13 hxx hgP
 generalize w1.ext x=w2 at *
 (with_reducible refine (xfind_any 260 p1 e1 k1 P.1.plain _ hI1 (by have:=le1.out;omega)).mono ?_)
 rintro e w3 ⟨bx,dx,rfl,hOx,hx3⟩
 have hE:=hE.trans hx3
 have hB:=hB.extB hx3
 have hR:=hR.extB hx3
 have hQ:=hQ.extB hx3
 have hz:=hz.extB hx3
 have hI1:=hI1.ext hx3
 have hI2:=hI2.ext hx3
 have hu:=hu.ext hE
 clear hx3
 haveI:=hz.blt
 haveI:=hB.blt
 have f13:w3.cell? ⟨gP,13,none⟩=some (.slice p1 e1 k1):=hz.cell? 13 rfl
 cases hix:ixs 260 P.1.plain P.1.plain.length with
 | nil =>
  have er:=Lib.hid (show r=((zeroJ,zeroP),7) by rw [hat2.out,if_pos (fun h=>by obtain ⟨i,h1,_⟩:=h;rw [hix] at h1;cases h1)])
  clear hix hat2 hOx
  go_wp2_with fail
  refine wp_region_vague 16 [[],[0],[0,1],[0,1,2],[0,1,2,3],[0,1,2,3,4],[0,1,2,3],[0,1,2,3,6],[0,1,2,3,6,7],[0,1,2,3,4,5,6,7,8],[0,1,2,3,4,5,6,7,8,9],[0,1,2,3,4,5,6,7,8,9,10],[0,1,2,3],[0,1,2,3,4,5,6,7,8,9,10,11,12],[0,1,2,3,4,5,6,7,8,9,10,11,12,13],[0,1,2,3,4,5,6,7,8,9,10,11,12,13,14]] (by kernel_rfl) (by kernel_rfl) (by kernel_rfl) (by kernel_rfl) ?_;simp only [q8q,q9q,q10q,q11q,q12q,q13q]
  (repeat (refine VD_a ?_;(try simp only [Act.put,q0q,q1q,q2q])))
  (repeat (refine VD_skip (fun us=>rfl) ?_;(try simp only [Act.put,q0q,q1q,q2q])))
  (repeat (refine VD_a ?_;(try simp only [Act.put,q0q,q1q,q2q])))
  (refine VD_z ?_;intro us x hx hf;(try simp only [Act.put,q0q,q1q,q2q,wpList_none]);(try simp only [q3q,q4q,or_false,forall_eq_or_imp,forall_eq,q5q,q6q,q7q,false_or,true_and,and_true] at hf);(try simp only [Nat.reduceAdd,Nat.zero_add] at hf ⊢))
  clear f13
  have hRz:=hR.extB (Ext.of_ext w3 x)
  have hQz:=hQ.extB (Ext.of_ext w3 x)
  have hEz:=hE.trans (Ext.of_ext w3 x)
  haveI:=hRz.blt
  haveI:=hQz.blt
  go_wp2_with (first
   | ((refine wpList_store_arr (RJ6) rfl _ _ rfl (w.heap.size+1) (0) rfl ([.slice none 0 0, .slice none 0 0, .slice none 0 0, .slice none 0 0, .int .i64 0, .int .i64 0]) rfl (54) _ (hRz) (rfl) (by simp) (oC) ?_;intro V hV hMV);have hQV:=Blk.turn hMV hQz (by omega);haveI:=hQV.blt)
   | (refine wpList_store_arr (RP16) rfl _ _ rfl (w.heap.size+2) (0) rfl ([.int .i64 0, .int .i64 0, .int .i64 0, .int .i64 0, .int .i64 0, .int .i64 0, .int .u32 0, .int .u32 0, .int .u32 0, .int .u64 0, .int .u64 0, .int .u64 0, .int .u64 0, .slice none 0 0, .slice none 0 0, .bool false]) rfl (32) _ (hQV) (rfl) (by simp) (oC) ?_;intro V2 hV2 hMV2)
   | fail)
  have hV:Blk V (w.heap.size+1) 54 [.slice none 0 0, .slice none 0 0, .slice none 0 0, .slice none 0 0, .int .i64 0, .int .i64 0]:=hV
  have hV3:=Blk.turn hMV2 hV (by omega)
  refine bodyPost_ret (results_arr2_tmp Tryz.results29 RJ6 RP16 _ _ (w.heap.size+1) 0 [.slice none 0 0, .slice none 0 0, .slice none 0 0, .slice none 0 0, .int .i64 0, .int .i64 0] rfl hV3.rd rfl (w.heap.size+2) 0 [.int .i64 0, .int .i64 0, .int .i64 0, .int .i64 0, .int .i64 0, .int .i64 0, .int .u32 0, .int .u32 0, .int .u32 0, .int .u64 0, .int .u64 0, .int .u64 0, .int .u64 0, .slice none 0 0, .slice none 0 0, .bool false] rfl hV2.rd rfl (.int .i64 (7)) rfl) rfl ?_
  rw [er.out]
  have hEV:Ext w V:=Below.trans hEz (hMV.below (by omega) hEz.size)
  exact AnsE.zero _ _ _ (Below.trans hEV (hMV2.below (by omega) hEV.size))
 | cons i rest =>
  cases rest with
  | cons i2 rest2 =>
   have er:=Lib.hid (show r=((zeroJ,zeroP),7) by rw [hat2.out,if_pos (fun h=>by obtain ⟨i,h1,_⟩:=h;rw [hix] at h1;injection h1 with _ h1;cases h1)])
   obtain ⟨M,hM⟩:∃ M,(i :: i2 :: rest2).length=M:=⟨_,rfl⟩
   have hM1:((M:Int) != 1)=true:=by rw [bne_iff_ne];have:2≤M:=by rw [← hM];simp
                                    omega
   rw [hM]
   clear hix hat2 hOx hM
   go_wp2_with fail
   refine wp_region_vague 16 [[],[0],[0,1],[0,1,2],[0,1,2,3],[0,1,2,3,4],[0,1,2,3],[0,1,2,3,6],[0,1,2,3,6,7],[0,1,2,3,4,5,6,7,8],[0,1,2,3,4,5,6,7,8,9],[0,1,2,3,4,5,6,7,8,9,10],[0,1,2,3],[0,1,2,3,4,5,6,7,8,9,10,11,12],[0,1,2,3,4,5,6,7,8,9,10,11,12,13],[0,1,2,3,4,5,6,7,8,9,10,11,12,13,14]] (by kernel_rfl) (by kernel_rfl) (by kernel_rfl) (by kernel_rfl) ?_;simp only [q8q,q9q,q10q,q11q,q12q,q13q]
   (repeat (refine VD_a ?_;(try simp only [Act.put,q0q,q1q,q2q])))
   (repeat (refine VD_skip (fun us=>rfl) ?_;(try simp only [Act.put,q0q,q1q,q2q])))
   (repeat (refine VD_a ?_;(try simp only [Act.put,q0q,q1q,q2q])))
   (refine VD_z ?_;intro us x hx hf;(try simp only [Act.put,q0q,q1q,q2q,wpList_none]);(try simp only [q3q,q4q,or_false,forall_eq_or_imp,forall_eq,q5q,q6q,q7q,false_or,true_and,and_true] at hf);(try simp only [Nat.reduceAdd,Nat.zero_add] at hf ⊢))
   clear f13
   have hRz:=hR.extB (Ext.of_ext w3 x)
   have hQz:=hQ.extB (Ext.of_ext w3 x)
   have hEz:=hE.trans (Ext.of_ext w3 x)
   haveI:=hRz.blt
   haveI:=hQz.blt
   go_wp2_with (first
    | ((refine wpList_store_arr (RJ6) rfl _ _ rfl (w.heap.size+1) (0) rfl ([.slice none 0 0, .slice none 0 0, .slice none 0 0, .slice none 0 0, .int .i64 0, .int .i64 0]) rfl (54) _ (hRz) (rfl) (by simp) (oC) ?_;intro V hV hMV);have hQV:=Blk.turn hMV hQz (by omega);haveI:=hQV.blt)
    | (refine wpList_store_arr (RP16) rfl _ _ rfl (w.heap.size+2) (0) rfl ([.int .i64 0, .int .i64 0, .int .i64 0, .int .i64 0, .int .i64 0, .int .i64 0, .int .u32 0, .int .u32 0, .int .u32 0, .int .u64 0, .int .u64 0, .int .u64 0, .int .u64 0, .slice none 0 0, .slice none 0 0, .bool false]) rfl (32) _ (hQV) (rfl) (by simp) (oC) ?_;intro V2 hV2 hMV2)
    | fail)
   have hV:Blk V (w.heap.size+1) 54 [.slice none 0 0, .slice none 0 0, .slice none 0 0, .slice none 0 0, .int .i64 0, .int .i64 0]:=hV
   have hV3:=Blk.turn hMV2 hV (by omega)
   refine bodyPost_ret (results_arr2_tmp Tryz.results29 RJ6 RP16 _ _ (w.heap.size+1) 0 [.slice none 0 0, .slice none 0 0, .slice none 0 0, .slice none 0 0, .int .i64 0, .int .i64 0] rfl hV3.rd rfl (w.heap.size+2) 0 [.int .i64 0, .int .i64 0, .int .i64 0, .int .i64 0, .int .i64 0, .int .i64 0, .int .u32 0, .int .u32 0, .int .u32 0, .int .u64 0, .int .u64 0, .int .u64 0, .int .u64 0, .slice none 0 0, .slice none 0 0, .bool false] rfl hV2.rd rfl (.int .i64 (7)) rfl) rfl ?_
   rw [er.out]
   have hEV:Ext w V:=Below.trans hEz (hMV.below (by omega) hEz.size)
   exact AnsE.zero _ _ _ (Below.trans hEV (hMV2.below (by omega) hEV.size))
  | nil =>
   have hi:i<P.1.plain.length:=ixs_lt (k:=260) (L:=P.1.plain) (by rw [hix];exact List.mem_singleton_self _)
   obtain ⟨y,hy⟩:∃ y,P.1.plain[i]?=some y:=⟨_,List.getElem?_eq_getElem hi⟩
   have hyd:P.1.plain.getD i (0,[])=y:=by rw [List.getD_eq_getElem?_getD,hy];rfl
   rw [hix] at hOx
   have hOx1:OwnZ w3 _ bx 1 dx [i]:=hOx
   obtain ⟨xb,xo,rfl,hxb,hxc⟩:=(Rd.of_own hOx1.2).at 0 (by simp)
   have hxc:w3.cell? ⟨xb,xo,none⟩=some (.int .i64 (i:Int)):=hxc
   haveI:=hxb
   obtain ⟨gA,oA,g',c',rfl,hb0,hc0,hc1,hSk,hcy⟩:=hI1.at i (by have:=le1.out;omega) _ hy
   haveI:=hb0
   have hi0:(0:Int)≤(i:Int):=by omega
   have hi1:(i:Int)<(e1:Int):=by have:=le1.out;omega
   have hsa:=fun W H1 H2=>osame_any g' au y.2.length c' nu cu y.2 u W H1 H2
   have hidy:idOk P.1.plain u ↔ y.2=u:=⟨fun ⟨k,h1,h2⟩=>by rw [hix] at h1;injection h1 with h1;subst h1;rw [← h2,hyd],fun h=>⟨i,hix,by rw [hyd];exact h⟩⟩
   replace hidy:=Lib.hid hidy
   clear hix hOx hOx1 hyd
   cases hq:(y.2 == u)
   ·have er:=Lib.hid (show r=((zeroJ,zeroP),7) by rw [hat2.out,if_pos (fun h=>by rw [hidy.out.1 h] at hq;simp at hq)])
    rw [hq] at hsa
    clear hq hat2 hidy
    go_wp2_with fail
    refine wp_region_vague 16 [[],[0],[0,1],[0,1,2],[0,1,2,3],[0,1,2,3,4],[0,1,2,3],[0,1,2,3,6],[0,1,2,3,6,7],[0,1,2,3,4,5,6,7,8],[0,1,2,3,4,5,6,7,8,9],[0,1,2,3,4,5,6,7,8,9,10],[0,1,2,3],[0,1,2,3,4,5,6,7,8,9,10,11,12],[0,1,2,3,4,5,6,7,8,9,10,11,12,13],[0,1,2,3,4,5,6,7,8,9,10,11,12,13,14]] (by kernel_rfl) (by kernel_rfl) (by kernel_rfl) (by kernel_rfl) ?_;simp only [q8q,q9q,q10q,q11q,q12q,q13q]
    (repeat (refine VD_a ?_;(try simp only [Act.put,q0q,q1q,q2q])))
    (refine VD_vag (fun _ => .bool false) (fun _ _=>True) (fun _ _ _ _ _=>trivial) (fun us w' hx hf=>⟨rfl,?_⟩) ?_;(unfold gives;simp [go_sem,execOp];refine (hsa _ (hSk.ext hx) (hu.ext hx)).mono ?_;rintro e w1 ⟨rfl,hx1⟩;first|exact ⟨rfl,hx1⟩|simpa using hx1))
    (repeat (refine VD_a ?_;(try simp only [Act.put,q0q,q1q,q2q])))
    (refine VD_z ?_;intro us x hx hf;(try simp only [Act.put,q0q,q1q,q2q,wpList_none]);(try simp only [q3q,q4q,or_false,forall_eq_or_imp,forall_eq,q5q,q6q,q7q,false_or,true_and,and_true] at hf);(try simp only [Nat.reduceAdd,Nat.zero_add] at hf ⊢))
    clear f13 hxc hc0 hc1
    have hRz:=hR.extB (Ext.of_ext w3 x)
    have hQz:=hQ.extB (Ext.of_ext w3 x)
    have hEz:=hE.trans (Ext.of_ext w3 x)
    haveI:=hRz.blt
    haveI:=hQz.blt
    go_wp2_with (first
     | ((refine wpList_store_arr (RJ6) rfl _ _ rfl (w.heap.size+1) (0) rfl ([.slice none 0 0, .slice none 0 0, .slice none 0 0, .slice none 0 0, .int .i64 0, .int .i64 0]) rfl (54) _ (hRz) (rfl) (by simp) (oC) ?_;intro V hV hMV);have hQV:=Blk.turn hMV hQz (by omega);haveI:=hQV.blt)
     | (refine wpList_store_arr (RP16) rfl _ _ rfl (w.heap.size+2) (0) rfl ([.int .i64 0, .int .i64 0, .int .i64 0, .int .i64 0, .int .i64 0, .int .i64 0, .int .u32 0, .int .u32 0, .int .u32 0, .int .u64 0, .int .u64 0, .int .u64 0, .int .u64 0, .slice none 0 0, .slice none 0 0, .bool false]) rfl (32) _ (hQV) (rfl) (by simp) (oC) ?_;intro V2 hV2 hMV2)
     | fail)
    have hV:Blk V (w.heap.size+1) 54 [.slice none 0 0, .slice none 0 0, .slice none 0 0, .slice none 0 0, .int .i64 0, .int .i64 0]:=hV
    have hV3:=Blk.turn hMV2 hV (by omega)
    refine bodyPost_ret (results_arr2_tmp Tryz.results29 RJ6 RP16 _ _ (w.heap.size+1) 0 [.slice none 0 0, .slice none 0 0, .slice none 0 0, .slice none 0 0, .int .i64 0, .int .i64 0] rfl hV3.rd rfl (w.heap.size+2) 0 [.int .i64 0, .int .i64 0, .int .i64 0, .int .i64 0, .int .i64 0, .int .i64 0, .int .u32 0, .int .u32 0, .int .u32 0, .int .u64 0, .int .u64 0, .int .u64 0, .int .u64 0, .slice none 0 0, .slice none 0 0, .bool false] rfl hV2.rd rfl (.int .i64 (7)) rfl) rfl ?_
    rw [er.out]
    have hEV:Ext w V:=Below.trans hEz (hMV.below (by omega) hEz.size)
    exact AnsE.zero _ _ _ (Below.trans hEV (hMV2.below (by omega) hEV.size))
   ·have hat3:=Lib.hid (show r=if allC (cksF P.1.secret)=true then ((addJ j (cksF P.1.secret),P.1),0) else ((zeroJ,zeroP),3) by rw [hat2.out,if_neg (fun h=>h (hidy.out.2 (beq_iff_eq.1 hq)))])
    rw [hq] at hsa
    clear hq hat2 hidy
    go_wp2_with fail
    refine wp_region_vague 16 [[],[0],[0,1],[0,1,2],[0,1,2,3],[0,1,2,3,4],[0,1,2,3],[0,1,2,3,6],[0,1,2,3,6,7],[0,1,2,3,4,5,6,7,8],[0,1,2,3,4,5,6,7,8,9],[0,1,2,3,4,5,6,7,8,9,10],[0,1,2,3],[0,1,2,3,4,5,6,7,8,9,10,11,12],[0,1,2,3,4,5,6,7,8,9,10,11,12,13],[0,1,2,3,4,5,6,7,8,9,10,11,12,13,14]] (by kernel_rfl) (by kernel_rfl) (by kernel_rfl) (by kernel_rfl) ?_;simp only [q8q,q9q,q10q,q11q,q12q,q13q]
    (repeat (refine VD_a ?_;(try simp only [Act.put,q0q,q1q,q2q])))
    (refine VD_vag (fun _ => .bool true) (fun _ _=>True) (fun _ _ _ _ _=>trivial) (fun us w' hx hf=>⟨rfl,?_⟩) ?_;(unfold gives;simp [go_sem,execOp];refine (hsa _ (hSk.ext hx) (hu.ext hx)).mono ?_;rintro e w1 ⟨rfl,hx1⟩;first|exact ⟨rfl,hx1⟩|simpa using hx1))
    (repeat (refine VD_a ?_;(try simp only [Act.put,q0q,q1q,q2q])))
    (refine VD_z ?_;intro us x hx hf;(try simp only [Act.put,q0q,q1q,q2q,wpList_none]);(try simp only [q3q,q4q,or_false,forall_eq_or_imp,forall_eq,q5q,q6q,q7q,false_or,true_and,and_true] at hf);(try simp only [Nat.reduceAdd,Nat.zero_add] at hf ⊢))
    have hxx:Ext w3 (w3.ext x):=Ext.of_ext _ _
    have hE:=hE.trans hxx
    have hB:=hB.extB hxx
    have hR:=hR.extB hxx
    have hQ:=hQ.extB hxx
    have hz:=hz.extB hxx
    have hI1:=hI1.ext hxx
    have hI2:=hI2.ext hxx
    clear f13 hxc hc0 hc1 hsa hSk hu hxx hxb hb0 hi0 hi1 hy
    generalize w3.ext x=W2 at *
    haveI:=hz.blt
    have f14:W2.cell? ⟨gP,14,none⟩=some (.slice p2 e2 k2):=hz.cell? 14 rfl
    have hwW:=hE.size
    obtain ⟨B,hBe⟩:∃ B,B=W2.heap.size:=⟨_,rfl⟩
    go_wp2_with fail
    have he24:e2≤24:=by rw [← le2.out];exact hsm.2
    apply wp_label
    go_wp2_with fail
    clear f14
    go_loopw [12,14,70,74,78] (fun v12 _ v70 _ _ wr=>∃ (k:Nat) (sa:Option Addr)(sc:Nat),k≤e2∧v70 = .int .i64 k∧v12 = .slice sa (cksF (P.1.secret.take k)).length sc∧Hid (∀ x∈cksF (P.1.secret.take k),x.length=104)∧OwnB wr B sa (cksF (P.1.secret.take k)).length sc (cksF (P.1.secret.take k))∧Ext W2 wr) (fun _ _ v70 _ _ _=>e2-(intOf v70).toNat)
    case atStart=>exact ⟨0,none,0,by omega,rfl,rfl,Lib.hid (by simp [cksF]),OwnB.nil _ _,Ext.refl _⟩
    case round =>
     obtain ⟨k,sa,sc,hk,rfl,rfl,hm,hO,hX⟩:=hrel
     have hBs:B≤wr.heap.size:=by rw [hBe];exact hX.size
     by_cases hlt:k<e2
     ·obtain ⟨y,hy⟩:∃ y,P.1.secret[k]?=some y:=⟨_,List.getElem?_eq_getElem (by have:=le2.out;omega)⟩
      obtain ⟨g0,o0,g',c',rfl,hb0,hc0,hc1,hSk,hcy⟩:=hI2.at k hlt _ hy
      have hinB:InB wr B g' y.2.length:=by rw [hBe];exact hSk.inB wr
      have hc0:=(hX.cell (p:=⟨g0,_,none⟩) hb0.lt).trans hc0
      have hc1:=(hX.cell (p:=⟨g0,_,none⟩) hb0.lt).trans hc1
      have hSk:=hSk.ext hX
      have hb0:BlkLt g0 wr:=⟨Nat.lt_of_lt_of_le hb0.lt hX.size⟩
      have hrd:=rd2 hb0.lt hc0 hc1
      have k0:(0:Int)≤(k:Int):=by omega
      have k1:(k:Int)<(e2:Int):=by omega
      have hyb:=hfl.2 y (List.mem_of_getElem? hy)
      haveI:=hb0
      by_cases ht:y.1=516
      ·have hti:(y.1 != 516)=false:=by rw [bne_eq_false_iff_eq];exact ht
       have hs:=Lib.hid (cksF_yes hy ht)
       have hmem:=Lib.hid (cksF_mem (List.mem_of_getElem? hy) ht)
       have hjc:=fun W H=>jcookie_any g' y.2.length c' y.2 W H
       clear ht
       by_cases h104:y.2.length=104
       ·rw [decide_eq_true h104] at hjc
        have hm2:=Lib.hid (show ∀ x∈cksF (P.1.secret.take (k+1)),x.length=104 by
         rw [hs.out]
         intro x hx
         rcases List.mem_append.1 hx with h|h
         ·exact hm.out x h
         ·rw [List.mem_singleton.1 h];exact h104)
        replace h104:=Lib.hid h104
        go_wp2_with (first
         | (refine wpList_load_arr (RF2) rfl _ rfl (g0) (o0+k*2) rfl ([.int .i64 y.1, .slice g' y.2.length c']) (hrd) (rfl) ?_)
         | ((refine wpList_alloc_store (RF2) rfl rfl _ _ rfl rfl rfl rfl (by simp [Act.put]) ([.int .i64 y.1, .slice g' y.2.length c']) rfl (by simp) (rfl) (oC) ?_;intro x3 hz3 _);haveI:=hz3.blt;have t0:=hz3.cell? 0 rfl;have t1:=hz3.cell? 1 rfl)
         | fail)
        have hx3:Ext wr (wr.ext x3):=Ext.of_ext _ _
        (with_reducible refine (hjc _ (hSk.ext hx3)).mono ?_)
        rintro e w5 ⟨rfl,hx5⟩
        have hx35:=hx3.trans hx5
        have hz3:=hz3.extB hx5
        clear t0 t1
        haveI:=hz3.blt
        have t1:w5.cell? ⟨wr.heap.size,1,none⟩=some (.slice g' y.2.length c'):=hz3.cell? 1 rfl
        have hO5:=(hO.ext hx35).ext (Ext.of_alloc w5 (.cells #[.slice g' y.2.length c'] 33))
        have hS5:=(hSk.ext hx35).ext (Ext.of_alloc w5 (.cells #[.slice g' y.2.length c'] 33))
        have hi5:=(hinB.ext hx35).ext (Ext.of_alloc w5 (.cells #[.slice g' y.2.length c'] 33))
        have hB5:=Nat.le_trans (Nat.le_trans hBs hx35.size) (Ext.of_alloc w5 (.cells #[.slice g' y.2.length c'] 33)).size
        have hcl:=cksF_len (P.1.secret.take k)
        have hcl2:(P.1.secret.take k).length≤24:=by rw [List.length_take];omega
        go_wp2_with (first
         | (at_builtin;refine wpList_append_one V8 rfl _ _ rfl B sa (cksF (P.1.secret.take k)).length sc _ rfl w5.heap.size rfl hO5 g' y.2.length c' y.2 (Blk.new w5 #[.slice g' y.2.length c'] 33).rd hS5 hcy hi5 (by omega) hB5 ?_;intro sa' sc' w6 hO6 hg6 hb6)
         | fail)
        go_roundw
        case rel=>exact ⟨k+1,sa',sc',by omega,by go_num,by rw [hs.out,List.length_append];rfl,hm2,by rw [hs.out,List.length_append];exact hO6,Below.trans ((hX.trans hx35).alloc _) (hb6.mono (Nat.le_of_eq hBe.symm))⟩
        case measure=>simp [intOf];omega
       ·rw [decide_eq_false h104] at hjc
        have er:=Lib.hid (show r=((zeroJ,zeroP),3) by rw [hat3.out,allC_bad hmem.out h104];rfl)
        clear hat3 h104
        go_wp2_with (first
         | (refine wpList_load_arr (RF2) rfl _ rfl (g0) (o0+k*2) rfl ([.int .i64 y.1, .slice g' y.2.length c']) (hrd) (rfl) ?_)
         | ((refine wpList_alloc_store (RF2) rfl rfl _ _ rfl rfl rfl rfl (by simp [Act.put]) ([.int .i64 y.1, .slice g' y.2.length c']) rfl (by simp) (rfl) (oC) ?_;intro x3 hz3 _);haveI:=hz3.blt;have t0:=hz3.cell? 0 rfl;have t1:=hz3.cell? 1 rfl)
         | fail)
        have hx3:Ext wr (wr.ext x3):=Ext.of_ext _ _
        (with_reducible refine (hjc _ (hSk.ext hx3)).mono ?_)
        rintro e w5 ⟨rfl,hx5⟩
        have hx35:=(hX.trans hx3).trans hx5
        clear t0 t1 hz3
        have hRz:=hR.extB hx35
        have hQz:=hQ.extB hx35
        have hEz:=hE.trans hx35
        haveI:=hRz.blt
        haveI:=hQz.blt
        go_wp2_with (first
         | ((refine wpList_store_arr (RJ6) rfl _ _ rfl (w.heap.size+1) (0) rfl ([.slice none 0 0, .slice none 0 0, .slice none 0 0, .slice none 0 0, .int .i64 0, .int .i64 0]) rfl (54) _ (hRz) (rfl) (by simp) (oC) ?_;intro V hV hMV);have hQV:=Blk.turn hMV hQz (by omega);haveI:=hQV.blt)
         | (refine wpList_store_arr (RP16) rfl _ _ rfl (w.heap.size+2) (0) rfl ([.int .i64 0, .int .i64 0, .int .i64 0, .int .i64 0, .int .i64 0, .int .i64 0, .int .u32 0, .int .u32 0, .int .u32 0, .int .u64 0, .int .u64 0, .int .u64 0, .int .u64 0, .slice none 0 0, .slice none 0 0, .bool false]) rfl (32) _ (hQV) (rfl) (by simp) (oC) ?_;intro V2 hV2 hMV2)
         | fail)
        have hV:Blk V (w.heap.size+1) 54 [.slice none 0 0, .slice none 0 0, .slice none 0 0, .slice none 0 0, .int .i64 0, .int .i64 0]:=hV
        have hV3:=Blk.turn hMV2 hV (by omega)
        refine bodyPost_ret (results_arr2_tmp Tryz.results29 RJ6 RP16 _ _ (w.heap.size+1) 0 [.slice none 0 0, .slice none 0 0, .slice none 0 0, .slice none 0 0, .int .i64 0, .int .i64 0] rfl hV3.rd rfl (w.heap.size+2) 0 [.int .i64 0, .int .i64 0, .int .i64 0, .int .i64 0, .int .i64 0, .int .i64 0, .int .u32 0, .int .u32 0, .int .u32 0, .int .u64 0, .int .u64 0, .int .u64 0, .int .u64 0, .slice none 0 0, .slice none 0 0, .bool false] rfl hV2.rd rfl (.int .i64 (3)) rfl) rfl ?_
        rw [er.out]
        have hEV:Ext w V:=Below.trans hEz (hMV.below (by omega) hEz.size)
        exact AnsE.zero _ _ _ (Below.trans hEV (hMV2.below (by omega) hEV.size))
      ·have hti:(y.1 != 516)=true:=by rw [bne_iff_ne];exact ht
       have hs:=Lib.hid (cksF_no hy ht)
       clear ht
       go_wp2_with (first
        | (refine wpList_load_arr (RF2) rfl _ rfl (g0) (o0+k*2) rfl ([.int .i64 y.1, .slice g' y.2.length c']) (hrd) (rfl) ?_)
        | ((refine wpList_alloc_store (RF2) rfl rfl _ _ rfl rfl rfl rfl (by simp [Act.put]) ([.int .i64 y.1, .slice g' y.2.length c']) rfl (by simp) (rfl) (oC) ?_;intro x3 hz3 _);haveI:=hz3.blt;have t0:=hz3.cell? 0 rfl;have t1:=hz3.cell? 1 rfl)
        | fail)
       have hx3:Ext wr (wr.ext x3):=Ext.of_ext _ _
       go_roundw
       case rel=>exact ⟨k+1,sa,sc,by omega,by go_num,by rw [hs.out],by rw [hs.out];exact hm,by rw [hs.out];exact hO.ext hx3,hX.trans hx3⟩
       case measure=>simp [intOf];omega
     ·have hke:k=e2:=by omega
      subst hke
      have kn:¬ (k:Int)<(k:Int):=by omega
      rw [List.take_of_length_le (by have:=le2.out;omega)] at hm hO ⊢
      have hLc:=cksF_len P.1.secret
      have er:=Lib.hid (show r=((addJ j (cksF P.1.secret),P.1),0) by rw [hat3.out,if_pos (by unfold allC;rw [List.all_eq_true];exact fun x hx=>by simpa using hm.out x hx)])
      have hLb:∀ x∈cksF P.1.secret,x.length≤1000000:=fun x hx=>by rw [hm.out x hx];omega
      generalize cksF P.1.secret=L at *
      have hE:=hE.trans hX
      have hB:=hB.extB hX
      have hR:=hR.extB hX
      have hQ:=hQ.extB hX
      have hz:=hz.extB hX
      have hI1:=hI1.ext hX
      have hI2:=hI2.ext hX
      have had:=fun W H1 H2 H3 H4 H5=>jadded_any a1 a2 a3 a4 sa n1 c1 n2 c2 n3 c3 n4 c4 L.length sc j L W H1 m1 H2 m2 H3 hn3 hb3 H4 m4 H5 (by omega) hLb
      clear hX hat3 hm
      go_wp2_with fail
      have hSE:∀ w',Ext (wr) w'→(fun w'=>Blk w' w.heap.size 54 [.slice a1 n1 c1, .slice a2 n2 c2, .slice a3 n3 c3, .slice a4 n4 c4, .int .i64 j.net, .int .i64 j.sent]∧Blk w' gP 32 [.int .i64 P.1.h.leap, .int .i64 P.1.h.ver, .int .i64 P.1.h.mode, .int .i64 P.1.h.strat, .int .i64 P.1.h.poll, .int .i64 P.1.h.prec, .int .u32 (n32 P.1.h.rd), .int .u32 (n32 P.1.h.rp), .int .u32 (n32 P.1.h.id), .int .u64 (n64 P.1.h.ref), .int .u64 (n64 P.1.h.org), .int .u64 (n64 P.1.h.rcv), .int .u64 (n64 P.1.h.tx), .slice (some ⟨gA,oA,none⟩) e1 k1, .slice p2 k k2, .bool P.1.guarded]) w':=(fun w' h=>⟨hB.extB h,hz.extB h⟩);have hExt0:Ext (wr) (wr).drew:=Ext.drew (Ext.refl _);refine wp_region_held_drew (S:=fun w'=>Blk w' w.heap.size 54 [.slice a1 n1 c1, .slice a2 n2 c2, .slice a3 n3 c3, .slice a4 n4 c4, .int .i64 j.net, .int .i64 j.sent]∧Blk w' gP 32 [.int .i64 P.1.h.leap, .int .i64 P.1.h.ver, .int .i64 P.1.h.mode, .int .i64 P.1.h.strat, .int .i64 P.1.h.poll, .int .i64 P.1.h.prec, .int .u32 (n32 P.1.h.rd), .int .u32 (n32 P.1.h.rp), .int .u32 (n32 P.1.h.id), .int .u64 (n64 P.1.h.ref), .int .u64 (n64 P.1.h.org), .int .u64 (n64 P.1.h.rcv), .int .u64 (n64 P.1.h.tx), .slice (some ⟨gA,oA,none⟩) e1 k1, .slice p2 k k2, .bool P.1.guarded]) (by kernel_rfl) (hSE _ hExt0) (fun hHeld=>?_)
      refine wpAnyH_take (i:=0) rfl (by kernel_rfl) (by kernel_rfl) (by kernel_rfl) (fun _ _ _ h=>h) (R5.take_load (RJ6) _ rfl rfl (w.heap.size) (0) rfl ([.slice a1 n1 c1, .slice a2 n2 c2, .slice a3 n3 c3, .slice a4 n4 c4, .int .i64 j.net, .int .i64 j.sent]) ((fun w' h=>h.1.rd)) (rfl)) hHeld ?_;(try simp only [q14q,q15q,q16q,Act.put,q0q,q1q,q2q])
      refine wpAnyH_take (i:=1) (v:=?v159) rfl (by kernel_rfl) (by kernel_rfl) (by kernel_rfl) (fun _ _ _ h=>h) (Or.inl ⟨by rfl,?hy159⟩) hHeld ?_;(case hy159=>(intro w' hx;simp [go_sem,execOp, *];(try simp (disch:=omega) only [q17q,q18q,q19q]);rfl));(try simp only [q14q,q15q,q16q,Act.put,q0q,q1q,q2q])
      refine wpAnyH_take (i:=3) rfl (by kernel_rfl) (by kernel_rfl) (by kernel_rfl) (fun _ _ _ h=>h) (R5.take_load (RP16) _ rfl rfl (gP) (0) rfl ([.int .i64 P.1.h.leap, .int .i64 P.1.h.ver, .int .i64 P.1.h.mode, .int .i64 P.1.h.strat, .int .i64 P.1.h.poll, .int .i64 P.1.h.prec, .int .u32 (n32 P.1.h.rd), .int .u32 (n32 P.1.h.rp), .int .u32 (n32 P.1.h.id), .int .u64 (n64 P.1.h.ref), .int .u64 (n64 P.1.h.org), .int .u64 (n64 P.1.h.rcv), .int .u64 (n64 P.1.h.tx), .slice (some ⟨gA,oA,none⟩) e1 k1, .slice p2 k k2, .bool P.1.guarded]) ((fun w' h=>h.2.rd)) (rfl)) hHeld ?_;(try simp only [q14q,q15q,q16q,Act.put,q0q,q1q,q2q])
      (refine R5.any_only 2 (by kernel_rfl) rfl rfl ?_;unfold gives;simp [go_sem,execOp])
      have hE:=hE.trans hExt0
      refine (had _ (h1.ext hE) (h2.ext hE) (h3.ext hE) (h4.ext hE) (hO.bsc.ext hExt0)).mono ?_
      rintro e w7 ⟨b1,d1,b2,d2,b3,d3,b4,d4,rfl,o1,o2,⟨B7,hB7,hBs7,o3⟩,o4,hx7⟩
      have hx07:=hExt0.trans hx7
      refine ⟨_,rfl,⟨hB.extB hx07,hz.extB hx07⟩,?_⟩
      (try simp only [q14q,q15q,q16q,Act.put,q0q,q1q,q2q])
      have hE:=hE.trans hx7
      have hR7:=hR.extB hx07
      have hQ7:=hQ.extB hx07
      have hB7b:=hB.extB hx07
      have hz7:=hz.extB hx07
      have hlg:=hz.lt
      (refine R5.only_store RJ6 4 (by kernel_rfl) rfl rfl _ _ rfl (w.heap.size+1) 0 rfl [.slice b1 n1 d1, .slice b2 n2 d2, .slice b3 (addJ j L).ck.length d3, .slice b4 n4 d4, .int .i64 (addJ j L).net, .int .i64 (addJ j L).sent] rfl 54 _ hR7 rfl (by simp) (by simp;(repeat' (first|rfl|constructor))) ?_;intro w8 hV8 hM8)
      refine ⟨⟨Blk.turn hM8 hB7b (by omega),Blk.turn hM8 hz7 (by omega)⟩,?_⟩
      (try simp only [q14q,q15q,q16q,Act.put,q0q,q1q,q2q])
      have hQ8:=Blk.turn hM8 hQ7 (by omega)
      (refine R5.only_store RP16 5 (by kernel_rfl) rfl rfl _ _ rfl (w.heap.size+2) 0 rfl [.int .i64 P.1.h.leap, .int .i64 P.1.h.ver, .int .i64 P.1.h.mode, .int .i64 P.1.h.strat, .int .i64 P.1.h.poll, .int .i64 P.1.h.prec, .int .u32 (n32 P.1.h.rd), .int .u32 (n32 P.1.h.rp), .int .u32 (n32 P.1.h.id), .int .u64 (n64 P.1.h.ref), .int .u64 (n64 P.1.h.org), .int .u64 (n64 P.1.h.rcv), .int .u64 (n64 P.1.h.tx), .slice (some ⟨gA,oA,none⟩) e1 k1, .slice p2 k k2, .bool P.1.guarded] rfl 32 _ hQ8 rfl (by simp) (by simp;(repeat' (first|rfl|constructor))) ?_;intro w9 hV9 hM9)
      have hV8:Blk w8 (w.heap.size+1) 54 [.slice b1 n1 d1, .slice b2 n2 d2, .slice b3 (addJ j L).ck.length d3, .slice b4 n4 d4, .int .i64 (addJ j L).net, .int .i64 (addJ j L).sent]:=hV8
      refine ⟨⟨Blk.turn hM9 (Blk.turn hM8 hB7b (by omega)) (by omega),Blk.turn hM9 (Blk.turn hM8 hz7 (by omega)) (by omega)⟩,?_⟩
      (try simp only [q14q,q15q,q16q,Act.put,q0q,q1q,q2q])
      (refine R5.any_only 6 (by kernel_rfl) rfl rfl ?_;unfold gives;simp [go_sem,execOp])
      refine ⟨⟨Blk.turn hM9 (Blk.turn hM8 hB7b (by omega)) (by omega),Blk.turn hM9 (Blk.turn hM8 hz7 (by omega)) (by omega)⟩,?_⟩
      (try simp only [q14q,q15q,q16q,Act.put,q0q,q1q,q2q])
      refine wpAnyH_done (by kernel_rfl) ?_ _
      have hV8:=Blk.turn hM9 hV8 (by omega)
      go_wp2
      refine bodyPost_ret (results_arr2_tmp Tryz.results29 RJ6 RP16 _ _ (w.heap.size+1) 0 [.slice b1 n1 d1, .slice b2 n2 d2, .slice b3 (addJ j L).ck.length d3, .slice b4 n4 d4, .int .i64 (addJ j L).net, .int .i64 (addJ j L).sent] rfl hV8.rd rfl (w.heap.size+2) 0 [.int .i64 P.1.h.leap, .int .i64 P.1.h.ver, .int .i64 P.1.h.mode, .int .i64 P.1.h.strat, .int .i64 P.1.h.poll, .int .i64 P.1.h.prec, .int .u32 (n32 P.1.h.rd), .int .u32 (n32 P.1.h.rp), .int .u32 (n32 P.1.h.id), .int .u64 (n64 P.1.h.ref), .int .u64 (n64 P.1.h.org), .int .u64 (n64 P.1.h.rcv), .int .u64 (n64 P.1.h.tx), .slice (some ⟨gA,oA,none⟩) e1 k1, .slice p2 k k2, .bool P.1.guarded] rfl hV9.rd rfl (.int .i64 0) rfl) rfl ?_
      rw [er.out]
      have hE8:Ext w w8:=Below.trans hE (hM8.below (by omega) hE.size)
      have hE9:Ext w w9:=Below.trans hE8 (hM9.below (by omega) hE8.size)
      have o3:=(o3.mut hR7 (by decide) (by simp) hM8).mut hQ8 (by decide) (by simp) hM9
      exact ⟨b1,n1,d1,b2,n2,d2,b3,_,d3,b4,n4,d4,_,e1,k1,p2,k,k2,rfl,((o1.mutT hR7 (by decide) hM8).mutT hQ8 (by decide) hM9).sl,o1.le.1,((o2.mutT hR7 (by decide) hM8).mutT hQ8 (by decide) hM9).sl,o2.le.1,o3.bsc,o3.le,o3.typ3,((o4.mutT hR7 (by decide) hM8).mutT hQ8 (by decide) hM9).sl,o4.le.1,(hI1.ext hx07).mutq hR7 (by simp) rfl hM8 |>.mutq hQ8 (by simp) rfl hM9,g1,(hI2.ext hx07).mutq hR7 (by simp) rfl hM8 |>.mutq hQ8 (by simp) rfl hM9,g2,hE9⟩
end Go.Proofs.YtdmifbfgeeldnaaGreat
