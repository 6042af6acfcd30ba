/- Lemmas of this claim, several texts joined. -/
import Derived.Test.YtdmifbfgeeldnaaGreatZ6
import Derived.Test.YtdmifbfgeeldnaaGreatZ9
import Derived.Test.YtdmifbfgeeldnaaGreatZ32
import Derived.Test.YtdmifbfgeeldnaaGreatZ34
import Derived.Test.YtdmifbfgeeldnaaGreatZ39
import Derived.Test.YtdmifbfgeeldnaaGreatZ42
set_option maxRecDepth 100000
open List renaming setIfInBounds_toArray → q0q, set_cons_succ → q1q, set_cons_zero → q2q, mem_cons → q3q, not_mem_nil → q4q, nil_append → q5q, cons_append → q6q, mem_append → q7q, take_succ_cons → q8q, take_zero → q9q, drop_succ_cons → q10q, drop_zero → q11q, take_nil → q12q, drop_nil → q13q, getElem_toArray → q14q, getElem_cons_succ → q15q, getElem_cons_zero → q16q
open Go.IntWalk renaming i64_in → q17q, rem_in → q18q, wrap64_in → q19q
set_option linter.unusedVariables false
set_option linter.unusedSimpArgs false
/- Layer 22: the law JarRefills. -/
namespace Go.Proofs.YtdmifbfgeeldnaaGreat
open Go.RowKit Go.Sec Go.Oct Go.Jar Go.Pkt Go.Sha Go.Aes BigFrame
theorem raskR_any (w:World) :
  Calls Tryz.prog 8 #[.int .u64 3] w fun e w'=>e = .returned (.agg #[.int .i64 0, .int .i64 4, .int .i64 3, .int .i64 0, .int .i64 6, .int .i64 0, .int .u32 0, .int .u32 0, .int .u32 0, .int .u64 0, .int .u64 0, .int .u64 0, .int .u64 3])∧Ext w w':=by
 go_enter Tryz.func8,Tryz.ntmps8
 go_wp2
 refine bodyPost_ret (results_arr Tryz.results8 (RH13) _ _ (w.heap.size) (0) ([.int .i64 0, .int .i64 4, .int .i64 3, .int .i64 0, .int .i64 6, .int .i64 0, .int .u32 0, .int .u32 0, .int .u32 0, .int .u64 0, .int .u64 0, .int .u64 0, .int .u64 3]) rfl ((Blk.new _ _ _).rd) (rfl)) rfl ?_
 exact ⟨rfl,eX⟩
theorem wantR {s m:Nat} (hs:s<1000) (hm:m<8):wantJ (jar1 s (m+1))=(((8-m:Nat):Int),0):=by
 unfold wantJ
 rw [if_pos (jar1_valid (by omega) (by omega) (by omega))]
 have l3:(jar1 s (m+1)).ck.length=m:=by show (ckW s (m+1)).tail.length=m;rw [List.length_tail,ckW_length];omega
 rw [l3]
 congr 1
 omega
set_option maxHeartbeats 4000000 in
theorem jarRefills_walk (seed n uq ot:Int) (w:World) :
  Calls Tryz.prog 6 #[.int .i64 seed, .int .i64 n, .int .i64 uq, .int .i64 ot] w fun e w'=>e = .returned (.bool true)∧Ext w w':=by
 obtain ⟨s,hs,es⟩:=nmod seed 1000 (by omega)
 have es:seed % 1000=(s:Int):=es
 obtain ⟨m,hm,em⟩:=nmod n 8 (by omega)
 have em:n % 8=(m:Int):=em
 obtain ⟨a,ha,ea⟩:=nmod uq 100000 (by omega)
 have ea:uq % 100000=(a:Int):=ea
 have hw1:=fun W=>within_any seed 1000 W (by omega) (by omega)
 have hw2:=fun W=>within_any n 8 W (by omega) (by omega)
 have hw3:=fun W=>within_any uq 100000 W (by omega) (by omega)
 rw [es] at hw1
 rw [em] at hw2
 rw [ea] at hw3
 clear es em ea
 have hwj:∀ W,Calls Tryz.prog 32 #[.int .i64 (s:Int), .int .i64 (1+(m:Int))] W (WJarO s (m+1) W):=fun W=>wjar_any s (1+(m:Int)) (m+1) rfl W (by omega) (by omega)
 have hwj2:∀ W,Calls Tryz.prog 32 #[.int .i64 ((s:Int)+1), .int .i64 3] W (WJarO (s+1) 3 W):=fun W=>wjar_any (s+1) 3 3 (by omega) W (by omega) (by decide)
 have hu:=fun W=>wbytes_any a 32 rfl (show (32:Int)=((32:Nat):Int) from rfl) W (by omega) (by omega)
 have hn1:=fun W=>wbytes_any s 16 rfl (show (16:Int)=((16:Nat):Int) from rfl) W (by omega) (by omega)
 have hn2:=fun W=>wbytes_any (s+2) 16 (show (s:Int)+2=((s+2:Nat):Int) by omega) (show (16:Int)=((16:Nat):Int) from rfl) W (by omega) (by omega)
 have lu:=wbytes_length a 32
 have ln:=wbytes_length s 16
 have ln2:=wbytes_length (s+2) 16
 obtain ⟨hq1,hq2, -⟩:=quesJ_W (s:=s) (k:=m+1) (by omega) (by omega) (by omega) 3 lu ln
 obtain ⟨hx1,hx2, -⟩:=ansX_all (n:=8-m) lu ln2 s (by omega)
 have hv1:=jar1_valid (s:=s) (k:=m+1) (by omega) (by omega) (by omega)
 have l3:(jar1 s (m+1)).ck.length=m:=by show (ckW s (m+1)).tail.length=m;rw [List.length_tail,ckW_length];omega
 have hqx:(quesX s (m+1) 3 (wbytes a 32) (wbytes s 16)).length=(ansX s (8-m) (wbytes a 32) (wbytes (s+2) 16)).length:=by rw [hq2,hx2,show 9-(m+1)=8-m by omega]
 have hqc:∀ (a1 a2 b3 au an:Option Addr)(d1 d2 d3 cu cn:Nat) (W:World),Sl W a1 32 (upW s)→Sl W a2 32 (dnW s)→Bsc W b3 (m+1) (ckW s (m+1))→m+1≤d3→Sl W au 32 (wbytes a 32)→32≤cu→Sl W an 16 (wbytes s 16)→16≤cn →
   Calls Tryz.prog 27 #[.agg #[.slice a1 32 d1, .slice a2 32 d2, .slice b3 (m+1) d3, .slice none 0 0, .int .i64 1, .int .i64 0], .int .u64 3, .slice au 32 cu, .slice an 16 cn] W fun e w''=>∃ v,e = .returned v∧∃ p:Par,v=QuesV 1 1 32 32 m 104 (ansX s (8-m) (wbytes a 32) (wbytes (s+2) 16)).length p∧Ext W w''∧QuesP (jar1 s (m+1),quesX s (m+1) 3 (wbytes a 32) (wbytes s 16)) 32 32 m 104 (ansX s (8-m) (wbytes a 32) (wbytes (s+2) 16)).length p w'':=fun a1 a2 b3 au an d1 d2 d3 cu cn W h1 h2 h3 h4 h5 h6 h7 h8=>by
  have:=jques_any a1 a2 b3 none au an 32 d1 32 d2 (m+1) d3 0 0 32 cu 16 cn (jarW s (m+1)) 3 (wbytes a 32) (wbytes s 16) W h1 (by omega) h2 (by omega) h3 h4 (by omega) (fun y hy=>by have:=ckW_104 hy;omega) (Sl.nil _ _) (by omega) h5 h6 h7 h8
  rw [hq1] at this
  exact vag_ques this (upW_length s) (dnW_length s) l3 (ck0_length s) hqx rfl rfl
 have hwt:∀ (b1 b2 b3 b4:Option Addr)(d1 d2 d3 d4:Nat) (W:World),Sl W b1 32 (jar1 s (m+1)).up→Sl W b2 32 (jar1 s (m+1)).dn→Bsc W b3 m (jar1 s (m+1)).ck→m≤d3→Sl W b4 104 (jar1 s (m+1)).last→Calls Tryz.prog 33 #[.agg #[.slice b1 32 d1, .slice b2 32 d2, .slice b3 m d3, .slice b4 104 d4, .int .i64 1, .int .i64 1]] W fun e w'=>e = .returned (.tuple #[.int .i64 ((8-m:Nat):Int), .int .i64 0])∧Ext W w':=fun b1 b2 b3 b4 d1 d2 d3 d4 W H1 H2 H3 H4 H5=>by
  have:=jwant_any b1 b2 b3 b4 32 d1 32 d2 m d3 104 d4 (jar1 s (m+1)) W H1 H2 H3 H4 (by omega) H5
  rw [wantR hs hm] at this
  exact this
 have hpr:∀ (ak an p1 p2:Option Addr)(ck cn e1 e2:Nat) (W:World),Sl W ak 32 (dnW s)→32≤ck→Ib W p1 1 [(260,wbytes a 32)]→Ib W p2 (8-m) (secF s (8-m))→Sl W an 16 (wbytes (s+2) 16)→16≤cn →
   Calls Tryz.prog 21 #[.slice ak 32 ck, .agg #[.int .i64 0, .int .i64 4, .int .i64 4, .int .i64 1, .int .i64 6, .int .i64 (-20), .int .u32 0, .int .u32 0, .int .u32 0, .int .u64 0, .int .u64 3, .int .u64 10, .int .u64 20, .slice p1 1 e1, .slice p2 (8-m) e2, .bool false], .slice an 16 cn] W (Read2 (ansX s (8-m) (wbytes a 32) (wbytes (s+2) 16)).length (ansX s (8-m) (wbytes a 32) (wbytes (s+2) 16)) (.int .i64 0) W):=fun ak an p1 p2 ck cn e1 e2 W h1 h2 h3 h4 h5 h6=>by
  have:=pprotect_any ak an p1 p2 32 ck 16 cn 1 e1 (8-m) e2 (pktR s (8-m) (wbytes a 32)) (dnW s) (wbytes (s+2) 16) W h1 h2 h5 h6 (by omega) h3 (by omega) (fun f hf=>by rw [List.mem_singleton.1 hf];show (wbytes a 32).length≤1000000;omega) h4 (by omega) (fun f hf=>by have:=(secF_in hf).2;omega)
  rw [hx1] at this
  exact this
 have han:∀ (b1 b2 b3 b4 au ab:Option Addr)(d1 d2 d3 d4 cu cb:Nat) (W:World),Sl W b1 32 (jar1 s (m+1)).up→Sl W b2 32 (jar1 s (m+1)).dn→32≤d2→Bsc W b3 m (jar1 s (m+1)).ck→m≤d3→Sl W b4 104 (jar1 s (m+1)).last→Sl W au 32 (wbytes a 32)→Sl W ab (ansX s (8-m) (wbytes a 32) (wbytes (s+2) 16)).length (ansX s (8-m) (wbytes a 32) (wbytes (s+2) 16))→(ansX s (8-m) (wbytes a 32) (wbytes (s+2) 16)).length≤cb →
   Calls Tryz.prog 29 #[.agg #[.slice b1 32 d1, .slice b2 32 d2, .slice b3 m d3, .slice b4 104 d4, .int .i64 1, .int .i64 1], .slice au 32 cu, .slice ab (ansX s (8-m) (wbytes a 32) (wbytes (s+2) 16)).length cb] W (AnsE ((jarF s (m+1) (8-m),⟨hR,[(260,wbytes a 32)],secF s (8-m),true⟩),0) W):=fun b1 b2 b3 b4 au ab d1 d2 d3 d4 cu cb W h1 h2 h3 h4 h5 h6 h7 h8 h9=>by
  have:=janswer_any b1 b2 b3 b4 au ab 32 d1 32 d2 m d3 104 d4 32 cu _ cb (jar1 s (m+1)) (wbytes a 32) _ W h1 (by omega) h2 h3 (by omega) h4 h5 (by omega) (fun y hy=>by have:=ckW_104 (s:=s) (k:=m+1) (List.mem_of_mem_tail hy);omega) h6 (by omega) h7 h8 h9 (by rw [hx2];omega)
  have e:=ansR (s:=s) (k:=m+1) (by omega) (by omega) (by omega) lu ln2
  rw [show 9-(m+1)=8-m by omega] at e
  rw [e] at this
  exact this
 have hno:∀ (b1 b2 b3 b4 au ab:Option Addr)(d1 d2 d3 d4 cu cb:Nat) (W:World),Sl W b1 32 (jar1 s (m+1)).up→Sl W b2 32 (jar1 s (m+1)).dn→32≤d2→Bsc W b3 m (jar1 s (m+1)).ck→m≤d3→Sl W b4 104 (jar1 s (m+1)).last→Sl W au 32 (chg (wbytes a 32) ot ot)→Sl W ab (ansX s (8-m) (wbytes a 32) (wbytes (s+2) 16)).length (ansX s (8-m) (wbytes a 32) (wbytes (s+2) 16))→(ansX s (8-m) (wbytes a 32) (wbytes (s+2) 16)).length≤cb →
   Calls Tryz.prog 29 #[.agg #[.slice b1 32 d1, .slice b2 32 d2, .slice b3 m d3, .slice b4 104 d4, .int .i64 1, .int .i64 1], .slice au 32 cu, .slice ab (ansX s (8-m) (wbytes a 32) (wbytes (s+2) 16)).length cb] W (AnsE ((zeroJ,zeroP),7) W):=fun b1 b2 b3 b4 au ab d1 d2 d3 d4 cu cb W h1 h2 h3 h4 h5 h6 h7 h8 h9=>by
  have:=janswer_any b1 b2 b3 b4 au ab 32 d1 32 d2 m d3 104 d4 32 cu _ cb (jar1 s (m+1)) (chg (wbytes a 32) ot ot) _ W h1 (by omega) h2 h3 (by omega) h4 h5 (by omega) (fun y hy=>by have:=ckW_104 (s:=s) (k:=m+1) (List.mem_of_mem_tail hy);omega) h6 (by omega) h7 h8 h9 (by rw [hx2];omega)
  have e:=ansR_no (s:=s) (k:=m+1) (by omega) (by omega) (by omega) lu (v:=chg (wbytes a 32) ot ot) (by rw [chg_length];exact lu) (chg_ne _ ot ot (by omega)).symm ln2
  rw [show 9-(m+1)=8-m by omega] at e
  rw [e] at this
  exact this
 have hn3:(jarW (s+1) 3).ck.length=3:=ckW_length _ _
 have ha3:∀ (b1 b2 b3 au ab:Option Addr)(d1 d2 d3 cu cb:Nat) (W:World),Sl W b1 32 (upW (s+1))→Sl W b2 32 (dnW (s+1))→32≤d2→Bsc W b3 3 (ckW (s+1) 3)→3≤d3→Sl W au 32 (wbytes a 32)→Sl W ab (ansX s (8-m) (wbytes a 32) (wbytes (s+2) 16)).length (ansX s (8-m) (wbytes a 32) (wbytes (s+2) 16))→(ansX s (8-m) (wbytes a 32) (wbytes (s+2) 16)).length≤cb →
   Calls Tryz.prog 29 #[.agg #[.slice b1 32 d1, .slice b2 32 d2, .slice b3 3 d3, .slice none 0 0, .int .i64 1, .int .i64 0], .slice au 32 cu, .slice ab (ansX s (8-m) (wbytes a 32) (wbytes (s+2) 16)).length cb] W (AnsE (ansJ (jarW (s+1) 3) (wbytes a 32) (ansX s (8-m) (wbytes a 32) (wbytes (s+2) 16))) W):=fun b1 b2 b3 au ab d1 d2 d3 cu cb W h1 h2 h3 h4 h5 h7 h8 h9 =>
  janswer_any b1 b2 b3 none au ab 32 d1 32 d2 3 d3 0 0 32 cu _ cb (jarW (s+1) 3) (wbytes a 32) _ W h1 (by omega) h2 h3 (by omega) h4 h5 (by omega) (fun y hy=>by have:=ckW_104 hy;omega) (Sl.nil _ _) (by omega) h7 h8 h9 (by rw [hx2];omega)
 have ha4:∀ (b1 b2 b3 au ab:Option Addr)(d1 d2 d3 cu cb:Nat) (W:World),Sl W b1 32 (upW (s+1))→32≤d1→Sl W b2 32 (dnW (s+1))→32≤d2→Bsc W b3 3 (ckW (s+1) 3)→3≤d3→Sl W au 32 (wbytes a 32)→Sl W ab (ansX s (8-m) (wbytes a 32) (wbytes (s+2) 16)).length (ansX s (8-m) (wbytes a 32) (wbytes (s+2) 16))→(ansX s (8-m) (wbytes a 32) (wbytes (s+2) 16)).length≤cb →
   Calls Tryz.prog 30 #[.agg #[.slice b1 32 d1, .slice b2 32 d2, .slice b3 3 d3, .slice none 0 0, .int .i64 1, .int .i64 0], .slice au 32 cu, .slice ab (ansX s (8-m) (wbytes a 32) (wbytes (s+2) 16)).length cb] W (AnsE (ansJ (jarW (s+1) 3) (wbytes a 32) (ansX s (8-m) (wbytes a 32) (wbytes (s+2) 16))) W):=fun b1 b2 b3 au ab d1 d2 d3 cu cb W h1 h1c h2 h3 h4 h5 h7 h8 h9 =>
  rjanswer_any b1 b2 b3 none au ab 32 d1 32 d2 3 d3 0 0 32 cu _ cb (jarW (s+1) 3) (wbytes a 32) _ W h1 (by omega) h2 h3 (by omega) h4 h5 (by omega) (fun y hy=>by have:=ckW_104 hy;omega) (Sl.nil _ _) (by omega) h7 h8 h9 (by rw [hx2];omega)
 have hch:=fun (au:Option Addr) cu W (H:Sl W au 32 (wbytes a 32))=>changed_any au 32 cu (wbytes a 32) ot ot W H (by omega) (by omega)
 have hfl:(jarF s (m+1) (8-m)).ck.length=8:=by rw [jarF_ck (by omega) (by omega)];omega
 have hfv:validJ (jarF s (m+1) (8-m))=true:=by
  have:=jarF_valid (s:=s) (k:=m+1) (by omega) (by omega) (by omega)
  rwa [show 9-(m+1)=8-m by omega] at this
 have hjv:=fun (b1 b2 b3 b4:Option Addr)(d1 d2 d3 d4:Nat) W H1 H2 H3 h H4=>jvalid_any b1 b2 b3 b4 32 d1 32 d2 8 d3 104 d4 (jarF s (m+1) (8-m)) W H1 H2 H3 h (by omega) H4
 rw [hfv] at hjv
 have hxl:(ansX s (8-m) (wbytes a 32) (wbytes (s+2) 16)).length≤100000:=by rw [hx2];omega
 clear hq1 hq2 hx1 hx2 hqx hn3 hfv hv1 l3
 generalize quesX s (m+1) 3 (wbytes a 32) (wbytes s 16)=Q at *
 generalize ansX s (8-m) (wbytes a 32) (wbytes (s+2) 16)=X at *
 generalize ansJ (jarW (s+1) 3) (wbytes a 32) X=R at *
 generalize hJ1:jar1 s (m+1)=J1 at *
 have hJd:J1.dn=dnW s:=by rw [← hJ1];rfl
 clear hJ1
 generalize wbytes (s+2) 16=N2 at *
 generalize wbytes s 16=N at *
 have hk:=fun W=>known22_any W
 have hwq1:1≤8-m:=by omega
 have hwq8:8-m≤8:=by omega
 go_enter Tryz.func6,Tryz.ntmps6
 go_wp2_with fail
 (with_reducible refine (hw1 _).mono ?_);rintro e w1 ⟨rfl,hx1⟩
 go_wp2_with fail
 (with_reducible refine (hw2 _).mono ?_);rintro e w2 ⟨rfl,hx2⟩
 go_wp2_with fail
 (with_reducible refine (hwj _).mono ?_);rintro e w3 ⟨a1,d1,a2,d2,b3,d3,rfl,h1,k1,h2,k2,h3,k3,hx3⟩
 have hE3:=hx1.trans (hx2.trans hx3)
 clear hw1 hw2 hwj hx1 hx2 hx3
 go_wp2_with (first
  | (refine wpList_alloc_store (RJ6) rfl rfl _ _ rfl rfl rfl rfl (by simp [Act.put]) ([.slice a1 32 d1, .slice a2 32 d2, .slice b3 (m+1) d3, .slice none 0 0, .int .i64 1, .int .i64 0]) rfl (by simp) (rfl) (oC) ?_;intro x hz _)
  | fail)
 have hxx:Ext w3 (w3.ext x):=Ext.of_ext _ _
 have hE4:=hE3.trans hxx
 have h1:=h1.ext hxx
 have h2:=h2.ext hxx
 have h3:=h3.ext hxx
 clear hE3 hxx
 obtain ⟨g1,hg1⟩:∃ g,g=w3.heap.size:=⟨_,rfl⟩
 rw [← hg1] at hz ⊢
 clear hg1
 generalize w3.ext x=W4 at *
 (with_reducible refine (hw3 _).mono ?_);rintro e w5 ⟨rfl,hx5⟩
 go_wp2_with fail
 (with_reducible refine (hu _).mono ?_);rintro e w6 ⟨au,cu,rfl,hOu,hx6⟩
 have hx56:=hx5.trans hx6
 have hE6:=hE4.trans hx56
 have h1:=h1.ext hx56
 have h2:=h2.ext hx56
 have h3:=h3.ext hx56
 have hz:=hz.extB hx56
 have hU:=hOu.sl
 have hUc:=hOu.le.1
 clear hE4 hx5 hx6 hx56 hw3 hu hOu
 generalize wbytes a 32=UB at *
 go_wp2_with fail
 refine R2.wp_region_vagueZ 10 [[],[],[],[2],[0,1,2,3],[0,1,2,3,4],[0,1,2,3,4,5],[0,1,2,3,4,5],[0,1,2,3,4,5],[],[0,1,2,3,4,5,6,9],[0,1,2,3,4,5,6,7,9,10],[0,1,2,3,4,5,6,7,8,9,10,11]] [7,8] (by intro c a d v w h;cases d <;> exact h) (by kernel_rfl) (by kernel_rfl) (by kernel_rfl) (by kernel_rfl) (by kernel_rfl) ?_;simp only [q8q,q9q,q10q,q11q,q12q,q13q]
 (refine R2.VD_load_arr (RJ6) _ rfl (fun _=>rfl) (g1) (0) (fun _=>by simp [go_sem]) ([.slice a1 32 d1, .slice a2 32 d2, .slice b3 (m+1) d3, .slice none 0 0, .int .i64 1, .int .i64 0]) (hz.rd) (rfl) ?_)
 (repeat (apply R2.VD_der;(case h=>(intro us w' hx hf;obtain ⟨x,rfl⟩:=hx.out;refine ⟨rfl,?_⟩;simp [go_sem,execOp, *];(try simp (disch:=omega) only [q17q,q18q,q19q]);rfl));(try simp only [Act.put,q0q,q1q,q2q])))
 (refine R2.VD_vag (fun p => .slice (p 0).1 (16) (p 0).2) (fun p w''=>Own w'' 0 (p 0).1 (16) (p 0).2 (N)) (fun p w w' h hx=>h.ext hx) (fun us w' hx hf=>⟨rfl,?_⟩) ?_;(unfold gives;simp [go_sem,execOp];exact vag_fresh (Nat.zero_le _) (hn1 _)))
 (refine R2.VD_vag (QuesV 1 1 32 32 m 104 X.length) (QuesP (J1,Q) 32 32 m 104 X.length) (fun p w w' h hx=>h.ext hx) (fun us w' hx hf=>⟨rfl,?_⟩) ?_;(unfold gives;simp [go_sem,execOp];exact hqc _ _ _ _ _ _ _ _ _ _ _ (h1.ext hx) (h2.ext hx) (h3.ext hx) k3 (hU.ext hx) hUc (Own.sl (hf _ (List.mem_append_right _ (List.mem_singleton_self _)) rfl)) (Own.le (hf _ (List.mem_append_right _ (List.mem_singleton_self _)) rfl)).1))
 (repeat (apply R2.VD_der;(case h=>(intro us w' hx hf;obtain ⟨x,rfl⟩:=hx.out;refine ⟨rfl,?_⟩;simp [go_sem,execOp, *];(try simp (disch:=omega) only [q17q,q18q,q19q]);rfl));(try simp only [Act.put,q0q,q1q,q2q])))
 (refine R2.VD_alloc _ ([.slice none 0 0, .slice none 0 0, .slice none 0 0, .slice none 0 0, .int .i64 0, .int .i64 0]) Tryz.zeroValue54 rfl rfl rfl ?_)
 (refine R2.VD_nil ?_;intro us w' hx hf hd;obtain ⟨x,rfl⟩:=hx.out;(try simp only [Act.put,q0q,q1q,q2q,wpList_none]);(try simp only [q3q,q4q,or_false,forall_eq_or_imp,forall_eq,q5q,q6q,q7q,false_or,true_and,and_true] at hf);(try simp only [Nat.reduceAdd,Nat.zero_add] at hf ⊢))
 obtain ⟨-,hP,g2,eg,hgW,hBg⟩:=hf
 simp only [q14q,q15q,q16q]
 rw [eg]
 clear hd eg hqc hn1
 generalize us 4=p at *
 have hxx:Ext w6 (w6.ext x):=Ext.of_ext _ _
 clear hx
 generalize w6.ext x=W8 at *
 haveI:=hBg.blt
 have hlt1:=hz.lt
 go_wp2_with (first
  | ((refine wpList_store_arr (RJ6) rfl _ _ rfl (g2) (0) rfl ([.slice (p 0).1 32 (p 0).2, .slice (p 1).1 32 (p 1).2, .slice (p 2).1 m (p 2).2, .slice (p 3).1 104 (p 3).2, .int .i64 1, .int .i64 1]) rfl (54) _ (hBg) (rfl) (by simp) (oC) ?_;intro V hV hMV);have hzV:=Blk.turn hMV (hz.extB hxx) (by omega);haveI:=hzV.blt;have f0:=hzV.cell? 0 rfl;haveI:=Blk.blt hV)
  | (refine wpList_load_arr (RJ6) rfl _ rfl (g2) (0) rfl ([.slice (p 0).1 32 (p 0).2, .slice (p 1).1 32 (p 1).2, .slice (p 2).1 m (p 2).2, .slice (p 3).1 104 (p 3).2, .int .i64 1, .int .i64 1]) (hV.rd) (rfl) ?_)
  | fail)
 have hB2:Blk V g2 54 [.slice (p 0).1 32 (p 0).2, .slice (p 1).1 32 (p 1).2, .slice (p 2).1 m (p 2).2, .slice (p 3).1 104 (p 3).2, .int .i64 1, .int .i64 1]:=hV
 obtain ⟨p1,q1,p2,q2,p3,q3,pt,p4,q4,p5,q5⟩:=hP
 have p1:=p1.mut hBg (by simp) hMV
 have p2:=p2.mut hBg (by simp) hMV
 have p3:=p3.mutNe (pt.ne hBg (by decide)) hBg (by simp) hMV
 have p4:=p4.mut hBg (by simp) hMV
 have hEV:Ext w6 V:=Below.trans hxx (hMV.below hgW hxx.size)
 have hE8:=hE6.trans hEV
 have h2:=h2.ext hEV
 have hU:=hU.ext hEV
 clear hE6 hEV hxx hgW hBg hMV hV pt hz h1 h3 f0 p5
 (with_reducible refine (hwt _ _ _ _ _ _ _ _ _ p1 p2 p3 q3 p4).mono ?_)
 rintro e w9 ⟨rfl,hx⟩
 have hE:=hE8.trans hx
 have hz:=hzV.extB hx
 have hB2:=hB2.extB hx
 have h2:=h2.ext hx
 have hU:=hU.ext hx
 have p1:=p1.ext hx
 have p2:=p2.ext hx
 have p3:=p3.ext hx
 have p4:=p4.ext hx
 clear hE8 hx hzV hwt
 obtain ⟨wq,hwq⟩:∃ x,x=8-m:=⟨_,rfl⟩
 rw [← hwq] at hwq1 hwq8 hpr han hjv hfl ⊢
 generalize hJF:jarF s (m+1) wq=JF at *
 have hFl:JF.last.length=104:=by rw [← hJF];exact ck0_length s
 have hFu:JF.up.length=32:=by rw [← hJF];exact upW_length s
 have hFd:JF.dn.length=32:=by rw [← hJF];exact dnW_length s
 clear hJF
 replace hwq:=Lib.hid hwq
 have hwi1:¬ (wq:Int)<1:=by omega
 have hwi8:¬ (8:Int)<(wq:Int):=by omega
 go_wp2_with fail
 go_loopw [16,17] (fun v16 v17 wr=>∃ (i:Nat) (la:Option Addr)(lc:Nat),i≤wq∧v16 = .slice la i lc∧v17 = .int .i64 i∧OwnI 66 wr w9.heap.size la i lc (secF s i)∧Ext w9 wr) (fun _ v17 _=>wq-(intOf v17).toNat)
 case atStart=>exact ⟨0,none,0,by omega,rfl,rfl,OwnI.nil _ _ _,Ext.refl _⟩
 case round =>
  obtain ⟨i,la,lc,hi,rfl,rfl,hL,hX⟩:=hrel
  by_cases hlt:i<wq
  ·have i1:(i:Int)<(wq:Int):=by omega
   have hmul:(7000000:Int)*((i:Int)+1)≤108000000:=by omega
   have hsI:(s:Int)≤1000000:=by omega
   have hi9:(i:Int)≤12:=by omega
   have hby:=fun V=>wbytes_any (s+7000000*(i+1)) 104 (show (s:Int)+7000000*((i:Int)+1)=((s+7000000*(i+1):Nat):Int) by omega) (show (104:Int)=((104:Nat):Int) from rfl) V (by omega) (by omega)
   have hck:=Lib.hid (secF_succ s i)
   generalize wbytes (s+7000000*(i+1)) 104=Y at *
   go_wp2_with fail
   (with_reducible refine (hby _).mono ?_)
   rintro e w10 ⟨a6,c6,rfl,hO6,hx6⟩
   have hL:=hL.ext hx6
   have hX:=hX.trans hx6
   clear hx6 hby
   go_wp2_with (first
    | (at_builtin;refine wpList_append_i VF rfl _ _ rfl w9.heap.size la i lc (secF s i) rfl w10.heap.size 1 516 a6 104 c6 Y rfl (hL.ext (Ext.of_alloc _ _)) (Blk.new w10 #[.int .i64 516, .slice a6 104 c6] 66).rd (hO6.ext (Ext.of_alloc _ _)).sl hO6.le.1 (Own.inT (hO6.ext (Ext.of_alloc _ _)) (by decide)) (by omega) (by have:=hX.size;have:=(Ext.of_alloc w10 (.cells #[.int .i64 516, .slice a6 104 c6] 66)).size;omega) ?_;intro sa sc w11 hL7 hg7 hb7)
    | fail)
   go_roundw
   case rel=>exact ⟨i+1,sa,sc,by omega,rfl,by go_num,by rw [hck.out];exact hL7,(show Ext w9 w11 from Below.trans (hX.trans (Ext.of_alloc _ _)) hb7)⟩
   case measure=>simp [intOf];omega
  ·obtain rfl:i=wq:=by omega
   have i1:¬ (i:Int)<(i:Int):=by omega
   obtain ⟨hI,hIc⟩:=hL.ib
   have hE:=hE.trans hX
   have hz:=hz.extB hX
   have hB2:=hB2.extB hX
   have h2:=h2.ext hX
   have hU:=hU.ext hX
   have p1:=p1.ext hX
   have p2:=p2.ext hX
   have p3:=p3.ext hX
   have p4:=p4.ext hX
   clear hL hX
   go_wp2_with fail
   (with_reducible refine (raskR_any _).mono ?_);rintro e w12 ⟨rfl,hx12⟩
   go_wp2_with fail
   (with_reducible refine (repR_any _).mono ?_);rintro e w13 ⟨rfl,hx13⟩
   have hx:=hx12.trans hx13
   have hE:=hE.trans hx
   have hz:=hz.extB hx
   have hB2:=hB2.extB hx
   have h2:=h2.ext hx
   have hU:=hU.ext hx
   have hI:=hI.ext hx
   have p1:=p1.ext hx
   have p2:=p2.ext hx
   have p3:=p3.ext hx
   have p4:=p4.ext hx
   clear hx hx12 hx13
   go_wp2_with (first
    | (refine wpList_alloc_store (RH13) rfl rfl _ _ rfl rfl rfl rfl (by simp [Act.put]) ([.int .i64 0, .int .i64 4, .int .i64 4, .int .i64 1, .int .i64 6, .int .i64 (-20), .int .u32 0, .int .u32 0, .int .u32 0, .int .u64 0, .int .u64 3, .int .u64 10, .int .u64 20]) rfl (by simp) (rfl) (oC) ?_;intro x13 hzh _)
    | (refine wpList_load_arr (RH13) rfl _ rfl (w13.heap.size) (0) rfl ([.int .i64 0, .int .i64 4, .int .i64 4, .int .i64 1, .int .i64 6, .int .i64 (-20), .int .u32 0, .int .u32 0, .int .u32 0, .int .u64 0, .int .u64 3, .int .u64 10, .int .u64 20]) (hzh.rd) (rfl) ?_)
    | (refine wpList_alloc_store (RP16) rfl rfl _ _ rfl rfl rfl rfl (by simp [Act.put]) ([.int .i64 0, .int .i64 4, .int .i64 4, .int .i64 1, .int .i64 6, .int .i64 (-20), .int .u32 0, .int .u32 0, .int .u32 0, .int .u64 0, .int .u64 3, .int .u64 10, .int .u64 20, .slice (some ⟨(w13.ext x13).heap.size,0,none⟩) 1 1, .slice la i lc, .bool false]) rfl (by simp) (rfl) (oC) ?_;intro x14 hzp _)
    | fail)
   (try simp only [q14q,q15q,q16q,Act.put,q0q,q1q,q2q])
   have hxa:Ext w13 (w13.ext x13):=Ext.of_ext _ _
   have hUa:=hU.ext hxa
   have hP1:=(OwnI.new (T:=66) (id:=260) hUa hUc (Nat.le_refl _) (hUa.inT _)).ib.1
   have hP1:=hP1.ext (Ext.of_ext _ x14)
   have hx:Ext w13 (((w13.ext x13).alloc (.cells #[.int .i64 260, .slice au 32 cu] 66)).ext x14):=(hxa.alloc _).ext _
   have hE:=hE.trans hx
   have hz:=hz.extB hx
   have hB2:=hB2.extB hx
   have h2:=h2.ext hx
   have hU:=hU.ext hx
   have hI:=hI.ext hx
   have p1:=p1.ext hx
   have p2:=p2.ext hx
   have p3:=p3.ext hx
   have p4:=p4.ext hx
   clear hx hxa hUa hzh
   generalize ((w13.ext x13).alloc (.cells #[.int .i64 260, .slice au 32 cu] 66)).ext x14=W at *
   generalize ((w13.ext x13).alloc (.cells #[.int .i64 260, .slice au 32 cu] 66)).heap.size=gp at *
   generalize (w13.ext x13).heap.size=gq at *
   haveI:=hz.blt
   have f1:=hz.cell? 1 rfl
   refine R2.wp_region_vagueZ 11 [[],[0],[0,1],[],[],[4],[4,5],[0,1,2,3,4,5,6],[0,1,2,3,4,5,6,7],[0,1,2,3,4,5,6,7,8],[0,1,2,3,4,5,6,7,8],[0,1,2,3,4,5,6,7,8,9],[0,1,2,3,4,5,6,7,8,9,10,11]] [9,10] (by intro c a d v w h;cases d <;> exact h) (by kernel_rfl) (by kernel_rfl) (by kernel_rfl) (by kernel_rfl) (by kernel_rfl) ?_;simp only [q8q,q9q,q10q,q11q,q12q,q13q]
   (repeat (apply R2.VD_der;(case h=>(intro us w' hx hf;obtain ⟨x,rfl⟩:=hx.out;refine ⟨rfl,?_⟩;simp [go_sem,execOp, *];(try simp (disch:=omega) only [q17q,q18q,q19q]);rfl));(try simp only [Act.put,q0q,q1q,q2q])))
   (refine R2.VD_load_arr (RP16) _ rfl (fun _=>rfl) (gp) (0) (fun _=>by simp [go_sem]) ([.int .i64 0, .int .i64 4, .int .i64 4, .int .i64 1, .int .i64 6, .int .i64 (-20), .int .u32 0, .int .u32 0, .int .u32 0, .int .u64 0, .int .u64 3, .int .u64 10, .int .u64 20, .slice (some ⟨gq,0,none⟩) 1 1, .slice la i lc, .bool false]) (hzp.rd) (rfl) ?_)
   (repeat (apply R2.VD_der;(case h=>(intro us w' hx hf;obtain ⟨x,rfl⟩:=hx.out;refine ⟨rfl,?_⟩;simp [go_sem,execOp, *];(try simp (disch:=omega) only [q17q,q18q,q19q]);rfl));(try simp only [Act.put,q0q,q1q,q2q])))
   (refine R2.VD_vag (fun p => .slice (p 0).1 (16) (p 0).2) (fun p w''=>Own w'' 0 (p 0).1 (16) (p 0).2 (N2)) (fun p w w' h hx=>h.ext hx) (fun us w' hx hf=>⟨rfl,?_⟩) ?_;(unfold gives;simp [go_sem,execOp];exact vag_fresh (Nat.zero_le _) (hn2 _)))
   (refine R2.VD_vag (fun p => .tuple #[.slice (p 0).1 (X.length) (p 0).2, .int .i64 0]) (fun p w''=>Sl w'' (p 0).1 (X.length) (X)∧(X.length)≤(p 0).2) (fun p w w' h hx=>⟨h.1.ext hx,h.2⟩) (fun us w' hx hf=>⟨rfl,?_⟩) ?_;(unfold gives;simp [go_sem,execOp];exact vag_read (hpr _ _ _ _ _ _ _ _ _ (h2.ext hx) k2 (hP1.ext hx) (hI.ext hx) (Own.sl (hf _ (List.mem_append_right _ (List.mem_singleton_self _)) rfl)) (Own.le (hf _ (List.mem_append_right _ (List.mem_singleton_self _)) rfl)).1)))
   (repeat (apply R2.VD_der;(case h=>(intro us w' hx hf;obtain ⟨x,rfl⟩:=hx.out;refine ⟨rfl,?_⟩;simp [go_sem,execOp, *];(try simp (disch:=omega) only [q17q,q18q,q19q]);rfl));(try simp only [Act.put,q0q,q1q,q2q])))
   (refine R2.VD_nil ?_;intro us w' hx hf hd;obtain ⟨x,rfl⟩:=hx.out;(try simp only [Act.put,q0q,q1q,q2q,wpList_none]);(try simp only [q3q,q4q,or_false,forall_eq_or_imp,forall_eq,q5q,q6q,q7q,false_or,true_and,and_true] at hf);(try simp only [Nat.reduceAdd,Nat.zero_add] at hf ⊢))
   obtain ⟨-,hX1,hX2⟩:=hf
   have hx:Ext W (W.ext x):=hx
   have hE:=hE.trans hx
   have hB2:=hB2.extB hx
   have hU:=hU.ext hx
   have hI:=hI.ext hx
   have p1:=p1.ext hx
   have p2:=p2.ext hx
   have p3:=p3.ext hx
   have p4:=p4.ext hx
   clear hx hd hpr hn2 f1 hP1 hzp
   generalize (us 7 0).1=ax at *
   generalize (us 7 0).2=cx at *
   generalize W.ext x=W15 at *
   haveI:=hB2.blt
   go_wp2_with (first
    | (refine wpList_load_arr (RJ6) rfl _ rfl (g2) (0) rfl ([.slice (p 0).1 32 (p 0).2, .slice (p 1).1 32 (p 1).2, .slice (p 2).1 m (p 2).2, .slice (p 3).1 104 (p 3).2, .int .i64 1, .int .i64 1]) (hB2.rd) (rfl) ?_)
    | fail)
   (with_reducible refine (han _ _ _ _ _ _ _ _ _ _ _ _ _ p1 p2 q2 p3 q3 p4 hU hX1 hX2).mono ?_)
   rintro e w16 ⟨f1,fn1,fd1,f2,fn2,fd2,f3,fn3,fd3,f4,fn4,fd4,r1,rn1,rd1,r2,rn2,rd2,rfl,s1, -,s2, -,s3,sc3, -,s4, -,t1, -,t2, -,hx⟩
   dsimp only at s1 s2 s3 s4 t1 t2 ⊢
   obtain rfl:fn1=32:=by have:=s1.len;omega
   obtain rfl:fn2=32:=by have:=s2.len;omega
   obtain rfl:fn3=8:=by have:=s3.len;omega
   obtain rfl:fn4=104:=by have:=s4.len;omega
   obtain rfl:rn1=1:=by have:=t1.len;simpa using this.symm
   obtain rfl:i=rn2:=by have:=t2.len;rw [secF_length] at this;exact this
   have hU:=hU.ext hx
   have hX1:=hX1.ext hx
   have p1:=p1.ext hx
   have p2:=p2.ext hx
   have p3:=p3.ext hx
   have p4:=p4.ext hx
   have hI:=hI.ext hx
   have hB2:=hB2.extB hx
   have hE:=hE.trans hx
   clear hx t1 han
   have hxz:Ext w16 ((w16.alloc (.cells #[.slice none 0 0, .slice none 0 0, .slice none 0 0, .slice none 0 0, .int .i64 0, .int .i64 0] 54)).alloc (.cells #[.int .i64 0, .int .i64 0, .int .i64 0, .int .i64 0, .int .i64 0, .int .i64 0, .int .u32 0, .int .u32 0, .int .u32 0, .int .u64 0, .int .u64 0, .int .u64 0, .int .u64 0, .slice none 0 0, .slice none 0 0, .bool false] 32)):=(Ext.of_alloc _ _).alloc _
   have hZ1:Blk ((w16.alloc (.cells #[.slice none 0 0, .slice none 0 0, .slice none 0 0, .slice none 0 0, .int .i64 0, .int .i64 0] 54)).alloc (.cells #[.int .i64 0, .int .i64 0, .int .i64 0, .int .i64 0, .int .i64 0, .int .i64 0, .int .u32 0, .int .u32 0, .int .u32 0, .int .u64 0, .int .u64 0, .int .u64 0, .int .u64 0, .slice none 0 0, .slice none 0 0, .bool false] 32)) w16.heap.size 54 [.slice none 0 0, .slice none 0 0, .slice none 0 0, .slice none 0 0, .int .i64 0, .int .i64 0]:=bK
   have hZ2:Blk ((w16.alloc (.cells #[.slice none 0 0, .slice none 0 0, .slice none 0 0, .slice none 0 0, .int .i64 0, .int .i64 0] 54)).alloc (.cells #[.int .i64 0, .int .i64 0, .int .i64 0, .int .i64 0, .int .i64 0, .int .i64 0, .int .u32 0, .int .u32 0, .int .u32 0, .int .u64 0, .int .u64 0, .int .u64 0, .int .u64 0, .slice none 0 0, .slice none 0 0, .bool false] 32)) (w16.heap.size+1) 32 [.int .i64 0, .int .i64 0, .int .i64 0, .int .i64 0, .int .i64 0, .int .i64 0, .int .u32 0, .int .u32 0, .int .u32 0, .int .u64 0, .int .u64 0, .int .u64 0, .int .u64 0, .slice none 0 0, .slice none 0 0, .bool false]:=bK
   go_wp2_with (first
    | ((refine wpList_store_arr (RJ6) rfl _ _ rfl (w16.heap.size) (0) rfl ([.slice f1 32 fd1, .slice f2 32 fd2, .slice f3 8 fd3, .slice f4 104 fd4, .int .i64 JF.net, .int .i64 JF.sent]) rfl (54) _ (hZ1) (rfl) (by simp) (oC) ?_;intro U1 hG hM1);have hxm:=Below.trans hxz (hM1.below (Nat.le_refl _) hxz.size);have hZ2m:=Blk.turn hM1 hZ2 (by omega))
    | ((refine wpList_store_arr (RP16) rfl _ _ rfl (w16.heap.size+1) (0) rfl ([.int .i64 hR.leap, .int .i64 hR.ver, .int .i64 hR.mode, .int .i64 hR.strat, .int .i64 hR.poll, .int .i64 hR.prec, .int .u32 (n32 hR.rd), .int .u32 (n32 hR.rp), .int .u32 (n32 hR.id), .int .u64 (n64 hR.ref), .int .u64 (n64 hR.org), .int .u64 (n64 hR.rcv), .int .u64 (n64 hR.tx), .slice r1 1 rd1, .slice r2 i rd2, .bool true]) rfl (32) _ (hZ2m) (rfl) (by simp) (oC) ?_;intro U2 hP hM2);have hx:=Below.trans hxm (hM2.below (by omega) hxm.size);have hG:Blk U1 w16.heap.size 54 [.slice f1 32 fd1, .slice f2 32 fd2, .slice f3 8 fd3, .slice f4 104 fd4, .int .i64 JF.net, .int .i64 JF.sent]:=hG;have hG:=Blk.turn hM2 hG (by omega);haveI:=hG.blt;have c1:=hG.cell? 2 rfl)
    | (refine wpList_wanted (by simp [Region.wanted,yielded,Act.put]) ?_;(refine wpList_load_arr (RJ6) rfl _ rfl (w16.heap.size) (0) rfl ([.slice f1 32 fd1, .slice f2 32 fd2, .slice f3 8 fd3, .slice f4 104 fd4, .int .i64 JF.net, .int .i64 JF.sent]) (hG.rd) (rfl) ?_))
    | fail)
   have hP:Blk U2 (w16.heap.size+1) 32 [.int .i64 hR.leap, .int .i64 hR.ver, .int .i64 hR.mode, .int .i64 hR.strat, .int .i64 hR.poll, .int .i64 hR.prec, .int .u32 (n32 hR.rd), .int .u32 (n32 hR.rp), .int .u32 (n32 hR.id), .int .u64 (n64 hR.ref), .int .u64 (n64 hR.org), .int .u64 (n64 hR.rcv), .int .u64 (n64 hR.tx), .slice r1 1 rd1, .slice r2 i rd2, .bool true]:=hP
   have hx:Ext w16 U2:=hx
   have hU:=hU.ext hx
   have hX1:=hX1.ext hx
   have p1:=p1.ext hx
   have p2:=p2.ext hx
   have p3:=p3.ext hx
   have p4:=p4.ext hx
   have s1:=s1.ext hx
   have s2:=s2.ext hx
   have s3:=s3.ext hx
   have s4:=s4.ext hx
   have t2:=t2.ext hx
   have hI:=hI.ext hx
   have hB2:=hB2.extB hx
   have hE:=hE.trans hx
   clear hx hxm hxz hZ1 hZ2 hZ2m hM1 hM2 c1 hG
   (with_reducible refine (hjv _ _ _ _ _ _ _ _ _ s1 s2 s3 sc3 s4).mono ?_)
   rintro e w17 ⟨rfl,hx⟩
   have hU:=hU.ext hx
   have hX1:=hX1.ext hx
   have p1:=p1.ext hx
   have p2:=p2.ext hx
   have p3:=p3.ext hx
   have p4:=p4.ext hx
   have t2:=t2.ext hx
   have hI:=hI.ext hx
   have hB2:=hB2.extB hx
   have hP:=hP.extB hx
   have hE:=hE.trans hx
   clear hx hjv s1 s2 s3 s4
   haveI:=hP.blt
   have c14:=hP.cell? 14 rfl
   have hsm:=fun W H1 H2=>xsame_any r2 la i rd2 i lc (secF s i) (secF s i) W H1 H2 (by omega)
   rw [decide_eq_true rfl] at hsm
   go_wp2_with fail
   (with_reducible refine (hsm _ t2 hI).mono ?_)
   rintro e w18 ⟨rfl,hx⟩
   have hU:=hU.ext hx
   have hX1:=hX1.ext hx
   have p1:=p1.ext hx
   have p2:=p2.ext hx
   have p3:=p3.ext hx
   have p4:=p4.ext hx
   have hB2:=hB2.extB hx
   have hE:=hE.trans hx
   clear hx hsm c14 hP t2 hI
   go_wp2_with fail
   (with_reducible refine (hch _ _ _ hU).mono ?_)
   rintro e w19 ⟨av,cv,rfl,hOv,hx⟩
   have hU:=hU.ext hx
   have hX1:=hX1.ext hx
   have p1:=p1.ext hx
   have p2:=p2.ext hx
   have p3:=p3.ext hx
   have p4:=p4.ext hx
   have hB2:=hB2.extB hx
   have hE:=hE.trans hx
   have hv:=hOv.sl
   clear hx hch hOv
   haveI:=hB2.blt
   go_wp2_with (first
    | (refine wpList_load_arr (RJ6) rfl _ rfl (g2) (0) rfl ([.slice (p 0).1 32 (p 0).2, .slice (p 1).1 32 (p 1).2, .slice (p 2).1 m (p 2).2, .slice (p 3).1 104 (p 3).2, .int .i64 1, .int .i64 1]) (hB2.rd) (rfl) ?_)
    | fail)
   (with_reducible refine (hno _ _ _ _ _ _ _ _ _ _ _ _ _ p1 p2 q2 p3 q3 p4 hv hX1 hX2).mono ?_)
   rintro e w20 ⟨f1,fn1,fd1,f2,fn2,fd2,f3,fn3,fd3,f4,fn4,fd4,r1,rn1,rd1,r2,rn2,rd2,rfl, -, -, -, -, -, -, -, -, -, -, -, -, -,hx⟩
   dsimp only
   have hU:=hU.ext hx
   have hX1:=hX1.ext hx
   have hE:=hE.trans hx
   clear hx
   have hxz:Ext w20 ((w20.alloc (.cells #[.slice none 0 0, .slice none 0 0, .slice none 0 0, .slice none 0 0, .int .i64 0, .int .i64 0] 54)).alloc (.cells #[.int .i64 0, .int .i64 0, .int .i64 0, .int .i64 0, .int .i64 0, .int .i64 0, .int .u32 0, .int .u32 0, .int .u32 0, .int .u64 0, .int .u64 0, .int .u64 0, .int .u64 0, .slice none 0 0, .slice none 0 0, .bool false] 32)):=(Ext.of_alloc _ _).alloc _
   have hZ1:Blk ((w20.alloc (.cells #[.slice none 0 0, .slice none 0 0, .slice none 0 0, .slice none 0 0, .int .i64 0, .int .i64 0] 54)).alloc (.cells #[.int .i64 0, .int .i64 0, .int .i64 0, .int .i64 0, .int .i64 0, .int .i64 0, .int .u32 0, .int .u32 0, .int .u32 0, .int .u64 0, .int .u64 0, .int .u64 0, .int .u64 0, .slice none 0 0, .slice none 0 0, .bool false] 32)) w20.heap.size 54 [.slice none 0 0, .slice none 0 0, .slice none 0 0, .slice none 0 0, .int .i64 0, .int .i64 0]:=bK
   have hZ2:Blk ((w20.alloc (.cells #[.slice none 0 0, .slice none 0 0, .slice none 0 0, .slice none 0 0, .int .i64 0, .int .i64 0] 54)).alloc (.cells #[.int .i64 0, .int .i64 0, .int .i64 0, .int .i64 0, .int .i64 0, .int .i64 0, .int .u32 0, .int .u32 0, .int .u32 0, .int .u64 0, .int .u64 0, .int .u64 0, .int .u64 0, .slice none 0 0, .slice none 0 0, .bool false] 32)) (w20.heap.size+1) 32 [.int .i64 0, .int .i64 0, .int .i64 0, .int .i64 0, .int .i64 0, .int .i64 0, .int .u32 0, .int .u32 0, .int .u32 0, .int .u64 0, .int .u64 0, .int .u64 0, .int .u64 0, .slice none 0 0, .slice none 0 0, .bool false]:=bK
   go_wp2_with (first
    | ((refine wpList_store_arr (RJ6) rfl _ _ rfl (w20.heap.size) (0) rfl ([.slice f1 fn1 fd1, .slice f2 fn2 fd2, .slice f3 fn3 fd3, .slice f4 fn4 fd4, .int .i64 zeroJ.net, .int .i64 zeroJ.sent]) rfl (54) _ (hZ1) (rfl) (by simp) (oC) ?_;intro U1 hG hM1);have hxm:=Below.trans hxz (hM1.below (Nat.le_refl _) hxz.size);have hZ2m:=Blk.turn hM1 hZ2 (by omega))
    | ((refine wpList_store_arr (RP16) rfl _ _ rfl (w20.heap.size+1) (0) rfl ([.int .i64 zeroP.h.leap, .int .i64 zeroP.h.ver, .int .i64 zeroP.h.mode, .int .i64 zeroP.h.strat, .int .i64 zeroP.h.poll, .int .i64 zeroP.h.prec, .int .u32 (n32 zeroP.h.rd), .int .u32 (n32 zeroP.h.rp), .int .u32 (n32 zeroP.h.id), .int .u64 (n64 zeroP.h.ref), .int .u64 (n64 zeroP.h.org), .int .u64 (n64 zeroP.h.rcv), .int .u64 (n64 zeroP.h.tx), .slice r1 rn1 rd1, .slice r2 rn2 rd2, .bool zeroP.guarded]) rfl (32) _ (hZ2m) (rfl) (by simp) (oC) ?_;intro U2 hP hM2);have hx:=Below.trans hxm (hM2.below (by omega) hxm.size))
    | fail)
   have hx:Ext w20 U2:=hx
   have hU:=hU.ext hx
   have hX1:=hX1.ext hx
   have hE:=hE.trans hx
   clear hx hxm hxz hZ1 hZ2 hZ2m hM1 hM2 hG hP
   (with_reducible refine (hwj2 _).mono ?_);rintro e v1 ⟨b1,e1,b2,e2,b4,e3,rfl,j1,m1,j2,m2,j3,m3,hx⟩
   have hU:=hU.ext hx
   have hX1:=hX1.ext hx
   have hE:=hE.trans hx
   clear hx
   go_wp2_with fail
   (with_reducible refine (ha3 _ _ _ _ _ _ _ _ _ _ _ j1 j2 m2 j3 m3 hU hX1 hX2).mono ?_)
   rintro e w21 ⟨f1,fn1,fd1,f2,fn2,fd2,f3,fn3,fd3,f4,fn4,fd4,r1,rn1,rd1,r2,rn2,rd2,rfl, -, -, -, -, -, -, -, -, -, -, -, -, -,hx⟩
   dsimp only
   have hU:=hU.ext hx
   have hX1:=hX1.ext hx
   have hE:=hE.trans hx
   clear hx
   have hxz:Ext w21 ((w21.alloc (.cells #[.slice none 0 0, .slice none 0 0, .slice none 0 0, .slice none 0 0, .int .i64 0, .int .i64 0] 54)).alloc (.cells #[.int .i64 0, .int .i64 0, .int .i64 0, .int .i64 0, .int .i64 0, .int .i64 0, .int .u32 0, .int .u32 0, .int .u32 0, .int .u64 0, .int .u64 0, .int .u64 0, .int .u64 0, .slice none 0 0, .slice none 0 0, .bool false] 32)):=(Ext.of_alloc _ _).alloc _
   have hZ1:Blk ((w21.alloc (.cells #[.slice none 0 0, .slice none 0 0, .slice none 0 0, .slice none 0 0, .int .i64 0, .int .i64 0] 54)).alloc (.cells #[.int .i64 0, .int .i64 0, .int .i64 0, .int .i64 0, .int .i64 0, .int .i64 0, .int .u32 0, .int .u32 0, .int .u32 0, .int .u64 0, .int .u64 0, .int .u64 0, .int .u64 0, .slice none 0 0, .slice none 0 0, .bool false] 32)) w21.heap.size 54 [.slice none 0 0, .slice none 0 0, .slice none 0 0, .slice none 0 0, .int .i64 0, .int .i64 0]:=bK
   have hZ2:Blk ((w21.alloc (.cells #[.slice none 0 0, .slice none 0 0, .slice none 0 0, .slice none 0 0, .int .i64 0, .int .i64 0] 54)).alloc (.cells #[.int .i64 0, .int .i64 0, .int .i64 0, .int .i64 0, .int .i64 0, .int .i64 0, .int .u32 0, .int .u32 0, .int .u32 0, .int .u64 0, .int .u64 0, .int .u64 0, .int .u64 0, .slice none 0 0, .slice none 0 0, .bool false] 32)) (w21.heap.size+1) 32 [.int .i64 0, .int .i64 0, .int .i64 0, .int .i64 0, .int .i64 0, .int .i64 0, .int .u32 0, .int .u32 0, .int .u32 0, .int .u64 0, .int .u64 0, .int .u64 0, .int .u64 0, .slice none 0 0, .slice none 0 0, .bool false]:=bK
   go_wp2_with (first
    | ((refine wpList_store_arr (RJ6) rfl _ _ rfl (w21.heap.size) (0) rfl ([.slice f1 fn1 fd1, .slice f2 fn2 fd2, .slice f3 fn3 fd3, .slice f4 fn4 fd4, .int .i64 R.1.1.net, .int .i64 R.1.1.sent]) rfl (54) _ (hZ1) (rfl) (by simp) (oC) ?_;intro U1 hG hM1);have hxm:=Below.trans hxz (hM1.below (Nat.le_refl _) hxz.size);have hZ2m:=Blk.turn hM1 hZ2 (by omega))
    | ((refine wpList_store_arr (RP16) rfl _ _ rfl (w21.heap.size+1) (0) rfl ([.int .i64 R.1.2.h.leap, .int .i64 R.1.2.h.ver, .int .i64 R.1.2.h.mode, .int .i64 R.1.2.h.strat, .int .i64 R.1.2.h.poll, .int .i64 R.1.2.h.prec, .int .u32 (n32 R.1.2.h.rd), .int .u32 (n32 R.1.2.h.rp), .int .u32 (n32 R.1.2.h.id), .int .u64 (n64 R.1.2.h.ref), .int .u64 (n64 R.1.2.h.org), .int .u64 (n64 R.1.2.h.rcv), .int .u64 (n64 R.1.2.h.tx), .slice r1 rn1 rd1, .slice r2 rn2 rd2, .bool R.1.2.guarded]) rfl (32) _ (hZ2m) (rfl) (by simp) (oC) ?_;intro U2 hP hM2);have hx:=Below.trans hxm (hM2.below (by omega) hxm.size))
    | fail)
   have hx:Ext w21 U2:=hx
   have hU:=hU.ext hx
   have hX1:=hX1.ext hx
   have hE:=hE.trans hx
   clear hx hxm hxz hZ1 hZ2 hZ2m hM1 hM2 hG hP
   (with_reducible refine (hwj2 _).mono ?_);rintro e v2 ⟨b1,e1,b2,e2,b4,e3,rfl,j1,m1,j2,m2,j3,m3,hx⟩
   have hU:=hU.ext hx
   have hX1:=hX1.ext hx
   have hE:=hE.trans hx
   clear hx
   go_wp2_with fail
   (with_reducible refine (ha4 _ _ _ _ _ _ _ _ _ _ _ j1 m1 j2 m2 j3 m3 hU hX1 hX2).mono ?_)
   rintro e w22 ⟨f1,fn1,fd1,f2,fn2,fd2,f3,fn3,fd3,f4,fn4,fd4,r1,rn1,rd1,r2,rn2,rd2,rfl, -, -, -, -, -, -, -, -, -, -, -, -, -,hx⟩
   dsimp only
   have hE:=hE.trans hx
   clear hx
   have hxz:Ext w22 ((w22.alloc (.cells #[.slice none 0 0, .slice none 0 0, .slice none 0 0, .slice none 0 0, .int .i64 0, .int .i64 0] 54)).alloc (.cells #[.int .i64 0, .int .i64 0, .int .i64 0, .int .i64 0, .int .i64 0, .int .i64 0, .int .u32 0, .int .u32 0, .int .u32 0, .int .u64 0, .int .u64 0, .int .u64 0, .int .u64 0, .slice none 0 0, .slice none 0 0, .bool false] 32)):=(Ext.of_alloc _ _).alloc _
   have hZ1:Blk ((w22.alloc (.cells #[.slice none 0 0, .slice none 0 0, .slice none 0 0, .slice none 0 0, .int .i64 0, .int .i64 0] 54)).alloc (.cells #[.int .i64 0, .int .i64 0, .int .i64 0, .int .i64 0, .int .i64 0, .int .i64 0, .int .u32 0, .int .u32 0, .int .u32 0, .int .u64 0, .int .u64 0, .int .u64 0, .int .u64 0, .slice none 0 0, .slice none 0 0, .bool false] 32)) w22.heap.size 54 [.slice none 0 0, .slice none 0 0, .slice none 0 0, .slice none 0 0, .int .i64 0, .int .i64 0]:=bK
   have hZ2:Blk ((w22.alloc (.cells #[.slice none 0 0, .slice none 0 0, .slice none 0 0, .slice none 0 0, .int .i64 0, .int .i64 0] 54)).alloc (.cells #[.int .i64 0, .int .i64 0, .int .i64 0, .int .i64 0, .int .i64 0, .int .i64 0, .int .u32 0, .int .u32 0, .int .u32 0, .int .u64 0, .int .u64 0, .int .u64 0, .int .u64 0, .slice none 0 0, .slice none 0 0, .bool false] 32)) (w22.heap.size+1) 32 [.int .i64 0, .int .i64 0, .int .i64 0, .int .i64 0, .int .i64 0, .int .i64 0, .int .u32 0, .int .u32 0, .int .u32 0, .int .u64 0, .int .u64 0, .int .u64 0, .int .u64 0, .slice none 0 0, .slice none 0 0, .bool false]:=bK
   go_wp2_with (first
    | ((refine wpList_store_arr (RJ6) rfl _ _ rfl (w22.heap.size) (0) rfl ([.slice f1 fn1 fd1, .slice f2 fn2 fd2, .slice f3 fn3 fd3, .slice f4 fn4 fd4, .int .i64 R.1.1.net, .int .i64 R.1.1.sent]) rfl (54) _ (hZ1) (rfl) (by simp) (oC) ?_;intro U1 hG hM1);have hxm:=Below.trans hxz (hM1.below (Nat.le_refl _) hxz.size);have hZ2m:=Blk.turn hM1 hZ2 (by omega))
    | ((refine wpList_store_arr (RP16) rfl _ _ rfl (w22.heap.size+1) (0) rfl ([.int .i64 R.1.2.h.leap, .int .i64 R.1.2.h.ver, .int .i64 R.1.2.h.mode, .int .i64 R.1.2.h.strat, .int .i64 R.1.2.h.poll, .int .i64 R.1.2.h.prec, .int .u32 (n32 R.1.2.h.rd), .int .u32 (n32 R.1.2.h.rp), .int .u32 (n32 R.1.2.h.id), .int .u64 (n64 R.1.2.h.ref), .int .u64 (n64 R.1.2.h.org), .int .u64 (n64 R.1.2.h.rcv), .int .u64 (n64 R.1.2.h.tx), .slice r1 rn1 rd1, .slice r2 rn2 rd2, .bool R.1.2.guarded]) rfl (32) _ (hZ2m) (rfl) (by simp) (oC) ?_;intro U2 hP hM2);have hx:=Below.trans hxm (hM2.below (by omega) hxm.size))
    | fail)
   have hx:Ext w22 U2:=hx
   have hE:=hE.trans hx
   clear hx hxm hxz hZ1 hZ2 hZ2m hM1 hM2 hG hP
   (with_reducible refine (hk _).mono ?_)
   rintro e w23 ⟨rfl,hx⟩
   go_wp2_with fail
   go_ret
   exact ⟨rfl,hE.trans hx⟩
end Go.Proofs.YtdmifbfgeeldnaaGreat
