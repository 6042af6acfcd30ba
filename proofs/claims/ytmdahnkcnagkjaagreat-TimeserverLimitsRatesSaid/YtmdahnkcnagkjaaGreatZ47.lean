/- Lemmas of this claim, several texts joined. -/
import Derived.Test.YtmdahnkcnagkjaaGreatZ32
import Derived.Test.YtmdahnkcnagkjaaGreatZ42
import Derived.Test.YtmdahnkcnagkjaaGreatZ43
import Derived.Test.YtmdahnkcnagkjaaGreatZ46
set_option maxRecDepth 100000
open List renaming setIfInBounds_toArray -> q0q, set_cons_succ -> q1q, set_cons_zero -> q2q, mem_cons -> q3q, not_mem_nil -> q4q, nil_append -> q5q, cons_append -> q6q, mem_append -> q7q, take_succ_cons -> q8q, take_zero -> q9q, drop_succ_cons -> q10q, drop_zero -> q11q, take_nil -> q12q, drop_nil -> q13q, getElem_toArray -> q14q, getElem_cons_succ -> q15q, getElem_cons_zero -> q16q
open Go.IntWalk renaming i64_in -> q17q, rem_in -> q18q, wrap64_in -> q19q
set_option maxHeartbeats 8000000
set_option linter.unusedVariables false
set_option linter.unusedSimpArgs false
/- The walks of layer 26: safe. -/
namespace Go.Cook
open Go.Aes Go.Oct
theorem wU (r:Ring) (algo:Int) (up down nonce:List UInt8):(bV r algo up down nonce).1.length<=104:=by
 unfold bV
 split
 ·simp
 ·rename_i hv
  split
  ·simp
  ·rename_i ha
   split
   ·simp
   ·rename_i hp
    split
    ·simp
    ·rename_i hn
     have hv:aP r=true:=by simpa using hv
     obtain ⟨h1,_,h3,_⟩:=br.1 hv
     obtain ⟨g1,g2,g3⟩:=h1 _ (qQ h3)
     exact Nat.le_of_eq (qi g1 g2 g3 (by omega) (by omega) (by omega))
end Go.Cook
namespace Go.Proofs.YtmdahnkcnagkjaaGreat
open Go.RowKit Go.Sec Go.Oct Go.Pkt Go.Cook Go.Tsrv BigFrame
theorem tE (s:Srv) (o:Opened) (N:List (List UInt8)) (k:Nat):∀ f∈jj s o N k,f.2.length<=1000000:=λ f hf=>by
 unfold jj at hf
 obtain ⟨i,_,rfl⟩:=aa3.1 hf
 exact aau (wU _ _ _ _ _) (by omega)
def ym (o:Opened) (p:Par) (w:World):Prop:=(Sl w (p 0).1 o.up.length o.up/\o.up.length<=(p 0).2)/\Sl w (p 1).1 o.down.length o.down/\o.down.length<=(p 1).2
theorem ym.ext {o:Opened} {p:Par} {w w':World} (h:ym o p w) (hx:Ext w w'):ym o p w':=⟨⟨h.1.1.ext hx,h.1.2⟩,h.2.1.ext hx,h.2.2⟩
def BM (o:Opened) (p:Par):Value := .tuple #[.int .i64 o.algo, .agg #[.slice (p 0).1 o.up.length (p 0).2, .slice (p 1).1 o.down.length (p 1).2], .int .i64 o.age, .int .i64 o.err]
theorem zM {f:FuncId} {args:Array Value} {o:Opened} {w:World} (h:Calls Tryz.prog f args w (kS o w)) :
  Calls Tryz.prog f args w λ e w'=>∃ v,e = .returned v/\∃ p:Par,v=BM o p/\Ext w w'/\ym o p w':=by
 refine h.mono ?_
 rintro e w' ⟨a,n,c,b,m,d,rfl,h1,h2,h3,h4,hx⟩
 have l1:=h1.len
 have l2:=h3.len
 subst l1 l2
 exact ⟨_,rfl,λ i=>match i with|0=>(a,c)|_=>(b,d),rfl,hx,⟨h1,h2⟩,h3,h4⟩
theorem vq (ar p1 an:Option Addr)(nr cr m1 cn:Nat) (s:Srv) (P:Pkt) (r t:UInt64) (N:List (List UInt8)) (al:Bool) (ab:Option Addr)(nb cb:Nat) (q:List UInt8)(w:World)(h0:0<=s.str) (h1:s.str<=255) (hI:Ib w ar nr s.ring) (hcr:nr<=cr) (hnr:nr<=1000000) (hP:Ib w p1 P.plain.length P.plain) (hm1:P.plain.length<=m1) (h3:3<=P.plain.length) (h10:P.plain.length<=10) (hfs:∀ f∈P.plain,f.2.length<=1000000)
  (hN:Bsc w an N.length N) (h9:9<=N.length) (hn16:∀ x∈N,x.length<=1000000) (hb:Sl w ab nb q) (hcb:nb<=cb) (hnb:nb<=1000000) :
  Calls Tryz.prog 44 #[.agg #[.slice ar nr cr, .int .i64 s.str, .int .i64 s.ev, .int .i64 s.bu, .bool s.opn, .int .i64 P.h.leap, .int .i64 P.h.ver, .int .i64 P.h.mode, .int .i64 P.h.strat, .int .i64 P.h.poll, .int .i64 P.h.prec, .int .u32 (n32 P.h.rd), .int .u32 (n32 P.h.rp), .int .u32 (n32 P.h.id), .int .u64 (n64 P.h.ref), .int .u64 (n64 P.h.org), .int .u64 (n64 P.h.rcv), .int .u64 (n64 P.h.tx), .slice p1 P.plain.length m1, .slice none 0 0, .bool false, .int .u64 (n64 r), .int .u64 (n64 t), .slice an N.length cn, .bool al], .slice ab nb cb] w (bQ (ka s P q r t al N).1.length (ka s P q r t al N).1 (.bool (ka s P q r t al N).2) w):=by
 obtain ⟨fc,e1⟩:∃ f,P.plain[1]?=some f:=⟨_,List.getElem?_eq_getElem (by omega)⟩
 have hck:sM P=fc.2:=by unfold sM;rw [List.getD_eq_getElem?_getD,e1];rfl
 obtain ⟨b1,o1,gc,cc,rfl,hb1,c0,c1,cs,cc1⟩:=hP.at 1 (by omega) _ e1
 have c1:w.cell? ⟨b1,o1+2+1,none⟩=some (.slice gc fc.2.length cc):=by simpa using c1
 obtain ⟨bn,on,gn,mn,dn,rfl,hbn,hcn,hdn,hSn⟩:=hN.at 0 (by omega)
 have hcn:w.cell? ⟨bn,on,none⟩=some (.slice gn mn dn):=by simpa using hcn
 have hg0:N.getD 0 []=N[0]:=by rw [List.getD_eq_getElem?_getD,List.getElem?_eq_getElem (by omega),Option.getD_some]
 have hN0:N[0].length<=1000000:=hn16 _ (aaM _)
 have hA0:=Blk.new w #[.slice ar nr cr, .int .i64 s.str, .int .i64 s.ev, .int .i64 s.bu, .bool s.opn, .int .i64 P.h.leap, .int .i64 P.h.ver, .int .i64 P.h.mode, .int .i64 P.h.strat, .int .i64 P.h.poll, .int .i64 P.h.prec, .int .u32 (n32 P.h.rd), .int .u32 (n32 P.h.rp), .int .u32 (n32 P.h.id), .int .u64 (n64 P.h.ref), .int .u64 (n64 P.h.org), .int .u64 (n64 P.h.rcv), .int .u64 (n64 P.h.tx), .slice (some ⟨b1,o1,none⟩) P.plain.length m1, .slice none 0 0, .bool false, .int .u64 (n64 r), .int .u64 (n64 t), .slice (some ⟨bn,on,none⟩) N.length cn, .bool al] 97
 have f18:=hA0.cell? 18 rfl
 have hop:=λ W H1 H2=>vY ar gc nr cr fc.2.length cc s.ring fc.2 W H1 hcr hnr H2 cc1
 obtain ⟨R,hR⟩:∃ R,ka s P q r t al N=R:=⟨_,rfl⟩
 rw [hR]
 unfold ka at hR
 rw [hck,hg0] at hR
 generalize N[0]=Y0 at *
 generalize eJ s.ring fc.2=o at *
 have hpo:=λ a c W H1 H2 H3=>ud a ab o.up.length c nb cb o.up q W H1 H2 H3 hcb hnb
 replace hR:=Lib.hid hR
 clear hck e1 c0 hg0 hn16
 go_enter Tryz.func44,Tryz.ntmps44
 go_wp2_with fail
 refine dg ?_
 intro W hW
 have hEW:Ext w W:=by rw [hW];exact eX
 have hA:Blk W w.heap.size 97 [.slice ar nr cr, .int .i64 s.str, .int .i64 s.ev, .int .i64 s.bu, .bool s.opn, .int .i64 P.h.leap, .int .i64 P.h.ver, .int .i64 P.h.mode, .int .i64 P.h.strat, .int .i64 P.h.poll, .int .i64 P.h.prec, .int .u32 (n32 P.h.rd), .int .u32 (n32 P.h.rp), .int .u32 (n32 P.h.id), .int .u64 (n64 P.h.ref), .int .u64 (n64 P.h.org), .int .u64 (n64 P.h.rcv), .int .u64 (n64 P.h.tx), .slice (some ⟨b1,o1,none⟩) P.plain.length m1, .slice none 0 0, .bool false, .int .u64 (n64 r), .int .u64 (n64 t), .slice (some ⟨bn,on,none⟩) N.length cn, .bool al]:=by rw [hW];exact hA0
 clear hW f18 hA0
 have hI:=hI.ext hEW
 have hP:=hP.ext hEW
 have hN:=hN.ext hEW
 have hb:=hb.ext hEW
 have cs:=cs.ext hEW
 have c1:=(hEW.cell (p:=⟨b1,_,none⟩) hb1.lt).trans c1
 have hcn:=(hEW.cell (p:=⟨bn,on,none⟩) hbn.lt).trans hcn
 have hbn:BlkLt bn W:=⟨aak hbn.lt hEW.size⟩
 have hSn:=hSn.ext hEW
 haveI:BlkLt b1 W:=⟨aak hb1.lt hEW.size⟩
 haveI:=hA.blt
 have hrR:=Rd.sub hA.rd 0 [.slice ar nr cr] rfl
 have n1:(1:Int)<(P.plain.length:Int):=by omega
 refine R2.aJ 14 [[],[0],[0,1],[],[3],[3,4],[3,4,5],[0,1,2,3,4,5,6],[0,1,2,3,4,5,6,7],[0,1,2,3,4,5,6,7,8],[0,1,2,3,4,5,6,7,8],[0,1,2,3,4,5,6,7,8],[0,1,2,3,4,5,6,7,8],[],[0,1,2,3,4,5,6,7,8,9,13],[0,1,2,3,4,5,6,7,8,9,10,13,14],[0,1,2,3,4,5,6,7,8,9,10,11,13,14,15],[0,1,2,3,4,5,6,7,8,9,10,11,12,13,14,15,16]] [10,11,12] (by intro c a d v w h;cases d <;> exact h) (by kernel_rfl) (by kernel_rfl) (by kernel_rfl) (by kernel_rfl) (by kernel_rfl) ?_;simp only [q8q,q9q,q10q,q11q,q12q,q13q]
 (repeat (apply R2.aE;(case h=>(intro us w' hx hf;obtain ⟨x,rfl⟩:=hx.out;refine ⟨rfl,?_⟩;simp [go_sem,execOp, *];(try simp (disch:=omega) only [q17q,q18q,q19q]);rfl));(try simp only [Act.put,q0q,q1q,q2q])))
 (refine R2.aw RR1 _ rfl (λ _=>rfl) w.heap.size 0 (λ _=>by simp [go_sem]) _ hrR rfl ?_)
 (repeat (apply R2.aE;(case h=>(intro us w' hx hf;obtain ⟨x,rfl⟩:=hx.out;refine ⟨rfl,?_⟩;simp [go_sem,execOp, *];(try simp (disch:=omega) only [q17q,q18q,q19q]);rfl));(try simp only [Act.put,q0q,q1q,q2q])))
 (refine R2.aj (BM o) (ym o) (λ p w w' h hx=>h.ext hx) (λ us w' hx hf=>⟨rfl,?_⟩) ?_;(unfold gives;simp [go_sem,execOp];exact zM (hop _ (hI.ext hx) (cs.ext hx))))
 (repeat (apply R2.aE;(case h=>(intro us w' hx hf;obtain ⟨x,rfl⟩:=hx.out;refine ⟨rfl,?_⟩;simp [go_sem,execOp, *];(try simp (disch:=omega) only [q17q,q18q,q19q]);rfl));(try simp only [Act.put,q0q,q1q,q2q])))
 (refine R2.cO _ ([.slice none 0 0, .slice none 0 0]) Tryz.zeroValue55 rfl rfl rfl ?_)
 (refine R2.bj ?_;intro us w' hx hf hd;obtain ⟨x,rfl⟩:=hx.out;(try simp only [Act.put,q0q,q1q,q2q,ag]);(try simp only [q3q,q4q,aao,aaa,aal,q5q,q6q,q7q,aap,aaq,aar] at hf);(try simp only [Nat.reduceAdd,aad] at hf ⊢))
 obtain ⟨hO,g8,eg,hgW,hB8⟩:=hf
 simp only [q14q,q15q,q16q]
 rw [eg]
 clear hd eg hop hrR cs c1
 generalize us 7=p at *
 have hx:Ext W (W.ext x):=hx
 generalize W.ext x=W2 at *
 haveI:=hB8.blt
 obtain ⟨⟨hu,hcu⟩,hdd,hcd⟩:=hO
 have hlt8:=hA.lt
 by_cases q1:o.err=0
 ·have i1:(o.err == 0)=true:=by rw [aa7];exact q1
  have i2:(o.err != 0)=false:=by rw [aai];exact q1
  go_wp2_with (first
   | ((refine aa y9 rfl _ _ rfl g8 0 rfl _ rfl 55 _ hB8 rfl (by simp) oC ?_;intro V hV hMV);haveI:=Blk.blt hV;have v0:=Blk.cell? hV 0 rfl)
   | fail)
  have hV:Blk V g8 55 [.slice (p 0).1 o.up.length (p 0).2, .slice (p 1).1 o.down.length (p 1).2]:=hV
  have hEV:Ext W V:=Below.trans hx (hMV.below hgW hx.size)
  have hu:=hu.mut hB8 (by simp) hMV
  have hdd:=hdd.mut hB8 (by simp) hMV
  have hA:=hA.extB hEV
  have hI:=hI.ext hEV
  have hP:=hP.ext hEV
  have hN:=hN.ext hEV
  have hb:=hb.ext hEV
  have hSn:=hSn.ext hEV
  have hcn:=(hEV.cell (p:=⟨bn,on,none⟩) hbn.lt).trans hcn
  have hbn:BlkLt bn V:=⟨aak hbn.lt hEV.size⟩
  have hE:=hEW.trans hEV
  clear hMV hB8 hx hEV hEW
  (with_reducible refine (hpo _ _ _ hu hcu hb).mono ?_)
  rintro e W4 ⟨a5,n5,c5,a6,n6,c6,rfl, -, -, -, -,hx4⟩
  have hu:=hu.ext hx4
  have hdd:=hdd.ext hx4
  have hA:=hA.extB hx4
  have hV:=hV.extB hx4
  have hI:=hI.ext hx4
  have hP:=hP.ext hx4
  have hN:=hN.ext hx4
  have hSn:=hSn.ext hx4
  have hcn:=(hx4.cell (p:=⟨bn,on,none⟩) hbn.lt).trans hcn
  have hbn:BlkLt bn W4:=⟨aak hbn.lt hx4.size⟩
  have hE:=hE.trans hx4
  clear hx4 hpo hb
  by_cases q2:(cW o.up q).2=0
  ·have i3:((cW o.up q).2 != 0)=false:=by rw [aai];exact q2
   replace hR:=hR.out
   rw [aaf (by rw [q1,q2];simp)] at hR
   replace hR:=Lib.hid hR
   clear q1 q2
   have htm:=λ W=>pC ar (some ⟨b1,o1,none⟩) (some ⟨bn,on,none⟩) nr cr m1 cn s P r t N al W h0 h1
   have hP1:=hP.take 1 (by omega)
   have l1:(P.plain.take 1).length=1:=by rw [aaD];omega
   have m1I:(1:Int)<=(m1:Int):=by omega
   have hpr:=λ ak a2 nk ck n2 c2 W H1 H2 H3 H4 H5=>qO ak gn (some ⟨b1,o1,none⟩) a2 nk ck mn dn 1 m1 n2 c2 (rI s P o r t al N) o.down Y0 W H1 H2 H3 hdn (by have:=H3.len;omega) H4 (by omega) (λ f hf=>hfs f (aa4 hf)) H5
   haveI:=hA.blt
   go_wp2_with fail
   cases al
   ·have hs:(rI s P o r t false N).secret=[]:=rfl
    obtain ⟨L,hL⟩:∃ L,cD o.down (rI s P o r t false N) Y0=L:=⟨_,rfl⟩
    replace hR:=hR.out
    rw [hL] at hR
    replace hR:=Lib.hid hR
    have hprF:∀ (ak a2:Option Addr)(nk ck n2 c2:Nat) (W:World),Sl W ak nk o.down->nk<=ck->Sl W gn mn Y0->Ib W (some ⟨b1,o1,none⟩) 1 (P.plain.take 1)->Ib W a2 n2 []->n2<=1000000->Calls Tryz.prog 84 #[.slice ak nk ck, .agg #[.int .i64 (bC s P.h r t false).leap, .int .i64 (bC s P.h r t false).ver, .int .i64 (bC s P.h r t false).mode, .int .i64 (bC s P.h r t false).strat, .int .i64 (bC s P.h r t false).poll, .int .i64 (bC s P.h r t false).prec, .int .u32 (n32 (bC s P.h r t false).rd), .int .u32 (n32 (bC s P.h r t false).rp), .int .u32 (n32 (bC s P.h r t false).id), .int .u64 (n64 (bC s P.h r t false).ref), .int .u64 (n64 (bC s P.h r t false).org), .int .u64 (n64 (bC s P.h r t false).rcv), .int .u64 (n64 (bC s P.h r t false).tx), .slice (some ⟨b1,o1,none⟩) 1 m1, .slice a2 n2 c2, .bool false], .slice gn mn dn] W (bQ L.1.length L.1 (.int .i64 L.2) W):=λ ak a2 nk ck n2 c2 W H1 H2 H3 H4 H5 H6=>by
     have:=hpr ak a2 nk ck n2 c2 W H1 H2 H3 H4 (by rw [hs];exact H5) H6 (by rw [hs];intro f hf;cases hf)
     rw [hL] at this
     exact this
    clear hpr hs hL
    generalize bC s P.h r t false=K at *
    refine R2.aJ 6 [[],[0],[],[2],[0,1,2,3],[],[0,1,2,3,4,5]] [] (by intro c a d v w h;cases d <;> exact h) (by kernel_rfl) (by kernel_rfl) (by kernel_rfl) (by kernel_rfl) (by kernel_rfl) ?_;simp only [q8q,q9q,q10q,q11q,q12q,q13q]
    (refine R2.aw l9 _ rfl (λ _=>rfl) w.heap.size 0 (λ _=>by simp [go_sem]) _ hA.rd rfl ?_)
    (refine R2.aj (λ _ => .agg #[.int .i64 K.leap, .int .i64 K.ver, .int .i64 K.mode, .int .i64 K.strat, .int .i64 K.poll, .int .i64 K.prec, .int .u32 (n32 K.rd), .int .u32 (n32 K.rp), .int .u32 (n32 K.id), .int .u64 (n64 K.ref), .int .u64 (n64 K.org), .int .u64 (n64 K.rcv), .int .u64 (n64 K.tx)]) (λ _ _=>True) (λ _ _ _ _ _=>trivial) (λ us w' hx hf=>⟨rfl,?_⟩) ?_;(unfold gives;simp [go_sem,execOp];refine (htm _).mono ?_;rintro e w1 ⟨rfl,hx1⟩;first|exact ⟨rfl,hx1⟩|simpa using hx1))
    (repeat (apply R2.aE;(case h=>(intro us w' hx hf;obtain ⟨x,rfl⟩:=hx.out;refine ⟨rfl,?_⟩;simp [go_sem,execOp, *];(try simp (disch:=omega) only [q17q,q18q,q19q]);rfl));(try simp only [Act.put,q0q,q1q,q2q])))
    (refine R2.cO _ ([.int .i64 0, .int .i64 0, .int .i64 0, .int .i64 0, .int .i64 0, .int .i64 0, .int .u32 0, .int .u32 0, .int .u32 0, .int .u64 0, .int .u64 0, .int .u64 0, .int .u64 0, .slice none 0 0, .slice none 0 0, .bool false]) Tryz.zeroValue67 rfl rfl rfl ?_)
    (refine R2.bj ?_;intro us w' hx hf hd;obtain ⟨x,rfl⟩:=hx.out;(try simp only [Act.put,q0q,q1q,q2q,ag]);(try simp only [q3q,q4q,aao,aaa,aal,q5q,q6q,q7q,aap,aaq,aar] at hf);(try simp only [Nat.reduceAdd,aad] at hf ⊢))
    obtain ⟨g11,eg,hgW,hB11⟩:=hf
    rw [eg]
    have hx:Ext W4 (W4.ext x):=hx
    have hltA:=hA.lt
    have hszE:=hE.size
    have hlbn:=hbn.lt
    have hltV:=hV.lt
    have hA5:=hA.extB hx
    have hV5:=hV.extB hx
    clear eg htm
    generalize W4.ext x=W5 at *
    haveI:=hB11.blt
    go_wp2_with (first
     | ((refine aa aY rfl _ _ rfl g11 0 rfl _ rfl 67 _ hB11 rfl (by simp) oC ?_;intro U hU hMU);have hAU:=Blk.turn hMU hA5 (by omega);have hVU:=Blk.turn hMU hV5 (by omega);haveI:=hAU.blt;have v24:=hAU.cell? 24 rfl)
     | fail)
    have hU:Blk U g11 67 [.int .i64 K.leap, .int .i64 K.ver, .int .i64 K.mode, .int .i64 K.strat, .int .i64 K.poll, .int .i64 K.prec, .int .u32 (n32 K.rd), .int .u32 (n32 K.rp), .int .u32 (n32 K.id), .int .u64 (n64 K.ref), .int .u64 (n64 K.org), .int .u64 (n64 K.rcv), .int .u64 (n64 K.tx), .slice (some ⟨b1,o1,none⟩) 1 m1, .slice none 0 0, .bool false]:=hU
    have hEU:Ext W4 U:=Below.trans hx (hMU.below hgW hx.size)
    have hdd:=hdd.ext hEU
    have hP1:=hP1.ext hEU
    have hSn:=hSn.ext hEU
    have hcn:=(hEU.cell (p:=⟨bn,on,none⟩) hbn.lt).trans hcn
    have hbn:BlkLt bn U:=⟨aak hbn.lt hEU.size⟩
    have hE:=hE.trans hEU
    clear hMU hEU hx hA5 hV5 v24
    haveI:=hVU.blt
    haveI:=hAU.blt
    have v1:=hVU.cell? 1 rfl
    have v23:=hAU.cell? 23 rfl
    have n0:0<N.length:=by omega
    refine R2.aJ 11 [[],[0],[],[],[3],[3,4],[3,4,5],[0,1,2,3,4,5,6],[0,1,2,3,4,5,6,7],[0,1,2,3,4,5,6,7,8],[0,1,2,3,4,5,6,7,8],[0,1,2,3,4,5,6,7,8,9]] [10] (by intro c a d v w h;cases d <;> exact h) (by kernel_rfl) (by kernel_rfl) (by kernel_rfl) (by kernel_rfl) (by kernel_rfl) ?_;simp only [q8q,q9q,q10q,q11q,q12q,q13q]
    (repeat (apply R2.aE;(case h=>(intro us w' hx hf;obtain ⟨x,rfl⟩:=hx.out;refine ⟨rfl,?_⟩;simp [go_sem,execOp, *];(try simp (disch:=omega) only [q17q,q18q,q19q]);rfl));(try simp only [Act.put,q0q,q1q,q2q])))
    (refine R2.aw aY _ rfl (λ _=>rfl) g11 0 (λ _=>by simp [go_sem]) _ hU.rd rfl ?_)
    (repeat (apply R2.aE;(case h=>(intro us w' hx hf;obtain ⟨x,rfl⟩:=hx.out;refine ⟨rfl,?_⟩;simp [go_sem,execOp, *];(try simp (disch:=omega) only [q17q,q18q,q19q]);rfl));(try simp only [Act.put,q0q,q1q,q2q])))
    (refine R2.aj (λ p => .tuple #[.slice (p 0).1 L.1.length (p 0).2, .int .i64 L.2]) (λ p w''=>Sl w'' (p 0).1 L.1.length (L.1)/\(L.1.length)<=(p 0).2) (λ p w w' h hx=>⟨h.1.ext hx,h.2⟩) (λ us w' hx hf=>⟨rfl,?_⟩) ?_;(unfold gives;simp [go_sem,execOp];exact eM (hprF _ _ _ _ _ _ _ (hdd.ext hx) hcd (hSn.ext hx) (hP1.ext hx) (Ib.nil _ _) (by omega))))
    (repeat (apply R2.aE;(case h=>(intro us w' hx hf;obtain ⟨x,rfl⟩:=hx.out;refine ⟨rfl,?_⟩;simp [go_sem,execOp, *];(try simp (disch:=omega) only [q17q,q18q,q19q]);rfl));(try simp only [Act.put,q0q,q1q,q2q])))
    (refine R2.bj ?_;intro us w' hx hf hd;obtain ⟨x,rfl⟩:=hx.out;(try simp only [Act.put,q0q,q1q,q2q,ag]);(try simp only [q3q,q4q,aao,aaa,aal,q5q,q6q,q7q,aap,aaq,aar] at hf);(try simp only [Nat.reduceAdd,aad] at hf ⊢))
    obtain ⟨hS,hc⟩:=hf
    go_wp2_with fail
    go_ret2
    exact ⟨_,_,by rw [<- hR.out];rfl,by rw [<- hR.out];exact hS,by rw [<- hR.out];exact hc,hE.trans hx⟩
   ·have hs:(rI s P o r t true N).secret=jj s o N (P.plain.length-2):=rfl
    obtain ⟨L,hL⟩:∃ L,cD o.down (rI s P o r t true N) Y0=L:=⟨_,rfl⟩
    replace hR:=hR.out
    rw [hL] at hR
    replace hR:=Lib.hid hR
    have hprF:∀ (ak a2:Option Addr)(nk ck n2 c2:Nat) (W:World),Sl W ak nk o.down->nk<=ck->Sl W gn mn Y0->Ib W (some ⟨b1,o1,none⟩) 1 (P.plain.take 1)->Ib W a2 n2 (jj s o N (P.plain.length-2))->n2<=1000000->Calls Tryz.prog 84 #[.slice ak nk ck, .agg #[.int .i64 (bC s P.h r t true).leap, .int .i64 (bC s P.h r t true).ver, .int .i64 (bC s P.h r t true).mode, .int .i64 (bC s P.h r t true).strat, .int .i64 (bC s P.h r t true).poll, .int .i64 (bC s P.h r t true).prec, .int .u32 (n32 (bC s P.h r t true).rd), .int .u32 (n32 (bC s P.h r t true).rp), .int .u32 (n32 (bC s P.h r t true).id), .int .u64 (n64 (bC s P.h r t true).ref), .int .u64 (n64 (bC s P.h r t true).org), .int .u64 (n64 (bC s P.h r t true).rcv), .int .u64 (n64 (bC s P.h r t true).tx), .slice (some ⟨b1,o1,none⟩) 1 m1, .slice a2 n2 c2, .bool false], .slice gn mn dn] W (bQ L.1.length L.1 (.int .i64 L.2) W):=λ ak a2 nk ck n2 c2 W H1 H2 H3 H4 H5 H6=>by
     have:=hpr ak a2 nk ck n2 c2 W H1 H2 H3 H4 (by rw [hs];exact H5) H6 (by rw [hs];exact tE _ _ _ _)
     rw [hL] at this
     exact this
    clear hpr hs hL
    generalize bC s P.h r t true=K at *
    refine R2.aJ 6 [[],[0],[],[2],[0,1,2,3],[],[0,1,2,3,4,5]] [] (by intro c a d v w h;cases d <;> exact h) (by kernel_rfl) (by kernel_rfl) (by kernel_rfl) (by kernel_rfl) (by kernel_rfl) ?_;simp only [q8q,q9q,q10q,q11q,q12q,q13q]
    (refine R2.aw l9 _ rfl (λ _=>rfl) w.heap.size 0 (λ _=>by simp [go_sem]) _ hA.rd rfl ?_)
    (refine R2.aj (λ _ => .agg #[.int .i64 K.leap, .int .i64 K.ver, .int .i64 K.mode, .int .i64 K.strat, .int .i64 K.poll, .int .i64 K.prec, .int .u32 (n32 K.rd), .int .u32 (n32 K.rp), .int .u32 (n32 K.id), .int .u64 (n64 K.ref), .int .u64 (n64 K.org), .int .u64 (n64 K.rcv), .int .u64 (n64 K.tx)]) (λ _ _=>True) (λ _ _ _ _ _=>trivial) (λ us w' hx hf=>⟨rfl,?_⟩) ?_;(unfold gives;simp [go_sem,execOp];refine (htm _).mono ?_;rintro e w1 ⟨rfl,hx1⟩;first|exact ⟨rfl,hx1⟩|simpa using hx1))
    (repeat (apply R2.aE;(case h=>(intro us w' hx hf;obtain ⟨x,rfl⟩:=hx.out;refine ⟨rfl,?_⟩;simp [go_sem,execOp, *];(try simp (disch:=omega) only [q17q,q18q,q19q]);rfl));(try simp only [Act.put,q0q,q1q,q2q])))
    (refine R2.cO _ ([.int .i64 0, .int .i64 0, .int .i64 0, .int .i64 0, .int .i64 0, .int .i64 0, .int .u32 0, .int .u32 0, .int .u32 0, .int .u64 0, .int .u64 0, .int .u64 0, .int .u64 0, .slice none 0 0, .slice none 0 0, .bool false]) Tryz.zeroValue67 rfl rfl rfl ?_)
    (refine R2.bj ?_;intro us w' hx hf hd;obtain ⟨x,rfl⟩:=hx.out;(try simp only [Act.put,q0q,q1q,q2q,ag]);(try simp only [q3q,q4q,aao,aaa,aal,q5q,q6q,q7q,aap,aaq,aar] at hf);(try simp only [Nat.reduceAdd,aad] at hf ⊢))
    obtain ⟨g11,eg,hgW,hB11⟩:=hf
    rw [eg]
    have hx:Ext W4 (W4.ext x):=hx
    have hltA:=hA.lt
    have hszE:=hE.size
    have hlbn:=hbn.lt
    have hltV:=hV.lt
    have hA5:=hA.extB hx
    have hV5:=hV.extB hx
    clear eg htm
    generalize W4.ext x=W5 at *
    haveI:=hB11.blt
    go_wp2_with (first
     | ((refine aa aY rfl _ _ rfl g11 0 rfl _ rfl 67 _ hB11 rfl (by simp) oC ?_;intro U hU hMU);have hAU:=Blk.turn hMU hA5 (by omega);have hVU:=Blk.turn hMU hV5 (by omega);haveI:=hAU.blt;have v24:=hAU.cell? 24 rfl)
     | (refine af l9 rfl _ rfl w.heap.size 0 rfl _ hAU.rd rfl ?_)
     | (refine af y9 rfl _ rfl g8 0 rfl _ hVU.rd rfl ?_)
     | fail)
    have hU:Blk U g11 67 [.int .i64 K.leap, .int .i64 K.ver, .int .i64 K.mode, .int .i64 K.strat, .int .i64 K.poll, .int .i64 K.prec, .int .u32 (n32 K.rd), .int .u32 (n32 K.rp), .int .u32 (n32 K.id), .int .u64 (n64 K.ref), .int .u64 (n64 K.org), .int .u64 (n64 K.rcv), .int .u64 (n64 K.tx), .slice (some ⟨b1,o1,none⟩) 1 m1, .slice none 0 0, .bool false]:=hU
    have hEU:Ext W4 U:=Below.trans hx (hMU.below hgW hx.size)
    have hdd:=hdd.ext hEU
    have hP1:=hP1.ext hEU
    have hSn:=hSn.ext hEU
    have hcn:=(hEU.cell (p:=⟨bn,on,none⟩) hbn.lt).trans hcn
    have hbn:BlkLt bn U:=⟨aak hbn.lt hEU.size⟩
    have hE:=hE.trans hEU
    have hI:=hI.ext hEU
    have hN:=hN.ext hEU
    have hu:=hu.ext hEU
    clear hMU hEU hx hA5 hV5 v24
    (with_reducible refine (qN ar (some ⟨b1,o1,none⟩) (some ⟨bn,on,none⟩) nr cr m1 cn s P r t N true o _ _ _ _ _ _ _ hI hcr hnr hN hu hcu hdd hcd h3 h10 h9).mono ?_)
    rintro e W6 ⟨sa,sc,rfl,⟨B6,hO6⟩,hx⟩
    have hIb:=hO6.ib.1
    have hAU:=hAU.extB hx
    have hVU:=hVU.extB hx
    have hU:=hU.extB hx
    have hdd:=hdd.ext hx
    have hP1:=hP1.ext hx
    have hSn:=hSn.ext hx
    have hcn:=(hx.cell (p:=⟨bn,on,none⟩) hbn.lt).trans hcn
    have hbn:BlkLt bn W6:=⟨aak hbn.lt hx.size⟩
    have hE:=hE.trans hx
    clear hx hO6
    haveI:=hU.blt
    have u14:=hU.cell? 14 rfl
    have r14:=hU.free 14
    go_wp2_with fail
    refine dg ?_
    intro W7 hW7
    have hM7:Mut g11 W6 W7:=by rw [hW7];exact (by repeat (with_reducible first|exact Mut.refl _ _|assumption|apply Mut.ext|apply Mut.drew|apply Mut.alloc|apply Mut.setCell))
    have hU7:Blk W7 g11 67 [.int .i64 K.leap, .int .i64 K.ver, .int .i64 K.mode, .int .i64 K.strat, .int .i64 K.poll, .int .i64 K.prec, .int .u32 (n32 K.rd), .int .u32 (n32 K.rp), .int .u32 (n32 K.id), .int .u64 (n64 K.ref), .int .u64 (n64 K.org), .int .u64 (n64 K.rcv), .int .u64 (n64 K.tx), .slice (some ⟨b1,o1,none⟩) 1 m1, .slice sa (P.plain.length-2) sc, .bool false]:=by rw [hW7];exact hU.set 14 _
    have hAU:=Blk.turn hM7 hAU (by omega)
    have hVU:=Blk.turn hM7 hVU (by omega)
    have hdd:=hdd.mut hU (by simp) hM7
    have hSn:=hSn.mut hU (by simp) hM7
    have hP1:=hP1.mutq hU (by simp) rfl hM7
    have hIb:=hIb.mutq hU (by simp) rfl hM7
    have hcn:W7.cell? ⟨bn,on,none⟩=some (.slice gn mn dn):=(World.cell?_of_block (hM7.block bn hbn.lt (λ e=>by injection e with e;omega))).trans hcn
    have hbn:BlkLt bn W7:=⟨aak hbn.lt hM7.size⟩
    have hE:Ext w W7:=Below.trans hE (hM7.below (by omega) hE.size)
    clear hM7 hU hW7 u14 r14
    haveI:=hVU.blt
    haveI:=hAU.blt
    have v1:=hVU.cell? 1 rfl
    have v23:=hAU.cell? 23 rfl
    have n0:0<N.length:=by omega
    refine R2.aJ 11 [[],[0],[],[],[3],[3,4],[3,4,5],[0,1,2,3,4,5,6],[0,1,2,3,4,5,6,7],[0,1,2,3,4,5,6,7,8],[0,1,2,3,4,5,6,7,8],[0,1,2,3,4,5,6,7,8,9]] [10] (by intro c a d v w h;cases d <;> exact h) (by kernel_rfl) (by kernel_rfl) (by kernel_rfl) (by kernel_rfl) (by kernel_rfl) ?_;simp only [q8q,q9q,q10q,q11q,q12q,q13q]
    (repeat (apply R2.aE;(case h=>(intro us w' hx hf;obtain ⟨x,rfl⟩:=hx.out;refine ⟨rfl,?_⟩;simp [go_sem,execOp, *];(try simp (disch:=omega) only [q17q,q18q,q19q]);rfl));(try simp only [Act.put,q0q,q1q,q2q])))
    (refine R2.aw aY _ rfl (λ _=>rfl) g11 0 (λ _=>by simp [go_sem]) _ hU7.rd rfl ?_)
    (repeat (apply R2.aE;(case h=>(intro us w' hx hf;obtain ⟨x,rfl⟩:=hx.out;refine ⟨rfl,?_⟩;simp [go_sem,execOp, *];(try simp (disch:=omega) only [q17q,q18q,q19q]);rfl));(try simp only [Act.put,q0q,q1q,q2q])))
    (refine R2.aj (λ p => .tuple #[.slice (p 0).1 L.1.length (p 0).2, .int .i64 L.2]) (λ p w''=>Sl w'' (p 0).1 L.1.length (L.1)/\(L.1.length)<=(p 0).2) (λ p w w' h hx=>⟨h.1.ext hx,h.2⟩) (λ us w' hx hf=>⟨rfl,?_⟩) ?_;(unfold gives;simp [go_sem,execOp];exact eM (hprF _ _ _ _ _ _ _ (hdd.ext hx) hcd (hSn.ext hx) (hP1.ext hx) (hIb.ext hx) (by omega))))
    (repeat (apply R2.aE;(case h=>(intro us w' hx hf;obtain ⟨x,rfl⟩:=hx.out;refine ⟨rfl,?_⟩;simp [go_sem,execOp, *];(try simp (disch:=omega) only [q17q,q18q,q19q]);rfl));(try simp only [Act.put,q0q,q1q,q2q])))
    (refine R2.bj ?_;intro us w' hx hf hd;obtain ⟨x,rfl⟩:=hx.out;(try simp only [Act.put,q0q,q1q,q2q,ag]);(try simp only [q3q,q4q,aao,aaa,aal,q5q,q6q,q7q,aap,aaq,aar] at hf);(try simp only [Nat.reduceAdd,aad] at hf ⊢))
    obtain ⟨hS,hc⟩:=hf
    go_wp2_with fail
    go_ret2
    exact ⟨_,_,by rw [<- hR.out];rfl,by rw [<- hR.out];exact hS,by rw [<- hR.out];exact hc,hE.trans hx⟩
  ·have i3:((cW o.up q).2 != 0)=true:=by rw [aaw];exact q2
   replace hR:=hR.out
   rw [aam (.inr q2)] at hR
   clear q1 q2
   go_wp2_with fail
   have hrf:=λ W=>pE ar (some ⟨b1,o1,none⟩) (some ⟨bn,on,none⟩) nr cr m1 cn s P r t N al W h0 h1
   have hP1:=hP.take 1 (by omega)
   have l1:(P.plain.take 1).length=1:=by rw [aaD];omega
   have hba:=λ W H=>lK (some ⟨b1,o1,none⟩) none 1 m1 0 0 (rE P r t) W H (by omega) (λ f hf=>hfs f (aa4 hf)) rfl
   obtain ⟨L,hL⟩:∃ L,en (rE P r t)=L:=⟨_,rfl⟩
   rw [hL] at hba hR
   have hba:∀ W,Ib W (some ⟨b1,o1,none⟩) 1 (P.plain.take 1)->Calls Tryz.prog 78 #[.agg #[.int .i64 (cy P.h r t cN).leap, .int .i64 (cy P.h r t cN).ver, .int .i64 (cy P.h r t cN).mode, .int .i64 (cy P.h r t cN).strat, .int .i64 (cy P.h r t cN).poll, .int .i64 (cy P.h r t cN).prec, .int .u32 (n32 (cy P.h r t cN).rd), .int .u32 (n32 (cy P.h r t cN).rp), .int .u32 (n32 (cy P.h r t cN).id), .int .u64 (n64 (cy P.h r t cN).ref), .int .u64 (n64 (cy P.h r t cN).org), .int .u64 (n64 (cy P.h r t cN).rcv), .int .u64 (n64 (cy P.h r t cN).tx), .slice (some ⟨b1,o1,none⟩) 1 m1, .slice none 0 0, .bool false]] W (bQ L.1.length L.1 (.int .i64 L.2) W):=hba
   generalize cy P.h r t cN=K at *
   replace hR:=Lib.hid hR
   clear hL l1
   haveI:=hA.blt
   have m1I:(1:Int)<=(m1:Int):=by omega
   refine R2.aJ 9 [[],[0],[],[2],[0,1,2,3],[0,1,2,3,4],[0,1,2,3,4,5],[0,1,2,3,4,5,6],[0,1,2,3,4,5,6],[0,1,2,3,4,5,6,7]] [8] (by intro c a d v w h;cases d <;> exact h) (by kernel_rfl) (by kernel_rfl) (by kernel_rfl) (by kernel_rfl) (by kernel_rfl) ?_;simp only [q8q,q9q,q10q,q11q,q12q,q13q]
   (refine R2.aw l9 _ rfl (λ _=>rfl) w.heap.size 0 (λ _=>by simp [go_sem]) _ hA.rd rfl ?_)
   (refine R2.aj (λ _ => .agg #[.int .i64 K.leap, .int .i64 K.ver, .int .i64 K.mode, .int .i64 K.strat, .int .i64 K.poll, .int .i64 K.prec, .int .u32 (n32 K.rd), .int .u32 (n32 K.rp), .int .u32 (n32 K.id), .int .u64 (n64 K.ref), .int .u64 (n64 K.org), .int .u64 (n64 K.rcv), .int .u64 (n64 K.tx)]) (λ _ _=>True) (λ _ _ _ _ _=>trivial) (λ us w' hx hf=>⟨rfl,?_⟩) ?_;(unfold gives;simp [go_sem,execOp];refine (hrf _).mono ?_;rintro e w1 ⟨rfl,hx1⟩;first|exact ⟨rfl,hx1⟩|simpa using hx1))
   (repeat (apply R2.aE;(case h=>(intro us w' hx hf;obtain ⟨x,rfl⟩:=hx.out;refine ⟨rfl,?_⟩;simp [go_sem,execOp, *];(try simp (disch:=omega) only [q17q,q18q,q19q]);rfl));(try simp only [Act.put,q0q,q1q,q2q])))
   (refine R2.aj (λ p => .tuple #[.slice (p 0).1 L.1.length (p 0).2, .int .i64 L.2]) (λ p w''=>Sl w'' (p 0).1 L.1.length (L.1)/\(L.1.length)<=(p 0).2) (λ p w w' h hx=>⟨h.1.ext hx,h.2⟩) (λ us w' hx hf=>⟨rfl,?_⟩) ?_;(unfold gives;simp [go_sem,execOp];exact eM (hba _ (hP1.ext hx))))
   (repeat (apply R2.aE;(case h=>(intro us w' hx hf;obtain ⟨x,rfl⟩:=hx.out;refine ⟨rfl,?_⟩;simp [go_sem,execOp, *];(try simp (disch:=omega) only [q17q,q18q,q19q]);rfl));(try simp only [Act.put,q0q,q1q,q2q])))
   (refine R2.bj ?_;intro us w' hx hf hd;obtain ⟨x,rfl⟩:=hx.out;(try simp only [Act.put,q0q,q1q,q2q,ag]);(try simp only [q3q,q4q,aao,aaa,aal,q5q,q6q,q7q,aap,aaq,aar] at hf);(try simp only [Nat.reduceAdd,aad] at hf ⊢))
   obtain ⟨hS,hc⟩:=hf
   go_wp2_with fail
   go_ret2
   exact ⟨_,_,by rw [<- hR.out];rfl,by rw [<- hR.out];exact hS,by rw [<- hR.out];exact hc,hE.trans hx⟩
 ·have i1:(o.err == 0)=false:=by rw [aaJ];exact q1
  have i2:(o.err != 0)=true:=by rw [aaw];exact q1
  replace hR:=hR.out
  rw [aam (.inl q1)] at hR
  clear hpo q1
  obtain ⟨R1,hR1⟩:∃ X,X=R:=⟨_,rfl⟩
  replace hR:=Lib.hid hR
  go_wp2_with (first
   | ((refine aa y9 rfl _ _ rfl g8 0 rfl _ rfl 55 _ hB8 rfl (by simp) oC ?_;intro V hV hMV);haveI:=Blk.blt hV;have v0:=Blk.cell? hV 0 rfl)
   | fail)
  have hV:Blk V g8 55 [.slice (p 0).1 o.up.length (p 0).2, .slice (p 1).1 o.down.length (p 1).2]:=hV
  have hEV:Ext W V:=Below.trans hx (hMV.below hgW hx.size)
  have hu:=hu.mut hB8 (by simp) hMV
  have hdd:=hdd.mut hB8 (by simp) hMV
  have hA:=hA.extB hEV
  have hI:=hI.ext hEV
  have hP:=hP.ext hEV
  have hN:=hN.ext hEV
  have hb:=hb.ext hEV
  have hSn:=hSn.ext hEV
  have hcn:=(hEV.cell (p:=⟨bn,on,none⟩) hbn.lt).trans hcn
  have hbn:BlkLt bn V:=⟨aak hbn.lt hEV.size⟩
  have hE:=hEW.trans hEV
  clear hMV hB8 hx hEV hEW
  replace hR:=hR.out
  have hrf:=λ W=>pE ar (some ⟨b1,o1,none⟩) (some ⟨bn,on,none⟩) nr cr m1 cn s P r t N al W h0 h1
  have hP1:=hP.take 1 (by omega)
  have l1:(P.plain.take 1).length=1:=by rw [aaD];omega
  have hba:=λ W H=>lK (some ⟨b1,o1,none⟩) none 1 m1 0 0 (rE P r t) W H (by omega) (λ f hf=>hfs f (aa4 hf)) rfl
  obtain ⟨L,hL⟩:∃ L,en (rE P r t)=L:=⟨_,rfl⟩
  rw [hL] at hba hR
  have hba:∀ W,Ib W (some ⟨b1,o1,none⟩) 1 (P.plain.take 1)->Calls Tryz.prog 78 #[.agg #[.int .i64 (cy P.h r t cN).leap, .int .i64 (cy P.h r t cN).ver, .int .i64 (cy P.h r t cN).mode, .int .i64 (cy P.h r t cN).strat, .int .i64 (cy P.h r t cN).poll, .int .i64 (cy P.h r t cN).prec, .int .u32 (n32 (cy P.h r t cN).rd), .int .u32 (n32 (cy P.h r t cN).rp), .int .u32 (n32 (cy P.h r t cN).id), .int .u64 (n64 (cy P.h r t cN).ref), .int .u64 (n64 (cy P.h r t cN).org), .int .u64 (n64 (cy P.h r t cN).rcv), .int .u64 (n64 (cy P.h r t cN).tx), .slice (some ⟨b1,o1,none⟩) 1 m1, .slice none 0 0, .bool false]] W (bQ L.1.length L.1 (.int .i64 L.2) W):=hba
  generalize cy P.h r t cN=K at *
  replace hR:=Lib.hid hR
  clear hL l1
  haveI:=hA.blt
  have m1I:(1:Int)<=(m1:Int):=by omega
  refine R2.aJ 9 [[],[0],[],[2],[0,1,2,3],[0,1,2,3,4],[0,1,2,3,4,5],[0,1,2,3,4,5,6],[0,1,2,3,4,5,6],[0,1,2,3,4,5,6,7]] [8] (by intro c a d v w h;cases d <;> exact h) (by kernel_rfl) (by kernel_rfl) (by kernel_rfl) (by kernel_rfl) (by kernel_rfl) ?_;simp only [q8q,q9q,q10q,q11q,q12q,q13q]
  (refine R2.aw l9 _ rfl (λ _=>rfl) w.heap.size 0 (λ _=>by simp [go_sem]) _ hA.rd rfl ?_)
  (refine R2.aj (λ _ => .agg #[.int .i64 K.leap, .int .i64 K.ver, .int .i64 K.mode, .int .i64 K.strat, .int .i64 K.poll, .int .i64 K.prec, .int .u32 (n32 K.rd), .int .u32 (n32 K.rp), .int .u32 (n32 K.id), .int .u64 (n64 K.ref), .int .u64 (n64 K.org), .int .u64 (n64 K.rcv), .int .u64 (n64 K.tx)]) (λ _ _=>True) (λ _ _ _ _ _=>trivial) (λ us w' hx hf=>⟨rfl,?_⟩) ?_;(unfold gives;simp [go_sem,execOp];refine (hrf _).mono ?_;rintro e w1 ⟨rfl,hx1⟩;first|exact ⟨rfl,hx1⟩|simpa using hx1))
  (repeat (apply R2.aE;(case h=>(intro us w' hx hf;obtain ⟨x,rfl⟩:=hx.out;refine ⟨rfl,?_⟩;simp [go_sem,execOp, *];(try simp (disch:=omega) only [q17q,q18q,q19q]);rfl));(try simp only [Act.put,q0q,q1q,q2q])))
  (refine R2.aj (λ p => .tuple #[.slice (p 0).1 L.1.length (p 0).2, .int .i64 L.2]) (λ p w''=>Sl w'' (p 0).1 L.1.length (L.1)/\(L.1.length)<=(p 0).2) (λ p w w' h hx=>⟨h.1.ext hx,h.2⟩) (λ us w' hx hf=>⟨rfl,?_⟩) ?_;(unfold gives;simp [go_sem,execOp];exact eM (hba _ (hP1.ext hx))))
  (repeat (apply R2.aE;(case h=>(intro us w' hx hf;obtain ⟨x,rfl⟩:=hx.out;refine ⟨rfl,?_⟩;simp [go_sem,execOp, *];(try simp (disch:=omega) only [q17q,q18q,q19q]);rfl));(try simp only [Act.put,q0q,q1q,q2q])))
  (refine R2.bj ?_;intro us w' hx hf hd;obtain ⟨x,rfl⟩:=hx.out;(try simp only [Act.put,q0q,q1q,q2q,ag]);(try simp only [q3q,q4q,aao,aaa,aal,q5q,q6q,q7q,aap,aaq,aar] at hf);(try simp only [Nat.reduceAdd,aad] at hf ⊢))
  obtain ⟨hS,hc⟩:=hf
  go_wp2_with fail
  go_ret2
  exact ⟨_,_,by rw [<- hR.out];rfl,by rw [<- hR.out];exact hS,by rw [<- hR.out];exact hc,hE.trans hx⟩
end Go.Proofs.YtmdahnkcnagkjaaGreat
