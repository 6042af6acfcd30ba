/- Lemmas of this claim, several texts joined. -/
import Derived.Test.YtmdahnkcnagkjaaGreatZ1
import Derived.Test.YtmdahnkcnagkjaaGreatZ9
import Derived.Test.YtmdahnkcnagkjaaGreatZ24
import Derived.Test.YtmdahnkcnagkjaaGreatZ26
import Derived.Test.YtmdahnkcnagkjaaGreatZ28
import Derived.Test.YtmdahnkcnagkjaaGreatZ36
import Derived.Test.YtmdahnkcnagkjaaGreatZ38
import Derived.Test.YtmdahnkcnagkjaaGreatZ39
import Derived.Test.YtmdahnkcnagkjaaGreatZ40
import Derived.Test.YtmdahnkcnagkjaaGreatZ42
set_option maxRecDepth 100000
open List renaming setIfInBounds_toArray -> q0q, set_cons_succ -> q1q, set_cons_zero -> q2q, mem_cons -> q3q, not_mem_nil -> q4q, nil_append -> q5q, cons_append -> q6q, mem_append -> q7q, take_succ_cons -> q8q, take_zero -> q9q, drop_succ_cons -> q10q, drop_zero -> q11q, take_nil -> q12q, drop_nil -> q13q
open Go.IntWalk renaming i64_in -> q17q, rem_in -> q18q, wrap64_in -> q19q
set_option maxHeartbeats 8000000
set_option linter.unusedVariables false
set_option linter.unusedSimpArgs false
/- The walks of layer 18: Protect. -/
namespace Go.Pkt
open Go.Aes Go.Oct
theorem _root_.z43q82{p:Prop}(h:p:=by
 unfold aL
 rw [aaf (by omega),aaf (by simp),aaf (by unfold cR;simp;omega)]):p:=h
theorem x8 {ky b n p:List UInt8} (h:ky.length=32) (hb:b.length<=65519) (hn:n.length<=65519) (hp:p.length<=65519):(bZ ky [b,n] p).2=0/\(bZ ky [b,n] p).1.length=16+p.length:=by
 have hc:aL ky [b,n]=0:=by
  exact z43q82
 have ht:=iJ hc hp
 have h2:(cG ky [b,n] p).2=0:=by rw [ht]
 have hl:=(oD h2).1
 unfold bZ
 rw [aaf (by simpa using h2)]
 refine ⟨rfl,?_⟩
 rw [aah,hl,dc]
theorem pN (h:Hdr) (L:List Fld):(aU h L).1.length<=1280:=by
 unfold aU
 have h1:(cP h).1.length<=48:=by unfold cP;split <;> simp [cU]
 split
 ·simp
 ·split
  ·simp
  ·rename_i h2
   obtain ⟨_,_,h3,h4⟩:=qK (by simpa using h2)
   rw [aah,h4,bG];omega
def eH (ky:List UInt8)(p:Pkt) (nonce:List UInt8):List UInt8 × Int:=aW [(1028,aB nonce (bZ ky [(aU p.h p.plain).1,nonce] (aW p.secret).1).1)]
theorem oF {ky nonce:List UInt8} {p:Pkt} (h1:ky.length=32) (h2:¬ (nonce.length<16\/32<nonce.length)) (h3:(aU p.h p.plain).2=0) (h4:(aW p.secret).2=0) :
  cD ky p nonce=if ixs 1028 p.plain p.plain.length≠[] then ([],3) else if 24<=p.plain.length then ([],8)
   else if (eH ky p nonce).2≠0\/1280<(aU p.h p.plain).1.length+(eH ky p nonce).1.length then ([],2) else ((aU p.h p.plain).1++(eH ky p nonce).1,0):=by
 unfold cD eH
 rw [aaf (by omega),aaf h2,aaf (by simpa using h3),aaf (by simpa using h4)]
theorem pz {ky nonce:List UInt8} {p:Pkt} (h1:ky.length≠32):cD ky p nonce=([],5):=aam h1
theorem me {ky nonce:List UInt8} {p:Pkt} (h1:ky.length=32) (h2:nonce.length<16\/32<nonce.length):cD ky p nonce=([],4):=by
 unfold cD;rw [aaf (by omega),aam h2]
theorem kp {ky nonce:List UInt8} {p:Pkt} (h1:ky.length=32) (h2:¬ (nonce.length<16\/32<nonce.length)) (h3:(aU p.h p.plain).2≠0):cD ky p nonce=([],(aU p.h p.plain).2):=by
 unfold cD;rw [aaf (by omega),aaf h2,aam h3]
theorem qt {ky nonce:List UInt8} {p:Pkt} (h1:ky.length=32) (h2:¬ (nonce.length<16\/32<nonce.length)) (h3:(aU p.h p.plain).2=0) (h4:(aW p.secret).2≠0):cD ky p nonce=([],(aW p.secret).2):=by
 unfold cD;rw [aaf (by omega),aaf h2,aaf (by simpa using h3),aam h4]
end Go.Pkt
namespace Go.Proofs.YtmdahnkcnagkjaaGreat
open Go.RowKit Go.Sec Go.Oct Go.Pkt Go.Aes BigFrame
theorem _root_.z43q22{p:Prop}(h:p:=by
 have er:=Lib.hid (show r=([],3) by rw [<- hr.out,hat.out,aam q5])
 have i5:(0:Int)<((ixs 1028 p.plain p.plain.length).length:Int):=by have:=List.length_pos_iff.2 q5;omega
 generalize (ixs 1028 p.plain p.plain.length).length=n5 at *
 clear q5 hat
 go_wp2_with fail
 go_ret2
 rw [er.out]
 exact aG _ _ _ hE3):p:=h
theorem _root_.z43q32{p:Prop}(h:p:=by
 have er:=Lib.hid (show r=([],(aW p.secret).2) by rw [<- hr.out];exact qt q1' q2' q3 q4)
 have i4:=ne0 q4
 generalize (aW p.secret).2=v at *
 clear q3 q4 f13
 go_wp2_with fail
 go_ret2
 rw [er.out]
 exact aG _ _ _ hE2):p:=h
theorem _root_.z43q34{p:Prop}(h:p:=by
 have er:=Lib.hid (show r=([],2) by rw [hat.out,aam (.inr q8)])
 generalize (aW [(1028,G)]).1=B6 at *
 have i8:(1280:Int)<(B1.length:Int)+(B6.length:Int):=by omega
 go_wp2_with fail
 go_ret2
 rw [er.out]
 exact aG _ _ _ hE6):p:=h
theorem _root_.z43q37{p:Prop}(h:p:=by
 have er:=Lib.hid (show r=([],2) by rw [hat.out,aam (.inl q7)])
 have i7:=ne0 q7
 generalize (aW [(1028,G)]).2=v at *
 generalize (aW [(1028,G)]).1=B6 at *
 go_wp2_with fail
 go_ret2
 rw [er.out]
 exact aG _ _ _ hE6):p:=h
theorem qO (ak an a1 a2:Option Addr)(nk ck nn cn n1 c1 n2 c2:Nat) (p:Pkt) (ky nonce:List UInt8)(w:World)(hk:Sl w ak nk ky) (hck:nk<=ck) (hnn:Sl w an nn nonce) (hcn:nn<=cn) (hn:nn<=1000000)
  (hI1:Ib w a1 n1 p.plain) (hn1:n1<=1000000) (hL1:∀ f∈p.plain,f.2.length<=1000000) (hI2:Ib w a2 n2 p.secret) (hn2:n2<=1000000) (hL2:∀ f∈p.secret,f.2.length<=1000000) :
  Calls Tryz.prog 84 #[.slice ak nk ck, .agg #[.int .i64 p.h.leap, .int .i64 p.h.ver, .int .i64 p.h.mode, .int .i64 p.h.strat, .int .i64 p.h.poll, .int .i64 p.h.prec, .int .u32 (n32 p.h.rd), .int .u32 (n32 p.h.rp), .int .u32 (n32 p.h.id), .int .u64 (n64 p.h.ref), .int .u64 (n64 p.h.org), .int .u64 (n64 p.h.rcv), .int .u64 (n64 p.h.tx), .slice a1 n1 c1, .slice a2 n2 c2, .bool p.guarded], .slice an nn cn] w (bQ (cD ky p nonce).1.length (cD ky p nonce).1 (.int .i64 (cD ky p nonce).2) w):=by
 have lk:=hk.len
 have ln:=hnn.len
 have l1:=hI1.len
 have ho:=λ W H=>pX p.h a1 a2 n1 c1 n2 c2 p.guarded p.plain W H hn1 hL1
 have hs:=λ W H=>jC a2 n2 c2 p.secret W H hn2 hL2
 obtain ⟨r,hr⟩:∃ r,cD ky p nonce=r:=⟨_,rfl⟩
 rw [hr]
 have hr:=Lib.hid hr
 by_cases q1:nk=32
 ·by_cases q2:16<=nn/\nn<=32
  ·have hno:=λ W=>gL nn rfl W
   rw [aaz q2] at hno
   have q1':ky.length=32:=by omega
   have q2':¬ (nonce.length<16\/32<nonce.length):=by omega
   subst q1
   go_enter Tryz.func84,Tryz.ntmps84
   go_wp2_with (first
    | (go_at_call 128;refine (hno _).mono ?_;rintro e w1 ⟨rfl,hxq⟩;obtain ⟨xq,rfl⟩:=hxq.out;clear hxq)
    | (refine af aY rfl _ rfl w.heap.size 0 rfl _ (((Blk.new w #[.int .i64 p.h.leap, .int .i64 p.h.ver, .int .i64 p.h.mode, .int .i64 p.h.strat, .int .i64 p.h.poll, .int .i64 p.h.prec, .int .u32 (n32 p.h.rd), .int .u32 (n32 p.h.rp), .int .u32 (n32 p.h.id), .int .u64 (n64 p.h.ref), .int .u64 (n64 p.h.org), .int .u64 (n64 p.h.rcv), .int .u64 (n64 p.h.tx), .slice a1 n1 c1, .slice a2 n2 c2, .bool p.guarded] 67).extB eX).rd) rfl ?_)
    | fail)
   refine bN ?_
   intro W hW
   have hE:Ext w W:=by rw [hW];exact eX
   have hB:Blk W w.heap.size 67 [.int .i64 p.h.leap, .int .i64 p.h.ver, .int .i64 p.h.mode, .int .i64 p.h.strat, .int .i64 p.h.poll, .int .i64 p.h.prec, .int .u32 (n32 p.h.rd), .int .u32 (n32 p.h.rp), .int .u32 (n32 p.h.id), .int .u64 (n64 p.h.ref), .int .u64 (n64 p.h.org), .int .u64 (n64 p.h.rcv), .int .u64 (n64 p.h.tx), .slice a1 n1 c1, .slice a2 n2 c2, .bool p.guarded]:=by rw [hW];exact bK
   clear hW hno
   (with_reducible refine (ho W (hI1.ext hE)).mono ?_)
   rintro e w1 ⟨b1,d1,rfl,hS1,hd1,hx1⟩
   have hE1:=hE.trans hx1
   have hB1:=hB.extB hx1
   haveI:=hB1.blt
   have f13:w1.cell? ⟨w.heap.size,13,none⟩=some (.slice a1 n1 c1):=hB1.cell? 13 rfl
   have f14:w1.cell? ⟨w.heap.size,14,none⟩=some (.slice a2 n2 c2):=hB1.cell? 14 rfl
   have hbl:=pN p.h p.plain
   clear hE hB hx1 ho
   by_cases q3:(aU p.h p.plain).2=0
   ·rw [q3]
    go_wp2_with fail
    clear f13 f14
    (with_reducible refine (hs w1 (hI2.ext hE1)).mono ?_)
    rintro e w2 ⟨b2,d2,rfl,hS2,hd2,hx2⟩
    have hE2:=hE1.trans hx2
    have hB2:=hB1.extB hx2
    have hS1:=hS1.ext hx2
    haveI:=hB2.blt
    have f13:w2.cell? ⟨w.heap.size,13,none⟩=some (.slice a1 n1 c1):=hB2.cell? 13 rfl
    clear hE1 hB1 hx2 hs
    by_cases q4:(aW p.secret).2=0
    ·rw [q4]
     have hat:=Lib.hid (oF q1' q2' q3 q4)
     have hsl:(aW p.secret).1.length<=1232:=iw
     have hfi:=λ W H=>vK 1028 a1 n1 c1 p.plain W H hn1
     go_wp2_with fail
     clear f13
     (with_reducible refine (hfi w2 (hI1.ext hE2)).mono ?_)
     rintro e w3 ⟨b3,d3,rfl,hO3,hx3⟩
     have hE3:=hE2.trans hx3
     have hB3:=hB2.extB hx3
     have hS1:=hS1.ext hx3
     have hS2:=hS2.ext hx3
     haveI:=hB3.blt
     have f13:w3.cell? ⟨w.heap.size,13,none⟩=some (.slice a1 n1 c1):=hB3.cell? 13 rfl
     clear hE2 hB2 hx3 hfi hO3
     by_cases q5:ixs 1028 p.plain p.plain.length=[]
     ·have i5:(ixs 1028 p.plain p.plain.length).length=0:=by rw [q5];rfl
      have hat:=Lib.hid (show r=if 24<=p.plain.length then ([],8) else if (eH ky p nonce).2≠0\/1280<(aU p.h p.plain).1.length+(eH ky p nonce).1.length then ([],2) else ((aU p.h p.plain).1++(eH ky p nonce).1,0) by
       rw [<- hr.out,hat.out,aaf (by rw [q5];simp)])
      rw [i5]
      clear q5 i5
      by_cases q6:24<=n1
      ·have er:=Lib.hid (show r=([],8) by rw [hat.out,aam (by omega)])
       have i6:(24:Int)<=(n1:Int):=by omega
       go_wp2_with fail
       go_ret2
       rw [er.out]
       exact aG _ _ _ hE3
      ·have i6:¬ (24:Int)<=(n1:Int):=by omega
       have hat:=Lib.hid (show r=if (eH ky p nonce).2≠0\/1280<(aU p.h p.plain).1.length+(eH ky p nonce).1.length then ([],2) else ((aU p.h p.plain).1++(eH ky p nonce).1,0) by
        rw [hat.out,aaf (by omega)])
       obtain ⟨z1,z2⟩:=x8 (b:=(aU p.h p.plain).1) (n:=nonce) (p:=(aW p.secret).1) q1' (by omega) (by omega) (by omega)
       unfold eH at hat
       have hse:=λ b' c' W H1 H2 H3=>r9 ak b' b2 32 ck 2 c' (aW p.secret).1.length d2 ky [(aU p.h p.plain).1,nonce] (aW p.secret).1 W H1 hck H2 (by omega) H3 hd2
       rw [z1] at hse
       generalize (aU p.h p.plain).1=B1 at *
       generalize (aW p.secret).1=B2 at *
       generalize (bZ ky [B1,nonce] B2).1=S3 at *
       clear q3 q4 q6 z1
       replace z2:=Lib.hid z2
       go_wp2_with fail
       clear f13
       (with_reducible refine (hse _ _ _ (hk.ext (hE3.trans (Ext.of_alloc _ _))) (sg hS1 hd1 (hnn.ext hE3) hcn _) (hS2.ext (Ext.of_alloc _ _))).mono ?_)
       rintro e w4 ⟨b4,d4,rfl,hS4,hd4,hx4⟩
       have hx4:Ext w3 w4:=(Ext.of_alloc _ _).trans hx4
       have hE4:=hE3.trans hx4
       have hS1:=hS1.ext hx4
       clear hE3 hx4 hse
       go_wp2_with fail
       (with_reducible refine (mv an b4 nn cn S3.length d4 nonce S3 _ (hnn.ext hE4) hS4 hn (by rw [z2.out];omega)).mono ?_)
       rintro e w5 ⟨b5,d5,rfl,hO5,hx5⟩
       have hE5:=hE4.trans hx5
       have hS1:=hS1.ext hx5
       have hS5:=hO5.sl
       have hle5:=hO5.le.1
       have hGl:=ey nonce S3
       have hlen:=hS5.len
       rw [<- hlen] at hS5 hle5 ⊢
       clear hlen
       have hxe:=λ a' c' W H=>jC a' 1 c' [(1028,aB nonce S3)] W H (by omega) (by intro f hf;rw [aaB.1 hf];show (aB nonce S3).length<=1000000;rw [hGl];have:=z2.out;unfold aI;omega)
       generalize aB nonce S3=G at *
       clear hE4 hx5 hO5 hS4 hd4 hGl
       go_wp2_with fail
       (with_reducible refine (hxe _ _ _ (ib1 hS5 hle5 1028 _)).mono ?_)
       rintro e w6 ⟨b6,d6,rfl,hS6,hd6,hx6⟩
       have hx6:Ext w5 w6:=(Ext.of_alloc _ _).trans hx6
       have hE6:=hE5.trans hx6
       have hS1:=hS1.ext hx6
       clear hE5 hx6 hxe hS5
       have hfl:=iw (L:=[(1028,G)])
       by_cases q7:(aW [(1028,G)]).2=0
       ·rw [q7]
        by_cases q8:1280<B1.length+(aW [(1028,G)]).1.length
        ·exact z43q34
        ·have er:=Lib.hid (show r=(B1++(aW [(1028,G)]).1,0) by rw [hat.out,aaf (λ h=>h.elim (λ h=>h q7) q8)])
         clear hat q7
         generalize (aW [(1028,G)]).1=B6 at *
         have i8:¬ (1280:Int)<(B1.length:Int)+(B6.length:Int):=by omega
         have hj:aV [B1,B6]=B1++B6:=ic _ _
         have hjl:(aV [B1,B6]).length=B1.length+B6.length:=by rw [hj,aah]
         have HJ:=Lib.hid hj
         clear hj
         go_wp2_with fail
         (with_reducible refine (fS _ _ _ [B1,B6] _ (oY (hS1.ext eX) (hS6.ext eX) _) (by omega) (B1.length+B6.length) hjl (by omega)).mono ?_)
         rintro e w7 ⟨b7,d7,rfl,hO7,hx7⟩
         rw [HJ.out] at hO7
         go_wp2_with fail
         go_ret2
         rw [er.out]
         show bQ (B1++B6).length _ _ _ _ _
         rw [aah]
         exact ⟨b7,d7,rfl,hO7.sl,hO7.le.1,hE6.trans ((Ext.of_alloc _ _).trans hx7)⟩
       ·exact z43q37
     ·exact z43q22
    ·exact z43q32
   ·have er:=Lib.hid (show r=([],(aU p.h p.plain).2) by rw [<- hr.out];exact kp q1' q2' q3)
    have i3:=ne0 q3
    generalize (aU p.h p.plain).2=v at *
    clear q3 f13 f14
    go_wp2_with fail
    go_ret2
    rw [er.out]
    exact aG _ _ _ hE1
  ·have hno:=λ W=>gL nn rfl W
   rw [aaF q2] at hno
   have i1:((nk:Int) != 32)=false:=by rw [aai];omega
   have er:=Lib.hid (show r=([],4) by rw [<- hr.out];exact me (by omega) (by omega))
   have q1:=Lib.hid q1
   clear lk ln q2
   go_enter Tryz.func84,Tryz.ntmps84
   go_wp2_with (first
    | (go_at_call 128;refine (hno _).mono ?_;rintro e w1 ⟨rfl,hxq⟩;obtain ⟨xq,rfl⟩:=hxq.out;clear hxq)
    | fail)
   go_ret2
   rw [er.out]
   exact aG _ _ _ eX
 ·have er:=Lib.hid (show r=([],5) by rw [<- hr.out];exact pz (by omega))
  have i1:((nk:Int) != 32)=true:=by rw [aaw];omega
  clear lk ln q1
  go_enter Tryz.func84,Tryz.ntmps84
  go_wp2_with fail
  go_ret2
  rw [er.out]
  exact aG _ _ _ eX
end Go.Proofs.YtmdahnkcnagkjaaGreat

/- The walks of layer 22: Question. -/
namespace Go.Jar
open Go.Pkt
def aZ (u c:List UInt8)(k:Nat):List Fld:=[((260:Int),u),(516,c)]++List.replicate k ((772:Int),List.replicate 104 0)
theorem ft (u c:List UInt8)(k:Nat):(aZ u c k).length=2+k:=by simp [aZ];omega
theorem mi (u c:List UInt8)(k:Nat):aZ u c (k+1)=aZ u c k++[((772:Int),List.replicate 104 0)]:=by simp only [aZ,abw,aas]
theorem jT {u c:List UInt8} {k:Nat} {f:Fld} (h:f∈aZ u c k):f=(260,u)\/f=(516,c)\/f=(772,List.replicate 104 0):=by
 unfold aZ at h
 rcases aba.1 h with h|h
 ·simp only [q3q,q4q,aao] at h;rcases h with h|h
  ·exact .inl h
  ·exact .inr (.inl h)
 ·exact .inr (.inr (abA h))
def jW (t:UInt64) (u c:List UInt8)(k:Nat):Pkt:=⟨bU t,aZ u c k,[],false⟩
def kW (j:Jar) (t:UInt64) (u nn:List UInt8):(Jar × List UInt8) × Int :=
 if bH j=true/\u.length=32/\nn.length=16 then
  (if (cZ j).2=0 then
   (if (cD (cZ j).1.1.up (jW t u (cZ j).1.2 (7-(cZ j).1.1.ck.length)) nn).2=0 then (((cZ j).1.1,(cD (cZ j).1.1.up (jW t u (cZ j).1.2 (7-(cZ j).1.1.ck.length)) nn).1),0)
    else ((bP,[]),(cD (cZ j).1.1.up (jW t u (cZ j).1.2 (7-(cZ j).1.1.ck.length)) nn).2))
   else ((bP,[]),(cZ j).2))
 else ((bP,[]),3)
theorem xj {j:Jar} (hv:bH j=true) (h:(cZ j).2=0):(cZ j).1.1.ck.length<=7/\(cZ j).1.2.length=104/\(cZ j).1.1.up.length=32:=by
 unfold cZ at h ⊢
 rw [aam hv] at h ⊢
 have hh:=hv
 unfold bH at hh
 rw [aaA,aaA] at hh
 obtain ⟨h1,h2,_⟩:=hh
 have h1:iZ j:=aa0 h1
 by_cases q:j.ck.length=0
 ·rw [aam q] at h;exact absurd h (by decide)
 ·rw [aaf q] at h ⊢
  by_cases q2:j.sent=1099511627776
  ·rw [aam q2] at h;exact absurd h (by decide)
  ·rw [aaf q2]
   cases hc:j.ck with
   | nil=>rw [hc] at q;exact absurd rfl q
   | cons y L =>
    have h3:=h1.2.1
    rw [hc,aaS] at h3
    have h4:=aaC.1 h2 y (by rw [hc];exact aa6 ..)
    refine ⟨by show L.length<=7;omega,by simpa using h4,h1.1.1⟩
end Go.Jar
namespace Go.Sec
open Go.RowKit
theorem cF.two {T:TypeId} {w:World} {base g m1 c1 m2 c2:Nat} {id1 id2:Int} {g1 g2:Option Addr} {l1 l2:List UInt8} (hB:Blk w g T [.int .i64 id1, .slice g1 m1 c1, .int .i64 id2, .slice g2 m2 c2]) (hb:base<=g)
  (h1:Sl w g1 m1 l1) (k1:m1<=c1) (i1:InT T w base g1 m1) (h2:Sl w g2 m2 l2) (k2:m2<=c2) (i2:InT T w base g2 m2):cF T w base (some ⟨g,0,none⟩) 2 2 [(id1,l1),(id2,l2)]:=by
 have e1:=h1.len
 have e2:=h2.len
 subst e1 e2
 refine ⟨rfl,[.int .i64 id1, .slice g1 l1.length c1, .int .i64 id2, .slice g2 l2.length c2],⟨rfl, .inr ⟨g,2,#[.int .i64 id1, .slice g1 l1.length c1, .int .i64 id2, .slice g2 l2.length c2],rfl,hb,?_,aag _,by unfold maxLen;omega,rfl,rfl⟩⟩,rfl,λ k hk=>?_⟩
 ·exact hB
 ·match k,hk with
  | 0,_=>exact ⟨g1,c1,rfl,rfl,h1,k1,i1⟩
  | 1,_=>exact ⟨g2,c2,rfl,rfl,h2,k2,i2⟩
def D0 (T:TypeId)(id:Int) (l:List UInt8)(w:World)(a:Option Addr):Prop:=∃ g ga n cc,a=some ⟨g,0,none⟩/\Rd w a [.int .i64 id, .slice ga n cc]/\Sl w ga n l/\n<=cc/\∀ base,InT T w base ga n
theorem wB (w:World)(n:Nat) (hn:n<=1000000):Own (w.alloc (.cells (bM (.int .u8 0) n) 5)) 0 (some ⟨w.heap.size,0,none⟩) n n (List.replicate n 0):=by
 have:=Own.of_blk (base:=0) (l:=List.replicate n 0) (bX w n) (aan _) (by rw [aaP];unfold maxLen;omega)
 rwa [aaP] at this
end Go.Sec
namespace Go.Proofs.YtmdahnkcnagkjaaGreat
open Go.RowKit Go.Sec Go.Oct Go.Jar Go.Pkt BigFrame
def mq (r:(Jar × List UInt8) × Int) (w:World)(e:Ending) (w':World):Prop:=∃ b1 n1 d1 b2 n2 d2 b3 n3 d3 b4 n4 d4 b5 n5 d5,e = .returned (.tuple #[.agg #[.slice b1 n1 d1, .slice b2 n2 d2, .slice b3 n3 d3, .slice b4 n4 d4, .int .i64 r.1.1.net, .int .i64 r.1.1.sent], .slice b5 n5 d5, .int .i64 r.2]) /\
 Sl w' b1 n1 r.1.1.up/\n1<=d1/\Sl w' b2 n2 r.1.1.dn/\n2<=d2/\Bsc w' b3 n3 r.1.1.ck/\n3<=d3/\fF w' b3/\Sl w' b4 n4 r.1.1.last/\n4<=d4/\Sl w' b5 n5 r.1.2/\n5<=d5/\Ext w w'
theorem mq.zero (w w':World)(e:Int) (hx:Ext w w'):mq ((bP,[]),e) w (.returned (.tuple #[.agg #[.slice none 0 0, .slice none 0 0, .slice none 0 0, .slice none 0 0, .int .i64 0, .int .i64 0], .slice none 0 0, .int .i64 e])) w' :=
 ⟨none,0,0,none,0,0,none,0,0,none,0,0,none,0,0,rfl,Sl.nil _ _,aag _,Sl.nil _ _,aag _,Bsc.nil _ _,aag _,fF.none _,Sl.nil _ _,aag _,Sl.nil _ _,aag _,hx⟩
end Go.Proofs.YtmdahnkcnagkjaaGreat

/- sectimeworld.Pair, Jar. -/
namespace Go.Jar
open Go.Sha
def upW (s:Nat):List UInt8:=(gy s 64).take 32
def dnW (s:Nat):List UInt8:=(gy s 64).drop 32
def ckW (s k:Nat):List (List UInt8):=(List.range k).map λ i=>gy (s+1000003*(i+1)) 104
def Ec (s k:Nat):Jar:=⟨upW s,dnW s,ckW s k,[],1,0⟩
end Go.Jar
namespace Go.Proofs.YtmdahnkcnagkjaaGreat
open Go.RowKit Go.Sec Go.Oct Go.Jar Go.Sha BigFrame
def DA (s:Nat) (w:World)(e:Ending) (w':World):Prop:=∃ pb po c,e = .returned (.agg #[.slice (some ⟨pb,po,none⟩) 32 c, .slice (some ⟨pb,po+32,none⟩) 32 (c-32)])/\Own w' 0 (some ⟨pb,po,none⟩) 64 c (gy s 64)/\Ext w w'
def DU (s k:Nat) (w:World)(e:Ending) (w':World):Prop:=∃ a1 d1 a2 d2 b3 d3,e = .returned (.agg #[.slice a1 32 d1, .slice a2 32 d2, .slice b3 k d3, .slice none 0 0, .int .i64 1, .int .i64 0])/\Sl w' a1 32 (upW s)/\32<=d1/\Sl w' a2 32 (dnW s)/\32<=d2/\Bsc w' b3 k (ckW s k)/\k<=d3/\Ext w w'
end Go.Proofs.YtmdahnkcnagkjaaGreat

/- Open undoes Protect: plain functions. No program. -/
namespace Go.Pkt
open Go.Oct Go.Aes Go.Sec
theorem uz (l:List UInt8):fV l 4=l++List.replicate (aI l.length-l.length) 0:=by
 unfold fV A4 aI
 rw [aam (by omega)]
 congr 2
 omega
theorem jY (l:List UInt8):(fV l 4).length=aI l.length:=by
 rw [uz,aah,aaP];unfold aI;omega
theorem fj (n s:List UInt8):(aB n s).length=4+aI n.length+aI s.length:=by
 simp only [aB,aah,ay,jY];omega
theorem o7 {n s:List UInt8} (h1:16<=n.length) (h2:n.length<=32) (h3:s.length<65536):cT (aB n s)=some (n,s):=by
 have e0:bL ((aB n s).take 2)=n.length:=by
  unfold aB;rw [dM _ _ _ (ay _ _),jN _ (by omega)]
 have e1:bL (((aB n s).drop 2).take 2)=s.length:=by
  unfold aB;rw [eQ _ _ _ (ay _ _),dM _ _ _ (ay _ _),jN _ (by omega)]
 have e2:(aB n s).drop 4=fV n 4++fV s 4:=by
  unfold aB;rw [show (4:Nat)=2+2 from rfl,iA _ _ 2 2 (ay _ _),eQ _ _ _ (ay _ _)]
 have e3:((aB n s).drop 4).take n.length=n:=by
  rw [e2,uz,aas,dM _ _ _ rfl]
 have e4:((aB n s).drop (4+aI n.length)).take s.length=s:=by
  rw [<- abd,e2,eQ _ _ _ (jY n),uz,dM _ _ _ rfl]
 unfold cT
 simp only [e0,e1,e3,e4]
 rw [aam ⟨by rw [fj];omega,⟨h1,h2⟩,fj n s,trivial⟩]
theorem uk {n s:List UInt8} (h1:16<=n.length):eK (1028,aB n s)=(1028,aB n s):=by
 unfold eK
 have h:=fj n s
 have:szN (aB n s).length-4-(aB n s).length=0:=by rw [h];unfold szN aI;omega
 rw [this];simp
theorem ly {k:Int} {L:List Fld} (M:List Fld) (h:∀ f∈L,f.1≠k):∀ j,j<=L.length->ixs k (L++M) j=[]:=by
 intro j
 induction j with
 | zero=>intro _;rfl
 | succ j ih =>
  intro hj
  rw [lN,ih (by omega)]
  rw [List.getD_eq_getElem?_getD,List.getElem?_append_left (by omega),List.getElem?_eq_getElem (by omega)]
  exact h _ (aaM _)
theorem xN {k:Int} {L:List Fld} (h:∀ f∈L,f.1≠k):ixs k L L.length=[]:=by
 have:=ly [] h L.length (aag _)
 rwa [List.append_nil] at this
theorem qD {L:List Fld} (h:∀ f∈L,(0<=f.1/\f.1<=65535)/\szN f.2.length<=1232) (h2:L.length<=24) (h3:aX L<=1232):aW L=(aM L,0):=by
 have hb:eY L=0:=by
  clear h2 h3
  induction L with
  | nil=>rfl
  | cons f L ih =>
   obtain ⟨⟨a,b⟩,c⟩:=h f (aa6 ..)
   have:(cL f).2=0:=by unfold cL;rw [aaf (by omega),aaf (by omega)]
   rw [eY,aaf (by simpa using this)]
   exact ih λ g hg=>h g (List.mem_cons_of_mem _ hg)
 unfold aW
 rw [hb,aaf (by simp),aaf (by omega),aaf (by omega)]
structure Fits (p:Pkt) (nn:Nat):Prop where
 h:okH p.h
 f1:∀ f∈p.plain,(0<=f.1/\f.1<=65535)/\szN f.2.length<=1232
 f2:∀ f∈p.secret,(0<=f.1/\f.1<=65535)/\szN f.2.length<=1232
 a:∀ f∈p.plain,f.1≠1028
 n1:p.plain.length<24
 n2:p.secret.length<=24
 n0:16<=nn/\nn<=32
 t:48+aX p.plain+(8+aI nn+aI (16+aX p.secret))<=1280
 t2:aX p.secret<=1232
def bE (ky:List UInt8)(p:Pkt) (nonce:List UInt8):List UInt8:=(bZ ky [bY p.h++aM p.plain,nonce] (aM p.secret)).1
theorem vC {p:Pkt} {nn:Nat} (h:Fits p nn):cP p.h=(bY p.h,0)/\aW p.plain=(aM p.plain,0)/\aW p.secret=(aM p.secret,0)/\aU p.h p.plain=(bY p.h++aM p.plain,0):=by
 have h1:cP p.h=(bY p.h,0):=aam h.h
 have h2:=qD h.f1 (by have:=h.n1;omega) (by have:=h.t;omega)
 have h3:=qD h.f2 h.n2 h.t2
 refine ⟨h1,h2,h3,?_⟩
 unfold aU
 rw [h1,h2,aaf (by simp),aaf (by simp)]
theorem zf {ky a b:List UInt8} (h:ky.length=32) (ha:a.length<=65519) (hb:b.length<=65519):aL ky [a,b]=0:=by
 exact z43q82
theorem jq {p:Pkt} {nn:Nat} (h:Fits p nn):(bY p.h++aM p.plain).length=48+aX p.plain:=by rw [aah,cU,bG]
theorem pL {ky nonce:List UInt8} {p:Pkt} (hk:ky.length=32) (h:Fits p nonce.length):(bE ky p nonce).length=16+aX p.secret:=by
 have hl:=jq h
 have ht:=h.t
 have ht2:=h.t2
 have hn:=h.n0
 unfold bE
 rw [(x8 hk (by omega) (by omega) (by rw [bG];omega)).2,bG]
theorem iK {ky nonce:List UInt8} {p:Pkt} (hk:ky.length=32) (h:Fits p nonce.length):cD ky p nonce=(bY p.h++aM p.plain++di (1028,aB nonce (bE ky p nonce)),0) /\
  (di (1028,aB nonce (bE ky p nonce))).length=8+aI nonce.length+aI (16+aX p.secret):=by
 obtain ⟨e1,e2,e3,e4⟩:=vC h
 have hl:=jq h
 have ht:=h.t
 have hn:=h.n0
 have hsl:=pL hk h
 have hgl:=fj nonce (bE ky p nonce)
 rw [hsl] at hgl
 have hsz:szN (aB nonce (bE ky p nonce)).length=8+aI nonce.length+aI (16+aX p.secret):=by rw [hgl];unfold szN aI;omega
 have hle:szN (aB nonce (bE ky p nonce)).length<=1232:=by rw [hsz];omega
 have htt:aX [((1028:Int),aB nonce (bE ky p nonce))]=szN (aB nonce (bE ky p nonce)).length:=by simp [aX]
 have hlast:eH ky p nonce=(di (1028,aB nonce (bE ky p nonce)),0):=by
  unfold eH
  rw [e4,e3]
  show aW [(1028,aB nonce (bE ky p nonce))]=_
  rw [qD (by intro f hf;rw [aaB.1 hf];exact ⟨⟨by simp,by simp⟩,hle⟩) (by simp) (by rw [htt];exact hle)]
  simp [aM]
 have hfl:(di (1028,aB nonce (bE ky p nonce))).length=8+aI nonce.length+aI (16+aX p.secret):=by rw [cY];exact hsz
 refine ⟨?_,hfl⟩
 rw [oF hk (by omega) (by rw [e4]) (by rw [e3]),aaf (by rw [xN h.a];simp),aaf (by have:=h.n1;omega),hlast,e4]
 show (if (0:Int)≠0\/1280<(bY p.h++aM p.plain).length+(di (1028,aB nonce (bE ky p nonce))).length then _ else _)=_
 rw [aaf (by rw [hl,hfl];omega)]
theorem kH {ky nonce:List UInt8} {p:Pkt} (hk:ky.length=32) (h:Fits p nonce.length) :
  aH (bY p.h++aM p.plain++di (1028,aB nonce (bE ky p nonce)))=(⟨p.h,p.plain.map eK++[(1028,aB nonce (bE ky p nonce))],[],false⟩,0):=by
 obtain ⟨_,hfl⟩:=iK hk h
 have hn:=h.n0
 have ht:=h.t
 have hG:(di (1028,aB nonce (bE ky p nonce))).length=szN (aB nonce (bE ky p nonce)).length:=cY _
 have e:bY p.h++aM p.plain++di (1028,aB nonce (bE ky p nonce))=bY p.h++aM (p.plain++[(1028,aB nonce (bE ky p nonce))]):=by
  rw [aas,jF]
 have htot:=eF p.plain (1028,aB nonce (bE ky p nonce))
 have hd:bO (bY p.h++aM (p.plain++[(1028,aB nonce (bE ky p nonce))]))=((p.h,aM (p.plain++[(1028,aB nonce (bE ky p nonce))])),0) :=
  lS p.h h.h _ (by rw [bG,htot];simp only;omega)
 have hf:bg (aM (p.plain++[(1028,aB nonce (bE ky p nonce))]))=(p.plain.map eK++[(1028,aB nonce (bE ky p nonce))],0):=by
  unfold bg
  rw [aaf (by rw [bG,htot];simp only;omega),mE _ 24 (by rw [aah];have:=h.n1;simp;omega)]
  ·rw [aaO]
   show (p.plain.map eK++[eK (1028,aB nonce (bE ky p nonce))],0)=_
   rw [uk hn.1]
  ·intro f hf
   rcases aba.1 hf with h1|h1
   ·exact h.f1 f h1
   ·rw [aaB.1 h1]
    exact ⟨⟨by simp,by simp⟩,by show szN (aB nonce (bE ky p nonce)).length<=1232;omega⟩
 rw [e]
 unfold aH
 rw [hd]
 simp only
 rw [hf]
 simp
theorem uB {k:Int} {L:List Fld} {f:Fld} (h:∀ g∈L,g.1≠k) (hf:f.1=k):eS k (L++[f])=some L.length:=by
 refine mJ (by simp) (ly [f] h L.length (aag _)) ?_
 rw [List.getD_eq_getElem?_getD,List.getElem?_append_right (aag _)]
 simpa using hf
theorem nM {ky nonce:List UInt8} {p:Pkt} (hk:ky.length=32) (h:Fits p nonce.length) :
  cW ky (bY p.h++aM p.plain++di (1028,aB nonce (bE ky p nonce)))=(⟨p.h,p.plain.map eK,p.secret.map eK,true⟩,0):=by
 obtain ⟨_,hfl⟩:=iK hk h
 have hr:=kH hk h
 have hl:=jq h
 have hn:=h.n0
 have ht:=h.t
 have ht2:=h.t2
 have hsl:=pL hk h
 have hgl:=fj nonce (bE ky p nonce)
 have hmap:∀ g∈p.plain.map eK,g.1≠1028:=by
  intro g hg
  obtain ⟨f,hf,rfl⟩:=aa3.1 hg
  exact h.a f hf
 have hfi:=uB (f:=(1028,aB nonce (bE ky p nonce))) hmap rfl
 have hgd:(p.plain.map eK++[((1028:Int),aB nonce (bE ky p nonce))]).getD (p.plain.map eK).length (0,[])=(1028,aB nonce (bE ky p nonce)):=by
  rw [List.getD_eq_getElem?_getD,List.getElem?_append_right (aag _)];simp
 have hpt:=o7 (n:=nonce) (s:=bE ky p nonce) hn.1 hn.2 (by rw [hsl];omega)
 have htk:(bY p.h++aM p.plain++di (1028,aB nonce (bE ky p nonce))).take ((bY p.h++aM p.plain++di (1028,aB nonce (bE ky p nonce))).length-(aB nonce (bE ky p nonce)).length-4)=bY p.h++aM p.plain:=by
  refine dM _ _ _ ?_
  have hall:(bY p.h++aM p.plain++di (1028,aB nonce (bE ky p nonce))).length=48+aX p.plain+(8+aI nonce.length+aI (16+aX p.secret)):=by rw [aah,hl,hfl]
  rw [hl,hall,hgl,hsl]
  omega
 have hop:bI ky [bY p.h++aM p.plain,nonce] (bE ky p nonce)=(aM p.secret,0):=oJ (zf hk (by omega) (by omega)) (by rw [bG];omega)
 have hdf:bg (aM p.secret)=(p.secret.map eK,0):=by
  unfold bg
  rw [aaf (by rw [bG];omega)]
  exact mE _ 24 h.n2 h.f2
 unfold cW
 rw [aaf (by omega),hr]
 simp only
 rw [aaf (by simp),hfi]
 simp only
 rw [aaf (by simp),hgd]
 simp only
 rw [hpt]
 simp only
 rw [htk,hop]
 simp only
 rw [aaf (by simp),hdf]
 simp
end Go.Pkt

/- Layer 22: the jars that the statements draw, as plain functions. No program. -/
namespace Go.Jar
open Go.Sha Go.Pkt Go.Oct Go.Aes Go.Lane
def ck0 (s:Nat):List UInt8:=gy (s+1000003) 104
def Eg (s k:Nat):Jar:=⟨upW s,dnW s,(ckW s k).tail,ck0 s,1,1⟩
theorem szQ {u c:List UInt8} {k:Nat} (hu:u.length=32) (hc:c.length=104) {f:Fld} (h:f∈aZ u c k):(0<=f.1/\f.1<=65535)/\f.1≠1028/\szN f.2.length<=108/\f.2.length<=104:=by
 rcases jT h with h|h|h
 ·rw [h];refine ⟨by simp,by simp,?_,?_⟩
  ·show szN u.length<=108;rw [hu];decide
  ·show u.length<=104;omega
 ·rw [h];refine ⟨by simp,by simp,?_,?_⟩
  ·show szN c.length<=108;rw [hc];decide
  ·show c.length<=104;omega
 ·rw [h];refine ⟨by simp,by simp,?_,?_⟩
  ·show szN (List.replicate 104 (0:UInt8)).length<=108;rw [aaP];decide
  ·show (List.replicate 104 (0:UInt8)).length<=104;rw [aaP];omega
theorem Co {u c:List UInt8} (hu:u.length=32) (hc:c.length=104) (k:Nat):aX (aZ u c k)=36+108*(k+1):=by
 induction k with
 | zero =>
  have e:aX (aZ u c 0)=szN u.length+szN c.length:=by simp [aZ,aX]
  rw [e,hu,hc];decide
 | succ k ih =>
  rw [mi,eF,ih]
  show 36+108*(k+1)+szN (List.replicate 104 (0:UInt8)).length=_
  rw [aaP,show szN 104=108 from by decide]
  omega
theorem Cj {u c:List UInt8} (hu:u.length=32) (hc:c.length=104) (t:UInt64) {k:Nat} (hk:k<=7):Fits (jW t u c k) 16 where
 h:=jH t
 f1:=λ f hf=>⟨(szQ hu hc hf).1,aau (szQ hu hc hf).2.2.1 (by omega)⟩
 f2:=λ f hf=>by cases hf
 a:=λ f hf=>(szQ hu hc hf).2.1
 n1:=by show (aZ u c k).length<24;rw [ft];omega
 n2:=by show 0<=24;omega
 n0:=by omega
 t:=by
  show 48+aX (aZ u c k)+(8+aI 16+aI (16+aX []))<=1280
  rw [Co hu hc,show aX []=0 from rfl]
  unfold aI;omega
 t2:=by show aX []<=1232;rw [show aX []=0 from rfl];omega
def Dx (s k:Nat) (t:UInt64) (u nn:List UInt8):List UInt8:=(cD (upW s) (jW t u (ck0 s) (8-k)) nn).1
end Go.Jar

/- Layer 22: what a question's fields read as. No program. -/
namespace Go.Jar
open Go.Sha Go.Pkt Go.Oct Go.Aes
theorem Cr {u c:List UInt8} {k:Nat} (hu:u.length=32) (hc:c.length=104):(aZ u c k).map eK=aZ u c k:=by
 have h:∀ f∈aZ u c k,eK f=f:=λ f hf=>by
  unfold eK
  rcases jT hf with h|h|h <;> rw [h]
  ·simp only;rw [hu,show szN 32-4-32=0 from by decide];simp
  ·simp only;rw [hc,show szN 104-4-104=0 from by decide];simp
  ·simp only;rw [aaP,show szN 104-4-104=0 from by decide];simp
 calc (aZ u c k).map eK=(aZ u c k).map id:=abq h
  _=_:=List.map_id _
end Go.Jar

/- Layer 22: what Answer answers. -/
namespace Go.Jar
open Go.Pkt
def iR (S:List Fld):List (List UInt8):=(S.filter λ f=>decide (f.1=516)).map (·.2)
theorem yh {S:List Fld} {i:Nat} {y:Fld} (h:S[i]?=some y) (hy:y.1=516):iR (S.take (i+1))=iR (S.take i)++[y.2]:=by
 unfold iR
 rw [abz,h]
 simp [List.filter_append,hy]
theorem y7 {S:List Fld} {i:Nat} {y:Fld} (h:S[i]?=some y) (hy:y.1≠516):iR (S.take (i+1))=iR (S.take i):=by
 unfold iR
 rw [abz,h]
 simp [List.filter_append,hy]
theorem yj (S:List Fld):∀ i,iR (S.take i)=(ixs 516 (S.take i) i).map λ k=>(S.getD k (0,[])).2:=by
 intro i
 induction i with
 | zero=>simp [iR,ixs]
 | succ i ih =>
  have e:ixs 516 (S.take (i+1)) i=ixs 516 (S.take i) i:=by
   unfold ixs
   refine List.filter_congr λ k hk=>?_
   have hk:=aaU.1 hk
   have g:∀ m,k<m->((S.take m).getD k ((0:Int),([]:List UInt8)))=S.getD k (0,[]):=λ m hm=>by
    rw [List.getD_eq_getElem?_getD,List.getD_eq_getElem?_getD,List.getElem?_take,aam hm]
   rw [g (i+1) (by omega),g i hk]
  have g1:(S.take (i+1)).getD i ((0:Int),([]:List UInt8))=S.getD i (0,[]):=by
   rw [List.getD_eq_getElem?_getD,List.getD_eq_getElem?_getD,List.getElem?_take,aam (by omega)]
  by_cases h:(S.getD i ((0:Int),([]:List UInt8))).1=516
  ·have hi:i<S.length:=by
    rcases abg i S.length with h1|h1
    ·exact h1
    ·rw [List.getD_eq_getElem?_getD,List.getElem?_eq_none h1] at h;exact absurd h (by decide)
   have hs:S[i]?=some S[i]:=List.getElem?_eq_getElem hi
   have hd:S.getD i ((0:Int),([]:List UInt8))=S[i]:=by rw [List.getD_eq_getElem?_getD,hs];rfl
   rw [yh hs (by rw [<- hd];exact h),ih,lu (by rw [g1];exact h),e,aaO,<- hd]
   rfl
  ·rw [lN (by rw [g1];exact h),e,<- ih]
   rcases abg i S.length with h1|h1
   ·have hs:S[i]?=some S[i]:=List.getElem?_eq_getElem h1
    have hd:S.getD i ((0:Int),([]:List UInt8))=S[i]:=by rw [List.getD_eq_getElem?_getD,hs];rfl
    exact y7 hs (by rw [<- hd];exact h)
   ·rw [aaj h1,aaj (by omega)]
theorem xg (S:List Fld):iR S=(ixs 516 S S.length).map λ k=>(S.getD k (0,[])).2:=by
 have:=yj S S.length
 rwa [aaj (aag _)] at this
def yp (L:List Fld) (u:List UInt8):Prop:=∃ i,ixs 260 L L.length=[i]/\(L.getD i (0,[])).2=u
instance (L:List Fld) (u:List UInt8):Decidable (yp L u) :=
 match h:ixs 260 L L.length with
 | [] => .isFalse λ ⟨i,h1,_⟩=>by rw [h] at h1;cases h1
 | [i]=>if h2:(L.getD i (0,[])).2=u then .isTrue ⟨i,h,h2⟩ else .isFalse λ ⟨k,h1,h3⟩=>by rw [h] at h1;injection h1 with h1;subst h1;exact h2 h3
 | _ :: _ :: _ => .isFalse λ ⟨i,h1,_⟩=>by rw [h] at h1;injection h1 with _ h1;cases h1
def qg (j:Jar) (u:List UInt8)(P:Pkt × Int):(Jar × Pkt) × Int :=
 if P.2≠0 then ((bP,aO),P.2) else if P.1.h.mode≠4 then ((bP,aO),3) else if ¬ yp P.1.plain u then ((bP,aO),7)
 else if nW (iR P.1.secret)=true then ((dK j (iR P.1.secret),P.1),0) else ((bP,aO),3)
def qB (j:Jar) (u b:List UInt8):(Jar × Pkt) × Int:=if bH j=true/\u.length=32 then qg j u (cW j.dn b) else ((bP,aO),3)
end Go.Jar
namespace Go.Sec
open Go.RowKit
section
variable {P:Program} {fn:Func} {p p2 u n n2:Nat} {T T2:TypeId}
theorem bR (h:fn.results=#[.cell p T, .cell p2 T2, .tmp u]) (hT:RowT P T n) (hT2:RowT P T2 n2) (tmps:Array Value) (w:World)(g o:Nat) (cs:List Value)(hp:tmps.getD p undef = .pointer (some ⟨g,o,none⟩))
  (hR:Rd w (some ⟨g,o,none⟩) cs) (hn:cs.length=n) (g2 o2:Nat) (cs2:List Value)(hp2:tmps.getD p2 undef = .pointer (some ⟨g2,o2,none⟩)) (hR2:Rd w (some ⟨g2,o2,none⟩) cs2) (hn2:cs2.length=n2) (v:Value)(hv:tmps.getD u undef=v) :
  (results fn tmps).run P w = .ok (.tuple #[.agg cs.toArray, .agg cs2.toArray,v]) w:=by
 have hp':tmps[p]?.getD undef = .pointer (some ⟨g,o,none⟩):=by simpa using hp
 have hp2':tmps[p2]?.getD undef = .pointer (some ⟨g2,o2,none⟩):=by simpa using hp2
 subst hv
 simp [results,h,hp',hp2',asAddr,dQ hT w g o cs hR hn,dQ hT2 w g2 o2 cs2 hR2 hn2]
end
end Go.Sec
namespace Go.Proofs.YtmdahnkcnagkjaaGreat
open Go.RowKit Go.Sec Go.Oct Go.Jar Go.Pkt BigFrame
def oL (r:(Jar × Pkt) × Int) (w:World)(e:Ending) (w':World):Prop:=∃ b1 n1 d1 b2 n2 d2 b3 n3 d3 b4 n4 d4 p1 m1 k1 p2 m2 k2,e = .returned (.tuple #[.agg #[.slice b1 n1 d1, .slice b2 n2 d2, .slice b3 n3 d3, .slice b4 n4 d4, .int .i64 r.1.1.net, .int .i64 r.1.1.sent], .agg #[.int .i64 r.1.2.h.leap, .int .i64 r.1.2.h.ver, .int .i64 r.1.2.h.mode, .int .i64 r.1.2.h.strat, .int .i64 r.1.2.h.poll, .int .i64 r.1.2.h.prec, .int .u32 (n32 r.1.2.h.rd), .int .u32 (n32 r.1.2.h.rp), .int .u32 (n32 r.1.2.h.id), .int .u64 (n64 r.1.2.h.ref), .int .u64 (n64 r.1.2.h.org), .int .u64 (n64 r.1.2.h.rcv), .int .u64 (n64 r.1.2.h.tx), .slice p1 m1 k1, .slice p2 m2 k2, .bool r.1.2.guarded], .int .i64 r.2]) /\
 Sl w' b1 n1 r.1.1.up/\n1<=d1/\Sl w' b2 n2 r.1.1.dn/\n2<=d2/\Bsc w' b3 n3 r.1.1.ck/\n3<=d3/\fF w' b3/\Sl w' b4 n4 r.1.1.last/\n4<=d4/\Ib w' p1 m1 r.1.2.plain/\m1<=k1/\Ib w' p2 m2 r.1.2.secret/\m2<=k2/\Ext w w'
theorem oL.zero (w w':World)(e:Int) (hx:Ext w w'):oL ((bP,aO),e) w (.returned (.tuple #[.agg #[.slice none 0 0, .slice none 0 0, .slice none 0 0, .slice none 0 0, .int .i64 0, .int .i64 0], .agg #[.int .i64 0, .int .i64 0, .int .i64 0, .int .i64 0, .int .i64 0, .int .i64 0, .int .u32 0, .int .u32 0, .int .u32 0, .int .u64 0, .int .u64 0, .int .u64 0, .int .u64 0, .slice none 0 0, .slice none 0 0, .bool false], .int .i64 e])) w' :=
 ⟨none,0,0,none,0,0,none,0,0,none,0,0,none,0,0,none,0,0,rfl,Sl.nil _ _,aag _,Sl.nil _ _,aag _,Bsc.nil _ _,aag _,fF.none _,Sl.nil _ _,aag _,Ib.nil _ _,aag _,Ib.nil _ _,aag _,hx⟩
end Go.Proofs.YtmdahnkcnagkjaaGreat

/- Layer 22: what the statement JarRefills asks, as plain functions. No program. -/
namespace Go.Lane
open Go.Sha
def Dy:List Nat:=((List.range 8).map λ i=>1000003*(i+1))++(List.range 8).map λ i=>7000000*(i+1)
end Go.Lane
namespace Go.Jar
open Go.Sha Go.Pkt Go.Oct Go.Aes Go.Lane
def frW (s n:Nat):List (List UInt8):=(List.range n).map λ i=>gy (s+7000000*(i+1)) 104
def Dc (s n:Nat):List Fld:=(frW s n).map λ b=>(516,b)
theorem qL {f:Fld} (h:f.2.length=104):eK f=f:=by
 obtain ⟨a,b⟩:=f
 have h:b.length=104:=h
 unfold eK
 simp only
 rw [h,show szN 104-4-104=0 from by decide]
 simp
theorem Av {u:List UInt8} (h:u.length=32):[((260:Int),u)].map eK=[(260,u)]:=by
 show [eK (260,u)]=_
 unfold eK
 simp only
 rw [h,show szN 32-4-32=0 from by decide]
 simp
def hR:Hdr:=⟨0,4,4,1,6, -20,0,0,0,0,3,10,20⟩
def CQ (s n:Nat) (u:List UInt8):Pkt:=⟨hR,[(260,u)],Dc s n,false⟩
def DX (s n:Nat) (u nn:List UInt8):List UInt8:=(cD (dnW s) (CQ s n u) nn).1
def D5 (s k n:Nat):Jar:=⟨upW s,dnW s,(ckW s k).tail++frW s n,ck0 s,1,1⟩
theorem ixR (u:List UInt8):ixs 260 [((260:Int),u)] [((260:Int),u)].length=[0]:=rfl
theorem idR {u v:List UInt8}:yp [((260:Int),u)] v ↔ u=v:=by
 constructor
 ·rintro ⟨i,h1,h2⟩
  rw [ixR] at h1
  injection h1 with h1
  subst h1
  exact h2
 ·rintro rfl
  exact ⟨0,ixR u,rfl⟩
end Go.Jar

/- Layers 22 and 26 as plain functions: a question of a jar, and what a server answers it. No program. -/
namespace Go.Tsrv
open Go.Oct Go.Pkt Go.Cook Go.Jar Go.Aes
theorem B5 {f:Fld} (h:f.2.length=32):eK f=f:=by
 obtain ⟨a,b⟩:=f
 have h:b.length=32:=h
 unfold eK
 simp only
 rw [h,show szN 32-4-32=0 from by decide]
 simp
theorem Cr {u c:List UInt8} (hu:u.length=32) (hc:c.length=104) (k:Nat):(aZ u c k).map eK=aZ u c k:=by
 refine (abq λ f hf=>?_).trans (List.map_id _)
 rcases jT hf with h|h|h
 ·rw [h];exact B5 hu
 ·rw [h];exact qL hc
 ·rw [h];exact qL (by show (List.replicate 104 (0:UInt8)).length=104;rw [aaP])
def iy (up:List UInt8)(t:UInt64) (u c:List UInt8)(k:Nat) (nn:List UInt8):List UInt8:=(cD up (jW t u c k) nn).1
theorem jG {up u c nn:List UInt8} (t:UInt64) {k:Nat} (hup:up.length=32) (hu:u.length=32) (hc:c.length=104) (hn:nn.length=16) (hk:k<=7) :
  cD up (jW t u c k) nn=(iy up t u c k nn,0)/\(iy up t u c k nn).length=124+108*(k+1) /\
  aH (iy up t u c k nn)=(⟨bU t,aZ u c k++[(1028,aB nn (bE up (jW t u c k) nn))],[],false⟩,0)/\cW up (iy up t u c k nn)=(⟨bU t,aZ u c k,[],true⟩,0):=by
 have hf:=Cj hu hc t hk
 rw [<- hn] at hf
 have hp:=iK hup hf
 have e1:iy up t u c k nn=_:=congrArg Prod.fst hp.1
 have h3:=hp.2
 have h4:=jq hf
 have h5:=kH hup hf
 have h6:=nM hup hf
 have e:(jW t u c k).plain.map eK=aZ u c k:=Cr hu hc k
 rw [e] at h5 h6
 refine ⟨?_,?_,?_,?_⟩
 ·rw [e1];exact hp.1
 ·rw [e1]
  simp only
  rw [aah,h3,h4,hn]
  show 48+aX (aZ u c k)+(8+aI 16+aI (16+aX []))=_
  rw [Co hu hc,show aX []=0 from rfl]
  unfold aI
  omega
 ·rw [e1];exact h5
 ·rw [e1];exact h6
theorem yg {j:Jar} {c:List UInt8} {rest:List (List UInt8)} (hv:bH j=true) (hc:j.ck=c :: rest) (hs:j.sent≠1099511627776) (t:UInt64) {u nn:List UInt8} (hu:u.length=32) (hn:nn.length=16) :
  kW j t u nn=(({ j with last:=c,ck:=rest,sent:=j.sent+1 },iy j.up t u c (7-rest.length) nn),0)/\j.up.length=32/\j.dn.length=32/\c.length=104/\rest.length<=7:=by
 have hh:=hv
 unfold bH at hh
 rw [aaA,aaA] at hh
 obtain ⟨h1,h2,_⟩:=hh
 have h1:iZ j:=aa0 h1
 have hl:=h1.2.1
 rw [hc,aaS] at hl
 have hc4:c.length=104:=by simpa using aaC.1 h2 c (by rw [hc];exact aa6 ..)
 have ht:cZ j=(({ j with last:=c,ck:=rest,sent:=j.sent+1 },c),0):=by
  unfold cZ
  rw [aam hv,aaf (by rw [hc];simp),aaf hs,hc]
  rfl
 have hp:=(jG t h1.1.1 hu hc4 hn (show 7-rest.length<=7 by omega)).1
 refine ⟨?_,h1.1.1,h1.1.2,hc4,by omega⟩
 unfold kW
 rw [aam ⟨hv,hu,hn⟩,ht]
 simp only
 rw [aam trivial,hp]
 rfl
theorem uq {u c g:List UInt8} (hu:u.length=32) (hc:c.length=104) {k:Nat} (hk:k<=7):gx (aZ u c k++[(1028,g)])=true:=by
 have hl:(aZ u c k++[((1028:Int),g)]).length=3+k:=by rw [aah,ft];simp;omega
 have e:aZ u c k++[((1028:Int),g)]=(260,u) :: (516,c) :: (List.replicate k ((772:Int),List.replicate 104 (0:UInt8))++[(1028,g)]):=by simp [aZ]
 have hm:vp (aZ u c k++[((1028:Int),g)])=List.replicate k ((772:Int),List.replicate 104 (0:UInt8)):=by
  unfold vp
  rw [hl,e,show 3+k-3=k by omega]
  simp
 have hlast:(aZ u c k++[((1028:Int),g)]).getD ((aZ u c k++[((1028:Int),g)]).length-1) (0,[])=(1028,g):=by
  rw [List.getD_eq_getElem?_getD,aah,List.getElem?_append_right (by simp)]
  simp
 have a1:decide (3<=3+k/\3+k<=10)=true:=aaz (by omega)
 have a2:isF 260 32 ((260:Int),u)=true:=by unfold isF;exact aaz ⟨rfl,hu⟩
 have a3:isF 516 104 ((516:Int),c)=true:=by unfold isF;exact aaz ⟨rfl,hc⟩
 have a5:(List.replicate k ((772:Int),List.replicate 104 (0:UInt8))).all (isF 772 104)=true:=aaC.2 λ x hx=>by
  rw [abA hx]
  unfold isF
  exact aaz ⟨rfl,aaP ..⟩
 unfold gx
 rw [hm,hlast,hl,e,a1,a5]
 simp only [List.getD_cons_zero,List.getD_cons_succ]
 rw [a2,a3]
 rfl
theorem p8 {up u c nn:List UInt8} (t:UInt64) {k:Nat} (hup:up.length=32) (hu:u.length=32) (hc:c.length=104) (hn:nn.length=16) (hk:k<=7):fy (iy up t u c k nn)=2:=by
 obtain ⟨_,_,h3,_⟩:=jG t hup hu hc hn hk
 unfold fy
 rw [h3]
 simp only
 rw [aaf (by simp [bU]),aaf (by simp),aam (uq hu hc hk)]
def xH (s:Srv) (u:List UInt8)(o:Opened) (tq r t:UInt64) (al:Bool) (N:List (List UInt8)) (k:Nat):Pkt:=⟨bC s (bU tq) r t al,[(260,u)],if al=true then jj s o N (k+1) else [],false⟩
theorem vg {s:Srv} {o:Opened} {up u c nn:List UInt8} (tq r t:UInt64) {k:Nat} (hup:up.length=32) (hu:u.length=32) (hc:c.length=104) (hn:nn.length=16) (hk:k<=7) (ho:eJ s.ring c=o) (h0:o.err=0) (hu2:o.up=up) (al:Bool) (N:List (List UInt8)) :
  ka s (aH (iy up tq u c k nn)).1 (iy up tq u c k nn) r t al N=((cD o.down (xH s u o tq r t al N k) (N.getD 0 [])).1,true):=by
 obtain ⟨_,_,h3,h4⟩:=jG tq hup hu hc hn hk
 have hck:sM (aH (iy up tq u c k nn)).1=c:=by rw [h3];simp [sM,aZ]
 have hout:rI s (aH (iy up tq u c k nn)).1 o r t al N=xH s u o tq r t al N k:=by
  rw [h3]
  unfold rI xH
  simp only
  have e1:(aZ u c k++[((1028:Int),aB nn (bE up (jW tq u c k) nn))]).take 1=[(260,u)]:=by simp [aZ]
  have e2:(aZ u c k++[((1028:Int),aB nn (bE up (jW tq u c k) nn))]).length-2=k+1:=by rw [aah,ft];simp;omega
  rw [e1,e2]
 unfold ka
 rw [hck,ho,hu2,h4,aaf (by simp [h0]),hout]
def rB (str:Int) (tq r t:UInt64):Hdr:=⟨0,4,4,str,6, -20,0,0,0,0,tq,r,t⟩
def mQ (tq r t:UInt64):Hdr:=⟨0,4,4,0,6, -20,0,0,sV,0,tq,r,t⟩
theorem qk {s:Srv} (tq r t:UInt64) (h0:0<=s.str) (h1:s.str<=255):bC s (bU tq) r t true=rB s.str tq r t:=by
 unfold bC jr rB
 rw [aam rfl,aaf (not_not_intro (jH tq)),aaf (by simp [bU]),aaf (by omega)]
 rfl
theorem s6 {s:Srv} (tq r t:UInt64):bC s (bU tq) r t false=mQ tq r t:=by
 unfold bC cy jr mQ
 rw [aaf (by simp),aaf (not_not_intro (jH tq)),aaf (by simp [bU]),aaf (by omega)]
 rfl
theorem _root_.z43q65{p:Prop}(h:p:=by
 rw [List.getD_eq_getElem?_getD,List.getElem?_eq_getElem (by omega),Option.getD_some]
 exact hN _ (aaM _)):p:=h
theorem yU {s:Srv} {o:Opened} {N:List (List UInt8)} {n:Nat} (hr:aP s.ring=true) (ha:0<=o.algo/\o.algo<=65535) (hu:o.up.length=32) (hdn:o.down.length=32) (hN:∀ x∈N,x.length=16) (hl:n+1<=N.length) {f:Fld} (h:f∈jj s o N n):f.1=516/\f.2.length=104:=by
 unfold jj at h
 obtain ⟨i,hi,rfl⟩:=aa3.1 h
 have hi:=aaU.1 hi
 have hg:(N.getD (1+i) []).length=16:=by
  exact z43q65
 obtain ⟨v1,_,v3,_⟩:=br.1 hr
 obtain ⟨k0,k1,k2⟩:=v1 _ (qQ v3)
 refine ⟨rfl,?_⟩
 show (bV s.ring o.algo o.up o.down (N.getD (1+i) [])).1.length=104
 unfold bV
 rw [aaf (by rw [hr];simp),aaf (by omega),aaf (by omega),aaf (by omega)]
 exact (gQ (m:=hd s.ring) (algo:=o.algo) k0 k1 k2 hg hu hdn).1
theorem tV {L:List Fld} (h:∀ f∈L,f.2.length=104):aX L=108*L.length:=by
 induction L with
 | nil=>rfl
 | cons f L ih =>
  have h1:=h f (aa6 ..)
  have h2:=ih λ g hg=>h g (List.mem_cons_of_mem _ hg)
  show szN f.2.length+aX L=_
  rw [h1,h2,aaS,show szN 104=108 from by decide]
  omega
theorem wY (s:Srv) (o:Opened) (N:List (List UInt8)) (k:Nat):(jj s o N k).length=k:=by unfold jj;simp
theorem BW {H:Hdr} {u:List UInt8} {S:List Fld} (hH:okH H) (hu:u.length=32) (hS:∀ f∈S,f.1=516/\f.2.length=104) (hl:S.length<=8):Fits ⟨H,[(260,u)],S,false⟩ 16 where
 h:=hH
 f1:=λ f hf=>by
  rw [aaB.1 hf]
  exact ⟨⟨by simp,by simp⟩,by show szN u.length<=1232;rw [hu];decide⟩
 f2:=λ f hf=>by
  obtain ⟨h1,h2⟩:=hS f hf
  rw [h1,h2]
  exact ⟨⟨by simp,by simp⟩,by decide⟩
 a:=λ f hf=>by rw [aaB.1 hf];simp
 n1:=by show 1<24;omega
 n2:=by show S.length<=24;omega
 n0:=by omega
 t:=by
  show 48+aX [(260,u)]+(8+aI 16+aI (16+aX S))<=1280
  rw [tV λ f hf=>(hS f hf).2,show aX [((260:Int),u)]=szN u.length by simp [aX],hu,show szN 32=36 from by decide]
  unfold aI;omega
 t2:=by show aX S<=1232;rw [tV λ f hf=>(hS f hf).2];omega
theorem C1 {ky u nn:List UInt8} {H:Hdr} {S:List Fld} (hk:ky.length=32) (hH:okH H) (hu:u.length=32) (hn:nn.length=16) (hS:∀ f∈S,f.1=516/\f.2.length=104) (hl:S.length<=8) :
  ∃ b,cD ky ⟨H,[(260,u)],S,false⟩ nn=(b,0)/\b.length=124+108*S.length/\cW ky b=(⟨H,[(260,u)],S,true⟩,0)/\aH b=(⟨H,[(260,u),(1028,aB nn (bE ky ⟨H,[(260,u)],S,false⟩ nn))],[],false⟩,0):=by
 have hf:=BW hH hu hS hl
 obtain ⟨p,hpp⟩:∃ p:Pkt,(⟨H,[(260,u)],S,false⟩:Pkt)=p:=⟨_,rfl⟩
 have f1:p.h=H:=by rw [<- hpp]
 have f2:p.plain=[(260,u)]:=by rw [<- hpp]
 have f3:p.secret=S:=by rw [<- hpp]
 rw [hpp] at hf ⊢
 clear hpp
 rw [<- hn] at hf
 have hp:=iK hk hf
 have h3:=hp.2
 have h4:=jq hf
 have h5:=kH hk hf
 have h6:=nM hk hf
 have tp:aX [((260:Int),u)]=36:=by rw [show aX [((260:Int),u)]=szN u.length by simp [aX],hu];decide
 have a1:[((260:Int),u)].map eK=[(260,u)]:=Av hu
 have a2:S.map eK=S:=(abq λ f hf=>qL (hS f hf).2).trans (List.map_id _)
 have a3:aX S=108*S.length:=tV λ f hf=>(hS f hf).2
 refine ⟨_,hp.1,?_,?_,?_⟩
 ·rw [aah,h3,h4,f2,f3,tp,hn,a3]
  unfold aI;omega
 ·rw [f1,f2,f3,a1,a2] at h6
  rw [f1,f2]
  exact h6
 ·rw [f1,f2,a1] at h5
  rw [f1,f2]
  exact h5
theorem zj {S:List Fld} (h:∀ f∈S,f.1=516):iR S=S.map (·.2):=by
 unfold iR
 rw [List.filter_eq_self.2 λ f hf=>by simpa using h f hf]
theorem AF {j:Jar} {b u:List UInt8} {H:Hdr} {S:List Fld} (hj:bH j=true) (hu:u.length=32) (hm:H.mode=4) (hb:cW j.dn b=(⟨H,[(260,u)],S,true⟩,0)) (hS:∀ f∈S,f.1=516/\f.2.length=104) :
  qB j u b=((dK j (S.map (·.2)),⟨H,[(260,u)],S,true⟩),0):=by
 unfold qB
 rw [aam ⟨hj,hu⟩,hb]
 unfold qg
 rw [aaf (by simp),aaf (by simp [hm]),aaf (not_not_intro (idR.2 rfl))]
 simp only
 rw [zj λ f hf=>(hS f hf).1,aam]
 unfold nW
 exact aaC.2 λ x hx=>by
  obtain ⟨f,hf,rfl⟩:=aa3.1 hx
  simpa using (hS f hf).2
end Go.Tsrv

/- Layer 26: plain questions at one instant. Plain functions. -/
namespace Go.Tsrv
open Go.Oct Go.Pkt Go.Cook Go.Aes
def pd (t:UInt64):List UInt8:=bY (bU t)
theorem wZ (t:UInt64):(pd t).length=48:=cU _
theorem qa {h:Hdr} (hh:okH h):aH (bY h)=(⟨h,[],[],false⟩,0):=by
 have hd:bO (bY h)=((h,[]),0):=by
  have:=lS h hh [] (by simp)
  rwa [List.append_nil] at this
 have hf:bg []=([],0):=by decide
 unfold aH
 rw [hd]
 simp only
 rw [hf]
 simp
theorem qj {h:Hdr} (hh:okH h):en ⟨h,[],[],false⟩=(bY h,0):=by
 have h1:cP h=(bY h,0):=aam hh
 have h2:aW []=([],0):=by decide
 unfold en aU
 simp only
 rw [h1,h2]
 simp
theorem xC (t:UInt64):fy (pd t)=1:=by
 unfold fy pd
 rw [qa (jH t)]
 simp only
 rw [aaf (by simp [bU]),aam trivial]
theorem qR {str:Int} (h0:0<=str) (h1:str<=255) (tq r t:UInt64):okH (rB str tq r t):=by
 unfold okH rB
 simp only
 omega
theorem oE (tq r t:UInt64):okH (mQ tq r t):=by
 unfold okH mQ
 simp only
 omega
theorem xA {s:Srv} (ho:s.opn=true) (h0:0<=s.str) (h1:s.str<=255) (paid paid2:Int) (al:Bool) (tq r t:UInt64) (N:List (List UInt8)) :
  wC s paid paid2 al (pd tq) r t N=(bY (if al=true then rB s.str tq r t else mQ tq r t),paid2):=by
 unfold wC
 rw [aam (xC tq),aam ho]
 unfold pd
 rw [qa (jH tq)]
 simp only
 cases al
 ·rw [s6,aaf (by simp),qj (oE _ _ _)]
 ·rw [qk _ _ _ h0 h1,aam rfl,qj (qR h0 h1 _ _ _)]
def ee (bu i:Nat):Int:=if i=0 then 0 else 50+1000*(min i bu:Nat)
theorem zH {bu i:Nat} (h1:1<=bu) (h2:bu<=8) (hi:i<=14):eC (ee bu i) 1000 bu 50=((ee bu (i+1),decide (i<bu)),0):=by
 have hv:fg (ee bu i) 1000 bu 50=true:=by
  unfold fg gl eU ee
  rw [aaA,aaA,abv,abv,abv]
  split <;> omega
 unfold eC
 rw [aaf (by rw [hv];simp)]
 by_cases h0:i=0
 ·subst h0
  have e:ee bu 0=0:=rfl
  have e2:ee bu (0+1)=1050:=by
   unfold ee
   rw [aaf (by omega)]
   omega
  rw [e,e2,aaf (by omega),aaf (by decide),aaz (by omega)]
  rfl
 ·have e:ee bu i=50+1000*(min i bu:Nat):=by unfold ee;rw [aaf h0]
  have e2:ee bu (i+1)=50+1000*(min (i+1) bu:Nat):=by unfold ee;rw [aaf (by omega)]
  rw [e,e2]
  by_cases hlt:i<bu
  ·rw [aaf (by omega),aaf ?_,aaz hlt]
   ·congr 2
    rw [show max (50+1000*((min i bu:Nat):Int)) 50=50+1000*((min i bu:Nat):Int) by omega]
    omega
   ·unfold eU
    rw [show max (50+1000*((min i bu:Nat):Int)) 50=50+1000*((min i bu:Nat):Int) by omega,decide_eq_false_iff_not]
    omega
  ·rw [aam (by omega),aaF hlt]
   congr 2
   omega
end Go.Tsrv

/- Layer 26: no answer is longer than its question. Plain functions. -/
namespace Go.Tsrv
open Go.Oct Go.Pkt Go.Cook Go.Aes
theorem kG {d n s:List UInt8} (h:cT d=some (n,s)):16<=n.length/\d.length=4+aI n.length+aI s.length:=by
 unfold cT at h
 simp only at h
 split at h
 ·rename_i hc
  obtain ⟨h1,h2,h3,h4⟩:=hc
  injection h with h
  injection h with e1 e2
  rw [<- h4]
  have hl:=fj ((d.drop 4).take (bL (d.take 2))) ((d.drop (4+aI (bL (d.take 2)))).take (bL ((d.drop 2).take 2)))
  rw [e1,e2] at hl
  have e3:n.length=bL (d.take 2):=by
   rw [<- e1,aaD,aaR]
   unfold aI at h3
   omega
  rw [e1,e2]
  exact ⟨by omega,hl⟩
 ·cases h
end Go.Tsrv

/- Layer 26: what a server answers the question of a jar, and what the jar makes of it. Plain functions. -/
namespace Go.Tsrv
open Go.Oct Go.Pkt Go.Cook Go.Jar Go.Aes
def uG (s:Srv) (tq r t:UInt64) (al:Bool):Hdr:=if al=true then rB s.str tq r t else mQ tq r t
def jD (s:Srv) (o:Opened) (N:List (List UInt8)) (k:Nat) (al:Bool):List Fld:=if al=true then jj s o N (k+1) else []
theorem zP {s:Srv} (h0:0<=s.str) (h1:s.str<=255) (tq r t:UInt64) (al:Bool):okH (uG s tq r t al)/\(uG s tq r t al).mode=4/\bC s (bU tq) r t al=uG s tq r t al:=by
 cases al
 ·exact ⟨oE _ _ _,rfl,s6 _ _ _⟩
 ·exact ⟨qR h0 h1 _ _ _,rfl,qk _ _ _ h0 h1⟩
theorem vP {s:Srv} (h:eh s=0):aP s.ring=true/\1<=s.str/\s.str<=255:=by
 unfold eh at h
 split at h
 ·cases h
 ·rename_i hv
  split at h
  ·cases h
  ·rename_i h2
   exact ⟨by simpa using hv,by omega,by omega⟩
theorem uR {s:Srv} {paid now p2:Int} {al:Bool} (hs:eh s=0) (hal:eC paid s.ev s.bu now=((p2,al),0)) (q:List UInt8)(r t:UInt64) {N:List (List UInt8)} (hN:∀ x∈N,x.length=16) (h9:9<=N.length) :
  sw s paid now q r t N=(wC s paid p2 al q r t N,0):=by
 unfold sw
 rw [aaf (by rw [hs];simp),hal,aaf (by simp),aaf ?_,aaf (by omega)]
 rw [aaC.2 λ x hx=>by simpa using hN x hx]
 simp
theorem zB {s:Srv} {paid now p2:Int} {al:Bool} {o:Opened} {up u c nn:List UInt8} (tq r t:UInt64) {k:Nat} (hup:up.length=32) (hu:u.length=32) (hc:c.length=104) (hn:nn.length=16) (hk:k<=7) (hs:eh s=0) (hal:eC paid s.ev s.bu now=((p2,al),0))
  {N:List (List UInt8)} (hN:∀ x∈N,x.length=16) (h9:9<=N.length) (ho:eJ s.ring c=o) (h0:o.err=0) (huo:o.up=up) (hdo:o.down.length=32) (ha:0<=o.algo/\o.algo<=65535) :
  ∃ b,sw s paid now (iy up tq u c k nn) r t N=((b,p2),0)/\b.length=124+108*(jD s o N k al).length /\
   (∀ j:Jar,bH j=true->j.dn=o.down->qB j u b=((dK j ((jD s o N k al).map (·.2)),⟨uG s tq r t al,[(260,u)],jD s o N k al,true⟩),0)) /\
   (jD s o N k al).length=(if al=true then k+1 else 0)/\(∀ f∈jD s o N k al,f.1=516/\f.2.length=104):=by
 obtain ⟨hv,s0,s1⟩:=vP hs
 obtain ⟨g1,g2,g3⟩:=zP (s:=s) (by omega) s1 tq r t al
 have hS:∀ f∈jD s o N k al,f.1=516/\f.2.length=104:=λ f hf=>by
  unfold jD at hf
  split at hf
  ·exact yU hv ha (by rw [huo];exact hup) hdo hN (by omega) hf
  ·cases hf
 have hl:(jD s o N k al).length=(if al=true then k+1 else 0):=by
  unfold jD
  split
  ·exact wY _ _ _ _
  ·rfl
 have hl8:(jD s o N k al).length<=8:=by
  rw [hl]
  split <;> omega
 have hN0:(N.getD 0 []).length=16:=by
  exact z43q65
 obtain ⟨b,e1,e2,e3,e4⟩:=C1 (nn:=N.getD 0 []) hdo g1 hu hN0 hS hl8
 refine ⟨b,?_,e2,λ j hj hd=>?_,hl,hS⟩
 ·rw [uR hs hal _ _ _ hN h9]
  unfold wC
  rw [p8 tq hup hu hc hn hk,aaf (by decide),aam rfl,vg tq r t hup hu hc hn hk ho h0 huo al N]
  have ho:xH s u o tq r t al N k=⟨uG s tq r t al,[(260,u)],jD s o N k al,false⟩:=by
   unfold xH
   rw [g3]
   rfl
  rw [ho]
  simp only
  rw [e1,aam trivial]
 ·exact AF hj hu g2 (by rw [hd];exact e3) hS
end Go.Tsrv

/- The walks of layer 22 of the document: Take. -/
namespace Go.Proofs.YtmdahnkcnagkjaaGreat
open Go.RowKit Go.Sec Go.Oct Go.Jar BigFrame
theorem _root_.z43q80{p:Prop}(h:p:=by
 have:=q;unfold bH at this;rw [aaA] at this;exact aa0 this.1):p:=h
theorem uy (a1 a2 a3 a4:Option Addr)(n1 c1 n2 c2 n3 c3 n4 c4:Nat) (j:Jar) (w:World)(h1:Sl w a1 n1 j.up) (m1:n1<=1000000) (h2:Sl w a2 n2 j.dn) (m2:n2<=1000000) (h3:Bsc w a3 n3 j.ck) (hc3:n3<=c3) (hn3:n3<=100000) (hb3:∀ x∈j.ck,x.length<=1000000) (h4:Sl w a4 n4 j.last) (m4:n4<=1000000) (hs0:0<=j.sent\/bH j=false) :
  Calls Tryz.prog 100 #[.agg #[.slice a1 n1 c1, .slice a2 n2 c2, .slice a3 n3 c3, .slice a4 n4 c4, .int .i64 j.net, .int .i64 j.sent]] w (pR (cZ j) w):=by
 have hl3:=h3.len
 have hv:=λ W H1 H2 H3 H4=>gS a1 a2 a3 a4 n1 c1 n2 c2 n3 c3 n4 c4 j W H1 H2 H3 hc3 (by omega) H4
 have hcl:=λ W H1 H2 H3 H4=>nP a1 a2 a3 a4 n1 c1 n2 c2 n3 c3 n4 c4 j W H1 m1 H2 m2 H3 hn3 hb3 H4 m4
 obtain ⟨r,hr⟩:∃ r,cZ j=r:=⟨_,rfl⟩
 rw [hr]
 replace hr:=Lib.hid hr
 have hl3:=h3.len
 go_enter Tryz.func100,Tryz.ntmps100
 go_wp2_with fail
 refine u9 ?_
 intro W hW
 have hE:Ext w W:=by rw [hW];exact eX
 have hB:Blk W w.heap.size 57 [.slice a1 n1 c1, .slice a2 n2 c2, .slice a3 n3 c3, .slice a4 n4 c4, .int .i64 j.net, .int .i64 j.sent]:=by rw [hW];exact bK
 have hR:Blk W (w.heap.size+1) 57 [.slice none 0 0, .slice none 0 0, .slice none 0 0, .slice none 0 0, .int .i64 0, .int .i64 0]:=by rw [hW];exact bK
 clear hW
 (with_reducible refine (hv _ (h1.ext hE) (h2.ext hE) (h3.ext hE) (h4.ext hE)).mono ?_)
 rintro e w0 ⟨rfl,hx0⟩
 have hE:=hE.trans hx0
 have hB:=hB.extB hx0
 have hR:=hR.extB hx0
 clear hx0 hv
 haveI:=hB.blt
 haveI:=hR.blt
 have f1:=hB.cell? 2 rfl
 have f5:=hB.cell? 5 rfl
 cases q:bH j
 ·have er:=Lib.hid (show r=((bP,[]),3) by rw [<- hr.out];unfold cZ;rw [q];rfl)
  clear hs0 hr
  go_wp2_with (first
   | (refine aa RJ6 rfl _ _ rfl (w.heap.size+1) 0 rfl _ rfl 57 _ hR rfl (by simp) oC ?_;intro V hV hMV)
   | fail)
  refine aac (aD Tryz.results100 RJ6 _ _ (w.heap.size+1) 0 ([.slice none 0 0, .slice none 0 0, .slice none 0 0, .slice none 0 0, .int .i64 0, .int .i64 0]) rfl hV.rd rfl (.slice none 0 0) (.int .i64 3) rfl rfl) rfl ?_
  rw [er.out]
  exact pR.zero _ _ _ (Below.trans hE (hMV.below (by omega) hE.size))
 ·have hhd:iZ j:=by
   exact z43q80
  obtain ⟨-, -, -, -, -,hsn0,hsn1⟩:=hhd
  by_cases q0:n3=0
  ·have er:=Lib.hid (show r=((bP,[]),10) by rw [<- hr.out];unfold cZ;rw [q,aam rfl,aam (by omega)])
   have q0i:((n3:Int) == 0)=true:=by rw [aa7];omega
   clear hs0 hr
   go_wp2_with (first
    | (refine aa RJ6 rfl _ _ rfl (w.heap.size+1) 0 rfl _ rfl 57 _ hR rfl (by simp) oC ?_;intro V hV hMV)
    | fail)
   refine aac (aD Tryz.results100 RJ6 _ _ (w.heap.size+1) 0 ([.slice none 0 0, .slice none 0 0, .slice none 0 0, .slice none 0 0, .int .i64 0, .int .i64 0]) rfl hV.rd rfl (.slice none 0 0) (.int .i64 10) rfl rfl) rfl ?_
   rw [er.out]
   exact pR.zero _ _ _ (Below.trans hE (hMV.below (by omega) hE.size))
  ·have q0i:((n3:Int) == 0)=false:=by rw [aaJ];omega
   by_cases qs:j.sent=1099511627776
   ·have er:=Lib.hid (show r=((bP,[]),7) by rw [<- hr.out];unfold cZ;rw [q,aam rfl,aaf (by omega),aam qs])
    clear hs0 q0 hr
    go_wp2_with (first
     | (refine aa RJ6 rfl _ _ rfl (w.heap.size+1) 0 rfl _ rfl 57 _ hR rfl (by simp) oC ?_;intro V hV hMV)
     | fail)
    refine aac (aD Tryz.results100 RJ6 _ _ (w.heap.size+1) 0 ([.slice none 0 0, .slice none 0 0, .slice none 0 0, .slice none 0 0, .int .i64 0, .int .i64 0]) rfl hV.rd rfl (.slice none 0 0) (.int .i64 7) rfl rfl) rfl ?_
    rw [er.out]
    exact pR.zero _ _ _ (Below.trans hE (hMV.below (by omega) hE.size))
   ·have er:=Lib.hid (show r=(({ j with last:=j.ck.headD [],ck:=j.ck.tail,sent:=j.sent+1 },j.ck.headD []),0) by rw [<- hr.out];unfold cZ;rw [q,aam rfl,aaf (by omega),aaf qs])
    have qsi:(j.sent == 1099511627776)=false:=by rw [aaJ];exact qs
    clear hs0 q0 hr
    go_wp2_with (first
     | (refine af RJ6 rfl _ rfl w.heap.size 0 rfl _ hB.rd rfl ?_)
     | fail)
    (with_reducible refine (hcl _ (h1.ext hE) (h2.ext hE) (h3.ext hE) (h4.ext hE)).mono ?_)
    rintro e w1 ⟨b1,d1,b2,d2,b3,d3,b4,d4,rfl,o1,o2,⟨B,hB0,hBs,o3⟩,o4,hx1⟩
    have hR:=hR.extB hx1
    have hE0:=hE
    have hE:=hE.trans hx1
    have hlt:=hR.lt
    clear hcl hx1 hB f1 f5
    go_wp2_with (first
     | (refine ai RJ6 rfl rfl _ _ rfl rfl rfl rfl (by simp [Act.put]) _ rfl (by simp) rfl oC ?_;intro x hz _)
     | fail)
    have hxx:Ext w1 (w1.ext x):=Ext.of_ext _ _
    have hR:=hR.extB hxx
    have hE:=hE.trans hxx
    have o1:=o1.ext hxx
    have o2:=o2.ext hxx
    have o3:=o3.ext hxx
    have o4:=o4.ext hxx
    have o3c:=o3.le
    obtain ⟨g5,hg5⟩:∃ g,g=w1.heap.size:=⟨_,rfl⟩
    rw [<- hg5] at hz hlt ⊢
    clear hxx hg5
    generalize w1.ext x=W1 at *
    obtain ⟨y,L,hyL⟩:∃ y L,j.ck=y :: L:=by
     cases hj:j.ck with
     | nil=>rw [hj] at hl3;exact absurd hl3.symm (by simpa using λ h=>by simp [h] at q0i)
     | cons y L=>exact ⟨y,L,rfl⟩
    rw [hyL] at o3 hl3
    have hb3w:∀ b o,b3=some ⟨b,o,none⟩->w.heap.size<=b:=λ b o h=>by
     have hb:=o3.base h
     have:=hE0.size
     omega
    obtain ⟨b0,o0,a',n',c',rfl,hb0,hcell,hc',hS⟩:=o3.bsc.at 0 (by rw [aaS] at hl3;omega)
    have hb0w:w.heap.size<=b0:=hb3w _ _ rfl
    clear hb3w hE0
    haveI:=hz.blt
    haveI:=hb0
    have f2:=hz.cell? 2 rfl
    have f3:=hz.cell? 3 rfl
    have f5:=hz.cell? 5 rfl
    have z5:=hz.free 5
    have z2:=hz.free 2
    have z3:=hz.free 3
    have n0:0<n3:=by rw [aaS] at hl3;omega
    have n0i:(0:Int)<(n3:Int):=by omega
    have n1i:(1:Int)<=(n3:Int):=by omega
    have n1d:(1:Int)<=(d3:Int):=by omega
    have hcell0:W1.cell? ⟨b0,o0,none⟩=some (.slice a' n' c'):=by simpa using hcell
    have hsi:j.sent+1<=1099511627776:=by omega
    have hyl:y.length<=1000000:=hb3 y (by rw [hyL];exact aa6 ..)
    have hS:Sl W1 a' n' y:=hS
    have hyn:=hS.len
    have hny:n'<=1000000:=by omega
    replace hyn:=Lib.hid hyn
    have erf:=er.out
    rw [hyL] at erf
    replace er:=Lib.hid erf
    by_cases hd:d3=1
    ·subst hd
     obtain rfl:n3=1:=by omega
     simp only [Act.put]
     go_region
     all_goals
      go_wp2_with fail
      refine dg ?_
      intro V hV
      have hM:Mut g5 W1 V:=by rw [hV];exact ((((Mut.refl _ _).setCell 3 _).setCell 2 _).setCell 5 _).drew
      have hzV:Blk V g5 57 [.slice b1 n1 d1, .slice b2 n2 d2, .slice (some ⟨b0,o0,none⟩) 0 0, .slice a' n' c', .int .i64 j.net, .int .i64 (j.sent+1)]:=by
       rw [hV];exact (((hz.set 3 (.slice a' n' c')).set 2 (.slice (some ⟨b0,o0,none⟩) 0 0)).set 5 (.int .i64 (j.sent+1))).extB (Ext.drew (Ext.refl _))
      clear hV
      have hRV:=Blk.turn hM hR (by omega)
      have o1:=o1.mutT hz (by decide) hM
      have o2:=o2.mutT hz (by decide) hM
      have o3:=o3.mut hz (by decide) (by simp) hM
      have hS:=hS.mut hz (by simp) hM
      have hEV:Ext w V:=Below.trans hE (hM.below (by have:=hE.size;omega) hE.size)
      clear hM hR hE hz f2 f3 f5 z5 z2 z3 hcell hcell0 o4
      haveI:=hzV.blt
      have f3:=hzV.cell? 3 rfl
      refine ae 5 [[],[],[1],[1,2],[1,2,3],[0,1,2,3,4],[0,1,2,3,4,5],[0,1,2,3,4,5,6]] (by kernel_rfl) (by kernel_rfl) (by kernel_rfl) (by kernel_rfl) ?_;simp only [q8q,q9q,q10q,q11q,q12q,q13q]
      (refine aw RJ6 _ rfl (λ _=>rfl) g5 0 (λ _=>by simp [go_sem]) _ hzV.rd rfl ?_)
      (repeat (refine aA ?_;(try simp only [Act.put,q0q,q1q,q2q])))
      (refine aj (λ p => .slice (p 0).1 1 1) (λ p w''=>Bss w'' (p 0).1 1 ([y])) (λ p w w' h hx=>h.ext hx) (λ us w' hx hf=>⟨rfl,?_⟩) ?_;(unfold gives;simp [go_sem,execOp];exact ⟨λ _=>(some ⟨w'.heap.size,0,none⟩,0),rfl,Ext.of_alloc _ _,ie (hS.ext hx) _⟩))
      (refine aj (λ p => .slice (p 0).1 n' (p 0).2) (λ p w''=>Own w'' 0 (p 0).1 n' (p 0).2 y) (λ p w w' h hx=>h.ext hx) (λ us w' hx hf=>⟨rfl,?_⟩) ?_;(unfold gives;simp [go_sem,execOp];exact az (aan _) (dH _ n' y hyn.out _ (by exact (hf _ (aae _ (aab _)) rfl)) hny)))
      (refine aT ?_;intro us x hx hf;(try simp only [Act.put,q0q,q1q,q2q,ag]);(try simp only [q3q,q4q,aao,aaa,aal,q5q,q6q,q7q,aap,aaq,aar] at hf);(try simp only [Nat.reduceAdd,aad] at hf ⊢))
      obtain ⟨-,hf⟩:=hf
      obtain ⟨a9,ha9⟩:∃ a,(us 4 0).1=a:=⟨_,rfl⟩
      obtain ⟨c9,hc9⟩:∃ a,(us 4 0).2=a:=⟨_,rfl⟩
      rw [ha9,hc9] at hf ⊢
      clear ha9 hc9
      have hxx:Ext V (V.ext x):=Ext.of_ext _ _
      have o1:=o1.ext hxx
      have o2:=o2.ext hxx
      have o3:=o3.ext hxx
      have hS:=hS.ext hxx
      have hRV:=hRV.extB hxx
      have hEV:=hEV.trans hxx
      clear hzV f3 hxx
      generalize V.ext x=V2 at *
      haveI:=hRV.blt
      go_wp2_with (first
       | (refine aa RJ6 rfl _ _ rfl (w.heap.size+1) 0 rfl _ rfl 57 _ hRV rfl (by simp) oC ?_;intro w9 hB9 hM9)
       | fail)
      refine aac (aD Tryz.results100 RJ6 _ _ (w.heap.size+1) 0 ([.slice b1 n1 d1, .slice b2 n2 d2, .slice (some ⟨b0,o0,none⟩) 0 0, .slice a' n' c', .int .i64 j.net, .int .i64 (j.sent+1)]) rfl hB9.rd rfl (.slice a9 n' c9) (.int .i64 0) rfl rfl) rfl ?_
      rw [er.out]
      have hty:fF w9 (some ⟨b0,o0,none⟩):=λ b o h=>(o3.mut hRV (by decide) (by simp) hM9).typ3 b o0 (by injection h with h;injection h with h _;rw [h])
      have o3:=(o3.mut hRV (by decide) (by simp) hM9).bsc
      exact ⟨b1,n1,d1,b2,n2,d2,(some ⟨b0,o0,none⟩),0,0,a',n',c',a9,n',c9,rfl,o1.mutT hRV (by decide) hM9,o2.mutT hRV (by decide) hM9,(by have hL:=List.length_eq_zero_iff.1 (show L.length=0 by rw [aaS] at hl3;omega);subst hL;exact Bsc.nil _ _),by omega,hS.mut hRV (by simp) hM9,hc',(hf.mono (aan _)).mutT hRV (by decide) hM9,(λ b o h=>by injection h with h;injection h with h _;omega),hty,Below.trans hEV (hM9.below (by omega) hEV.size)⟩
    ·clear q0i
     simp only [Act.put]
     go_region
     all_goals
      go_wp2_with fail
      refine dg ?_
      intro V hV
      have hM:Mut g5 W1 V:=by rw [hV];exact ((((Mut.refl _ _).setCell 3 _).setCell 2 _).setCell 5 _).drew
      have hzV:Blk V g5 57 [.slice b1 n1 d1, .slice b2 n2 d2, .slice (some ⟨b0,o0+1,none⟩) (n3-1) (d3-1), .slice a' n' c', .int .i64 j.net, .int .i64 (j.sent+1)]:=by
       rw [hV];exact (((hz.set 3 (.slice a' n' c')).set 2 (.slice (some ⟨b0,o0+1,none⟩) (n3-1) (d3-1))).set 5 (.int .i64 (j.sent+1))).extB (Ext.drew (Ext.refl _))
      clear hV
      have hRV:=Blk.turn hM hR (by omega)
      have o1:=o1.mutT hz (by decide) hM
      have o2:=o2.mutT hz (by decide) hM
      have o3:=o3.mut hz (by decide) (by simp) hM
      have hS:=hS.mut hz (by simp) hM
      have hEV:Ext w V:=Below.trans hE (hM.below (by have:=hE.size;omega) hE.size)
      clear hM hR hE hz f2 f3 f5 z5 z2 z3 hcell hcell0 o4
      haveI:=hzV.blt
      have f3:=hzV.cell? 3 rfl
      refine ae 5 [[],[],[1],[1,2],[1,2,3],[0,1,2,3,4],[0,1,2,3,4,5],[0,1,2,3,4,5,6]] (by kernel_rfl) (by kernel_rfl) (by kernel_rfl) (by kernel_rfl) ?_;simp only [q8q,q9q,q10q,q11q,q12q,q13q]
      (refine aw RJ6 _ rfl (λ _=>rfl) g5 0 (λ _=>by simp [go_sem]) _ hzV.rd rfl ?_)
      (repeat (refine aA ?_;(try simp only [Act.put,q0q,q1q,q2q])))
      (refine aj (λ p => .slice (p 0).1 1 1) (λ p w''=>Bss w'' (p 0).1 1 ([y])) (λ p w w' h hx=>h.ext hx) (λ us w' hx hf=>⟨rfl,?_⟩) ?_;(unfold gives;simp [go_sem,execOp];exact ⟨λ _=>(some ⟨w'.heap.size,0,none⟩,0),rfl,Ext.of_alloc _ _,ie (hS.ext hx) _⟩))
      (refine aj (λ p => .slice (p 0).1 n' (p 0).2) (λ p w''=>Own w'' 0 (p 0).1 n' (p 0).2 y) (λ p w w' h hx=>h.ext hx) (λ us w' hx hf=>⟨rfl,?_⟩) ?_;(unfold gives;simp [go_sem,execOp];exact az (aan _) (dH _ n' y hyn.out _ (by exact (hf _ (aae _ (aab _)) rfl)) hny)))
      (refine aT ?_;intro us x hx hf;(try simp only [Act.put,q0q,q1q,q2q,ag]);(try simp only [q3q,q4q,aao,aaa,aal,q5q,q6q,q7q,aap,aaq,aar] at hf);(try simp only [Nat.reduceAdd,aad] at hf ⊢))
      obtain ⟨-,hf⟩:=hf
      obtain ⟨a9,ha9⟩:∃ a,(us 4 0).1=a:=⟨_,rfl⟩
      obtain ⟨c9,hc9⟩:∃ a,(us 4 0).2=a:=⟨_,rfl⟩
      rw [ha9,hc9] at hf ⊢
      clear ha9 hc9
      have hxx:Ext V (V.ext x):=Ext.of_ext _ _
      have o1:=o1.ext hxx
      have o2:=o2.ext hxx
      have o3:=o3.ext hxx
      have hS:=hS.ext hxx
      have hRV:=hRV.extB hxx
      have hEV:=hEV.trans hxx
      clear hzV f3 hxx
      generalize V.ext x=V2 at *
      haveI:=hRV.blt
      go_wp2_with (first
       | (refine aa RJ6 rfl _ _ rfl (w.heap.size+1) 0 rfl _ rfl 57 _ hRV rfl (by simp) oC ?_;intro w9 hB9 hM9)
       | fail)
      refine aac (aD Tryz.results100 RJ6 _ _ (w.heap.size+1) 0 ([.slice b1 n1 d1, .slice b2 n2 d2, .slice (some ⟨b0,o0+1,none⟩) (n3-1) (d3-1), .slice a' n' c', .int .i64 j.net, .int .i64 (j.sent+1)]) rfl hB9.rd rfl (.slice a9 n' c9) (.int .i64 0) rfl rfl) rfl ?_
      rw [er.out]
      have hty:fF w9 (some ⟨b0,o0+1,none⟩):=λ b o h=>(o3.mut hRV (by decide) (by simp) hM9).typ3 b o0 (by injection h with h;injection h with h _;rw [h])
      have o3:=(o3.mut hRV (by decide) (by simp) hM9).bsc
      exact ⟨b1,n1,d1,b2,n2,d2,(some ⟨b0,o0+1,none⟩),(n3-1),(d3-1),a',n',c',a9,n',c9,rfl,o1.mutT hRV (by decide) hM9,o2.mutT hRV (by decide) hM9,o3.tail,by omega,hS.mut hRV (by simp) hM9,hc',(hf.mono (aan _)).mutT hRV (by decide) hM9,(λ b o h=>by injection h with h;injection h with h _;omega),hty,Below.trans hEV (hM9.below (by omega) hEV.size)⟩
end Go.Proofs.YtmdahnkcnagkjaaGreat

/- The walks of layer 16 of the document: signed, Decode, Reply. -/
namespace Go.Pkt
open Go.Sec Go.RowKit Go.Oct
theorem Dd (x:UInt8):n8 (x >>> 6)=((x.toNat / 64:Nat):Int):=kQ (p:=λ x=>n8 (x >>> 6)=((x.toNat / 64:Nat):Int)) (by decide +kernel) x
theorem C4 (x:UInt8):n8 (x >>> 3 &&& 7)=((x.toNat / 8 % 8:Nat):Int):=kQ (p:=λ x=>n8 (x >>> 3 &&& 7)=((x.toNat / 8 % 8:Nat):Int)) (by decide +kernel) x
theorem C3 (x:UInt8):n8 (x &&& 7)=((x.toNat % 8:Nat):Int):=kQ (p:=λ x=>n8 (x &&& 7)=((x.toNat % 8:Nat):Int)) (by decide +kernel) x
end Go.Pkt
namespace Go.Proofs.YtmdahnkcnagkjaaGreat
open Go.RowKit Go.Sec Go.Oct Go.Pkt BigFrame
theorem lj (x:UInt8) (w:World) :
  Calls Tryz.prog 73 #[.int .u8 (n8 x)] w λ e w'=>e = .returned (.int .i64 (sgn x))/\Ext w w':=by
 by_cases h:x.toNat<128
 ·have e:=Lib.hid (show sgn x=n8 x by unfold sgn n8;rw [aam h])
  have i1:¬ (127:Int)<n8 x:=by unfold n8;omega
  clear h
  go_enter Tryz.func73,Tryz.ntmps73
  go_wp2_with fail
  go_ret
  exact ⟨by rw [e.out];rfl,eX⟩
 ·have e:=Lib.hid (show sgn x=n8 x-256 by unfold sgn n8;rw [aaf h])
  have i1:(127:Int)<n8 x:=by unfold n8;omega
  clear h
  go_enter Tryz.func73,Tryz.ntmps73
  go_wp2_with fail
  go_ret
  exact ⟨by show Ending.returned (.int .i64 (wrap64 (n8 x-256)))=_;rw [<- e.out,s9],eX⟩
theorem kO (a:Option Addr)(n c:Nat) (b:List UInt8)(w:World)(hS:Sl w a n b) (hc:n<=c) (hn:n<=1000000) :
  Calls Tryz.prog 34 #[.slice a n c] w (fU (bO b) w):=by
 have hl:=hS.len
 by_cases h1:n<48
 ·have er:bO b=((gM,[]),1):=aam (by omega)
  rw [er]
  have i1:(n:Int)<48:=by omega
  clear hl
  go_enter Tryz.func34,Tryz.ntmps34
  go_wp2_with (first
   | (refine aa bc rfl _ _ rfl w.heap.size 0 rfl _ rfl 64 _ bK rfl (by simp) (by first|exact aK _|(simp;done)|(simp;(repeat' (first|rfl|constructor)))) ?_;intro V hV hMV)
   | fail)
  refine aac (aD Tryz.results34 bc _ _ w.heap.size 0 ([.int .i64 0, .int .i64 0, .int .i64 0, .int .i64 0, .int .i64 0, .int .i64 0, .int .u32 0, .int .u32 0, .int .u32 0, .int .u64 0, .int .u64 0, .int .u64 0, .int .u64 0]) rfl hV.rd rfl (.slice none 0 0) (.int .i64 1) rfl rfl) rfl ?_
  exact fU.err _ _ _ (Below.trans (b:=w.alloc _) eX (hMV.below (by omega) (by simp)))
 ·have i1:¬ (n:Int)<48:=by omega
  by_cases h2:1280<n
  ·have er:bO b=((gM,[]),2):=by unfold bO;rw [aaf (by omega),aam (by omega)]
   rw [er]
   have i2:(1280:Int)<(n:Int):=by omega
   clear hl
   go_enter Tryz.func34,Tryz.ntmps34
   go_wp2_with (first
    | (refine aa bc rfl _ _ rfl w.heap.size 0 rfl _ rfl 64 _ bK rfl (by simp) (by first|exact aK _|(simp;done)|(simp;(repeat' (first|rfl|constructor)))) ?_;intro V hV hMV)
    | fail)
   refine aac (aD Tryz.results34 bc _ _ w.heap.size 0 ([.int .i64 0, .int .i64 0, .int .i64 0, .int .i64 0, .int .i64 0, .int .i64 0, .int .u32 0, .int .u32 0, .int .u32 0, .int .u64 0, .int .u64 0, .int .u64 0, .int .u64 0]) rfl hV.rd rfl (.slice none 0 0) (.int .i64 2) rfl rfl) rfl ?_
   exact fU.err _ _ _ (Below.trans (b:=w.alloc _) eX (hMV.below (by omega) (by simp)))
  ·have i2:¬ (1280:Int)<(n:Int):=by omega
   obtain ⟨r,hr⟩:∃ r,bO b=r:=⟨_,rfl⟩
   have hr1:(rdH b).ver=4\/(rdH b).ver=3->r=((rdH b,b.drop 48),0):=λ h=>by rw [<- hr];unfold bO;rw [aaf (by omega),aaf (by omega),aam h]
   have hr2:¬ ((rdH b).ver=4\/(rdH b).ver=3)->r=((gM,[]),3):=λ h=>by rw [<- hr];unfold bO;rw [aaf (by omega),aaf (by omega),aaf h]
   rw [hr]
   clear hr
   obtain ⟨f,hf⟩:∃ f:Nat->UInt8,∀ o,b.getD o 0=f o:=⟨_,λ _=>rfl⟩
   obtain ⟨b0,o0,rfl,hb0, -⟩:=hS.at 0 (by omega)
   have hce:∀ k,k<n->w.cell? ⟨b0,o0+k,none⟩=some (.int .u8 (n8 (f k))):=λ k hk=>by
    obtain ⟨b1,o1,e1,_,hc1⟩:=hS.at k hk
    injection e1 with e1
    injection e1 with e1 e2
    subst e1 e2
    rw [hc1,<- hf k,List.getD_eq_getElem?_getD,List.getElem?_eq_getElem (by omega)];rfl
   have hsl:∀ k m,k<n->m<=n-k->Sl w (some ⟨b0,o0+k,none⟩) m ((b.drop k).take m):=λ k m hk hm=>(mM hS hc hk).take m hm
   have hg:∀ k m,m<=8->∀ W,Sl W (some ⟨b0,o0+k,none⟩) m ((b.drop k).take m)->Calls Tryz.prog 69 #[.slice (some ⟨b0,o0+k,none⟩) m (c-k)] W λ e w'=>e = .returned (.int .u64 (n64 (dZ b k m)))/\Ext W w':=λ k m hm W H=>jy _ m (c-k) _ W H (by omega)
   have z0:=Lib.hid (show n8 (f 0 >>> 6)=(rdH b).leap by rw [<- hf];exact Dd _)
   have z1:=Lib.hid (show n8 (f 0 >>> 3 &&& 7)=(rdH b).ver by rw [<- hf];exact C4 _)
   have z2:=Lib.hid (show n8 (f 0 &&& 7)=(rdH b).mode by rw [<- hf];exact C3 _)
   have z3:=Lib.hid (show n8 (f 1)=(rdH b).strat by rw [<- hf];rfl)
   have z4:=Lib.hid (show sgn (f 2)=(rdH b).poll by rw [<- hf];rfl)
   have z5:=Lib.hid (show sgn (f 3)=(rdH b).prec by rw [<- hf];rfl)
   go_enter Tryz.func34,Tryz.ntmps34
   go_wp2_with fail
   refine dg ?_
   intro W hW
   have hE:Ext w W:=by rw [hW];exact eX
   have hH:Blk W w.heap.size 64 [.int .i64 0, .int .i64 0, .int .i64 0, .int .i64 0, .int .i64 0, .int .i64 0, .int .u32 0, .int .u32 0, .int .u32 0, .int .u64 0, .int .u64 0, .int .u64 0, .int .u64 0]:=by rw [hW];exact bK
   clear hW
   haveI:=BlkLt.mk (aak hb0.lt hE.size)
   have hce:=λ k hk=>(hE.cell (p:=⟨b0,o0+k,none⟩) hb0.lt).trans (hce k hk)
   have hsl:=λ k m h1 h2=>(hsl k m h1 h2).ext hE
   have k0:=hce 0 (by omega)
   have k1:=hce 1 (by omega)
   have k2:=hce 2 (by omega)
   have k3:=hce 3 (by omega)
   rw [abu] at k0
   have j0:(1:Int)<(n:Int):=by omega
   have j1:0<n:=by omega
   have j2:(2:Int)<(n:Int):=by omega
   have j3:(3:Int)<(n:Int):=by omega
   have d4:¬ c=4:=by omega
   have d8:¬ c=8:=by omega
   have d12:¬ c=12:=by omega
   have d16:¬ c=16:=by omega
   have d24:¬ c=24:=by omega
   have d32:¬ c=32:=by omega
   have d40:¬ c=40:=by omega
   have j8:(8:Int)<=(c:Int):=by omega
   have j12:(12:Int)<=(c:Int):=by omega
   have j16:(16:Int)<=(c:Int):=by omega
   have j24:(24:Int)<=(c:Int):=by omega
   have j32:(32:Int)<=(c:Int):=by omega
   have j40:(40:Int)<=(c:Int):=by omega
   have j48:(48:Int)<=(c:Int):=by omega
   clear hce hf
   refine R2.ae 54 [[],[0],[0,1],[0,1,2],[0,1,2,3],[],[5],[5,6],[5,6,7],[5,6,7,8],[5,6,7,8,9],[],[11],[11,12],[11,12,13],[11,12,13,14],[],[16],[16,17],[16,17,18],[],[20],[20,21],[20,21,22],[],[24],[24,25],[20,21,22,23,24,25,26],[],[28],[20,21,22,23,24,25,26,27,28,29],[20,21,22,23,24,25,26,27,28,29,30],[],[32],[20,21,22,23,24,25,26,27,28,29,30,32,33],[20,21,22,23,24,25,26,27,28,29,30,32,33,34],[],[36],[20,21,22,23,24,25,26,27,28,29,30,32,33,34,36,37],[20,21,22,23,24,25,26,27,28,29,30,32,33,34,36,37,38],[],[40],[20,21,22,23,24,25,26,27,28,29,30,32,33,34,36,37,38,40,41],[],[43],[20,21,22,23,24,25,26,27,28,29,30,32,33,34,36,37,38,40,41,42,43,44],[],[46],[20,21,22,23,24,25,26,27,28,29,30,32,33,34,36,37,38,40,41,42,43,44,45,46,47],[],[49],[20,21,22,23,24,25,26,27,28,29,30,32,33,34,36,37,38,40,41,42,43,44,45,46,47,48,49,50],[0,1,2,3,4,5,6,7,8,9,10,11,12,13,14,15,16,17,18,19,20,21,22,23,24,25,26,27,28,29,30,31,32,33,34,35,36,37,38,39,40,41,42,43,44,45,46,47,48,49,50,51],[],[0,1,2,3,4,5,6,7,8,9,10,11,12,13,14,15,16,17,18,19,20,21,22,23,24,25,26,27,28,29,30,31,32,33,34,35,36,37,38,39,40,41,42,43,44,45,46,47,48,49,50,51,52,53]] (by kernel_rfl) (by kernel_rfl) (by kernel_rfl) (by kernel_rfl) ?_;simp only [q8q,q9q,q10q,q11q,q12q,q13q]
   (repeat (apply R2.aE;(case h=>(intro us w' hx hf;obtain ⟨x,rfl⟩:=hx.out;refine ⟨rfl,?_⟩;simp [go_sem,execOp, *];(try simp (disch:=omega) only [q17q,q18q,q19q]);rfl));(try simp only [Act.put,q0q,q1q,q2q])))
   (refine R2.aj (λ _ => .int .i64 (sgn (f 2))) (λ _ _=>True) (λ _ _ _ _ _=>trivial) (λ us w' hx hf=>⟨rfl,?_⟩) ?_;(unfold gives;simp [go_sem,execOp];refine (lj (f 2) _).mono ?_;rintro e w1 ⟨rfl,hx1⟩;first|exact ⟨rfl,hx1⟩|simpa using hx1))
   (repeat (apply R2.aE;(case h=>(intro us w' hx hf;obtain ⟨x,rfl⟩:=hx.out;refine ⟨rfl,?_⟩;simp [go_sem,execOp, *];(try simp (disch:=omega) only [q17q,q18q,q19q]);rfl));(try simp only [Act.put,q0q,q1q,q2q])))
   (refine R2.aj (λ _ => .int .i64 (sgn (f 3))) (λ _ _=>True) (λ _ _ _ _ _=>trivial) (λ us w' hx hf=>⟨rfl,?_⟩) ?_;(unfold gives;simp [go_sem,execOp];refine (lj (f 3) _).mono ?_;rintro e w1 ⟨rfl,hx1⟩;first|exact ⟨rfl,hx1⟩|simpa using hx1))
   (repeat (apply R2.aE;(case h=>(intro us w' hx hf;obtain ⟨x,rfl⟩:=hx.out;refine ⟨rfl,?_⟩;simp [go_sem,execOp, *];(try simp (disch:=omega) only [q17q,q18q,q19q]);rfl));(try simp only [Act.put,q0q,q1q,q2q])))
   (refine R2.aj (λ _ => .int .u64 (n64 (dZ b 4 4))) (λ _ _=>True) (λ _ _ _ _ _=>trivial) (λ us w' hx hf=>⟨rfl,?_⟩) ?_;(unfold gives;simp [go_sem,execOp];refine (hg 4 4 (by omega) _ ((hsl 4 4 (by omega) (by omega)).ext hx)).mono ?_;rintro e w1 ⟨rfl,hx1⟩;first|exact ⟨rfl,hx1⟩|simpa using hx1))
   (repeat (apply R2.aE;(case h=>(intro us w' hx hf;obtain ⟨x,rfl⟩:=hx.out;refine ⟨rfl,?_⟩;simp [go_sem,execOp, *];(try simp (disch:=omega) only [q17q,q18q,q19q]);rfl));(try simp only [Act.put,q0q,q1q,q2q])))
   (refine R2.aj (λ _ => .int .u64 (n64 (dZ b 8 4))) (λ _ _=>True) (λ _ _ _ _ _=>trivial) (λ us w' hx hf=>⟨rfl,?_⟩) ?_;(unfold gives;simp [go_sem,execOp];refine (hg 8 4 (by omega) _ ((hsl 8 4 (by omega) (by omega)).ext hx)).mono ?_;rintro e w1 ⟨rfl,hx1⟩;first|exact ⟨rfl,hx1⟩|simpa using hx1))
   (repeat (apply R2.aE;(case h=>(intro us w' hx hf;obtain ⟨x,rfl⟩:=hx.out;refine ⟨rfl,?_⟩;simp [go_sem,execOp, *];(try simp (disch:=omega) only [q17q,q18q,q19q]);rfl));(try simp only [Act.put,q0q,q1q,q2q])))
   (refine R2.aj (λ _ => .int .u64 (n64 (dZ b 12 4))) (λ _ _=>True) (λ _ _ _ _ _=>trivial) (λ us w' hx hf=>⟨rfl,?_⟩) ?_;(unfold gives;simp [go_sem,execOp];refine (hg 12 4 (by omega) _ ((hsl 12 4 (by omega) (by omega)).ext hx)).mono ?_;rintro e w1 ⟨rfl,hx1⟩;first|exact ⟨rfl,hx1⟩|simpa using hx1))
   (repeat (apply R2.aE;(case h=>(intro us w' hx hf;obtain ⟨x,rfl⟩:=hx.out;refine ⟨rfl,?_⟩;simp [go_sem,execOp, *];(try simp (disch:=omega) only [q17q,q18q,q19q]);rfl));(try simp only [Act.put,q0q,q1q,q2q])))
   (refine R2.aj (λ _ => .int .u64 (n64 (dZ b 16 8))) (λ _ _=>True) (λ _ _ _ _ _=>trivial) (λ us w' hx hf=>⟨rfl,?_⟩) ?_;(unfold gives;simp [go_sem,execOp];refine (hg 16 8 (by omega) _ ((hsl 16 8 (by omega) (by omega)).ext hx)).mono ?_;rintro e w1 ⟨rfl,hx1⟩;first|exact ⟨rfl,hx1⟩|simpa using hx1))
   (repeat (apply R2.aE;(case h=>(intro us w' hx hf;obtain ⟨x,rfl⟩:=hx.out;refine ⟨rfl,?_⟩;simp [go_sem,execOp, *];(try simp (disch:=omega) only [q17q,q18q,q19q]);rfl));(try simp only [Act.put,q0q,q1q,q2q])))
   (refine R2.aj (λ _ => .int .u64 (n64 (dZ b 24 8))) (λ _ _=>True) (λ _ _ _ _ _=>trivial) (λ us w' hx hf=>⟨rfl,?_⟩) ?_;(unfold gives;simp [go_sem,execOp];refine (hg 24 8 (by omega) _ ((hsl 24 8 (by omega) (by omega)).ext hx)).mono ?_;rintro e w1 ⟨rfl,hx1⟩;first|exact ⟨rfl,hx1⟩|simpa using hx1))
   (repeat (apply R2.aE;(case h=>(intro us w' hx hf;obtain ⟨x,rfl⟩:=hx.out;refine ⟨rfl,?_⟩;simp [go_sem,execOp, *];(try simp (disch:=omega) only [q17q,q18q,q19q]);rfl));(try simp only [Act.put,q0q,q1q,q2q])))
   (refine R2.aj (λ _ => .int .u64 (n64 (dZ b 32 8))) (λ _ _=>True) (λ _ _ _ _ _=>trivial) (λ us w' hx hf=>⟨rfl,?_⟩) ?_;(unfold gives;simp [go_sem,execOp];refine (hg 32 8 (by omega) _ ((hsl 32 8 (by omega) (by omega)).ext hx)).mono ?_;rintro e w1 ⟨rfl,hx1⟩;first|exact ⟨rfl,hx1⟩|simpa using hx1))
   (repeat (apply R2.aE;(case h=>(intro us w' hx hf;obtain ⟨x,rfl⟩:=hx.out;refine ⟨rfl,?_⟩;simp [go_sem,execOp, *];(try simp (disch:=omega) only [q17q,q18q,q19q]);rfl));(try simp only [Act.put,q0q,q1q,q2q])))
   (refine R2.aj (λ _ => .int .u64 (n64 (dZ b 40 8))) (λ _ _=>True) (λ _ _ _ _ _=>trivial) (λ us w' hx hf=>⟨rfl,?_⟩) ?_;(unfold gives;simp [go_sem,execOp];refine (hg 40 8 (by omega) _ ((hsl 40 8 (by omega) (by omega)).ext hx)).mono ?_;rintro e w1 ⟨rfl,hx1⟩;first|exact ⟨rfl,hx1⟩|simpa using hx1))
   (repeat (apply R2.aE;(case h=>(intro us w' hx hf;obtain ⟨x,rfl⟩:=hx.out;refine ⟨rfl,?_⟩;simp [go_sem,execOp, *];(try simp (disch:=omega) only [q17q,q18q,q19q]);rfl));(try simp only [Act.put,q0q,q1q,q2q])))
   (refine R2.cO _ ([.int .i64 0, .int .i64 0, .int .i64 0, .int .i64 0, .int .i64 0, .int .i64 0, .int .u32 0, .int .u32 0, .int .u32 0, .int .u64 0, .int .u64 0, .int .u64 0, .int .u64 0]) Tryz.zeroValue64 rfl rfl rfl ?_)
   (refine R2.bj ?_;intro us w' hx hf hd;obtain ⟨x,rfl⟩:=hx.out;(try simp only [Act.put,q0q,q1q,q2q,ag]);(try simp only [q3q,q4q,aao,aaa,aal,q5q,q6q,q7q,aap,aaq,aar] at hf);(try simp only [Nat.reduceAdd,aad] at hf ⊢))
   obtain ⟨g,eg,hgW,hBg⟩:=hf
   rw [eg]
   have hx5:Ext W (W.ext x):=Ext.of_ext _ _
   have hgE:=aau hE.size hgW
   have hne:w.heap.size≠g:=by have:=hH.lt;omega
   have hH:=hH.extB hx5
   have hE:=hE.trans hx5
   have hS:=hS.ext hE
   clear k0 k1 k2 k3 hsl hg hd eg hx5
   generalize W.ext x=W6 at *
   rw [z0.out,z1.out,z2.out,z3.out,z4.out,z5.out]
   clear z0 z1 z2 z3 z4 z5 d4 d8 d12 d16 d24 d32 d40 j0 j1 j2 j3 j8 j12 j16 j24 j32 j40
   haveI:=hBg.blt
   haveI:=hH.blt
   by_cases v3:(rdH b).ver=3
   ·have er:=Lib.hid (hr1 (.inr v3))
    have i3:((rdH b).ver != 3)=false:=by rw [aai];exact v3
    clear hr1 hr2 v3
    go_wp2_with (first
     | ((refine aa bc rfl _ _ rfl g 0 rfl _ rfl 64 _ hBg rfl (by simp) oC ?_;intro V hV0 hMV);have hV:Blk V g 64 [.int .i64 (rdH b).leap, .int .i64 (rdH b).ver, .int .i64 (rdH b).mode, .int .i64 (rdH b).strat, .int .i64 (rdH b).poll, .int .i64 (rdH b).prec, .int .u32 (n32 (rdH b).rd), .int .u32 (n32 (rdH b).rp), .int .u32 (n32 (rdH b).id), .int .u64 (n64 (rdH b).ref), .int .u64 (n64 (rdH b).org), .int .u64 (n64 (rdH b).rcv), .int .u64 (n64 (rdH b).tx)]:=hV0;clear hV0;haveI:=hV.blt;have q1:=hV.cell? 1 rfl;have hHV:=Blk.turn hMV hH hne;haveI:=hHV.blt)
     | (fail)
     | fail)
    have hEV:Ext w V:=Below.trans hE (hMV.below hgE hE.size)
    have hSV:=hS.mut hBg (by simp) hMV
    clear q1 hS hBg hH hE hMV
    have hcd:n-48<=c-48:=by omega
    obtain ⟨A,hA,hSA⟩:∃ A,(if c=48 then some (⟨b0,o0,none⟩:Addr) else some ⟨b0,o0+48,none⟩)=A/\Sl V A (n-48) (b.drop 48):=⟨_,rfl,by have:=hSV.drop c 48 hc;simpa [dU,bW] using this⟩
    have hdl:(b.drop 48).length=n-48:=hSA.len
    have j48:(48:Int)<=(n:Int):=by omega
    have j48c:(48:Int)<=(c:Int):=by omega
    refine ae 5 [[],[],[1],[1,2],[1,2,3],[0,1,2,3,4],[0,1,2,3,4,5],[0,1,2,3,4,5,6]] (by kernel_rfl) (by kernel_rfl) (by kernel_rfl) (by kernel_rfl) ?_;simp only [q8q,q9q,q10q,q11q,q12q,q13q]
    (refine aw bc _ rfl (λ _=>rfl) g 0 (λ _=>by simp [go_sem]) _ hV.rd rfl ?_)
    (repeat (refine aA ?_;(try simp only [Act.put,q0q,q1q,q2q])))
    (refine aj (λ p => .slice (p 0).1 1 1) (λ p w''=>Bss w'' (p 0).1 1 ([b.drop 48])) (λ p w w' h hx=>h.ext hx) (λ us w' hx hf=>⟨rfl,?_⟩) ?_;(unfold gives;simp [go_sem,execOp];exact ⟨λ _=>(some ⟨w'.heap.size,0,none⟩,0),rfl,Ext.of_alloc _ _,ie (hSA.ext hx) _⟩))
    (refine aj (λ p => .slice (p 0).1 (n-48) (p 0).2) (λ p w''=>Own w'' 0 (p 0).1 (n-48) (p 0).2 (b.drop 48)) (λ p w w' h hx=>h.ext hx) (λ us w' hx hf=>⟨rfl,?_⟩) ?_;(unfold gives;simp [go_sem,execOp];exact az (aan _) ((by have:=bf _ 1 1 [b.drop 48] w' (by exact (hf _ (aae _ (aab _)) rfl)) (by omega) (n-48) (by rw [cC];exact hdl) (by omega);rw [cC] at this;exact this))))
    (refine aT ?_;intro us x hx hf;(try simp only [Act.put,q0q,q1q,q2q,ag]);(try simp only [q3q,q4q,aao,aaa,aal,q5q,q6q,q7q,aap,aaq,aar] at hf);(try simp only [Nat.reduceAdd,aad] at hf ⊢))
    obtain ⟨-,hO⟩:=hf
    obtain ⟨a5,ha5⟩:∃ a,(us 4 0).1=a:=⟨_,rfl⟩
    obtain ⟨c5,hc5⟩:∃ a,(us 4 0).2=a:=⟨_,rfl⟩
    rw [ha5,hc5] at hO ⊢
    clear ha5 hc5
    have hxx:Ext V (V.ext x):=Ext.of_ext _ _
    have hHx:=hHV.extB hxx
    have hEx:=hEV.trans hxx
    generalize V.ext x=V5 at *
    go_wp2_with (first
     | (refine aa bc rfl _ _ rfl w.heap.size 0 rfl _ rfl 64 _ hHx rfl (by simp) oC ?_;intro U hU hMU)
     | fail)
    refine aac (aD Tryz.results34 bc _ _ w.heap.size 0 ([.int .i64 (rdH b).leap, .int .i64 (rdH b).ver, .int .i64 (rdH b).mode, .int .i64 (rdH b).strat, .int .i64 (rdH b).poll, .int .i64 (rdH b).prec, .int .u32 (n32 (rdH b).rd), .int .u32 (n32 (rdH b).rp), .int .u32 (n32 (rdH b).id), .int .u64 (n64 (rdH b).ref), .int .u64 (n64 (rdH b).org), .int .u64 (n64 (rdH b).rcv), .int .u64 (n64 (rdH b).tx)]) rfl hU.rd rfl (.slice a5 (n-48) c5) (.int .i64 0) rfl rfl) rfl ?_
    have hOV:=Sl.mut hO.sl hHx (by simp) hMU
    rw [er.out]
    exact ⟨a5,c5,by rw [hdl],by rw [hdl];exact hOV,by rw [hdl];exact hO.le.1,Below.trans hEx (hMU.below (by omega) hEx.size)⟩
   ·by_cases v4:(rdH b).ver=4
    ·have er:=Lib.hid (hr1 (.inl v4))
     have i3:((rdH b).ver != 3)=true:=by rw [aaw];exact v3
     have i4:((rdH b).ver != 4)=false:=by rw [aai];exact v4
     clear hr1 hr2 v3 v4
     go_wp2_with (first
      | ((refine aa bc rfl _ _ rfl g 0 rfl _ rfl 64 _ hBg rfl (by simp) oC ?_;intro V hV0 hMV);have hV:Blk V g 64 [.int .i64 (rdH b).leap, .int .i64 (rdH b).ver, .int .i64 (rdH b).mode, .int .i64 (rdH b).strat, .int .i64 (rdH b).poll, .int .i64 (rdH b).prec, .int .u32 (n32 (rdH b).rd), .int .u32 (n32 (rdH b).rp), .int .u32 (n32 (rdH b).id), .int .u64 (n64 (rdH b).ref), .int .u64 (n64 (rdH b).org), .int .u64 (n64 (rdH b).rcv), .int .u64 (n64 (rdH b).tx)]:=hV0;clear hV0;haveI:=hV.blt;have q1:=hV.cell? 1 rfl;have hHV:=Blk.turn hMV hH hne;haveI:=hHV.blt)
      | (fail)
      | fail)
     have hEV:Ext w V:=Below.trans hE (hMV.below hgE hE.size)
     have hSV:=hS.mut hBg (by simp) hMV
     clear q1 hS hBg hH hE hMV
     have hcd:n-48<=c-48:=by omega
     obtain ⟨A,hA,hSA⟩:∃ A,(if c=48 then some (⟨b0,o0,none⟩:Addr) else some ⟨b0,o0+48,none⟩)=A/\Sl V A (n-48) (b.drop 48):=⟨_,rfl,by have:=hSV.drop c 48 hc;simpa [dU,bW] using this⟩
     have hdl:(b.drop 48).length=n-48:=hSA.len
     have j48:(48:Int)<=(n:Int):=by omega
     have j48c:(48:Int)<=(c:Int):=by omega
     refine ae 5 [[],[],[1],[1,2],[1,2,3],[0,1,2,3,4],[0,1,2,3,4,5],[0,1,2,3,4,5,6]] (by kernel_rfl) (by kernel_rfl) (by kernel_rfl) (by kernel_rfl) ?_;simp only [q8q,q9q,q10q,q11q,q12q,q13q]
     (refine aw bc _ rfl (λ _=>rfl) g 0 (λ _=>by simp [go_sem]) _ hV.rd rfl ?_)
     (repeat (refine aA ?_;(try simp only [Act.put,q0q,q1q,q2q])))
     (refine aj (λ p => .slice (p 0).1 1 1) (λ p w''=>Bss w'' (p 0).1 1 ([b.drop 48])) (λ p w w' h hx=>h.ext hx) (λ us w' hx hf=>⟨rfl,?_⟩) ?_;(unfold gives;simp [go_sem,execOp];exact ⟨λ _=>(some ⟨w'.heap.size,0,none⟩,0),rfl,Ext.of_alloc _ _,ie (hSA.ext hx) _⟩))
     (refine aj (λ p => .slice (p 0).1 (n-48) (p 0).2) (λ p w''=>Own w'' 0 (p 0).1 (n-48) (p 0).2 (b.drop 48)) (λ p w w' h hx=>h.ext hx) (λ us w' hx hf=>⟨rfl,?_⟩) ?_;(unfold gives;simp [go_sem,execOp];exact az (aan _) ((by have:=bf _ 1 1 [b.drop 48] w' (by exact (hf _ (aae _ (aab _)) rfl)) (by omega) (n-48) (by rw [cC];exact hdl) (by omega);rw [cC] at this;exact this))))
     (refine aT ?_;intro us x hx hf;(try simp only [Act.put,q0q,q1q,q2q,ag]);(try simp only [q3q,q4q,aao,aaa,aal,q5q,q6q,q7q,aap,aaq,aar] at hf);(try simp only [Nat.reduceAdd,aad] at hf ⊢))
     obtain ⟨-,hO⟩:=hf
     obtain ⟨a5,ha5⟩:∃ a,(us 4 0).1=a:=⟨_,rfl⟩
     obtain ⟨c5,hc5⟩:∃ a,(us 4 0).2=a:=⟨_,rfl⟩
     rw [ha5,hc5] at hO ⊢
     clear ha5 hc5
     have hxx:Ext V (V.ext x):=Ext.of_ext _ _
     have hHx:=hHV.extB hxx
     have hEx:=hEV.trans hxx
     generalize V.ext x=V5 at *
     go_wp2_with (first
      | (refine aa bc rfl _ _ rfl w.heap.size 0 rfl _ rfl 64 _ hHx rfl (by simp) oC ?_;intro U hU hMU)
      | fail)
     refine aac (aD Tryz.results34 bc _ _ w.heap.size 0 ([.int .i64 (rdH b).leap, .int .i64 (rdH b).ver, .int .i64 (rdH b).mode, .int .i64 (rdH b).strat, .int .i64 (rdH b).poll, .int .i64 (rdH b).prec, .int .u32 (n32 (rdH b).rd), .int .u32 (n32 (rdH b).rp), .int .u32 (n32 (rdH b).id), .int .u64 (n64 (rdH b).ref), .int .u64 (n64 (rdH b).org), .int .u64 (n64 (rdH b).rcv), .int .u64 (n64 (rdH b).tx)]) rfl hU.rd rfl (.slice a5 (n-48) c5) (.int .i64 0) rfl rfl) rfl ?_
     have hOV:=Sl.mut hO.sl hHx (by simp) hMU
     rw [er.out]
     exact ⟨a5,c5,by rw [hdl],by rw [hdl];exact hOV,by rw [hdl];exact hO.le.1,Below.trans hEx (hMU.below (by omega) hEx.size)⟩
    ·have er:=Lib.hid (hr2 (by omega))
     have i3:((rdH b).ver != 3)=true:=by rw [aaw];exact v3
     have i4:((rdH b).ver != 4)=true:=by rw [aaw];exact v4
     clear hr1 hr2 v3 v4
     go_wp2_with (first
      | ((refine aa bc rfl _ _ rfl g 0 rfl _ rfl 64 _ hBg rfl (by simp) oC ?_;intro V hV0 hMV);have hV:Blk V g 64 [.int .i64 (rdH b).leap, .int .i64 (rdH b).ver, .int .i64 (rdH b).mode, .int .i64 (rdH b).strat, .int .i64 (rdH b).poll, .int .i64 (rdH b).prec, .int .u32 (n32 (rdH b).rd), .int .u32 (n32 (rdH b).rp), .int .u32 (n32 (rdH b).id), .int .u64 (n64 (rdH b).ref), .int .u64 (n64 (rdH b).org), .int .u64 (n64 (rdH b).rcv), .int .u64 (n64 (rdH b).tx)]:=hV0;clear hV0;haveI:=hV.blt;have q1:=hV.cell? 1 rfl;have hHV:=Blk.turn hMV hH hne;haveI:=hHV.blt)
      | ((refine aa bc rfl _ _ rfl w.heap.size 0 rfl _ rfl 64 _ hHV rfl (by simp) (by first|exact aK _|(simp;done)|(simp;(repeat' (first|rfl|constructor)))) ?_;intro V2 hV2 hMV2))
      | fail)
     have hEV:Ext w V:=Below.trans hE (hMV.below hgE hE.size)
     have hSV:=hS.mut hBg (by simp) hMV
     refine aac (aD Tryz.results34 bc _ _ w.heap.size 0 ([.int .i64 0, .int .i64 0, .int .i64 0, .int .i64 0, .int .i64 0, .int .i64 0, .int .u32 0, .int .u32 0, .int .u32 0, .int .u64 0, .int .u64 0, .int .u64 0, .int .u64 0]) rfl hV2.rd rfl (.slice none 0 0) (.int .i64 3) rfl rfl) rfl ?_
     rw [er.out]
     exact fU.err _ _ _ (Below.trans hEV (hMV2.below (aag _) hEV.size))
end Go.Proofs.YtmdahnkcnagkjaaGreat
