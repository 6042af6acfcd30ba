/- Lemmas of this claim, several texts joined. -/
import Derived.Test.YtdmifbfgeeldnaaGreatZ4
import Derived.Test.YtdmifbfgeeldnaaGreatZ15
import Derived.Test.YtdmifbfgeeldnaaGreatZ16
import Derived.Test.YtdmifbfgeeldnaaGreatZ26
import Derived.Test.YtdmifbfgeeldnaaGreatZ27
import Derived.Test.YtdmifbfgeeldnaaGreatZ28
import Derived.Test.YtdmifbfgeeldnaaGreatZ31
import Derived.Test.YtdmifbfgeeldnaaGreatZ33
import Derived.Test.YtdmifbfgeeldnaaGreatZ34
import Derived.Test.YtdmifbfgeeldnaaGreatZ35
set_option maxRecDepth 100000
open List renaming setIfInBounds_toArray → q0q, set_cons_succ → q1q, set_cons_zero → q2q, mem_cons → q3q, not_mem_nil → q4q, nil_append → q5q, cons_append → q6q, mem_append → q7q, take_succ_cons → q8q, take_zero → q9q, drop_succ_cons → q10q, drop_zero → q11q, take_nil → q12q, drop_nil → q13q
set_option linter.unusedVariables false
set_option linter.unusedSimpArgs false
/- The walks of layer 18 of the document: Protect. -/
namespace Go.Proofs.YtdmifbfgeeldnaaGreat
open Go.RowKit Go.Sec Go.Oct Go.Pkt Go.Aes BigFrame
set_option maxHeartbeats 2000000 in
theorem rprotect_any (ak an a1 a2:Option Addr)(nk ck nn cn n1 c1 n2 c2:Nat) (p:Pkt) (ky nonce:List UInt8)(w:World)(hk:Sl w ak nk ky) (hck:nk≤ck) (hnn:Sl w an nn nonce) (hcn:nn≤cn) (hn:nn≤1000000)
  (hI1:Ib w a1 n1 p.plain) (hn1:n1≤1000000) (hL1:∀ f∈p.plain,f.2.length≤1000000) (hI2:Ib w a2 n2 p.secret) (hn2:n2≤1000000) (hL2:∀ f∈p.secret,f.2.length≤1000000) :
  Calls Tryz.prog 11 #[.slice ak nk ck, .agg #[.int .i64 p.h.leap, .int .i64 p.h.ver, .int .i64 p.h.mode, .int .i64 p.h.strat, .int .i64 p.h.poll, .int .i64 p.h.prec, .int .u32 (n32 p.h.rd), .int .u32 (n32 p.h.rp), .int .u32 (n32 p.h.id), .int .u64 (n64 p.h.ref), .int .u64 (n64 p.h.org), .int .u64 (n64 p.h.rcv), .int .u64 (n64 p.h.tx), .slice a1 n1 c1, .slice a2 n2 c2, .bool p.guarded], .slice an nn cn] w (Read2 (protE ky p nonce).1.length (protE ky p nonce).1 (.int .i64 (protE ky p nonce).2) w):=by
 have lk:=hk.len
 have ln:=hnn.len
 have l1:=hI1.len
 have he:=fun W=>rhencode_any p.h W
 have ho:=fun W H=>rxencode_any a1 n1 c1 p.plain W H hn1 hL1
 have hs:=fun W H=>rxencode_any a2 n2 c2 p.secret W H hn2 hL2
 obtain ⟨r,hr⟩:∃ r,protE ky p nonce=r:=⟨_,rfl⟩
 rw [hr]
 have hr:=Lib.hid hr
 by_cases q1:nk=32
 ·by_cases q2:16≤nn∧nn≤32
  ·have q1':ky.length=32:=by omega
   have q2':¬ (nonce.length<16∨32<nonce.length):=by omega
   have q2a:¬ (nn:Int)<16:=by omega
   have q2b:¬ (32:Int)<(nn:Int):=by omega
   subst q1
   go_enter Tryz.func11,Tryz.ntmps11
   go_wp2_with (first
    | (refine wpList_load_arr (RH13) rfl _ rfl (w.heap.size) (0) rfl ([.int .i64 p.h.leap, .int .i64 p.h.ver, .int .i64 p.h.mode, .int .i64 p.h.strat, .int .i64 p.h.poll, .int .i64 p.h.prec, .int .u32 (n32 p.h.rd), .int .u32 (n32 p.h.rp), .int .u32 (n32 p.h.id), .int .u64 (n64 p.h.ref), .int .u64 (n64 p.h.org), .int .u64 (n64 p.h.rcv), .int .u64 (n64 p.h.tx)]) ((Rd.left (vs:=[.int .i64 p.h.leap, .int .i64 p.h.ver, .int .i64 p.h.mode, .int .i64 p.h.strat, .int .i64 p.h.poll, .int .i64 p.h.prec, .int .u32 (n32 p.h.rd), .int .u32 (n32 p.h.rp), .int .u32 (n32 p.h.id), .int .u64 (n64 p.h.ref), .int .u64 (n64 p.h.org), .int .u64 (n64 p.h.rcv), .int .u64 (n64 p.h.tx)]) (us:=[.slice a1 n1 c1, .slice a2 n2 c2, .bool p.guarded]) (Blk.new w #[.int .i64 p.h.leap, .int .i64 p.h.ver, .int .i64 p.h.mode, .int .i64 p.h.strat, .int .i64 p.h.poll, .int .i64 p.h.prec, .int .u32 (n32 p.h.rd), .int .u32 (n32 p.h.rp), .int .u32 (n32 p.h.id), .int .u64 (n64 p.h.ref), .int .u64 (n64 p.h.org), .int .u64 (n64 p.h.rcv), .int .u64 (n64 p.h.tx), .slice a1 n1 c1, .slice a2 n2 c2, .bool p.guarded] 32).rd)) (rfl) ?_)
    | fail)
   refine nameCl ?_
   intro W hW
   have hE:Ext w W:=by rw [hW];exact eX
   have hB:Blk W w.heap.size 32 [.int .i64 p.h.leap, .int .i64 p.h.ver, .int .i64 p.h.mode, .int .i64 p.h.strat, .int .i64 p.h.poll, .int .i64 p.h.prec, .int .u32 (n32 p.h.rd), .int .u32 (n32 p.h.rp), .int .u32 (n32 p.h.id), .int .u64 (n64 p.h.ref), .int .u64 (n64 p.h.org), .int .u64 (n64 p.h.rcv), .int .u64 (n64 p.h.tx), .slice a1 n1 c1, .slice a2 n2 c2, .bool p.guarded]:=by rw [hW];exact bK
   clear hW
   (with_reducible refine (he W).mono ?_)
   rintro e w0 ⟨bh,dh,rfl,hSh,hdh,hx0⟩
   have hE:=hE.trans hx0
   have hB:=hB.extB hx0
   haveI:=hB.blt
   have f13:w0.cell? ⟨w.heap.size,13,none⟩=some (.slice a1 n1 c1):=hB.cell? 13 rfl
   have f14:w0.cell? ⟨w.heap.size,14,none⟩=some (.slice a2 n2 c2):=hB.cell? 14 rfl
   clear hx0 he
   by_cases p0:(encH p.h).2=0
   ·rw [p0]
    go_wp2_with fail
    clear f13 f14
    (with_reducible refine (ho w0 (hI1.ext hE)).mono ?_)
    rintro e w1 ⟨b1,d1,rfl,hS1,hd1,hx1⟩
    have hE1:=hE.trans hx1
    have hB1:=hB.extB hx1
    have hSh:=hSh.ext hx1
    haveI:=hB1.blt
    have f13:w1.cell? ⟨w.heap.size,13,none⟩=some (.slice a1 n1 c1):=hB1.cell? 13 rfl
    have f14:w1.cell? ⟨w.heap.size,14,none⟩=some (.slice a2 n2 c2):=hB1.cell? 14 rfl
    clear hE hB hx1 ho
    by_cases p1:(encF p.plain).2=0
    ·rw [p1]
     have eo:=openB_ok p0 p1
     have q3:(openB p.h p.plain).2=0:=by rw [eo]
     have hn24:n1≤24:=by have:=(encF_ok p1).2.1;omega
     have hbl:=openB_len p.h p.plain
     have hlh:=encH_len (h:=p.h)
     have hlf:=encF_len (L:=p.plain)
     go_wp2_with fail
     clear f13 f14
     (with_reducible refine (hs w1 (hI2.ext hE1)).mono ?_)
     rintro e w2 ⟨b2,d2,rfl,hS2,hd2,hx2⟩
     have hE2:=hE1.trans hx2
     have hB2:=hB1.extB hx2
     have hS1:=hS1.ext hx2
     have hSh:=hSh.ext hx2
     haveI:=hB2.blt
     have f13:w2.cell? ⟨w.heap.size,13,none⟩=some (.slice a1 n1 c1):=hB2.cell? 13 rfl
     clear hE1 hB1 hx2 hs
     by_cases q4:(encF p.secret).2=0
     ·rw [q4]
      have hat:=Lib.hid (protE_at q1' q2' q3 q4)
      have hsl:(encF p.secret).1.length≤1232:=encF_len
      have hfi:=fun W H=>rxfind_any 1028 a1 n1 c1 p.plain W H hn1
      go_wp2_with fail
      clear f13
      (with_reducible refine (hfi w2 (hI1.ext hE2)).mono ?_)
      rintro e w3 ⟨b3,d3,rfl,hO3,hx3⟩
      have hE3:=hE2.trans hx3
      have hB3:=hB2.extB hx3
      have hS1:=hS1.ext hx3
      have hSh:=hSh.ext hx3
      have hS2:=hS2.ext hx3
      haveI:=hB3.blt
      have f13:w3.cell? ⟨w.heap.size,13,none⟩=some (.slice a1 n1 c1):=hB3.cell? 13 rfl
      clear hE2 hB2 hx3 hfi hO3
      by_cases q5:ixs 1028 p.plain p.plain.length=[]
      ·have i5:(ixs 1028 p.plain p.plain.length).length=0:=by rw [q5];rfl
       have hat:=Lib.hid (show r=if 24≤p.plain.length then ([],8) else if (lastF ky p nonce).2≠0∨1280<(openB p.h p.plain).1.length+(lastF ky p nonce).1.length then ([],2) else ((openB p.h p.plain).1++(lastF ky p nonce).1,0) by
        rw [← hr.out,hat.out,if_neg (by rw [q5];simp)])
       rw [i5]
       clear q5 i5
       by_cases q6:24≤n1
       ·have er:=Lib.hid (show r=([],8) by rw [hat.out,if_pos (by omega)])
        have i6:(n1:Int)=24:=by omega
        go_wp2_with fail
        go_ret2
        rw [er.out]
        exact read2_err _ _ _ hE3
       ·have i6:¬ (n1:Int)=24:=by omega
        have hat:=Lib.hid (show r=if (lastF ky p nonce).2≠0∨1280<(openB p.h p.plain).1.length+(lastF ky p nonce).1.length then ([],2) else ((openB p.h p.plain).1++(lastF ky p nonce).1,0) by
         rw [hat.out,if_neg (by omega)])
        obtain ⟨z1,z2⟩:=seal2 (b:=(openB p.h p.plain).1) (n:=nonce) (p:=(encF p.secret).1) q1' (by omega) (by omega) (by omega)
        unfold lastF at hat
        have hse:=fun b' c' W H1 H2 H3=>rseal_any ak b' b2 32 ck 2 c' (encF p.secret).1.length d2 ky [(openB p.h p.plain).1,nonce] (encF p.secret).1 W H1 hck H2 (by omega) H3 hd2
        rw [z1] at hse
        have eo1:joinL [(encH p.h).1,(encF p.plain).1]=(openB p.h p.plain).1:=by rw [joinL2,eo]
        have ejl:=congrArg List.length eo1
        replace eo1:=Lib.hid eo1
        clear eo p0 p1
        generalize (openB p.h p.plain).1=B1 at *
        generalize (encH p.h).1=Hb at *
        generalize (encF p.plain).1=Fb at *
        generalize (encF p.secret).1=B2 at *
        generalize (sealE ky [B1,nonce] B2).1=S3 at *
        clear q3 q4 q6 z1
        replace z2:=Lib.hid z2
        go_wp2_with fail
        clear f13
        (with_reducible refine (join_any _ _ _ [Hb,Fb] _ (bss2 hSh hS1 _) (by omega) B1.length ejl (by omega)).mono ?_)
        rintro e w3b ⟨ba,da,rfl,hOa,hxa⟩
        rw [eo1.out] at hOa
        have hxa:Ext w3 w3b:=(Ext.of_alloc _ _).trans hxa
        have hE3:=hE3.trans hxa
        have hS1:=hOa.sl
        have hd1:=hOa.le.1
        have hS2:=hS2.ext hxa
        clear hOa hxa hSh
        go_wp2_with fail
        (with_reducible refine (hse _ _ _ (hk.ext (hE3.trans (Ext.of_alloc _ _))) (bsc2 hS1 hd1 (hnn.ext hE3) hcn _) (hS2.ext (Ext.of_alloc _ _))).mono ?_)
        rintro e w4 ⟨b4,d4,rfl,hS4,hd4,hx4⟩
        have hx4:Ext w3b w4:=(Ext.of_alloc _ _).trans hx4
        have hE4:=hE3.trans hx4
        have hS1:=hS1.ext hx4
        clear hE3 hx4 hse
        go_wp2_with fail
        (with_reducible refine (rgbytes_any an b4 nn cn S3.length d4 nonce S3 _ (hnn.ext hE4) hS4 hn (by rw [z2.out];omega)).mono ?_)
        rintro e w5 ⟨b5,d5,rfl,hO5,hx5⟩
        have hE5:=hE4.trans hx5
        have hS1:=hS1.ext hx5
        have hS5:=hO5.sl
        have hle5:=hO5.le.1
        have hGl:=guardB_length nonce S3
        have hlen:=hS5.len
        rw [← hlen] at hS5 hle5 ⊢
        clear hlen
        have hxe:=fun a' c' W H=>rxencode_any a' 1 c' [(1028,guardB nonce S3)] W H (by omega) (by intro f hf;rw [List.mem_singleton.1 hf];show (guardB nonce S3).length≤1000000;rw [hGl];have:=z2.out;unfold pad4;omega)
        generalize guardB nonce S3=G at *
        clear hE4 hx5 hO5 hS4 hd4 hGl
        go_wp2_with fail
        (with_reducible refine (hxe _ _ _ (ib1 hS5 hle5 1028 _)).mono ?_)
        rintro e w6 ⟨b6,d6,rfl,hS6,hd6,hx6⟩
        have hx6:Ext w5 w6:=(Ext.of_alloc _ _).trans hx6
        have hE6:=hE5.trans hx6
        have hS1:=hS1.ext hx6
        clear hE5 hx6 hxe hS5
        have hfl:=encF_len (L:=[(1028,G)])
        by_cases q7:(encF [(1028,G)]).2=0
        ·rw [q7]
         by_cases q8:1280<B1.length+(encF [(1028,G)]).1.length
         ·have er:=Lib.hid (show r=([],2) by rw [hat.out,if_pos (.inr q8)])
          generalize (encF [(1028,G)]).1=B6 at *
          have i8:(1280:Int)<(B1.length:Int)+(B6.length:Int):=by omega
          go_wp2_with fail
          go_ret2
          rw [er.out]
          exact read2_err _ _ _ hE6
         ·have er:=Lib.hid (show r=(B1++(encF [(1028,G)]).1,0) by rw [hat.out,if_neg (fun h=>h.elim (fun h=>h q7) q8)])
          clear hat q7
          generalize (encF [(1028,G)]).1=B6 at *
          have i8:¬ (1280:Int)<(B1.length:Int)+(B6.length:Int):=by omega
          have hj:joinL [B1,B6]=B1++B6:=joinL2 _ _
          have hjl:(joinL [B1,B6]).length=B1.length+B6.length:=by rw [hj,List.length_append]
          have HJ:=Lib.hid hj
          clear hj
          go_wp2_with fail
          (with_reducible refine (join_any _ _ _ [B1,B6] _ (bss2 (hS1.ext eX) (hS6.ext eX) _) (by omega) (B1.length+B6.length) hjl (by omega)).mono ?_)
          rintro e w7 ⟨b7,d7,rfl,hO7,hx7⟩
          rw [HJ.out] at hO7
          go_wp2_with fail
          go_ret2
          rw [er.out]
          show Read2 (B1++B6).length _ _ _ _ _
          rw [List.length_append]
          exact ⟨b7,d7,rfl,hO7.sl,hO7.le.1,hE6.trans ((Ext.of_alloc _ _).trans hx7)⟩
        ·have er:=Lib.hid (show r=([],2) by rw [hat.out,if_pos (.inl q7)])
         have i7:=ne0 q7
         generalize (encF [(1028,G)]).2=v at *
         generalize (encF [(1028,G)]).1=B6 at *
         go_wp2_with fail
         go_ret2
         rw [er.out]
         exact read2_err _ _ _ hE6
      ·have er:=Lib.hid (show r=([],3) by rw [← hr.out,hat.out,if_pos q5])
       have i5:(0:Int)<((ixs 1028 p.plain p.plain.length).length:Int):=by have:=List.length_pos_iff.2 q5;omega
       generalize (ixs 1028 p.plain p.plain.length).length=n5 at *
       clear q5 hat
       go_wp2_with fail
       go_ret2
       rw [er.out]
       exact read2_err _ _ _ hE3
     ·have er:=Lib.hid (show r=([],(encF p.secret).2) by rw [← hr.out];exact protE_secret q1' q2' q3 q4)
      have i4:=ne0 q4
      generalize (encF p.secret).2=v at *
      clear q3 q4 f13
      go_wp2_with fail
      go_ret2
      rw [er.out]
      exact read2_err _ _ _ hE2
    ·have eo:=openB_err2 p0 p1
     have er:=Lib.hid (show r=([],(encF p.plain).2) by rw [← hr.out,protE_open q1' q2' (by rw [eo];exact p1),eo])
     have i3:=ne0 p1
     generalize (encF p.plain).2=v at *
     clear p0 p1 eo f13 f14
     go_wp2_with fail
     go_ret2
     rw [er.out]
     exact read2_err _ _ _ hE1
   ·have eo:=openB_err (L:=p.plain) p0
    have er:=Lib.hid (show r=([],(encH p.h).2) by rw [← hr.out,protE_open q1' q2' (by rw [eo];exact p0),eo])
    have i3:=ne0 p0
    generalize (encH p.h).2=v at *
    clear p0 eo f13 f14
    go_wp2_with fail
    go_ret2
    rw [er.out]
    exact read2_err _ _ _ hE
  ·have i1:((nk:Int) != 32)=false:=by rw [bne_eq_false_iff_eq];omega
   have er:=Lib.hid (show r=([],4) by rw [← hr.out];exact protE_nonce (by omega) (by omega))
   have q1:=Lib.hid q1
   by_cases q2a:nn<16
   ·have q2a:(nn:Int)<16:=by omega
    clear lk ln q2
    go_enter Tryz.func11,Tryz.ntmps11
    go_wp2_with fail
    go_ret2
    rw [er.out]
    exact read2_err _ _ _ eX
   ·have q2b:(32:Int)<(nn:Int):=by omega
    have q2a:¬ (nn:Int)<16:=by omega
    clear lk ln q2
    go_enter Tryz.func11,Tryz.ntmps11
    go_wp2_with fail
    go_ret2
    rw [er.out]
    exact read2_err _ _ _ eX
 ·have er:=Lib.hid (show r=([],5) by rw [← hr.out];exact protE_key (by omega))
  have i1:((nk:Int) != 32)=true:=by rw [bne_iff_ne];omega
  clear lk ln q1
  go_enter Tryz.func11,Tryz.ntmps11
  go_wp2_with fail
  go_ret2
  rw [er.out]
  exact read2_err _ _ _ eX
end Go.Proofs.YtdmifbfgeeldnaaGreat

/- The walks of layer 18 of the document: Open. -/
namespace Go.Pkt
theorem readE_dec {b:List UInt8} (h:(readE b).2=0):decF (b.drop 48)=((readE b).1.plain,0):=by
 by_cases h1:(decH b).2=0
 ·by_cases h2:(decF (decH b).1.2).2=0
  ·obtain ⟨a1,a2,a3⟩:=decH_ok h1
   rw [readE_ok h1 h2,← a3,← h2]
  ·rw [readE_flds h1 h2] at h;exact absurd h h2
 ·rw [readE_head h1] at h;exact absurd h h1
theorem plcL_at {A:List Fld} {i:Nat} (h:i<A.length):(plcL A)[i]'(by rw [plcL_length];exact h)=((totN (A.take i):Nat):Int):=by
 unfold plcL;simp
end Go.Pkt
namespace Go.Proofs.YtdmifbfgeeldnaaGreat
open Go.RowKit Go.Sec Go.Oct Go.Pkt Go.Aes BigFrame
def PtV (r:Option (List UInt8 × List UInt8)) (p:Par):Value := .tuple #[.slice (p 0).1 (p 3).2 (p 0).2, .slice (p 1).1 (p 4).2 (p 1).2, .bool r.isSome]
def PtR (r:Option (List UInt8 × List UInt8)) (p:Par) (w:World):Prop:=∀ x,r=some x→Sl w (p 0).1 (p 3).2 x.1∧(p 3).2≤(p 0).2∧Sl w (p 1).1 (p 4).2 x.2∧(p 4).2≤(p 1).2
theorem PtR.ext {r:Option (List UInt8 × List UInt8)} {p:Par} {w w':World} (h:PtR r p w) (hx:Ext w w'):PtR r p w':=fun x e=>by
 obtain ⟨h1,h2,h3,h4⟩:=h x e
 exact ⟨h1.ext hx,h2,h3.ext hx,h4⟩
theorem vag_parts {r:Option (List UInt8 × List UInt8)} {f:FuncId} {args:Array Value} {w:World} (h:Calls Tryz.prog f args w (RPartsE r w)):Calls Tryz.prog f args w fun e w'=>∃ v,e = .returned v∧∃ p:Par,v=PtV r p∧Ext w w'∧PtR r p w':=by
 refine h.mono ?_
 rintro e w' ⟨a1,n1,c1,a2,n2,c2,rfl,hp,hx⟩
 exact ⟨_,rfl,fun i=>if i=0 then (a1,c1) else if i=1 then (a2,c2) else if i=3 then (none,n1) else (none,n2),rfl,hx,hp⟩
set_option maxHeartbeats 2000000 in
theorem ropenp_any (ak ab:Option Addr)(nk ck nb cb:Nat) (ky b:List UInt8)(w:World)(hk:Sl w ak nk ky) (hck:nk≤ck) (hS:Sl w ab nb b) (hcb:nb≤cb) (hn:nb≤1000000) :
  Calls Tryz.prog 15 #[.slice ak nk ck, .slice ab nb cb] w (PktE (openP ky b) w):=by
 have lk:=hk.len
 have lb:=hS.len
 have hrd:=fun W H=>rpread_any ab nb cb b W H hcb hn
 obtain ⟨r,hr⟩:∃ r,openP ky b=r:=⟨_,rfl⟩
 rw [hr]
 have hr:=Lib.hid hr
 by_cases q1:nk=32
 ·have q1':ky.length=32:=by omega
  subst q1
  go_enter Tryz.func15,Tryz.ntmps15
  go_wp2_with fail
  refine nameCl ?_
  intro W hW
  have hE:Ext w W:=by rw [hW];exact eX
  have hP:Blk W w.heap.size 32 [.int .i64 0, .int .i64 0, .int .i64 0, .int .i64 0, .int .i64 0, .int .i64 0, .int .u32 0, .int .u32 0, .int .u32 0, .int .u64 0, .int .u64 0, .int .u64 0, .int .u64 0, .slice none 0 0, .slice none 0 0, .bool false]:=by rw [hW];exact bK
  clear hW
  (with_reducible refine (hrd W (hS.ext hE)).mono ?_)
  rintro e w1 ⟨b1,d1,rfl,⟨B1,hO1⟩,hx1⟩
  have hE1:=hE.trans hx1
  have hP1:=hP.extB hx1
  have hlt:=hP1.lt
  haveI:=hP1.blt
  clear hE hP hx1 hrd
  by_cases q2:(readE b).2=0
  ·rw [q2]
   have hsp:=readE_spec q2
   have hfl:=fun f hf=>readE_fld q2 (f:=f) hf
   have hso:=fun i h=>openP_some (i:=i) q1' q2 h
   have hno:=fun h=>openP_none q1' q2 h
   have hdF:=readE_dec q2
   unfold openAt at hso
   generalize (readE b).1.plain=L at *
   generalize (readE b).1.h=H at *
   go_wp2_with (first
    | ((refine wpList_alloc_store (RP16) rfl rfl _ _ rfl rfl rfl rfl (by simp [Act.put]) ([.int .i64 H.leap, .int .i64 H.ver, .int .i64 H.mode, .int .i64 H.strat, .int .i64 H.poll, .int .i64 H.prec, .int .u32 (n32 H.rd), .int .u32 (n32 H.rp), .int .u32 (n32 H.id), .int .u64 (n64 H.ref), .int .u64 (n64 H.org), .int .u64 (n64 H.rcv), .int .u64 (n64 H.tx), .slice b1 L.length d1, .slice none 0 0, .bool false]) rfl (by simp) (rfl) (oC) ?_;intro x hz _);haveI:=hz.blt;have f13:=hz.cell? 13 rfl)
    | fail)
   refine nameCl ?_
   intro W2 hW2
   have hx2:Ext w1 W2:=by rw [hW2];exact eX
   have hG:Blk W2 w1.heap.size 32 [.int .i64 H.leap, .int .i64 H.ver, .int .i64 H.mode, .int .i64 H.strat, .int .i64 H.poll, .int .i64 H.prec, .int .u32 (n32 H.rd), .int .u32 (n32 H.rp), .int .u32 (n32 H.id), .int .u64 (n64 H.ref), .int .u64 (n64 H.org), .int .u64 (n64 H.rcv), .int .u64 (n64 H.tx), .slice b1 L.length d1, .slice none 0 0, .bool false]:=by rw [hW2];exact hz.extB eX
   have hP2:=hP1.extB hx2
   have hE2:=hE1.trans hx2
   have hO2:=hO1.ext hx2
   clear hW2 hx2 hE1 hP1 hO1 f13 hz
   (with_reducible refine (rxfind_any 1028 b1 L.length d1 L W2 hO2.ib.1 (by omega)).mono ?_)
   rintro e w3 ⟨bx,dx,rfl,hOx,hx3⟩
   have hG3:=hG.extB hx3
   have hP3:=hP2.extB hx3
   have hE3:=hE2.trans hx3
   have hO3:=hO2.ext hx3
   clear hG hP2 hE2 hO2 hx3
   have hdc:L.length≤d1:=hO3.ib.2
   haveI:=hP3.blt
   haveI:=hG3.blt
   have f13:w3.cell? ⟨w1.heap.size,13,none⟩=some (.slice b1 L.length d1):=hG3.cell? 13 rfl
   cases q3:firstI 1028 L with
   | none =>
    have er:=Lib.hid (show r=(zeroP,10) by rw [← hr.out];exact hno q3)
    have hix:ixs 1028 L L.length=[]:=List.head?_eq_none_iff.1 q3
    rw [hix] at hOx ⊢
    clear hix q3 hno hso
    go_wp2_with (first
     | (refine wpList_store_arr (RP16) rfl _ _ rfl (w.heap.size) (0) rfl ([.int .i64 0, .int .i64 0, .int .i64 0, .int .i64 0, .int .i64 0, .int .i64 0, .int .u32 0, .int .u32 0, .int .u32 0, .int .u64 0, .int .u64 0, .int .u64 0, .int .u64 0, .slice none 0 0, .slice none 0 0, .bool false]) rfl (32) _ ((hP3.extB eX)) (rfl) (by simp) (oC) ?_;intro V hV hMV)
     | fail)
    refine bodyPost_ret (results_arr_tmp Tryz.results15 (RP16) _ _ (w.heap.size) (0) ([.int .i64 0, .int .i64 0, .int .i64 0, .int .i64 0, .int .i64 0, .int .i64 0, .int .u32 0, .int .u32 0, .int .u32 0, .int .u64 0, .int .u64 0, .int .u64 0, .int .u64 0, .slice none 0 0, .slice none 0 0, .bool false]) rfl (hV.rd) (rfl) (.int .i64 10) rfl) rfl ?_
    rw [er.out]
    exact PktE.err _ _ _ (Below.trans (hE3.trans eX) (hMV.below (Nat.le_refl _) (Below.size (hE3.trans eX))))
   | some i =>
    have hi:=firstI_lt q3
    have hat:=hso i q3
    rw [hr.out] at hat
    obtain ⟨rest,hix⟩:∃ rest,ixs 1028 L L.length=i :: rest:=by
     unfold firstI at q3
     cases hc:ixs 1028 L L.length with
     | nil=>rw [hc] at q3;cases q3
     | cons y R=>rw [hc] at q3;injection q3 with q3;subst q3;exact ⟨R,rfl⟩
    rw [hix] at hOx ⊢
    obtain ⟨M,hM⟩:∃ M,(i :: rest).length=M:=⟨_,rfl⟩
    have hM0:0<M:=by rw [← hM];simp
    have hMi:¬ (M:Int)=0:=by omega
    have hrdx:=hOx.rd
    rw [hM] at hOx ⊢
    obtain ⟨xb,xo,rfl,hxb,hxc⟩:=hrdx.at 0 (by simp)
    have hxc:w3.cell? ⟨xb,xo,none⟩=some (.int .i64 (i:Int)):=hxc
    haveI:=hxb
    have hxlt:=hxb.lt
    clear q3 hno hso hM hix hOx hrdx
    by_cases q4:i+1=L.length
    ·rw [if_neg (by omega)] at hat
     replace hat:=Lib.hid hat
     have iq:((i:Int) != (L.length:Int)-1)=false:=by rw [bne_eq_false_iff_eq];omega
     obtain ⟨y,hy⟩:∃ y,L[i]?=some y:=⟨_,List.getElem?_eq_getElem hi⟩
     obtain ⟨y52,y1280⟩:=hfl y (List.mem_of_getElem? hy)
     have hyok:=hsp.2.2.2.2 y (List.mem_of_getElem? hy)
     have htk:totN L=totN (L.take i)+szN y.2.length:=by
      have:=totN_snoc (L.take i) y
      rwa [← take_at hy,q4,List.take_of_length_le (Nat.le_refl _)] at this
     have hsz:szN y.2.length=y.2.length+4:=by unfold szN;omega
     replace hat:=Lib.hid (show r=_ by rw [hat.out,getD_at hy])
     have hi0:(0:Int)≤(i:Int):=by omega
     have hi1:(i:Int)<(L.length:Int):=by omega
     clear hfl
     go_wp2_with fail
     refine wp_region_vague 8 [[],[0],[0,1],[],[3],[3,4],[3,4,5],[0,1,2,3,4,5,6]] (by kernel_rfl) (by kernel_rfl) (by kernel_rfl) (by kernel_rfl) ?_;simp only [q8q,q9q,q10q,q11q,q12q,q13q]
     (repeat (refine VD_a ?_;(try simp only [Act.put,q0q,q1q,q2q])))
     (refine VD_z ?_;intro us x hx hf;(try simp only [Act.put,q0q,q1q,q2q,wpList_none]);(try simp only [q3q,q4q,or_false,forall_eq_or_imp,forall_eq,q5q,q6q,q7q,false_or,true_and,and_true] at hf);(try simp only [Nat.reduceAdd,Nat.zero_add] at hf ⊢))
     have hxa:Ext w3 (w3.ext x):=Ext.of_ext _ _
     have hxc:=(hxa.cell (p:=⟨xb,xo,none⟩) hxlt).trans hxc
     have hG3:=hG3.extB hxa
     have hP3:=hP3.extB hxa
     have hE3:=hE3.trans hxa
     have hO3:=hO3.ext hxa
     have hxlt:=Nat.lt_of_lt_of_le hxlt hxa.size
     clear f13
     generalize w3.ext x=w3 at *
     haveI:BlkLt xb w3:=⟨hxlt⟩
     haveI:=hP3.blt
     haveI:=hG3.blt
     have f13:w3.cell? ⟨w1.heap.size,13,none⟩=some (.slice b1 L.length d1):=hG3.cell? 13 rfl
     obtain ⟨g0,o0,g',c',rfl,hb0,hc0,hc1,hSk,hcy⟩:=hO3.ib.1.at i hi _ hy
     haveI:=hb0
     have hpa:=fun W H=>rparts_any g' y.2.length c' y.2 W H hcy (by omega)
     go_wp2_with fail
     refine wp_region_vague 15 [[],[0],[],[2],[2,3],[0,1,2,3,4],[0,1,2,3,4,5],[0,1,2,3,4,5,6],[0,1,2,3,4,5,6,7],[0,1,2,3,4,5,6,7,8],[0,1,2,3,4,5,6,7,8,9],[0,1,2,3,4,5,6,7,8,9],[0,1,2,3,4,5,6,7,8,9],[0,1,2,3,4,5,6,7,8,9,10],[0,1,2,3,4,5,6,7,8,9,10,11,13],[0,1,2,3,4,5,6,7,8,9,10,11,12,13,14]] (by kernel_rfl) (by kernel_rfl) (by kernel_rfl) (by kernel_rfl) ?_;simp only [q8q,q9q,q10q,q11q,q12q,q13q]
     (repeat (refine VD_a ?_;(try simp only [Act.put,q0q,q1q,q2q])))
     (refine VD_vag (PtV (partsE y.2)) (PtR (partsE y.2)) (fun p w w' h hx=>h.ext hx) (fun us w' hx hf=>⟨rfl,?_⟩) ?_;(unfold gives;simp [go_sem,execOp];exact vag_parts (hpa _ (hSk.ext hx))))
     (repeat (refine VD_a ?_;(try simp only [Act.put,q0q,q1q,q2q])))
     (refine VD_z ?_;intro us x hx hf;(try simp only [Act.put,q0q,q1q,q2q,wpList_none]);(try simp only [q3q,q4q,or_false,forall_eq_or_imp,forall_eq,q5q,q6q,q7q,false_or,true_and,and_true] at hf);(try simp only [Nat.reduceAdd,Nat.zero_add] at hf ⊢))
     have hps:∀ z,partsE y.2=some z→Sl (w3.ext x) (us 8 0).1 (us 8 3).2 z.1∧(us 8 3).2≤(us 8 0).2∧Sl (w3.ext x) (us 8 1).1 (us 8 4).2 z.2∧(us 8 4).2≤(us 8 1).2:=hf
     simp only [PtV]
     obtain ⟨p1,e_p1⟩:∃ a,(us 8 0).1=a:=⟨_,rfl⟩
     obtain ⟨k1,e_k1⟩:∃ a,(us 8 0).2=a:=⟨_,rfl⟩
     obtain ⟨p2,e_p2⟩:∃ a,(us 8 1).1=a:=⟨_,rfl⟩
     obtain ⟨k2,e_k2⟩:∃ a,(us 8 1).2=a:=⟨_,rfl⟩
     obtain ⟨n1,e_n1⟩:∃ a,(us 8 3).2=a:=⟨_,rfl⟩
     obtain ⟨n2,e_n2⟩:∃ a,(us 8 4).2=a:=⟨_,rfl⟩
     rw [e_p1,e_k1,e_p2,e_k2,e_n1,e_n2] at hps
     rw [e_p1,e_k1,e_p2,e_k2,e_n1,e_n2]
     have hxa:Ext w3 (w3.ext x):=Ext.of_ext _ _
     have hxc:=(hxa.cell (p:=⟨xb,xo,none⟩) hxlt).trans hxc
     have hG4:=hG3.extB hxa
     have hP4:=hP3.extB hxa
     have hE4:=hE3.trans hxa
     have hO4:=hO3.ext hxa
     have hxlt:=Nat.lt_of_lt_of_le hxlt hxa.size
     clear f13 hf hc0 hc1 hSk hpa e_p1 e_k1 e_p2 e_k2 e_n1 e_n2
     generalize w3.ext x=w4 at *
     haveI:BlkLt xb w4:=⟨hxlt⟩
     haveI:=hP4.blt
     haveI:=hG4.blt
     clear hG3 hP3 hE3 hO3 hxa
     cases q5:partsE y.2 with
     | none =>
      have er:=Lib.hid (show r=(zeroP,3) by rw [hat.out,q5])
      clear q5 hps
      go_wp2_with (first
       | (refine wpList_store_arr (RP16) rfl _ _ rfl (w.heap.size) (0) rfl ([.int .i64 0, .int .i64 0, .int .i64 0, .int .i64 0, .int .i64 0, .int .i64 0, .int .u32 0, .int .u32 0, .int .u32 0, .int .u64 0, .int .u64 0, .int .u64 0, .int .u64 0, .slice none 0 0, .slice none 0 0, .bool false]) rfl (32) _ ((hP4.extB eX)) (rfl) (by simp) (oC) ?_;intro V hV hMV)
       | fail)
      refine bodyPost_ret (results_arr_tmp Tryz.results15 (RP16) _ _ (w.heap.size) (0) ([.int .i64 0, .int .i64 0, .int .i64 0, .int .i64 0, .int .i64 0, .int .i64 0, .int .u32 0, .int .u32 0, .int .u32 0, .int .u64 0, .int .u64 0, .int .u64 0, .int .u64 0, .slice none 0 0, .slice none 0 0, .bool false]) rfl (hV.rd) (rfl) (.int .i64 3) rfl) rfl ?_
      rw [er.out]
      exact PktE.err _ _ _ (Below.trans (hE4.trans eX) (hMV.below (Nat.le_refl _) (Below.size (hE4.trans eX))))
     | some z =>
      obtain ⟨v1,m1,v2,m2⟩:=hps z q5
      have hzl:=partsE_sealed q5
      replace hat:=Lib.hid (show r=_ by rw [hat.out,q5])
      clear q5 hps
      have hSw:=hS.ext hE4
      obtain ⟨sb,so,rfl,hsb, -⟩:=hSw.at 0 (by omega)
      have h48:=sl_at hSw hcb (i:=48) (by omega)
      have hpl:=fun W H=>rxplaces_any (some ⟨sb,so+48,none⟩) (nb-48) (cb-48) (b.drop 48) W H (by omega) (by omega)
      rw [hdF] at hpl
      have j1:(48:Int)≤(nb:Int):=by omega
      have j2:(48:Int)≤(cb:Int):=by omega
      have j3:¬ cb=48:=by omega
      go_wp2_with fail
      (with_reducible refine (hpl _ h48).mono ?_)
      rintro e w5 ⟨bp,dp,rfl,hOp,hxp⟩
      have hOp:OwnJ w5 w4.heap.size bp L.length dp (plcL L):=hOp
      have hxc:=(hxp.cell (p:=⟨xb,xo,none⟩) hxlt).trans hxc
      have hG5:=hG4.extB hxp
      have hP5:=hP4.extB hxp
      have hE5:=hE4.trans hxp
      have hO5:=hO4.ext hxp
      have v1:=v1.ext hxp
      have v2:=v2.ext hxp
      have hxlt:=Nat.lt_of_lt_of_le hxlt hxp.size
      haveI:BlkLt xb w5:=⟨hxlt⟩
      obtain ⟨yb,yo,rfl,hyb,hyc⟩:=hOp.rd.at i (by rw [List.length_map,plcL_length];exact hi)
      rw [List.getElem_map,plcL_at hi] at hyc
      haveI:=hyb
      have hk5:=hk.ext hE5
      have hS5:=hS.ext hE5
      obtain ⟨PL,hPL⟩:∃ PL,totN (L.take i)=PL:=⟨_,rfl⟩
      rw [hPL] at hyc
      obtain ⟨Q,hQ⟩:∃ Q,nb-y.2.length-4=Q:=⟨_,rfl⟩
      have hPQ:48+PL=Q:=by omega
      have hQi:(48:Int)+(PL:Int)=(Q:Int):=by omega
      have hSQ:=hS5.take Q (by omega)
      have hQc:Q≤cb:=by omega
      have hQ0:(0:Int)≤(Q:Int):=by omega
      have hQb:Q≤1280:=by omega
      have hQ1:(Q:Int)≤(cb:Int):=by omega
      have hat:=hat.out
      rw [lb,hQ] at hat
      have hop:=fun b' c' W H1 H2 H3=>ropen_any ak b' p2 32 ck 2 c' n2 k2 ky [b.take Q,z.1] z.2 W H1 hck H2 (by omega) H3 m2 (by have:=v2.len;omega)
      have hAl:=Lib.hid (show (openE ky [b.take Q,z.1] z.2).1.length≤1280 from Nat.le_trans openE_len (Nat.le_trans hzl y1280))
      generalize openE ky [b.take Q,z.1] z.2=A at *
      replace hat:=Lib.hid hat
      clear hQ lb hSw h48 hpl hOp hPL hPQ hG4 hP4 hE4 hO4 hsz htk hyok hsp hzl hxp j1 j2 j3
      go_wp2_with fail
      (with_reducible refine (hop _ _ _ (hk5.ext (Ext.of_alloc _ _)) (bsc2 hSQ hQc v1 m1 _) (v2.ext (Ext.of_alloc _ _))).mono ?_)
      rintro e W7 ⟨p7,k7,rfl,hS7,hc7,hx7⟩
      have hx7:Ext w5 W7:=(Ext.of_alloc _ _).trans hx7
      have hxc:=(hx7.cell (p:=⟨xb,xo,none⟩) hxlt).trans hxc
      have hE7:=hE5.trans hx7
      have hP7:=hP5.extB hx7
      have hG7:=hG5.extB hx7
      have hO7:=hO5.ext hx7
      have hxlt:=Nat.lt_of_lt_of_le hxlt hx7.size
      clear v1 v2 hSQ hk5 hS5 hop hQi hQ0 hQ1 hQc hyc hE5 hP5 hG5 hO5 hx7
      haveI:=hP7.blt
      by_cases q8:A.2=0
      ·rw [q8]
       have hdf:=fun W H=>rxdecode_any p7 A.1.length k7 A.1 W H hc7 (Nat.le_trans hAl.out (by decide))
       replace hat:=Lib.hid (show r=_ by rw [hat.out,if_neg (by simpa using q8)])
       clear q8
       generalize A.1=D at *
       go_wp2_with fail
       (with_reducible refine (hdf W7 hS7).mono ?_)
       rintro e w8 ⟨b8,d8,rfl,hO8,hx8⟩
       have hxc:=(hx8.cell (p:=⟨xb,xo,none⟩) hxlt).trans hxc
       have hxlt:=Nat.lt_of_lt_of_le hxlt hx8.size
       haveI:BlkLt xb w8:=⟨hxlt⟩
       have hE8:=hE7.trans hx8
       have hP8:=hP7.extB hx8
       have hG8:=hG7.extB hx8
       have hO7:=hO7.ext hx8
       clear hE7 hP7 hG7 hS7 hx8 hdf
       haveI:=hP8.blt
       haveI:=hG8.blt
       have g13:w8.cell? ⟨w1.heap.size,13,none⟩=some (.slice (some ⟨g0,o0,none⟩) L.length d1):=hG8.cell? 13 rfl
       by_cases q9:(decF D).2=0
       ·rw [q9]
        have er:=Lib.hid (show r=(⟨H,L.take i,(decF D).1,true⟩,0) by rw [hat.out,if_neg (by simpa using q9)])
        clear q9 hat
        generalize (decF D).1=S at *
        have l1:(i:Int)≤(d1:Int):=by omega
        have hil:i≤L.length:=by omega
        have hGl:Rd w8 (some ⟨w1.heap.size,0,none⟩) [.int .i64 H.leap, .int .i64 H.ver, .int .i64 H.mode, .int .i64 H.strat, .int .i64 H.poll, .int .i64 H.prec, .int .u32 (n32 H.rd), .int .u32 (n32 H.rp), .int .u32 (n32 H.id), .int .u64 (n64 H.ref), .int .u64 (n64 H.org), .int .u64 (n64 H.rcv), .int .u64 (n64 H.tx)]:=Rd.left (vs:=[.int .i64 H.leap, .int .i64 H.ver, .int .i64 H.mode, .int .i64 H.strat, .int .i64 H.poll, .int .i64 H.prec, .int .u32 (n32 H.rd), .int .u32 (n32 H.rp), .int .u32 (n32 H.id), .int .u64 (n64 H.ref), .int .u64 (n64 H.org), .int .u64 (n64 H.rcv), .int .u64 (n64 H.tx)]) (us:=[.slice (some ⟨g0,o0,none⟩) L.length d1, .slice none 0 0, .bool false]) hG8.rd
        clear q4 iq hi hi1 hy
        go_wp2_with fail
        refine wp_region_vague 10 [[],[0],[],[2],[],[4],[4,5],[2,3,4,5,6],[],[0,1,2,3,4,5,6,7,8],[0,1,2,3,4,5,6,7,8,9],[0,1,2,3,4,5,6,7,8,9,10]] (by kernel_rfl) (by kernel_rfl) (by kernel_rfl) (by kernel_rfl) ?_;simp only [q8q,q9q,q10q,q11q,q12q,q13q]
        (repeat (refine VD_a ?_;(try simp only [Act.put,q0q,q1q,q2q])))
        (refine VD_load_arr (RH13) _ rfl (fun _=>rfl) (w1.heap.size) (0) (fun _=>by simp [go_sem]) ([.int .i64 H.leap, .int .i64 H.ver, .int .i64 H.mode, .int .i64 H.strat, .int .i64 H.poll, .int .i64 H.prec, .int .u32 (n32 H.rd), .int .u32 (n32 H.rp), .int .u32 (n32 H.id), .int .u64 (n64 H.ref), .int .u64 (n64 H.org), .int .u64 (n64 H.rcv), .int .u64 (n64 H.tx)]) (hGl) (rfl) ?_)
        (repeat (refine VD_a ?_;(try simp only [Act.put,q0q,q1q,q2q])))
        (refine VD_z ?_;intro us x hx hf;(try simp only [Act.put,q0q,q1q,q2q,wpList_none]);(try simp only [q3q,q4q,or_false,forall_eq_or_imp,forall_eq,q5q,q6q,q7q,false_or,true_and,and_true] at hf);(try simp only [Nat.reduceAdd,Nat.zero_add] at hf ⊢))
        have hx9:Ext w8 (w8.ext x):=Ext.of_ext _ _
        have hE9:=hE8.trans hx9
        have hP9:=hP8.extB hx9
        have hO7:=hO7.ext hx9
        have hO8:=hO8.ext hx9
        generalize w8.ext x=W9 at *
        haveI:=hP9.blt
        clear hf hx9 hE8 hP8 hG8 hGl g13
        go_wp2_with (first
         | (refine wpList_store_arr (RP16) rfl _ _ rfl (w.heap.size) (0) rfl ([.int .i64 H.leap, .int .i64 H.ver, .int .i64 H.mode, .int .i64 H.strat, .int .i64 H.poll, .int .i64 H.prec, .int .u32 (n32 H.rd), .int .u32 (n32 H.rp), .int .u32 (n32 H.id), .int .u64 (n64 H.ref), .int .u64 (n64 H.org), .int .u64 (n64 H.rcv), .int .u64 (n64 H.tx), .slice (some ⟨g0,o0,none⟩) i d1, .slice b8 S.length d8, .bool true]) rfl (32) _ (hP9) (rfl) (by simp) (oC) ?_;intro V hV hMV)
         | fail)
        refine bodyPost_ret (results_arr_tmp Tryz.results15 (RP16) _ _ (w.heap.size) (0) ([.int .i64 H.leap, .int .i64 H.ver, .int .i64 H.mode, .int .i64 H.strat, .int .i64 H.poll, .int .i64 H.prec, .int .u32 (n32 H.rd), .int .u32 (n32 H.rp), .int .u32 (n32 H.id), .int .u64 (n64 H.ref), .int .u64 (n64 H.org), .int .u64 (n64 H.rcv), .int .u64 (n64 H.tx), .slice (some ⟨g0,o0,none⟩) i d1, .slice b8 S.length d8, .bool true]) rfl (hV.rd) (rfl) (.int .i64 0) rfl) rfl ?_
        rw [er.out]
        exact ⟨_,_,_,_,_,_,rfl,(hO7.mut hP9 (by decide) (by simp) hMV).ib.1.take i hil,by omega,(hO8.mut hP9 (by decide) (by simp) hMV).ib.1,(hO8.mut hP9 (by decide) (by simp) hMV).ib.2,Below.trans hE9 (hMV.below (Nat.le_refl _) hE9.size)⟩
       ·have er:=Lib.hid (show r=(zeroP,(decF D).2) by rw [hat.out,if_pos q9])
        have i9:=ne0 q9
        generalize (decF D).2=v9 at *
        generalize (decF D).1=S at *
        clear q9 hat
        go_wp2_with (first
         | (refine wpList_store_arr (RP16) rfl _ _ rfl (w.heap.size) (0) rfl ([.int .i64 0, .int .i64 0, .int .i64 0, .int .i64 0, .int .i64 0, .int .i64 0, .int .u32 0, .int .u32 0, .int .u32 0, .int .u64 0, .int .u64 0, .int .u64 0, .int .u64 0, .slice none 0 0, .slice none 0 0, .bool false]) rfl (32) _ ((hP8.extB eX)) (rfl) (by simp) (oC) ?_;intro V hV hMV)
         | fail)
        refine bodyPost_ret (results_arr_tmp Tryz.results15 (RP16) _ _ (w.heap.size) (0) ([.int .i64 0, .int .i64 0, .int .i64 0, .int .i64 0, .int .i64 0, .int .i64 0, .int .u32 0, .int .u32 0, .int .u32 0, .int .u64 0, .int .u64 0, .int .u64 0, .int .u64 0, .slice none 0 0, .slice none 0 0, .bool false]) rfl (hV.rd) (rfl) (.int .i64 v9) rfl) rfl ?_
        rw [er.out]
        exact PktE.err _ _ _ (Below.trans (hE8.trans eX) (hMV.below (Nat.le_refl _) (Below.size (hE8.trans eX))))
      ·have er:=Lib.hid (show r=(zeroP,6) by rw [hat.out,if_pos q8])
       have i8:=ne0 q8
       generalize A.2=v8 at *
       generalize A.1=D at *
       clear q8 hat
       go_wp2_with (first
        | (refine wpList_store_arr (RP16) rfl _ _ rfl (w.heap.size) (0) rfl ([.int .i64 0, .int .i64 0, .int .i64 0, .int .i64 0, .int .i64 0, .int .i64 0, .int .u32 0, .int .u32 0, .int .u32 0, .int .u64 0, .int .u64 0, .int .u64 0, .int .u64 0, .slice none 0 0, .slice none 0 0, .bool false]) rfl (32) _ ((hP7.extB eX)) (rfl) (by simp) (oC) ?_;intro V hV hMV)
        | fail)
       refine bodyPost_ret (results_arr_tmp Tryz.results15 (RP16) _ _ (w.heap.size) (0) ([.int .i64 0, .int .i64 0, .int .i64 0, .int .i64 0, .int .i64 0, .int .i64 0, .int .u32 0, .int .u32 0, .int .u32 0, .int .u64 0, .int .u64 0, .int .u64 0, .int .u64 0, .slice none 0 0, .slice none 0 0, .bool false]) rfl (hV.rd) (rfl) (.int .i64 6) rfl) rfl ?_
       rw [er.out]
       exact PktE.err _ _ _ (Below.trans (hE7.trans eX) (hMV.below (Nat.le_refl _) (Below.size (hE7.trans eX))))
    ·rw [if_pos (by omega)] at hat
     have er:=Lib.hid hat
     have iq:((i:Int) != (L.length:Int)-1)=true:=by rw [bne_iff_ne];omega
     clear hat
     go_wp2_with fail
     refine wp_region_vague 8 [[],[0],[0,1],[],[3],[3,4],[3,4,5],[0,1,2,3,4,5,6]] (by kernel_rfl) (by kernel_rfl) (by kernel_rfl) (by kernel_rfl) ?_;simp only [q8q,q9q,q10q,q11q,q12q,q13q]
     (repeat (refine VD_a ?_;(try simp only [Act.put,q0q,q1q,q2q])))
     (refine VD_z ?_;intro us x hx hf;(try simp only [Act.put,q0q,q1q,q2q,wpList_none]);(try simp only [q3q,q4q,or_false,forall_eq_or_imp,forall_eq,q5q,q6q,q7q,false_or,true_and,and_true] at hf);(try simp only [Nat.reduceAdd,Nat.zero_add] at hf ⊢))
     go_wp2_with (first
      | (refine wpList_store_arr (RP16) rfl _ _ rfl (w.heap.size) (0) rfl ([.int .i64 0, .int .i64 0, .int .i64 0, .int .i64 0, .int .i64 0, .int .i64 0, .int .u32 0, .int .u32 0, .int .u32 0, .int .u64 0, .int .u64 0, .int .u64 0, .int .u64 0, .slice none 0 0, .slice none 0 0, .bool false]) rfl (32) _ ((hP3.extB eX)) (rfl) (by simp) (oC) ?_;intro V hV hMV)
      | fail)
     refine bodyPost_ret (results_arr_tmp Tryz.results15 (RP16) _ _ (w.heap.size) (0) ([.int .i64 0, .int .i64 0, .int .i64 0, .int .i64 0, .int .i64 0, .int .i64 0, .int .u32 0, .int .u32 0, .int .u32 0, .int .u64 0, .int .u64 0, .int .u64 0, .int .u64 0, .slice none 0 0, .slice none 0 0, .bool false]) rfl (hV.rd) (rfl) (.int .i64 3) rfl) rfl ?_
     rw [er.out]
     exact PktE.err _ _ _ (Below.trans (hE3.trans eX) (hMV.below (Nat.le_refl _) (Below.size (hE3.trans eX))))
  ·have er:=Lib.hid (show r=(zeroP,(readE b).2) by rw [← hr.out];exact openP_read q1' q2)
   have i2:=ne0 q2
   generalize (readE b).2=v at *
   generalize (readE b).1.plain=L at *
   generalize (readE b).1.h=H at *
   clear q2
   go_wp2_with (first
    | (refine wpList_alloc_store (RP16) rfl rfl _ _ rfl rfl rfl rfl (by simp [Act.put]) ([.int .i64 H.leap, .int .i64 H.ver, .int .i64 H.mode, .int .i64 H.strat, .int .i64 H.poll, .int .i64 H.prec, .int .u32 (n32 H.rd), .int .u32 (n32 H.rp), .int .u32 (n32 H.id), .int .u64 (n64 H.ref), .int .u64 (n64 H.org), .int .u64 (n64 H.rcv), .int .u64 (n64 H.tx), .slice b1 L.length d1, .slice none 0 0, .bool false]) rfl (by simp) (rfl) (oC) ?_;intro x hz _)
    | (refine wpList_store_arr (RP16) rfl _ _ rfl (w.heap.size) (0) rfl ([.int .i64 0, .int .i64 0, .int .i64 0, .int .i64 0, .int .i64 0, .int .i64 0, .int .u32 0, .int .u32 0, .int .u32 0, .int .u64 0, .int .u64 0, .int .u64 0, .int .u64 0, .slice none 0 0, .slice none 0 0, .bool false]) rfl (32) _ ((hP1.extB eX)) (rfl) (by simp) (oC) ?_;intro V hV hMV)
    | fail)
   refine bodyPost_ret (results_arr_tmp Tryz.results15 (RP16) _ _ (w.heap.size) (0) ([.int .i64 0, .int .i64 0, .int .i64 0, .int .i64 0, .int .i64 0, .int .i64 0, .int .u32 0, .int .u32 0, .int .u32 0, .int .u64 0, .int .u64 0, .int .u64 0, .int .u64 0, .slice none 0 0, .slice none 0 0, .bool false]) rfl (hV.rd) (rfl) (.int .i64 v) rfl) rfl ?_
   rw [er.out]
   exact PktE.err _ _ _ (Below.trans (hE1.trans eX) (hMV.below (Nat.le_refl _) (Below.size (hE1.trans eX))))
 ·have er:=Lib.hid (show r=(zeroP,5) by rw [← hr.out];exact openP_key (by omega))
  have i1:((nk:Int) != 32)=true:=by rw [bne_iff_ne];omega
  clear lk lb q1
  go_enter Tryz.func15,Tryz.ntmps15
  go_wp2_with (first
   | (refine wpList_store_arr (RP16) rfl _ _ rfl (w.heap.size) (0) rfl ([.int .i64 0, .int .i64 0, .int .i64 0, .int .i64 0, .int .i64 0, .int .i64 0, .int .u32 0, .int .u32 0, .int .u32 0, .int .u64 0, .int .u64 0, .int .u64 0, .int .u64 0, .slice none 0 0, .slice none 0 0, .bool false]) rfl (32) _ ((Blk.new w #[.int .i64 0, .int .i64 0, .int .i64 0, .int .i64 0, .int .i64 0, .int .i64 0, .int .u32 0, .int .u32 0, .int .u32 0, .int .u64 0, .int .u64 0, .int .u64 0, .int .u64 0, .slice none 0 0, .slice none 0 0, .bool false] 32)) (rfl) (by simp) (oC) ?_;intro V hV hMV)
   | fail)
  refine bodyPost_ret (results_arr_tmp Tryz.results15 (RP16) _ _ (w.heap.size) (0) ([.int .i64 0, .int .i64 0, .int .i64 0, .int .i64 0, .int .i64 0, .int .i64 0, .int .u32 0, .int .u32 0, .int .u32 0, .int .u64 0, .int .u64 0, .int .u64 0, .int .u64 0, .slice none 0 0, .slice none 0 0, .bool false]) rfl (hV.rd) (rfl) (.int .i64 5) rfl) rfl ?_
  rw [er.out]
  exact PktE.err _ _ _ (Below.trans (Ext.of_alloc _ _) (hMV.below (Nat.le_refl _) (by simp)))
end Go.Proofs.YtdmifbfgeeldnaaGreat

/- Open undoes Protect: plain functions. No program. -/
namespace Go.Pkt
open Go.Oct Go.Aes Go.Sec
theorem padL_4 (l:List UInt8):padL l 4=l++List.replicate (pad4 l.length-l.length) 0:=by
 unfold padL padN pad4
 rw [if_pos (by omega)]
 congr 2
 omega
theorem padL_4_length (l:List UInt8):(padL l 4).length=pad4 l.length:=by
 rw [padL_4,List.length_append,List.length_replicate];unfold pad4;omega
theorem guardB_len (n s:List UInt8):(guardB n s).length=4+pad4 n.length+pad4 s.length:=by
 simp only [guardB,List.length_append,putL_length,padL_4_length];omega
theorem partsE_guardB {n s:List UInt8} (h1:16≤n.length) (h2:n.length≤32) (h3:s.length<65536):partsE (guardB n s)=some (n,s):=by
 have e0:getN ((guardB n s).take 2)=n.length:=by
  unfold guardB;rw [take_app _ _ _ (putL_length _ _),getN_put2 _ (by omega)]
 have e1:getN (((guardB n s).drop 2).take 2)=s.length:=by
  unfold guardB;rw [drop_app _ _ _ (putL_length _ _),take_app _ _ _ (putL_length _ _),getN_put2 _ (by omega)]
 have e2:(guardB n s).drop 4=padL n 4++padL s 4:=by
  unfold guardB;rw [show (4:Nat)=2+2 from rfl,drop_more _ _ 2 2 (putL_length _ _),drop_app _ _ _ (putL_length _ _)]
 have e3:((guardB n s).drop 4).take n.length=n:=by
  rw [e2,padL_4,List.append_assoc,take_app _ _ _ rfl]
 have e4:((guardB n s).drop (4+pad4 n.length)).take s.length=s:=by
  rw [← List.drop_drop,e2,drop_app _ _ _ (padL_4_length n),padL_4,take_app _ _ _ rfl]
 unfold partsE
 simp only [e0,e1,e3,e4]
 rw [if_pos ⟨by rw [guardB_len];omega,⟨h1,h2⟩,guardB_len n s,trivial⟩]
theorem padF_guard {n s:List UInt8} (h1:16≤n.length):padF (1028,guardB n s)=(1028,guardB n s):=by
 unfold padF
 have h:=guardB_len n s
 have:szN (guardB n s).length-4-(guardB n s).length=0:=by rw [h];unfold szN pad4;omega
 rw [this];simp
theorem ixs_app_none {k:Int} {L:List Fld} (M:List Fld) (h:∀ f∈L,f.1≠k):∀ j,j≤L.length→ixs k (L++M) j=[]:=by
 intro j
 induction j with
 | zero=>intro _;rfl
 | succ j ih =>
  intro hj
  rw [ixs_no,ih (by omega)]
  rw [List.getD_eq_getElem?_getD,List.getElem?_append_left (by omega),List.getElem?_eq_getElem (by omega)]
  exact h _ (List.getElem_mem _)
theorem ixs_none {k:Int} {L:List Fld} (h:∀ f∈L,f.1≠k):ixs k L L.length=[]:=by
 have:=ixs_app_none [] h L.length (Nat.le_refl _)
 rwa [List.append_nil] at this
theorem encF_of {L:List Fld} (h:∀ f∈L,(0≤f.1∧f.1≤65535)∧szN f.2.length≤1232) (h2:L.length≤24) (h3:totN L≤1232):encF L=(bytesF L,0):=by
 have hb:badE L=0:=by
  clear h2 h3
  induction L with
  | nil=>rfl
  | cons f L ih =>
   obtain ⟨⟨a,b⟩,c⟩:=h f (List.mem_cons_self ..)
   have:(sizE f).2=0:=by unfold sizE;rw [if_neg (by omega),if_neg (by omega)]
   rw [badE,if_neg (by simpa using this)]
   exact ih fun g hg=>h g (List.mem_cons_of_mem _ hg)
 unfold encF
 rw [hb,if_neg (by simp),if_neg (by omega),if_neg (by omega)]
structure Fits (p:Pkt) (nn:Nat):Prop where
 h:okH p.h
 f1:∀ f∈p.plain,(0≤f.1∧f.1≤65535)∧szN f.2.length≤1232
 f2:∀ f∈p.secret,(0≤f.1∧f.1≤65535)∧szN f.2.length≤1232
 a:∀ f∈p.plain,f.1≠1028
 n1:p.plain.length<24
 n2:p.secret.length≤24
 n0:16≤nn∧nn≤32
 t:48+totN p.plain+(8+pad4 nn+pad4 (16+totN p.secret))≤1280
 t2:totN p.secret≤1232
def sealB (ky:List UInt8)(p:Pkt) (nonce:List UInt8):List UInt8:=(sealE ky [hdrB p.h++bytesF p.plain,nonce] (bytesF p.secret)).1
theorem fits_open {p:Pkt} {nn:Nat} (h:Fits p nn):encH p.h=(hdrB p.h,0)∧encF p.plain=(bytesF p.plain,0)∧encF p.secret=(bytesF p.secret,0)∧openB p.h p.plain=(hdrB p.h++bytesF p.plain,0):=by
 have h1:encH p.h=(hdrB p.h,0):=if_pos h.h
 have h2:=encF_of h.f1 (by have:=h.n1;omega) (by have:=h.t;omega)
 have h3:=encF_of h.f2 h.n2 h.t2
 refine ⟨h1,h2,h3,?_⟩
 unfold openB
 rw [h1,h2,if_neg (by simp),if_neg (by simp)]
theorem checkA2 {ky a b:List UInt8} (h:ky.length=32) (ha:a.length≤65519) (hb:b.length≤65519):checkA ky [a,b]=0:=by
 unfold checkA
 rw [if_neg (by omega),if_neg (by simp),if_neg (by unfold longA;simp;omega)]
theorem fits_len {p:Pkt} {nn:Nat} (h:Fits p nn):(hdrB p.h++bytesF p.plain).length=48+totN p.plain:=by rw [List.length_append,hdrB_length,bytesF_length]
theorem sealB_len {ky nonce:List UInt8} {p:Pkt} (hk:ky.length=32) (h:Fits p nonce.length):(sealB ky p nonce).length=16+totN p.secret:=by
 have hl:=fits_len h
 have ht:=h.t
 have ht2:=h.t2
 have hn:=h.n0
 unfold sealB
 rw [(seal2 hk (by omega) (by omega) (by rw [bytesF_length];omega)).2,bytesF_length]
theorem protE_fits {ky nonce:List UInt8} {p:Pkt} (hk:ky.length=32) (h:Fits p nonce.length):protE ky p nonce=(hdrB p.h++bytesF p.plain++fldB (1028,guardB nonce (sealB ky p nonce)),0) ∧
  (fldB (1028,guardB nonce (sealB ky p nonce))).length=8+pad4 nonce.length+pad4 (16+totN p.secret):=by
 obtain ⟨e1,e2,e3,e4⟩:=fits_open h
 have hl:=fits_len h
 have ht:=h.t
 have hn:=h.n0
 have hsl:=sealB_len hk h
 have hgl:=guardB_len nonce (sealB ky p nonce)
 rw [hsl] at hgl
 have hsz:szN (guardB nonce (sealB ky p nonce)).length=8+pad4 nonce.length+pad4 (16+totN p.secret):=by rw [hgl];unfold szN pad4;omega
 have hle:szN (guardB nonce (sealB ky p nonce)).length≤1232:=by rw [hsz];omega
 have htt:totN [((1028:Int),guardB nonce (sealB ky p nonce))]=szN (guardB nonce (sealB ky p nonce)).length:=by simp [totN]
 have hlast:lastF ky p nonce=(fldB (1028,guardB nonce (sealB ky p nonce)),0):=by
  unfold lastF
  rw [e4,e3]
  show encF [(1028,guardB nonce (sealB ky p nonce))]=_
  rw [encF_of (by intro f hf;rw [List.mem_singleton.1 hf];exact ⟨⟨by simp,by simp⟩,hle⟩) (by simp) (by rw [htt];exact hle)]
  simp [bytesF]
 have hfl:(fldB (1028,guardB nonce (sealB ky p nonce))).length=8+pad4 nonce.length+pad4 (16+totN p.secret):=by rw [fldB_length];exact hsz
 refine ⟨?_,hfl⟩
 rw [protE_at hk (by omega) (by rw [e4]) (by rw [e3]),if_neg (by rw [ixs_none h.a];simp),if_neg (by have:=h.n1;omega),hlast,e4]
 show (if (0:Int)≠0∨1280<(hdrB p.h++bytesF p.plain).length+(fldB (1028,guardB nonce (sealB ky p nonce))).length then _ else _)=_
 rw [if_neg (by rw [hl,hfl];omega)]
theorem readE_fits {ky nonce:List UInt8} {p:Pkt} (hk:ky.length=32) (h:Fits p nonce.length) :
  readE (hdrB p.h++bytesF p.plain++fldB (1028,guardB nonce (sealB ky p nonce)))=(⟨p.h,p.plain.map padF++[(1028,guardB nonce (sealB ky p nonce))],[],false⟩,0):=by
 obtain ⟨_,hfl⟩:=protE_fits hk h
 have hn:=h.n0
 have ht:=h.t
 have hG:(fldB (1028,guardB nonce (sealB ky p nonce))).length=szN (guardB nonce (sealB ky p nonce)).length:=fldB_length _
 have e:hdrB p.h++bytesF p.plain++fldB (1028,guardB nonce (sealB ky p nonce))=hdrB p.h++bytesF (p.plain++[(1028,guardB nonce (sealB ky p nonce))]):=by
  rw [List.append_assoc,bytesF_snoc]
 have htot:=totN_snoc p.plain (1028,guardB nonce (sealB ky p nonce))
 have hd:decH (hdrB p.h++bytesF (p.plain++[(1028,guardB nonce (sealB ky p nonce))]))=((p.h,bytesF (p.plain++[(1028,guardB nonce (sealB ky p nonce))])),0) :=
  decH_hdrB p.h h.h _ (by rw [bytesF_length,htot];simp only;omega)
 have hf:decF (bytesF (p.plain++[(1028,guardB nonce (sealB ky p nonce))]))=(p.plain.map padF++[(1028,guardB nonce (sealB ky p nonce))],0):=by
  unfold decF
  rw [if_neg (by rw [bytesF_length,htot];simp only;omega),decR_bytesF _ 24 (by rw [List.length_append];have:=h.n1;simp;omega)]
  ·rw [List.map_append]
   show (p.plain.map padF++[padF (1028,guardB nonce (sealB ky p nonce))],0)=_
   rw [padF_guard hn.1]
  ·intro f hf
   rcases List.mem_append.1 hf with h1|h1
   ·exact h.f1 f h1
   ·rw [List.mem_singleton.1 h1]
    exact ⟨⟨by simp,by simp⟩,by show szN (guardB nonce (sealB ky p nonce)).length≤1232;omega⟩
 rw [e]
 unfold readE
 rw [hd]
 simp only
 rw [hf]
 simp
theorem firstI_app {k:Int} {L:List Fld} {f:Fld} (h:∀ g∈L,g.1≠k) (hf:f.1=k):firstI k (L++[f])=some L.length:=by
 refine firstI_some (by simp) (ixs_app_none [f] h L.length (Nat.le_refl _)) ?_
 rw [List.getD_eq_getElem?_getD,List.getElem?_append_right (Nat.le_refl _)]
 simpa using hf
theorem openP_fits {ky nonce:List UInt8} {p:Pkt} (hk:ky.length=32) (h:Fits p nonce.length) :
  openP ky (hdrB p.h++bytesF p.plain++fldB (1028,guardB nonce (sealB ky p nonce)))=(⟨p.h,p.plain.map padF,p.secret.map padF,true⟩,0):=by
 obtain ⟨_,hfl⟩:=protE_fits hk h
 have hr:=readE_fits hk h
 have hl:=fits_len h
 have hn:=h.n0
 have ht:=h.t
 have ht2:=h.t2
 have hsl:=sealB_len hk h
 have hgl:=guardB_len nonce (sealB ky p nonce)
 have hmap:∀ g∈p.plain.map padF,g.1≠1028:=by
  intro g hg
  obtain ⟨f,hf,rfl⟩:=List.mem_map.1 hg
  exact h.a f hf
 have hfi:=firstI_app (f:=(1028,guardB nonce (sealB ky p nonce))) hmap rfl
 have hgd:(p.plain.map padF++[((1028:Int),guardB nonce (sealB ky p nonce))]).getD (p.plain.map padF).length (0,[])=(1028,guardB nonce (sealB ky p nonce)):=by
  rw [List.getD_eq_getElem?_getD,List.getElem?_append_right (Nat.le_refl _)];simp
 have hpt:=partsE_guardB (n:=nonce) (s:=sealB ky p nonce) hn.1 hn.2 (by rw [hsl];omega)
 have htk:(hdrB p.h++bytesF p.plain++fldB (1028,guardB nonce (sealB ky p nonce))).take ((hdrB p.h++bytesF p.plain++fldB (1028,guardB nonce (sealB ky p nonce))).length-(guardB nonce (sealB ky p nonce)).length-4)=hdrB p.h++bytesF p.plain:=by
  refine take_app _ _ _ ?_
  have hall:(hdrB p.h++bytesF p.plain++fldB (1028,guardB nonce (sealB ky p nonce))).length=48+totN p.plain+(8+pad4 nonce.length+pad4 (16+totN p.secret)):=by rw [List.length_append,hl,hfl]
  rw [hl,hall,hgl,hsl]
  omega
 have hop:openE ky [hdrB p.h++bytesF p.plain,nonce] (sealB ky p nonce)=(bytesF p.secret,0):=openE_seal (checkA2 hk (by omega) (by omega)) (by rw [bytesF_length];omega)
 have hdf:decF (bytesF p.secret)=(p.secret.map padF,0):=by
  unfold decF
  rw [if_neg (by rw [bytesF_length];omega)]
  exact decR_bytesF _ 24 h.n2 h.f2
 unfold openP
 rw [if_neg (by omega),hr]
 simp only
 rw [if_neg (by simp),hfi]
 simp only
 rw [if_neg (by simp),hgd]
 simp only
 rw [hpt]
 simp only
 rw [htk,hop]
 simp only
 rw [if_neg (by simp),hdf]
 simp
end Go.Pkt

/- The walks of layer 18: total, Length. -/
namespace Go.Pkt
def badL (l:List Int):Prop:=∃ x∈l,x<0∨1280<x
instance (l:List Int):Decidable (badL l):=by unfold badL;infer_instance
def sumL (l:List Int):Nat:=(l.map fun x=>szN x.toNat).sum
def totE (l:List Int):Int × Int:=if badL l then (0,4) else ((min (sumL l) 1281:Nat),0)
def allN (a b:Nat):Nat:=72+a+pad4 (16+b)
def lenE (a b:List Int):Int × Int :=
 if badL a∨badL b then (0,4) else if 1232<sumL a∨1232<sumL b∨1280<allN (sumL a) (sumL b) then (0,2) else ((allN (sumL a) (sumL b):Nat),0)
end Go.Pkt
namespace Go.Proofs.YtdmifbfgeeldnaaGreat
open Go.RowKit Go.Sec Go.Oct Go.Pkt Go.Aes BigFrame
end Go.Proofs.YtdmifbfgeeldnaaGreat

/- Layer 18: the sanity check. -/
namespace Go.Pkt
open Go.Oct Go.Aes Go.Sec
def p18:Pkt:=⟨askH 7,[],[],false⟩
def z32:List UInt8:=List.replicate 32 0
def z16:List UInt8:=List.replicate 16 0
def b18:List UInt8:=hdrB p18.h++bytesF p18.plain++fldB (1028,guardB z16 (sealB z32 p18 z16))
end Go.Pkt
namespace Go.Proofs.YtdmifbfgeeldnaaGreat
open Go.RowKit Go.Sec Go.Oct Go.Pkt Go.Aes BigFrame
end Go.Proofs.YtdmifbfgeeldnaaGreat

/- sectimeworld.Field, Fields. -/
namespace Go.Pkt
def kindN (s:Nat):Int:=[260,516,772,8192].getD s 0
def wfld (x:Int × List UInt8) (m:Nat):Fld:=(kindN (x.1 % 4).toNat,x.2.take m)
def wflds (L:List (Int × List UInt8)):List Fld:=(L.take 4).map fun x=>wfld x 60
end Go.Pkt
namespace Go.Proofs.YtdmifbfgeeldnaaGreat
open Go.RowKit Go.Sec Go.Oct Go.Pkt BigFrame
def FldOut (f:Fld) (w:World)(e:Ending) (w':World):Prop:=∃ a c,e = .returned (.agg #[.int .i64 f.1, .slice a f.2.length c])∧Own w' 0 a f.2.length c f.2∧Ext w w'
end Go.Proofs.YtdmifbfgeeldnaaGreat

/- Layer 18: what the statements draw fits; the law ProtectHides. -/
namespace Go.Pkt
open Go.Oct Go.Aes Go.Sec
end Go.Pkt
namespace Go.Proofs.YtdmifbfgeeldnaaGreat
open Go.RowKit Go.Sec Go.Oct Go.Pkt Go.Aes Go.Sha BigFrame
def protX (s:Nat) (t:UInt64) (A B:List (Int × List UInt8)):List UInt8:=hdrB (askH t)++bytesF (wflds A)++fldB (1028,guardB (wbytes s 16) (sealB (wbytes s 32) ⟨askH t,wflds A,wflds B,false⟩ (wbytes s 16)))
end Go.Proofs.YtdmifbfgeeldnaaGreat
