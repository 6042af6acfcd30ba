/- Lemmas of this claim, several texts joined. -/
import Derived.Test.YtmdahnkcnagkjaaGreatY1
import Derived.Test.YtmdahnkcnagkjaaGreatY9
import Derived.Test.YtmdahnkcnagkjaaGreatY24
import Derived.Test.YtmdahnkcnagkjaaGreatY26
import Derived.Test.YtmdahnkcnagkjaaGreatY28
import Derived.Test.YtmdahnkcnagkjaaGreatY36
import Derived.Test.YtmdahnkcnagkjaaGreatY38
import Derived.Test.YtmdahnkcnagkjaaGreatY39
import Derived.Test.YtmdahnkcnagkjaaGreatY40
import Derived.Test.YtmdahnkcnagkjaaGreatY42
set_option maxRecDepth 100000
open Go.Value renaming int -> Zz,slice -> Zy
open Go.IntKind renaming i64 -> Zx,u64 -> Zw,u32 -> Zv,u8 -> Zu
open List renaming setIfInBounds_toArray -> q0q, set_cons_succ -> q1q, set_cons_zero -> q2q, mem_cons -> q3q, not_mem_nil -> q4q, nil_append -> q5q, cons_append -> q6q, mem_append -> q7q, take_succ_cons -> q8q, take_zero -> q9q, drop_succ_cons -> q10q, drop_zero -> q11q, take_nil -> q12q, drop_nil -> q13q
open Go.IntWalk renaming i64_in -> q17q, rem_in -> q18q, wrap64_in -> q19q
set_option maxHeartbeats 8000000
set_option linter.unusedVariables false
set_option linter.unusedSimpArgs false
/- The walks of layer 18: Protect. -/
namespace Go.Pkt
open Go.Aes Go.Oct
theorem _root_.z43q82{p:Prop}(h:p:=by
 unfold aP;rw [aaf Zo,aaf Zs,aaf (by unfold cX;simp;omega)]):p:=h
theorem yL {ky b n p:List UInt8} (h:ky.length=32) (hb:b.length<=65519) (hn:n.length<=65519) (hp:p.length<=65519):(bI ky [b,n] p).2=0/\(bI ky [b,n] p).1.length=16+p.length:=by
 have hc:aP ky [b,n]=0:=by
  exact z43q82
 have ht:=jb hc hp;have h2:(cG ky [b,n] p).2=0:=by rw [ht]
 have hl:=(py h2).1;unfold bI;rw [aaf (by simpa using h2)];refine ⟨rfl,?_⟩;rw [aah,hl,cO]
theorem ml (h:Hdr) (L:List Fld):(aM h L).1.length<=1280:=by
 unfold aM;have h1:(cC h).1.length<=48:=by unfold cC;split <;> simp [cH]
 split
 ·simp
 ·split
  ·simp
  ·rename_i h2;obtain ⟨_,_,h3,h4⟩:=lU (by simpa using h2);rw [aah,h4,bf];omega
def eO (ky:List UInt8)(p:Pkt) (nonce:List UInt8):List UInt8 × Int:=aO [(1028,aD nonce (bI ky [(aM p.h p.plain).1,nonce] (aO p.secret).1).1)]
theorem ph {ky nonce:List UInt8} {p:Pkt} (h1:ky.length=32) (h2:¬ (nonce.length<16\/32<nonce.length)) (h3:(aM p.h p.plain).2=0) (h4:(aO p.secret).2=0) :
  cD ky p nonce=if ixs 1028 p.plain p.plain.length≠[] then ([],3) else if 24<=p.plain.length then ([],8)
   else if (eO ky p nonce).2≠0\/1280<(aM p.h p.plain).1.length+(eO ky p nonce).1.length then ([],2) else ((aM p.h p.plain).1++(eO ky p nonce).1,0):=by
 unfold cD eO;rw [aaf Zo,aaf h2,aaf (by simpa using h3),aaf (by simpa using h4)]
theorem qw {ky nonce:List UInt8} {p:Pkt} (h1:ky.length≠32):cD ky p nonce=([],5):=aal h1
theorem mV {ky nonce:List UInt8} {p:Pkt} (h1:ky.length=32) (h2:nonce.length<16\/32<nonce.length):cD ky p nonce=([],4):=by
 unfold cD;rw [aaf Zo,aal h2]
theorem ld {ky nonce:List UInt8} {p:Pkt} (h1:ky.length=32) (h2:¬ (nonce.length<16\/32<nonce.length)) (h3:(aM p.h p.plain).2≠0):cD ky p nonce=([],(aM p.h p.plain).2):=by
 unfold cD;rw [aaf Zo,aaf h2,aal h3]
theorem rv {ky nonce:List UInt8} {p:Pkt} (h1:ky.length=32) (h2:¬ (nonce.length<16\/32<nonce.length)) (h3:(aM p.h p.plain).2=0) (h4:(aO p.secret).2≠0):cD ky p nonce=([],(aO p.secret).2):=by
 unfold cD;rw [aaf Zo,aaf h2,aaf (by simpa using h3),aal h4]
end Go.Pkt
namespace Go.Proofs.YtmdahnkcnagkjaaGreat
open Go.RowKit Go.Sec Go.Oct Go.Pkt Go.Aes BigFrame
theorem _root_.z43q22{p:Prop}(h:p:=by
 have er:=Lib.hid (show r=([],3) by rw [<- hr.out,hat.out,aal q5]);have i5:(0:Int)<((ixs 1028 p.plain p.plain.length).length:Int):=by have:=List.length_pos_iff.2 q5;omega
 generalize (ixs 1028 p.plain p.plain.length).length=n5 at *;clear q5 hat;go_wp2_with fail;go_ret2;rw [er.out];exact aF _ _ _ hE3):p:=h
theorem _root_.z43q32{p:Prop}(h:p:=by
 have er:=Lib.hid (show r=([],(aO p.secret).2) by rw [<- hr.out];exact rv q1' q2' q3 q4);have i4:=ne0 q4;generalize (aO p.secret).2=v at *;clear q3 q4 f13;go_wp2_with fail;go_ret2;rw [er.out];exact aF _ _ _ hE2):p:=h
theorem _root_.z43q34{p:Prop}(h:p:=by
 have er:=Lib.hid (show r=([],2) by rw [hat.out,aal (.inr q8)]);generalize (aO [(1028,G)]).1=B6 at *;have i8:(1280:Int)<(B1.length:Int)+(B6.length:Int):=Zo;go_wp2_with fail;go_ret2;rw [er.out];exact aF _ _ _ hE6):p:=h
theorem _root_.z43q37{p:Prop}(h:p:=by
 have er:=Lib.hid (show r=([],2) by rw [hat.out,aal (.inl q7)]);have i7:=ne0 q7;generalize (aO [(1028,G)]).2=v at *;generalize (aO [(1028,G)]).1=B6 at *;go_wp2_with fail;go_ret2;rw [er.out];exact aF _ _ _ hE6):p:=h
theorem rQ (ak an a1 a2:Option Addr)(nk ck nn cn n1 c1 n2 c2:Nat) (p:Pkt) (ky nonce:List UInt8)(w:World)(hk:Sl w ak nk ky) (hck:nk<=ck) (hnn:Sl w an nn nonce) (hcn:nn<=cn) (hn:nn<=1000000)
  (hI1:Ib w a1 n1 p.plain) (hn1:n1<=1000000) (hL1:∀ f∈p.plain,f.2.length<=1000000) (hI2:Ib w a2 n2 p.secret) (hn2:n2<=1000000) (hL2:∀ f∈p.secret,f.2.length<=1000000) :
  Calls Tryz.prog 84 #[Zy ak nk ck, .agg #[Zz Zx p.h.leap, Zz Zx p.h.ver, Zz Zx p.h.mode, Zz Zx p.h.strat, Zz Zx p.h.poll, Zz Zx p.h.prec, Zz Zv (n32 p.h.rd), Zz Zv (n32 p.h.rp), Zz Zv (n32 p.h.id), Zz Zw (n64 p.h.ref), Zz Zw (n64 p.h.org), Zz Zw (n64 p.h.rcv), Zz Zw (n64 p.h.tx), Zy a1 n1 c1, Zy a2 n2 c2, .bool p.guarded], Zy an nn cn] w (bJ (cD ky p nonce).1.length (cD ky p nonce).1 (Zz Zx (cD ky p nonce).2) w):=by
 have lk:=hk.len;have ln:=hnn.len;have l1:=hI1.len;have ho:=λ W H=>qy p.h a1 a2 n1 c1 n2 c2 p.guarded p.plain W H hn1 hL1;have hs:=λ W H=>jB a2 n2 c2 p.secret W H hn2 hL2;obtain ⟨r,hr⟩:∃ r,cD ky p nonce=r:=⟨_,rfl⟩;rw [hr];have hr:=Lib.hid hr;by_cases q1:nk=32
 ·by_cases q2:16<=nn/\nn<=32
  ·have hno:=λ W=>gU nn rfl W;rw [aaC q2] at hno;have q1':ky.length=32:=Zo;have q2':¬ (nonce.length<16\/32<nonce.length):=Zo;subst q1
   go_enter Tryz.func84,Tryz.ntmps84
   go_wp2_with (first
    | (go_at_call 128;refine (hno _).mono ?_;rintro e w1 ⟨rfl,hxq⟩;obtain ⟨xq,rfl⟩:=hxq.out;clear hxq)
    | (refine af aV rfl _ rfl w.heap.size 0 rfl _ (((Blk.new w #[Zz Zx p.h.leap, Zz Zx p.h.ver, Zz Zx p.h.mode, Zz Zx p.h.strat, Zz Zx p.h.poll, Zz Zx p.h.prec, Zz Zv (n32 p.h.rd), Zz Zv (n32 p.h.rp), Zz Zv (n32 p.h.id), Zz Zw (n64 p.h.ref), Zz Zw (n64 p.h.org), Zz Zw (n64 p.h.rcv), Zz Zw (n64 p.h.tx), Zy a1 n1 c1, Zy a2 n2 c2, .bool p.guarded] 67).extB eX).rd) rfl ?_)
    | fail)
   refine bC ?_;intro W hW;have hE:Ext w W:=by rw [hW];exact eX
   have hB:Blk W w.heap.size 67 [Zz Zx p.h.leap, Zz Zx p.h.ver, Zz Zx p.h.mode, Zz Zx p.h.strat, Zz Zx p.h.poll, Zz Zx p.h.prec, Zz Zv (n32 p.h.rd), Zz Zv (n32 p.h.rp), Zz Zv (n32 p.h.id), Zz Zw (n64 p.h.ref), Zz Zw (n64 p.h.org), Zz Zw (n64 p.h.rcv), Zz Zw (n64 p.h.tx), Zy a1 n1 c1, Zy a2 n2 c2, .bool p.guarded]:=by rw [hW];exact bK
   clear hW hno;(with_reducible refine (ho W (hI1.ext hE)).mono ?_);rintro e w1 ⟨b1,d1,rfl,hS1,hd1,hx1⟩;have hE1:=hE.trans hx1;have hB1:=hB.extB hx1;haveI:=hB1.blt;have f13:w1.cell? ⟨w.heap.size,13,none⟩=some (Zy a1 n1 c1):=hB1.cell? 13 rfl;have f14:w1.cell? ⟨w.heap.size,14,none⟩=some (Zy a2 n2 c2):=hB1.cell? 14 rfl;have hbl:=ml p.h p.plain;clear hE hB hx1 ho;by_cases q3:(aM p.h p.plain).2=0
   ·rw [q3];go_wp2_with fail;clear f13 f14;(with_reducible refine (hs w1 (hI2.ext hE1)).mono ?_);rintro e w2 ⟨b2,d2,rfl,hS2,hd2,hx2⟩;have hE2:=hE1.trans hx2;have hB2:=hB1.extB hx2;have hS1:=hS1.ext hx2;haveI:=hB2.blt;have f13:w2.cell? ⟨w.heap.size,13,none⟩=some (Zy a1 n1 c1):=hB2.cell? 13 rfl;clear hE1 hB1 hx2 hs;by_cases q4:(aO p.secret).2=0
    ·rw [q4];have hat:=Lib.hid (ph q1' q2' q3 q4);have hsl:(aO p.secret).1.length<=1232:=gG;have hfi:=λ W H=>wa 1028 a1 n1 c1 p.plain W H hn1;go_wp2_with fail;clear f13;(with_reducible refine (hfi w2 (hI1.ext hE2)).mono ?_);rintro e w3 ⟨b3,d3,rfl,hO3,hx3⟩;have hE3:=hE2.trans hx3;have hB3:=hB2.extB hx3;have hS1:=hS1.ext hx3;have hS2:=hS2.ext hx3;haveI:=hB3.blt;have f13:w3.cell? ⟨w.heap.size,13,none⟩=some (Zy a1 n1 c1):=hB3.cell? 13 rfl;clear hE2 hB2 hx3 hfi hO3;by_cases q5:ixs 1028 p.plain p.plain.length=[]
     ·have i5:(ixs 1028 p.plain p.plain.length).length=0:=by rw [q5];rfl
      have hat:=Lib.hid (show r=if 24<=p.plain.length then ([],8) else if (eO ky p nonce).2≠0\/1280<(aM p.h p.plain).1.length+(eO ky p nonce).1.length then ([],2) else ((aM p.h p.plain).1++(eO ky p nonce).1,0) by
       rw [<- hr.out,hat.out,aaf (by rw [q5];simp)])
      rw [i5];clear q5 i5;by_cases q6:24<=n1
      ·have er:=Lib.hid (show r=([],8) by rw [hat.out,aal Zo]);have i6:(24:Int)<=(n1:Int):=Zo;go_wp2_with fail;go_ret2;rw [er.out];exact aF _ _ _ hE3
      ·have i6:¬ (24:Int)<=(n1:Int):=by omega
       have hat:=Lib.hid (show r=if (eO ky p nonce).2≠0\/1280<(aM p.h p.plain).1.length+(eO ky p nonce).1.length then ([],2) else ((aM p.h p.plain).1++(eO ky p nonce).1,0) by
        rw [hat.out,aaf Zo])
       obtain ⟨z1,z2⟩:=yL (b:=(aM p.h p.plain).1) (n:=nonce) (p:=(aO p.secret).1) q1' Zo Zo Zo;unfold eO at hat;have hse:=λ b' c' W H1 H2 H3=>ts ak b' b2 32 ck 2 c' (aO p.secret).1.length d2 ky [(aM p.h p.plain).1,nonce] (aO p.secret).1 W H1 hck H2 Zo H3 hd2;rw [z1] at hse;generalize (aM p.h p.plain).1=B1 at *;generalize (aO p.secret).1=B2 at *;generalize (bI ky [B1,nonce] B2).1=S3 at *;clear q3 q4 q6 z1;replace z2:=Lib.hid z2;go_wp2_with fail;clear f13;(with_reducible refine (hse _ _ _ (hk.ext (hE3.trans (Ext.of_alloc _ _))) (s6 hS1 hd1 (hnn.ext hE3) hcn _) (hS2.ext (Ext.of_alloc _ _))).mono ?_);rintro e w4 ⟨b4,d4,rfl,hS4,hd4,hx4⟩;have hx4:Ext w3 w4:=(Ext.of_alloc _ _).trans hx4;have hE4:=hE3.trans hx4;have hS1:=hS1.ext hx4;clear hE3 hx4 hse;go_wp2_with fail;(with_reducible refine (ns an b4 nn cn S3.length d4 nonce S3 _ (hnn.ext hE4) hS4 hn (by rw [z2.out];omega)).mono ?_);rintro e w5 ⟨b5,d5,rfl,hO5,hx5⟩;have hE5:=hE4.trans hx5;have hS1:=hS1.ext hx5;have hS5:=hO5.sl;have hle5:=hO5.le.1;have hGl:=eF nonce S3;have hlen:=hS5.len;rw [<- hlen] at hS5 hle5 ⊢;clear hlen;have hxe:=λ a' c' W H=>jB a' 1 c' [(1028,aD nonce S3)] W H Zo (by intro f hf;rw [aaB.1 hf];show (aD nonce S3).length<=1000000;rw [hGl];have:=z2.out;unfold aI;omega);generalize aD nonce S3=G at *;clear hE4 hx5 hO5 hS4 hd4 hGl;go_wp2_with fail;(with_reducible refine (hxe _ _ _ (ib1 hS5 hle5 1028 _)).mono ?_);rintro e w6 ⟨b6,d6,rfl,hS6,hd6,hx6⟩;have hx6:Ext w5 w6:=(Ext.of_alloc _ _).trans hx6;have hE6:=hE5.trans hx6;have hS1:=hS1.ext hx6;clear hE5 hx6 hxe hS5;have hfl:=gG (L:=[(1028,G)]);by_cases q7:(aO [(1028,G)]).2=0
       ·rw [q7];by_cases q8:1280<B1.length+(aO [(1028,G)]).1.length
        ·exact z43q34
        ·have er:=Lib.hid (show r=(B1++(aO [(1028,G)]).1,0) by rw [hat.out,aaf (λ h=>h.elim (λ h=>h q7) q8)]);clear hat q7;generalize (aO [(1028,G)]).1=B6 at *;have i8:¬ (1280:Int)<(B1.length:Int)+(B6.length:Int):=Zo;have hj:aW [B1,B6]=B1++B6:=gM _ _;have hjl:(aW [B1,B6]).length=B1.length+B6.length:=by rw [hj,aah]
         have HJ:=Lib.hid hj;clear hj;go_wp2_with fail;(with_reducible refine (gu _ _ _ [B1,B6] _ (oi (hS1.ext eX) (hS6.ext eX) _) Zo (B1.length+B6.length) hjl Zo).mono ?_);rintro e w7 ⟨b7,d7,rfl,hO7,hx7⟩;rw [HJ.out] at hO7;go_wp2_with fail;go_ret2;rw [er.out];show bJ (B1++B6).length _ _ _ _ _;rw [aah];exact ⟨b7,d7,rfl,hO7.sl,hO7.le.1,hE6.trans ((Ext.of_alloc _ _).trans hx7)⟩
       ·exact z43q37
     ·exact z43q22
    ·exact z43q32
   ·have er:=Lib.hid (show r=([],(aM p.h p.plain).2) by rw [<- hr.out];exact ld q1' q2' q3);have i3:=ne0 q3;generalize (aM p.h p.plain).2=v at *;clear q3 f13 f14;go_wp2_with fail;go_ret2;rw [er.out];exact aF _ _ _ hE1
  ·have hno:=λ W=>gU nn rfl W;rw [aaH q2] at hno;have i1:((nk:Int) != 32)=false:=by rw [aai];omega
   have er:=Lib.hid (show r=([],4) by rw [<- hr.out];exact mV Zo Zo);have q1:=Lib.hid q1;clear lk ln q2
   go_enter Tryz.func84,Tryz.ntmps84
   go_wp2_with (first
    | (go_at_call 128;refine (hno _).mono ?_;rintro e w1 ⟨rfl,hxq⟩;obtain ⟨xq,rfl⟩:=hxq.out;clear hxq)
    | fail)
   go_ret2;rw [er.out];exact aF _ _ _ eX
 ·have er:=Lib.hid (show r=([],5) by rw [<- hr.out];exact qw Zo);have i1:((nk:Int) != 32)=true:=by rw [aax];omega
  clear lk ln q1
  go_enter Tryz.func84,Tryz.ntmps84
  go_wp2_with fail;go_ret2;rw [er.out];exact aF _ _ _ eX
end Go.Proofs.YtmdahnkcnagkjaaGreat

/- The walks of layer 22: Question. -/
namespace Go.Jar
open Go.Pkt
def bg (u c:List UInt8)(k:Nat):List Fld:=[((260:Int),u),(516,c)]++List.replicate k ((772:Int),List.replicate 104 0)
theorem fF (u c:List UInt8)(k:Nat):(bg u c k).length=2+k:=by simp [bg];omega
theorem m8 (u c:List UInt8)(k:Nat):bg u c (k+1)=bg u c k++[((772:Int),List.replicate 104 0)]:=by simp only [bg,abz,aao]
theorem jZ {u c:List UInt8} {k:Nat} {f:Fld} (h:f∈bg u c k):f=(260,u)\/f=(516,c)\/f=(772,List.replicate 104 0):=by
 unfold bg at h;rcases aa4.1 h with h|h
 ·simp only [q3q,q4q,aar] at h;rcases h with h|h
  ·exact .inl h
  ·exact .inr (.inl h)
 ·exact .inr (.inr (abE h))
def kB (t:UInt64) (u c:List UInt8)(k:Nat):Pkt:=⟨bW t,bg u c k,[],false⟩
def lF (j:Jar) (t:UInt64) (u nn:List UInt8):(Jar × List UInt8) × Int :=
 if bP j=true/\u.length=32/\nn.length=16 then
  (if (dc j).2=0 then
   (if (cD (dc j).1.1.up (kB t u (dc j).1.2 (7-(dc j).1.1.ck.length)) nn).2=0 then (((dc j).1.1,(cD (dc j).1.1.up (kB t u (dc j).1.2 (7-(dc j).1.1.ck.length)) nn).1),0)
    else ((bT,[]),(cD (dc j).1.1.up (kB t u (dc j).1.2 (7-(dc j).1.1.ck.length)) nn).2))
   else ((bT,[]),(dc j).2))
 else ((bT,[]),3)
theorem xG {j:Jar} (hv:bP j=true) (h:(dc j).2=0):(dc j).1.1.ck.length<=7/\(dc j).1.2.length=104/\(dc j).1.1.up.length=32:=by
 unfold dc at h ⊢;rw [aal hv] at h ⊢;have hh:=hv;unfold bP at hh;rw [aay,aay] at hh;obtain ⟨h1,h2,_⟩:=hh;have h1:jt j:=aaV h1;by_cases q:j.ck.length=0
 ·rw [aal q] at h;exact absurd h Zd
 ·rw [aaf q] at h ⊢;by_cases q2:j.sent=1099511627776
  ·rw [aal q2] at h;exact absurd h Zd
  ·rw [aaf q2];cases hc:j.ck with
   | nil=>rw [hc] at q;exact absurd rfl q
   | cons y L =>
    have h3:=h1.2.1;rw [hc,aaM] at h3;have h4:=aaE.1 h2 y (by rw [hc];exact aa5 ..);refine ⟨by show L.length<=7;omega,by simpa using h4,h1.1.1⟩
end Go.Jar
namespace Go.Sec
open Go.RowKit
theorem cI.two {T:TypeId} {w:World} {base g m1 c1 m2 c2:Nat} {id1 id2:Int} {g1 g2:Option Addr} {l1 l2:List UInt8} (hB:Blk w g T [Zz Zx id1, Zy g1 m1 c1, Zz Zx id2, Zy g2 m2 c2]) (hb:base<=g)
  (h1:Sl w g1 m1 l1) (k1:m1<=c1) (i1:InT T w base g1 m1) (h2:Sl w g2 m2 l2) (k2:m2<=c2) (i2:InT T w base g2 m2):cI T w base (some ⟨g,0,none⟩) 2 2 [(id1,l1),(id2,l2)]:=by
 have e1:=h1.len;have e2:=h2.len;subst e1 e2;refine ⟨rfl,[Zz Zx id1, Zy g1 l1.length c1, Zz Zx id2, Zy g2 l2.length c2],⟨rfl, .inr ⟨g,2,#[Zz Zx id1, Zy g1 l1.length c1, Zz Zx id2, Zy g2 l2.length c2],rfl,hb,?_,aae _,by unfold maxLen;omega,rfl,rfl⟩⟩,rfl,λ k hk=>?_⟩
 ·exact hB
 ·match k,hk with
  | 0,_=>exact ⟨g1,c1,rfl,rfl,h1,k1,i1⟩
  | 1,_=>exact ⟨g2,c2,rfl,rfl,h2,k2,i2⟩
def u0 (T:TypeId)(id:Int) (l:List UInt8)(w:World)(a:Option Addr):Prop:=∃ g ga n cc,a=some ⟨g,0,none⟩/\Rd w a [Zz Zx id, Zy ga n cc]/\Sl w ga n l/\n<=cc/\∀ base,InT T w base ga n
theorem u0.ext {T:TypeId} {id:Int} {l:List UInt8} {w w':World} {a:Option Addr} (h:u0 T id l w a) (hx:Ext w w'):u0 T id l w' a:=by
 obtain ⟨g,ga,n,cc,h1,h2,h3,h4,h5⟩:=h;exact ⟨g,ga,n,cc,h1,h2.ext hx,h3.ext hx,h4,λ b=>(h5 b).ext hx⟩
theorem u0.mk {T:TypeId} {id:Int} {l:List UInt8} {w:World} {ga:Option Addr} {n cc base:Nat} (h:Own w base ga n cc l) (hT:5≠T):u0 T id l (w.alloc (.cells #[Zz Zx id, Zy ga n cc] T)) (some ⟨w.heap.size,0,none⟩) :=
 ⟨_,ga,n,cc,rfl,(Blk.new w #[Zz Zx id, Zy ga n cc] T).rd,h.sl.ext (Ext.of_alloc _ _),h.le.1,λ b=>(h.ext (Ext.of_alloc _ _)).inT hT⟩
theorem pX (w:World)(n:Nat) (hn:n<=1000000):Own (w.alloc (.cells (bM (Zz Zu 0) n) 5)) 0 (some ⟨w.heap.size,0,none⟩) n n (List.replicate n 0):=by
 have:=Own.of_blk (base:=0) (l:=List.replicate n 0) (bY w n) (aam _) (by rw [aaQ];unfold maxLen;omega)
 rwa [aaQ] at this
end Go.Sec
namespace Go.Proofs.YtmdahnkcnagkjaaGreat
open Go.RowKit Go.Sec Go.Oct Go.Jar Go.Pkt BigFrame
def mS (r:(Jar × List UInt8) × Int) (w:World)(e:Ending) (w':World):Prop:=∃ b1 n1 d1 b2 n2 d2 b3 n3 d3 b4 n4 d4 b5 n5 d5,e = .returned (.tuple #[.agg #[Zy b1 n1 d1, Zy b2 n2 d2, Zy b3 n3 d3, Zy b4 n4 d4, Zz Zx r.1.1.net, Zz Zx r.1.1.sent], Zy b5 n5 d5, Zz Zx r.2]) /\
 Sl w' b1 n1 r.1.1.up/\n1<=d1/\Sl w' b2 n2 r.1.1.dn/\n2<=d2/\Bsc w' b3 n3 r.1.1.ck/\n3<=d3/\fU w' b3/\Sl w' b4 n4 r.1.1.last/\n4<=d4/\Sl w' b5 n5 r.1.2/\n5<=d5/\Ext w w'
theorem mS.zero (w w':World)(e:Int) (hx:Ext w w'):mS ((bT,[]),e) w (.returned (.tuple #[.agg #[Zy none 0 0, Zy none 0 0, Zy none 0 0, Zy none 0 0, Zz Zx 0, Zz Zx 0], Zy none 0 0, Zz Zx e])) w' :=
 ⟨none,0,0,none,0,0,none,0,0,none,0,0,none,0,0,rfl,Sl.nil _ _,aae _,Sl.nil _ _,aae _,Bsc.nil _ _,aae _,fU.none _,Sl.nil _ _,aae _,Sl.nil _ _,aae _,hx⟩
end Go.Proofs.YtmdahnkcnagkjaaGreat

/- sectimeworld.Pair, Jar. -/
namespace Go.Jar
open Go.Sha
def upW (s:Nat):List UInt8:=(gQ s 64).take 32
def dnW (s:Nat):List UInt8:=(gQ s 64).drop 32
def ckW (s k:Nat):List (List UInt8):=(List.range k).map λ i=>gQ (s+1000003*(i+1)) 104
def EK (s k:Nat):Jar:=⟨upW s,dnW s,ckW s k,[],1,0⟩
end Go.Jar
namespace Go.Proofs.YtmdahnkcnagkjaaGreat
open Go.RowKit Go.Sec Go.Oct Go.Jar Go.Sha BigFrame
def Er (s:Nat) (w:World)(e:Ending) (w':World):Prop:=∃ pb po c,e = .returned (.agg #[Zy (some ⟨pb,po,none⟩) 32 c, Zy (some ⟨pb,po+32,none⟩) 32 (c-32)])/\Own w' 0 (some ⟨pb,po,none⟩) 64 c (gQ s 64)/\Ext w w'
def El (s k:Nat) (w:World)(e:Ending) (w':World):Prop:=∃ a1 d1 a2 d2 b3 d3,e = .returned (.agg #[Zy a1 32 d1, Zy a2 32 d2, Zy b3 k d3, Zy none 0 0, Zz Zx 1, Zz Zx 0])/\Sl w' a1 32 (upW s)/\32<=d1/\Sl w' a2 32 (dnW s)/\32<=d2/\Bsc w' b3 k (ckW s k)/\k<=d3/\Ext w w'
end Go.Proofs.YtmdahnkcnagkjaaGreat

/- Open undoes Protect: plain functions. No program. -/
namespace Go.Pkt
open Go.Oct Go.Aes Go.Sec
theorem ux (l:List UInt8):gv l 4=l++List.replicate (aI l.length-l.length) 0:=by
 unfold gv BS aI;rw [aal Zo]
 congr 2
 omega
theorem kF (l:List UInt8):(gv l 4).length=aI l.length:=by
 rw [ux,aah,aaQ];unfold aI;omega
theorem eI (n s:List UInt8):(aD n s).length=4+aI n.length+aI s.length:=by
 simp only [aD,aah,az,kF];omega
theorem pJ {n s:List UInt8} (h1:16<=n.length) (h2:n.length<=32) (h3:s.length<65536):db (aD n s)=some (n,s):=by
 have e0:bR ((aD n s).take 2)=n.length:=by
  unfold aD;rw [ee _ _ _ (az _ _),kb _ Zo]
 have e1:bR (((aD n s).drop 2).take 2)=s.length:=by
  unfold aD;rw [eZ _ _ _ (az _ _),ee _ _ _ (az _ _),kb _ Zo]
 have e2:(aD n s).drop 4=gv n 4++gv s 4:=by
  unfold aD;rw [show (4:Nat)=2+2 from rfl,iE _ _ 2 2 (az _ _),eZ _ _ _ (az _ _)]
 have e3:((aD n s).drop 4).take n.length=n:=by
  rw [e2,ux,aao,ee _ _ _ rfl]
 have e4:((aD n s).drop (4+aI n.length)).take s.length=s:=by
  rw [<- abi,e2,eZ _ _ _ (kF n),ux,ee _ _ _ rfl]
 unfold db;simp only [e0,e1,e3,e4];rw [aal ⟨by rw [eI];omega,⟨h1,h2⟩,eI n s,trivial⟩]
theorem u9 {n s:List UInt8} (h1:16<=n.length):eP (1028,aD n s)=(1028,aD n s):=by
 unfold eP;have h:=eI n s;have:szN (aD n s).length-4-(aD n s).length=0:=by rw [h];unfold szN aI;omega
 rw [this];simp
theorem lY {k:Int} {L:List Fld} (M:List Fld) (h:∀ f∈L,f.1≠k):∀ j,j<=L.length->ixs k (L++M) j=[]:=by
 intro j
 induction j with
 | zero=>intro _;rfl
 | succ j ih =>
  intro hj;rw [me,ih Zo];rw [List.getD_eq_getElem?_getD,List.getElem?_append_left Zo,List.getElem?_eq_getElem Zo];exact h _ (aaN _)
theorem yE {k:Int} {L:List Fld} (h:∀ f∈L,f.1≠k):ixs k L L.length=[]:=by
 have:=lY [] h L.length (aae _)
 rwa [List.append_nil] at this
theorem ri {L:List Fld} (h:∀ f∈L,(0<=f.1/\f.1<=65535)/\szN f.2.length<=1232) (h2:L.length<=24) (h3:aL L<=1232):aO L=(aT L,0):=by
 have hb:fj L=0:=by
  clear h2 h3
  induction L with
  | nil=>rfl
  | cons f L ih =>
   obtain ⟨⟨a,b⟩,c⟩:=h f (aa5 ..);have:(cR f).2=0:=by unfold cR;rw [aaf Zo,aaf Zo]
   rw [fj,aaf (by simpa using this)];exact ih λ g hg=>h g (abA _ hg)
 unfold aO;rw [hb,aaf Zs,aaf Zo,aaf Zo]
structure Fits (p:Pkt) (nn:Nat):Prop where
 h:okH p.h
 f1:∀ f∈p.plain,(0<=f.1/\f.1<=65535)/\szN f.2.length<=1232
 f2:∀ f∈p.secret,(0<=f.1/\f.1<=65535)/\szN f.2.length<=1232
 a:∀ f∈p.plain,f.1≠1028
 n1:p.plain.length<24
 n2:p.secret.length<=24
 n0:16<=nn/\nn<=32
 t:48+aL p.plain+(8+aI nn+aI (16+aL p.secret))<=1280
 t2:aL p.secret<=1232
def bL (ky:List UInt8)(p:Pkt) (nonce:List UInt8):List UInt8:=(bI ky [cJ p.h++aT p.plain,nonce] (aT p.secret)).1
theorem wD {p:Pkt} {nn:Nat} (h:Fits p nn):cC p.h=(cJ p.h,0)/\aO p.plain=(aT p.plain,0)/\aO p.secret=(aT p.secret,0)/\aM p.h p.plain=(cJ p.h++aT p.plain,0):=by
 have h1:cC p.h=(cJ p.h,0):=aal h.h;have h2:=ri h.f1 (by have:=h.n1;omega) (by have:=h.t;omega);have h3:=ri h.f2 h.n2 h.t2;refine ⟨h1,h2,h3,?_⟩;unfold aM;rw [h1,h2,aaf Zs,aaf Zs]
theorem Ac {ky a b:List UInt8} (h:ky.length=32) (ha:a.length<=65519) (hb:b.length<=65519):aP ky [a,b]=0:=by
 exact z43q82
theorem jE {p:Pkt} {nn:Nat} (h:Fits p nn):(cJ p.h++aT p.plain).length=48+aL p.plain:=by rw [aah,cH,bf]
theorem p9 {ky nonce:List UInt8} {p:Pkt} (hk:ky.length=32) (h:Fits p nonce.length):(bL ky p nonce).length=16+aL p.secret:=by
 have hl:=jE h;have ht:=h.t;have ht2:=h.t2;have hn:=h.n0;unfold bL;rw [(yL hk Zo Zo (by rw [bf];omega)).2,bf]
theorem iW {ky nonce:List UInt8} {p:Pkt} (hk:ky.length=32) (h:Fits p nonce.length):cD ky p nonce=(cJ p.h++aT p.plain++dt (1028,aD nonce (bL ky p nonce)),0) /\
  (dt (1028,aD nonce (bL ky p nonce))).length=8+aI nonce.length+aI (16+aL p.secret):=by
 obtain ⟨e1,e2,e3,e4⟩:=wD h;have hl:=jE h;have ht:=h.t;have hn:=h.n0;have hsl:=p9 hk h;have hgl:=eI nonce (bL ky p nonce);rw [hsl] at hgl;have hsz:szN (aD nonce (bL ky p nonce)).length=8+aI nonce.length+aI (16+aL p.secret):=by rw [hgl];unfold szN aI;omega
 have hle:szN (aD nonce (bL ky p nonce)).length<=1232:=by rw [hsz];omega
 have htt:aL [((1028:Int),aD nonce (bL ky p nonce))]=szN (aD nonce (bL ky p nonce)).length:=by simp [aL]
 have hlast:eO ky p nonce=(dt (1028,aD nonce (bL ky p nonce)),0):=by
  unfold eO;rw [e4,e3];show aO [(1028,aD nonce (bL ky p nonce))]=_;rw [ri (by intro f hf;rw [aaB.1 hf];exact ⟨⟨Zs,Zs⟩,hle⟩) Zs (by rw [htt];exact hle)];simp [aT]
 have hfl:(dt (1028,aD nonce (bL ky p nonce))).length=8+aI nonce.length+aI (16+aL p.secret):=by rw [di];exact hsz
 refine ⟨?_,hfl⟩;rw [ph hk Zo (by rw [e4]) (by rw [e3]),aaf (by rw [yE h.a];simp),aaf (by have:=h.n1;omega),hlast,e4];show (if (0:Int)≠0\/1280<(cJ p.h++aT p.plain).length+(dt (1028,aD nonce (bL ky p nonce))).length then _ else _)=_;rw [aaf (by rw [hl,hfl];omega)]
theorem lx {ky nonce:List UInt8} {p:Pkt} (hk:ky.length=32) (h:Fits p nonce.length) :
  aC (cJ p.h++aT p.plain++dt (1028,aD nonce (bL ky p nonce)))=(⟨p.h,p.plain.map eP++[(1028,aD nonce (bL ky p nonce))],[],false⟩,0):=by
 obtain ⟨_,hfl⟩:=iW hk h;have hn:=h.n0;have ht:=h.t;have hG:(dt (1028,aD nonce (bL ky p nonce))).length=szN (aD nonce (bL ky p nonce)).length:=di _;have e:cJ p.h++aT p.plain++dt (1028,aD nonce (bL ky p nonce))=cJ p.h++aT (p.plain++[(1028,aD nonce (bL ky p nonce))]):=by
  rw [aao,jT]
 have htot:=eM p.plain (1028,aD nonce (bL ky p nonce));have hd:bD (cJ p.h++aT (p.plain++[(1028,aD nonce (bL ky p nonce))]))=((p.h,aT (p.plain++[(1028,aD nonce (bL ky p nonce))])),0) :=
  qB p.h h.h _ (by rw [bf,htot];simp only;omega)
 have hf:bj (aT (p.plain++[(1028,aD nonce (bL ky p nonce))]))=(p.plain.map eP++[(1028,aD nonce (bL ky p nonce))],0):=by
  unfold bj;rw [aaf (by rw [bf,htot];simp only;omega),nj _ 24 (by rw [aah];have:=h.n1;simp;omega)]
  ·rw [aaP];show (p.plain.map eP++[eP (1028,aD nonce (bL ky p nonce))],0)=_;rw [u9 hn.1]
  ·intro f hf;rcases aa4.1 hf with h1|h1
   ·exact h.f1 f h1
   ·rw [aaB.1 h1];exact ⟨⟨Zs,Zs⟩,by show szN (aD nonce (bL ky p nonce)).length<=1232;omega⟩
 rw [e];unfold aC;rw [hd];simp only;rw [hf];simp
theorem tU {k:Int} {L:List Fld} {f:Fld} (h:∀ g∈L,g.1≠k) (hf:f.1=k):eT k (L++[f])=some L.length:=by
 refine m6 Zs (lY [f] h L.length (aae _)) ?_;rw [List.getD_eq_getElem?_getD,List.getElem?_append_right (aae _)];simpa using hf
theorem pj {ky nonce:List UInt8} {p:Pkt} (hk:ky.length=32) (h:Fits p nonce.length) :
  cT ky (cJ p.h++aT p.plain++dt (1028,aD nonce (bL ky p nonce)))=(⟨p.h,p.plain.map eP,p.secret.map eP,true⟩,0):=by
 obtain ⟨_,hfl⟩:=iW hk h;have hr:=lx hk h;have hl:=jE h;have hn:=h.n0;have ht:=h.t;have ht2:=h.t2;have hsl:=p9 hk h;have hgl:=eI nonce (bL ky p nonce);have hmap:∀ g∈p.plain.map eP,g.1≠1028:=by
  intro g hg;obtain ⟨f,hf,rfl⟩:=aa6.1 hg;exact h.a f hf
 have hfi:=tU (f:=(1028,aD nonce (bL ky p nonce))) hmap rfl;have hgd:(p.plain.map eP++[((1028:Int),aD nonce (bL ky p nonce))]).getD (p.plain.map eP).length (0,[])=(1028,aD nonce (bL ky p nonce)):=by
  rw [List.getD_eq_getElem?_getD,List.getElem?_append_right (aae _)];simp
 have hpt:=pJ (n:=nonce) (s:=bL ky p nonce) hn.1 hn.2 (by rw [hsl];omega);have htk:(cJ p.h++aT p.plain++dt (1028,aD nonce (bL ky p nonce))).take ((cJ p.h++aT p.plain++dt (1028,aD nonce (bL ky p nonce))).length-(aD nonce (bL ky p nonce)).length-4)=cJ p.h++aT p.plain:=by
  refine ee _ _ _ ?_;have hall:(cJ p.h++aT p.plain++dt (1028,aD nonce (bL ky p nonce))).length=48+aL p.plain+(8+aI nonce.length+aI (16+aL p.secret)):=by rw [aah,hl,hfl]
  rw [hl,hall,hgl,hsl];omega
 have hop:bH ky [cJ p.h++aT p.plain,nonce] (bL ky p nonce)=(aT p.secret,0):=nQ (Ac hk Zo Zo) (by rw [bf];omega);have hdf:bj (aT p.secret)=(p.secret.map eP,0):=by
  unfold bj;rw [aaf (by rw [bf];omega)];exact nj _ 24 h.n2 h.f2
 unfold cT;rw [aaf Zo,hr];simp only;rw [aaf Zs,hfi];simp only;rw [aaf Zs,hgd];simp only;rw [hpt];simp only;rw [htk,hop];simp only;rw [aaf Zs,hdf];simp
end Go.Pkt

/- Layer 22: the jars that the statements draw, as plain functions. No program. -/
namespace Go.Jar
open Go.Sha Go.Pkt Go.Oct Go.Aes Go.Lane
def ck0 (s:Nat):List UInt8:=gQ (s+1000003) 104
def EL (s k:Nat):Jar:=⟨upW s,dnW s,(ckW s k).tail,ck0 s,1,1⟩
theorem szQ {u c:List UInt8} {k:Nat} (hu:u.length=32) (hc:c.length=104) {f:Fld} (h:f∈bg u c k):(0<=f.1/\f.1<=65535)/\f.1≠1028/\szN f.2.length<=108/\f.2.length<=104:=by
 rcases jZ h with h|h|h
 ·rw [h];refine ⟨Zs,Zs,?_,?_⟩
  ·show szN u.length<=108;rw [hu];decide
  ·show u.length<=104;omega
 ·rw [h];refine ⟨Zs,Zs,?_,?_⟩
  ·show szN c.length<=108;rw [hc];decide
  ·show c.length<=104;omega
 ·rw [h];refine ⟨Zs,Zs,?_,?_⟩
  ·show szN (List.replicate 104 (0:UInt8)).length<=108;rw [aaQ];decide
  ·show (List.replicate 104 (0:UInt8)).length<=104;rw [aaQ];omega
theorem CR {u c:List UInt8} (hu:u.length=32) (hc:c.length=104) (k:Nat):aL (bg u c k)=36+108*(k+1):=by
 induction k with
 | zero =>
  have e:aL (bg u c 0)=szN u.length+szN c.length:=by simp [bg,aL]
  rw [e,hu,hc];decide
 | succ k ih =>
  rw [m8,eM,ih];show 36+108*(k+1)+szN (List.replicate 104 (0:UInt8)).length=_;rw [aaQ,show szN 104=108 from by decide];omega
theorem CM {u c:List UInt8} (hu:u.length=32) (hc:c.length=104) (t:UInt64) {k:Nat} (hk:k<=7):Fits (kB t u c k) 16 where
 h:=lK t
 f1:=λ f hf=>⟨(szQ hu hc hf).1,aaq (szQ hu hc hf).2.2.1 Zo⟩
 f2:=λ f hf=>by cases hf
 a:=λ f hf=>(szQ hu hc hf).2.1
 n1:=by show (bg u c k).length<24;rw [fF];omega
 n2:=by show 0<=24;omega
 n0:=Zo
 t:=by
  show 48+aL (bg u c k)+(8+aI 16+aI (16+aL []))<=1280;rw [CR hu hc,show aL []=0 from rfl];unfold aI;omega
 t2:=by show aL []<=1232;rw [show aL []=0 from rfl];omega
def D3 (s k:Nat) (t:UInt64) (u nn:List UInt8):List UInt8:=(cD (upW s) (kB t u (ck0 s) (8-k)) nn).1
end Go.Jar

/- Layer 22: what a question's fields read as. No program. -/
namespace Go.Jar
open Go.Sha Go.Pkt Go.Oct Go.Aes
theorem Cx {u c:List UInt8} {k:Nat} (hu:u.length=32) (hc:c.length=104):(bg u c k).map eP=bg u c k:=by
 have h:∀ f∈bg u c k,eP f=f:=λ f hf=>by
  unfold eP;rcases jZ hf with h|h|h <;> rw [h]
  ·simp only;rw [hu,show szN 32-4-32=0 from by decide];simp
  ·simp only;rw [hc,show szN 104-4-104=0 from by decide];simp
  ·simp only;rw [aaQ,show szN 104-4-104=0 from by decide];simp
 calc (bg u c k).map eP=(bg u c k).map id:=abu h
  _=_:=List.map_id _
end Go.Jar

/- Layer 22: what Answer answers. -/
namespace Go.Jar
open Go.Pkt
def jl (S:List Fld):List (List UInt8):=(S.filter λ f=>decide (f.1=516)).map (·.2)
theorem xU {S:List Fld} {i:Nat} {y:Fld} (h:S[i]?=some y) (hy:y.1=516):jl (S.take (i+1))=jl (S.take i)++[y.2]:=by
 unfold jl;rw [abD,h];simp [List.filter_append,hy]
theorem zQ {S:List Fld} {i:Nat} {y:Fld} (h:S[i]?=some y) (hy:y.1≠516):jl (S.take (i+1))=jl (S.take i):=by
 unfold jl;rw [abD,h];simp [List.filter_append,hy]
theorem yD (S:List Fld):∀ i,jl (S.take i)=(ixs 516 (S.take i) i).map λ k=>(S.getD k (0,[])).2:=by
 intro i
 induction i with
 | zero=>simp [jl,ixs]
 | succ i ih =>
  have e:ixs 516 (S.take (i+1)) i=ixs 516 (S.take i) i:=by
   unfold ixs;refine List.filter_congr λ k hk=>?_;have hk:=aaW.1 hk;have g:∀ m,k<m->((S.take m).getD k ((0:Int),([]:List UInt8)))=S.getD k (0,[]):=λ m hm=>by
    rw [List.getD_eq_getElem?_getD,List.getD_eq_getElem?_getD,List.getElem?_take,aal hm]
   rw [g (i+1) Zo,g i hk]
  have g1:(S.take (i+1)).getD i ((0:Int),([]:List UInt8))=S.getD i (0,[]):=by
   rw [List.getD_eq_getElem?_getD,List.getD_eq_getElem?_getD,List.getElem?_take,aal Zo]
  by_cases h:(S.getD i ((0:Int),([]:List UInt8))).1=516
  ·have hi:i<S.length:=by
    rcases abj i S.length with h1|h1
    ·exact h1
    ·rw [List.getD_eq_getElem?_getD,List.getElem?_eq_none h1] at h;exact absurd h Zd
   have hs:S[i]?=some S[i]:=List.getElem?_eq_getElem hi;have hd:S.getD i ((0:Int),([]:List UInt8))=S[i]:=by rw [List.getD_eq_getElem?_getD,hs];rfl
   rw [xU hs (by rw [<- hd];exact h),ih,lE (by rw [g1];exact h),e,aaP,<- hd];rfl
  ·rw [me (by rw [g1];exact h),e,<- ih];rcases abj i S.length with h1|h1
   ·have hs:S[i]?=some S[i]:=List.getElem?_eq_getElem h1;have hd:S.getD i ((0:Int),([]:List UInt8))=S[i]:=by rw [List.getD_eq_getElem?_getD,hs];rfl
    exact zQ hs (by rw [<- hd];exact h)
   ·rw [aak h1,aak Zo]
theorem zi (S:List Fld):jl S=(ixs 516 S S.length).map λ k=>(S.getD k (0,[])).2:=by
 have:=yD S S.length
 rwa [aak (aae _)] at this
def yh (L:List Fld) (u:List UInt8):Prop:=∃ i,ixs 260 L L.length=[i]/\(L.getD i (0,[])).2=u
instance (L:List Fld) (u:List UInt8):Decidable (yh L u) :=
 match h:ixs 260 L L.length with
 | [] => .isFalse λ ⟨i,h1,_⟩=>by rw [h] at h1;cases h1
 | [i]=>if h2:(L.getD i (0,[])).2=u then .isTrue ⟨i,h,h2⟩ else .isFalse λ ⟨k,h1,h3⟩=>by rw [h] at h1;injection h1 with h1;subst h1;exact h2 h3
 | _ :: _ :: _ => .isFalse λ ⟨i,h1,_⟩=>by rw [h] at h1;injection h1 with _ h1;cases h1
def qx (j:Jar) (u:List UInt8)(P:Pkt × Int):(Jar × Pkt) × Int :=
 if P.2≠0 then ((bT,aQ),P.2) else if P.1.h.mode≠4 then ((bT,aQ),3) else if ¬ yh P.1.plain u then ((bT,aQ),7)
 else if pv (jl P.1.secret)=true then ((dS j (jl P.1.secret),P.1),0) else ((bT,aQ),3)
def qY (j:Jar) (u b:List UInt8):(Jar × Pkt) × Int:=if bP j=true/\u.length=32 then qx j u (cT j.dn b) else ((bT,aQ),3)
end Go.Jar
namespace Go.Sec
open Go.RowKit
section
variable {P:Program} {fn:Func} {p p2 u n n2:Nat} {T T2:TypeId}
theorem bF (h:fn.results=#[.cell p T, .cell p2 T2, .tmp u]) (hT:RowT P T n) (hT2:RowT P T2 n2) (tmps:Array Value) (w:World)(g o:Nat) (cs:List Value)(hp:tmps.getD p undef = .pointer (some ⟨g,o,none⟩))
  (hR:Rd w (some ⟨g,o,none⟩) cs) (hn:cs.length=n) (g2 o2:Nat) (cs2:List Value)(hp2:tmps.getD p2 undef = .pointer (some ⟨g2,o2,none⟩)) (hR2:Rd w (some ⟨g2,o2,none⟩) cs2) (hn2:cs2.length=n2) (v:Value)(hv:tmps.getD u undef=v) :
  (results fn tmps).run P w = .ok (.tuple #[.agg cs.toArray, .agg cs2.toArray,v]) w:=by
 have hp':tmps[p]?.getD undef = .pointer (some ⟨g,o,none⟩):=by simpa using hp
 have hp2':tmps[p2]?.getD undef = .pointer (some ⟨g2,o2,none⟩):=by simpa using hp2
 subst hv;simp [results,h,hp',hp2',asAddr,eh hT w g o cs hR hn,eh hT2 w g2 o2 cs2 hR2 hn2]
end
end Go.Sec
namespace Go.Proofs.YtmdahnkcnagkjaaGreat
open Go.RowKit Go.Sec Go.Oct Go.Jar Go.Pkt BigFrame
def oc (r:(Jar × Pkt) × Int) (w:World)(e:Ending) (w':World):Prop:=∃ b1 n1 d1 b2 n2 d2 b3 n3 d3 b4 n4 d4 p1 m1 k1 p2 m2 k2,e = .returned (.tuple #[.agg #[Zy b1 n1 d1, Zy b2 n2 d2, Zy b3 n3 d3, Zy b4 n4 d4, Zz Zx r.1.1.net, Zz Zx r.1.1.sent], .agg #[Zz Zx r.1.2.h.leap, Zz Zx r.1.2.h.ver, Zz Zx r.1.2.h.mode, Zz Zx r.1.2.h.strat, Zz Zx r.1.2.h.poll, Zz Zx r.1.2.h.prec, Zz Zv (n32 r.1.2.h.rd), Zz Zv (n32 r.1.2.h.rp), Zz Zv (n32 r.1.2.h.id), Zz Zw (n64 r.1.2.h.ref), Zz Zw (n64 r.1.2.h.org), Zz Zw (n64 r.1.2.h.rcv), Zz Zw (n64 r.1.2.h.tx), Zy p1 m1 k1, Zy p2 m2 k2, .bool r.1.2.guarded], Zz Zx r.2]) /\
 Sl w' b1 n1 r.1.1.up/\n1<=d1/\Sl w' b2 n2 r.1.1.dn/\n2<=d2/\Bsc w' b3 n3 r.1.1.ck/\n3<=d3/\fU w' b3/\Sl w' b4 n4 r.1.1.last/\n4<=d4/\Ib w' p1 m1 r.1.2.plain/\m1<=k1/\Ib w' p2 m2 r.1.2.secret/\m2<=k2/\Ext w w'
theorem oc.zero (w w':World)(e:Int) (hx:Ext w w'):oc ((bT,aQ),e) w (.returned (.tuple #[.agg #[Zy none 0 0, Zy none 0 0, Zy none 0 0, Zy none 0 0, Zz Zx 0, Zz Zx 0], .agg #[Zz Zx 0, Zz Zx 0, Zz Zx 0, Zz Zx 0, Zz Zx 0, Zz Zx 0, Zz Zv 0, Zz Zv 0, Zz Zv 0, Zz Zw 0, Zz Zw 0, Zz Zw 0, Zz Zw 0, Zy none 0 0, Zy none 0 0, .bool false], Zz Zx e])) w' :=
 ⟨none,0,0,none,0,0,none,0,0,none,0,0,none,0,0,none,0,0,rfl,Sl.nil _ _,aae _,Sl.nil _ _,aae _,Bsc.nil _ _,aae _,fU.none _,Sl.nil _ _,aae _,Ib.nil _ _,aae _,Ib.nil _ _,aae _,hx⟩
end Go.Proofs.YtmdahnkcnagkjaaGreat

/- Layer 22: what the statement JarRefills asks, as plain functions. No program. -/
namespace Go.Lane
open Go.Sha
def Eo:List Nat:=((List.range 8).map λ i=>1000003*(i+1))++(List.range 8).map λ i=>7000000*(i+1)
end Go.Lane
namespace Go.Jar
open Go.Sha Go.Pkt Go.Oct Go.Aes Go.Lane
def frW (s n:Nat):List (List UInt8):=(List.range n).map λ i=>gQ (s+7000000*(i+1)) 104
def Dw (s n:Nat):List Fld:=(frW s n).map λ b=>(516,b)
theorem ry {f:Fld} (h:f.2.length=104):eP f=f:=by
 obtain ⟨a,b⟩:=f;have h:b.length=104:=h;unfold eP;simp only;rw [h,show szN 104-4-104=0 from by decide];simp
theorem Bs {u:List UInt8} (h:u.length=32):[((260:Int),u)].map eP=[(260,u)]:=by
 show [eP (260,u)]=_;unfold eP;simp only;rw [h,show szN 32-4-32=0 from by decide];simp
def hR:Hdr:=⟨0,4,4,1,6, -20,0,0,0,0,3,10,20⟩
def Dr (s n:Nat) (u:List UInt8):Pkt:=⟨hR,[(260,u)],Dw s n,false⟩
def EH (s n:Nat) (u nn:List UInt8):List UInt8:=(cD (dnW s) (Dr s n u) nn).1
def EG (s k n:Nat):Jar:=⟨upW s,dnW s,(ckW s k).tail++frW s n,ck0 s,1,1⟩
theorem ixR (u:List UInt8):ixs 260 [((260:Int),u)] [((260:Int),u)].length=[0]:=rfl
theorem idR {u v:List UInt8}:yh [((260:Int),u)] v ↔ u=v:=by
 constructor
 ·rintro ⟨i,h1,h2⟩;rw [ixR] at h1;injection h1 with h1
  subst h1;exact h2
 ·rintro rfl;exact ⟨0,ixR u,rfl⟩
end Go.Jar

/- Layers 22 and 26 as plain functions: a question of a jar, and what a server answers it. No program. -/
namespace Go.Tsrv
open Go.Oct Go.Pkt Go.Cook Go.Jar Go.Aes
theorem C7 {f:Fld} (h:f.2.length=32):eP f=f:=by
 obtain ⟨a,b⟩:=f;have h:b.length=32:=h;unfold eP;simp only;rw [h,show szN 32-4-32=0 from by decide];simp
theorem Cx {u c:List UInt8} (hu:u.length=32) (hc:c.length=104) (k:Nat):(bg u c k).map eP=bg u c k:=by
 refine (abu λ f hf=>?_).trans (List.map_id _);rcases jZ hf with h|h|h
 ·rw [h];exact C7 hu
 ·rw [h];exact ry hc
 ·rw [h];exact ry (by show (List.replicate 104 (0:UInt8)).length=104;rw [aaQ])
def iH (up:List UInt8)(t:UInt64) (u c:List UInt8)(k:Nat) (nn:List UInt8):List UInt8:=(cD up (kB t u c k) nn).1
theorem iK {up u c nn:List UInt8} (t:UInt64) {k:Nat} (hup:up.length=32) (hu:u.length=32) (hc:c.length=104) (hn:nn.length=16) (hk:k<=7) :
  cD up (kB t u c k) nn=(iH up t u c k nn,0)/\(iH up t u c k nn).length=124+108*(k+1) /\
  aC (iH up t u c k nn)=(⟨bW t,bg u c k++[(1028,aD nn (bL up (kB t u c k) nn))],[],false⟩,0)/\cT up (iH up t u c k nn)=(⟨bW t,bg u c k,[],true⟩,0):=by
 have hf:=CM hu hc t hk;rw [<- hn] at hf;have hp:=iW hup hf;have e1:iH up t u c k nn=_:=congrArg Prod.fst hp.1;have h3:=hp.2;have h4:=jE hf;have h5:=lx hup hf;have h6:=pj hup hf;have e:(kB t u c k).plain.map eP=bg u c k:=Cx hu hc k;rw [e] at h5 h6;refine ⟨?_,?_,?_,?_⟩
 ·rw [e1];exact hp.1
 ·rw [e1];simp only;rw [aah,h3,h4,hn];show 48+aL (bg u c k)+(8+aI 16+aI (16+aL []))=_;rw [CR hu hc,show aL []=0 from rfl];unfold aI;omega
 ·rw [e1];exact h5
 ·rw [e1];exact h6
theorem yr {j:Jar} {c:List UInt8} {rest:List (List UInt8)} (hv:bP j=true) (hc:j.ck=c :: rest) (hs:j.sent≠1099511627776) (t:UInt64) {u nn:List UInt8} (hu:u.length=32) (hn:nn.length=16) :
  lF j t u nn=(({ j with last:=c,ck:=rest,sent:=j.sent+1 },iH j.up t u c (7-rest.length) nn),0)/\j.up.length=32/\j.dn.length=32/\c.length=104/\rest.length<=7:=by
 have hh:=hv;unfold bP at hh;rw [aay,aay] at hh;obtain ⟨h1,h2,_⟩:=hh;have h1:jt j:=aaV h1;have hl:=h1.2.1;rw [hc,aaM] at hl;have hc4:c.length=104:=by simpa using aaE.1 h2 c (by rw [hc];exact aa5 ..)
 have ht:dc j=(({ j with last:=c,ck:=rest,sent:=j.sent+1 },c),0):=by
  unfold dc;rw [aal hv,aaf (by rw [hc];simp),aaf hs,hc];rfl
 have hp:=(iK t h1.1.1 hu hc4 hn (show 7-rest.length<=7 from Zo)).1;refine ⟨?_,h1.1.1,h1.1.2,hc4,Zo⟩;unfold lF;rw [aal ⟨hv,hu,hn⟩,ht];simp only;rw [aal trivial,hp];rfl
theorem ub {u c g:List UInt8} (hu:u.length=32) (hc:c.length=104) {k:Nat} (hk:k<=7):eA (bg u c k++[(1028,g)])=true:=by
 have hl:(bg u c k++[((1028:Int),g)]).length=3+k:=by rw [aah,fF];simp;omega
 have e:bg u c k++[((1028:Int),g)]=(260,u) :: (516,c) :: (List.replicate k ((772:Int),List.replicate 104 (0:UInt8))++[(1028,g)]):=by simp [bg]
 have hm:pH (bg u c k++[((1028:Int),g)])=List.replicate k ((772:Int),List.replicate 104 (0:UInt8)):=by
  unfold pH;rw [hl,e,show 3+k-3=k by omega];simp
 have hlast:(bg u c k++[((1028:Int),g)]).getD ((bg u c k++[((1028:Int),g)]).length-1) (0,[])=(1028,g):=by
  rw [List.getD_eq_getElem?_getD,aah,List.getElem?_append_right Zs];simp
 have a1:decide (3<=3+k/\3+k<=10)=true:=aaC Zo;have a2:isF 260 32 ((260:Int),u)=true:=by unfold isF;exact aaC ⟨rfl,hu⟩
 have a3:isF 516 104 ((516:Int),c)=true:=by unfold isF;exact aaC ⟨rfl,hc⟩
 have a5:(List.replicate k ((772:Int),List.replicate 104 (0:UInt8))).all (isF 772 104)=true:=aaE.2 λ x hx=>by
  rw [abE hx];unfold isF;exact aaC ⟨rfl,aaQ ..⟩
 unfold eA;rw [hm,hlast,hl,e,a1,a5];simp only [List.getD_cons_zero,List.getD_cons_succ];rw [a2,a3];rfl
theorem qh {up u c nn:List UInt8} (t:UInt64) {k:Nat} (hup:up.length=32) (hu:u.length=32) (hc:c.length=104) (hn:nn.length=16) (hk:k<=7):fk (iH up t u c k nn)=2:=by
 obtain ⟨_,_,h3,_⟩:=iK t hup hu hc hn hk;unfold fk;rw [h3];simp only;rw [aaf (by simp [bW]),aaf Zs,aal (ub hu hc hk)]
def xP (s:Srv) (u:List UInt8)(o:Opened) (tq r t:UInt64) (al:Bool) (N:List (List UInt8)) (k:Nat):Pkt:=⟨bG s (bW tq) r t al,[(260,u)],if al=true then iC s o N (k+1) else [],false⟩
theorem wR {s:Srv} {o:Opened} {up u c nn:List UInt8} (tq r t:UInt64) {k:Nat} (hup:up.length=32) (hu:u.length=32) (hc:c.length=104) (hn:nn.length=16) (hk:k<=7) (ho:dv s.ring c=o) (h0:o.err=0) (hu2:o.up=up) (al:Bool) (N:List (List UInt8)) :
  jx s (aC (iH up tq u c k nn)).1 (iH up tq u c k nn) r t al N=((cD o.down (xP s u o tq r t al N k) (N.getD 0 [])).1,true):=by
 obtain ⟨_,_,h3,h4⟩:=iK tq hup hu hc hn hk;have hck:lh (aC (iH up tq u c k nn)).1=c:=by rw [h3];simp [lh,bg]
 have hout:mz s (aC (iH up tq u c k nn)).1 o r t al N=xP s u o tq r t al N k:=by
  rw [h3];unfold mz xP;simp only;have e1:(bg u c k++[((1028:Int),aD nn (bL up (kB tq u c k) nn))]).take 1=[(260,u)]:=by simp [bg]
  have e2:(bg u c k++[((1028:Int),aD nn (bL up (kB tq u c k) nn))]).length-2=k+1:=by rw [aah,fF];simp;omega
  rw [e1,e2]
 unfold jx;rw [hck,ho,hu2,h4,aaf (by simp [h0]),hout]
def uf (str:Int) (tq r t:UInt64):Hdr:=⟨0,4,4,str,6, -20,0,0,0,0,tq,r,t⟩
def ot (tq r t:UInt64):Hdr:=⟨0,4,4,0,6, -20,0,0,rX,0,tq,r,t⟩
theorem wH {s:Srv} (tq r t:UInt64) (h0:0<=s.str) (h1:s.str<=255):bG s (bW tq) r t true=uf s.str tq r t:=by
 unfold bG jV uf;rw [aal rfl,aaf (not_not_intro (lK tq)),aaf (by simp [bW]),aaf Zo];rfl
theorem xZ {s:Srv} (tq r t:UInt64):bG s (bW tq) r t false=ot tq r t:=by
 unfold bG cE jV ot;rw [aaf Zs,aaf (not_not_intro (lK tq)),aaf (by simp [bW]),aaf Zo];rfl
theorem _root_.z43q65{p:Prop}(h:p:=by
 rw [List.getD_eq_getElem?_getD,List.getElem?_eq_getElem Zo,abI];exact hN _ (aaN _)):p:=h
theorem zz {s:Srv} {o:Opened} {N:List (List UInt8)} {n:Nat} (hr:aR s.ring=true) (ha:0<=o.algo/\o.algo<=65535) (hu:o.up.length=32) (hdn:o.down.length=32) (hN:∀ x∈N,x.length=16) (hl:n+1<=N.length) {f:Fld} (h:f∈iC s o N n):f.1=516/\f.2.length=104:=by
 unfold iC at h;obtain ⟨i,hi,rfl⟩:=aa6.1 h;have hi:=aaW.1 hi;have hg:(N.getD (1+i) []).length=16:=by
  exact z43q65
 obtain ⟨v1,_,v3,_⟩:=bm.1 hr;obtain ⟨k0,k1,k2⟩:=v1 _ (oF v3);refine ⟨rfl,?_⟩;show (bU s.ring o.algo o.up o.down (N.getD (1+i) [])).1.length=104;unfold bU;rw [aaf (by rw [hr];simp),aaf Zo,aaf Zo,aaf Zo];exact (fQ (m:=hd s.ring) (algo:=o.algo) k0 k1 k2 hg hu hdn).1
theorem rf {L:List Fld} (h:∀ f∈L,f.2.length=104):aL L=108*L.length:=by
 induction L with
 | nil=>rfl
 | cons f L ih =>
  have h1:=h f (aa5 ..);have h2:=ih λ g hg=>h g (abA _ hg);show szN f.2.length+aL L=_;rw [h1,h2,aaM,show szN 104=108 from by decide];omega
theorem sX (s:Srv) (o:Opened) (N:List (List UInt8)) (k:Nat):(iC s o N k).length=k:=by unfold iC;simp
theorem CU {H:Hdr} {u:List UInt8} {S:List Fld} (hH:okH H) (hu:u.length=32) (hS:∀ f∈S,f.1=516/\f.2.length=104) (hl:S.length<=8):Fits ⟨H,[(260,u)],S,false⟩ 16 where
 h:=hH
 f1:=λ f hf=>by
  rw [aaB.1 hf];exact ⟨⟨Zs,Zs⟩,by show szN u.length<=1232;rw [hu];decide⟩
 f2:=λ f hf=>by
  obtain ⟨h1,h2⟩:=hS f hf;rw [h1,h2];exact ⟨⟨Zs,Zs⟩,Zd⟩
 a:=λ f hf=>by rw [aaB.1 hf];simp
 n1:=by show 1<24;omega
 n2:=by show S.length<=24;omega
 n0:=Zo
 t:=by
  show 48+aL [(260,u)]+(8+aI 16+aI (16+aL S))<=1280;rw [rf λ f hf=>(hS f hf).2,show aL [((260:Int),u)]=szN u.length by simp [aL],hu,show szN 32=36 from by decide];unfold aI;omega
 t2:=by show aL S<=1232;rw [rf λ f hf=>(hS f hf).2];omega
theorem DV {ky u nn:List UInt8} {H:Hdr} {S:List Fld} (hk:ky.length=32) (hH:okH H) (hu:u.length=32) (hn:nn.length=16) (hS:∀ f∈S,f.1=516/\f.2.length=104) (hl:S.length<=8) :
  ∃ b,cD ky ⟨H,[(260,u)],S,false⟩ nn=(b,0)/\b.length=124+108*S.length/\cT ky b=(⟨H,[(260,u)],S,true⟩,0)/\aC b=(⟨H,[(260,u),(1028,aD nn (bL ky ⟨H,[(260,u)],S,false⟩ nn))],[],false⟩,0):=by
 have hf:=CU hH hu hS hl;obtain ⟨p,hpp⟩:∃ p:Pkt,(⟨H,[(260,u)],S,false⟩:Pkt)=p:=⟨_,rfl⟩;have f1:p.h=H:=by rw [<- hpp]
 have f2:p.plain=[(260,u)]:=by rw [<- hpp]
 have f3:p.secret=S:=by rw [<- hpp]
 rw [hpp] at hf ⊢;clear hpp;rw [<- hn] at hf;have hp:=iW hk hf;have h3:=hp.2;have h4:=jE hf;have h5:=lx hk hf;have h6:=pj hk hf;have tp:aL [((260:Int),u)]=36:=by rw [show aL [((260:Int),u)]=szN u.length by simp [aL],hu];decide
 have a1:[((260:Int),u)].map eP=[(260,u)]:=Bs hu;have a2:S.map eP=S:=(abu λ f hf=>ry (hS f hf).2).trans (List.map_id _);have a3:aL S=108*S.length:=rf λ f hf=>(hS f hf).2;refine ⟨_,hp.1,?_,?_,?_⟩
 ·rw [aah,h3,h4,f2,f3,tp,hn,a3];unfold aI;omega
 ·rw [f1,f2,f3,a1,a2] at h6;rw [f1,f2];exact h6
 ·rw [f1,f2,a1] at h5;rw [f1,f2];exact h5
theorem zV {S:List Fld} (h:∀ f∈S,f.1=516):jl S=S.map (·.2):=by
 unfold jl;rw [List.filter_eq_self.2 λ f hf=>by simpa using h f hf]
theorem Bo {j:Jar} {b u:List UInt8} {H:Hdr} {S:List Fld} (hj:bP j=true) (hu:u.length=32) (hm:H.mode=4) (hb:cT j.dn b=(⟨H,[(260,u)],S,true⟩,0)) (hS:∀ f∈S,f.1=516/\f.2.length=104) :
  qY j u b=((dS j (S.map (·.2)),⟨H,[(260,u)],S,true⟩),0):=by
 unfold qY;rw [aal ⟨hj,hu⟩,hb];unfold qx;rw [aaf Zs,aaf (by simp [hm]),aaf (not_not_intro (idR.2 rfl))];simp only;rw [zV λ f hf=>(hS f hf).1,aal];unfold pv;exact aaE.2 λ x hx=>by
  obtain ⟨f,hf,rfl⟩:=aa6.1 hx;simpa using (hS f hf).2
end Go.Tsrv

/- Layer 26: plain questions at one instant. Plain functions. -/
namespace Go.Tsrv
open Go.Oct Go.Pkt Go.Cook Go.Aes
def pQ (t:UInt64):List UInt8:=cJ (bW t)
theorem sB (t:UInt64):(pQ t).length=48:=cH _
theorem vx {str:Int} (h0:0<=str) (h1:str<=255) (tq r t:UInt64):okH (uf str tq r t):=by
 unfold okH uf;simp only;omega
theorem sZ (tq r t:UInt64):okH (ot tq r t):=by
 unfold okH ot;simp only;omega
def jX (bu i:Nat):Int:=if i=0 then 0 else 50+1000*(min i bu:Nat)
end Go.Tsrv

/- Layer 26: no answer is longer than its question. Plain functions. -/
namespace Go.Tsrv
open Go.Oct Go.Pkt Go.Cook Go.Aes
theorem r9 (p:Pkt):(cQ p).1.length<=48+aL p.plain:=by
 unfold cQ;by_cases h:(aM p.h p.plain).2=0
 ·rw [aaf (by simpa using h)];split
  ·simp
  ·unfold aM at h ⊢;by_cases h1:(cC p.h).2=0
   ·rw [aaf (by simpa using h1)] at h ⊢;by_cases h2:(aO p.plain).2=0
    ·rw [aaf (by simpa using h2)];obtain ⟨_,_,_,e⟩:=lU h2;rw [e,aah,bf];have:(cC p.h).1.length<=48:=by
      unfold cC;split
      ·rw [cH];omega
      ·simp
     omega
    ·rw [aal h2] at h;exact absurd h h2
   ·rw [aal h1] at h;exact absurd h h1
 ·rw [aal h];simp
theorem y5 {h:Hdr} {L:List Fld}:(aM h L).1.length<=48+aL L:=by
 unfold aM;split
 ·simp
 ·split
  ·simp
  ·rename_i h1 h2;obtain ⟨_,_,_,e⟩:=lU (L:=L) (by simpa using h2);rw [e,aah,bf];have:(cC h).1.length<=48:=by
    unfold cC;split
    ·rw [cH];omega
    ·simp
   omega
theorem yq (ky:List UInt8)(A:List (List UInt8)) (p:List UInt8):(bI ky A p).1.length<=16+p.length:=by
 unfold bI;split
 ·simp
 ·rename_i h;have h:(cG ky A p).2=0:=by simpa using h
  have:(cG ky A p).1.length<=16:=by
   unfold cG;split
   ·simp
   ·split
    ·simp
    ·rw [dr];omega
  rw [aah,cO];omega
theorem sA {a b:Nat} (h:a<=b):szN a<=szN b:=by unfold szN;omega
theorem vp (L:List Fld):(aO L).1.length<=aL L:=by
 unfold aO;split
 ·simp
 ·split
  ·simp
  ·split
   ·simp
   ·rw [bf];omega
theorem zA (ky:List UInt8)(p:Pkt) {nn:List UInt8} (hn:nn.length=16):(cD ky p nn).1.length<=88+aL p.plain+aI (aL p.secret):=by
 unfold cD;split
 ·simp
 ·split
  ·simp
  ·split
   ·simp
   ·split
    ·simp
    ·split
     ·simp
     ·split
      ·simp
      ·split
       ·simp
       ·rw [aah];have h1:=y5 (h:=p.h) (L:=p.plain);have h2:=vp [(1028,aD nn (bI ky [(aM p.h p.plain).1,nn] (aO p.secret).1).1)];have h3:=yq ky [(aM p.h p.plain).1,nn] (aO p.secret).1;have h4:=vp p.secret;have h5:=eI nn (bI ky [(aM p.h p.plain).1,nn] (aO p.secret).1).1;have h6:aL [((1028:Int),aD nn (bI ky [(aM p.h p.plain).1,nn] (aO p.secret).1).1)]=szN (aD nn (bI ky [(aM p.h p.plain).1,nn] (aO p.secret).1).1).length:=by simp [aL]
        rw [h6,h5,hn] at h2;generalize (bI ky [(aM p.h p.plain).1,nn] (aO p.secret).1).1.length=x at *;generalize (aO p.secret).1.length=y at *;generalize (aO [((1028:Int),aD nn (bI ky [(aM p.h p.plain).1,nn] (aO p.secret).1).1)]).1.length=z at *;generalize aL p.secret=v at *;unfold szN aI at h2;unfold aI;omega
theorem zg (L M:List Fld):aL (L++M)=aL L+aL M:=by simp [aL]
theorem jn {d n s:List UInt8} (h:db d=some (n,s)):16<=n.length/\d.length=4+aI n.length+aI s.length:=by
 unfold db at h;simp only at h;split at h
 ·rename_i hc;obtain ⟨h1,h2,h3,h4⟩:=hc;injection h with h
  injection h with e1 e2
  rw [<- h4];have hl:=eI ((d.drop 4).take (bR (d.take 2))) ((d.drop (4+aI (bR (d.take 2)))).take (bR ((d.drop 2).take 2)));rw [e1,e2] at hl;have e3:n.length=bR (d.take 2):=by
   rw [<- e1,aaF,aaR];unfold aI at h3;omega
  rw [e1,e2];exact ⟨Zo,hl⟩
 ·cases h
theorem ur {ky b:List UInt8} (h:(cT ky b).2=0) (hg:∀ i,i+1<(aC b).1.plain.length->((aC b).1.plain.getD i (0,[])).1≠1028):∃ i,i+1=(aC b).1.plain.length/\36<=((aC b).1.plain.getD i (0,[])).2.length:=by
 unfold cT at h;split at h
 ·cases h
 ·split at h
  ·rename_i h1;exact absurd h h1
  ·split at h
   ·cases h
   ·rename_i i hi;split at h
    ·cases h
    ·rename_i hi2;have hi2:i+1=(aC b).1.plain.length:=by simpa using hi2
     refine ⟨i,hi2,?_⟩;split at h
     ·cases h
     ·rename_i n s hp;obtain ⟨p1,p2⟩:=jn hp;split at h
      ·exact absurd h Zd
      ·rename_i he;have he:(bH ky [b.take (b.length-((aC b).1.plain.getD i (0,[])).2.length-4),n] s).2=0:=by simpa using he
       have hs:16<=s.length:=by
        unfold bH at he;split at he
        ·rename_i hc;exact absurd he hc
        ·split at he
         ·cases he
         ·split at he
          ·cases he
          ·omega
       rw [p2];unfold aI;omega
theorem vS {L:List Fld} (h:eA L=true):3<=L.length/\aL (L.take 1)=36/\aL L=36+108*(L.length-2)+szN (L.getD (L.length-1) (0,[])).2.length:=by
 unfold eA at h;rw [aay,aay,aay,aay,decide_eq_true_iff] at h;obtain ⟨⟨h3,h10⟩,h0,h1,_,hm⟩:=h;obtain ⟨f0,L,rfl⟩:∃ f M,L=f :: M:=by
  cases L with
  | nil=>simp at h3
  | cons f M=>exact ⟨f,M,rfl⟩
 obtain ⟨f1,L,rfl⟩:∃ f M,L=f :: M:=by
  cases L with
  | nil=>simp at h3
  | cons f M=>exact ⟨f,M,rfl⟩
 rw [aaM,aaM] at h3 h10;have hne:L≠[]:=by intro e;rw [e] at h3;simp at h3
 obtain ⟨M,l,rfl⟩:∃ M l,L=M++[l]:=⟨L.dropLast,L.getLast hne,(List.dropLast_concat_getLast hne).symm⟩;have hml:pH (f0 :: f1 :: (M++[l]))=M:=by
  unfold pH;simp
 rw [hml] at hm;have z0:f0.2.length=32:=by
  unfold isF at h0;simp at h0;exact h0.2
 have z1:f1.2.length=104:=by
  unfold isF at h1;simp at h1;exact h1.2
 have zm:aL M=108*M.length:=rf λ f hf=>by
  have:=aaE.1 hm f hf;unfold isF at this;simp at this;exact this.2
 have hlast:(f0 :: f1 :: (M++[l])).getD ((f0 :: f1 :: (M++[l])).length-1) (0,[])=l:=by
  rw [List.getD_eq_getElem?_getD];simp
 refine ⟨Zs,?_,?_⟩
 ·show aL [f0]=36;rw [fp,z0];rfl
 ·rw [hlast,fp,fp,zg,z0,z1,zm];show szN 32+(szN 104+(108*M.length+(szN l.2.length+0)))=_;rw [show szN 32=36 from Zd,show szN 104=108 from by decide];simp;omega
theorem tD {L:List Fld} (h:eA L=true):∀ i,i+1<L.length->(L.getD i (0,[])).1≠1028:=by
 intro i hi;unfold eA at h;rw [aay,aay,aay,aay,decide_eq_true_iff] at h;obtain ⟨⟨h3,h10⟩,h0,h1,_,hm⟩:=h;unfold isF at h0 h1;simp only [aa3] at h0 h1
 match i,hi with
 | 0,_=>rw [h0.1];decide
 | 1,_=>rw [h1.1];decide
 | i+2,hi =>
  have hmem:L.getD (i+2) (0,[])∈pH L:=by
   unfold pH;rw [List.getD_eq_getElem?_getD,List.getElem?_eq_getElem Zo,abI];refine aby.2 ⟨i,by rw [aaR];omega,?_⟩;rw [List.getElem_drop]
   congr 1
   omega
  have:=aaE.1 hm _ hmem;unfold isF at this;simp only [aa3] at this;rw [this.1]
  decide
theorem zO (s:Srv) (o:Opened) (N:List (List UInt8)) (n:Nat) (hm:∀ f∈iC s o N n,f.2.length<=104):aL (iC s o N n)<=108*n:=by
 have key:∀ L:List Fld,(∀ f∈L,f.2.length<=104)->aL L<=108*L.length:=by
  intro L
  induction L with
  | nil=>intro _;simp [aL]
  | cons f L ih =>
   intro h;have h1:=sA (h f (aa5 ..));have h2:=ih λ g hg=>h g (abA _ hg);rw [fp,aaM];have h3:szN 104=108:=Zd;omega
 have:=key _ hm
 rwa [sX] at this
theorem zB (r:Ring) (algo:Int) (up down nonce:List UInt8):(bU r algo up down nonce).1.length<=104:=by
 unfold bU;split
 ·simp
 ·rename_i hv;split
  ·simp
  ·rename_i ha;split
   ·simp
   ·rename_i hp;split
    ·simp
    ·rename_i hn;have hv:aR r=true:=by simpa using hv
     obtain ⟨h1,_,h3,_⟩:=bm.1 hv;obtain ⟨g1,g2,g3⟩:=h1 _ (oF h3);exact Nat.le_of_eq (fQ (m:=hd r) (algo:=algo) g1 g2 g3 Zo Zo Zo).1
theorem AB {s:Srv} {q:List UInt8} (h:fk q=2) (r t:UInt64) (al:Bool) {N:List (List UInt8)} (hN:∀ x∈N,x.length=16) (hN9:9<=N.length):(jx s (aC q).1 q r t al N).1.length<=q.length:=by
 have hk:(aC q).2=0/\eA (aC q).1.plain=true:=by
  unfold fk at h;split at h
  ·exact absurd h Zd
  ·rename_i h1;split at h
   ·exact absurd h Zd
   ·split at h
    ·rename_i h2;refine ⟨?_,h2⟩;by_cases z:(aC q).2=0
     ·exact z
     ·exact absurd (.inl z) h1
    ·exact absurd h Zd
 obtain ⟨hr,hs⟩:=hk;obtain ⟨_,_,h3,_,_⟩:=gC hr;obtain ⟨l3,t1,t2⟩:=vS hs;have hl:=tD hs;have hN0:(N.getD 0 []).length=16:=by
  exact z43q65
 unfold jx;split
 ·have:=r9 (mQ (aC q).1 r t);show (cQ (mQ (aC q).1 r t)).1.length<=_;have e:(mQ (aC q).1 r t).plain=(aC q).1.plain.take 1:=rfl;rw [e,t1] at this;omega
 ·rename_i hc;have hc:=not_or.1 hc;obtain ⟨i,hi,hg⟩:=ur (ky:=(dv s.ring (lh (aC q).1)).up) (b:=q) (by simpa using hc.2) hl;show (cD _ (mz s (aC q).1 _ r t al N) _).1.length<=_;have h5:=zA (dv s.ring (lh (aC q).1)).down (mz s (aC q).1 (dv s.ring (lh (aC q).1)) r t al N) hN0;have e:(mz s (aC q).1 (dv s.ring (lh (aC q).1)) r t al N).plain=(aC q).1.plain.take 1:=rfl;have h6:aL (mz s (aC q).1 (dv s.ring (lh (aC q).1)) r t al N).secret<=108*((aC q).1.plain.length-2):=by
   show aL (if al=true then iC s (dv s.ring (lh (aC q).1)) N ((aC q).1.plain.length-2) else [])<=_;split
   ·refine zO _ _ _ _ λ f hf=>?_;unfold iC at hf;obtain ⟨k,_,rfl⟩:=aa6.1 hf;exact zB _ _ _ _ _
   ·show 0<=_;omega
  rw [e,t1] at h5;have h7:szN 36<=szN ((aC q).1.plain.getD ((aC q).1.plain.length-1) (0,[])).2.length:=sA (by rw [show (aC q).1.plain.length-1=i by omega];exact hg);rw [show szN 36=40 from by decide] at h7;generalize aL (mz s (aC q).1 (dv s.ring (lh (aC q).1)) r t al N).secret=v at *;unfold aI at h5;omega
theorem zI (s:Srv) (paid paid2:Int) (al:Bool) (q:List UInt8)(r t:UInt64) {N:List (List UInt8)} (hN:∀ x∈N,x.length=16) (hN9:9<=N.length):(wC s paid paid2 al q r t N).1.length<=q.length:=by
 unfold wC;split
 ·rename_i h;split
  ·have h0:(aC q).2=0:=by
    unfold fk at h;split at h
    ·exact absurd h Zd
    ·rename_i h1;by_cases z:(aC q).2=0
     ·exact z
     ·exact absurd (.inl z) h1
   have h1:=(gC h0).1;have h2:=r9 ⟨bG s (aC q).1.h r t al,[],[],false⟩;have e:aL ([]:List Fld)=0:=rfl;simp only at h2 ⊢;rw [e] at h2;omega
  ·simp
 ·split
  ·rename_i h;exact AB h r t al hN hN9
  ·simp
end Go.Tsrv

/- Layer 26: what a server answers the question of a jar, and what the jar makes of it. Plain functions. -/
namespace Go.Tsrv
open Go.Oct Go.Pkt Go.Cook Go.Jar Go.Aes
def uZ (s:Srv) (tq r t:UInt64) (al:Bool):Hdr:=if al=true then uf s.str tq r t else ot tq r t
def jI (s:Srv) (o:Opened) (N:List (List UInt8)) (k:Nat) (al:Bool):List Fld:=if al=true then iC s o N (k+1) else []
theorem zF {s:Srv} (h0:0<=s.str) (h1:s.str<=255) (tq r t:UInt64) (al:Bool):okH (uZ s tq r t al)/\(uZ s tq r t al).mode=4/\bG s (bW tq) r t al=uZ s tq r t al:=by
 cases al
 ·exact ⟨sZ _ _ _,rfl,xZ _ _ _⟩
 ·exact ⟨vx h0 h1 _ _ _,rfl,wH _ _ _ h0 h1⟩
theorem xD {s:Srv} (h:cZ s=0):aR s.ring=true/\1<=s.str/\s.str<=255:=by
 unfold cZ at h;split at h
 ·cases h
 ·rename_i hv;split at h
  ·cases h
  ·rename_i h2;exact ⟨by simpa using hv,Zo,Zo⟩
theorem rH {s:Srv} {paid now p2:Int} {al:Bool} (hs:cZ s=0) (hal:ef paid s.ev s.bu now=((p2,al),0)) (q:List UInt8)(r t:UInt64) {N:List (List UInt8)} (hN:∀ x∈N,x.length=16) (h9:9<=N.length) :
  jN s paid now q r t N=(wC s paid p2 al q r t N,0):=by
 unfold jN;rw [aaf (by rw [hs];simp),hal,aaf Zs,aaf ?_,aaf Zo];rw [aaE.2 λ x hx=>by simpa using hN x hx];simp
theorem Ab {s:Srv} {paid now p2:Int} {al:Bool} {o:Opened} {up u c nn:List UInt8} (tq r t:UInt64) {k:Nat} (hup:up.length=32) (hu:u.length=32) (hc:c.length=104) (hn:nn.length=16) (hk:k<=7) (hs:cZ s=0) (hal:ef paid s.ev s.bu now=((p2,al),0))
  {N:List (List UInt8)} (hN:∀ x∈N,x.length=16) (h9:9<=N.length) (ho:dv s.ring c=o) (h0:o.err=0) (huo:o.up=up) (hdo:o.down.length=32) (ha:0<=o.algo/\o.algo<=65535) :
  ∃ b,jN s paid now (iH up tq u c k nn) r t N=((b,p2),0)/\b.length=124+108*(jI s o N k al).length /\
   (∀ j:Jar,bP j=true->j.dn=o.down->qY j u b=((dS j ((jI s o N k al).map (·.2)),⟨uZ s tq r t al,[(260,u)],jI s o N k al,true⟩),0)) /\
   (jI s o N k al).length=(if al=true then k+1 else 0)/\(∀ f∈jI s o N k al,f.1=516/\f.2.length=104):=by
 obtain ⟨hv,s0,s1⟩:=xD hs;obtain ⟨g1,g2,g3⟩:=zF (s:=s) Zo s1 tq r t al;have hS:∀ f∈jI s o N k al,f.1=516/\f.2.length=104:=λ f hf=>by
  unfold jI at hf;split at hf
  ·exact zz hv ha (by rw [huo];exact hup) hdo hN Zo hf
  ·cases hf
 have hl:(jI s o N k al).length=(if al=true then k+1 else 0):=by
  unfold jI;split
  ·exact sX _ _ _ _
  ·rfl
 have hl8:(jI s o N k al).length<=8:=by
  rw [hl];split <;> omega
 have hN0:(N.getD 0 []).length=16:=by
  exact z43q65
 obtain ⟨b,e1,e2,e3,e4⟩:=DV (nn:=N.getD 0 []) hdo g1 hu hN0 hS hl8;refine ⟨b,?_,e2,λ j hj hd=>?_,hl,hS⟩
 ·rw [rH hs hal _ _ _ hN h9];unfold wC;rw [qh tq hup hu hc hn hk,aaf Zd,aal rfl,wR tq r t hup hu hc hn hk ho h0 huo al N];have ho:xP s u o tq r t al N k=⟨uZ s tq r t al,[(260,u)],jI s o N k al,false⟩:=by
   unfold xP;rw [g3];rfl
  rw [ho];simp only;rw [e1,aal trivial]
 ·exact Bo hj hu g2 (by rw [hd];exact e3) hS
end Go.Tsrv

/- The walks of layer 22 of the document: Take. -/
namespace Go.Proofs.YtmdahnkcnagkjaaGreat
open Go.RowKit Go.Sec Go.Oct Go.Jar BigFrame
theorem _root_.z43q80{p:Prop}(h:p:=by
 have:=q;unfold bP at this;rw [aay] at this;exact aaV this.1):p:=h
theorem uK (a1 a2 a3 a4:Option Addr)(n1 c1 n2 c2 n3 c3 n4 c4:Nat) (j:Jar) (w:World)(h1:Sl w a1 n1 j.up) (m1:n1<=1000000) (h2:Sl w a2 n2 j.dn) (m2:n2<=1000000) (h3:Bsc w a3 n3 j.ck) (hc3:n3<=c3) (hn3:n3<=100000) (hb3:∀ x∈j.ck,x.length<=1000000) (h4:Sl w a4 n4 j.last) (m4:n4<=1000000) (hs0:0<=j.sent\/bP j=false) :
  Calls Tryz.prog 100 #[.agg #[Zy a1 n1 c1, Zy a2 n2 c2, Zy a3 n3 c3, Zy a4 n4 c4, Zz Zx j.net, Zz Zx j.sent]] w (qk (dc j) w):=by
 have hl3:=h3.len;have hv:=λ W H1 H2 H3 H4=>ig a1 a2 a3 a4 n1 c1 n2 c2 n3 c3 n4 c4 j W H1 H2 H3 hc3 Zo H4;have hcl:=λ W H1 H2 H3 H4=>nY a1 a2 a3 a4 n1 c1 n2 c2 n3 c3 n4 c4 j W H1 m1 H2 m2 H3 hn3 hb3 H4 m4;obtain ⟨r,hr⟩:∃ r,dc j=r:=⟨_,rfl⟩;rw [hr];replace hr:=Lib.hid hr;have hl3:=h3.len
 go_enter Tryz.func100,Tryz.ntmps100
 go_wp2_with fail;refine vk ?_;intro W hW;have hE:Ext w W:=by rw [hW];exact eX
 have hB:Blk W w.heap.size 57 [Zy a1 n1 c1, Zy a2 n2 c2, Zy a3 n3 c3, Zy a4 n4 c4, Zz Zx j.net, Zz Zx j.sent]:=by rw [hW];exact bK
 have hR:Blk W (w.heap.size+1) 57 [Zy none 0 0, Zy none 0 0, Zy none 0 0, Zy none 0 0, Zz Zx 0, Zz Zx 0]:=by rw [hW];exact bK
 clear hW;(with_reducible refine (hv _ (h1.ext hE) (h2.ext hE) (h3.ext hE) (h4.ext hE)).mono ?_);rintro e w0 ⟨rfl,hx0⟩;have hE:=hE.trans hx0;have hB:=hB.extB hx0;have hR:=hR.extB hx0;clear hx0 hv;haveI:=hB.blt;haveI:=hR.blt;have f1:=hB.cell? 2 rfl;have f5:=hB.cell? 5 rfl;cases q:bP j
 ·have er:=Lib.hid (show r=((bT,[]),3) by rw [<- hr.out];unfold dc;rw [q];rfl);clear hs0 hr
  go_wp2_with (first
   | (refine aa RJ6 rfl _ _ rfl (w.heap.size+1) 0 rfl _ rfl 57 _ hR rfl Zs oC ?_;intro V hV hMV)
   | fail)
  refine aab (aG Tryz.results100 RJ6 _ _ (w.heap.size+1) 0 ([Zy none 0 0, Zy none 0 0, Zy none 0 0, Zy none 0 0, Zz Zx 0, Zz Zx 0]) rfl hV.rd rfl (Zy none 0 0) (Zz Zx 3) rfl rfl) rfl ?_;rw [er.out];exact qk.zero _ _ _ (Below.trans hE (hMV.below Zo hE.size))
 ·have hhd:jt j:=by
   exact z43q80
  obtain ⟨-, -, -, -, -,hsn0,hsn1⟩:=hhd;by_cases q0:n3=0
  ·have er:=Lib.hid (show r=((bT,[]),10) by rw [<- hr.out];unfold dc;rw [q,aal rfl,aal Zo]);have q0i:((n3:Int) == 0)=true:=by rw [abd];omega
   clear hs0 hr
   go_wp2_with (first
    | (refine aa RJ6 rfl _ _ rfl (w.heap.size+1) 0 rfl _ rfl 57 _ hR rfl Zs oC ?_;intro V hV hMV)
    | fail)
   refine aab (aG Tryz.results100 RJ6 _ _ (w.heap.size+1) 0 ([Zy none 0 0, Zy none 0 0, Zy none 0 0, Zy none 0 0, Zz Zx 0, Zz Zx 0]) rfl hV.rd rfl (Zy none 0 0) (Zz Zx 10) rfl rfl) rfl ?_;rw [er.out];exact qk.zero _ _ _ (Below.trans hE (hMV.below Zo hE.size))
  ·have q0i:((n3:Int) == 0)=false:=by rw [aaz];omega
   by_cases qs:j.sent=1099511627776
   ·have er:=Lib.hid (show r=((bT,[]),7) by rw [<- hr.out];unfold dc;rw [q,aal rfl,aaf Zo,aal qs]);clear hs0 q0 hr
    go_wp2_with (first
     | (refine aa RJ6 rfl _ _ rfl (w.heap.size+1) 0 rfl _ rfl 57 _ hR rfl Zs oC ?_;intro V hV hMV)
     | fail)
    refine aab (aG Tryz.results100 RJ6 _ _ (w.heap.size+1) 0 ([Zy none 0 0, Zy none 0 0, Zy none 0 0, Zy none 0 0, Zz Zx 0, Zz Zx 0]) rfl hV.rd rfl (Zy none 0 0) (Zz Zx 7) rfl rfl) rfl ?_;rw [er.out];exact qk.zero _ _ _ (Below.trans hE (hMV.below Zo hE.size))
   ·have er:=Lib.hid (show r=(({ j with last:=j.ck.headD [],ck:=j.ck.tail,sent:=j.sent+1 },j.ck.headD []),0) by rw [<- hr.out];unfold dc;rw [q,aal rfl,aaf Zo,aaf qs]);have qsi:(j.sent == 1099511627776)=false:=by rw [aaz];exact qs
    clear hs0 q0 hr
    go_wp2_with (first
     | (refine af RJ6 rfl _ rfl w.heap.size 0 rfl _ hB.rd rfl ?_)
     | fail)
    (with_reducible refine (hcl _ (h1.ext hE) (h2.ext hE) (h3.ext hE) (h4.ext hE)).mono ?_);rintro e w1 ⟨b1,d1,b2,d2,b3,d3,b4,d4,rfl,o1,o2,⟨B,hB0,hBs,o3⟩,o4,hx1⟩;have hR:=hR.extB hx1;have hE0:=hE;have hE:=hE.trans hx1;have hlt:=hR.lt;clear hcl hx1 hB f1 f5
    go_wp2_with (first
     | (refine ag RJ6 rfl rfl _ _ rfl rfl rfl rfl (by simp [Act.put]) _ rfl Zs rfl oC ?_;intro x hz _)
     | fail)
    have hxx:Ext w1 (w1.ext x):=Ext.of_ext _ _;have hR:=hR.extB hxx;have hE:=hE.trans hxx;have o1:=o1.ext hxx;have o2:=o2.ext hxx;have o3:=o3.ext hxx;have o4:=o4.ext hxx;have o3c:=o3.le;obtain ⟨g5,hg5⟩:∃ g,g=w1.heap.size:=⟨_,rfl⟩;rw [<- hg5] at hz hlt ⊢;clear hxx hg5;generalize w1.ext x=W1 at *;obtain ⟨y,L,hyL⟩:∃ y L,j.ck=y :: L:=by
     cases hj:j.ck with
     | nil=>rw [hj] at hl3;exact absurd hl3.symm (by simpa using λ h=>by simp [h] at q0i)
     | cons y L=>exact ⟨y,L,rfl⟩
    rw [hyL] at o3 hl3;have hb3w:∀ b o,b3=some ⟨b,o,none⟩->w.heap.size<=b:=λ b o h=>by
     have hb:=o3.base h;have:=hE0.size;omega
    obtain ⟨b0,o0,a',n',c',rfl,hb0,hcell,hc',hS⟩:=o3.bsc.at 0 (by rw [aaM] at hl3;omega);have hb0w:w.heap.size<=b0:=hb3w _ _ rfl;clear hb3w hE0;haveI:=hz.blt;haveI:=hb0;have f2:=hz.cell? 2 rfl;have f3:=hz.cell? 3 rfl;have f5:=hz.cell? 5 rfl;have z5:=hz.free 5;have z2:=hz.free 2;have z3:=hz.free 3;have n0:0<n3:=by rw [aaM] at hl3;omega
    have n0i:(0:Int)<(n3:Int):=Zo;have n1i:(1:Int)<=(n3:Int):=Zo;have n1d:(1:Int)<=(d3:Int):=Zo;have hcell0:W1.cell? ⟨b0,o0,none⟩=some (Zy a' n' c'):=by simpa using hcell
    have hsi:j.sent+1<=1099511627776:=Zo;have hyl:y.length<=1000000:=hb3 y (by rw [hyL];exact aa5 ..);have hS:Sl W1 a' n' y:=hS;have hyn:=hS.len;have hny:n'<=1000000:=Zo;replace hyn:=Lib.hid hyn;have erf:=er.out;rw [hyL] at erf;replace er:=Lib.hid erf;by_cases hd:d3=1
    ·subst hd;obtain rfl:n3=1:=Zo;simp only [Act.put]
     go_region
     all_goals
      go_wp2_with fail;refine df ?_;intro V hV;have hM:Mut g5 W1 V:=by rw [hV];exact ((((Mut.refl _ _).setCell 3 _).setCell 2 _).setCell 5 _).drew
      have hzV:Blk V g5 57 [Zy b1 n1 d1, Zy b2 n2 d2, Zy (some ⟨b0,o0,none⟩) 0 0, Zy a' n' c', Zz Zx j.net, Zz Zx (j.sent+1)]:=by
       rw [hV];exact (((hz.set 3 (Zy a' n' c')).set 2 (Zy (some ⟨b0,o0,none⟩) 0 0)).set 5 (Zz Zx (j.sent+1))).extB (Ext.drew (Ext.refl _))
      clear hV;have hRV:=Blk.turn hM hR Zo;have o1:=o1.mutT hz Zd hM;have o2:=o2.mutT hz Zd hM;have o3:=o3.mut hz Zd Zs hM;have hS:=hS.mut hz Zs hM;have hEV:Ext w V:=Below.trans hE (hM.below (by have:=hE.size;omega) hE.size);clear hM hR hE hz f2 f3 f5 z5 z2 z3 hcell hcell0 o4;haveI:=hzV.blt;have f3:=hzV.cell? 3 rfl;refine ae 5 [[],[],[1],[1,2],[1,2,3],[0,1,2,3,4],[0,1,2,3,4,5],[0,1,2,3,4,5,6]] Zk Zk Zk Zk ?_;simp only [q8q,q9q,q10q,q11q,q12q,q13q];(refine ay RJ6 _ rfl (λ _=>rfl) g5 0 (λ _=>by simp [go_sem]) _ hzV.rd rfl ?_);(repeat (apply aj;(case h=>(intro us w' hx hf;obtain ⟨x,rfl⟩:=hx.out;refine ⟨rfl,?_⟩;simp [go_sem,execOp, *];(try simp (disch:=omega) only [q17q,q18q,q19q]);rfl));(try simp only [Act.put,q0q,q1q,q2q])));(refine ao (λ p => .slice (p 0).1 1 1) (λ p w''=>Bss w'' (p 0).1 1 ([y])) (λ p w w' h hx=>h.ext hx) (λ us w' hx hf=>⟨rfl,?_⟩) ?_;(unfold gives;simp [go_sem,execOp];exact ⟨λ _=>(some ⟨w'.heap.size,0,none⟩,0),rfl,Ext.of_alloc _ _,gR (hS.ext hx) _⟩));(refine ao (λ p => .slice (p 0).1 n' (p 0).2) (λ p w''=>Own w'' 0 (p 0).1 n' (p 0).2 y) (λ p w w' h hx=>h.ext hx) (λ us w' hx hf=>⟨rfl,?_⟩) ?_;(unfold gives;simp [go_sem,execOp];exact aA (aam _) (dQ _ n' y hyn.out _ (by exact (hf _ (aad _ (aaa _)) rfl)) hny)));(refine aB ?_;intro us w' hx hf;obtain ⟨x,rfl⟩:=hx.out;(try simp only [Act.put,q0q,q1q,q2q,ai]);(try simp only [q3q,q4q,aar,aac,aan,q5q,q6q,q7q,aat,aau,aav] at hf);(try simp only [Nat.reduceAdd,aag] at hf ⊢));obtain ⟨-,hf⟩:=hf;obtain ⟨a9,ha9⟩:∃ a,(us 4 0).1=a:=⟨_,rfl⟩;obtain ⟨c9,hc9⟩:∃ a,(us 4 0).2=a:=⟨_,rfl⟩;rw [ha9,hc9] at hf ⊢;clear ha9 hc9;have hxx:Ext V (V.ext x):=Ext.of_ext _ _;have o1:=o1.ext hxx;have o2:=o2.ext hxx;have o3:=o3.ext hxx;have hS:=hS.ext hxx;have hRV:=hRV.extB hxx;have hEV:=hEV.trans hxx;clear hzV f3 hxx;generalize V.ext x=V2 at *;haveI:=hRV.blt
      go_wp2_with (first
       | (refine aa RJ6 rfl _ _ rfl (w.heap.size+1) 0 rfl _ rfl 57 _ hRV rfl Zs oC ?_;intro w9 hB9 hM9)
       | fail)
      refine aab (aG Tryz.results100 RJ6 _ _ (w.heap.size+1) 0 ([Zy b1 n1 d1, Zy b2 n2 d2, Zy (some ⟨b0,o0,none⟩) 0 0, Zy a' n' c', Zz Zx j.net, Zz Zx (j.sent+1)]) rfl hB9.rd rfl (Zy a9 n' c9) (Zz Zx 0) rfl rfl) rfl ?_;rw [er.out];have hty:fU w9 (some ⟨b0,o0,none⟩):=λ b o h=>(o3.mut hRV Zd Zs hM9).typ3 b o0 (by injection h with h;injection h with h _;rw [h]);have o3:=(o3.mut hRV Zd Zs hM9).bsc;exact ⟨b1,n1,d1,b2,n2,d2,(some ⟨b0,o0,none⟩),0,0,a',n',c',a9,n',c9,rfl,o1.mutT hRV Zd hM9,o2.mutT hRV Zd hM9,(by have hL:=List.length_eq_zero_iff.1 (show L.length=0 by rw [aaM] at hl3;omega);subst hL;exact Bsc.nil _ _),Zo,hS.mut hRV Zs hM9,hc',(hf.mono (aam _)).mutT hRV Zd hM9,(λ b o h=>by injection h with h;injection h with h _;omega),hty,Below.trans hEV (hM9.below Zo hEV.size)⟩
    ·clear q0i;simp only [Act.put]
     go_region
     all_goals
      go_wp2_with fail;refine df ?_;intro V hV;have hM:Mut g5 W1 V:=by rw [hV];exact ((((Mut.refl _ _).setCell 3 _).setCell 2 _).setCell 5 _).drew
      have hzV:Blk V g5 57 [Zy b1 n1 d1, Zy b2 n2 d2, Zy (some ⟨b0,o0+1,none⟩) (n3-1) (d3-1), Zy a' n' c', Zz Zx j.net, Zz Zx (j.sent+1)]:=by
       rw [hV];exact (((hz.set 3 (Zy a' n' c')).set 2 (Zy (some ⟨b0,o0+1,none⟩) (n3-1) (d3-1))).set 5 (Zz Zx (j.sent+1))).extB (Ext.drew (Ext.refl _))
      clear hV;have hRV:=Blk.turn hM hR Zo;have o1:=o1.mutT hz Zd hM;have o2:=o2.mutT hz Zd hM;have o3:=o3.mut hz Zd Zs hM;have hS:=hS.mut hz Zs hM;have hEV:Ext w V:=Below.trans hE (hM.below (by have:=hE.size;omega) hE.size);clear hM hR hE hz f2 f3 f5 z5 z2 z3 hcell hcell0 o4;haveI:=hzV.blt;have f3:=hzV.cell? 3 rfl;refine ae 5 [[],[],[1],[1,2],[1,2,3],[0,1,2,3,4],[0,1,2,3,4,5],[0,1,2,3,4,5,6]] Zk Zk Zk Zk ?_;simp only [q8q,q9q,q10q,q11q,q12q,q13q];(refine ay RJ6 _ rfl (λ _=>rfl) g5 0 (λ _=>by simp [go_sem]) _ hzV.rd rfl ?_);(repeat (apply aj;(case h=>(intro us w' hx hf;obtain ⟨x,rfl⟩:=hx.out;refine ⟨rfl,?_⟩;simp [go_sem,execOp, *];(try simp (disch:=omega) only [q17q,q18q,q19q]);rfl));(try simp only [Act.put,q0q,q1q,q2q])));(refine ao (λ p => .slice (p 0).1 1 1) (λ p w''=>Bss w'' (p 0).1 1 ([y])) (λ p w w' h hx=>h.ext hx) (λ us w' hx hf=>⟨rfl,?_⟩) ?_;(unfold gives;simp [go_sem,execOp];exact ⟨λ _=>(some ⟨w'.heap.size,0,none⟩,0),rfl,Ext.of_alloc _ _,gR (hS.ext hx) _⟩));(refine ao (λ p => .slice (p 0).1 n' (p 0).2) (λ p w''=>Own w'' 0 (p 0).1 n' (p 0).2 y) (λ p w w' h hx=>h.ext hx) (λ us w' hx hf=>⟨rfl,?_⟩) ?_;(unfold gives;simp [go_sem,execOp];exact aA (aam _) (dQ _ n' y hyn.out _ (by exact (hf _ (aad _ (aaa _)) rfl)) hny)));(refine aB ?_;intro us w' hx hf;obtain ⟨x,rfl⟩:=hx.out;(try simp only [Act.put,q0q,q1q,q2q,ai]);(try simp only [q3q,q4q,aar,aac,aan,q5q,q6q,q7q,aat,aau,aav] at hf);(try simp only [Nat.reduceAdd,aag] at hf ⊢));obtain ⟨-,hf⟩:=hf;obtain ⟨a9,ha9⟩:∃ a,(us 4 0).1=a:=⟨_,rfl⟩;obtain ⟨c9,hc9⟩:∃ a,(us 4 0).2=a:=⟨_,rfl⟩;rw [ha9,hc9] at hf ⊢;clear ha9 hc9;have hxx:Ext V (V.ext x):=Ext.of_ext _ _;have o1:=o1.ext hxx;have o2:=o2.ext hxx;have o3:=o3.ext hxx;have hS:=hS.ext hxx;have hRV:=hRV.extB hxx;have hEV:=hEV.trans hxx;clear hzV f3 hxx;generalize V.ext x=V2 at *;haveI:=hRV.blt
      go_wp2_with (first
       | (refine aa RJ6 rfl _ _ rfl (w.heap.size+1) 0 rfl _ rfl 57 _ hRV rfl Zs oC ?_;intro w9 hB9 hM9)
       | fail)
      refine aab (aG Tryz.results100 RJ6 _ _ (w.heap.size+1) 0 ([Zy b1 n1 d1, Zy b2 n2 d2, Zy (some ⟨b0,o0+1,none⟩) (n3-1) (d3-1), Zy a' n' c', Zz Zx j.net, Zz Zx (j.sent+1)]) rfl hB9.rd rfl (Zy a9 n' c9) (Zz Zx 0) rfl rfl) rfl ?_;rw [er.out];have hty:fU w9 (some ⟨b0,o0+1,none⟩):=λ b o h=>(o3.mut hRV Zd Zs hM9).typ3 b o0 (by injection h with h;injection h with h _;rw [h]);have o3:=(o3.mut hRV Zd Zs hM9).bsc;exact ⟨b1,n1,d1,b2,n2,d2,(some ⟨b0,o0+1,none⟩),(n3-1),(d3-1),a',n',c',a9,n',c9,rfl,o1.mutT hRV Zd hM9,o2.mutT hRV Zd hM9,o3.tail,Zo,hS.mut hRV Zs hM9,hc',(hf.mono (aam _)).mutT hRV Zd hM9,(λ b o h=>by injection h with h;injection h with h _;omega),hty,Below.trans hEV (hM9.below Zo hEV.size)⟩
end Go.Proofs.YtmdahnkcnagkjaaGreat

/- The walks of layer 16 of the document: signed, Decode, Reply. -/
namespace Go.Pkt
open Go.Sec Go.RowKit Go.Oct
theorem DS (x:UInt8):n8 (x >>> 6)=((x.toNat / 64:Nat):Int):=lG (p:=λ x=>n8 (x >>> 6)=((x.toNat / 64:Nat):Int)) (by decide +kernel) x
theorem Dn (x:UInt8):n8 (x >>> 3 &&& 7)=((x.toNat / 8 % 8:Nat):Int):=lG (p:=λ x=>n8 (x >>> 3 &&& 7)=((x.toNat / 8 % 8:Nat):Int)) (by decide +kernel) x
theorem Dv (x:UInt8):n8 (x &&& 7)=((x.toNat % 8:Nat):Int):=lG (p:=λ x=>n8 (x &&& 7)=((x.toNat % 8:Nat):Int)) (by decide +kernel) x
end Go.Pkt
namespace Go.Proofs.YtmdahnkcnagkjaaGreat
open Go.RowKit Go.Sec Go.Oct Go.Pkt BigFrame
theorem lA (x:UInt8) (w:World) :
  Calls Tryz.prog 73 #[Zz Zu (n8 x)] w λ e w'=>e = .returned (Zz Zx (sgn x))/\Ext w w':=by
 by_cases h:x.toNat<128
 ·have e:=Lib.hid (show sgn x=n8 x by unfold sgn n8;rw [aal h]);have i1:¬ (127:Int)<n8 x:=by unfold n8;omega
  clear h
  go_enter Tryz.func73,Tryz.ntmps73
  go_wp2_with fail;go_ret;exact ⟨by rw [e.out];rfl,eX⟩
 ·have e:=Lib.hid (show sgn x=n8 x-256 by unfold sgn n8;rw [aaf h]);have i1:(127:Int)<n8 x:=by unfold n8;omega
  clear h
  go_enter Tryz.func73,Tryz.ntmps73
  go_wp2_with fail;go_ret;exact ⟨by show Ending.returned (Zz Zx (wrap64 (n8 x-256)))=_;rw [<- e.out,u4],eX⟩
theorem jd (a:Option Addr)(n c:Nat) (b:List UInt8)(w:World)(hS:Sl w a n b) (hc:n<=c) (hn:n<=1000000) :
  Calls Tryz.prog 34 #[Zy a n c] w (gD (bD b) w):=by
 have hl:=hS.len;by_cases h1:n<48
 ·have er:bD b=((gX,[]),1):=aal Zo;rw [er];have i1:(n:Int)<48:=Zo;clear hl
  go_enter Tryz.func34,Tryz.ntmps34
  go_wp2_with (first
   | (refine aa bc rfl _ _ rfl w.heap.size 0 rfl _ rfl 64 _ bK rfl Zs (by first|exact aK _|(simp;done)|(simp;(repeat' (first|rfl|constructor)))) ?_;intro V hV hMV)
   | fail)
  refine aab (aG Tryz.results34 bc _ _ w.heap.size 0 ([Zz Zx 0, Zz Zx 0, Zz Zx 0, Zz Zx 0, Zz Zx 0, Zz Zx 0, Zz Zv 0, Zz Zv 0, Zz Zv 0, Zz Zw 0, Zz Zw 0, Zz Zw 0, Zz Zw 0]) rfl hV.rd rfl (Zy none 0 0) (Zz Zx 1) rfl rfl) rfl ?_;exact gD.err _ _ _ (Below.trans (b:=w.alloc _) eX (hMV.below Zo Zs))
 ·have i1:¬ (n:Int)<48:=by omega
  by_cases h2:1280<n
  ·have er:bD b=((gX,[]),2):=by unfold bD;rw [aaf Zo,aal Zo]
   rw [er];have i2:(1280:Int)<(n:Int):=Zo;clear hl
   go_enter Tryz.func34,Tryz.ntmps34
   go_wp2_with (first
    | (refine aa bc rfl _ _ rfl w.heap.size 0 rfl _ rfl 64 _ bK rfl Zs (by first|exact aK _|(simp;done)|(simp;(repeat' (first|rfl|constructor)))) ?_;intro V hV hMV)
    | fail)
   refine aab (aG Tryz.results34 bc _ _ w.heap.size 0 ([Zz Zx 0, Zz Zx 0, Zz Zx 0, Zz Zx 0, Zz Zx 0, Zz Zx 0, Zz Zv 0, Zz Zv 0, Zz Zv 0, Zz Zw 0, Zz Zw 0, Zz Zw 0, Zz Zw 0]) rfl hV.rd rfl (Zy none 0 0) (Zz Zx 2) rfl rfl) rfl ?_;exact gD.err _ _ _ (Below.trans (b:=w.alloc _) eX (hMV.below Zo Zs))
  ·have i2:¬ (1280:Int)<(n:Int):=by omega
   obtain ⟨r,hr⟩:∃ r,bD b=r:=⟨_,rfl⟩;have hr1:(rdH b).ver=4\/(rdH b).ver=3->r=((rdH b,b.drop 48),0):=λ h=>by rw [<- hr];unfold bD;rw [aaf Zo,aaf Zo,aal h]
   have hr2:¬ ((rdH b).ver=4\/(rdH b).ver=3)->r=((gX,[]),3):=λ h=>by rw [<- hr];unfold bD;rw [aaf Zo,aaf Zo,aaf h]
   rw [hr];clear hr;obtain ⟨f,hf⟩:∃ f:Nat->UInt8,∀ o,b.getD o 0=f o:=⟨_,λ _=>rfl⟩;obtain ⟨b0,o0,rfl,hb0, -⟩:=hS.at 0 Zo;have hce:∀ k,k<n->w.cell? ⟨b0,o0+k,none⟩=some (Zz Zu (n8 (f k))):=λ k hk=>by
    obtain ⟨b1,o1,e1,_,hc1⟩:=hS.at k hk;injection e1 with e1
    injection e1 with e1 e2
    subst e1 e2;rw [hc1,<- hf k,List.getD_eq_getElem?_getD,List.getElem?_eq_getElem Zo];rfl
   have hsl:∀ k m,k<n->m<=n-k->Sl w (some ⟨b0,o0+k,none⟩) m ((b.drop k).take m):=λ k m hk hm=>(mR hS hc hk).take m hm;have hg:∀ k m,m<=8->∀ W,Sl W (some ⟨b0,o0+k,none⟩) m ((b.drop k).take m)->Calls Tryz.prog 69 #[Zy (some ⟨b0,o0+k,none⟩) m (c-k)] W λ e w'=>e = .returned (Zz Zw (n64 (ey b k m)))/\Ext W w':=λ k m hm W H=>jD _ m (c-k) _ W H Zo;have z0:=Lib.hid (show n8 (f 0 >>> 6)=(rdH b).leap by rw [<- hf];exact DS _);have z1:=Lib.hid (show n8 (f 0 >>> 3 &&& 7)=(rdH b).ver by rw [<- hf];exact Dn _);have z2:=Lib.hid (show n8 (f 0 &&& 7)=(rdH b).mode by rw [<- hf];exact Dv _);have z3:=Lib.hid (show n8 (f 1)=(rdH b).strat by rw [<- hf];rfl);have z4:=Lib.hid (show sgn (f 2)=(rdH b).poll by rw [<- hf];rfl);have z5:=Lib.hid (show sgn (f 3)=(rdH b).prec by rw [<- hf];rfl)
   go_enter Tryz.func34,Tryz.ntmps34
   go_wp2_with fail;refine df ?_;intro W hW;have hE:Ext w W:=by rw [hW];exact eX
   have hH:Blk W w.heap.size 64 [Zz Zx 0, Zz Zx 0, Zz Zx 0, Zz Zx 0, Zz Zx 0, Zz Zx 0, Zz Zv 0, Zz Zv 0, Zz Zv 0, Zz Zw 0, Zz Zw 0, Zz Zw 0, Zz Zw 0]:=by rw [hW];exact bK
   clear hW;haveI:=BlkLt.mk (aaj hb0.lt hE.size);have hce:=λ k hk=>(hE.cell (p:=⟨b0,o0+k,none⟩) hb0.lt).trans (hce k hk);have hsl:=λ k m h1 h2=>(hsl k m h1 h2).ext hE;have k0:=hce 0 Zo;have k1:=hce 1 Zo;have k2:=hce 2 Zo;have k3:=hce 3 Zo;rw [abx] at k0;have j0:(1:Int)<(n:Int):=Zo;have j1:0<n:=Zo;have j2:(2:Int)<(n:Int):=Zo;have j3:(3:Int)<(n:Int):=Zo;have d4:¬ c=4:=Zo;have d8:¬ c=8:=Zo;have d12:¬ c=12:=Zo;have d16:¬ c=16:=Zo;have d24:¬ c=24:=Zo;have d32:¬ c=32:=Zo;have d40:¬ c=40:=Zo;have j8:(8:Int)<=(c:Int):=Zo;have j12:(12:Int)<=(c:Int):=Zo;have j16:(16:Int)<=(c:Int):=Zo;have j24:(24:Int)<=(c:Int):=Zo;have j32:(32:Int)<=(c:Int):=Zo;have j40:(40:Int)<=(c:Int):=Zo;have j48:(48:Int)<=(c:Int):=Zo;clear hce hf;refine R2.ae 54 [[],[0],[0,1],[0,1,2],[0,1,2,3],[],[5],[5,6],[5,6,7],[5,6,7,8],[5,6,7,8,9],[],[11],[11,12],[11,12,13],[11,12,13,14],[],[16],[16,17],[16,17,18],[],[20],[20,21],[20,21,22],[],[24],[24,25],[20,21,22,23,24,25,26],[],[28],[20,21,22,23,24,25,26,27,28,29],[20,21,22,23,24,25,26,27,28,29,30],[],[32],[20,21,22,23,24,25,26,27,28,29,30,32,33],[20,21,22,23,24,25,26,27,28,29,30,32,33,34],[],[36],[20,21,22,23,24,25,26,27,28,29,30,32,33,34,36,37],[20,21,22,23,24,25,26,27,28,29,30,32,33,34,36,37,38],[],[40],[20,21,22,23,24,25,26,27,28,29,30,32,33,34,36,37,38,40,41],[],[43],[20,21,22,23,24,25,26,27,28,29,30,32,33,34,36,37,38,40,41,42,43,44],[],[46],[20,21,22,23,24,25,26,27,28,29,30,32,33,34,36,37,38,40,41,42,43,44,45,46,47],[],[49],[20,21,22,23,24,25,26,27,28,29,30,32,33,34,36,37,38,40,41,42,43,44,45,46,47,48,49,50],[0,1,2,3,4,5,6,7,8,9,10,11,12,13,14,15,16,17,18,19,20,21,22,23,24,25,26,27,28,29,30,31,32,33,34,35,36,37,38,39,40,41,42,43,44,45,46,47,48,49,50,51],[],[0,1,2,3,4,5,6,7,8,9,10,11,12,13,14,15,16,17,18,19,20,21,22,23,24,25,26,27,28,29,30,31,32,33,34,35,36,37,38,39,40,41,42,43,44,45,46,47,48,49,50,51,52,53]] Zk Zk Zk Zk ?_;simp only [q8q,q9q,q10q,q11q,q12q,q13q];(repeat (refine R2.cy ?_;(try simp only [Act.put,q0q,q1q,q2q])));(refine R2.ao (λ _ => Zz Zx (sgn (f 2))) (λ _ _=>True) (λ _ _ _ _ _=>trivial) (λ us w' hx hf=>⟨rfl,?_⟩) ?_;(unfold gives;simp [go_sem,execOp];refine (lA (f 2) _).mono ?_;rintro e w1 ⟨rfl,hx1⟩;first|exact ⟨rfl,hx1⟩|simpa using hx1));(repeat (refine R2.cy ?_;(try simp only [Act.put,q0q,q1q,q2q])));(refine R2.ao (λ _ => Zz Zx (sgn (f 3))) (λ _ _=>True) (λ _ _ _ _ _=>trivial) (λ us w' hx hf=>⟨rfl,?_⟩) ?_;(unfold gives;simp [go_sem,execOp];refine (lA (f 3) _).mono ?_;rintro e w1 ⟨rfl,hx1⟩;first|exact ⟨rfl,hx1⟩|simpa using hx1));(repeat (refine R2.cy ?_;(try simp only [Act.put,q0q,q1q,q2q])));(refine R2.ao (λ _ => Zz Zw (n64 (ey b 4 4))) (λ _ _=>True) (λ _ _ _ _ _=>trivial) (λ us w' hx hf=>⟨rfl,?_⟩) ?_;(unfold gives;simp [go_sem,execOp];refine (hg 4 4 Zo _ ((hsl 4 4 Zo Zo).ext hx)).mono ?_;rintro e w1 ⟨rfl,hx1⟩;first|exact ⟨rfl,hx1⟩|simpa using hx1));(repeat (refine R2.cy ?_;(try simp only [Act.put,q0q,q1q,q2q])));(refine R2.ao (λ _ => Zz Zw (n64 (ey b 8 4))) (λ _ _=>True) (λ _ _ _ _ _=>trivial) (λ us w' hx hf=>⟨rfl,?_⟩) ?_;(unfold gives;simp [go_sem,execOp];refine (hg 8 4 Zo _ ((hsl 8 4 Zo Zo).ext hx)).mono ?_;rintro e w1 ⟨rfl,hx1⟩;first|exact ⟨rfl,hx1⟩|simpa using hx1));(repeat (refine R2.cy ?_;(try simp only [Act.put,q0q,q1q,q2q])));(refine R2.ao (λ _ => Zz Zw (n64 (ey b 12 4))) (λ _ _=>True) (λ _ _ _ _ _=>trivial) (λ us w' hx hf=>⟨rfl,?_⟩) ?_;(unfold gives;simp [go_sem,execOp];refine (hg 12 4 Zo _ ((hsl 12 4 Zo Zo).ext hx)).mono ?_;rintro e w1 ⟨rfl,hx1⟩;first|exact ⟨rfl,hx1⟩|simpa using hx1));(repeat (refine R2.cy ?_;(try simp only [Act.put,q0q,q1q,q2q])));(refine R2.ao (λ _ => Zz Zw (n64 (ey b 16 8))) (λ _ _=>True) (λ _ _ _ _ _=>trivial) (λ us w' hx hf=>⟨rfl,?_⟩) ?_;(unfold gives;simp [go_sem,execOp];refine (hg 16 8 Zo _ ((hsl 16 8 Zo Zo).ext hx)).mono ?_;rintro e w1 ⟨rfl,hx1⟩;first|exact ⟨rfl,hx1⟩|simpa using hx1));(repeat (refine R2.cy ?_;(try simp only [Act.put,q0q,q1q,q2q])));(refine R2.ao (λ _ => Zz Zw (n64 (ey b 24 8))) (λ _ _=>True) (λ _ _ _ _ _=>trivial) (λ us w' hx hf=>⟨rfl,?_⟩) ?_;(unfold gives;simp [go_sem,execOp];refine (hg 24 8 Zo _ ((hsl 24 8 Zo Zo).ext hx)).mono ?_;rintro e w1 ⟨rfl,hx1⟩;first|exact ⟨rfl,hx1⟩|simpa using hx1));(repeat (refine R2.cy ?_;(try simp only [Act.put,q0q,q1q,q2q])));(refine R2.ao (λ _ => Zz Zw (n64 (ey b 32 8))) (λ _ _=>True) (λ _ _ _ _ _=>trivial) (λ us w' hx hf=>⟨rfl,?_⟩) ?_;(unfold gives;simp [go_sem,execOp];refine (hg 32 8 Zo _ ((hsl 32 8 Zo Zo).ext hx)).mono ?_;rintro e w1 ⟨rfl,hx1⟩;first|exact ⟨rfl,hx1⟩|simpa using hx1));(repeat (refine R2.cy ?_;(try simp only [Act.put,q0q,q1q,q2q])));(refine R2.ao (λ _ => Zz Zw (n64 (ey b 40 8))) (λ _ _=>True) (λ _ _ _ _ _=>trivial) (λ us w' hx hf=>⟨rfl,?_⟩) ?_;(unfold gives;simp [go_sem,execOp];refine (hg 40 8 Zo _ ((hsl 40 8 Zo Zo).ext hx)).mono ?_;rintro e w1 ⟨rfl,hx1⟩;first|exact ⟨rfl,hx1⟩|simpa using hx1));(repeat (refine R2.cy ?_;(try simp only [Act.put,q0q,q1q,q2q])));(refine R2.cW _ ([Zz Zx 0, Zz Zx 0, Zz Zx 0, Zz Zx 0, Zz Zx 0, Zz Zx 0, Zz Zv 0, Zz Zv 0, Zz Zv 0, Zz Zw 0, Zz Zw 0, Zz Zw 0, Zz Zw 0]) Tryz.zeroValue64 rfl rfl rfl ?_);(refine R2.fS ?_;intro us x hx hf hd);obtain ⟨g,eg,hgW,hBg⟩:=hf;rw [eg];have hx5:Ext W (W.ext x):=Ext.of_ext _ _;have hgE:=aaq hE.size hgW;have hne:w.heap.size≠g:=by have:=hH.lt;omega
   have hH:=hH.extB hx5;have hE:=hE.trans hx5;have hS:=hS.ext hE;clear k0 k1 k2 k3 hsl hg hd eg hx5;generalize W.ext x=W6 at *;rw [z0.out,z1.out,z2.out,z3.out,z4.out,z5.out];clear z0 z1 z2 z3 z4 z5 d4 d8 d12 d16 d24 d32 d40 j0 j1 j2 j3 j8 j12 j16 j24 j32 j40;haveI:=hBg.blt;haveI:=hH.blt;by_cases v3:(rdH b).ver=3
   ·have er:=Lib.hid (hr1 (.inr v3));have i3:((rdH b).ver != 3)=false:=by rw [aai];exact v3
    clear hr1 hr2 v3
    go_wp2_with (first
     | ((refine aa bc rfl _ _ rfl g 0 rfl _ rfl 64 _ hBg rfl Zs oC ?_;intro V hV0 hMV);have hV:Blk V g 64 [Zz Zx (rdH b).leap, Zz Zx (rdH b).ver, Zz Zx (rdH b).mode, Zz Zx (rdH b).strat, Zz Zx (rdH b).poll, Zz Zx (rdH b).prec, Zz Zv (n32 (rdH b).rd), Zz Zv (n32 (rdH b).rp), Zz Zv (n32 (rdH b).id), Zz Zw (n64 (rdH b).ref), Zz Zw (n64 (rdH b).org), Zz Zw (n64 (rdH b).rcv), Zz Zw (n64 (rdH b).tx)]:=hV0;clear hV0;haveI:=hV.blt;have q1:=hV.cell? 1 rfl;have hHV:=Blk.turn hMV hH hne;haveI:=hHV.blt)
     | (fail)
     | fail)
    have hEV:Ext w V:=Below.trans hE (hMV.below hgE hE.size);have hSV:=hS.mut hBg Zs hMV;clear q1 hS hBg hH hE hMV;have hcd:n-48<=c-48:=Zo;obtain ⟨A,hA,hSA⟩:∃ A,(if c=48 then some (⟨b0,o0,none⟩:Addr) else some ⟨b0,o0+48,none⟩)=A/\Sl V A (n-48) (b.drop 48):=⟨_,rfl,by have:=hSV.drop c 48 hc;simpa [dX,bZ] using this⟩;have hdl:(b.drop 48).length=n-48:=hSA.len;have j48:(48:Int)<=(n:Int):=Zo;have j48c:(48:Int)<=(c:Int):=Zo;refine ae 5 [[],[],[1],[1,2],[1,2,3],[0,1,2,3,4],[0,1,2,3,4,5],[0,1,2,3,4,5,6]] Zk Zk Zk Zk ?_;simp only [q8q,q9q,q10q,q11q,q12q,q13q];(refine ay bc _ rfl (λ _=>rfl) g 0 (λ _=>by simp [go_sem]) _ hV.rd rfl ?_);(repeat (apply aj;(case h=>(intro us w' hx hf;obtain ⟨x,rfl⟩:=hx.out;refine ⟨rfl,?_⟩;simp [go_sem,execOp, *];(try simp (disch:=omega) only [q17q,q18q,q19q]);rfl));(try simp only [Act.put,q0q,q1q,q2q])));(refine ao (λ p => .slice (p 0).1 1 1) (λ p w''=>Bss w'' (p 0).1 1 ([b.drop 48])) (λ p w w' h hx=>h.ext hx) (λ us w' hx hf=>⟨rfl,?_⟩) ?_;(unfold gives;simp [go_sem,execOp];exact ⟨λ _=>(some ⟨w'.heap.size,0,none⟩,0),rfl,Ext.of_alloc _ _,gR (hSA.ext hx) _⟩));(refine ao (λ p => .slice (p 0).1 (n-48) (p 0).2) (λ p w''=>Own w'' 0 (p 0).1 (n-48) (p 0).2 (b.drop 48)) (λ p w w' h hx=>h.ext hx) (λ us w' hx hf=>⟨rfl,?_⟩) ?_;(unfold gives;simp [go_sem,execOp];exact aA (aam _) ((by have:=aZ _ 1 1 [b.drop 48] w' (by exact (hf _ (aad _ (aaa _)) rfl)) Zo (n-48) (by rw [cz];exact hdl) Zo;rw [cz] at this;exact this))));(refine aB ?_;intro us w' hx hf;obtain ⟨x,rfl⟩:=hx.out;(try simp only [Act.put,q0q,q1q,q2q,ai]);(try simp only [q3q,q4q,aar,aac,aan,q5q,q6q,q7q,aat,aau,aav] at hf);(try simp only [Nat.reduceAdd,aag] at hf ⊢));obtain ⟨-,hO⟩:=hf;obtain ⟨a5,ha5⟩:∃ a,(us 4 0).1=a:=⟨_,rfl⟩;obtain ⟨c5,hc5⟩:∃ a,(us 4 0).2=a:=⟨_,rfl⟩;rw [ha5,hc5] at hO ⊢;clear ha5 hc5;have hxx:Ext V (V.ext x):=Ext.of_ext _ _;have hHx:=hHV.extB hxx;have hEx:=hEV.trans hxx;generalize V.ext x=V5 at *
    go_wp2_with (first
     | (refine aa bc rfl _ _ rfl w.heap.size 0 rfl _ rfl 64 _ hHx rfl Zs oC ?_;intro U hU hMU)
     | fail)
    refine aab (aG Tryz.results34 bc _ _ w.heap.size 0 ([Zz Zx (rdH b).leap, Zz Zx (rdH b).ver, Zz Zx (rdH b).mode, Zz Zx (rdH b).strat, Zz Zx (rdH b).poll, Zz Zx (rdH b).prec, Zz Zv (n32 (rdH b).rd), Zz Zv (n32 (rdH b).rp), Zz Zv (n32 (rdH b).id), Zz Zw (n64 (rdH b).ref), Zz Zw (n64 (rdH b).org), Zz Zw (n64 (rdH b).rcv), Zz Zw (n64 (rdH b).tx)]) rfl hU.rd rfl (Zy a5 (n-48) c5) (Zz Zx 0) rfl rfl) rfl ?_;have hOV:=Sl.mut hO.sl hHx Zs hMU;rw [er.out];exact ⟨a5,c5,by rw [hdl],by rw [hdl];exact hOV,by rw [hdl];exact hO.le.1,Below.trans hEx (hMU.below Zo hEx.size)⟩
   ·by_cases v4:(rdH b).ver=4
    ·have er:=Lib.hid (hr1 (.inl v4));have i3:((rdH b).ver != 3)=true:=by rw [aax];exact v3
     have i4:((rdH b).ver != 4)=false:=by rw [aai];exact v4
     clear hr1 hr2 v3 v4
     go_wp2_with (first
      | ((refine aa bc rfl _ _ rfl g 0 rfl _ rfl 64 _ hBg rfl Zs oC ?_;intro V hV0 hMV);have hV:Blk V g 64 [Zz Zx (rdH b).leap, Zz Zx (rdH b).ver, Zz Zx (rdH b).mode, Zz Zx (rdH b).strat, Zz Zx (rdH b).poll, Zz Zx (rdH b).prec, Zz Zv (n32 (rdH b).rd), Zz Zv (n32 (rdH b).rp), Zz Zv (n32 (rdH b).id), Zz Zw (n64 (rdH b).ref), Zz Zw (n64 (rdH b).org), Zz Zw (n64 (rdH b).rcv), Zz Zw (n64 (rdH b).tx)]:=hV0;clear hV0;haveI:=hV.blt;have q1:=hV.cell? 1 rfl;have hHV:=Blk.turn hMV hH hne;haveI:=hHV.blt)
      | (fail)
      | fail)
     have hEV:Ext w V:=Below.trans hE (hMV.below hgE hE.size);have hSV:=hS.mut hBg Zs hMV;clear q1 hS hBg hH hE hMV;have hcd:n-48<=c-48:=Zo;obtain ⟨A,hA,hSA⟩:∃ A,(if c=48 then some (⟨b0,o0,none⟩:Addr) else some ⟨b0,o0+48,none⟩)=A/\Sl V A (n-48) (b.drop 48):=⟨_,rfl,by have:=hSV.drop c 48 hc;simpa [dX,bZ] using this⟩;have hdl:(b.drop 48).length=n-48:=hSA.len;have j48:(48:Int)<=(n:Int):=Zo;have j48c:(48:Int)<=(c:Int):=Zo;refine ae 5 [[],[],[1],[1,2],[1,2,3],[0,1,2,3,4],[0,1,2,3,4,5],[0,1,2,3,4,5,6]] Zk Zk Zk Zk ?_;simp only [q8q,q9q,q10q,q11q,q12q,q13q];(refine ay bc _ rfl (λ _=>rfl) g 0 (λ _=>by simp [go_sem]) _ hV.rd rfl ?_);(repeat (apply aj;(case h=>(intro us w' hx hf;obtain ⟨x,rfl⟩:=hx.out;refine ⟨rfl,?_⟩;simp [go_sem,execOp, *];(try simp (disch:=omega) only [q17q,q18q,q19q]);rfl));(try simp only [Act.put,q0q,q1q,q2q])));(refine ao (λ p => .slice (p 0).1 1 1) (λ p w''=>Bss w'' (p 0).1 1 ([b.drop 48])) (λ p w w' h hx=>h.ext hx) (λ us w' hx hf=>⟨rfl,?_⟩) ?_;(unfold gives;simp [go_sem,execOp];exact ⟨λ _=>(some ⟨w'.heap.size,0,none⟩,0),rfl,Ext.of_alloc _ _,gR (hSA.ext hx) _⟩));(refine ao (λ p => .slice (p 0).1 (n-48) (p 0).2) (λ p w''=>Own w'' 0 (p 0).1 (n-48) (p 0).2 (b.drop 48)) (λ p w w' h hx=>h.ext hx) (λ us w' hx hf=>⟨rfl,?_⟩) ?_;(unfold gives;simp [go_sem,execOp];exact aA (aam _) ((by have:=aZ _ 1 1 [b.drop 48] w' (by exact (hf _ (aad _ (aaa _)) rfl)) Zo (n-48) (by rw [cz];exact hdl) Zo;rw [cz] at this;exact this))));(refine aB ?_;intro us w' hx hf;obtain ⟨x,rfl⟩:=hx.out;(try simp only [Act.put,q0q,q1q,q2q,ai]);(try simp only [q3q,q4q,aar,aac,aan,q5q,q6q,q7q,aat,aau,aav] at hf);(try simp only [Nat.reduceAdd,aag] at hf ⊢));obtain ⟨-,hO⟩:=hf;obtain ⟨a5,ha5⟩:∃ a,(us 4 0).1=a:=⟨_,rfl⟩;obtain ⟨c5,hc5⟩:∃ a,(us 4 0).2=a:=⟨_,rfl⟩;rw [ha5,hc5] at hO ⊢;clear ha5 hc5;have hxx:Ext V (V.ext x):=Ext.of_ext _ _;have hHx:=hHV.extB hxx;have hEx:=hEV.trans hxx;generalize V.ext x=V5 at *
     go_wp2_with (first
      | (refine aa bc rfl _ _ rfl w.heap.size 0 rfl _ rfl 64 _ hHx rfl Zs oC ?_;intro U hU hMU)
      | fail)
     refine aab (aG Tryz.results34 bc _ _ w.heap.size 0 ([Zz Zx (rdH b).leap, Zz Zx (rdH b).ver, Zz Zx (rdH b).mode, Zz Zx (rdH b).strat, Zz Zx (rdH b).poll, Zz Zx (rdH b).prec, Zz Zv (n32 (rdH b).rd), Zz Zv (n32 (rdH b).rp), Zz Zv (n32 (rdH b).id), Zz Zw (n64 (rdH b).ref), Zz Zw (n64 (rdH b).org), Zz Zw (n64 (rdH b).rcv), Zz Zw (n64 (rdH b).tx)]) rfl hU.rd rfl (Zy a5 (n-48) c5) (Zz Zx 0) rfl rfl) rfl ?_;have hOV:=Sl.mut hO.sl hHx Zs hMU;rw [er.out];exact ⟨a5,c5,by rw [hdl],by rw [hdl];exact hOV,by rw [hdl];exact hO.le.1,Below.trans hEx (hMU.below Zo hEx.size)⟩
    ·have er:=Lib.hid (hr2 Zo);have i3:((rdH b).ver != 3)=true:=by rw [aax];exact v3
     have i4:((rdH b).ver != 4)=true:=by rw [aax];exact v4
     clear hr1 hr2 v3 v4
     go_wp2_with (first
      | ((refine aa bc rfl _ _ rfl g 0 rfl _ rfl 64 _ hBg rfl Zs oC ?_;intro V hV0 hMV);have hV:Blk V g 64 [Zz Zx (rdH b).leap, Zz Zx (rdH b).ver, Zz Zx (rdH b).mode, Zz Zx (rdH b).strat, Zz Zx (rdH b).poll, Zz Zx (rdH b).prec, Zz Zv (n32 (rdH b).rd), Zz Zv (n32 (rdH b).rp), Zz Zv (n32 (rdH b).id), Zz Zw (n64 (rdH b).ref), Zz Zw (n64 (rdH b).org), Zz Zw (n64 (rdH b).rcv), Zz Zw (n64 (rdH b).tx)]:=hV0;clear hV0;haveI:=hV.blt;have q1:=hV.cell? 1 rfl;have hHV:=Blk.turn hMV hH hne;haveI:=hHV.blt)
      | ((refine aa bc rfl _ _ rfl w.heap.size 0 rfl _ rfl 64 _ hHV rfl Zs (by first|exact aK _|(simp;done)|(simp;(repeat' (first|rfl|constructor)))) ?_;intro V2 hV2 hMV2))
      | fail)
     have hEV:Ext w V:=Below.trans hE (hMV.below hgE hE.size);have hSV:=hS.mut hBg Zs hMV;refine aab (aG Tryz.results34 bc _ _ w.heap.size 0 ([Zz Zx 0, Zz Zx 0, Zz Zx 0, Zz Zx 0, Zz Zx 0, Zz Zx 0, Zz Zv 0, Zz Zv 0, Zz Zv 0, Zz Zw 0, Zz Zw 0, Zz Zw 0, Zz Zw 0]) rfl hV2.rd rfl (Zy none 0 0) (Zz Zx 3) rfl rfl) rfl ?_;rw [er.out];exact gD.err _ _ _ (Below.trans hEV (hMV2.below (aae _) hEV.size))
end Go.Proofs.YtmdahnkcnagkjaaGreat
