/- Lemmas of this claim, several texts joined. -/
import Derived.Test.YtmdahnkcnagkjaaGreatY6
import Derived.Test.YtmdahnkcnagkjaaGreatY8
import Derived.Test.YtmdahnkcnagkjaaGreatY9
import Derived.Test.YtmdahnkcnagkjaaGreatY10
import Derived.Test.YtmdahnkcnagkjaaGreatY11
import Derived.Test.YtmdahnkcnagkjaaGreatY26
import Derived.Test.YtmdahnkcnagkjaaGreatY28
import Derived.Test.YtmdahnkcnagkjaaGreatY29
import Derived.Test.YtmdahnkcnagkjaaGreatY31
import Derived.Test.YtmdahnkcnagkjaaGreatY38
import Derived.Test.YtmdahnkcnagkjaaGreatY42
import Derived.Test.YtmdahnkcnagkjaaGreatY43
import Derived.Test.YtmdahnkcnagkjaaGreatY44
set_option maxRecDepth 100000
open Go.Value renaming int -> Zz,slice -> Zy
open Go.IntKind renaming i64 -> Zx,u64 -> Zw,u32 -> Zv
open List renaming setIfInBounds_toArray -> q0q, set_cons_succ -> q1q, set_cons_zero -> q2q, mem_cons -> q3q, not_mem_nil -> q4q, nil_append -> q5q, cons_append -> q6q, mem_append -> q7q, take_succ_cons -> q8q, take_zero -> q9q, drop_succ_cons -> q10q, drop_zero -> q11q, take_nil -> q12q, drop_nil -> q13q
open Go.IntWalk renaming i64_in -> q17q, rem_in -> q18q, wrap64_in -> q19q
set_option maxHeartbeats 8000000
set_option linter.unusedVariables false
set_option linter.unusedSimpArgs false
/- The walks of layer 18 of the document: Open. -/
namespace Go.Pkt
theorem wX {b:List UInt8} (h:(aC b).2=0):bj (b.drop 48)=((aC b).1.plain,0):=by
 by_cases h1:(bD b).2=0
 ·by_cases h2:(bj (bD b).1.2).2=0
  ·obtain ⟨a1,a2,a3⟩:=vg h1;rw [iQ h1 h2,<- a3,<- h2]
  ·rw [fx h1 h2] at h;exact absurd h h2
 ·rw [ft h1] at h;exact absurd h h1
theorem zY {A:List Fld} {i:Nat} (h:i<A.length):(mj A)[i]'(by rw [mN];exact h)=((aL (A.take i):Nat):Int):=by
 unfold mj;simp
end Go.Pkt
namespace Go.Proofs.YtmdahnkcnagkjaaGreat
open Go.RowKit Go.Sec Go.Oct Go.Pkt Go.Aes BigFrame
def PtV (r:Option (List UInt8 × List UInt8)) (p:Par):Value := .tuple #[.slice (p 0).1 (p 3).2 (p 0).2, .slice (p 1).1 (p 4).2 (p 1).2, .bool r.isSome]
def PtR (r:Option (List UInt8 × List UInt8)) (p:Par) (w:World):Prop:=∀ x,r=some x->Sl w (p 0).1 (p 3).2 x.1/\(p 3).2<=(p 0).2/\Sl w (p 1).1 (p 4).2 x.2/\(p 4).2<=(p 1).2
theorem PtR.ext {r:Option (List UInt8 × List UInt8)} {p:Par} {w w':World} (h:PtR r p w) (hx:Ext w w'):PtR r p w':=λ x e=>by
 obtain ⟨h1,h2,h3,h4⟩:=h x e;exact ⟨h1.ext hx,h2,h3.ext hx,h4⟩
theorem wT {r:Option (List UInt8 × List UInt8)} {f:FuncId} {args:Array Value} {w:World} (h:Calls Tryz.prog f args w (fE r w)):Calls Tryz.prog f args w λ e w'=>∃ v,e = .returned v/\∃ p:Par,v=PtV r p/\Ext w w'/\PtR r p w':=by
 refine h.mono ?_;rintro e w' ⟨a1,n1,c1,a2,n2,c2,rfl,hp,hx⟩;exact ⟨_,rfl,λ i=>if i=0 then (a1,c1) else if i=1 then (a2,c2) else if i=3 then (none,n1) else (none,n2),rfl,hx,hp⟩
theorem tF (ak ab:Option Addr)(nk ck nb cb:Nat) (ky b:List UInt8)(w:World)(hk:Sl w ak nk ky) (hck:nk<=ck) (hS:Sl w ab nb b) (hcb:nb<=cb) (hn:nb<=1000000) :
  Calls Tryz.prog 48 #[Zy ak nk ck, Zy ab nb cb] w (jy (cT ky b) w):=by
 have lk:=hk.len;have lb:=hS.len;have hrd:=λ W H=>uE ab nb cb b W H hcb hn;obtain ⟨r,hr⟩:∃ r,cT ky b=r:=⟨_,rfl⟩;rw [hr];have hr:=Lib.hid hr;by_cases q1:nk=32
 ·have q1':ky.length=32:=by omega
  subst q1
  go_enter Tryz.func48,Tryz.ntmps48
  go_wp2_with fail;refine bC ?_;intro W hW;have hE:Ext w W:=by rw [hW];exact eX
  have hP:Blk W w.heap.size 67 [Zz Zx 0, Zz Zx 0, Zz Zx 0, Zz Zx 0, Zz Zx 0, Zz Zx 0, Zz Zv 0, Zz Zv 0, Zz Zv 0, Zz Zw 0, Zz Zw 0, Zz Zw 0, Zz Zw 0, Zy none 0 0, Zy none 0 0, .bool false]:=by rw [hW];exact bK
  clear hW;(with_reducible refine (hrd W (hS.ext hE)).mono ?_);rintro e w1 ⟨b1,d1,rfl,⟨B1,hO1⟩,hx1⟩;have hE1:=hE.trans hx1;have hP1:=hP.extB hx1;have hlt:=hP1.lt;haveI:=hP1.blt;clear hE hP hx1 hrd;by_cases q2:(aC b).2=0
  ·rw [q2];have hsp:=gC q2;have hfl:=λ f hf=>iV q2 (f:=f) hf;have hso:=λ i h=>pA (i:=i) q1' q2 h;have hno:=λ h=>pC q1' q2 h;have hdF:=wX q2;unfold uy at hso;generalize (aC b).1.plain=L at *;generalize (aC b).1.h=H at *
   go_wp2_with (first
    | ((refine ag aV rfl rfl _ _ rfl rfl rfl rfl (by simp [Act.put]) _ rfl Zs rfl oC ?_;intro x hz _);haveI:=hz.blt;have f13:=hz.cell? 13 rfl)
    | fail)
   refine bC ?_;intro W2 hW2;have hx2:Ext w1 W2:=by rw [hW2];exact eX
   have hG:Blk W2 w1.heap.size 67 [Zz Zx H.leap, Zz Zx H.ver, Zz Zx H.mode, Zz Zx H.strat, Zz Zx H.poll, Zz Zx H.prec, Zz Zv (n32 H.rd), Zz Zv (n32 H.rp), Zz Zv (n32 H.id), Zz Zw (n64 H.ref), Zz Zw (n64 H.org), Zz Zw (n64 H.rcv), Zz Zw (n64 H.tx), Zy b1 L.length d1, Zy none 0 0, .bool false]:=by rw [hW2];exact hz.extB eX
   have hP2:=hP1.extB hx2;have hE2:=hE1.trans hx2;have hO2:=hO1.ext hx2;clear hW2 hx2 hE1 hP1 hO1 f13 hz;(with_reducible refine (iZ 1028 b1 L.length d1 L W2 hO2.ib.1 Zo).mono ?_);rintro e w3 ⟨bx,dx,rfl,hOx,hx3⟩;have hG3:=hG.extB hx3;have hP3:=hP2.extB hx3;have hE3:=hE2.trans hx3;have hO3:=hO2.ext hx3;clear hG hP2 hE2 hO2 hx3;have hdc:L.length<=d1:=hO3.ib.2;haveI:=hP3.blt;haveI:=hG3.blt;have f13:w3.cell? ⟨w1.heap.size,13,none⟩=some (Zy b1 L.length d1):=hG3.cell? 13 rfl;cases q3:eT 1028 L with
   | none =>
    have er:=Lib.hid (show r=(aQ,10) by rw [<- hr.out];exact hno q3);have hix:ixs 1028 L L.length=[]:=List.head?_eq_none_iff.1 q3;rw [hix] at hOx ⊢;clear hix q3 hno hso
    go_wp2_with (first
     | (refine aa aV rfl _ _ rfl w.heap.size 0 rfl _ rfl 67 _ ((hP3.extB eX)) rfl Zs oC ?_;intro V hV hMV)
     | fail)
    refine aab (av Tryz.results48 aV _ _ w.heap.size 0 ([Zz Zx 0, Zz Zx 0, Zz Zx 0, Zz Zx 0, Zz Zx 0, Zz Zx 0, Zz Zv 0, Zz Zv 0, Zz Zv 0, Zz Zw 0, Zz Zw 0, Zz Zw 0, Zz Zw 0, Zy none 0 0, Zy none 0 0, .bool false]) rfl hV.rd rfl (Zz Zx 10) rfl) rfl ?_;rw [er.out];exact jy.err _ _ _ (Below.trans (hE3.trans eX) (hMV.below (aae _) (Below.size (hE3.trans eX))))
   | some i =>
    have hi:=pY q3;have hat:=hso i q3;rw [hr.out] at hat;obtain ⟨rest,hix⟩:∃ rest,ixs 1028 L L.length=i :: rest:=by
     unfold eT at q3;cases hc:ixs 1028 L L.length with
     | nil=>rw [hc] at q3;cases q3
     | cons y R=>rw [hc] at q3;injection q3 with q3;subst q3;exact ⟨R,rfl⟩
    rw [hix] at hOx ⊢;obtain ⟨M,hM⟩:∃ M,(i :: rest).length=M:=⟨_,rfl⟩;have hM0:0<M:=by rw [<- hM];simp
    have hMi:¬ (M:Int)=0:=Zo;have hrdx:=hOx.rd;rw [hM] at hOx ⊢;obtain ⟨xb,xo,rfl,hxb,hxc⟩:=hrdx.at 0 Zs;have hxc:w3.cell? ⟨xb,xo,none⟩=some (Zz Zx (i:Int)):=hxc;haveI:=hxb;have hxlt:=hxb.lt;clear q3 hno hso hM hix hOx hrdx;by_cases q4:i+1=L.length
    ·rw [aaf Zo] at hat;replace hat:=Lib.hid hat;have iq:((i:Int) != (L.length:Int)-1)=false:=by rw [aai];omega
     obtain ⟨y,hy⟩:∃ y,L[i]?=some y:=⟨_,List.getElem?_eq_getElem hi⟩;obtain ⟨y52,y1280⟩:=hfl y (List.mem_of_getElem? hy);have hyok:=hsp.2.2.2.2 y (List.mem_of_getElem? hy);have htk:aL L=aL (L.take i)+szN y.2.length:=by
      have:=eM (L.take i) y
      rwa [<- nJ hy,q4,aak (aae _)] at this
     have hsz:szN y.2.length=y.2.length+4:=by unfold szN;omega
     replace hat:=Lib.hid (show r=_ by rw [hat.out,ji hy]);have hi0:(0:Int)<=(i:Int):=Zo;have hi1:(i:Int)<(L.length:Int):=Zo;clear hfl;go_wp2_with fail;refine ae 8 [[],[0],[0,1],[],[3],[3,4],[3,4,5],[0,1,2,3,4,5,6]] Zk Zk Zk Zk ?_;simp only [q8q,q9q,q10q,q11q,q12q,q13q];(repeat (apply aj;(case h=>(intro us w' hx hf;obtain ⟨x,rfl⟩:=hx.out;refine ⟨rfl,?_⟩;simp [go_sem,execOp, *];(try simp (disch:=omega) only [q17q,q18q,q19q]);rfl));(try simp only [Act.put,q0q,q1q,q2q])));(refine aB ?_;intro us w' hx hf;obtain ⟨x,rfl⟩:=hx.out;(try simp only [Act.put,q0q,q1q,q2q,ai]);(try simp only [q3q,q4q,aar,aac,aan,q5q,q6q,q7q,aat,aau,aav] at hf);(try simp only [Nat.reduceAdd,aag] at hf ⊢));have hxa:Ext w3 (w3.ext x):=Ext.of_ext _ _;have hxc:=(hxa.cell (p:=⟨xb,xo,none⟩) hxlt).trans hxc;have hG3:=hG3.extB hxa;have hP3:=hP3.extB hxa;have hE3:=hE3.trans hxa;have hO3:=hO3.ext hxa;have hxlt:=aaj hxlt hxa.size;clear f13;generalize w3.ext x=w3 at *;haveI:BlkLt xb w3:=⟨hxlt⟩;haveI:=hP3.blt;haveI:=hG3.blt;have f13:w3.cell? ⟨w1.heap.size,13,none⟩=some (Zy b1 L.length d1):=hG3.cell? 13 rfl;obtain ⟨g0,o0,g',c',rfl,hb0,hc0,hc1,hSk,hcy⟩:=hO3.ib.1.at i hi _ hy;haveI:=hb0;have hpa:=λ W H=>uV g' y.2.length c' y.2 W H hcy Zo;go_wp2_with fail;refine ae 15 [[],[0],[],[2],[2,3],[0,1,2,3,4],[0,1,2,3,4,5],[0,1,2,3,4,5,6],[0,1,2,3,4,5,6,7],[0,1,2,3,4,5,6,7,8],[0,1,2,3,4,5,6,7,8,9],[0,1,2,3,4,5,6,7,8,9],[0,1,2,3,4,5,6,7,8,9],[0,1,2,3,4,5,6,7,8,9,10],[0,1,2,3,4,5,6,7,8,9,10,11,13],[0,1,2,3,4,5,6,7,8,9,10,11,12,13,14]] Zk Zk Zk Zk ?_;simp only [q8q,q9q,q10q,q11q,q12q,q13q];(repeat (apply aj;(case h=>(intro us w' hx hf;obtain ⟨x,rfl⟩:=hx.out;refine ⟨rfl,?_⟩;simp [go_sem,execOp, *];(try simp (disch:=omega) only [q17q,q18q,q19q]);rfl));(try simp only [Act.put,q0q,q1q,q2q])));(refine ao (PtV (db y.2)) (PtR (db y.2)) (λ p w w' h hx=>h.ext hx) (λ us w' hx hf=>⟨rfl,?_⟩) ?_;(unfold gives;simp [go_sem,execOp];exact wT (hpa _ (hSk.ext hx))));(repeat (apply aj;(case h=>(intro us w' hx hf;obtain ⟨x,rfl⟩:=hx.out;refine ⟨rfl,?_⟩;simp [go_sem,execOp, *];(try simp (disch:=omega) only [q17q,q18q,q19q]);rfl));(try simp only [Act.put,q0q,q1q,q2q])));(refine aB ?_;intro us w' hx hf;obtain ⟨x,rfl⟩:=hx.out;(try simp only [Act.put,q0q,q1q,q2q,ai]);(try simp only [q3q,q4q,aar,aac,aan,q5q,q6q,q7q,aat,aau,aav] at hf);(try simp only [Nat.reduceAdd,aag] at hf ⊢));have hps:∀ z,db y.2=some z->Sl (w3.ext x) (us 8 0).1 (us 8 3).2 z.1/\(us 8 3).2<=(us 8 0).2/\Sl (w3.ext x) (us 8 1).1 (us 8 4).2 z.2/\(us 8 4).2<=(us 8 1).2:=hf;simp only [PtV];obtain ⟨p1,e_p1⟩:∃ a,(us 8 0).1=a:=⟨_,rfl⟩;obtain ⟨k1,e_k1⟩:∃ a,(us 8 0).2=a:=⟨_,rfl⟩;obtain ⟨p2,e_p2⟩:∃ a,(us 8 1).1=a:=⟨_,rfl⟩;obtain ⟨k2,e_k2⟩:∃ a,(us 8 1).2=a:=⟨_,rfl⟩;obtain ⟨n1,e_n1⟩:∃ a,(us 8 3).2=a:=⟨_,rfl⟩;obtain ⟨n2,e_n2⟩:∃ a,(us 8 4).2=a:=⟨_,rfl⟩;rw [e_p1,e_k1,e_p2,e_k2,e_n1,e_n2] at hps;rw [e_p1,e_k1,e_p2,e_k2,e_n1,e_n2];have hxa:Ext w3 (w3.ext x):=Ext.of_ext _ _;have hxc:=(hxa.cell (p:=⟨xb,xo,none⟩) hxlt).trans hxc;have hG4:=hG3.extB hxa;have hP4:=hP3.extB hxa;have hE4:=hE3.trans hxa;have hO4:=hO3.ext hxa;have hxlt:=aaj hxlt hxa.size;clear f13 hf hc0 hc1 hSk hpa e_p1 e_k1 e_p2 e_k2 e_n1 e_n2;generalize w3.ext x=w4 at *;haveI:BlkLt xb w4:=⟨hxlt⟩;haveI:=hP4.blt;haveI:=hG4.blt;clear hG3 hP3 hE3 hO3 hxa;cases q5:db y.2 with
     | none =>
      have er:=Lib.hid (show r=(aQ,3) by rw [hat.out,q5]);clear q5 hps
      go_wp2_with (first
       | (refine aa aV rfl _ _ rfl w.heap.size 0 rfl _ rfl 67 _ ((hP4.extB eX)) rfl Zs oC ?_;intro V hV hMV)
       | fail)
      refine aab (av Tryz.results48 aV _ _ w.heap.size 0 ([Zz Zx 0, Zz Zx 0, Zz Zx 0, Zz Zx 0, Zz Zx 0, Zz Zx 0, Zz Zv 0, Zz Zv 0, Zz Zv 0, Zz Zw 0, Zz Zw 0, Zz Zw 0, Zz Zw 0, Zy none 0 0, Zy none 0 0, .bool false]) rfl hV.rd rfl (Zz Zx 3) rfl) rfl ?_;rw [er.out];exact jy.err _ _ _ (Below.trans (hE4.trans eX) (hMV.below (aae _) (Below.size (hE4.trans eX))))
     | some z =>
      obtain ⟨v1,m1,v2,m2⟩:=hps z q5;have hzl:=kC q5;replace hat:=Lib.hid (show r=_ by rw [hat.out,q5]);clear q5 hps;have hSw:=hS.ext hE4;obtain ⟨sb,so,rfl,hsb, -⟩:=hSw.at 0 Zo;have h48:=mR hSw hcb (i:=48) Zo;have hpl:=λ W H=>rC (some ⟨sb,so+48,none⟩) (nb-48) (cb-48) (b.drop 48) W H Zo Zo;rw [hdF] at hpl;have j1:(48:Int)<=(nb:Int):=Zo;have j2:(48:Int)<=(cb:Int):=Zo;have j3:¬ cb=48:=Zo;go_wp2_with fail;(with_reducible refine (hpl _ h48).mono ?_);rintro e w5 ⟨bp,dp,rfl,hOp,hxp⟩;have hOp:fA w5 w4.heap.size bp L.length dp (mj L):=hOp;have hxc:=(hxp.cell (p:=⟨xb,xo,none⟩) hxlt).trans hxc;have hG5:=hG4.extB hxp;have hP5:=hP4.extB hxp;have hE5:=hE4.trans hxp;have hO5:=hO4.ext hxp;have v1:=v1.ext hxp;have v2:=v2.ext hxp;have hxlt:=aaj hxlt hxp.size;haveI:BlkLt xb w5:=⟨hxlt⟩;obtain ⟨yb,yo,rfl,hyb,hyc⟩:=hOp.rd.at i (by rw [aaJ,mN];exact hi);rw [abG,zY hi] at hyc;haveI:=hyb;have hk5:=hk.ext hE5;have hS5:=hS.ext hE5;obtain ⟨PL,hPL⟩:∃ PL,aL (L.take i)=PL:=⟨_,rfl⟩;rw [hPL] at hyc;obtain ⟨Q,hQ⟩:∃ Q,nb-y.2.length-4=Q:=⟨_,rfl⟩;have hPQ:48+PL=Q:=Zo;have hQi:(48:Int)+(PL:Int)=(Q:Int):=Zo;have hSQ:=hS5.take Q Zo;have hQc:Q<=cb:=Zo;have hQ0:(0:Int)<=(Q:Int):=Zo;have hQb:Q<=1280:=Zo;have hQ1:(Q:Int)<=(cb:Int):=Zo;have hat:=hat.out;rw [lb,hQ] at hat;have hop:=λ b' c' W H1 H2 H3=>wM ak b' p2 32 ck 2 c' n2 k2 ky [b.take Q,z.1] z.2 W H1 hck H2 Zo H3 m2 (by have:=v2.len;omega);have hAl:=Lib.hid (show (bH ky [b.take Q,z.1] z.2).1.length<=1280 from aaq kj (aaq hzl y1280));generalize bH ky [b.take Q,z.1] z.2=A at *;replace hat:=Lib.hid hat;clear hQ lb hSw h48 hpl hOp hPL hPQ hG4 hP4 hE4 hO4 hsz htk hyok hsp hzl hxp j1 j2 j3;go_wp2_with fail;(with_reducible refine (hop _ _ _ (hk5.ext (Ext.of_alloc _ _)) (s6 hSQ hQc v1 m1 _) (v2.ext (Ext.of_alloc _ _))).mono ?_);rintro e W7 ⟨p7,k7,rfl,hS7,hc7,hx7⟩;have hx7:Ext w5 W7:=(Ext.of_alloc _ _).trans hx7;have hxc:=(hx7.cell (p:=⟨xb,xo,none⟩) hxlt).trans hxc;have hE7:=hE5.trans hx7;have hP7:=hP5.extB hx7;have hG7:=hG5.extB hx7;have hO7:=hO5.ext hx7;have hxlt:=aaj hxlt hx7.size;clear v1 v2 hSQ hk5 hS5 hop hQi hQ0 hQ1 hQc hyc hE5 hP5 hG5 hO5 hx7;haveI:=hP7.blt;by_cases q8:A.2=0
      ·rw [q8];have hdf:=λ W H=>jh p7 A.1.length k7 A.1 W H hc7 (aaq hAl.out Zd);replace hat:=Lib.hid (show r=_ by rw [hat.out,aaf (by simpa using q8)]);clear q8;generalize A.1=D at *;go_wp2_with fail;(with_reducible refine (hdf W7 hS7).mono ?_);rintro e w8 ⟨b8,d8,rfl,hO8,hx8⟩;have hxc:=(hx8.cell (p:=⟨xb,xo,none⟩) hxlt).trans hxc;have hxlt:=aaj hxlt hx8.size;haveI:BlkLt xb w8:=⟨hxlt⟩;have hE8:=hE7.trans hx8;have hP8:=hP7.extB hx8;have hG8:=hG7.extB hx8;have hO7:=hO7.ext hx8;clear hE7 hP7 hG7 hS7 hx8 hdf;haveI:=hP8.blt;haveI:=hG8.blt;have g13:w8.cell? ⟨w1.heap.size,13,none⟩=some (Zy (some ⟨g0,o0,none⟩) L.length d1):=hG8.cell? 13 rfl;by_cases q9:(bj D).2=0
       ·rw [q9];have er:=Lib.hid (show r=(⟨H,L.take i,(bj D).1,true⟩,0) by rw [hat.out,aaf (by simpa using q9)]);clear q9 hat;generalize (bj D).1=S at *;have l1:(i:Int)<=(d1:Int):=Zo;have hil:i<=L.length:=Zo;have hGl:Rd w8 (some ⟨w1.heap.size,0,none⟩) [Zz Zx H.leap, Zz Zx H.ver, Zz Zx H.mode, Zz Zx H.strat, Zz Zx H.poll, Zz Zx H.prec, Zz Zv (n32 H.rd), Zz Zv (n32 H.rp), Zz Zv (n32 H.id), Zz Zw (n64 H.ref), Zz Zw (n64 H.org), Zz Zw (n64 H.rcv), Zz Zw (n64 H.tx)]:=Rd.left (vs:=[Zz Zx H.leap, Zz Zx H.ver, Zz Zx H.mode, Zz Zx H.strat, Zz Zx H.poll, Zz Zx H.prec, Zz Zv (n32 H.rd), Zz Zv (n32 H.rp), Zz Zv (n32 H.id), Zz Zw (n64 H.ref), Zz Zw (n64 H.org), Zz Zw (n64 H.rcv), Zz Zw (n64 H.tx)]) (us:=[Zy (some ⟨g0,o0,none⟩) L.length d1, Zy none 0 0, .bool false]) hG8.rd;clear q4 iq hi hi1 hy;go_wp2_with fail;refine ae 10 [[],[0],[],[2],[],[4],[4,5],[2,3,4,5,6],[],[0,1,2,3,4,5,6,7,8],[0,1,2,3,4,5,6,7,8,9],[0,1,2,3,4,5,6,7,8,9,10]] Zk Zk Zk Zk ?_;simp only [q8q,q9q,q10q,q11q,q12q,q13q];(repeat (apply aj;(case h=>(intro us w' hx hf;obtain ⟨x,rfl⟩:=hx.out;refine ⟨rfl,?_⟩;simp [go_sem,execOp, *];(try simp (disch:=omega) only [q17q,q18q,q19q]);rfl));(try simp only [Act.put,q0q,q1q,q2q])));(refine ay bc _ rfl (λ _=>rfl) w1.heap.size 0 (λ _=>by simp [go_sem]) _ hGl rfl ?_);(repeat (apply aj;(case h=>(intro us w' hx hf;obtain ⟨x,rfl⟩:=hx.out;refine ⟨rfl,?_⟩;simp [go_sem,execOp, *];(try simp (disch:=omega) only [q17q,q18q,q19q]);rfl));(try simp only [Act.put,q0q,q1q,q2q])));(refine aB ?_;intro us w' hx hf;obtain ⟨x,rfl⟩:=hx.out;(try simp only [Act.put,q0q,q1q,q2q,ai]);(try simp only [q3q,q4q,aar,aac,aan,q5q,q6q,q7q,aat,aau,aav] at hf);(try simp only [Nat.reduceAdd,aag] at hf ⊢));have hx9:Ext w8 (w8.ext x):=Ext.of_ext _ _;have hE9:=hE8.trans hx9;have hP9:=hP8.extB hx9;have hO7:=hO7.ext hx9;have hO8:=hO8.ext hx9;generalize w8.ext x=W9 at *;haveI:=hP9.blt;clear hf hx9 hE8 hP8 hG8 hGl g13
        go_wp2_with (first
         | (refine aa aV rfl _ _ rfl w.heap.size 0 rfl _ rfl 67 _ hP9 rfl Zs oC ?_;intro V hV hMV)
         | fail)
        refine aab (av Tryz.results48 aV _ _ w.heap.size 0 ([Zz Zx H.leap, Zz Zx H.ver, Zz Zx H.mode, Zz Zx H.strat, Zz Zx H.poll, Zz Zx H.prec, Zz Zv (n32 H.rd), Zz Zv (n32 H.rp), Zz Zv (n32 H.id), Zz Zw (n64 H.ref), Zz Zw (n64 H.org), Zz Zw (n64 H.rcv), Zz Zw (n64 H.tx), Zy (some ⟨g0,o0,none⟩) i d1, Zy b8 S.length d8, .bool true]) rfl hV.rd rfl (Zz Zx 0) rfl) rfl ?_;rw [er.out];exact ⟨_,_,_,_,_,_,rfl,(hO7.mut hP9 Zd Zs hMV).ib.1.take i hil,Zo,(hO8.mut hP9 Zd Zs hMV).ib.1,(hO8.mut hP9 Zd Zs hMV).ib.2,Below.trans hE9 (hMV.below (aae _) hE9.size)⟩
       ·have er:=Lib.hid (show r=(aQ,(bj D).2) by rw [hat.out,aal q9]);have i9:=ne0 q9;generalize (bj D).2=v9 at *;generalize (bj D).1=S at *;clear q9 hat
        go_wp2_with (first
         | (refine aa aV rfl _ _ rfl w.heap.size 0 rfl _ rfl 67 _ ((hP8.extB eX)) rfl Zs oC ?_;intro V hV hMV)
         | fail)
        refine aab (av Tryz.results48 aV _ _ w.heap.size 0 ([Zz Zx 0, Zz Zx 0, Zz Zx 0, Zz Zx 0, Zz Zx 0, Zz Zx 0, Zz Zv 0, Zz Zv 0, Zz Zv 0, Zz Zw 0, Zz Zw 0, Zz Zw 0, Zz Zw 0, Zy none 0 0, Zy none 0 0, .bool false]) rfl hV.rd rfl (Zz Zx v9) rfl) rfl ?_;rw [er.out];exact jy.err _ _ _ (Below.trans (hE8.trans eX) (hMV.below (aae _) (Below.size (hE8.trans eX))))
      ·have er:=Lib.hid (show r=(aQ,6) by rw [hat.out,aal q8]);have i8:=ne0 q8;generalize A.2=v8 at *;generalize A.1=D at *;clear q8 hat
       go_wp2_with (first
        | (refine aa aV rfl _ _ rfl w.heap.size 0 rfl _ rfl 67 _ ((hP7.extB eX)) rfl Zs oC ?_;intro V hV hMV)
        | fail)
       refine aab (av Tryz.results48 aV _ _ w.heap.size 0 ([Zz Zx 0, Zz Zx 0, Zz Zx 0, Zz Zx 0, Zz Zx 0, Zz Zx 0, Zz Zv 0, Zz Zv 0, Zz Zv 0, Zz Zw 0, Zz Zw 0, Zz Zw 0, Zz Zw 0, Zy none 0 0, Zy none 0 0, .bool false]) rfl hV.rd rfl (Zz Zx 6) rfl) rfl ?_;rw [er.out];exact jy.err _ _ _ (Below.trans (hE7.trans eX) (hMV.below (aae _) (Below.size (hE7.trans eX))))
    ·rw [aal Zo] at hat;have er:=Lib.hid hat;have iq:((i:Int) != (L.length:Int)-1)=true:=by rw [aax];omega
     clear hat;go_wp2_with fail;refine ae 8 [[],[0],[0,1],[],[3],[3,4],[3,4,5],[0,1,2,3,4,5,6]] Zk Zk Zk Zk ?_;simp only [q8q,q9q,q10q,q11q,q12q,q13q];(repeat (apply aj;(case h=>(intro us w' hx hf;obtain ⟨x,rfl⟩:=hx.out;refine ⟨rfl,?_⟩;simp [go_sem,execOp, *];(try simp (disch:=omega) only [q17q,q18q,q19q]);rfl));(try simp only [Act.put,q0q,q1q,q2q])));(refine aB ?_;intro us w' hx hf;obtain ⟨x,rfl⟩:=hx.out;(try simp only [Act.put,q0q,q1q,q2q,ai]);(try simp only [q3q,q4q,aar,aac,aan,q5q,q6q,q7q,aat,aau,aav] at hf);(try simp only [Nat.reduceAdd,aag] at hf ⊢))
     go_wp2_with (first
      | (refine aa aV rfl _ _ rfl w.heap.size 0 rfl _ rfl 67 _ ((hP3.extB eX)) rfl Zs oC ?_;intro V hV hMV)
      | fail)
     refine aab (av Tryz.results48 aV _ _ w.heap.size 0 ([Zz Zx 0, Zz Zx 0, Zz Zx 0, Zz Zx 0, Zz Zx 0, Zz Zx 0, Zz Zv 0, Zz Zv 0, Zz Zv 0, Zz Zw 0, Zz Zw 0, Zz Zw 0, Zz Zw 0, Zy none 0 0, Zy none 0 0, .bool false]) rfl hV.rd rfl (Zz Zx 3) rfl) rfl ?_;rw [er.out];exact jy.err _ _ _ (Below.trans (hE3.trans eX) (hMV.below (aae _) (Below.size (hE3.trans eX))))
  ·have er:=Lib.hid (show r=(aQ,(aC b).2) by rw [<- hr.out];exact og q1' q2);have i2:=ne0 q2;generalize (aC b).2=v at *;generalize (aC b).1.plain=L at *;generalize (aC b).1.h=H at *;clear q2
   go_wp2_with (first
    | (refine ag aV rfl rfl _ _ rfl rfl rfl rfl (by simp [Act.put]) _ rfl Zs rfl oC ?_;intro x hz _)
    | (refine aa aV rfl _ _ rfl w.heap.size 0 rfl _ rfl 67 _ ((hP1.extB eX)) rfl Zs oC ?_;intro V hV hMV)
    | fail)
   refine aab (av Tryz.results48 aV _ _ w.heap.size 0 ([Zz Zx 0, Zz Zx 0, Zz Zx 0, Zz Zx 0, Zz Zx 0, Zz Zx 0, Zz Zv 0, Zz Zv 0, Zz Zv 0, Zz Zw 0, Zz Zw 0, Zz Zw 0, Zz Zw 0, Zy none 0 0, Zy none 0 0, .bool false]) rfl hV.rd rfl (Zz Zx v) rfl) rfl ?_;rw [er.out];exact jy.err _ _ _ (Below.trans (hE1.trans eX) (hMV.below (aae _) (Below.size (hE1.trans eX))))
 ·have er:=Lib.hid (show r=(aQ,5) by rw [<- hr.out];exact qD Zo);have i1:((nk:Int) != 32)=true:=by rw [aax];omega
  clear lk lb q1
  go_enter Tryz.func48,Tryz.ntmps48
  go_wp2_with (first
   | (refine aa aV rfl _ _ rfl w.heap.size 0 rfl _ rfl 67 _ ((Blk.new w #[Zz Zx 0, Zz Zx 0, Zz Zx 0, Zz Zx 0, Zz Zx 0, Zz Zx 0, Zz Zv 0, Zz Zv 0, Zz Zv 0, Zz Zw 0, Zz Zw 0, Zz Zw 0, Zz Zw 0, Zy none 0 0, Zy none 0 0, .bool false] 67)) rfl Zs oC ?_;intro V hV hMV)
   | fail)
  refine aab (av Tryz.results48 aV _ _ w.heap.size 0 ([Zz Zx 0, Zz Zx 0, Zz Zx 0, Zz Zx 0, Zz Zx 0, Zz Zx 0, Zz Zv 0, Zz Zv 0, Zz Zv 0, Zz Zw 0, Zz Zw 0, Zz Zw 0, Zz Zw 0, Zy none 0 0, Zy none 0 0, .bool false]) rfl hV.rd rfl (Zz Zx 5) rfl) rfl ?_;rw [er.out];exact jy.err _ _ _ (Below.trans (Ext.of_alloc _ _) (hMV.below (aae _) Zs))
end Go.Proofs.YtmdahnkcnagkjaaGreat

/- The walks of layer 18: total, Length. -/
namespace Go.Pkt
def zw (l:List Int):Prop:=∃ x∈l,x<0\/1280<x
instance (l:List Int):Decidable (zw l):=by unfold zw;infer_instance
def ue (l:List Int):Nat:=(l.map λ x=>szN x.toNat).sum
def Ev (l:List Int):Int × Int:=if zw l then (0,4) else ((min (ue l) 1281:Nat),0)
def Cw (a b:Nat):Nat:=72+a+aI (16+b)
def Ex (a b:List Int):Int × Int :=
 if zw a\/zw b then (0,4) else if 1232<ue a\/1232<ue b\/1280<Cw (ue a) (ue b) then (0,2) else ((Cw (ue a) (ue b):Nat),0)
end Go.Pkt
namespace Go.Proofs.YtmdahnkcnagkjaaGreat
open Go.RowKit Go.Sec Go.Oct Go.Pkt Go.Aes BigFrame
end Go.Proofs.YtmdahnkcnagkjaaGreat

/- Layer 18: the sanity check. -/
namespace Go.Pkt
open Go.Oct Go.Aes Go.Sec
def p18:Pkt:=⟨bW 7,[],[],false⟩
def z32:List UInt8:=List.replicate 32 0
def z16:List UInt8:=List.replicate 16 0
def b18:List UInt8:=cJ p18.h++aT p18.plain++dt (1028,aD z16 (bL z32 p18 z16))
end Go.Pkt
namespace Go.Proofs.YtmdahnkcnagkjaaGreat
open Go.RowKit Go.Sec Go.Oct Go.Pkt Go.Aes BigFrame
end Go.Proofs.YtmdahnkcnagkjaaGreat

/- sectimeworld.Field, Fields. -/
namespace Go.Pkt
def Cv (s:Nat):Int:=[260,516,772,8192].getD s 0
def DW (x:Int × List UInt8) (m:Nat):Fld:=(Cv (x.1 % 4).toNat,x.2.take m)
def qi (L:List (Int × List UInt8)):List Fld:=(L.take 4).map λ x=>DW x 60
end Go.Pkt
namespace Go.Proofs.YtmdahnkcnagkjaaGreat
open Go.RowKit Go.Sec Go.Oct Go.Pkt BigFrame
def DB (f:Fld) (w:World)(e:Ending) (w':World):Prop:=∃ a c,e = .returned (.agg #[Zz Zx f.1, Zy a f.2.length c])/\Own w' 0 a f.2.length c f.2/\Ext w w'
end Go.Proofs.YtmdahnkcnagkjaaGreat

/- Layer 18: what the statements draw fits; the law ProtectHides. -/
namespace Go.Pkt
open Go.Oct Go.Aes Go.Sec
end Go.Pkt
namespace Go.Proofs.YtmdahnkcnagkjaaGreat
open Go.RowKit Go.Sec Go.Oct Go.Pkt Go.Aes Go.Sha BigFrame
theorem td (t:UInt64) (w:World) :
  Calls Tryz.prog 33 #[Zz Zw (n64 t)] w λ e w'=>e = .returned (.agg #[Zz Zx 0, Zz Zx 4, Zz Zx 3, Zz Zx 0, Zz Zx 6, Zz Zx 0, Zz Zv 0, Zz Zv 0, Zz Zv 0, Zz Zw 0, Zz Zw 0, Zz Zw 0, Zz Zw (n64 t)])/\Ext w w':=by
 go_enter Tryz.func33,Tryz.ntmps33
 go_wp2;refine aab (aX Tryz.results33 bc _ _ w.heap.size 0 ([Zz Zx 0, Zz Zx 4, Zz Zx 3, Zz Zx 0, Zz Zx 6, Zz Zx 0, Zz Zv 0, Zz Zv 0, Zz Zv 0, Zz Zw 0, Zz Zw 0, Zz Zw 0, Zz Zw (n64 t)]) rfl ((Blk.new _ _ _).rd) rfl) rfl ?_;exact ⟨rfl,eX⟩
def D9 (s:Nat) (t:UInt64) (A B:List (Int × List UInt8)):List UInt8:=cJ (bW t)++aT (qi A)++dt (1028,aD (gQ s 16) (bL (gQ s 32) ⟨bW t,qi A,qi B,false⟩ (gQ s 16)))
end Go.Proofs.YtmdahnkcnagkjaaGreat

/- sectimeref01.SameFields. -/
namespace Go.Proofs.YtmdahnkcnagkjaaGreat
open Go.RowKit Go.Sec Go.Oct Go.Pkt BigFrame
end Go.Proofs.YtmdahnkcnagkjaaGreat

/- sectimeref18.Same of equal packets. -/
namespace Go.Proofs.YtmdahnkcnagkjaaGreat
open Go.RowKit Go.Sec Go.Oct Go.Pkt BigFrame
end Go.Proofs.YtmdahnkcnagkjaaGreat

/- sectimeworld.Padded, AllPadded. -/
namespace Go.Proofs.YtmdahnkcnagkjaaGreat
open Go.RowKit Go.Sec Go.Oct Go.Pkt BigFrame
def Ea (w:World)(g:Nat):Nat:=match w.cell? ⟨g,1,none⟩ with|some (Zy _ m _)=>m|_=>0
end Go.Proofs.YtmdahnkcnagkjaaGreat

/- sectimeworld.AllPadded. -/
namespace Go.Proofs.YtmdahnkcnagkjaaGreat
open Go.RowKit Go.Sec Go.Oct Go.Pkt BigFrame
end Go.Proofs.YtmdahnkcnagkjaaGreat

/- Layer 18: the law ProtectOpens. -/
namespace Go.Pkt
open Go.Oct Go.Aes Go.Sec
def En (K N:List UInt8)(t:UInt64) (A B:List (Int × List UInt8)):List UInt8:=cJ (bW t)++aT (qi A)++dt (1028,aD N (bL K ⟨bW t,qi A,qi B,false⟩ N))
end Go.Pkt
namespace Go.Proofs.YtmdahnkcnagkjaaGreat
open Go.RowKit Go.Sec Go.Oct Go.Pkt Go.Aes Go.Sha BigFrame
end Go.Proofs.YtmdahnkcnagkjaaGreat

/- Layer 18: the law ProtectRefuses. -/
namespace Go.Pkt
open Go.Oct Go.Aes
theorem nw (b:List UInt8):(aC b).1.plain.length<=24/\(aC b).1.secret=[]/\(aC b).1.guarded=false:=by
 exact z42q27
theorem sR (ky b:List UInt8):(cT ky b).1.plain.length<=24/\(cT ky b).1.secret.length<=24:=by
 have hz:(aQ.plain.length<=24)/\aQ.secret.length<=24:=by simp [aQ]
 unfold cT;split
 ·exact hz
 ·split
  ·exact hz
  ·split
   ·exact hz
   ·split
    ·exact hz
    ·split
     ·exact hz
     ·split
      ·exact hz
      ·split
       ·exact hz
       ·rename_i h;refine ⟨?_,(nG (by simpa using h)).2.1⟩;have:=(nw b).1;simp only [aaF];omega
end Go.Pkt
namespace Go.Proofs.YtmdahnkcnagkjaaGreat
open Go.RowKit Go.Sec Go.Oct Go.Pkt Go.Aes Go.Sha BigFrame
end Go.Proofs.YtmdahnkcnagkjaaGreat
