/- Lemmas of this claim, several texts joined. -/
import Derived.Test.YtmdahnkcnagkjaaGreatZ45
set_option maxRecDepth 100000
open Go.Value renaming int -> Zz,slice -> Zy
open Go.IntKind renaming i64 -> Zx,u64 -> Zw,u32 -> Zv
open List renaming setIfInBounds_toArray -> q0q, set_cons_succ -> q1q, set_cons_zero -> q2q, take_succ_cons -> q8q, take_zero -> q9q, drop_succ_cons -> q10q, drop_zero -> q11q, take_nil -> q12q, drop_nil -> q13q
set_option maxHeartbeats 8000000
set_option linter.unusedVariables false
set_option linter.unusedSimpArgs false
/- The walks of layer 18 of the document: Open. -/
namespace Go.Pkt
theorem xK {b:E7} (h:(aE b).2=0):bj (b.drop 48)=((aE b).1.plain,0):=by
 by_cases h1:(bH b).2=0
 ·by_cases h2:(bj (bH b).1.2).2=0
  ·obtain ⟨a1,a2,a3⟩:=vE h1;rw [iR h1 h2,<- a3,<- h2]
  ·rw [ft h1 h2] at h;exact absurd h h2
 ·rw [fo h1] at h;exact absurd h h1
theorem Aq {A:List Fld} {i:Nat} (h:i<A.length):(mo A)[i]'(by rw [mZ];exact h)=((bf (A.take i):Nat):Int):=by
 unfold mo;simp
end Go.Pkt
namespace Go.Proofs.P9
open Go.RowKit Go.Sec Go.Oct Go.Pkt Go.Aes BigFrame
def PtV (r:Option (E7 × E7)) (p:Par):Value := .tuple #[.slice (p 0).1 (p 3).2 (p 0).2, .slice (p 1).1 (p 4).2 (p 1).2, .bool r.isSome]
def PtR (r:Option (E7 × E7)) (p:Par) (w:World):Prop:=∀ x,r=some x->Sl w (p 0).1 (p 3).2 x.1/\(p 3).2<=(p 0).2/\Sl w (p 1).1 (p 4).2 x.2/\(p 4).2<=(p 1).2
theorem PtR.ext {r:Option (E7 × E7)} {p:Par} {w w':World} (h:PtR r p w) (hx:Ext w w'):PtR r p w':=λ x e=>by
 obtain ⟨h1,h2,h3,h4⟩:=h x e;exact ⟨h1.ext hx,h2,h3.ext hx,h4⟩
theorem xT {r:Option (E7 × E7)} {f:FuncId} {args:Array Value} {w:World} (h:Calls Tryz.prog f args w (fD r w)):Calls Tryz.prog f args w λ e w'=>∃ v,e = .returned v/\∃ p:Par,v=PtV r p/\Ext w w'/\PtR r p w':=by
 refine h.mono ?_;rintro e w' ⟨a1,n1,c1,a2,n2,c2,rfl,hp,hx⟩;exact ⟨_,rfl,λ i=>if i=0 then (a1,c1) else if i=1 then (a2,c2) else if i=3 then (none,n1) else (none,n2),rfl,hx,hp⟩
theorem pN (ak ab:E8)(nk ck nb cb:Nat) (ky b:E7)(w:World)(hk:Sl w ak nk ky) (hck:nk<=ck) (hS:Sl w ab nb b) (hcb:nb<=cb) (hn:nb<=1000000) :
  Calls Tryz.prog 48 #[Zy ak nk ck, Zy ab nb cb] w (jB (cV ky b) w):=by
 have lk:=hk.len;have lb:=hS.len;have hrd:=λ W H=>lv ab nb cb b W H hcb hn;obtain ⟨r,hr⟩:∃ r,cV ky b=r:=⟨_,rfl⟩;rw [hr];have hr:=FC hr;by_cases q1:nk=32
 ·have q1':ky.length=32:=by omega
  subst q1
  go_enter Tryz.func48,Tryz.ntmps48
  go_wp2_with fail;refine br ?_;intro W hW;have hE:Ext w W:=by rw [hW];exact eX
  have hP:Blk W w.heap.size 67 [Zz Zx 0, Zz Zx 0, Zz Zx 0, Zz Zx 0, Zz Zx 0, Zz Zx 0, Zz Zv 0, Zz Zv 0, Zz Zv 0, Zz Zw 0, Zz Zw 0, Zz Zw 0, Zz Zw 0, Zy none 0 0, Zy none 0 0, .bool false]:=by rw [hW];exact bK
  clear hW;(with_reducible refine (hrd W (hS.ext hE)).mono ?_);rintro e w1 ⟨b1,d1,rfl,⟨B1,hO1⟩,hx1⟩;have hE1:=hE.trans hx1;have hP1:=hP.extB hx1;have hlt:=hP1.lt;haveI:=hP1.blt;clear hE hP hx1 hrd;by_cases q2:(aE b).2=0
  ·rw [q2];have hsp:=lu q2;have hfl:=λ f hf=>gy q2 (f:=f) hf;have hso:=λ i h=>oJ (i:=i) q1' q2 h;have hno:=λ h=>ox q1' q2 h;have hdF:=xK q2;unfold uV at hso;generalize (aE b).1.plain=L at *;generalize (aE b).1.h=H at *
   go_wp2_with (first
    | ((refine ag aK rfl rfl _ _ rfl rfl rfl rfl (by simp [Act.put]) _ rfl Zs rfl oC ?_;intro x hz _);haveI:=hz.blt;have f13:=hz.cell? 13 rfl)
    | fail)
   refine br ?_;intro W2 hW2;have hx2:Ext w1 W2:=by rw [hW2];exact eX
   have hG:Blk W2 w1.heap.size 67 [Zz Zx H.leap, Zz Zx H.ver, Zz Zx H.mode, Zz Zx H.strat, Zz Zx H.poll, Zz Zx H.prec, Zz Zv (n32 H.rd), Zz Zv (n32 H.rp), Zz Zv (n32 H.id), Zz Zw (n64 H.ref), Zz Zw (n64 H.org), Zz Zw (n64 H.rcv), Zz Zw (n64 H.tx), Zy b1 L.length d1, Zy none 0 0, .bool false]:=by rw [hW2];exact hz.extB eX
   have hP2:=hP1.extB hx2;have hE2:=hE1.trans hx2;have hO2:=hO1.ext hx2;clear hW2 hx2 hE1 hP1 hO1 f13 hz;(with_reducible refine (jj 1028 b1 L.length d1 L W2 hO2.ib.1 Zo).mono ?_);rintro e w3 ⟨bx,dx,rfl,hOx,hx3⟩;have hG3:=hG.extB hx3;have hP3:=hP2.extB hx3;have hE3:=hE2.trans hx3;have hO3:=hO2.ext hx3;clear hG hP2 hE2 hO2 hx3;have hdc:L.length<=d1:=hO3.ib.2;haveI:=hP3.blt;haveI:=hG3.blt;have f13:w3.cell? ⟨w1.heap.size,13,none⟩=some (Zy b1 L.length d1):=hG3.cell? 13 rfl;cases q3:e9 1028 L with
   | none =>
    have er:=FC (show r=(aP,10) by rw [<- hr.out];exact hno q3);have hix:ixs 1028 L L.length=[]:=List.head?_eq_none_iff.1 q3;rw [hix] at hOx ⊢;clear hix q3 hno hso
    go_wp2_with (first
     | (refine aa aK rfl _ _ rfl w.heap.size 0 rfl _ rfl 67 _ ((hP3.extB eX)) rfl Zs oC ?_;intro V hV hMV)
     | fail)
    refine aaa (aj Tryz.results48 aK _ _ w.heap.size 0 _ rfl hV.rd rfl (Zz Zx 10) rfl) rfl ?_;rw [er.out];exact jB.err _ _ _ (E9 (hE3.trans eX) (hMV.below (aad _) (Below.size (hE3.trans eX))))
   | some i =>
    have hi:=qM q3;have hat:=hso i q3;rw [hr.out] at hat;obtain ⟨rest,hix⟩:∃ rest,ixs 1028 L L.length=i :: rest:=by
     unfold e9 at q3;cases hc:ixs 1028 L L.length with
     | nil=>rw [hc] at q3;cases q3
     | cons y R=>rw [hc] at q3;injection q3 with q3;subst q3;exact ⟨R,rfl⟩
    rw [hix] at hOx ⊢;obtain ⟨M,hM⟩:∃ M,(i :: rest).length=M:=⟨_,rfl⟩;have hM0:0<M:=by rw [<- hM];simp
    have hMi:¬ (M:Int)=0:=Zo;have hrdx:=hOx.rd;rw [hM] at hOx ⊢;obtain ⟨xb,xo,rfl,hxb,hxc⟩:=hrdx.at 0 Zs;have hxc:w3.cell? ⟨xb,xo,none⟩=some (Zz Zx (i:Int)):=hxc;haveI:=hxb;have hxlt:=hxb.lt;clear q3 hno hso hM hix hOx hrdx;by_cases q4:i+1=L.length
    ·rw [aae Zo] at hat;replace hat:=FC hat;have iq:((i:Int) != (L.length:Int)-1)=false:=by rw [aaf];omega
     obtain ⟨y,hy⟩:∃ y,L[i]?=some y:=⟨_,List.getElem?_eq_getElem hi⟩;obtain ⟨y52,y1280⟩:=hfl y (List.mem_of_getElem? hy);have hyok:=hsp.2.2.2.2 y (List.mem_of_getElem? hy);have htk:bf L=bf (L.take i)+szN y.2.length:=by
      have:=eO (L.take i) y
      rwa [<- nO hy,q4,aah (aad _)] at this
     have hsz:szN y.2.length=y.2.length+4:=by unfold szN;omega
     replace hat:=FC (show r=_ by rw [hat.out,jm hy]);have hi0:(0:Int)<=(i:Int):=Zo;have hi1:(i:Int)<(L.length:Int):=Zo;clear hfl;go_wp2_with fail;refine R2.ae 8 [[],[0],[0,1],[],[3],[3,4],[3,4,5],[0,1,2,3,4,5,6]] [] (λ h=>(h rfl).elim) Zk Zk Zk Zk Zk ?_;simp only [q8q,q9q,q10q,q11q,q12q,q13q];(repeat (refine R2.av ?_;(try simp only [Act.put,q0q,q1q,q2q])));(refine R2.aU ?_;intro us x hx hf);have hxa:Ext w3 (w3.ext x):=FE _ _;have hxc:=(hxa.cell (p:=⟨xb,xo,none⟩) hxlt).trans hxc;have hG3:=hG3.extB hxa;have hP3:=hP3.extB hxa;have hE3:=hE3.trans hxa;have hO3:=hO3.ext hxa;have hxlt:=aai hxlt hxa.size;clear f13;generalize w3.ext x=w3 at *;haveI:BlkLt xb w3:=⟨hxlt⟩;haveI:=hP3.blt;haveI:=hG3.blt;have f13:w3.cell? ⟨w1.heap.size,13,none⟩=some (Zy b1 L.length d1):=hG3.cell? 13 rfl;obtain ⟨g0,o0,g',c',rfl,hb0,hc0,hc1,hSk,hcy⟩:=hO3.ib.1.at i hi _ hy;haveI:=hb0;have hpa:=λ W H=>uC g' y.2.length c' y.2 W H hcy Zo;go_wp2_with fail;refine R2.ae 15 [[],[0],[],[2],[2,3],[0,1,2,3,4],[0,1,2,3,4,5],[0,1,2,3,4,5,6],[0,1,2,3,4,5,6,7],[0,1,2,3,4,5,6,7,8],[0,1,2,3,4,5,6,7,8,9],[0,1,2,3,4,5,6,7,8,9],[0,1,2,3,4,5,6,7,8,9],[0,1,2,3,4,5,6,7,8,9,10],[0,1,2,3,4,5,6,7,8,9,10,11,13],[0,1,2,3,4,5,6,7,8,9,10,11,12,13,14]] [] (λ h=>(h rfl).elim) Zk Zk Zk Zk Zk ?_;simp only [q8q,q9q,q10q,q11q,q12q,q13q];(repeat (refine R2.av ?_;(try simp only [Act.put,q0q,q1q,q2q])));(refine R2.ai (PtV (cZ y.2)) (PtR (cZ y.2)) (λ p w w' h hx=>h.ext hx) (λ us w' hx hf=>⟨rfl,?_⟩) ?_;(unfold gives;simp [go_sem,execOp];exact xT (hpa _ (hSk.ext hx))));(repeat (refine R2.av ?_;(try simp only [Act.put,q0q,q1q,q2q])));(refine R2.aU ?_;intro us x hx hf);have hps:∀ z,cZ y.2=some z->Sl (w3.ext x) (us 8 0).1 (us 8 3).2 z.1/\(us 8 3).2<=(us 8 0).2/\Sl (w3.ext x) (us 8 1).1 (us 8 4).2 z.2/\(us 8 4).2<=(us 8 1).2:=hf;simp only [PtV];obtain ⟨p1,e_p1⟩:∃ a,(us 8 0).1=a:=⟨_,rfl⟩;obtain ⟨k1,e_k1⟩:∃ a,(us 8 0).2=a:=⟨_,rfl⟩;obtain ⟨p2,e_p2⟩:∃ a,(us 8 1).1=a:=⟨_,rfl⟩;obtain ⟨k2,e_k2⟩:∃ a,(us 8 1).2=a:=⟨_,rfl⟩;obtain ⟨n1,e_n1⟩:∃ a,(us 8 3).2=a:=⟨_,rfl⟩;obtain ⟨n2,e_n2⟩:∃ a,(us 8 4).2=a:=⟨_,rfl⟩;rw [e_p1,e_k1,e_p2,e_k2,e_n1,e_n2] at hps;rw [e_p1,e_k1,e_p2,e_k2,e_n1,e_n2];have hxa:Ext w3 (w3.ext x):=FE _ _;have hxc:=(hxa.cell (p:=⟨xb,xo,none⟩) hxlt).trans hxc;have hG4:=hG3.extB hxa;have hP4:=hP3.extB hxa;have hE4:=hE3.trans hxa;have hO4:=hO3.ext hxa;have hxlt:=aai hxlt hxa.size;clear f13 hf hc0 hc1 hSk hpa e_p1 e_k1 e_p2 e_k2 e_n1 e_n2;generalize w3.ext x=w4 at *;haveI:BlkLt xb w4:=⟨hxlt⟩;haveI:=hP4.blt;haveI:=hG4.blt;clear hG3 hP3 hE3 hO3 hxa;cases q5:cZ y.2 with
     | none =>
      have er:=FC (show r=(aP,3) by rw [hat.out,q5]);clear q5 hps
      go_wp2_with (first
       | (refine aa aK rfl _ _ rfl w.heap.size 0 rfl _ rfl 67 _ ((hP4.extB eX)) rfl Zs oC ?_;intro V hV hMV)
       | fail)
      refine aaa (aj Tryz.results48 aK _ _ w.heap.size 0 _ rfl hV.rd rfl (Zz Zx 3) rfl) rfl ?_;rw [er.out];exact jB.err _ _ _ (E9 (hE4.trans eX) (hMV.below (aad _) (Below.size (hE4.trans eX))))
     | some z =>
      obtain ⟨v1,m1,v2,m2⟩:=hps z q5;have hzl:=kF q5;replace hat:=FC (show r=_ by rw [hat.out,q5]);clear q5 hps;have hSw:=hS.ext hE4;obtain ⟨sb,so,rfl,hsb, -⟩:=hSw.at 0 Zo;have h48:=nz hSw hcb (i:=48) Zo;have hpl:=λ W H=>rR (some ⟨sb,so+48,none⟩) (nb-48) (cb-48) (b.drop 48) W H Zo Zo;rw [hdF] at hpl;have j1:(48:Int)<=(nb:Int):=Zo;have j2:(48:Int)<=(cb:Int):=Zo;have j3:¬ cb=48:=Zo;go_wp2_with fail;(with_reducible refine (hpl _ h48).mono ?_);rintro e w5 ⟨bp,dp,rfl,hOp,hxp⟩;have hOp:fA w5 w4.heap.size bp L.length dp (mo L):=hOp;have hxc:=(hxp.cell (p:=⟨xb,xo,none⟩) hxlt).trans hxc;have hG5:=hG4.extB hxp;have hP5:=hP4.extB hxp;have hE5:=hE4.trans hxp;have hO5:=hO4.ext hxp;have v1:=v1.ext hxp;have v2:=v2.ext hxp;have hxlt:=aai hxlt hxp.size;haveI:BlkLt xb w5:=⟨hxlt⟩;obtain ⟨yb,yo,rfl,hyb,hyc⟩:=hOp.rd.at i (by rw [aaC,mZ];exact hi);rw [abp,Aq hi] at hyc;haveI:=hyb;have hk5:=hk.ext hE5;have hS5:=hS.ext hE5;obtain ⟨PL,hPL⟩:∃ PL,bf (L.take i)=PL:=⟨_,rfl⟩;rw [hPL] at hyc;obtain ⟨Q,hQ⟩:∃ Q,nb-y.2.length-4=Q:=⟨_,rfl⟩;have hPQ:48+PL=Q:=Zo;have hQi:(48:Int)+(PL:Int)=(Q:Int):=Zo;have hSQ:=hS5.take Q Zo;have hQc:Q<=cb:=Zo;have hQ0:(0:Int)<=(Q:Int):=Zo;have hQb:Q<=1280:=Zo;have hQ1:(Q:Int)<=(cb:Int):=Zo;have hat:=hat.out;rw [lb,hQ] at hat;have hop:=λ b' c' W H1 H2 H3=>qp ak b' p2 32 ck 2 c' n2 k2 ky [b.take Q,z.1] z.2 W H1 hck H2 Zo H3 m2 (by have:=v2.len;omega);have hAl:=FC (show (bL ky [b.take Q,z.1] z.2).1.length<=1280 from aal iT (aal hzl y1280));generalize bL ky [b.take Q,z.1] z.2=A at *;replace hat:=FC hat;clear hQ lb hSw h48 hpl hOp hPL hPQ hG4 hP4 hE4 hO4 hsz htk hyok hsp hzl hxp j1 j2 j3;go_wp2_with fail;(with_reducible refine (hop _ _ _ (hk5.ext (FA _ _)) (sm hSQ hQc v1 m1 _) (v2.ext (FA _ _))).mono ?_);rintro e W7 ⟨p7,k7,rfl,hS7,hc7,hx7⟩;have hx7:Ext w5 W7:=(FA _ _).trans hx7;have hxc:=(hx7.cell (p:=⟨xb,xo,none⟩) hxlt).trans hxc;have hE7:=hE5.trans hx7;have hP7:=hP5.extB hx7;have hG7:=hG5.extB hx7;have hO7:=hO5.ext hx7;have hxlt:=aai hxlt hx7.size;clear v1 v2 hSQ hk5 hS5 hop hQi hQ0 hQ1 hQc hyc hE5 hP5 hG5 hO5 hx7;haveI:=hP7.blt;by_cases q8:A.2=0
      ·rw [q8];have hdf:=λ W H=>jv p7 A.1.length k7 A.1 W H hc7 (aal hAl.out Zd);replace hat:=FC (show r=_ by rw [hat.out,aae (by simpa using q8)]);clear q8;generalize A.1=D at *;go_wp2_with fail;(with_reducible refine (hdf W7 hS7).mono ?_);rintro e w8 ⟨b8,d8,rfl,hO8,hx8⟩;have hxc:=(hx8.cell (p:=⟨xb,xo,none⟩) hxlt).trans hxc;have hxlt:=aai hxlt hx8.size;haveI:BlkLt xb w8:=⟨hxlt⟩;have hE8:=hE7.trans hx8;have hP8:=hP7.extB hx8;have hG8:=hG7.extB hx8;have hO7:=hO7.ext hx8;clear hE7 hP7 hG7 hS7 hx8 hdf;haveI:=hP8.blt;haveI:=hG8.blt;have g13:w8.cell? ⟨w1.heap.size,13,none⟩=some (Zy (some ⟨g0,o0,none⟩) L.length d1):=hG8.cell? 13 rfl;by_cases q9:(bj D).2=0
       ·rw [q9];have er:=FC (show r=(⟨H,L.take i,(bj D).1,true⟩,0) by rw [hat.out,aae (by simpa using q9)]);clear q9 hat;generalize (bj D).1=S at *;have l1:(i:Int)<=(d1:Int):=Zo;have hil:i<=L.length:=Zo;have hGl:Rd w8 (some ⟨w1.heap.size,0,none⟩) [Zz Zx H.leap, Zz Zx H.ver, Zz Zx H.mode, Zz Zx H.strat, Zz Zx H.poll, Zz Zx H.prec, Zz Zv (n32 H.rd), Zz Zv (n32 H.rp), Zz Zv (n32 H.id), Zz Zw (n64 H.ref), Zz Zw (n64 H.org), Zz Zw (n64 H.rcv), Zz Zw (n64 H.tx)]:=Rd.left (vs:=[Zz Zx H.leap, Zz Zx H.ver, Zz Zx H.mode, Zz Zx H.strat, Zz Zx H.poll, Zz Zx H.prec, Zz Zv (n32 H.rd), Zz Zv (n32 H.rp), Zz Zv (n32 H.id), Zz Zw (n64 H.ref), Zz Zw (n64 H.org), Zz Zw (n64 H.rcv), Zz Zw (n64 H.tx)]) (us:=[Zy (some ⟨g0,o0,none⟩) L.length d1, Zy none 0 0, .bool false]) hG8.rd;clear q4 iq hi hi1 hy;go_wp2_with fail;refine R2.ae 10 [[],[0],[],[2],[],[4],[4,5],[2,3,4,5,6],[],[0,1,2,3,4,5,6,7,8],[0,1,2,3,4,5,6,7,8,9],[0,1,2,3,4,5,6,7,8,9,10]] [] (λ h=>(h rfl).elim) Zk Zk Zk Zk Zk ?_;simp only [q8q,q9q,q10q,q11q,q12q,q13q];(repeat (refine R2.av ?_;(try simp only [Act.put,q0q,q1q,q2q])));(refine R2.ao aJ _ rfl (λ _=>rfl) w1.heap.size 0 (λ _=>by simp [go_sem]) _ hGl rfl ?_);(repeat (refine R2.av ?_;(try simp only [Act.put,q0q,q1q,q2q])));(refine R2.aU ?_;intro us x hx hf);have hx9:Ext w8 (w8.ext x):=FE _ _;have hE9:=hE8.trans hx9;have hP9:=hP8.extB hx9;have hO7:=hO7.ext hx9;have hO8:=hO8.ext hx9;generalize w8.ext x=W9 at *;haveI:=hP9.blt;clear hf hx9 hE8 hP8 hG8 hGl g13
        go_wp2_with (first
         | (refine aa aK rfl _ _ rfl w.heap.size 0 rfl _ rfl 67 _ hP9 rfl Zs oC ?_;intro V hV hMV)
         | fail)
        refine aaa (aj Tryz.results48 aK _ _ w.heap.size 0 _ rfl hV.rd rfl (Zz Zx 0) rfl) rfl ?_;rw [er.out];exact ⟨_,_,_,_,_,_,rfl,(hO7.mut hP9 Zd Zs hMV).ib.1.take i hil,Zo,(hO8.mut hP9 Zd Zs hMV).ib.1,(hO8.mut hP9 Zd Zs hMV).ib.2,E9 hE9 (hMV.below (aad _) hE9.size)⟩
       ·have er:=FC (show r=(aP,(bj D).2) by rw [hat.out,aaj q9]);have i9:=ne0 q9;generalize (bj D).2=v9 at *;generalize (bj D).1=S at *;clear q9 hat
        go_wp2_with (first
         | (refine aa aK rfl _ _ rfl w.heap.size 0 rfl _ rfl 67 _ ((hP8.extB eX)) rfl Zs oC ?_;intro V hV hMV)
         | fail)
        refine aaa (aj Tryz.results48 aK _ _ w.heap.size 0 _ rfl hV.rd rfl (Zz Zx v9) rfl) rfl ?_;rw [er.out];exact jB.err _ _ _ (E9 (hE8.trans eX) (hMV.below (aad _) (Below.size (hE8.trans eX))))
      ·have er:=FC (show r=(aP,6) by rw [hat.out,aaj q8]);have i8:=ne0 q8;generalize A.2=v8 at *;generalize A.1=D at *;clear q8 hat
       go_wp2_with (first
        | (refine aa aK rfl _ _ rfl w.heap.size 0 rfl _ rfl 67 _ ((hP7.extB eX)) rfl Zs oC ?_;intro V hV hMV)
        | fail)
       refine aaa (aj Tryz.results48 aK _ _ w.heap.size 0 _ rfl hV.rd rfl (Zz Zx 6) rfl) rfl ?_;rw [er.out];exact jB.err _ _ _ (E9 (hE7.trans eX) (hMV.below (aad _) (Below.size (hE7.trans eX))))
    ·rw [aaj Zo] at hat;have er:=FC hat;have iq:((i:Int) != (L.length:Int)-1)=true:=by rw [aao];omega
     clear hat;go_wp2_with fail;refine R2.ae 8 [[],[0],[0,1],[],[3],[3,4],[3,4,5],[0,1,2,3,4,5,6]] [] (λ h=>(h rfl).elim) Zk Zk Zk Zk Zk ?_;simp only [q8q,q9q,q10q,q11q,q12q,q13q];(repeat (refine R2.av ?_;(try simp only [Act.put,q0q,q1q,q2q])));(refine R2.aU ?_;intro us x hx hf)
     go_wp2_with (first
      | (refine aa aK rfl _ _ rfl w.heap.size 0 rfl _ rfl 67 _ ((hP3.extB eX)) rfl Zs oC ?_;intro V hV hMV)
      | fail)
     refine aaa (aj Tryz.results48 aK _ _ w.heap.size 0 _ rfl hV.rd rfl (Zz Zx 3) rfl) rfl ?_;rw [er.out];exact jB.err _ _ _ (E9 (hE3.trans eX) (hMV.below (aad _) (Below.size (hE3.trans eX))))
  ·have er:=FC (show r=(aP,(aE b).2) by rw [<- hr.out];exact om q1' q2);have i2:=ne0 q2;generalize (aE b).2=v at *;generalize (aE b).1.plain=L at *;generalize (aE b).1.h=H at *;clear q2
   go_wp2_with (first
    | (refine ag aK rfl rfl _ _ rfl rfl rfl rfl (by simp [Act.put]) _ rfl Zs rfl oC ?_;intro x hz _)
    | (refine aa aK rfl _ _ rfl w.heap.size 0 rfl _ rfl 67 _ ((hP1.extB eX)) rfl Zs oC ?_;intro V hV hMV)
    | fail)
   refine aaa (aj Tryz.results48 aK _ _ w.heap.size 0 _ rfl hV.rd rfl (Zz Zx v) rfl) rfl ?_;rw [er.out];exact jB.err _ _ _ (E9 (hE1.trans eX) (hMV.below (aad _) (Below.size (hE1.trans eX))))
 ·have er:=FC (show r=(aP,5) by rw [<- hr.out];exact rh Zo);have i1:((nk:Int) != 32)=true:=by rw [aao];omega
  clear lk lb q1
  go_enter Tryz.func48,Tryz.ntmps48
  go_wp2_with (first
   | (refine aa aK rfl _ _ rfl w.heap.size 0 rfl _ rfl 67 _ ((Blk.new w #[Zz Zx 0, Zz Zx 0, Zz Zx 0, Zz Zx 0, Zz Zx 0, Zz Zx 0, Zz Zv 0, Zz Zv 0, Zz Zv 0, Zz Zw 0, Zz Zw 0, Zz Zw 0, Zz Zw 0, Zy none 0 0, Zy none 0 0, .bool false] 67)) rfl Zs oC ?_;intro V hV hMV)
   | fail)
  refine aaa (aj Tryz.results48 aK _ _ w.heap.size 0 _ rfl hV.rd rfl (Zz Zx 5) rfl) rfl ?_;rw [er.out];exact jB.err _ _ _ (E9 (FA _ _) (hMV.below (aad _) Zs))
end Go.Proofs.P9

/- The walks of layer 18: total, Length. -/
namespace Go.Pkt
def yU (l:List Int):Prop:=∃ x∈l,x<0\/1280<x
instance (l:List Int):Decidable (yU l):=by unfold yU;infer_instance
def uw (l:List Int):Nat:=(l.map λ x=>szN x.toNat).sum
def EV (l:List Int):Int × Int:=if yU l then (0,4) else ((min (uw l) 1281:Nat),0)
def Dc (a b:Nat):Nat:=72+a+aG (16+b)
def EM (a b:List Int):Int × Int :=
 if yU a\/yU b then (0,4) else if 1232<uw a\/1232<uw b\/1280<Dc (uw a) (uw b) then (0,2) else ((Dc (uw a) (uw b):Nat),0)
end Go.Pkt
namespace Go.Proofs.P9
open Go.RowKit Go.Sec Go.Oct Go.Pkt Go.Aes BigFrame
end Go.Proofs.P9

/- Layer 18: the sanity check. -/
namespace Go.Pkt
open Go.Oct Go.Aes Go.Sec
def p18:Pkt:=⟨bW 7,[],[],false⟩
def z32:E7:=List.replicate 32 0
def z16:E7:=List.replicate 16 0
def b18:E7:=dg p18.h++aQ p18.plain++dt (1028,aA z16 (bM z32 p18 z16))
end Go.Pkt
namespace Go.Proofs.P9
open Go.RowKit Go.Sec Go.Oct Go.Pkt Go.Aes BigFrame
end Go.Proofs.P9

/- sectimeworld.Field, Fields. -/
namespace Go.Pkt
def Db (s:Nat):Int:=[260,516,772,8192].getD s 0
def D3 (x:Int × E7) (m:Nat):Fld:=(Db (x.1 % 4).toNat,x.2.take m)
def qX (L:List (Int × E7)):List Fld:=(L.take 4).map λ x=>D3 x 60
end Go.Pkt
namespace Go.Proofs.P9
open Go.RowKit Go.Sec Go.Oct Go.Pkt BigFrame
def DH (f:Fld) (w:World)(e:Ending) (w':World):Prop:=∃ a c,e = .returned (.agg #[Zz Zx f.1, Zy a f.2.length c])/\Own w' 0 a f.2.length c f.2/\Ext w w'
end Go.Proofs.P9

/- Layer 18: what the statements draw fits; the law ProtectHides. -/
namespace Go.Pkt
open Go.Oct Go.Aes Go.Sec
end Go.Pkt
namespace Go.Proofs.P9
open Go.RowKit Go.Sec Go.Oct Go.Pkt Go.Aes Go.Sha BigFrame
theorem zl (t:UInt64) (w:World) :
  Calls Tryz.prog 33 #[Zz Zw (n64 t)] w λ e w'=>e = .returned (.agg #[Zz Zx 0, Zz Zx 4, Zz Zx 3, Zz Zx 0, Zz Zx 6, Zz Zx 0, Zz Zv 0, Zz Zv 0, Zz Zv 0, Zz Zw 0, Zz Zw 0, Zz Zw 0, Zz Zw (n64 t)])/\Ext w w':=by
 go_enter Tryz.func33,Tryz.ntmps33
 go_wp2;refine aaa (aL Tryz.results33 aJ _ _ w.heap.size 0 _ rfl ((Blk.new _ _ _).rd) rfl) rfl ?_;exact ⟨rfl,eX⟩
def Eo (s:Nat) (t:UInt64) (A B:List (Int × E7)):E7:=dg (bW t)++aQ (qX A)++dt (1028,aA (gE s 16) (bM (gE s 32) ⟨bW t,qX A,qX B,false⟩ (gE s 16)))
end Go.Proofs.P9

/- sectimeref01.SameFields. -/
namespace Go.Proofs.P9
open Go.RowKit Go.Sec Go.Oct Go.Pkt BigFrame
end Go.Proofs.P9

/- sectimeref18.Same of equal packets. -/
namespace Go.Proofs.P9
open Go.RowKit Go.Sec Go.Oct Go.Pkt BigFrame
end Go.Proofs.P9

/- sectimeworld.Padded, AllPadded. -/
namespace Go.Proofs.P9
open Go.RowKit Go.Sec Go.Oct Go.Pkt BigFrame
def Eg (w:World)(g:Nat):Nat:=match w.cell? ⟨g,1,none⟩ with|some (Zy _ m _)=>m|_=>0
end Go.Proofs.P9

/- sectimeworld.AllPadded. -/
namespace Go.Proofs.P9
open Go.RowKit Go.Sec Go.Oct Go.Pkt BigFrame
end Go.Proofs.P9

/- Layer 18: the law ProtectOpens. -/
namespace Go.Pkt
open Go.Oct Go.Aes Go.Sec
def Eh (K N:E7)(t:UInt64) (A B:List (Int × E7)):E7:=dg (bW t)++aQ (qX A)++dt (1028,aA N (bM K ⟨bW t,qX A,qX B,false⟩ N))
end Go.Pkt
namespace Go.Proofs.P9
open Go.RowKit Go.Sec Go.Oct Go.Pkt Go.Aes Go.Sha BigFrame
end Go.Proofs.P9

/- Layer 18: the law ProtectRefuses. -/
namespace Go.Pkt
open Go.Oct Go.Aes
theorem nf (b:E7):(aE b).1.plain.length<=24/\(aE b).1.secret=[]/\(aE b).1.guarded=false:=by
 exact z43q26
theorem sJ (ky b:E7):(cV ky b).1.plain.length<=24/\(cV ky b).1.secret.length<=24:=by
 have hz:(aP.plain.length<=24)/\aP.secret.length<=24:=by simp [aP]
 unfold cV;split
 ·exact hz
 ·split
  ·exact hz
  ·split
   ·exact hz
   ·split
    ·exact hz
    ·split
     ·exact hz
     ·split
      ·exact hz
      ·split
       ·exact hz
       ·rename_i h;refine ⟨?_,(nU (by simpa using h)).2.1⟩;have:=(nf b).1;simp only [aat];omega
end Go.Pkt
namespace Go.Proofs.P9
open Go.RowKit Go.Sec Go.Oct Go.Pkt Go.Aes Go.Sha BigFrame
end Go.Proofs.P9

/- Layer 18 of the document: Read, with the fields in a row of the call's own. -/
namespace Go.Proofs.P9
open Go.RowKit Go.Sec Go.Oct Go.Pkt Go.Aes BigFrame
def mr (r:Pkt × Int) (w:World)(e:Ending) (w':World):Prop:=∃ a1 c1 B,e = .returned (.tuple #[.agg #[Zz Zx r.1.h.leap, Zz Zx r.1.h.ver, Zz Zx r.1.h.mode, Zz Zx r.1.h.strat, Zz Zx r.1.h.poll, Zz Zx r.1.h.prec, Zz Zv (n32 r.1.h.rd), Zz Zv (n32 r.1.h.rp), Zz Zv (n32 r.1.h.id), Zz Zw (n64 r.1.h.ref), Zz Zw (n64 r.1.h.org), Zz Zw (n64 r.1.h.rcv), Zz Zw (n64 r.1.h.tx), Zy a1 r.1.plain.length c1, Zy none 0 0, .bool false], Zz Zx r.2]) /\
 w.heap.size<=B/\B<=w'.heap.size/\cf 79 w' B a1 r.1.plain.length c1 r.1.plain/\Ext w w'
theorem mr.err (w w':World)(e:Int) (hx:Ext w w'):mr (aP,e) w (.returned (.tuple #[.agg #[Zz Zx 0, Zz Zx 0, Zz Zx 0, Zz Zx 0, Zz Zx 0, Zz Zx 0, Zz Zv 0, Zz Zv 0, Zz Zv 0, Zz Zw 0, Zz Zw 0, Zz Zw 0, Zz Zw 0, Zy none 0 0, Zy none 0 0, .bool false], Zz Zx e])) w':=⟨none,0,w.heap.size,rfl,aad _,hx.size,cf.nil _ _ _,hx⟩
theorem tl (a:E8)(n c:Nat) (b:E7)(w:World)(hS:Sl w a n b) (hc:n<=c) (hn:n<=1000000) :
  Calls Tryz.prog 29 #[Zy a n c] w (mr (aE b) w):=by
 have hl:=hS.len;have hdh:=λ W H=>lY a n c b W H hc hn;have hrl:=mx (b:=b);obtain ⟨r,hr⟩:∃ r,aE b=r:=⟨_,rfl⟩;rw [hr];have hr:=FC hr
 go_enter Tryz.func29,Tryz.ntmps29
 go_wp2_with fail;refine br ?_;intro W hW;have hE:Ext w W:=by rw [hW];exact eX
 have hP:Blk W w.heap.size 67 [Zz Zx 0, Zz Zx 0, Zz Zx 0, Zz Zx 0, Zz Zx 0, Zz Zx 0, Zz Zv 0, Zz Zv 0, Zz Zv 0, Zz Zw 0, Zz Zw 0, Zz Zw 0, Zz Zw 0, Zy none 0 0, Zy none 0 0, .bool false]:=by rw [hW];exact bK
 clear hW;(with_reducible refine (hdh W (hS.ext hE)).mono ?_);rintro e w1 ⟨b1,d1,rfl,hS1,hd1,hx1⟩;have hE1:=hE.trans hx1;have hP1:=hP.extB hx1;haveI:=hP1.blt;clear hE hP hx1 hdh;by_cases q1:(bH b).2=0
 ·rw [q1];have hdf:=λ W H=>jv b1 (bH b).1.2.length d1 (bH b).1.2 W H hd1 Zo;have hok:=λ h=>iR q1 h;have hbad:=λ h=>ft q1 h;generalize (bH b).1.2=R at *;generalize (bH b).1.1=H at *
  go_wp2_with (first
   | (refine ag aJ rfl rfl _ _ rfl rfl rfl rfl (by simp [Act.put]) _ rfl Zs rfl oC ?_;intro x hz _)
   | fail)
  refine br ?_;intro W2 hW2;have hx2:Ext w1 W2:=by rw [hW2];exact eX
  have hzz:Blk W2 w1.heap.size 64 [Zz Zx H.leap, Zz Zx H.ver, Zz Zx H.mode, Zz Zx H.strat, Zz Zx H.poll, Zz Zx H.prec, Zz Zv (n32 H.rd), Zz Zv (n32 H.rp), Zz Zv (n32 H.id), Zz Zw (n64 H.ref), Zz Zw (n64 H.org), Zz Zw (n64 H.rcv), Zz Zw (n64 H.tx)]:=by rw [hW2];exact hz.extB eX
  have hP2:=hP1.extB hx2;have hE2:=hE1.trans hx2;have hS2:=hS1.ext hx2;have hlt:=hP1.lt;clear hW2 hx2 hE1 hP1 hS1;(with_reducible refine (hdf W2 hS2).mono ?_);rintro e w3 ⟨b3,d3,rfl,hO3,hx3⟩;have hP3:=hP2.extB hx3;have hz3:=hzz.extB hx3;have hE3:=hE2.trans hx3;have hbs:=hE2.size;have hb3:=hx3.size;haveI:=hP3.blt;clear hP2 hE2 hdf hz hzz hx3;by_cases q2:(bj R).2=0
  ·rw [q2];have er:=FC (show r=(⟨H,(bj R).1,[],false⟩,0) by rw [<- hr.out];exact hok q2);clear hok hbad q2;generalize (bj R).1=L at *
   go_wp2_with (first
    | (refine af aJ rfl _ rfl w1.heap.size 0 rfl _ ((hz3.extB eX).rd) rfl ?_)
    | (refine aa aK rfl _ _ rfl w.heap.size 0 rfl _ rfl 67 _ ((hP3.extB eX)) rfl Zs oC ?_;intro V hV hMV)
    | fail)
   refine aaa (aj Tryz.results29 aK _ _ w.heap.size 0 _ rfl hV.rd rfl (Zz Zx 0) rfl) rfl ?_;rw [er.out];exact ⟨b3,d3,W2.heap.size,rfl,hbs,aal hb3 hMV.size,hO3.mut hP3 Zd Zs hMV,E9 hE3 (hMV.below (aad _) hE3.size)⟩
  ·have er:=FC (show r=(aP,(bj R).2) by rw [<- hr.out];exact hbad q2);have i2:=ne0 q2;generalize (bj R).2=v at *;generalize (bj R).1=L at *;clear q2 hok hbad
   go_wp2_with (first
    | (refine aa aK rfl _ _ rfl w.heap.size 0 rfl _ rfl 67 _ ((hP3.extB eX)) rfl Zs oC ?_;intro V hV hMV)
    | fail)
   refine aaa (aj Tryz.results29 aK _ _ w.heap.size 0 _ rfl hV.rd rfl (Zz Zx v) rfl) rfl ?_;rw [er.out];exact mr.err _ _ _ (E9 (hE3.trans eX) (hMV.below (aad _) (Below.size (hE3.trans eX))))
 ·have er:=FC (show r=(aP,(bH b).2) by rw [<- hr.out];exact fo q1);have i1:=ne0 q1;generalize (bH b).2=v at *;generalize (bH b).1.1=H at *;clear q1
  go_wp2_with (first
   | (refine ag aJ rfl rfl _ _ rfl rfl rfl rfl (by simp [Act.put]) _ rfl Zs rfl oC ?_;intro x hz _)
   | (refine aa aK rfl _ _ rfl w.heap.size 0 rfl _ rfl 67 _ ((hP1.extB eX)) rfl Zs oC ?_;intro V hV hMV)
   | fail)
  refine aaa (aj Tryz.results29 aK _ _ w.heap.size 0 _ rfl hV.rd rfl (Zz Zx v) rfl) rfl ?_;rw [er.out];exact mr.err _ _ _ (E9 (hE1.trans eX) (hMV.below (aad _) (Below.size (hE1.trans eX))))
end Go.Proofs.P9

/- The document's layer 26: kiss. -/
namespace Go.Proofs.P9
open Go.RowKit Go.Sec Go.Oct Go.Pkt Go.Cook Go.Tsrv BigFrame
theorem sB (q:Hdr) (r t:UInt64) (w:World) :
  Calls Tryz.prog 47 #[.agg #[Zz Zx q.leap, Zz Zx q.ver, Zz Zx q.mode, Zz Zx q.strat, Zz Zx q.poll, Zz Zx q.prec, Zz Zv (n32 q.rd), Zz Zv (n32 q.rp), Zz Zv (n32 q.id), Zz Zw (n64 q.ref), Zz Zw (n64 q.org), Zz Zw (n64 q.rcv), Zz Zw (n64 q.tx)], .string ⟨#[78,84,83,78]⟩, Zz Zw (n64 r), Zz Zw (n64 t)] w (wS (aY q r t bw) w):=by
 have hrp:=λ W=>lx q 0 r t W;obtain ⟨R,hR⟩:∃ R,iY q 0 r t=R:=⟨_,rfl⟩;rw [show aY q r t bw={ R.1 with id:=bw } by unfold aY;rw [hR]];rw [hR] at hrp;clear hR;have hcd:=λ W=>ud W;have hA:=(Blk.new w #[Zz Zx q.leap, Zz Zx q.ver, Zz Zx q.mode, Zz Zx q.strat, Zz Zx q.poll, Zz Zx q.prec, Zz Zv (n32 q.rd), Zz Zv (n32 q.rp), Zz Zv (n32 q.id), Zz Zw (n64 q.ref), Zz Zw (n64 q.org), Zz Zw (n64 q.rcv), Zz Zw (n64 q.tx)] 64).alloc (.cells #[Zz Zx 0, Zz Zx 0, Zz Zx 0, Zz Zx 0, Zz Zx 0, Zz Zx 0, Zz Zv 0, Zz Zv 0, Zz Zv 0, Zz Zw 0, Zz Zw 0, Zz Zw 0, Zz Zw 0] 64)
 go_enter Tryz.func47,Tryz.ntmps47
 go_wp2_with (first
  | (refine af aJ rfl _ rfl w.heap.size 0 rfl _ hA.rd rfl ?_)
  | fail)
 (with_reducible refine (hrp _).mono ?_);rintro e W2 ⟨rfl,hx⟩;have hE:Ext w W2:=Ext.trans eX hx;have hB:Blk W2 (w.heap.size+1) 64 [Zz Zx 0, Zz Zx 0, Zz Zx 0, Zz Zx 0, Zz Zx 0, Zz Zx 0, Zz Zv 0, Zz Zv 0, Zz Zv 0, Zz Zw 0, Zz Zw 0, Zz Zw 0, Zz Zw 0]:=(Blk.newAt _ _ _ _ Zs).extB hx;clear hx hA hrp
 go_wp2_with (first
  | (refine ag aJ rfl rfl _ _ rfl rfl rfl rfl (by simp [Act.put]) _ rfl Zs rfl oC ?_;intro x hz _)
  | fail)
 have hlt:=hB.lt;have hB:=hB.extB (FE W2 x);have hle:=hE.size;have hE:=hE.ext x;(with_reducible refine (hcd _).mono ?_);rintro e W4 ⟨rfl,hx⟩;have hz3:Blk W4 W2.heap.size 64 [Zz Zx R.1.leap, Zz Zx R.1.ver, Zz Zx R.1.mode, Zz Zx R.1.strat, Zz Zx R.1.poll, Zz Zx R.1.prec, Zz Zv (n32 R.1.rd), Zz Zv (n32 R.1.rp), Zz Zv (n32 R.1.id), Zz Zw (n64 R.1.ref), Zz Zw (n64 R.1.org), Zz Zw (n64 R.1.rcv), Zz Zw (n64 R.1.tx)]:=hz.extB hx;have hB:=hB.extB hx;have hE:Ext w W4:=E9 hE (Below.mono hx hE.size);clear hx hcd hz;haveI:=hz3.blt;have z8:=hz3.cell? 8 rfl;have f8:=hz3.free 8;have hz8:=hz3.set 8 (Zz Zv 1314149198);have hB8:=hB.other (a:=⟨W2.heap.size,8,none⟩) (by show w.heap.size+1≠W2.heap.size;omega) (Zz Zv 1314149198);have hE8:Ext w (W4.setCell ⟨W2.heap.size,8,none⟩ (Zz Zv 1314149198)):=hE.setCell (by show w.heap.size<=W2.heap.size;omega) _
 go_wp2_with (first
  | (refine af aJ rfl _ rfl W2.heap.size 0 rfl _ hz8.rd rfl ?_)
  | (refine aa aJ rfl _ _ rfl (w.heap.size+1) 0 rfl _ rfl 64 _ hB8 rfl Zs oC ?_;intro V hV hMV)
  | fail)
 refine aaa (aL Tryz.results47 aJ _ _ (w.heap.size+1) 0 _ rfl hV.rd rfl) rfl ?_;exact ⟨rfl,E9 hE8 (hMV.below Zo hE8.size)⟩
theorem sR (q:Hdr) (r t:UInt64) (w:World) :
  Calls Tryz.prog 47 #[.agg #[Zz Zx q.leap, Zz Zx q.ver, Zz Zx q.mode, Zz Zx q.strat, Zz Zx q.poll, Zz Zx q.prec, Zz Zv (n32 q.rd), Zz Zv (n32 q.rp), Zz Zv (n32 q.id), Zz Zw (n64 q.ref), Zz Zw (n64 q.org), Zz Zw (n64 q.rcv), Zz Zw (n64 q.tx)], .string ⟨#[82,65,84,69]⟩, Zz Zw (n64 r), Zz Zw (n64 t)] w (wS (aY q r t kB) w):=by
 have hrp:=λ W=>lx q 0 r t W;obtain ⟨R,hR⟩:∃ R,iY q 0 r t=R:=⟨_,rfl⟩;rw [show aY q r t kB={ R.1 with id:=kB } by unfold aY;rw [hR]];rw [hR] at hrp;clear hR;have hcd:=λ W=>uz W;have hA:=(Blk.new w #[Zz Zx q.leap, Zz Zx q.ver, Zz Zx q.mode, Zz Zx q.strat, Zz Zx q.poll, Zz Zx q.prec, Zz Zv (n32 q.rd), Zz Zv (n32 q.rp), Zz Zv (n32 q.id), Zz Zw (n64 q.ref), Zz Zw (n64 q.org), Zz Zw (n64 q.rcv), Zz Zw (n64 q.tx)] 64).alloc (.cells #[Zz Zx 0, Zz Zx 0, Zz Zx 0, Zz Zx 0, Zz Zx 0, Zz Zx 0, Zz Zv 0, Zz Zv 0, Zz Zv 0, Zz Zw 0, Zz Zw 0, Zz Zw 0, Zz Zw 0] 64)
 go_enter Tryz.func47,Tryz.ntmps47
 go_wp2_with (first
  | (refine af aJ rfl _ rfl w.heap.size 0 rfl _ hA.rd rfl ?_)
  | fail)
 (with_reducible refine (hrp _).mono ?_);rintro e W2 ⟨rfl,hx⟩;have hE:Ext w W2:=Ext.trans eX hx;have hB:Blk W2 (w.heap.size+1) 64 [Zz Zx 0, Zz Zx 0, Zz Zx 0, Zz Zx 0, Zz Zx 0, Zz Zx 0, Zz Zv 0, Zz Zv 0, Zz Zv 0, Zz Zw 0, Zz Zw 0, Zz Zw 0, Zz Zw 0]:=(Blk.newAt _ _ _ _ Zs).extB hx;clear hx hA hrp
 go_wp2_with (first
  | (refine ag aJ rfl rfl _ _ rfl rfl rfl rfl (by simp [Act.put]) _ rfl Zs rfl oC ?_;intro x hz _)
  | fail)
 have hlt:=hB.lt;have hB:=hB.extB (FE W2 x);have hle:=hE.size;have hE:=hE.ext x;(with_reducible refine (hcd _).mono ?_);rintro e W4 ⟨rfl,hx⟩;have hz3:Blk W4 W2.heap.size 64 [Zz Zx R.1.leap, Zz Zx R.1.ver, Zz Zx R.1.mode, Zz Zx R.1.strat, Zz Zx R.1.poll, Zz Zx R.1.prec, Zz Zv (n32 R.1.rd), Zz Zv (n32 R.1.rp), Zz Zv (n32 R.1.id), Zz Zw (n64 R.1.ref), Zz Zw (n64 R.1.org), Zz Zw (n64 R.1.rcv), Zz Zw (n64 R.1.tx)]:=hz.extB hx;have hB:=hB.extB hx;have hE:Ext w W4:=E9 hE (Below.mono hx hE.size);clear hx hcd hz;haveI:=hz3.blt;have z8:=hz3.cell? 8 rfl;have f8:=hz3.free 8;have hz8:=hz3.set 8 (Zz Zv 1380013125);have hB8:=hB.other (a:=⟨W2.heap.size,8,none⟩) (by show w.heap.size+1≠W2.heap.size;omega) (Zz Zv 1380013125);have hE8:Ext w (W4.setCell ⟨W2.heap.size,8,none⟩ (Zz Zv 1380013125)):=hE.setCell (by show w.heap.size<=W2.heap.size;omega) _
 go_wp2_with (first
  | (refine af aJ rfl _ rfl W2.heap.size 0 rfl _ hz8.rd rfl ?_)
  | (refine aa aJ rfl _ _ rfl (w.heap.size+1) 0 rfl _ rfl 64 _ hB8 rfl Zs oC ?_;intro V hV hMV)
  | fail)
 refine aaa (aL Tryz.results47 aJ _ _ (w.heap.size+1) 0 _ rfl hV.rd rfl) rfl ?_;exact ⟨rfl,E9 hE8 (hMV.below Zo hE8.size)⟩
end Go.Proofs.P9
