/- Lemmas of this claim, several texts joined. -/
import Derived.Test.YtmdahnkcnagkjaaGreatZ41
set_option maxRecDepth 100000
open Go.Value renaming int -> Zz,slice -> Zy
open Go.IntKind renaming i64 -> Zx,u64 -> Zw,u32 -> Zv,u8 -> Zu
open List renaming setIfInBounds_toArray -> q0q, set_cons_succ -> q1q, set_cons_zero -> q2q, mem_cons -> q3q, not_mem_nil -> q4q, take_succ_cons -> q8q, take_zero -> q9q, drop_succ_cons -> q10q, drop_zero -> q11q, take_nil -> q12q, drop_nil -> q13q
set_option maxHeartbeats 8000000
set_option linter.unusedVariables false
set_option linter.unusedSimpArgs false
/- The walks of layer 18: Open. -/
namespace Go.Pkt
open Go.Oct Go.Aes
theorem vE {b:E7} (h:(bH b).2=0):48<=b.length/\b.length<=1280/\(bH b).1.2=b.drop 48:=by
 unfold bH at h ⊢;split at h
 ·cases h
 ·split at h
  ·cases h
  ·split at h
   ·rename_i h1 h2 h3;rw [aae h1,aae h2,aaj h3];exact ⟨Zo,Zo,rfl⟩
   ·cases h
theorem nU {l:E7} (h:(bj l).2=0):bf (bj l).1=l.length/\(bj l).1.length<=24/\∀ f∈(bj l).1,f.2.length % 4=0/\12<=f.2.length/\0<=f.1/\f.1<=65535:=by
 unfold bj at h ⊢;split at h
 ·cases h
 ·rename_i h1;rw [aae h1];exact Ag 24 l h
theorem td {L:List Fld} {f:Fld} (h:f∈L):szN f.2.length<=bf L:=by
 induction L with
 | nil=>cases h
 | cons g L ih =>
  rw [mJ];rcases abr.1 h with rfl|h
  ·omega
  ·have:=ih h;omega
theorem lu {b:E7} (h:(aE b).2=0):48<=b.length/\b.length<=1280/\bf (aE b).1.plain+48=b.length/\(aE b).1.plain.length<=24 /\
  ∀ f∈(aE b).1.plain,f.2.length % 4=0/\12<=f.2.length/\0<=f.1/\f.1<=65535:=by
 by_cases h1:(bH b).2=0
 ·by_cases h2:(bj (bH b).1.2).2=0
  ·obtain ⟨a1,a2,a3⟩:=vE h1;obtain ⟨b1,b2,b3⟩:=nU h2;rw [iR h1 h2];refine ⟨a1,a2,?_,b2,b3⟩;show bf (bj (bH b).1.2).1+48=_;rw [b1,a3,aaJ];omega
  ·rw [ft h1 h2] at h;exact absurd h h2
 ·rw [fo h1] at h;exact absurd h h1
theorem gy {b:E7} (h:(aE b).2=0) {f:Fld} (hf:f∈(aE b).1.plain):f.2.length+52<=b.length/\f.2.length<=1280:=by
 obtain ⟨h1,h2,h3,_,_⟩:=lu h;have h4:=td hf;have h5:=jM f.2.length;omega
theorem iT {ky s:E7} {A:List (E7)}:(bL ky A s).1.length<=s.length:=by
 unfold bL;split
 ·simp
 ·split
  ·simp
  ·split
   ·simp
   ·split
    ·rw [du];omega
    ·simp
theorem kF {d:E7} {z:E7 × E7} (h:cZ d=some z):z.2.length<=d.length:=by
 unfold cZ at h;simp only at h;split at h
 ·injection h with h
  rw [<- h];simp only [aat,aaJ];omega
 ·cases h
theorem rh {ky b:E7} (h:ky.length≠32):cV ky b=(aP,5):=aaj h
theorem om {ky b:E7} (h:ky.length=32) (h2:(aE b).2≠0):cV ky b=(aP,(aE b).2):=by unfold cV;rw [aae Zo,aaj h2]
theorem ox {ky b:E7} (h:ky.length=32) (h2:(aE b).2=0) (h3:e9 1028 (aE b).1.plain=none):cV ky b=(aP,10):=by
 unfold cV;rw [aae Zo,aae (by simpa using h2),h3]
def uV (ky b:E7)(i:Nat):Pkt × Int :=
 if i+1≠(aE b).1.plain.length then (aP,3) else
  match cZ ((aE b).1.plain.getD i (0,[])).2 with
  | none=>(aP,3)
  | some (nonce,s) =>
   if (bL ky [b.take (b.length-((aE b).1.plain.getD i (0,[])).2.length-4),nonce] s).2≠0 then (aP,6)
   else if (bj (bL ky [b.take (b.length-((aE b).1.plain.getD i (0,[])).2.length-4),nonce] s).1).2≠0 then (aP,(bj (bL ky [b.take (b.length-((aE b).1.plain.getD i (0,[])).2.length-4),nonce] s).1).2)
   else (⟨(aE b).1.h,(aE b).1.plain.take i,(bj (bL ky [b.take (b.length-((aE b).1.plain.getD i (0,[])).2.length-4),nonce] s).1).1,true⟩,0)
theorem oJ {ky b:E7} {i:Nat} (h:ky.length=32) (h2:(aE b).2=0) (h3:e9 1028 (aE b).1.plain=some i):cV ky b=uV ky b i:=by
 unfold cV;rw [aae Zo,aae (by simpa using h2),h3];rfl
theorem qM {k:Int} {L:List Fld} {i:Nat} (h:e9 k L=some i):i<L.length:=by
 unfold e9 at h;exact yD (List.mem_of_mem_head? (by rw [h];rfl))
end Go.Pkt
namespace Go.Proofs.P9
open Go.RowKit Go.Sec Go.Oct Go.Pkt Go.Aes BigFrame
def jB (r:Pkt × Int) (w:World)(e:Ending) (w':World):Prop:=∃ a1 n1 c1 a2 n2 c2,e = .returned (.tuple #[.agg #[Zz Zx r.1.h.leap, Zz Zx r.1.h.ver, Zz Zx r.1.h.mode, Zz Zx r.1.h.strat, Zz Zx r.1.h.poll, Zz Zx r.1.h.prec, Zz Zv (n32 r.1.h.rd), Zz Zv (n32 r.1.h.rp), Zz Zv (n32 r.1.h.id), Zz Zw (n64 r.1.h.ref), Zz Zw (n64 r.1.h.org), Zz Zw (n64 r.1.h.rcv), Zz Zw (n64 r.1.h.tx), Zy a1 n1 c1, Zy a2 n2 c2, .bool r.1.guarded], Zz Zx r.2]) /\
 Ib w' a1 n1 r.1.plain/\n1<=c1/\Ib w' a2 n2 r.1.secret/\n2<=c2/\Ext w w'
theorem jB.err (w w':World)(e:Int) (hx:Ext w w'):jB (aP,e) w (.returned (.tuple #[.agg #[Zz Zx 0, Zz Zx 0, Zz Zx 0, Zz Zx 0, Zz Zx 0, Zz Zx 0, Zz Zv 0, Zz Zv 0, Zz Zv 0, Zz Zw 0, Zz Zw 0, Zz Zw 0, Zz Zw 0, Zy none 0 0, Zy none 0 0, .bool false], Zz Zx e])) w':=⟨none,0,0,none,0,0,rfl,Ib.nil _ _,aad _,Ib.nil _ _,aad _,hx⟩
theorem uN (ak ab:E8)(nk ck nb cb:Nat) (ky b:E7)(w:World)(hk:Sl w ak nk ky) (hck:nk<=ck) (hS:Sl w ab nb b) (hcb:nb<=cb) (hn:nb<=1000000) :
  Calls Tryz.prog 81 #[Zy ak nk ck, Zy ab nb cb] w (jB (cV ky b) w):=by
 have lk:=hk.len;have lb:=hS.len;have hrd:=λ W H=>mj ab nb cb b W H hcb hn;obtain ⟨r,hr⟩:∃ r,cV ky b=r:=⟨_,rfl⟩;rw [hr];have hr:=FC hr;by_cases q1:nk=32
 ·have q1':ky.length=32:=by omega
  subst q1
  go_enter Tryz.func81,Tryz.ntmps81
  go_wp2_with fail;refine br ?_;intro W hW;have hE:Ext w W:=by rw [hW];exact eX
  have hP:Blk W w.heap.size 67 [Zz Zx 0, Zz Zx 0, Zz Zx 0, Zz Zx 0, Zz Zx 0, Zz Zx 0, Zz Zv 0, Zz Zv 0, Zz Zv 0, Zz Zw 0, Zz Zw 0, Zz Zw 0, Zz Zw 0, Zy none 0 0, Zy none 0 0, .bool false]:=by rw [hW];exact bK
  clear hW;(with_reducible refine (hrd W (hS.ext hE)).mono ?_);rintro e w1 ⟨b1,d1,rfl,⟨B1,hO1⟩,hx1⟩;have hE1:=hE.trans hx1;have hP1:=hP.extB hx1;have hlt:=hP1.lt;haveI:=hP1.blt;clear hE hP hx1 hrd;by_cases q2:(aE b).2=0
  ·rw [q2];have hsp:=lu q2;have hfl:=λ f hf=>gy q2 (f:=f) hf;have hso:=λ i h=>oJ (i:=i) q1' q2 h;have hno:=λ h=>ox q1' q2 h;unfold uV at hso;generalize (aE b).1.plain=L at *;generalize (aE b).1.h=H at *
   go_wp2_with (first
    | ((refine ag aK rfl rfl _ _ rfl rfl rfl rfl (by simp [Act.put]) _ rfl Zs rfl oC ?_;intro x hz _);haveI:=hz.blt;have f13:=hz.cell? 13 rfl)
    | fail)
   refine br ?_;intro W2 hW2;have hx2:Ext w1 W2:=by rw [hW2];exact eX
   have hG:Blk W2 w1.heap.size 67 [Zz Zx H.leap, Zz Zx H.ver, Zz Zx H.mode, Zz Zx H.strat, Zz Zx H.poll, Zz Zx H.prec, Zz Zv (n32 H.rd), Zz Zv (n32 H.rp), Zz Zv (n32 H.id), Zz Zw (n64 H.ref), Zz Zw (n64 H.org), Zz Zw (n64 H.rcv), Zz Zw (n64 H.tx), Zy b1 L.length d1, Zy none 0 0, .bool false]:=by rw [hW2];exact hz.extB eX
   have hP2:=hP1.extB hx2;have hE2:=hE1.trans hx2;have hO2:=hO1.ext hx2;clear hW2 hx2 hE1 hP1 hO1 f13 hz;(with_reducible refine (va b1 L.length d1 L W2 hO2.ib.1 Zo).mono ?_);rintro e w3 ⟨rfl,hx3⟩;have hG3:=hG.extB hx3;have hP3:=hP2.extB hx3;have hE3:=hE2.trans hx3;have hO3:=hO2.ext hx3;clear hG hP2 hE2 hO2 hx3;have hdc:L.length<=d1:=hO3.ib.2;haveI:=hP3.blt;haveI:=hG3.blt;have f13:w3.cell? ⟨w1.heap.size,13,none⟩=some (Zy b1 L.length d1):=hG3.cell? 13 rfl;cases q3:e9 1028 L with
   | none =>
    have er:=FC (show r=(aP,10) by rw [<- hr.out];exact hno q3);have ez:jo 1028 L = -1:=by unfold jo;rw [q3]
    rw [ez];clear ez q3 hno hso
    go_wp2_with (first
     | (refine aa aK rfl _ _ rfl w.heap.size 0 rfl _ rfl 67 _ ((hP3.extB eX)) rfl Zs oC ?_;intro V hV hMV)
     | fail)
    refine aaa (aj Tryz.results81 aK _ _ w.heap.size 0 _ rfl hV.rd rfl (Zz Zx 10) rfl) rfl ?_;rw [er.out];exact jB.err _ _ _ (E9 (hE3.trans eX) (hMV.below (aad _) (Below.size (hE3.trans eX))))
   | some i =>
    have hi:=qM q3;have hat:=hso i q3;rw [hr.out] at hat;have ez:jo 1028 L=(i:Int):=by unfold jo;rw [q3]
    rw [ez];have iz:¬ (i:Int)<0:=Zo;clear ez q3 hno hso;by_cases q4:i+1=L.length
    ·rw [aae Zo] at hat;replace hat:=FC hat;have iq:((i:Int) != (L.length:Int)-1)=false:=by rw [aaf];omega
     obtain ⟨y,hy⟩:∃ y,L[i]?=some y:=⟨_,List.getElem?_eq_getElem hi⟩;obtain ⟨g0,o0,g',c',rfl,hb0,hc0,hc1,hSk,hcy⟩:=hO3.ib.1.at i hi _ hy;obtain ⟨y52,y1280⟩:=hfl y (List.mem_of_getElem? hy);replace hat:=FC (show r=_ by rw [hat.out,jm hy]);have hi0:(0:Int)<=(i:Int):=Zo;have hi1:(i:Int)<(L.length:Int):=Zo;haveI:=hb0;have hpa:=λ W H=>ui g' y.2.length c' y.2 W H hcy Zo;clear hfl;go_wp2_with fail;clear f13 hc0 hc1;(with_reducible refine (hpa w3 hSk).mono ?_);rintro e w4 ⟨p1,n1,k1,p2,n2,k2,rfl,hps,hx4⟩;have hE4:=hE3.trans hx4;have hP4:=hP3.extB hx4;have hG4:=hG3.extB hx4;have hO4:=hO3.ext hx4;haveI:=hP4.blt;clear hE3 hP3 hG3 hO3 hpa hx4 hb0;cases q5:cZ y.2 with
     | none =>
      have er:=FC (show r=(aP,3) by rw [hat.out,q5]);clear q5 hps
      go_wp2_with (first
       | (refine ag RG2 rfl rfl _ _ rfl rfl rfl rfl (by simp [Act.put]) _ rfl Zs rfl oC ?_;intro x2 hz2 _)
       | (refine aa aK rfl _ _ rfl w.heap.size 0 rfl _ rfl 67 _ ((hP4.extB eX)) rfl Zs oC ?_;intro V hV hMV)
       | fail)
      refine aaa (aj Tryz.results81 aK _ _ w.heap.size 0 _ rfl hV.rd rfl (Zz Zx 3) rfl) rfl ?_;rw [er.out];exact jB.err _ _ _ (E9 (hE4.trans eX) (hMV.below (aad _) (Below.size (hE4.trans eX))))
     | some z =>
      obtain ⟨v1,m1,v2,m2⟩:=hps z q5;have hzl:=kF q5;replace hat:=FC (show r=_ by rw [hat.out,q5]);clear q5 hps
      go_wp2_with (first
       | ((refine ag RG2 rfl rfl _ _ rfl rfl rfl rfl (by simp [Act.put]) _ rfl Zs rfl oC ?_;intro x2 hz2 _);haveI:=hz2.blt;have e0:=hz2.cell? 0 rfl;have e1:=hz2.cell? 1 rfl)
       | fail)
      refine cU ?_;intro W5 hW5;have hE6:Ext w4 W5:=by rw [hW5];exact eX
      have hg5:Blk W5 w4.heap.size 185 [Zy p1 n1 k1, Zy p2 n2 k2]:=by rw [hW5];exact hz2.extB eX
      clear hW5 hz2 e0 e1;have hE5:=hE4.trans hE6;have hP5:=hP4.extB hE6;have hG5:=hG4.extB hE6;have hO5:=hO4.ext hE6;have v1:=v1.ext hE6;have v2:=v2.ext hE6;have hk5:=hk.ext hE5;have hS5:=hS.ext hE5;clear hE4 hP4 hG4 hO4 hE6;obtain ⟨Q,hQ⟩:∃ Q,nb-y.2.length-4=Q:=⟨_,rfl⟩;have hSQ:=hS5.take Q Zo;have hQc:Q<=cb:=Zo;have hQi:(nb:Int)-(y.2.length:Int)-4=(Q:Int):=Zo;have hQ1:(Q:Int)<=(cb:Int):=Zo;have hat:=hat.out;rw [lb,hQ] at hat;have hop:=λ b' c' W H1 H2 H3=>sQ ak b' p2 32 ck 2 c' n2 k2 ky [b.take Q,z.1] z.2 W H1 hck H2 Zo H3 m2;have hAl:=FC (show (bL ky [b.take Q,z.1] z.2).1.length<=1280 from aal iT (aal hzl y1280));generalize bL ky [b.take Q,z.1] z.2=A at *;replace hat:=FC hat;haveI:=hg5.blt;have e0:=hg5.cell? 0 rfl;have e1:W5.cell? ⟨w4.heap.size,1,none⟩=some (Zy p2 n2 k2):=hg5.cell? 1 rfl;clear hQ y52 lb;refine R2.ae 19 [[],[],[],[2],[],[4],[2,3,4,5],[2,3,4,5,6],[1,2,3,4,5,6,7],[],[9],[1,2,3,4,5,6,7,8,9,10],[],[12],[0,1,2,3,4,5,6,7,8,9,10,11,12,13],[0,1,2,3,4,5,6,7,8,9,10,11,12,13,14],[0,1,2,3,4,5,6,7,8,9,10,11,12,13,14,15],[0,1,2,3,4,5,6,7,8,9,10,11,12,13,14,15],[0,1,2,3,4,5,6,7,8,9,10,11,12,13,14,15,16],[0,1,2,3,4,5,6,7,8,9,10,11,12,13,14,15,16,17,18]] [] (λ h=>(h rfl).elim) Zk Zk Zk Zk Zk ?_;simp only [q8q,q9q,q10q,q11q,q12q,q13q];(repeat (refine R2.av ?_;(try simp only [Act.put,q0q,q1q,q2q])));(refine R2.ai (λ p => .slice (p 0).1 2 2) (λ p w''=>Bsc w'' (p 0).1 2 [b.take Q,z.1]) (λ p w w' h hx=>by first|exact h.ext hx|exact ⟨h.1.ext hx,h.2.ext hx⟩|exact ⟨h.1.ext hx,h.2⟩|exact ⟨h.1.ext hx,h.2.1.ext hx,h.2.2.ext hx⟩) (λ us w' hx hf=>⟨rfl,?_⟩) ?_;(unfold gives;simp [go_sem,execOp];exact ⟨λ _=>(some ⟨w'.heap.size,0,none⟩,0),rfl,FA _ _,sm (hSQ.ext hx) hQc (v1.ext hx) m1 _⟩));(repeat (refine R2.av ?_;(try simp only [Act.put,q0q,q1q,q2q])));(refine R2.ai (λ p => .tuple #[.slice (p 0).1 A.1.length (p 0).2, Zz Zx A.2]) (λ p w''=>Sl w'' (p 0).1 A.1.length (A.1)/\(A.1.length)<=(p 0).2) (λ p w w' h hx=>⟨h.1.ext hx,h.2⟩) (λ us w' hx hf=>⟨rfl,?_⟩) ?_;(unfold gives;simp [go_sem,execOp];exact dK (hop _ _ _ (hk5.ext hx) (hf _ (aac _ (aab _)) rfl) (v2.ext hx))));(repeat (refine R2.av ?_;(try simp only [Act.put,q0q,q1q,q2q])));(refine R2.aU ?_;intro us x hx hf);obtain ⟨-,hS7,hc7⟩:=hf;obtain ⟨p7,hp7⟩:∃ a,(us 14 0).1=a:=⟨_,rfl⟩;obtain ⟨k7,hk7⟩:∃ a,(us 14 0).2=a:=⟨_,rfl⟩;rw [hp7] at hS7 ⊢;rw [hk7] at hc7 ⊢;clear hp7 hk7 e0 e1 hg5 v1 v2 hSQ hk5 hS5 hop hQi hQ1 hQc;have hx7:Ext W5 (W5.ext x):=FE _ _;have hE7:=hE5.trans hx7;have hP7:=hP5.extB hx7;have hG7:=hG5.extB hx7;have hO7:=hO5.ext hx7;clear hE5 hP5 hG5 hO5 hx7;generalize W5.ext x=W7 at *;haveI:=hP7.blt;by_cases q8:A.2=0
      ·rw [q8];have hdf:=λ W H=>m7 p7 A.1.length k7 A.1 W H hc7 (aal hAl.out Zd);replace hat:=FC (show r=_ by rw [hat.out,aae (by simpa using q8)]);clear q8;generalize A.1=D at *;go_wp2_with fail;(with_reducible refine (hdf W7 hS7).mono ?_);rintro e w8 ⟨b8,d8,rfl,hO8,hx8⟩;have hE8:=hE7.trans hx8;have hP8:=hP7.extB hx8;have hG8:=hG7.extB hx8;have hO7:=hO7.ext hx8;clear hE7 hP7 hG7 hS7 hx8 hdf;haveI:=hP8.blt;haveI:=hG8.blt;have g13:w8.cell? ⟨w1.heap.size,13,none⟩=some (Zy (some ⟨g0,o0,none⟩) L.length d1):=hG8.cell? 13 rfl;by_cases q9:(bj D).2=0
       ·rw [q9];have er:=FC (show r=(⟨H,L.take i,(bj D).1,true⟩,0) by rw [hat.out,aae (by simpa using q9)]);clear q9 hat;generalize (bj D).1=S at *;have l1:(i:Int)<=(d1:Int):=Zo;have l2:(i:Int)<=(i:Int):=Int.le_refl _;have hil:i<=L.length:=Zo;have hGl:Rd w8 (some ⟨w1.heap.size,0,none⟩) [Zz Zx H.leap, Zz Zx H.ver, Zz Zx H.mode, Zz Zx H.strat, Zz Zx H.poll, Zz Zx H.prec, Zz Zv (n32 H.rd), Zz Zv (n32 H.rp), Zz Zv (n32 H.id), Zz Zw (n64 H.ref), Zz Zw (n64 H.org), Zz Zw (n64 H.rcv), Zz Zw (n64 H.tx)]:=Rd.left (vs:=[Zz Zx H.leap, Zz Zx H.ver, Zz Zx H.mode, Zz Zx H.strat, Zz Zx H.poll, Zz Zx H.prec, Zz Zv (n32 H.rd), Zz Zv (n32 H.rp), Zz Zv (n32 H.id), Zz Zw (n64 H.ref), Zz Zw (n64 H.org), Zz Zw (n64 H.rcv), Zz Zw (n64 H.tx)]) (us:=[Zy (some ⟨g0,o0,none⟩) L.length d1, Zy none 0 0, .bool false]) hG8.rd;clear q4 iq iz hi hi1 hi0 hy;go_wp2_with fail;refine R2.ae 9 [[],[0],[],[2],[],[],[2,3,4,5],[],[0,1,2,3,4,5,6,7],[0,1,2,3,4,5,6,7,8],[0,1,2,3,4,5,6,7,8,9]] [] (λ h=>(h rfl).elim) Zk Zk Zk Zk Zk ?_;simp only [q8q,q9q,q10q,q11q,q12q,q13q];(repeat (refine R2.av ?_;(try simp only [Act.put,q0q,q1q,q2q])));(refine R2.ao aJ _ rfl (λ _=>rfl) w1.heap.size 0 (λ _=>by simp [go_sem]) _ hGl rfl ?_);(repeat (refine R2.av ?_;(try simp only [Act.put,q0q,q1q,q2q])));(refine R2.aU ?_;intro us x hx hf);have hx9:Ext w8 (w8.ext x):=FE _ _;have hE9:=hE8.trans hx9;have hP9:=hP8.extB hx9;have hO7:=hO7.ext hx9;have hO8:=hO8.ext hx9;generalize w8.ext x=W9 at *;haveI:=hP9.blt;clear hf hx9 hE8 hP8 hG8 hGl g13
        go_wp2_with (first
         | (refine aa aK rfl _ _ rfl w.heap.size 0 rfl _ rfl 67 _ hP9 rfl Zs oC ?_;intro V hV hMV)
         | fail)
        refine aaa (aj Tryz.results81 aK _ _ w.heap.size 0 _ rfl hV.rd rfl (Zz Zx 0) rfl) rfl ?_;rw [er.out];exact ⟨_,_,_,_,_,_,rfl,(hO7.mut hP9 Zd Zs hMV).ib.1.take i hil,aad _,(hO8.mut hP9 Zd Zs hMV).ib.1,(hO8.mut hP9 Zd Zs hMV).ib.2,E9 hE9 (hMV.below (aad _) hE9.size)⟩
       ·have er:=FC (show r=(aP,(bj D).2) by rw [hat.out,aaj q9]);have i9:=ne0 q9;generalize (bj D).2=v9 at *;generalize (bj D).1=S at *;clear q9 hat
        go_wp2_with (first
         | (refine aa aK rfl _ _ rfl w.heap.size 0 rfl _ rfl 67 _ ((hP8.extB eX)) rfl Zs oC ?_;intro V hV hMV)
         | fail)
        refine aaa (aj Tryz.results81 aK _ _ w.heap.size 0 _ rfl hV.rd rfl (Zz Zx v9) rfl) rfl ?_;rw [er.out];exact jB.err _ _ _ (E9 (hE8.trans eX) (hMV.below (aad _) (Below.size (hE8.trans eX))))
      ·have er:=FC (show r=(aP,6) by rw [hat.out,aaj q8]);have i8:=ne0 q8;generalize A.2=v8 at *;generalize A.1=D at *;clear q8 hat
       go_wp2_with (first
        | (refine aa aK rfl _ _ rfl w.heap.size 0 rfl _ rfl 67 _ ((hP7.extB eX)) rfl Zs oC ?_;intro V hV hMV)
        | fail)
       refine aaa (aj Tryz.results81 aK _ _ w.heap.size 0 _ rfl hV.rd rfl (Zz Zx 6) rfl) rfl ?_;rw [er.out];exact jB.err _ _ _ (E9 (hE7.trans eX) (hMV.below (aad _) (Below.size (hE7.trans eX))))
    ·rw [aaj Zo] at hat;have er:=FC hat;have iq:((i:Int) != (L.length:Int)-1)=true:=by rw [aao];omega
     clear hat
     go_wp2_with (first
      | (refine aa aK rfl _ _ rfl w.heap.size 0 rfl _ rfl 67 _ ((hP3.extB eX)) rfl Zs oC ?_;intro V hV hMV)
      | fail)
     refine aaa (aj Tryz.results81 aK _ _ w.heap.size 0 _ rfl hV.rd rfl (Zz Zx 3) rfl) rfl ?_;rw [er.out];exact jB.err _ _ _ (E9 (hE3.trans eX) (hMV.below (aad _) (Below.size (hE3.trans eX))))
  ·have er:=FC (show r=(aP,(aE b).2) by rw [<- hr.out];exact om q1' q2);have i2:=ne0 q2;generalize (aE b).2=v at *;generalize (aE b).1.plain=L at *;generalize (aE b).1.h=H at *;clear q2
   go_wp2_with (first
    | (refine ag aK rfl rfl _ _ rfl rfl rfl rfl (by simp [Act.put]) _ rfl Zs rfl oC ?_;intro x hz _)
    | (refine aa aK rfl _ _ rfl w.heap.size 0 rfl _ rfl 67 _ ((hP1.extB eX)) rfl Zs oC ?_;intro V hV hMV)
    | fail)
   refine aaa (aj Tryz.results81 aK _ _ w.heap.size 0 _ rfl hV.rd rfl (Zz Zx v) rfl) rfl ?_;rw [er.out];exact jB.err _ _ _ (E9 (hE1.trans eX) (hMV.below (aad _) (Below.size (hE1.trans eX))))
 ·have er:=FC (show r=(aP,5) by rw [<- hr.out];exact rh Zo);have i1:((nk:Int) != 32)=true:=by rw [aao];omega
  clear lk lb q1
  go_enter Tryz.func81,Tryz.ntmps81
  go_wp2_with (first
   | (refine aa aK rfl _ _ rfl w.heap.size 0 rfl _ rfl 67 _ ((Blk.new w #[Zz Zx 0, Zz Zx 0, Zz Zx 0, Zz Zx 0, Zz Zx 0, Zz Zx 0, Zz Zv 0, Zz Zv 0, Zz Zv 0, Zz Zw 0, Zz Zw 0, Zz Zw 0, Zz Zw 0, Zy none 0 0, Zy none 0 0, .bool false] 67)) rfl Zs oC ?_;intro V hV hMV)
   | fail)
  refine aaa (aj Tryz.results81 aK _ _ w.heap.size 0 _ rfl hV.rd rfl (Zz Zx 5) rfl) rfl ?_;rw [er.out];exact jB.err _ _ _ (E9 (FA _ _) (hMV.below (aad _) Zs))
end Go.Proofs.P9

/- The walks of layer 26: shaped, Kind. -/
namespace Go.Pkt
theorem _root_.z43q26{p:Prop}(h:p:=by
 by_cases h1:(bH b).2=0
 ·by_cases h2:(bj (bH b).1.2).2=0
  ·rw [iR h1 h2];exact ⟨(nU h2).2.1,rfl,rfl⟩
  ·rw [ft h1 h2];exact ⟨by simp [aP],rfl,rfl⟩
 ·rw [fo h1];exact ⟨by simp [aP],rfl,rfl⟩):p:=h
theorem lJ (b:E7):(aE b).1.plain.length<=24/\(aE b).1.secret=[]/\(aE b).1.guarded=false:=by
 exact z43q26
end Go.Pkt
namespace Go.Sec
open Go.RowKit
@[go_sem] theorem yS {P:Program} (w:World)(a:Addr) (m:Mode) (f:Fn) (us vs:_):(store a (.func f us vs) m).run P w=stored P w a (.func f us vs) m:=run_store P w a _ m rfl
theorem Ib.part {w:World} {b o n:Nat} {L:List (Int × E7)} (h:Ib w (some ⟨b,o,none⟩) n L) (i m:Nat) (hm:i+m<=n):Ib w (some ⟨b,o+i*2,none⟩) m ((L.drop i).take m):=by
 have hl:=h.len;refine ⟨by rw [aat,aaJ];omega,?_⟩;rcases h.row with h0|⟨b',off,ha,hb,hc⟩
 ·left;omega
 ·injection ha with ha
  injection ha with e1 e2
  subst e1 e2;refine .inr ⟨b,o+i*2,rfl,hb,λ k hk=>?_⟩;rw [aat,aaJ] at hk;obtain ⟨g,c,h1,h2,h3,h4⟩:=hc (i+k) Zo;have ea:o+i*2+k*2=o+(i+k)*2:=Zo;rw [ea];refine ⟨g,c,by simpa using h1,by simpa using h2,by simpa using h3,by simpa using h4⟩
end Go.Sec
namespace Go.Proofs.P9
open Go.RowKit Go.Sec Go.Oct Go.Pkt Go.Cook Go.Tsrv BigFrame
theorem nj {L:List Fld} (h:¬ (3<=L.length/\L.length<=10)):eA L=false:=by unfold eA;rw [aay h];rfl
theorem sI {L:List Fld} {f0 f1 fl:Fld} (h3:3<=L.length) (h10:L.length<=10) (e0:L[0]?=some f0) (e1:L[1]?=some f1) (el:L[L.length-1]?=some fl) :
  eA L=(isF 260 32 f0 && (isF 516 104 f1 && (decide (fl.1=1028) && (nN L).all (isF 772 104)))):=by
 unfold eA;rw [aav ⟨h3,h10⟩,jm e0,jm e1,jm el];rfl
theorem tT (a:E8)(n c:Nat) (L:List Fld) (w:World)(hI:Ib w a n L) (hc:n<=c) (hn:n<=1000000) :
  Calls Tryz.prog 52 #[Zy a n c] w λ e w'=>e = .returned (.bool (eA L))/\Ext w w':=by
 have hl:=hI.len;obtain ⟨r,hr⟩:∃ r,eA L=r:=⟨_,rfl⟩;rw [hr];have hsh:=λ h=>(nj (L:=L) h).symm.trans hr;have hof:=λ f0 f1 fl h3 h10 e0 e1 el=>(sI (L:=L) (f0:=f0) (f1:=f1) (fl:=fl) h3 h10 e0 e1 el).symm.trans hr;clear hr;by_cases h3:n<3
 ·have e:=FC (hsh Zo);have i3:(n:Int)-1<2:=Zo;clear hsh hof hl h3
  go_enter Tryz.func52,Tryz.ntmps52
  go_wp2_with fail;go_ret;exact ⟨by rw [<- e.out];rfl,eX⟩
 by_cases h10:10<n
 ·have e:=FC (hsh Zo);have i3:¬ (n:Int)-1<2:=Zo;have i4:(9:Int)<(n:Int)-1:=Zo;clear hsh hof hl h3 h10
  go_enter Tryz.func52,Tryz.ntmps52
  go_wp2_with fail;go_ret;exact ⟨by rw [<- e.out];rfl,eX⟩
 obtain ⟨k,rfl⟩:∃ k,n=k+1:=⟨n-1,Zo⟩;obtain ⟨f0,e0⟩:∃ f,L[0]?=some f:=⟨_,List.getElem?_eq_getElem Zo⟩;obtain ⟨f1,e1⟩:∃ f,L[1]?=some f:=⟨_,List.getElem?_eq_getElem Zo⟩;obtain ⟨fl,el⟩:∃ f,L[k]?=some f:=⟨_,List.getElem?_eq_getElem Zo⟩;have hv:=hof f0 f1 fl Zo Zo e0 e1 (by rw [hl];exact el);obtain ⟨b1,o1,g1,c1,hab1,hb1,r0,r1,rs,rc⟩:=hI.at 1 Zo _ e1;obtain ⟨b2,o2,g2,c2,hab2,hb2,s0,s1,ss,sc⟩:=hI.at k Zo _ el;obtain ⟨b,o,g0,c0,rfl,hb0,q0,q1,qs,qc⟩:=hI.at 0 Zo _ e0;injection hab1 with hab1
 injection hab1 with z1 z2
 subst z1 z2;injection hab2 with hab2
 injection hab2 with z1 z2
 subst z1 z2;have q0:w.cell? ⟨b,o,none⟩=some (Zz Zx f0.1):=by simpa using q0
 have q1:w.cell? ⟨b,o+1,none⟩=some (Zy g0 f0.2.length c0):=by simpa using q1
 have r0:w.cell? ⟨b,o+2,none⟩=some (Zz Zx f1.1):=by simpa using r0
 have r1:w.cell? ⟨b,o+2+1,none⟩=some (Zy g1 f1.2.length c1):=by simpa using r1
 have hrd0:=rd2 hb0.lt q0 q1;have hrd1:=rd2 hb0.lt r0 r1;have hi0:=λ W=>rH f0 g0 f0.2.length c0 260 32 (show (32:Int)=((32:Nat):Int) from rfl) W rfl;have hi1:=λ W=>rH f1 g1 f1.2.length c1 516 104 (show (104:Int)=((104:Nat):Int) from rfl) W rfl;have k2:¬ (k:Int)<2:=Zo;have k9:¬ (9:Int)<(k:Int):=Zo;have k0:(0:Int)<=(k:Int):=Zo;have kn:(k:Int)<(k:Int)+1:=Zo;have n0:(0:Int)<(k:Int)+1:=Zo;have n1:(1:Int)<(k:Int)+1:=Zo;clear hsh hof rs rc ss sc qs qc e0 e1 el hb1 hb2 r0 r1 q0 q1;cases hb0':isF 260 32 f0
 ·rw [hb0'] at hi0 hv;replace hv:=FC hv;clear hb0';haveI:=hb0
  go_enter Tryz.func52,Tryz.ntmps52
  go_wp2_with fail;refine cU ?_;intro W hW;have hE:Ext w W:=by rw [hW];exact eX
  have hF:Blk W w.heap.size 149 [.func (.func 92) #[] #[]]:=by rw [hW];exact bK
  clear hW;have hrd0:=hrd0.ext hE;have hrd1:=hrd1.ext hE;have t0:W.cell? ⟨b,o+k*2,none⟩=some (Zz Zx fl.1):=(hE.cell (p:=⟨b,_,none⟩) hb0.lt).trans s0;haveI hbW:BlkLt b W:=⟨aai hb0.lt hE.size⟩;haveI:=hF.blt;have ff:=hF.cell? 0 rfl;refine R2.ae 22 [[],[],[1],[1,2],[0,1,2,3],[0,1,2,3,4],[0,1,2,3,4,5],[0,1,2,3,4,5,6],[0,1,2,3,4,5,6],[0,1,2,3,4,5,6,8],[0,1,2,3,4,5,6,8,9],[0,1,2,3,4,5,6,7,8,9,10],[0,1,2,3,4,5,6,7,8,9,10,11],[0,1,2,3,4,5,6,7,8,9,10,11,12],[0,1,2,3,4,5,6,7,8,9,10,11,12,13],[0,1,2,3,4,5,6,7,8,9,10,11,12,13,14],[0,1,2,3,4,5,6,7,8,9,10,11,12,13,14],[0,1,2,3,4,5,6,7,8,9,10,11,12,13,14,15,16],[0,1,2,3,4,5,6,7,8,9,10,11,12,13,14,15,16,17],[0,1,2,3,4,5,6,7,8,9,10,11,12,13,14,15,16,17,18],[0,1,2,3,4,5,6,7,8,9,10,11,12,13,14,15,16,17,18,19],[0,1,2,3,4,5,6,7,8,9,10,11,12,13,14,15,16,17,18,19,20]] [] (λ h=>(h rfl).elim) Zk Zk Zk Zk Zk ?_;simp only [q8q,q9q,q10q,q11q,q12q,q13q];(repeat (refine R2.av ?_;(try simp only [Act.put,q0q,q1q,q2q])));(refine R2.ao RF2 _ rfl (λ _=>rfl) b o (λ _=>by simp [go_sem]) _ hrd0 rfl ?_);(refine R2.ai (λ _ => .bool false) (λ _ _=>True) (λ _ _ _ _ _=>trivial) (λ us w' hx hf=>⟨rfl,?_⟩) ?_;(unfold gives;simp [go_sem,execOp];refine (hi0 _).mono ?_;rintro e w1 ⟨rfl,hx1⟩;first|exact ⟨rfl,hx1⟩|simpa using hx1));(repeat (refine R2.av ?_;(try simp only [Act.put,q0q,q1q,q2q])));(repeat (refine R2.fF (λ us=>rfl) ?_;(try simp only [Act.put,q0q,q1q,q2q])));(repeat (refine R2.av ?_;(try simp only [Act.put,q0q,q1q,q2q])));(repeat (refine R2.fF (λ us=>rfl) ?_;(try simp only [Act.put,q0q,q1q,q2q])));(repeat (refine R2.av ?_;(try simp only [Act.put,q0q,q1q,q2q])));(refine R2.aU ?_;intro us x hx hf);go_wp2;go_ret;exact ⟨by rw [<- hv.out];rfl,eX⟩
 cases hb1':isF 516 104 f1
 ·rw [hb0',hb1'] at hv;rw [hb0'] at hi0;rw [hb1'] at hi1;replace hv:=FC hv;clear hb0' hb1';haveI:=hb0
  go_enter Tryz.func52,Tryz.ntmps52
  go_wp2_with fail;refine cU ?_;intro W hW;have hE:Ext w W:=by rw [hW];exact eX
  have hF:Blk W w.heap.size 149 [.func (.func 92) #[] #[]]:=by rw [hW];exact bK
  clear hW;have hrd0:=hrd0.ext hE;have hrd1:=hrd1.ext hE;have t0:W.cell? ⟨b,o+k*2,none⟩=some (Zz Zx fl.1):=(hE.cell (p:=⟨b,_,none⟩) hb0.lt).trans s0;haveI hbW:BlkLt b W:=⟨aai hb0.lt hE.size⟩;haveI:=hF.blt;have ff:=hF.cell? 0 rfl;refine R2.ae 22 [[],[],[1],[1,2],[0,1,2,3],[0,1,2,3,4],[0,1,2,3,4,5],[0,1,2,3,4,5,6],[0,1,2,3,4,5,6],[0,1,2,3,4,5,6,8],[0,1,2,3,4,5,6,8,9],[0,1,2,3,4,5,6,7,8,9,10],[0,1,2,3,4,5,6,7,8,9,10,11],[0,1,2,3,4,5,6,7,8,9,10,11,12],[0,1,2,3,4,5,6,7,8,9,10,11,12,13],[0,1,2,3,4,5,6,7,8,9,10,11,12,13,14],[0,1,2,3,4,5,6,7,8,9,10,11,12,13,14],[0,1,2,3,4,5,6,7,8,9,10,11,12,13,14,15,16],[0,1,2,3,4,5,6,7,8,9,10,11,12,13,14,15,16,17],[0,1,2,3,4,5,6,7,8,9,10,11,12,13,14,15,16,17,18],[0,1,2,3,4,5,6,7,8,9,10,11,12,13,14,15,16,17,18,19],[0,1,2,3,4,5,6,7,8,9,10,11,12,13,14,15,16,17,18,19,20]] [] (λ h=>(h rfl).elim) Zk Zk Zk Zk Zk ?_;simp only [q8q,q9q,q10q,q11q,q12q,q13q];(repeat (refine R2.av ?_;(try simp only [Act.put,q0q,q1q,q2q])));(refine R2.ao RF2 _ rfl (λ _=>rfl) b o (λ _=>by simp [go_sem]) _ hrd0 rfl ?_);(refine R2.ai (λ _ => .bool true) (λ _ _=>True) (λ _ _ _ _ _=>trivial) (λ us w' hx hf=>⟨rfl,?_⟩) ?_;(unfold gives;simp [go_sem,execOp];refine (hi0 _).mono ?_;rintro e w1 ⟨rfl,hx1⟩;first|exact ⟨rfl,hx1⟩|simpa using hx1));(repeat (refine R2.av ?_;(try simp only [Act.put,q0q,q1q,q2q])));(refine R2.ao RF2 _ rfl (λ _=>rfl) b (o+2) (λ _=>by simp [go_sem]) _ hrd1 rfl ?_);(refine R2.ai (λ _ => .bool false) (λ _ _=>True) (λ _ _ _ _ _=>trivial) (λ us w' hx hf=>⟨rfl,?_⟩) ?_;(unfold gives;simp [go_sem,execOp];refine (hi1 _).mono ?_;rintro e w1 ⟨rfl,hx1⟩;first|exact ⟨rfl,hx1⟩|simpa using hx1));(repeat (refine R2.av ?_;(try simp only [Act.put,q0q,q1q,q2q])));(repeat (refine R2.fF (λ us=>rfl) ?_;(try simp only [Act.put,q0q,q1q,q2q])));(repeat (refine R2.av ?_;(try simp only [Act.put,q0q,q1q,q2q])));(refine R2.aU ?_;intro us x hx hf);go_wp2;go_ret;exact ⟨by rw [<- hv.out];rfl,eX⟩
 by_cases hl8:fl.1=1028
 ·have i8:(fl.1 != 1028)=false:=by rw [aaf];exact hl8
  rw [hb0',hb1',aav hl8] at hv;simp only [Bool.true_and] at hv;rw [hb0'] at hi0;rw [hb1'] at hi1;replace hv:=FC hv;clear hb0' hb1' hl8;haveI:=hb0
  go_enter Tryz.func52,Tryz.ntmps52
  go_wp2_with fail;refine cU ?_;intro W hW;have hE:Ext w W:=by rw [hW];exact eX
  have hF:Blk W w.heap.size 149 [.func (.func 92) #[] #[]]:=by rw [hW];exact bK
  clear hW;have hrd0:=hrd0.ext hE;have hrd1:=hrd1.ext hE;have t0:W.cell? ⟨b,o+k*2,none⟩=some (Zz Zx fl.1):=(hE.cell (p:=⟨b,_,none⟩) hb0.lt).trans s0;haveI hbW:BlkLt b W:=⟨aai hb0.lt hE.size⟩;haveI:=hF.blt;have ff:=hF.cell? 0 rfl;refine R2.ae 22 [[],[],[1],[1,2],[0,1,2,3],[0,1,2,3,4],[0,1,2,3,4,5],[0,1,2,3,4,5,6],[0,1,2,3,4,5,6],[0,1,2,3,4,5,6,8],[0,1,2,3,4,5,6,8,9],[0,1,2,3,4,5,6,7,8,9,10],[0,1,2,3,4,5,6,7,8,9,10,11],[0,1,2,3,4,5,6,7,8,9,10,11,12],[0,1,2,3,4,5,6,7,8,9,10,11,12,13],[0,1,2,3,4,5,6,7,8,9,10,11,12,13,14],[0,1,2,3,4,5,6,7,8,9,10,11,12,13,14],[0,1,2,3,4,5,6,7,8,9,10,11,12,13,14,15,16],[0,1,2,3,4,5,6,7,8,9,10,11,12,13,14,15,16,17],[0,1,2,3,4,5,6,7,8,9,10,11,12,13,14,15,16,17,18],[0,1,2,3,4,5,6,7,8,9,10,11,12,13,14,15,16,17,18,19],[0,1,2,3,4,5,6,7,8,9,10,11,12,13,14,15,16,17,18,19,20]] [] (λ h=>(h rfl).elim) Zk Zk Zk Zk Zk ?_;simp only [q8q,q9q,q10q,q11q,q12q,q13q];(repeat (refine R2.av ?_;(try simp only [Act.put,q0q,q1q,q2q])));(refine R2.ao RF2 _ rfl (λ _=>rfl) b o (λ _=>by simp [go_sem]) _ hrd0 rfl ?_);(refine R2.ai (λ _ => .bool true) (λ _ _=>True) (λ _ _ _ _ _=>trivial) (λ us w' hx hf=>⟨rfl,?_⟩) ?_;(unfold gives;simp [go_sem,execOp];refine (hi0 _).mono ?_;rintro e w1 ⟨rfl,hx1⟩;first|exact ⟨rfl,hx1⟩|simpa using hx1));(repeat (refine R2.av ?_;(try simp only [Act.put,q0q,q1q,q2q])));(refine R2.ao RF2 _ rfl (λ _=>rfl) b (o+2) (λ _=>by simp [go_sem]) _ hrd1 rfl ?_);(refine R2.ai (λ _ => .bool true) (λ _ _=>True) (λ _ _ _ _ _=>trivial) (λ us w' hx hf=>⟨rfl,?_⟩) ?_;(unfold gives;simp [go_sem,execOp];refine (hi1 _).mono ?_;rintro e w1 ⟨rfl,hx1⟩;first|exact ⟨rfl,hx1⟩|simpa using hx1));(repeat (refine R2.av ?_;(try simp only [Act.put,q0q,q1q,q2q])));(refine R2.aU ?_;intro us x hx hf);go_wp2_with fail;have hxx:Ext W (W.ext x):=hx;have hM:Ib (W.ext x) (some ⟨b,o+4,none⟩) (k-2) (nN L):=by
   have:=(hI.ext (hE.trans hxx)).part 2 (k-2) Zo;unfold nN;rw [hl];exact this
  (with_reducible refine (qb _ _ _ _ _ _ hM Zo (hF.extB hxx)).mono ?_);rintro e w3 ⟨rfl,hx3⟩;have hE3:=(hE.trans hxx).trans hx3;go_wp2_with fail;go_ret;exact ⟨by rw [<- hv.out];simp,hE3⟩
 ·have i8:(fl.1 != 1028)=true:=by rw [aao];exact hl8
  rw [hb0',hb1',aay hl8] at hv;rw [hb0'] at hi0;rw [hb1'] at hi1;replace hv:=FC hv;clear hb0' hb1' hl8;haveI:=hb0
  go_enter Tryz.func52,Tryz.ntmps52
  go_wp2_with fail;refine cU ?_;intro W hW;have hE:Ext w W:=by rw [hW];exact eX
  have hF:Blk W w.heap.size 149 [.func (.func 92) #[] #[]]:=by rw [hW];exact bK
  clear hW;have hrd0:=hrd0.ext hE;have hrd1:=hrd1.ext hE;have t0:W.cell? ⟨b,o+k*2,none⟩=some (Zz Zx fl.1):=(hE.cell (p:=⟨b,_,none⟩) hb0.lt).trans s0;haveI hbW:BlkLt b W:=⟨aai hb0.lt hE.size⟩;haveI:=hF.blt;have ff:=hF.cell? 0 rfl;refine R2.ae 22 [[],[],[1],[1,2],[0,1,2,3],[0,1,2,3,4],[0,1,2,3,4,5],[0,1,2,3,4,5,6],[0,1,2,3,4,5,6],[0,1,2,3,4,5,6,8],[0,1,2,3,4,5,6,8,9],[0,1,2,3,4,5,6,7,8,9,10],[0,1,2,3,4,5,6,7,8,9,10,11],[0,1,2,3,4,5,6,7,8,9,10,11,12],[0,1,2,3,4,5,6,7,8,9,10,11,12,13],[0,1,2,3,4,5,6,7,8,9,10,11,12,13,14],[0,1,2,3,4,5,6,7,8,9,10,11,12,13,14],[0,1,2,3,4,5,6,7,8,9,10,11,12,13,14,15,16],[0,1,2,3,4,5,6,7,8,9,10,11,12,13,14,15,16,17],[0,1,2,3,4,5,6,7,8,9,10,11,12,13,14,15,16,17,18],[0,1,2,3,4,5,6,7,8,9,10,11,12,13,14,15,16,17,18,19],[0,1,2,3,4,5,6,7,8,9,10,11,12,13,14,15,16,17,18,19,20]] [] (λ h=>(h rfl).elim) Zk Zk Zk Zk Zk ?_;simp only [q8q,q9q,q10q,q11q,q12q,q13q];(repeat (refine R2.av ?_;(try simp only [Act.put,q0q,q1q,q2q])));(refine R2.ao RF2 _ rfl (λ _=>rfl) b o (λ _=>by simp [go_sem]) _ hrd0 rfl ?_);(refine R2.ai (λ _ => .bool true) (λ _ _=>True) (λ _ _ _ _ _=>trivial) (λ us w' hx hf=>⟨rfl,?_⟩) ?_;(unfold gives;simp [go_sem,execOp];refine (hi0 _).mono ?_;rintro e w1 ⟨rfl,hx1⟩;first|exact ⟨rfl,hx1⟩|simpa using hx1));(repeat (refine R2.av ?_;(try simp only [Act.put,q0q,q1q,q2q])));(refine R2.ao RF2 _ rfl (λ _=>rfl) b (o+2) (λ _=>by simp [go_sem]) _ hrd1 rfl ?_);(refine R2.ai (λ _ => .bool true) (λ _ _=>True) (λ _ _ _ _ _=>trivial) (λ us w' hx hf=>⟨rfl,?_⟩) ?_;(unfold gives;simp [go_sem,execOp];refine (hi1 _).mono ?_;rintro e w1 ⟨rfl,hx1⟩;first|exact ⟨rfl,hx1⟩|simpa using hx1));(repeat (refine R2.av ?_;(try simp only [Act.put,q0q,q1q,q2q])));(refine R2.aU ?_;intro us x hx hf);go_wp2;go_ret;exact ⟨by rw [<- hv.out];rfl,eX⟩
theorem _root_.z43q86{p:Prop}(h:p:=by
 rw [aar];intro h0;exact q4 (aaq Zo)):p:=h
theorem mN (a:E8)(n c:Nat) (q:E7)(w:World)(h:Sl w a n q) (hc:n<=c) (hn:n<=1000000) :
  Calls Tryz.prog 15 #[Zy a n c] w λ e w'=>e = .returned (Zz Zx (ew q))/\Ext w w':=by
 have hrd:=λ W H=>mj a n c q W H hc hn;obtain ⟨r,hr⟩:∃ r,ew q=r:=⟨_,rfl⟩;rw [hr];unfold ew at hr;have hsm:=(lJ q).1;obtain ⟨P,hP⟩:∃ P,aE q=P:=⟨_,rfl⟩;rw [hP] at hr hrd hsm;clear hP;by_cases q1:P.2=0
 ·have i1:(P.2 != 0)=false:=by rw [aaf];exact q1
  by_cases q2:P.1.h.ver=4
  ·have i2:(P.1.h.ver != 4)=false:=by rw [aaf];exact q2
   by_cases q3:P.1.h.mode=3
   ·have i3:(P.1.h.mode != 3)=false:=by rw [aaf];exact q3
    rw [aae (by rw [q1,q2,q3];simp)] at hr;by_cases q4:P.1.plain=[]
    ·have i4:((P.1.plain.length:Int) == 0)=true:=by rw [q4];rfl
     rw [aaj q4] at hr;clear q1 q2 q3 q4;replace hr:=FC hr
     go_enter Tryz.func15,Tryz.ntmps15
     go_wp2_with fail;(with_reducible refine (hrd _ h).mono ?_);rintro e w1 ⟨p1,m1,rfl,⟨B,hO⟩,hE⟩;have hS:=hO.ib.1;have hm:=hO.ib.2;clear hrd hO
     go_wp2_with (first
      | ((refine ag aK rfl rfl _ _ rfl rfl rfl rfl (by simp [Act.put]) _ rfl Zs rfl oC ?_;intro x hz _);have u1:=hz.cell? 1 rfl;have u2:=hz.cell? 2 rfl;have u13:=hz.cell? 13 rfl)
      | fail)
     go_ret;exact ⟨by rw [<- hr.out] <;> rfl,hE.ext x⟩
    ·have i4:((P.1.plain.length:Int) == 0)=false:=by
      exact z43q86
     have hsh:=λ a c W H h=>tT a P.1.plain.length c P.1.plain W H h Zo;rw [aae q4] at hr;cases q5:eA P.1.plain
     ·rw [q5] at hr hsh;simp only [aaD,abg] at hr;clear q1 q2 q3 q4 q5;replace hr:=FC hr
      go_enter Tryz.func15,Tryz.ntmps15
      go_wp2_with fail;(with_reducible refine (hrd _ h).mono ?_);rintro e w1 ⟨p1,m1,rfl,⟨B,hO⟩,hE⟩;have hS:=hO.ib.1;have hm:=hO.ib.2;clear hrd hO
      go_wp2_with (first
       | ((refine ag aK rfl rfl _ _ rfl rfl rfl rfl (by simp [Act.put]) _ rfl Zs rfl oC ?_;intro x hz _);have u1:=hz.cell? 1 rfl;have u2:=hz.cell? 2 rfl;have u13:=hz.cell? 13 rfl)
       | fail)
      (with_reducible refine (hsh _ _ _ (hS.ext (FE _ _)) hm).mono ?_);rintro e w3 ⟨rfl,hx3⟩;go_wp2_with fail;go_ret;exact ⟨by rw [<- hr.out] <;> rfl,(hE.ext x).trans hx3⟩
     ·rw [q5] at hr hsh;simp only [aba] at hr;clear q1 q2 q3 q4 q5;replace hr:=FC hr
      go_enter Tryz.func15,Tryz.ntmps15
      go_wp2_with fail;(with_reducible refine (hrd _ h).mono ?_);rintro e w1 ⟨p1,m1,rfl,⟨B,hO⟩,hE⟩;have hS:=hO.ib.1;have hm:=hO.ib.2;clear hrd hO
      go_wp2_with (first
       | ((refine ag aK rfl rfl _ _ rfl rfl rfl rfl (by simp [Act.put]) _ rfl Zs rfl oC ?_;intro x hz _);have u1:=hz.cell? 1 rfl;have u2:=hz.cell? 2 rfl;have u13:=hz.cell? 13 rfl)
       | fail)
      (with_reducible refine (hsh _ _ _ (hS.ext (FE _ _)) hm).mono ?_);rintro e w3 ⟨rfl,hx3⟩;go_wp2_with fail;go_ret;exact ⟨by rw [<- hr.out] <;> rfl,(hE.ext x).trans hx3⟩
   ·have i3:(P.1.h.mode != 3)=true:=by rw [aao];exact q3
    rw [aaj (.inr (.inr q3))] at hr;clear q1 q2 q3;replace hr:=FC hr
    go_enter Tryz.func15,Tryz.ntmps15
    go_wp2_with fail;(with_reducible refine (hrd _ h).mono ?_);rintro e w1 ⟨p1,m1,rfl,⟨B,hO⟩,hE⟩;have hS:=hO.ib.1;have hm:=hO.ib.2;clear hrd hO
    go_wp2_with (first
     | ((refine ag aK rfl rfl _ _ rfl rfl rfl rfl (by simp [Act.put]) _ rfl Zs rfl oC ?_;intro x hz _);have u1:=hz.cell? 1 rfl;have u2:=hz.cell? 2 rfl;have u13:=hz.cell? 13 rfl)
     | fail)
    go_ret;exact ⟨by rw [<- hr.out] <;> rfl,hE.ext x⟩
  ·have i2:(P.1.h.ver != 4)=true:=by rw [aao];exact q2
   rw [aaj (.inr (.inl q2))] at hr;clear q1 q2;replace hr:=FC hr
   go_enter Tryz.func15,Tryz.ntmps15
   go_wp2_with fail;(with_reducible refine (hrd _ h).mono ?_);rintro e w1 ⟨p1,m1,rfl,⟨B,hO⟩,hE⟩;have hS:=hO.ib.1;have hm:=hO.ib.2;clear hrd hO
   go_wp2_with (first
    | ((refine ag aK rfl rfl _ _ rfl rfl rfl rfl (by simp [Act.put]) _ rfl Zs rfl oC ?_;intro x hz _);have u1:=hz.cell? 1 rfl;have u2:=hz.cell? 2 rfl;have u13:=hz.cell? 13 rfl)
    | fail)
   go_ret;exact ⟨by rw [<- hr.out] <;> rfl,hE.ext x⟩
 ·have i1:(P.2 != 0)=true:=by rw [aao];exact q1
  rw [aaj (.inl q1)] at hr;clear q1;replace hr:=FC hr
  go_enter Tryz.func15,Tryz.ntmps15
  go_wp2_with fail;(with_reducible refine (hrd _ h).mono ?_);rintro e w1 ⟨p1,m1,rfl,⟨B,hO⟩,hE⟩;have hS:=hO.ib.1;have hm:=hO.ib.2;clear hrd hO
  go_wp2_with (first
   | ((refine ag aK rfl rfl _ _ rfl rfl rfl rfl (by simp [Act.put]) _ rfl Zs rfl oC ?_;intro x hz _);have u1:=hz.cell? 1 rfl;have u2:=hz.cell? 2 rfl;have u13:=hz.cell? 13 rfl)
   | fail)
  go_ret;exact ⟨by rw [<- hr.out] <;> rfl,hE.ext x⟩
end Go.Proofs.P9

/- The walks of layer 26: the methods of a question. -/
namespace Go.Sec
open Go.RowKit
theorem Rd.sub {w:World} {b:Nat} {vs:List Value} (h:Rd w (some ⟨b,0,none⟩) vs) (i:Nat) (us:List Value)(hu:(vs.drop i).take us.length=us):Rd w (some ⟨b,i,none⟩) us:=by
 rcases h with h|⟨b',o',ha,hb,hc⟩
 ·left;subst h;simpa using hu.symm
 ·injection ha with ha
  injection ha with e1 e2
  subst e1 e2;refine .inr ⟨b,i,rfl,hb,λ k v hk=>?_⟩;have hk':k<us.length:=(List.getElem?_eq_some_iff.1 hk).1;have:=hc (i+k) v (by rw [<- hu,List.getElem?_take,aaj hk',List.getElem?_drop] at hk;exact hk);simpa using this
end Go.Sec
namespace Go.Proofs.P9
open Go.RowKit Go.Sec Go.Oct Go.Pkt Go.Cook Go.Tsrv BigFrame
theorem mF:RowT Tryz.prog 97 25:=⟨⟨_,Tryz.underlying97,rfl⟩,Zk,⟨_,Tryz.zeroValue97,Zk⟩⟩
def wS (R:Hdr) (w:World)(e:Ending) (w':World):Prop:=e = .returned (.agg #[Zz Zx R.leap, Zz Zx R.ver, Zz Zx R.mode, Zz Zx R.strat, Zz Zx R.poll, Zz Zx R.prec, Zz Zv (n32 R.rd), Zz Zv (n32 R.rp), Zz Zv (n32 R.id), Zz Zw (n64 R.ref), Zz Zw (n64 R.org), Zz Zw (n64 R.rcv), Zz Zw (n64 R.tx)])/\Ext w w'
theorem kH (ar p1 an:E8)(nr cr m1 cn:Nat) (s:Srv) (P:Pkt) (r t:UInt64) (N:List E7) (al:Bool) (w:World) :
  Calls Tryz.prog 116 #[.agg #[Zy ar nr cr, Zz Zx s.str, Zz Zx s.ev, Zz Zx s.bu, .bool s.opn, Zz Zx P.h.leap, Zz Zx P.h.ver, Zz Zx P.h.mode, Zz Zx P.h.strat, Zz Zx P.h.poll, Zz Zx P.h.prec, Zz Zv (n32 P.h.rd), Zz Zv (n32 P.h.rp), Zz Zv (n32 P.h.id), Zz Zw (n64 P.h.ref), Zz Zw (n64 P.h.org), Zz Zw (n64 P.h.rcv), Zz Zw (n64 P.h.tx), Zy p1 P.plain.length m1, Zy none 0 0, .bool false, Zz Zw (n64 r), Zz Zw (n64 t), Zy an N.length cn, .bool al]] w (wS (iY P.h s.str r t).1 w):=by
 have hrp:=λ W=>vv P.h s.str r t W;obtain ⟨R,hR⟩:∃ R,iY P.h s.str r t=R:=⟨_,rfl⟩;rw [hR] at hrp ⊢;clear hR;have hA:=(Blk.new w #[Zy ar nr cr, Zz Zx s.str, Zz Zx s.ev, Zz Zx s.bu, .bool s.opn, Zz Zx P.h.leap, Zz Zx P.h.ver, Zz Zx P.h.mode, Zz Zx P.h.strat, Zz Zx P.h.poll, Zz Zx P.h.prec, Zz Zv (n32 P.h.rd), Zz Zv (n32 P.h.rp), Zz Zv (n32 P.h.id), Zz Zw (n64 P.h.ref), Zz Zw (n64 P.h.org), Zz Zw (n64 P.h.rcv), Zz Zw (n64 P.h.tx), Zy p1 P.plain.length m1, Zy none 0 0, .bool false, Zz Zw (n64 r), Zz Zw (n64 t), Zy an N.length cn, .bool al] 97).alloc (.cells #[Zz Zx 0, Zz Zx 0, Zz Zx 0, Zz Zx 0, Zz Zx 0, Zz Zx 0, Zz Zv 0, Zz Zv 0, Zz Zv 0, Zz Zw 0, Zz Zw 0, Zz Zw 0, Zz Zw 0] 64);have hrd:=Rd.sub hA.rd 5 [Zz Zx P.h.leap, Zz Zx P.h.ver, Zz Zx P.h.mode, Zz Zx P.h.strat, Zz Zx P.h.poll, Zz Zx P.h.prec, Zz Zv (n32 P.h.rd), Zz Zv (n32 P.h.rp), Zz Zv (n32 P.h.id), Zz Zw (n64 P.h.ref), Zz Zw (n64 P.h.org), Zz Zw (n64 P.h.rcv), Zz Zw (n64 P.h.tx)] rfl
 go_enter Tryz.func116,Tryz.ntmps116
 go_wp2_with (first
  | (refine af aJ rfl _ rfl w.heap.size 5 rfl _ hrd rfl ?_)
  | fail)
 clear hrd;(with_reducible refine (hrp _).mono ?_);rintro e W2 ⟨rfl,hx⟩;have hE:Ext w W2:=Ext.trans eX hx;have hB:Blk W2 (w.heap.size+1) 64 [Zz Zx 0, Zz Zx 0, Zz Zx 0, Zz Zx 0, Zz Zx 0, Zz Zx 0, Zz Zv 0, Zz Zv 0, Zz Zv 0, Zz Zw 0, Zz Zw 0, Zz Zw 0, Zz Zw 0]:=(Blk.newAt _ _ _ _ Zs).extB hx;clear hx hA hrp
 go_wp2_with (first
  | (refine ag aJ rfl rfl _ _ rfl rfl rfl rfl (by simp [Act.put]) _ rfl Zs rfl oC ?_;intro x hz _)
  | (refine af aJ rfl _ rfl W2.heap.size 0 rfl _ hz.rd rfl ?_)
  | (refine aa aJ rfl _ _ rfl (w.heap.size+1) 0 rfl _ rfl 64 _ ((hB.extB (FE _ _))) rfl Zs oC ?_;intro V hV hMV)
  | fail)
 refine aaa (aL Tryz.results116 aJ _ _ (w.heap.size+1) 0 _ rfl hV.rd rfl) rfl ?_;exact ⟨rfl,E9 (hE.ext x) (hMV.below Zo (hE.ext x).size)⟩
theorem rf (ar p1 an:E8)(nr cr m1 cn:Nat) (s:Srv) (P:Pkt) (r t:UInt64) (N:List E7) (al:Bool) (w:World)(h0:0<=s.str) (h1:s.str<=255) :
  Calls Tryz.prog 82 #[.agg #[Zy ar nr cr, Zz Zx s.str, Zz Zx s.ev, Zz Zx s.bu, .bool s.opn, Zz Zx P.h.leap, Zz Zx P.h.ver, Zz Zx P.h.mode, Zz Zx P.h.strat, Zz Zx P.h.poll, Zz Zx P.h.prec, Zz Zv (n32 P.h.rd), Zz Zv (n32 P.h.rp), Zz Zv (n32 P.h.id), Zz Zw (n64 P.h.ref), Zz Zw (n64 P.h.org), Zz Zw (n64 P.h.rcv), Zz Zw (n64 P.h.tx), Zy p1 P.plain.length m1, Zy none 0 0, .bool false, Zz Zw (n64 r), Zz Zw (n64 t), Zy an N.length cn, .bool al], .string ⟨#[78,84,83,78]⟩] w (wS (aY P.h r t bw) w):=by
 have hrp:=λ W=>kH ar p1 an nr cr m1 cn s P r t N al W;rw [<- tC P.h r t bw h0 h1];obtain ⟨R,hR⟩:∃ R,(iY P.h s.str r t).1=R:=⟨_,rfl⟩;rw [hR] at hrp ⊢;clear hR;have hcd:=λ W=>uT W;have hA:=(Blk.new w #[Zy ar nr cr, Zz Zx s.str, Zz Zx s.ev, Zz Zx s.bu, .bool s.opn, Zz Zx P.h.leap, Zz Zx P.h.ver, Zz Zx P.h.mode, Zz Zx P.h.strat, Zz Zx P.h.poll, Zz Zx P.h.prec, Zz Zv (n32 P.h.rd), Zz Zv (n32 P.h.rp), Zz Zv (n32 P.h.id), Zz Zw (n64 P.h.ref), Zz Zw (n64 P.h.org), Zz Zw (n64 P.h.rcv), Zz Zw (n64 P.h.tx), Zy p1 P.plain.length m1, Zy none 0 0, .bool false, Zz Zw (n64 r), Zz Zw (n64 t), Zy an N.length cn, .bool al] 97).alloc (.cells #[Zz Zx 0, Zz Zx 0, Zz Zx 0, Zz Zx 0, Zz Zx 0, Zz Zx 0, Zz Zv 0, Zz Zv 0, Zz Zv 0, Zz Zw 0, Zz Zw 0, Zz Zw 0, Zz Zw 0] 64)
 go_enter Tryz.func82,Tryz.ntmps82
 go_wp2_with (first
  | (refine af mF rfl _ rfl w.heap.size 0 rfl _ hA.rd rfl ?_)
  | fail)
 (with_reducible refine (hrp _).mono ?_);rintro e W2 ⟨rfl,hx⟩;have hE:Ext w W2:=Ext.trans eX hx;have hB:Blk W2 (w.heap.size+1) 64 [Zz Zx 0, Zz Zx 0, Zz Zx 0, Zz Zx 0, Zz Zx 0, Zz Zx 0, Zz Zv 0, Zz Zv 0, Zz Zv 0, Zz Zw 0, Zz Zw 0, Zz Zw 0, Zz Zw 0]:=(Blk.newAt _ _ _ _ Zs).extB hx;clear hx hA hrp
 go_wp2_with (first
  | ((refine ag aJ rfl rfl _ _ rfl rfl rfl rfl (by simp [Act.put]) _ rfl Zs rfl oC ?_;intro x hz _);have z3:=hz.cell? 3 rfl;have f3:=hz.free 3)
  | fail)
 refine br ?_;intro W3 hW3;have hM:Mut W2.heap.size (W2.ext x) W3:=by rw [hW3];exact (by repeat (with_reducible first|exact Mut.refl _ _|assumption|apply Mut.ext|apply Mut.drew|apply Mut.alloc|apply Mut.setCell))
 have hz3:Blk W3 W2.heap.size 64 [Zz Zx R.leap, Zz Zx R.ver, Zz Zx R.mode, Zz Zx 0, Zz Zx R.poll, Zz Zx R.prec, Zz Zv (n32 R.rd), Zz Zv (n32 R.rp), Zz Zv (n32 R.id), Zz Zw (n64 R.ref), Zz Zw (n64 R.org), Zz Zw (n64 R.rcv), Zz Zw (n64 R.tx)]:=by rw [hW3];exact hz.set 3 _
 have hlt:=hB.lt;have hB:=Blk.turn hM (hB.extB (FE W2 x)) Zo;have hle:=hE.size;have hE:=E9 (hE.ext x) (hM.below Zo (hE.ext x).size);clear hW3 hM hz z3 f3;(with_reducible refine (hcd _).mono ?_);rintro e W4 ⟨rfl,hx⟩;have hz3:=hz3.extB hx;have hB:=hB.extB hx;have hE:Ext w W4:=E9 hE (Below.mono hx hE.size);clear hx hcd;haveI:=hz3.blt;have z8:=hz3.cell? 8 rfl;have f8:=hz3.free 8;have hz8:=hz3.set 8 (Zz Zv 1314149198);have hB8:=hB.other (a:=⟨W2.heap.size,8,none⟩) (by show w.heap.size+1≠W2.heap.size;omega) (Zz Zv 1314149198);have hE8:Ext w (W4.setCell ⟨W2.heap.size,8,none⟩ (Zz Zv 1314149198)):=hE.setCell (by show w.heap.size<=W2.heap.size;omega) _
 go_wp2_with (first
  | (refine af aJ rfl _ rfl W2.heap.size 0 rfl _ hz8.rd rfl ?_)
  | (refine aa aJ rfl _ _ rfl (w.heap.size+1) 0 rfl _ rfl 64 _ hB8 rfl Zs oC ?_;intro V hV hMV)
  | fail)
 refine aaa (aL Tryz.results82 aJ _ _ (w.heap.size+1) 0 _ rfl hV.rd rfl) rfl ?_;exact ⟨rfl,E9 hE8 (hMV.below Zo hE8.size)⟩
theorem xe (ar p1 an:E8)(nr cr m1 cn:Nat) (s:Srv) (P:Pkt) (r t:UInt64) (N:List E7) (al:Bool) (w:World)(h0:0<=s.str) (h1:s.str<=255) :
  Calls Tryz.prog 82 #[.agg #[Zy ar nr cr, Zz Zx s.str, Zz Zx s.ev, Zz Zx s.bu, .bool s.opn, Zz Zx P.h.leap, Zz Zx P.h.ver, Zz Zx P.h.mode, Zz Zx P.h.strat, Zz Zx P.h.poll, Zz Zx P.h.prec, Zz Zv (n32 P.h.rd), Zz Zv (n32 P.h.rp), Zz Zv (n32 P.h.id), Zz Zw (n64 P.h.ref), Zz Zw (n64 P.h.org), Zz Zw (n64 P.h.rcv), Zz Zw (n64 P.h.tx), Zy p1 P.plain.length m1, Zy none 0 0, .bool false, Zz Zw (n64 r), Zz Zw (n64 t), Zy an N.length cn, .bool al], .string ⟨#[82,65,84,69]⟩] w (wS (aY P.h r t kB) w):=by
 have hrp:=λ W=>kH ar p1 an nr cr m1 cn s P r t N al W;rw [<- tC P.h r t kB h0 h1];obtain ⟨R,hR⟩:∃ R,(iY P.h s.str r t).1=R:=⟨_,rfl⟩;rw [hR] at hrp ⊢;clear hR;have hcd:=λ W=>uF W;have hA:=(Blk.new w #[Zy ar nr cr, Zz Zx s.str, Zz Zx s.ev, Zz Zx s.bu, .bool s.opn, Zz Zx P.h.leap, Zz Zx P.h.ver, Zz Zx P.h.mode, Zz Zx P.h.strat, Zz Zx P.h.poll, Zz Zx P.h.prec, Zz Zv (n32 P.h.rd), Zz Zv (n32 P.h.rp), Zz Zv (n32 P.h.id), Zz Zw (n64 P.h.ref), Zz Zw (n64 P.h.org), Zz Zw (n64 P.h.rcv), Zz Zw (n64 P.h.tx), Zy p1 P.plain.length m1, Zy none 0 0, .bool false, Zz Zw (n64 r), Zz Zw (n64 t), Zy an N.length cn, .bool al] 97).alloc (.cells #[Zz Zx 0, Zz Zx 0, Zz Zx 0, Zz Zx 0, Zz Zx 0, Zz Zx 0, Zz Zv 0, Zz Zv 0, Zz Zv 0, Zz Zw 0, Zz Zw 0, Zz Zw 0, Zz Zw 0] 64)
 go_enter Tryz.func82,Tryz.ntmps82
 go_wp2_with (first
  | (refine af mF rfl _ rfl w.heap.size 0 rfl _ hA.rd rfl ?_)
  | fail)
 (with_reducible refine (hrp _).mono ?_);rintro e W2 ⟨rfl,hx⟩;have hE:Ext w W2:=Ext.trans eX hx;have hB:Blk W2 (w.heap.size+1) 64 [Zz Zx 0, Zz Zx 0, Zz Zx 0, Zz Zx 0, Zz Zx 0, Zz Zx 0, Zz Zv 0, Zz Zv 0, Zz Zv 0, Zz Zw 0, Zz Zw 0, Zz Zw 0, Zz Zw 0]:=(Blk.newAt _ _ _ _ Zs).extB hx;clear hx hA hrp
 go_wp2_with (first
  | ((refine ag aJ rfl rfl _ _ rfl rfl rfl rfl (by simp [Act.put]) _ rfl Zs rfl oC ?_;intro x hz _);have z3:=hz.cell? 3 rfl;have f3:=hz.free 3)
  | fail)
 refine br ?_;intro W3 hW3;have hM:Mut W2.heap.size (W2.ext x) W3:=by rw [hW3];exact (by repeat (with_reducible first|exact Mut.refl _ _|assumption|apply Mut.ext|apply Mut.drew|apply Mut.alloc|apply Mut.setCell))
 have hz3:Blk W3 W2.heap.size 64 [Zz Zx R.leap, Zz Zx R.ver, Zz Zx R.mode, Zz Zx 0, Zz Zx R.poll, Zz Zx R.prec, Zz Zv (n32 R.rd), Zz Zv (n32 R.rp), Zz Zv (n32 R.id), Zz Zw (n64 R.ref), Zz Zw (n64 R.org), Zz Zw (n64 R.rcv), Zz Zw (n64 R.tx)]:=by rw [hW3];exact hz.set 3 _
 have hlt:=hB.lt;have hB:=Blk.turn hM (hB.extB (FE W2 x)) Zo;have hle:=hE.size;have hE:=E9 (hE.ext x) (hM.below Zo (hE.ext x).size);clear hW3 hM hz z3 f3;(with_reducible refine (hcd _).mono ?_);rintro e W4 ⟨rfl,hx⟩;have hz3:=hz3.extB hx;have hB:=hB.extB hx;have hE:Ext w W4:=E9 hE (Below.mono hx hE.size);clear hx hcd;haveI:=hz3.blt;have z8:=hz3.cell? 8 rfl;have f8:=hz3.free 8;have hz8:=hz3.set 8 (Zz Zv 1380013125);have hB8:=hB.other (a:=⟨W2.heap.size,8,none⟩) (by show w.heap.size+1≠W2.heap.size;omega) (Zz Zv 1380013125);have hE8:Ext w (W4.setCell ⟨W2.heap.size,8,none⟩ (Zz Zv 1380013125)):=hE.setCell (by show w.heap.size<=W2.heap.size;omega) _
 go_wp2_with (first
  | (refine af aJ rfl _ rfl W2.heap.size 0 rfl _ hz8.rd rfl ?_)
  | (refine aa aJ rfl _ _ rfl (w.heap.size+1) 0 rfl _ rfl 64 _ hB8 rfl Zs oC ?_;intro V hV hMV)
  | fail)
 refine aaa (aL Tryz.results82 aJ _ _ (w.heap.size+1) 0 _ rfl hV.rd rfl) rfl ?_;exact ⟨rfl,E9 hE8 (hMV.below Zo hE8.size)⟩
end Go.Proofs.P9

/- The walks of layer 26: time, plain, cookies. -/
namespace Go.Tsrv
open Go.Pkt Go.Cook
theorem qY (s:Srv) (o:Opened) (N:List E7) (k:Nat):gF s o N (k+1)=gF s o N k++[(516,(bV s.ring o.algo o.up o.down (N.getD (1+k) [])).1)]:=by unfold gF;rw [aaZ,aaK];rfl
end Go.Tsrv
namespace Go.Proofs.P9
open Go.RowKit Go.Sec Go.Oct Go.Pkt Go.Cook Go.Tsrv BigFrame
theorem xu:RowT Tryz.prog 55 2:=⟨⟨_,Tryz.underlying55,rfl⟩,Zk,⟨_,Tryz.zeroValue55,Zk⟩⟩
theorem qq (ar p1 an:E8)(nr cr m1 cn:Nat) (s:Srv) (P:Pkt) (r t:UInt64) (N:List E7) (al:Bool) (w:World)(h0:0<=s.str) (h1:s.str<=255) :
  Calls Tryz.prog 79 #[.agg #[Zy ar nr cr, Zz Zx s.str, Zz Zx s.ev, Zz Zx s.bu, .bool s.opn, Zz Zx P.h.leap, Zz Zx P.h.ver, Zz Zx P.h.mode, Zz Zx P.h.strat, Zz Zx P.h.poll, Zz Zx P.h.prec, Zz Zv (n32 P.h.rd), Zz Zv (n32 P.h.rp), Zz Zv (n32 P.h.id), Zz Zw (n64 P.h.ref), Zz Zw (n64 P.h.org), Zz Zw (n64 P.h.rcv), Zz Zw (n64 P.h.tx), Zy p1 P.plain.length m1, Zy none 0 0, .bool false, Zz Zw (n64 r), Zz Zw (n64 t), Zy an N.length cn, .bool al]] w (wS (aI s P.h r t al) w):=by
 have hA:=(Blk.new w #[Zy ar nr cr, Zz Zx s.str, Zz Zx s.ev, Zz Zx s.bu, .bool s.opn, Zz Zx P.h.leap, Zz Zx P.h.ver, Zz Zx P.h.mode, Zz Zx P.h.strat, Zz Zx P.h.poll, Zz Zx P.h.prec, Zz Zv (n32 P.h.rd), Zz Zv (n32 P.h.rp), Zz Zv (n32 P.h.id), Zz Zw (n64 P.h.ref), Zz Zw (n64 P.h.org), Zz Zw (n64 P.h.rcv), Zz Zw (n64 P.h.tx), Zy p1 P.plain.length m1, Zy none 0 0, .bool false, Zz Zw (n64 r), Zz Zw (n64 t), Zy an N.length cn, .bool al] 97).alloc (.cells #[Zz Zx 0, Zz Zx 0, Zz Zx 0, Zz Zx 0, Zz Zx 0, Zz Zx 0, Zz Zv 0, Zz Zv 0, Zz Zv 0, Zz Zw 0, Zz Zw 0, Zz Zw 0, Zz Zw 0] 64);have f24:=hA.cell? 24 rfl;cases al
 ·have hrf:=λ W=>xe ar p1 an nr cr m1 cn s P r t N false W h0 h1;obtain ⟨R,hR⟩:∃ R,aY P.h r t kB=R:=⟨_,rfl⟩;rw [show aI s P.h r t false=R by unfold aI;rw [aae Zs];exact hR];rw [hR] at hrf;clear hR;clear f24;have f24:=hA.cell? 24 rfl
  go_enter Tryz.func79,Tryz.ntmps79
  go_wp2_with (first
   | (refine af mF rfl _ rfl w.heap.size 0 rfl _ hA.rd rfl ?_)
   | fail)
  (with_reducible refine (hrf _).mono ?_);rintro e W2 ⟨rfl,hx⟩;have hE:Ext w W2:=Ext.trans eX hx;have hB:Blk W2 (w.heap.size+1) 64 [Zz Zx 0, Zz Zx 0, Zz Zx 0, Zz Zx 0, Zz Zx 0, Zz Zx 0, Zz Zv 0, Zz Zv 0, Zz Zv 0, Zz Zw 0, Zz Zw 0, Zz Zw 0, Zz Zw 0]:=(Blk.newAt _ _ _ _ Zs).extB hx;clear hx hA hrf f24
  go_wp2_with (first
   | (refine aa aJ rfl _ _ rfl (w.heap.size+1) 0 rfl _ rfl 64 _ hB rfl Zs oC ?_;intro V hV hMV)
   | fail)
  refine aaa (aL Tryz.results79 aJ _ _ (w.heap.size+1) 0 _ rfl hV.rd rfl) rfl ?_;exact ⟨rfl,E9 hE (hMV.below Zo hE.size)⟩
 ·have hrf:=λ W=>kH ar p1 an nr cr m1 cn s P r t N true W;obtain ⟨R,hR⟩:∃ R,(iY P.h s.str r t).1=R:=⟨_,rfl⟩;rw [show aI s P.h r t true=R by unfold aI;rw [aaj rfl];exact hR];rw [hR] at hrf;clear hR;clear f24;have f24:=hA.cell? 24 rfl
  go_enter Tryz.func79,Tryz.ntmps79
  go_wp2_with (first
   | (refine af mF rfl _ rfl w.heap.size 0 rfl _ hA.rd rfl ?_)
   | fail)
  (with_reducible refine (hrf _).mono ?_);rintro e W2 ⟨rfl,hx⟩;have hE:Ext w W2:=Ext.trans eX hx;have hB:Blk W2 (w.heap.size+1) 64 [Zz Zx 0, Zz Zx 0, Zz Zx 0, Zz Zx 0, Zz Zx 0, Zz Zx 0, Zz Zv 0, Zz Zv 0, Zz Zv 0, Zz Zw 0, Zz Zw 0, Zz Zw 0, Zz Zw 0]:=(Blk.newAt _ _ _ _ Zs).extB hx;clear hx hA hrf f24
  go_wp2_with (first
   | (refine aa aJ rfl _ _ rfl (w.heap.size+1) 0 rfl _ rfl 64 _ hB rfl Zs oC ?_;intro V hV hMV)
   | fail)
  refine aaa (aL Tryz.results79 aJ _ _ (w.heap.size+1) 0 _ rfl hV.rd rfl) rfl ?_;exact ⟨rfl,E9 hE (hMV.below Zo hE.size)⟩
def C8 (l:E7)(w:World)(e:Ending) (w':World):Prop:=∃ a c,e = .returned (Zy a l.length c)/\Sl w' a l.length l/\l.length<=c/\Ext w w'
theorem uW (ar p1 an:E8)(nr cr m1 cn:Nat) (s:Srv) (P:Pkt) (r t:UInt64) (N:List E7) (al:Bool) (w:World)(h0:0<=s.str) (h1:s.str<=255) :
  Calls Tryz.prog 43 #[.agg #[Zy ar nr cr, Zz Zx s.str, Zz Zx s.ev, Zz Zx s.bu, .bool s.opn, Zz Zx P.h.leap, Zz Zx P.h.ver, Zz Zx P.h.mode, Zz Zx P.h.strat, Zz Zx P.h.poll, Zz Zx P.h.prec, Zz Zv (n32 P.h.rd), Zz Zv (n32 P.h.rp), Zz Zv (n32 P.h.id), Zz Zw (n64 P.h.ref), Zz Zw (n64 P.h.org), Zz Zw (n64 P.h.rcv), Zz Zw (n64 P.h.tx), Zy p1 P.plain.length m1, Zy none 0 0, .bool false, Zz Zw (n64 r), Zz Zw (n64 t), Zy an N.length cn, .bool al]] w (C8 (cG ⟨aI s P.h r t al,[],[],false⟩).1 w):=by
 have htm:=λ W=>qq ar p1 an nr cr m1 cn s P r t N al W h0 h1;obtain ⟨R,hR⟩:∃ R,aI s P.h r t al=R:=⟨_,rfl⟩;rw [hR] at htm ⊢;clear hR;have hba:∀ W,Calls Tryz.prog 78 #[.agg #[Zz Zx R.leap, Zz Zx R.ver, Zz Zx R.mode, Zz Zx R.strat, Zz Zx R.poll, Zz Zx R.prec, Zz Zv (n32 R.rd), Zz Zv (n32 R.rp), Zz Zv (n32 R.id), Zz Zw (n64 R.ref), Zz Zw (n64 R.org), Zz Zw (n64 R.rcv), Zz Zw (n64 R.tx), Zy none 0 0, Zy none 0 0, .bool false]] W (bD (cG ⟨R,[],[],false⟩).1.length (cG ⟨R,[],[],false⟩).1 (Zz Zx (cG ⟨R,[],[],false⟩).2) W):=λ W =>
  mK none none 0 0 0 0 ⟨R,[],[],false⟩ W (Ib.nil _ _) Zo (λ f hf=>by cases hf) rfl
 generalize cG ⟨R,[],[],false⟩=L at *;have hA:=Blk.new w #[Zy ar nr cr, Zz Zx s.str, Zz Zx s.ev, Zz Zx s.bu, .bool s.opn, Zz Zx P.h.leap, Zz Zx P.h.ver, Zz Zx P.h.mode, Zz Zx P.h.strat, Zz Zx P.h.poll, Zz Zx P.h.prec, Zz Zv (n32 P.h.rd), Zz Zv (n32 P.h.rp), Zz Zv (n32 P.h.id), Zz Zw (n64 P.h.ref), Zz Zw (n64 P.h.org), Zz Zw (n64 P.h.rcv), Zz Zw (n64 P.h.tx), Zy p1 P.plain.length m1, Zy none 0 0, .bool false, Zz Zw (n64 r), Zz Zw (n64 t), Zy an N.length cn, .bool al] 97
 go_enter Tryz.func43,Tryz.ntmps43
 go_wp2_with (first
  | (refine af mF rfl _ rfl w.heap.size 0 rfl _ hA.rd rfl ?_)
  | fail)
 (with_reducible refine (htm _).mono ?_);rintro e W2 ⟨rfl,hx⟩;have hE:Ext w W2:=Ext.trans eX hx;go_wp2_with fail;(with_reducible refine (hba _).mono ?_);rintro e W3 ⟨a3,c3,rfl,hS,hc,hx3⟩;go_wp2_with fail;go_ret;exact ⟨_,_,rfl,hS,hc,hE.trans hx3⟩
theorem kX {f:FuncId} {args:Array Value} {r:E7 × Int} {w:World} (h:Calls Tryz.prog f args w (dD r w)) :
  Calls Tryz.prog f args w λ e w'=>∃ v,e = .returned v/\∃ p:Par,v = .tuple #[.slice (p 0).1 r.1.length (p 0).2, Zz Zx r.2]/\Ext w w'/\Own w' 0 (p 0).1 r.1.length (p 0).2 r.1 :=
 h.mono λ _ _ ⟨a,c,he,hO,hx⟩=>⟨_,he,λ _=>(a,c),rfl,hx,hO⟩
theorem si (ar p1 an:E8)(nr cr m1 cn:Nat) (s:Srv) (P:Pkt) (r t:UInt64) (N:List E7) (al:Bool) (o:Opened) (bu bd:E8)(nu cu nd cd:Nat) (w:World)(hI:Ib w ar nr s.ring) (hcr:nr<=cr) (hnr:nr<=1000000) (hN:Bsc w an N.length N) (hu:Sl w bu nu o.up) (hcu:nu<=cu) (hd:Sl w bd nd o.down) (hcd:nd<=cd) (h3:3<=P.plain.length) (h10:P.plain.length<=10) (h9:9<=N.length) :
  Calls Tryz.prog 83 #[.agg #[Zy ar nr cr, Zz Zx s.str, Zz Zx s.ev, Zz Zx s.bu, .bool s.opn, Zz Zx P.h.leap, Zz Zx P.h.ver, Zz Zx P.h.mode, Zz Zx P.h.strat, Zz Zx P.h.poll, Zz Zx P.h.prec, Zz Zv (n32 P.h.rd), Zz Zv (n32 P.h.rp), Zz Zv (n32 P.h.id), Zz Zw (n64 P.h.ref), Zz Zw (n64 P.h.org), Zz Zw (n64 P.h.rcv), Zz Zw (n64 P.h.tx), Zy p1 P.plain.length m1, Zy none 0 0, .bool false, Zz Zw (n64 r), Zz Zw (n64 t), Zy an N.length cn, .bool al], Zz Zx o.algo, .agg #[Zy bu nu cu, Zy bd nd cd]] w λ e w'=>∃ a c,e = .returned (Zy a (P.plain.length-2) c)/\(∃ B,cf 79 w' B a (P.plain.length-2) c (gF s o N (P.plain.length-2)))/\Ext w w':=by
 obtain ⟨m,hm⟩:∃ m,P.plain.length=m+2:=⟨P.plain.length-2,Zo⟩;have hm0:P.plain.length-2=m:=Zo;rw [hm0];have hmI:(P.plain.length:Int)-2=(m:Int):=Zo;have hA0:=(Blk.new w #[Zy ar nr cr, Zz Zx s.str, Zz Zx s.ev, Zz Zx s.bu, .bool s.opn, Zz Zx P.h.leap, Zz Zx P.h.ver, Zz Zx P.h.mode, Zz Zx P.h.strat, Zz Zx P.h.poll, Zz Zx P.h.prec, Zz Zv (n32 P.h.rd), Zz Zv (n32 P.h.rp), Zz Zv (n32 P.h.id), Zz Zw (n64 P.h.ref), Zz Zw (n64 P.h.org), Zz Zw (n64 P.h.rcv), Zz Zw (n64 P.h.tx), Zy p1 P.plain.length m1, Zy none 0 0, .bool false, Zz Zw (n64 r), Zz Zw (n64 t), Zy an N.length cn, .bool al] 97).alloc (.cells #[Zy bu nu cu, Zy bd nd cd] 55);have hPr0:=Blk.new (w.alloc (.cells #[Zy ar nr cr, Zz Zx s.str, Zz Zx s.ev, Zz Zx s.bu, .bool s.opn, Zz Zx P.h.leap, Zz Zx P.h.ver, Zz Zx P.h.mode, Zz Zx P.h.strat, Zz Zx P.h.poll, Zz Zx P.h.prec, Zz Zv (n32 P.h.rd), Zz Zv (n32 P.h.rp), Zz Zv (n32 P.h.id), Zz Zw (n64 P.h.ref), Zz Zw (n64 P.h.org), Zz Zw (n64 P.h.rcv), Zz Zw (n64 P.h.tx), Zy p1 P.plain.length m1, Zy none 0 0, .bool false, Zz Zw (n64 r), Zz Zw (n64 t), Zy an N.length cn, .bool al] 97)) #[Zy bu nu cu, Zy bd nd cd] 55;have hsz:(w.alloc (.cells #[Zy ar nr cr, Zz Zx s.str, Zz Zx s.ev, Zz Zx s.bu, .bool s.opn, Zz Zx P.h.leap, Zz Zx P.h.ver, Zz Zx P.h.mode, Zz Zx P.h.strat, Zz Zx P.h.poll, Zz Zx P.h.prec, Zz Zv (n32 P.h.rd), Zz Zv (n32 P.h.rp), Zz Zv (n32 P.h.id), Zz Zw (n64 P.h.ref), Zz Zw (n64 P.h.org), Zz Zw (n64 P.h.rcv), Zz Zw (n64 P.h.tx), Zy p1 P.plain.length m1, Zy none 0 0, .bool false, Zz Zw (n64 r), Zz Zw (n64 t), Zy an N.length cn, .bool al] 97)).heap.size=w.heap.size+1:=Zs;rw [hsz] at hPr0;have f18:=hA0.cell? 18 rfl;clear hm hm0 hsz
 go_enter Tryz.func83,Tryz.ntmps83
 go_wp2_with fail;refine cU ?_;intro W hW;have hEW:Ext w W:=by rw [hW];exact eX
 have hA:Blk W w.heap.size 97 [Zy ar nr cr, Zz Zx s.str, Zz Zx s.ev, Zz Zx s.bu, .bool s.opn, Zz Zx P.h.leap, Zz Zx P.h.ver, Zz Zx P.h.mode, Zz Zx P.h.strat, Zz Zx P.h.poll, Zz Zx P.h.prec, Zz Zv (n32 P.h.rd), Zz Zv (n32 P.h.rp), Zz Zv (n32 P.h.id), Zz Zw (n64 P.h.ref), Zz Zw (n64 P.h.org), Zz Zw (n64 P.h.rcv), Zz Zw (n64 P.h.tx), Zy p1 P.plain.length m1, Zy none 0 0, .bool false, Zz Zw (n64 r), Zz Zw (n64 t), Zy an N.length cn, .bool al]:=by rw [hW];exact hA0
 have hPr:Blk W (w.heap.size+1) 55 [Zy bu nu cu, Zy bd nd cd]:=by rw [hW];exact hPr0
 clear hW f18 hA0 hPr0;have hI:=hI.ext hEW;have hN:=hN.ext hEW;have hu:=hu.ext hEW;have hd:=hd.ext hEW
 go_loopw [7,8,9,10,16] (λ v7 _ _ _ v16 wr=>∃ (k:Nat) (la:E8)(lc:Nat),k<=m/\v16 = Zz Zx k/\v7 = Zy la k lc/\cf 79 wr W.heap.size la k lc (gF s o N k)/\Ext W wr) (λ _ _ _ _ v16 _=>m-(intOf v16).toNat)
 case atStart=>exact ⟨0,none,0,aak _,rfl,rfl,cf.nil _ _ _,FD _⟩
 case round =>
  obtain ⟨k,la,lc,hk,rfl,rfl,hO,hX⟩:=hrel;by_cases hlt:k<m
  ·have i1:(k:Int)<(m:Int):=by omega
   have hk1:1+k<N.length:=Zo;obtain ⟨bn,on,gn,mn,dn,rfl,hbn,hcn,hdn,hSn⟩:=(hN.ext hX).at (1+k) hk1;have hgd:N.getD (1+k) []=N[1+k]:=by rw [FF,List.getElem?_eq_getElem hk1,abq]
   have hts:=FC (qY s o N k);rw [hgd] at hts;generalize N[1+k]=Y at *;have j1:(0:Int)<=1+(k:Int):=Zo;have j2:1+(k:Int)<(N.length:Int):=Zo;have j3:(1+(k:Int)).toNat=1+k:=Zo;have hA1:=hA.extB hX;have hP1:=hPr.extB hX;haveI:=hbn;haveI:=hA1.blt;have f23:=hA1.cell? 23 rfl;have hrR:=Rd.sub hA1.rd 0 [Zy ar nr cr] rfl;have hmk:=λ W' H1 H2 H3 H4=>tY ar bu bd gn nr cr nu cu nd cd mn dn s.ring o.algo o.up o.down Y W' H1 hcr hnr H2 hcu H3 hcd H4 hdn;have hI1:=hI.ext hX;have hu1:=hu.ext hX;have hd1:=hd.ext hX;generalize bV s.ring o.algo o.up o.down Y=M at *;go_wp2_with fail;refine R2.ae 15 [[],[0],[0,1],[],[],[],[5],[],[7],[5,6,7,8],[5,6,7,8,9],[0,1,2,3,4,5,6,7,8,9,10],[0,1,2,3,4,5,6,7,8,9,10,11],[0,1,2,3,4,5,6,7,8,9,10,11,12],[0,1,2,3,4,5,6,7,8,9,10,11,12],[0,1,2,3,4,5,6,7,8,9,10,11,12,13],[0,1,2,3,4,5,6,7,8,9,10,11,12,13,14,15]] [13,14] (λ _=>by intro c a d v w h;cases d <;> exact h) Zk Zk Zk Zk Zk ?_;simp only [q8q,q9q,q10q,q11q,q12q,q13q];(repeat (refine R2.av ?_;(try simp only [Act.put,q0q,q1q,q2q])));(refine R2.ao RR1 _ rfl (λ _=>rfl) w.heap.size 0 (λ _=>by simp [go_sem]) _ hrR rfl ?_);(repeat (refine R2.av ?_;(try simp only [Act.put,q0q,q1q,q2q])));(refine R2.ao xu _ rfl (λ _=>rfl) (w.heap.size+1) 0 (λ _=>by simp [go_sem]) _ hP1.rd rfl ?_);(repeat (refine R2.av ?_;(try simp only [Act.put,q0q,q1q,q2q])));(refine R2.ai (λ p => .tuple #[.slice (p 0).1 M.1.length (p 0).2, Zz Zx M.2]) (λ p w''=>Own w'' 0 (p 0).1 M.1.length (p 0).2 M.1) (λ p w w' h hx=>h.ext hx) (λ us w' hx hf=>⟨rfl,?_⟩) ?_;(unfold gives;simp [go_sem,execOp];exact kX (hmk _ (hI1.ext hx) (hu1.ext hx) (hd1.ext hx) (hSn.ext hx))));(repeat (refine R2.av ?_;(try simp only [Act.put,q0q,q1q,q2q])));(refine R2.ef ?_;intro us x hx hf hd);have hx:Ext wr (wr.ext x):=hx;have hO:=hO.ext hx;have hX:=hX.trans hx;have hsX:=hX.size;generalize (us 11 0).1=ax at *;generalize (us 11 0).2=cx at *;clear hx hd hrR hmk f23;generalize wr.ext x=wx at *
   go_wp2_with (first
    | (at_builtin;refine db VF rfl _ _ rfl W.heap.size la k lc (gF s o N k) rfl wx.heap.size 1 516 ax M.1.length cx M.1 rfl (hO.ext (FA _ _)) (Blk.new wx #[Zz Zx 516, Zy ax M.1.length cx] 79).rd (hf.ext (FA _ _)).sl hf.le.1 (Own.inT (hf.ext (FA _ _)) Zd) Zo (by have:=(FA wx (.cells #[Zz Zx 516, Zy ax M.1.length cx] 79)).size;omega) ?_;intro sa sc w7 hO7 hg7 hb7)
    | fail)
   go_roundw
   case rel=>exact ⟨k+1,sa,sc,Zo,Zg,rfl,by rw [hts.out];exact hO7,(show Ext W w7 from E9 (hX.trans (FA _ _)) hb7)⟩
   case measure=>simp [intOf];omega
  ·obtain rfl:k=m:=by omega
   have i1:¬ (k:Int)<(k:Int):=Zo;go_wp2_with fail;go_ret;exact ⟨la,lc,rfl,⟨_,hO⟩,hEW.trans hX⟩
end Go.Proofs.P9

/- The walks of layer 22: Move. -/
namespace Go.Jar
def ED (j:Jar) (k:Int):Jar × Int:=if bQ j then (if k<0 then (bT,4) else (if k=j.net then j else { j with last:=[],net:=k },0)) else (bT,3)
end Go.Jar
namespace Go.Proofs.P9
open Go.RowKit Go.Sec Go.Oct Go.Jar BigFrame
end Go.Proofs.P9

/- The walks of layer 22: Take. -/
namespace Go.Jar
def df (j:Jar):(Jar × E7) × Int :=
 if bQ j then (if j.ck.length=0 then ((bT,[]),10) else if j.sent=1099511627776 then ((bT,[]),7) else (({ j with last:=j.ck.headD [],ck:=j.ck.tail,sent:=j.sent+1 },j.ck.headD []),0)) else ((bT,[]),3)
end Go.Jar
namespace Go.Sec
open Go.RowKit
theorem Bsc.tail {w:World} {b o n:Nat} {y:E7} {L:List (E7)} (h:Bsc w (some ⟨b,o,none⟩) n (y :: L)):Bsc w (some ⟨b,o+1,none⟩) (n-1) L:=by
 have hl:=h.len;rw [aaM] at hl;refine ⟨Zo,?_⟩;rcases h.row with h0|⟨b',o',ha,hb,hc⟩
 ·omega
 ·injection ha with ha
  injection ha with e1 e2
  subst e1 e2;refine .inr ⟨b,o+1,rfl,hb,λ k hk=>?_⟩;obtain ⟨a',n',c',h1,h2,h3⟩:=hc (k+1) (by rw [aaM];omega);exact ⟨a',n',c',by rw [show o+1+k=o+(k+1) by omega];exact h1,h2,h3⟩
theorem bU.base {w:World} {base b o n c:Nat} {a:E8} {L:List (E7)} (h:bU w base a n c L) (ha:a=some ⟨b,o,none⟩):base<=b:=by
 obtain ⟨_,xs,h2,_⟩:=h;rcases h2.2 with ⟨h1,_⟩|⟨g,cap,cur,hv,hb,_⟩
 ·injection h1 with h1;rw [h1] at ha;cases ha
 ·injection hv with h1;rw [h1] at ha;injection ha with ha;injection ha with ha _;omega
theorem Bsc.mutNe {w w':World} {g n:Nat} {t:TypeId} {a:E8} {L:List (E7)} {vs:List Value} (h:Bsc w a n L) (hg:∀ b o,a=some ⟨b,o,none⟩->b≠g) (hB:Blk w g t vs) (hne:∀ v∈vs,∀ x,v ≠ Zz Zu x) (hM:Mut g w w'):Bsc w' a n L:=by
 refine ⟨h.len,h.row.imp id ?_⟩;rintro ⟨b,off,ha,hb,hc⟩;refine ⟨b,off,ha,aai hb hM.size,λ k hk=>?_⟩;obtain ⟨a',n',c',h1,h3,h2⟩:=hc k hk;exact ⟨a',n',c',(FH (hM.block b hb (λ e=>hg b off ha (by injection e)))).trans h1,h3,h2.mut hB hne hM⟩
end Go.Sec
namespace Go.Proofs.P9
open Go.RowKit Go.Sec Go.Oct Go.Jar BigFrame
def qP (r:(Jar × E7) × Int) (w:World)(e:Ending) (w':World):Prop:=∃ b1 n1 d1 b2 n2 d2 b3 n3 d3 b4 n4 d4 b5 n5 d5,e = .returned (.tuple #[.agg #[Zy b1 n1 d1, Zy b2 n2 d2, Zy b3 n3 d3, Zy b4 n4 d4, Zz Zx r.1.1.net, Zz Zx r.1.1.sent], Zy b5 n5 d5, Zz Zx r.2]) /\
 Own w' 0 b1 n1 d1 r.1.1.up/\Own w' 0 b2 n2 d2 r.1.1.dn/\Bsc w' b3 n3 r.1.1.ck/\n3<=d3/\Sl w' b4 n4 r.1.1.last/\n4<=d4/\Own w' 0 b5 n5 d5 r.1.2/\(∀ b o,b3=some ⟨b,o,none⟩->w.heap.size<=b)/\fT w' b3/\Ext w w'
theorem qP.zero (w w':World)(e:Int) (hx:Ext w w'):qP ((bT,[]),e) w (.returned (.tuple #[.agg #[Zy none 0 0, Zy none 0 0, Zy none 0 0, Zy none 0 0, Zz Zx 0, Zz Zx 0], Zy none 0 0, Zz Zx e])) w' :=
 ⟨none,0,0,none,0,0,none,0,0,none,0,0,none,0,0,rfl,Own.nil _ _,Own.nil _ _,Bsc.nil _ _,aad _,Sl.nil _ _,aad _,Own.nil _ _,(λ _ _ h=>by cases h),fT.none _,hx⟩
end Go.Proofs.P9

/- The walks of layer 18: Protect. -/
namespace Go.Pkt
open Go.Aes Go.Oct
theorem _root_.z43q81{p:Prop}(h:p:=by
 unfold aO;rw [aae Zo,aae Zs,aae (by unfold cY;simp;omega)]):p:=h
theorem zg {ky b n p:E7} (h:ky.length=32) (hb:b.length<=65519) (hn:n.length<=65519) (hp:p.length<=65519):(cj ky [b,n] p).2=0/\(cj ky [b,n] p).1.length=16+p.length:=by
 have hc:aO ky [b,n]=0:=by
  exact z43q81
 have ht:=jd hc hp;have h2:(cK ky [b,n] p).2=0:=by rw [ht]
 have hl:=(od h2).1;unfold cj;rw [aae (by simpa using h2)];refine ⟨rfl,?_⟩;rw [aag,hl,di]
theorem mm (h:Hdr) (L:List Fld):(aZ h L).1.length<=1280:=by
 unfold aZ;have h1:(cH h).1.length<=48:=by unfold cH;split <;> simp [dB]
 split
 ·simp
 ·split
  ·simp
  ·rename_i h2;obtain ⟨_,_,h3,h4⟩:=rM (by simpa using h2);rw [aag,h4,bO];omega
def eN (ky:E7)(p:Pkt) (nonce:E7):E7 × Int:=aX [(1028,aA nonce (cj ky [(aZ p.h p.plain).1,nonce] (aX p.secret).1).1)]
theorem oM {ky nonce:E7} {p:Pkt} (h1:ky.length=32) (h2:¬ (nonce.length<16\/32<nonce.length)) (h3:(aZ p.h p.plain).2=0) (h4:(aX p.secret).2=0) :
  cz ky p nonce=if ixs 1028 p.plain p.plain.length≠[] then ([],3) else if 24<=p.plain.length then ([],8)
   else if (eN ky p nonce).2≠0\/1280<(aZ p.h p.plain).1.length+(eN ky p nonce).1.length then ([],2) else ((aZ p.h p.plain).1++(eN ky p nonce).1,0):=by
 unfold cz eN;rw [aae Zo,aae h2,aae (by simpa using h3),aae (by simpa using h4)]
theorem qR {ky nonce:E7} {p:Pkt} (h1:ky.length≠32):cz ky p nonce=([],5):=aaj h1
theorem np {ky nonce:E7} {p:Pkt} (h1:ky.length=32) (h2:nonce.length<16\/32<nonce.length):cz ky p nonce=([],4):=by
 unfold cz;rw [aae Zo,aaj h2]
theorem lj {ky nonce:E7} {p:Pkt} (h1:ky.length=32) (h2:¬ (nonce.length<16\/32<nonce.length)) (h3:(aZ p.h p.plain).2≠0):cz ky p nonce=([],(aZ p.h p.plain).2):=by
 unfold cz;rw [aae Zo,aae h2,aaj h3]
theorem rC {ky nonce:E7} {p:Pkt} (h1:ky.length=32) (h2:¬ (nonce.length<16\/32<nonce.length)) (h3:(aZ p.h p.plain).2=0) (h4:(aX p.secret).2≠0):cz ky p nonce=([],(aX p.secret).2):=by
 unfold cz;rw [aae Zo,aae h2,aae (by simpa using h3),aaj h4]
end Go.Pkt
namespace Go.Proofs.P9
open Go.RowKit Go.Sec Go.Oct Go.Pkt Go.Aes BigFrame
theorem _root_.z43q20{p:Prop}(h:p:=by
 have er:=FC (show r=([],3) by rw [<- hr.out,hat.out,aaj q5]);have i5:(0:Int)<((ixs 1028 p.plain p.plain.length).length:Int):=by have:=List.length_pos_iff.2 q5;omega
 generalize (ixs 1028 p.plain p.plain.length).length=n5 at *;clear q5 hat;go_wp2_with fail;go_ret2;rw [er.out];exact aC _ _ _ hE3):p:=h
theorem _root_.z43q32{p:Prop}(h:p:=by
 have er:=FC (show r=([],(aX p.secret).2) by rw [<- hr.out];exact rC q1' q2' q3 q4);have i4:=ne0 q4;generalize (aX p.secret).2=v at *;clear q3 q4 f13;go_wp2_with fail;go_ret2;rw [er.out];exact aC _ _ _ hE2):p:=h
theorem _root_.z43q34{p:Prop}(h:p:=by
 have er:=FC (show r=([],2) by rw [hat.out,aaj (.inr q8)]);generalize (aX [(1028,G)]).1=B6 at *;have i8:(1280:Int)<(B1.length:Int)+(B6.length:Int):=Zo;go_wp2_with fail;go_ret2;rw [er.out];exact aC _ _ _ hE6):p:=h
theorem _root_.z43q36{p:Prop}(h:p:=by
 have er:=FC (show r=([],2) by rw [hat.out,aaj (.inl q7)]);have i7:=ne0 q7;generalize (aX [(1028,G)]).2=v at *;generalize (aX [(1028,G)]).1=B6 at *;go_wp2_with fail;go_ret2;rw [er.out];exact aC _ _ _ hE6):p:=h
theorem rq (ak an a1 a2:E8)(nk ck nn cn n1 c1 n2 c2:Nat) (p:Pkt) (ky nonce:E7)(w:World)(hk:Sl w ak nk ky) (hck:nk<=ck) (hnn:Sl w an nn nonce) (hcn:nn<=cn) (hn:nn<=1000000)
  (hI1:Ib w a1 n1 p.plain) (hn1:n1<=1000000) (hL1:∀ f∈p.plain,f.2.length<=1000000) (hI2:Ib w a2 n2 p.secret) (hn2:n2<=1000000) (hL2:∀ f∈p.secret,f.2.length<=1000000) :
  Calls Tryz.prog 84 #[Zy ak nk ck, .agg #[Zz Zx p.h.leap, Zz Zx p.h.ver, Zz Zx p.h.mode, Zz Zx p.h.strat, Zz Zx p.h.poll, Zz Zx p.h.prec, Zz Zv (n32 p.h.rd), Zz Zv (n32 p.h.rp), Zz Zv (n32 p.h.id), Zz Zw (n64 p.h.ref), Zz Zw (n64 p.h.org), Zz Zw (n64 p.h.rcv), Zz Zw (n64 p.h.tx), Zy a1 n1 c1, Zy a2 n2 c2, .bool p.guarded], Zy an nn cn] w (bD (cz ky p nonce).1.length (cz ky p nonce).1 (Zz Zx (cz ky p nonce).2) w):=by
 have lk:=hk.len;have ln:=hnn.len;have l1:=hI1.len;have ho:=λ W H=>rb p.h a1 a2 n1 c1 n2 c2 p.guarded p.plain W H hn1 hL1;have hs:=λ W H=>jJ a2 n2 c2 p.secret W H hn2 hL2;obtain ⟨r,hr⟩:∃ r,cz ky p nonce=r:=⟨_,rfl⟩;rw [hr];have hr:=FC hr;by_cases q1:nk=32
 ·by_cases q2:16<=nn/\nn<=32
  ·have hno:=λ W=>gY nn rfl W;rw [aav q2] at hno;have q1':ky.length=32:=Zo;have q2':¬ (nonce.length<16\/32<nonce.length):=Zo;subst q1
   go_enter Tryz.func84,Tryz.ntmps84
   go_wp2_with (first
    | (go_at_call 128;refine (hno _).mono ?_;rintro e w1 ⟨rfl,hxq⟩;obtain ⟨xq,rfl⟩:=hxq.out;clear hxq)
    | (refine af aK rfl _ rfl w.heap.size 0 rfl _ (((Blk.new w #[Zz Zx p.h.leap, Zz Zx p.h.ver, Zz Zx p.h.mode, Zz Zx p.h.strat, Zz Zx p.h.poll, Zz Zx p.h.prec, Zz Zv (n32 p.h.rd), Zz Zv (n32 p.h.rp), Zz Zv (n32 p.h.id), Zz Zw (n64 p.h.ref), Zz Zw (n64 p.h.org), Zz Zw (n64 p.h.rcv), Zz Zw (n64 p.h.tx), Zy a1 n1 c1, Zy a2 n2 c2, .bool p.guarded] 67).extB eX).rd) rfl ?_)
    | fail)
   refine br ?_;intro W hW;have hE:Ext w W:=by rw [hW];exact eX
   have hB:Blk W w.heap.size 67 [Zz Zx p.h.leap, Zz Zx p.h.ver, Zz Zx p.h.mode, Zz Zx p.h.strat, Zz Zx p.h.poll, Zz Zx p.h.prec, Zz Zv (n32 p.h.rd), Zz Zv (n32 p.h.rp), Zz Zv (n32 p.h.id), Zz Zw (n64 p.h.ref), Zz Zw (n64 p.h.org), Zz Zw (n64 p.h.rcv), Zz Zw (n64 p.h.tx), Zy a1 n1 c1, Zy a2 n2 c2, .bool p.guarded]:=by rw [hW];exact bK
   clear hW hno;(with_reducible refine (ho W (hI1.ext hE)).mono ?_);rintro e w1 ⟨b1,d1,rfl,hS1,hd1,hx1⟩;have hE1:=hE.trans hx1;have hB1:=hB.extB hx1;haveI:=hB1.blt;have f13:w1.cell? ⟨w.heap.size,13,none⟩=some (Zy a1 n1 c1):=hB1.cell? 13 rfl;have f14:w1.cell? ⟨w.heap.size,14,none⟩=some (Zy a2 n2 c2):=hB1.cell? 14 rfl;have hbl:=mm p.h p.plain;clear hE hB hx1 ho;by_cases q3:(aZ p.h p.plain).2=0
   ·rw [q3];go_wp2_with fail;clear f13 f14;(with_reducible refine (hs w1 (hI2.ext hE1)).mono ?_);rintro e w2 ⟨b2,d2,rfl,hS2,hd2,hx2⟩;have hE2:=hE1.trans hx2;have hB2:=hB1.extB hx2;have hS1:=hS1.ext hx2;haveI:=hB2.blt;have f13:w2.cell? ⟨w.heap.size,13,none⟩=some (Zy a1 n1 c1):=hB2.cell? 13 rfl;clear hE1 hB1 hx2 hs;by_cases q4:(aX p.secret).2=0
    ·rw [q4];have hat:=FC (oM q1' q2' q3 q4);have hsl:(aX p.secret).1.length<=1232:=gS;have hfi:=λ W H=>xC 1028 a1 n1 c1 p.plain W H hn1;go_wp2_with fail;clear f13;(with_reducible refine (hfi w2 (hI1.ext hE2)).mono ?_);rintro e w3 ⟨b3,d3,rfl,hO3,hx3⟩;have hE3:=hE2.trans hx3;have hB3:=hB2.extB hx3;have hS1:=hS1.ext hx3;have hS2:=hS2.ext hx3;haveI:=hB3.blt;have f13:w3.cell? ⟨w.heap.size,13,none⟩=some (Zy a1 n1 c1):=hB3.cell? 13 rfl;clear hE2 hB2 hx3 hfi hO3;by_cases q5:ixs 1028 p.plain p.plain.length=[]
     ·have i5:(ixs 1028 p.plain p.plain.length).length=0:=by rw [q5];rfl
      have hat:=FC (show r=if 24<=p.plain.length then ([],8) else if (eN ky p nonce).2≠0\/1280<(aZ p.h p.plain).1.length+(eN ky p nonce).1.length then ([],2) else ((aZ p.h p.plain).1++(eN ky p nonce).1,0) by
       rw [<- hr.out,hat.out,aae (by rw [q5];simp)])
      rw [i5];clear q5 i5;by_cases q6:24<=n1
      ·have er:=FC (show r=([],8) by rw [hat.out,aaj Zo]);have i6:(24:Int)<=(n1:Int):=Zo;go_wp2_with fail;go_ret2;rw [er.out];exact aC _ _ _ hE3
      ·have i6:¬ (24:Int)<=(n1:Int):=by omega
       have hat:=FC (show r=if (eN ky p nonce).2≠0\/1280<(aZ p.h p.plain).1.length+(eN ky p nonce).1.length then ([],2) else ((aZ p.h p.plain).1++(eN ky p nonce).1,0) by
        rw [hat.out,aae Zo])
       obtain ⟨z1,z2⟩:=zg (b:=(aZ p.h p.plain).1) (n:=nonce) (p:=(aX p.secret).1) q1' Zo Zo Zo;unfold eN at hat;have hse:=λ b' c' W H1 H2 H3=>sN ak b' b2 32 ck 2 c' (aX p.secret).1.length d2 ky [(aZ p.h p.plain).1,nonce] (aX p.secret).1 W H1 hck H2 Zo H3 hd2;rw [z1] at hse;generalize (aZ p.h p.plain).1=B1 at *;generalize (aX p.secret).1=B2 at *;generalize (cj ky [B1,nonce] B2).1=S3 at *;clear q3 q4 q6 z1;replace z2:=FC z2;go_wp2_with fail;clear f13;(with_reducible refine (hse _ _ _ (hk.ext (hE3.trans (FA _ _))) (sm hS1 hd1 (hnn.ext hE3) hcn _) (hS2.ext (FA _ _))).mono ?_);rintro e w4 ⟨b4,d4,rfl,hS4,hd4,hx4⟩;have hx4:Ext w3 w4:=(FA _ _).trans hx4;have hE4:=hE3.trans hx4;have hS1:=hS1.ext hx4;clear hE3 hx4 hse;go_wp2_with fail;(with_reducible refine (ng an b4 nn cn S3.length d4 nonce S3 _ (hnn.ext hE4) hS4 hn (by rw [z2.out];omega)).mono ?_);rintro e w5 ⟨b5,d5,rfl,hO5,hx5⟩;have hE5:=hE4.trans hx5;have hS1:=hS1.ext hx5;have hS5:=hO5.sl;have hle5:=hO5.le.1;have hGl:=eG nonce S3;have hlen:=hS5.len;rw [<- hlen] at hS5 hle5 ⊢;clear hlen;have hxe:=λ a' c' W H=>jJ a' 1 c' [(1028,aA nonce S3)] W H Zo (by intro f hf;rw [aau.1 hf];show (aA nonce S3).length<=1000000;rw [hGl];have:=z2.out;unfold aG;omega);generalize aA nonce S3=G at *;clear hE4 hx5 hO5 hS4 hd4 hGl;go_wp2_with fail;(with_reducible refine (hxe _ _ _ (ib1 hS5 hle5 1028 _)).mono ?_);rintro e w6 ⟨b6,d6,rfl,hS6,hd6,hx6⟩;have hx6:Ext w5 w6:=(FA _ _).trans hx6;have hE6:=hE5.trans hx6;have hS1:=hS1.ext hx6;clear hE5 hx6 hxe hS5;have hfl:=gS (L:=[(1028,G)]);by_cases q7:(aX [(1028,G)]).2=0
       ·rw [q7];by_cases q8:1280<B1.length+(aX [(1028,G)]).1.length
        ·exact z43q34
        ·have er:=FC (show r=(B1++(aX [(1028,G)]).1,0) by rw [hat.out,aae (λ h=>h.elim (λ h=>h q7) q8)]);clear hat q7;generalize (aX [(1028,G)]).1=B6 at *;have i8:¬ (1280:Int)<(B1.length:Int)+(B6.length:Int):=Zo;have hj:aV [B1,B6]=B1++B6:=gL _ _;have hjl:(aV [B1,B6]).length=B1.length+B6.length:=by rw [hj,aag]
         have HJ:=FC hj;clear hj;go_wp2_with fail;(with_reducible refine (gu _ _ _ [B1,B6] _ (oZ (hS1.ext eX) (hS6.ext eX) _) Zo (B1.length+B6.length) hjl Zo).mono ?_);rintro e w7 ⟨b7,d7,rfl,hO7,hx7⟩;rw [HJ.out] at hO7;go_wp2_with fail;go_ret2;rw [er.out];show bD (B1++B6).length _ _ _ _ _;rw [aag];exact ⟨b7,d7,rfl,hO7.sl,hO7.le.1,hE6.trans ((FA _ _).trans hx7)⟩
       ·exact z43q36
     ·exact z43q20
    ·exact z43q32
   ·have er:=FC (show r=([],(aZ p.h p.plain).2) by rw [<- hr.out];exact lj q1' q2' q3);have i3:=ne0 q3;generalize (aZ p.h p.plain).2=v at *;clear q3 f13 f14;go_wp2_with fail;go_ret2;rw [er.out];exact aC _ _ _ hE1
  ·have hno:=λ W=>gY nn rfl W;rw [aay q2] at hno;have i1:((nk:Int) != 32)=false:=by rw [aaf];omega
   have er:=FC (show r=([],4) by rw [<- hr.out];exact np Zo Zo);have q1:=FC q1;clear lk ln q2
   go_enter Tryz.func84,Tryz.ntmps84
   go_wp2_with (first
    | (go_at_call 128;refine (hno _).mono ?_;rintro e w1 ⟨rfl,hxq⟩;obtain ⟨xq,rfl⟩:=hxq.out;clear hxq)
    | fail)
   go_ret2;rw [er.out];exact aC _ _ _ eX
 ·have er:=FC (show r=([],5) by rw [<- hr.out];exact qR Zo);have i1:((nk:Int) != 32)=true:=by rw [aao];omega
  clear lk ln q1
  go_enter Tryz.func84,Tryz.ntmps84
  go_wp2_with fail;go_ret2;rw [er.out];exact aC _ _ _ eX
end Go.Proofs.P9

/- The walks of layer 22: Question. -/
namespace Go.Jar
open Go.Pkt
def bg (u c:E7)(k:Nat):List Fld:=[((260:Int),u),(516,c)]++List.replicate k ((772:Int),List.replicate 104 0)
theorem fB (u c:E7)(k:Nat):(bg u c k).length=2+k:=by simp [bg];omega
theorem m6 (u c:E7)(k:Nat):bg u c (k+1)=bg u c k++[((772:Int),List.replicate 104 0)]:=by simp only [bg,aby,aam]
theorem kf {u c:E7} {k:Nat} {f:Fld} (h:f∈bg u c k):f=(260,u)\/f=(516,c)\/f=(772,List.replicate 104 0):=by
 unfold bg at h;rcases aaP.1 h with h|h
 ·simp only [q3q,q4q,abt] at h;rcases h with h|h
  ·exact .inl h
  ·exact .inr (.inl h)
 ·exact .inr (.inr (abB h))
def kr (t:UInt64) (u c:E7)(k:Nat):Pkt:=⟨bW t,bg u c k,[],false⟩
def lQ (j:Jar) (t:UInt64) (u nn:E7):(Jar × E7) × Int :=
 if bQ j=true/\u.length=32/\nn.length=16 then
  (if (df j).2=0 then
   (if (cz (df j).1.1.up (kr t u (df j).1.2 (7-(df j).1.1.ck.length)) nn).2=0 then (((df j).1.1,(cz (df j).1.1.up (kr t u (df j).1.2 (7-(df j).1.1.ck.length)) nn).1),0)
    else ((bT,[]),(cz (df j).1.1.up (kr t u (df j).1.2 (7-(df j).1.1.ck.length)) nn).2))
   else ((bT,[]),(df j).2))
 else ((bT,[]),3)
theorem y9 {j:Jar} (hv:bQ j=true) (h:(df j).2=0):(df j).1.1.ck.length<=7/\(df j).1.2.length=104/\(df j).1.1.up.length=32:=by
 unfold df at h ⊢;rw [aaj hv] at h ⊢;have hh:=hv;unfold bQ at hh;rw [aaz,aaz] at hh;obtain ⟨h1,h2,_⟩:=hh;have h1:jz j:=aaV h1;by_cases q:j.ck.length=0
 ·rw [aaj q] at h;exact absurd h Zd
 ·rw [aae q] at h ⊢;by_cases q2:j.sent=1099511627776
  ·rw [aaj q2] at h;exact absurd h Zd
  ·rw [aae q2];cases hc:j.ck with
   | nil=>rw [hc] at q;exact absurd rfl q
   | cons y L =>
    have h3:=h1.2.1;rw [hc,aaM] at h3;have h4:=aaw.1 h2 y (by rw [hc];exact aa4 ..);refine ⟨by show L.length<=7;omega,by simpa using h4,h1.1.1⟩
end Go.Jar
namespace Go.Sec
open Go.RowKit
theorem cf.two {T:TypeId} {w:World} {base g m1 c1 m2 c2:Nat} {id1 id2:Int} {g1 g2:E8} {l1 l2:E7} (hB:Blk w g T [Zz Zx id1, Zy g1 m1 c1, Zz Zx id2, Zy g2 m2 c2]) (hb:base<=g)
  (h1:Sl w g1 m1 l1) (k1:m1<=c1) (i1:InT T w base g1 m1) (h2:Sl w g2 m2 l2) (k2:m2<=c2) (i2:InT T w base g2 m2):cf T w base (some ⟨g,0,none⟩) 2 2 [(id1,l1),(id2,l2)]:=by
 have e1:=h1.len;have e2:=h2.len;subst e1 e2;refine ⟨rfl,[Zz Zx id1, Zy g1 l1.length c1, Zz Zx id2, Zy g2 l2.length c2],⟨rfl, .inr ⟨g,2,#[Zz Zx id1, Zy g1 l1.length c1, Zz Zx id2, Zy g2 l2.length c2],rfl,hb,?_,aad _,by unfold maxLen;omega,rfl,rfl⟩⟩,rfl,λ k hk=>?_⟩
 ·exact hB
 ·match k,hk with
  | 0,_=>exact ⟨g1,c1,rfl,rfl,h1,k1,i1⟩
  | 1,_=>exact ⟨g2,c2,rfl,rfl,h2,k2,i2⟩
def vu (T:TypeId)(id:Int) (l:E7)(w:World)(a:E8):Prop:=∃ g ga n cc,a=some ⟨g,0,none⟩/\Rd w a [Zz Zx id, Zy ga n cc]/\Sl w ga n l/\n<=cc/\∀ base,InT T w base ga n
theorem vu.ext {T:TypeId} {id:Int} {l:E7} {w w':World} {a:E8} (h:vu T id l w a) (hx:Ext w w'):vu T id l w' a:=by
 obtain ⟨g,ga,n,cc,h1,h2,h3,h4,h5⟩:=h;exact ⟨g,ga,n,cc,h1,h2.ext hx,h3.ext hx,h4,λ b=>(h5 b).ext hx⟩
theorem vu.mk {T:TypeId} {id:Int} {l:E7} {w:World} {ga:E8} {n cc base:Nat} (h:Own w base ga n cc l) (hT:5≠T):vu T id l (w.alloc (.cells #[Zz Zx id, Zy ga n cc] T)) (some ⟨w.heap.size,0,none⟩) :=
 ⟨_,ga,n,cc,rfl,(Blk.new w #[Zz Zx id, Zy ga n cc] T).rd,h.sl.ext (FA _ _),h.le.1,λ b=>(h.ext (FA _ _)).inT hT⟩
theorem ql (w:World)(n:Nat) (hn:n<=1000000):Own (w.alloc (.cells (bJ (Zz Zu 0) n) 5)) 0 (some ⟨w.heap.size,0,none⟩) n n (List.replicate n 0):=by
 have:=Own.of_blk (base:=0) (l:=List.replicate n 0) (bY w n) (aak _) (by rw [aaL];unfold maxLen;omega)
 rwa [aaL] at this
end Go.Sec
namespace Go.Proofs.P9
open Go.RowKit Go.Sec Go.Oct Go.Jar Go.Pkt BigFrame
def nt (r:(Jar × E7) × Int) (w:World)(e:Ending) (w':World):Prop:=∃ b1 n1 d1 b2 n2 d2 b3 n3 d3 b4 n4 d4 b5 n5 d5,e = .returned (.tuple #[.agg #[Zy b1 n1 d1, Zy b2 n2 d2, Zy b3 n3 d3, Zy b4 n4 d4, Zz Zx r.1.1.net, Zz Zx r.1.1.sent], Zy b5 n5 d5, Zz Zx r.2]) /\
 Sl w' b1 n1 r.1.1.up/\n1<=d1/\Sl w' b2 n2 r.1.1.dn/\n2<=d2/\Bsc w' b3 n3 r.1.1.ck/\n3<=d3/\fT w' b3/\Sl w' b4 n4 r.1.1.last/\n4<=d4/\Sl w' b5 n5 r.1.2/\n5<=d5/\Ext w w'
theorem nt.zero (w w':World)(e:Int) (hx:Ext w w'):nt ((bT,[]),e) w (.returned (.tuple #[.agg #[Zy none 0 0, Zy none 0 0, Zy none 0 0, Zy none 0 0, Zz Zx 0, Zz Zx 0], Zy none 0 0, Zz Zx e])) w' :=
 ⟨none,0,0,none,0,0,none,0,0,none,0,0,none,0,0,rfl,Sl.nil _ _,aad _,Sl.nil _ _,aad _,Bsc.nil _ _,aad _,fT.none _,Sl.nil _ _,aad _,Sl.nil _ _,aad _,hx⟩
end Go.Proofs.P9

/- sectimeworld.Pair, Jar. -/
namespace Go.Jar
open Go.Sha
def upW (s:Nat):E7:=(gE s 64).take 32
def dnW (s:Nat):E7:=(gE s 64).drop 32
def ckW (s k:Nat):List (E7):=(List.range k).map λ i=>gE (s+1000003*(i+1)) 104
def E5 (s k:Nat):Jar:=⟨upW s,dnW s,ckW s k,[],1,0⟩
end Go.Jar
namespace Go.Proofs.P9
open Go.RowKit Go.Sec Go.Oct Go.Jar Go.Sha BigFrame
def Ep (s:Nat) (w:World)(e:Ending) (w':World):Prop:=∃ pb po c,e = .returned (.agg #[Zy (some ⟨pb,po,none⟩) 32 c, Zy (some ⟨pb,po+32,none⟩) 32 (c-32)])/\Own w' 0 (some ⟨pb,po,none⟩) 64 c (gE s 64)/\Ext w w'
def Ew (s k:Nat) (w:World)(e:Ending) (w':World):Prop:=∃ a1 d1 a2 d2 b3 d3,e = .returned (.agg #[Zy a1 32 d1, Zy a2 32 d2, Zy b3 k d3, Zy none 0 0, Zz Zx 1, Zz Zx 0])/\Sl w' a1 32 (upW s)/\32<=d1/\Sl w' a2 32 (dnW s)/\32<=d2/\Bsc w' b3 k (ckW s k)/\k<=d3/\Ext w w'
end Go.Proofs.P9
