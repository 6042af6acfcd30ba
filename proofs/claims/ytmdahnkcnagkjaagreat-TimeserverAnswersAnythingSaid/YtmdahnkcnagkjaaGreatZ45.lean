/- Lemmas of this claim, several texts joined. -/
import Derived.Test.YtmdahnkcnagkjaaGreatZ44
set_option maxRecDepth 100000
open Go.Value renaming int -> Zz,slice -> Zy
open Go.IntKind renaming i64 -> Zx,u64 -> Zw,u32 -> Zv,u8 -> Zu
open List renaming setIfInBounds_toArray -> q0q, set_cons_succ -> q1q, set_cons_zero -> q2q, take_succ_cons -> q8q, take_zero -> q9q, drop_succ_cons -> q10q, drop_zero -> q11q, take_nil -> q12q, drop_nil -> q13q
set_option maxHeartbeats 8000000
set_option linter.unusedVariables false
set_option linter.unusedSimpArgs false
/- The walks of layer 17 of the document: Size, Encode. -/
namespace Go.Pkt
theorem xF {L:List Fld} (h:fi L=0) (j:Nat):bf (L.take j)<=1232*j:=by
 induction j with
 | zero=>simp [bf]
 | succ j ih =>
  by_cases hj:j<L.length
  ·rw [aas hj,eO];have:=(vR h _ (aaB hj)).2;omega
  ·rw [aah Zo] at ih ⊢;omega
end Go.Pkt
namespace Go.Sec
open Go.RowKit
def Dm:Value->Nat
 | Zy _ m _=>m
 | _=>0
theorem Own.belowB {w w':World} {base n c B:Nat} {a:E8} {l:E7} (h:Own w base a n c l) (hx:Below B w w') (hlt:∀ g,(Value.slice a n c).ownBlock=some g->g<B):Own w' base a n c l:=by
 refine ⟨h.1,h.2.1,?_⟩;rcases h.2.2 with h1|⟨g',cap,cur,hv,hb,hh,r⟩
 ·exact .inl h1
 ·refine .inr ⟨g',cap,cur,hv,hb,?_,r⟩;rw [hx.block g' (hlt g' (by rw [hv];rfl))];exact hh
end Go.Sec
namespace Go.Proofs.P9
open Go.RowKit Go.Sec Go.Oct Go.Pkt BigFrame
theorem pL (f:Fld) (a:E8)(c:Nat) (w:World)(h:f.2.length<=1000000000) :
  Calls Tryz.prog 110 #[.agg #[Zz Zx f.1, Zy a f.2.length c]] w λ e w'=>e = .returned (.tuple #[Zz Zx (cQ f).1, Zz Zx (cQ f).2])/\Ext w w':=by
 obtain ⟨t,l⟩:=f;simp only at h ⊢;have es:max (16:Int) ((4+(l.length:Int)+3) / 4*4)=(szN l.length:Nat):=by unfold szN;omega
 have hge:=jM l.length;by_cases h1:t<0
 ·have er:=FC (show cQ (t,l)=(0,4) by unfold cQ;rw [aaj (.inl h1)]);clear es
  go_enter Tryz.func110,Tryz.ntmps110
  go_wp2_with fail;go_ret2;exact ⟨by rw [er.out];rfl,eX⟩
 ·by_cases h2:65535<t
  ·have er:=FC (show cQ (t,l)=(0,4) by unfold cQ;rw [aaj (.inr h2)]);clear es
   go_enter Tryz.func110,Tryz.ntmps110
   go_wp2_with fail;go_ret2;exact ⟨by rw [er.out];rfl,eX⟩
  ·by_cases h3:1232<l.length
   ·have er:=FC (show cQ (t,l)=(0,2) by unfold cQ;rw [aae (by simp;omega),aaj (by simp only;omega)]);have i3:(1232:Int)<(l.length:Int):=Zo;clear es
    go_enter Tryz.func110,Tryz.ntmps110
    go_wp2_with fail;go_ret2;exact ⟨by rw [er.out];rfl,eX⟩
   ·have i3:¬ (1232:Int)<(l.length:Int):=by omega
    by_cases h4:1232<szN l.length
    ·have er:=FC (show cQ (t,l)=(0,2) by unfold cQ;rw [aae (by simp;omega),aaj h4]);have i4:(1232:Int)<max (16:Int) ((4+(l.length:Int)+3) / 4*4):=Zo;clear es
     go_enter Tryz.func110,Tryz.ntmps110
     go_wp2_with fail;go_ret2;exact ⟨by rw [er.out];rfl,eX⟩
    ·have er:=FC (show cQ (t,l)=(((szN l.length:Nat):Int),0) by unfold cQ;rw [aae (by simp;omega),aae h4]);have i4:¬ (1232:Int)<max (16:Int) ((4+(l.length:Int)+3) / 4*4):=Zo;have es:=FC es
     go_enter Tryz.func110,Tryz.ntmps110
     go_wp2_with fail;go_ret2;exact ⟨by rw [er.out,<- es.out];rfl,eX⟩
theorem eV (a:E8)(n c:Nat) (L:List Fld) (w:World)(hI:Ib w a n L) (hn:n<=1000000) (hL:∀ f∈L,f.2.length<=1000000) :
  Calls Tryz.prog 71 #[Zy a n c] w (bD (aX L).1.length (aX L).1 (Zz Zx (aX L).2) w):=by
 have hl:=hI.len;obtain ⟨r,hr⟩:∃ r,aX L=r:=⟨_,rfl⟩;rw [hr];have hr:=FC hr;have hp2:∀ (v:UInt64) (vI:Int),vI=n64 v->∀ W,Calls Tryz.prog 56 #[Zz Zw vI, Zz Zx 2] W (bZ 2 (aF 2 v) W):=λ v vI hv W=>by subst hv;exact km v 2 W Zo
 go_enter Tryz.func71,Tryz.ntmps71
 go_wp2_with fail
 go_loopw [4,5,6,7] (λ v4 v5 _ _ wr=>∃ k:Nat,k<=n/\v5 = Zz Zx k/\v4 = Zz Zx (bf (L.take k):Nat)/\bf (L.take k)<=1232*k/\Hid (fi (L.take k)=0)/\Ext w wr) (λ _ v5 _ _ _=>n-(intOf v5).toNat)
 case atStart=>exact ⟨0,Zo,rfl,rfl,by simp [bf],FC rfl,FD _⟩
 case round =>
  obtain ⟨k,hk,rfl,rfl,hkt,hbad,hx⟩:=hrel;by_cases hlt:k<n
  ·obtain ⟨x,hxi⟩:∃ x,L[k]?=some x:=⟨_,List.getElem?_eq_getElem Zo⟩;have hxl:=hL x (List.mem_of_getElem? hxi);obtain ⟨b0,o0,g',c',rfl,hb0,hc0,hc1,hSk,hck⟩:=(hI.ext hx).at k hlt _ hxi;have hrd:=rd2 hb0.lt hc0 hc1;have i0:(0:Int)<=(k:Int):=Zo;have i1:(k:Int)<(n:Int):=Zo;have hsz:=λ W=>pL x g' c' W Zo;have hts:=FC (nO hxi);haveI:=hb0;by_cases he:(cQ x).2=0
   ·obtain ⟨-,hzz,hze⟩:=vA he;have htt:=eO (L.take k) x;rw [<- hts.out] at htt;have hb2:=FC (show fi (L.take (k+1))=0 by rw [hts.out,oT _ _ hbad.out,fi,aae (by simpa using he)];rfl);rw [hze] at hsz;generalize szN x.2.length=N at *;clear he hze
    go_wp2_with (first
     | (refine af RF2 rfl _ rfl b0 (o0+k*2) rfl _ hrd rfl ?_)
     | (go_at_call 110;refine (hsz _).mono ?_;rintro e w1 ⟨rfl,hxq⟩;obtain ⟨xq,rfl⟩:=hxq.out;clear hxq)
     | fail)
    go_roundw
    case rel=>exact ⟨k+1,Zo,Zg,by rw [htt];go_num,Zo,hb2,hx.trans eX⟩
    case measure=>simp [intOf];omega
   ·have he2:=FC (show r=([],(cQ x).2) by
     rw [<- hr.out];unfold aX;rw [vw hxi hbad.out he,aaj he])
    have hne:((cQ x).2 != 0)=true:=by rw [aao];exact he
    generalize (cQ x).2=ev at *;generalize (cQ x).1=sv at *;clear he
    go_wp2_with (first
     | (refine af RF2 rfl _ rfl b0 (o0+k*2) rfl _ hrd rfl ?_)
     | (go_at_call 110;refine (hsz _).mono ?_;rintro e w1 ⟨rfl,hxq⟩;obtain ⟨xq,rfl⟩:=hxq.out;clear hxq)
     | fail)
    go_ret2;rw [he2.out];exact aC _ _ _ (hx.trans eX)
  ·obtain rfl:k=n:=by omega
   rw [aah Zo] at *;by_cases h24:24<k
   ·exact z39q41
   ·have i24:¬ (24:Int)<(k:Int):=by omega
    by_cases hlo:1232<bf L
    ·have er:=FC (show r=([],2) by rw [<- hr.out];unfold aX;rw [hbad.out,aae Zs,aae Zo,aaj hlo]);have il:(1232:Int)<(bf L:Nat):=Zo;go_wp2_with fail;go_ret2;rw [er.out];exact aC _ _ _ hx
    ·have er:=FC (show r=(aQ L,0) by rw [<- hr.out];unfold aX;rw [hbad.out,aae Zs,aae Zo,aae hlo]);have il:¬ (1232:Int)<(bf L:Nat):=Zo;have hbl2:=bO L;have hxr:=hx;have hxw:=hx.size;have hbd:=FC hbad.out;go_wp2_with fail;clear hr hbad hx;refine cU ?_;intro W0 hW0;have hO0:Own W0 w.heap.size (some ⟨wr.heap.size,0,none⟩) 0 0 []:=by rw [hW0];exact (fy wr).mono hxw
     have hx0:Ext w W0:=by rw [hW0];exact hxr.alloc _
     clear hW0
     go_loopw [8,9,10,11,12] (λ v8 v9 _ _ _ wr=>∃ (j:Nat) (sa:E8)(sc:Nat),j<=k/\v9 = Zz Zx j/\v8 = Zy sa (bf (L.take j)) sc/\Own wr w.heap.size sa (bf (L.take j)) sc (aQ (L.take j))/\Ext w wr) (λ _ v9 _ _ _ _=>k-(intOf v9).toNat)
     case atStart=>exact ⟨0,_,_,Zo,rfl,rfl,hO0,hx0⟩
     case round =>
      clear hO0 hx0 hxr hxw;obtain ⟨j,sa,sc,hj,rfl,rfl,hO,hx⟩:=hrel;by_cases hlt:j<k
      ·obtain ⟨y,hxi⟩:∃ y,L[j]?=some y:=⟨_,List.getElem?_eq_getElem Zo⟩;have hxl:=hL y (List.mem_of_getElem? hxi);obtain ⟨⟨t0,t1⟩,hzz⟩:=vR hbd.out y (List.mem_of_getElem? hxi);obtain ⟨b0,o0,g',c',rfl,hb0,hc0,hc1,hSk,hck⟩:=(hI.ext hx).at j hlt _ hxi;have hrd:=rd2 hb0.lt hc0 hc1;have i0:(0:Int)<=(j:Int):=Zo;have i1:(j:Int)<(k:Int):=Zo;have hsz:=λ W=>pL y g' c' W Zo;have hts:=FC (nO hxi);have htt:=eO (L.take j) y;rw [<- hts.out] at htt;have hze:cQ y=(((szN y.2.length:Nat):Int),0):=by unfold cQ;rw [aae Zo,aae Zo]
       rw [hze] at hsz;have hzg:=jM y.2.length;obtain ⟨N,hN⟩:∃ N,szN y.2.length=N:=⟨_,rfl⟩;have hfB:dt y=aF 2 (UInt64.ofNat y.1.toNat)++(aF 2 (UInt64.ofNat N)++y.2)++List.replicate (N-(4+y.2.length)) 0:=by
        unfold dt;rw [hN,show N-4-y.2.length=N-(4+y.2.length) by omega];simp [aam]
       have hfB:=FC hfB;rw [hN] at hsz hzz hzg htt;have hN:=FC hN;haveI:=hb0;clear hze
       go_wp2_with (first
        | (refine af RF2 rfl _ rfl b0 (o0+j*2) rfl _ hrd rfl ?_)
        | (go_at_call 110;refine (hsz _).mono ?_;rintro e w1 ⟨rfl,hxq⟩;obtain ⟨xq,rfl⟩:=hxq.out;clear hxq)
        | fail)
       refine cU ?_;intro W hW;have hxW:Ext wr W:=by rw [hW];exact eX
       have hc0:=(hxW.cell (p:=⟨b0,_,none⟩) hb0.lt).trans hc0;have hc1:=(hxW.cell (p:=⟨b0,_,none⟩) hb0.lt).trans hc1;have hSW:=hSk.ext hxW;have hOW:=hO.ext hxW;have hxw:=hx.trans hxW;have hbW:BlkLt b0 W:=⟨aai hb0.lt hxW.size⟩;clear hW hxW hrd hO hx hSk;haveI:=hbW;have hv1:IntKind.u64.wrap y.1=n64 (UInt64.ofNat y.1.toNat):=by rw [aaG];unfold n64;rw [aaH];omega
       have hv2:IntKind.u64.wrap (N:Int)=n64 (UInt64.ofNat N):=by rw [aaG];unfold n64;rw [aaH];omega
       have hpa:=hp2 _ _ hv1;have hpb:=hp2 _ _ hv2;clear hv1 hv2;refine R2.ae 15 [[],[],[0,1],[0,1,2],[0,1,2,3],[0,1,2,3,4],[0,1,2,3,4,5],[],[7],[0,1,2,3,4,5,6,7,8],[],[],[10,11],[10,11,12],[10,11,12,13],[0,1,2,3,4,5,6,7,8,9,10,11,12,13,14],[0,1,2,3,4,5,6,7,8,9,10,11,12,13,14,15],[0,1,2,3,4,5,6,7,8,9,10,11,12,13,14,15,16]] [] (λ h=>(h rfl).elim) Zk Zk Zk Zk Zk ?_;simp only [q8q,q9q,q10q,q11q,q12q,q13q];(repeat (refine R2.av ?_;(try simp only [Act.put,q0q,q1q,q2q])));(refine R2.ai (λ p => .slice (p 0).1 2 (p 0).2) (λ p w''=>Own w'' 0 (p 0).1 2 (p 0).2 (aF 2 (UInt64.ofNat y.1.toNat))) (λ p w w' h hx=>h.ext hx) (λ us w' hx hf=>⟨rfl,?_⟩) ?_;(unfold gives;simp [go_sem,execOp];exact az (aak _) (hpa _)));(repeat (refine R2.av ?_;(try simp only [Act.put,q0q,q1q,q2q])));(refine R2.ai (λ p => .slice (p 0).1 2 (p 0).2) (λ p w''=>Own w'' 0 (p 0).1 2 (p 0).2 (aF 2 (UInt64.ofNat N))) (λ p w w' h hx=>h.ext hx) (λ us w' hx hf=>⟨rfl,?_⟩) ?_;(unfold gives;simp [go_sem,execOp];exact az (aak _) (hpb _)));(repeat (refine R2.av ?_;(try simp only [Act.put,q0q,q1q,q2q])));(refine R2.aU ?_;intro us x hx hf);have hw1:IntKind.u64.wrap y.1=y.1:=by rw [aaG];omega
       have hw2:IntKind.u64.wrap (N:Int)=(N:Int):=by clear hw1;rw [aaG];omega
       simp only [hw1,hw2];clear hw1 hw2;obtain ⟨hP1,hP2⟩:=hf;obtain ⟨p1,hp1'⟩:∃ a,(us 6 0).1=a:=⟨_,rfl⟩;obtain ⟨q1,hq1'⟩:∃ a,(us 6 0).2=a:=⟨_,rfl⟩;obtain ⟨p2,hp2'⟩:∃ a,(us 9 0).1=a:=⟨_,rfl⟩;obtain ⟨q2,hq2'⟩:∃ a,(us 9 0).2=a:=⟨_,rfl⟩;rw [hp1',hq1'] at hP1 ⊢;rw [hp2',hq2'] at hP2 ⊢;clear hp1' hq1' hp2' hq2' hpa hpb;have hxx:Ext W (W.ext x):=FE _ _;have hSW:=hSW.ext hxx;have hOW:=hOW.ext hxx;have hxw:=hxw.trans hxx;generalize W.ext x=W at *;have hJl:(aV [aF 2 (UInt64.ofNat y.1.toNat),aF 2 (UInt64.ofNat N),y.2]).length=4+y.2.length:=by rw [jR];simp only [aag,aw];omega
       have hJ:=FC (jR (aF 2 (UInt64.ofNat y.1.toNat)) (aF 2 (UInt64.ofNat N)) y.2);go_wp2_with fail;(with_reducible refine (aR _ _ _ _ _ (zP hP1.sl hP2.sl hSW _) Zo (4+y.2.length) hJl Zo).mono ?_);rintro e w9 ⟨a9,c9,rfl,hO9,hx9⟩;rw [hJ.out] at hO9;have hx9:Ext W w9:=(FA _ _).trans hx9;have hO9:=hO9.mono (show W.heap.size<=_ from (FA _ _).size);have hOW9:=hOW.ext hx9;have hxw9:=hxw.trans hx9;have hne:=λ g hg=>(fS hOW.2 g hg).2;clear hP1 hP2 hSW hJl hJ hOW hxx;go_wp2_with fail
       go_loopw [12] (λ v12 w3=>∃ (m:Nat) (sb:E8)(sd:Nat),4+y.2.length<=m/\m<=N/\v12 = Zy sb m sd/\Own w3 W.heap.size sb m sd (aF 2 (UInt64.ofNat y.1.toNat)++(aF 2 (UInt64.ofNat N)++y.2)++List.replicate (m-(4+y.2.length)) 0)/\Below W.heap.size w9 w3) (λ v12 _=>N-Dm v12)
       case atStart=>exact ⟨4+y.2.length,a9,c9,aad _,Zo,rfl,by simpa using hO9,Below.refl _ _⟩
       case round =>
        clear hO9;obtain ⟨m,sb,sd,hm0,hm1,rfl,hOb,hbl⟩:=hrel;have hsz3:=aal hx9.size hbl.size;by_cases hmn:m<N
        ·have im:(m:Int)<(N:Int):=by omega
         have HS:=FC (show m+1-(4+y.2.length)=(m-(4+y.2.length))+1 from Zo)
         go_wp2_with (at_builtin;refine aB U rfl _ _ rfl W.heap.size sb _ sd _ rfl _ 1 1 _ rfl (hOb.ext eX) (bI _ 0 _) Zo (by simp;omega) ?_;intro sa2 sc2 w2 hO2 hg2 hB2)
         go_roundw
         case rel=>exact ⟨m+1,sa2,sc2,Zo,Zo,rfl,by rw [HS.out,aby,<- aam];exact hO2,E9 (E9 hbl ((FA _ _).mono hsz3)) hB2⟩
         case measure=>show N-(m+1)<N-m;omega
        ·obtain rfl:m=N:=by omega
         have hmi:¬ (m:Int)<(m:Int):=Zo;rw [<- hfB.out] at hOb;have hO3:=hOW9.belowB hbl hne;have hE3:=E9 hxw9 (hbl.mono hxw.size);have hjt:bf (L.take j)<=1232*j:=xF hbd.out j
         go_wp2_with (at_builtin;refine aB U rfl _ _ rfl w.heap.size sa _ sc _ rfl sb m sd _ rfl hO3 hOb.sl Zo hE3.size ?_;intro sa2 sc2 w2 hO2 hg2 hB2)
         go_roundw
         case rel=>exact ⟨j+1,sa2,sc2,Zo,Zg,by rw [htt],by rw [htt,hts.out,jT];exact hO2,E9 hE3 hB2⟩
         case measure=>simp [intOf];omega
      ·obtain rfl:j=k:=by omega
       have hki:¬ (j:Int)<(j:Int):=Zo;rw [aah Zo] at hO;go_wp2_with fail;go_ret2;rw [er.out];exact ⟨sa,sc,by rw [hbl2];rw [aah Zo];rfl,by rw [hbl2];exact hO.sl,by rw [hbl2];exact hO.le.1,hx⟩
end Go.Proofs.P9

/- The walks of layer 18 of the document: guard, Bare, Read. -/
namespace Go.Proofs.P9
open Go.RowKit Go.Sec Go.Oct Go.Pkt Go.Aes BigFrame
theorem vG (v:UInt64) {vI:Int} (h:vI=n64 v) (W:World):Calls Tryz.prog 56 #[Zz Zw vI, Zz Zx 2] W (bZ 2 (aF 2 v) W):=by
 subst h;exact km v 2 W Zo
theorem qD (a:E8)(n c:Nat) (l:E7)(w:World)(h:Sl w a n l) (hn:n<=1000000):Calls Tryz.prog 135 #[Zy a n c, Zz Zx 4] w (bZ (aG n) (gD l 4) w):=by
 have:=vy a n c l 4 w h hn Zo Zo (aG n) (by unfold aG;omega);rw [zm,h.len];exact this
theorem mX (a1 a2:E8)(n1 c1 n2 c2:Nat) (u v:E7)(w:World)(h1:Sl w a1 n1 u) (h2:Sl w a2 n2 v) (m1:n1<=1000000) (m2:n2<=1000000) :
  Calls Tryz.prog 91 #[Zy a1 n1 c1, Zy a2 n2 c2] w (bZ (4+aG n1+aG n2) (aA u v) w):=by
 have l1:=h1.len;have l2:=h2.len;have hv1:(n1:Int)=n64 (UInt64.ofNat n1):=by unfold n64;rw [aaH];omega
 have hv2:(n2:Int)=n64 (UInt64.ofNat n2):=by unfold n64;rw [aaH];omega
 have hpa:=λ W=>vG (UInt64.ofNat n1) hv1 W;have hpb:=λ W=>vG (UInt64.ofNat n2) hv2 W;have hG:aV [aF 2 (UInt64.ofNat n1),aF 2 (UInt64.ofNat n2),gD u 4,gD v 4]=aA u v:=by unfold aA;rw [mB,l1,l2]
 have hGl:(aV [aF 2 (UInt64.ofNat n1),aF 2 (UInt64.ofNat n2),gD u 4,gD v 4]).length=4+aG n1+aG n2:=by rw [hG,eG,l1,l2]
 have HG:=FC hG;clear hG hv1 hv2 l1 l2
 go_enter Tryz.func91,Tryz.ntmps91
 go_wp2_with fail;(with_reducible refine (hpa _).mono ?_);rintro e v1 ⟨p1,q1,rfl,hO1,hx1⟩;go_wp2_with fail;(with_reducible refine (hpb _).mono ?_);rintro e v2 ⟨p2,q2,rfl,hO2,hx2⟩;have hE2:=hx1.trans hx2;go_wp2_with fail;(with_reducible refine (qD a1 n1 c1 u _ (h1.ext hE2) m1).mono ?_);rintro e v3 ⟨p3,q3,rfl,hO3,hx3⟩;have hE3:=hE2.trans hx3;go_wp2_with fail;(with_reducible refine (qD a2 n2 c2 v _ (h2.ext hE3) m2).mono ?_);rintro e v4 ⟨p4,q4,rfl,hO4,hx4⟩;have hE4:=hE3.trans hx4;have s1:=((hO1.sl.ext hx2).ext hx3).ext hx4;have s2:=(hO2.sl.ext hx3).ext hx4;have s3:=hO3.sl.ext hx4;have s4:=hO4.sl;clear hpa hpb;go_wp2_with fail;(with_reducible refine (aR _ _ _ _ _ (AF s1 s2 s3 s4 _) Zo _ hGl (by unfold aG;omega)).mono ?_);rintro e w9 ⟨a9,c9,rfl,hO9,hx9⟩;rw [HG.out] at hO9;go_wp2_with fail;go_ret;have hx8:=hE4.trans ((FA _ _).trans hx9);exact ⟨a9,c9,rfl,hO9.mono (aal hE4.size (FA _ _).size),hx8⟩
theorem lf (p:Pkt) (a1 a2:E8)(n1 c1 n2 c2:Nat) (w:World)(hI1:Ib w a1 n1 p.plain) (hn1:n1<=1000000) (hL1:∀ f∈p.plain,f.2.length<=1000000) (hI2:Ib w a2 n2 p.secret) :
  Calls Tryz.prog 31 #[.agg #[Zz Zx p.h.leap, Zz Zx p.h.ver, Zz Zx p.h.mode, Zz Zx p.h.strat, Zz Zx p.h.poll, Zz Zx p.h.prec, Zz Zv (n32 p.h.rd), Zz Zv (n32 p.h.rp), Zz Zv (n32 p.h.id), Zz Zw (n64 p.h.ref), Zz Zw (n64 p.h.org), Zz Zw (n64 p.h.rcv), Zz Zw (n64 p.h.tx), Zy a1 n1 c1, Zy a2 n2 c2, .bool p.guarded]] w (bD (cG p).1.length (cG p).1 (Zz Zx (cG p).2) w):=by
 have h2:=hI2.len;have he:=λ W=>jf p.h W;have hx:=λ W H=>eV a1 n1 c1 p.plain W H hn1 hL1;obtain ⟨r,hr⟩:∃ r,cG p=r:=⟨_,rfl⟩;rw [hr];have hr:=FC hr
 go_enter Tryz.func31,Tryz.ntmps31
 go_wp2_with (first
  | (refine af aJ rfl _ rfl w.heap.size 0 rfl _ ((Rd.left (vs:=[Zz Zx p.h.leap, Zz Zx p.h.ver, Zz Zx p.h.mode, Zz Zx p.h.strat, Zz Zx p.h.poll, Zz Zx p.h.prec, Zz Zv (n32 p.h.rd), Zz Zv (n32 p.h.rp), Zz Zv (n32 p.h.id), Zz Zw (n64 p.h.ref), Zz Zw (n64 p.h.org), Zz Zw (n64 p.h.rcv), Zz Zw (n64 p.h.tx)]) (us:=[Zy a1 n1 c1, Zy a2 n2 c2, .bool p.guarded]) (Blk.new w #[Zz Zx p.h.leap, Zz Zx p.h.ver, Zz Zx p.h.mode, Zz Zx p.h.strat, Zz Zx p.h.poll, Zz Zx p.h.prec, Zz Zv (n32 p.h.rd), Zz Zv (n32 p.h.rp), Zz Zv (n32 p.h.id), Zz Zw (n64 p.h.ref), Zz Zw (n64 p.h.org), Zz Zw (n64 p.h.rcv), Zz Zw (n64 p.h.tx), Zy a1 n1 c1, Zy a2 n2 c2, .bool p.guarded] 67).rd)) rfl ?_)
  | fail)
 refine br ?_;intro W hW;have hE:Ext w W:=by rw [hW];exact eX
 have hB:Blk W w.heap.size 67 [Zz Zx p.h.leap, Zz Zx p.h.ver, Zz Zx p.h.mode, Zz Zx p.h.strat, Zz Zx p.h.poll, Zz Zx p.h.prec, Zz Zv (n32 p.h.rd), Zz Zv (n32 p.h.rp), Zz Zv (n32 p.h.id), Zz Zw (n64 p.h.ref), Zz Zw (n64 p.h.org), Zz Zw (n64 p.h.rcv), Zz Zw (n64 p.h.tx), Zy a1 n1 c1, Zy a2 n2 c2, .bool p.guarded]:=by rw [hW];exact bK
 clear hW;(with_reducible refine (he W).mono ?_);rintro e w1 ⟨b1,d1,rfl,hS1,hd1,hx1⟩;have hB1:=hB.extB hx1;have hE1:=hE.trans hx1;haveI:=hB1.blt;have f13:w1.cell? ⟨w.heap.size,13,none⟩=some (Zy a1 n1 c1):=hB1.cell? 13 rfl;clear he hB hE hx1;by_cases h0:(cH p.h).2=0
 ·rw [h0];go_wp2_with fail;(with_reducible refine (hx w1 (hI1.ext hE1)).mono ?_);rintro e w2 ⟨b2,d2,rfl,hS2,hd2,hx2⟩;have hB2:=hB1.extB hx2;haveI:=hB2.blt;have f14:w2.cell? ⟨w.heap.size,14,none⟩=some (Zy a2 n2 c2):=hB2.cell? 14 rfl;have f15:w2.cell? ⟨w.heap.size,15,none⟩=some (.bool p.guarded):=hB2.cell? 15 rfl;clear f13 hx;by_cases h1:(aX p.plain).2=0
  ·rw [h1];have eo:=pT h0 h1;have q3:(aZ p.h p.plain).2=0:=by rw [eo]
   by_cases q4:0<n2
   ·have er:=FC (show r=([],3) by rw [<- hr.out];exact ji q3 (.inl (List.ne_nil_of_length_pos Zo)));have i4:(0:Int)<(n2:Int):=Zo;clear q3 eo h0 h1;go_wp2_with fail;go_ret2;rw [er.out];exact aC _ _ _ (hE1.trans hx2)
   ·have hs0:p.secret=[]:=aaq Zo;obtain rfl:n2=0:=Zo;cases q5:p.guarded
    ·have er:=FC (show r=((cH p.h).1++(aX p.plain).1,0) by rw [<- hr.out,tu q3 (by rw [hs0,q5];simp),eo]);have hl1:=nY (h:=p.h);have hl2:=gS (L:=p.plain);generalize (cH p.h).1=B1 at *;generalize (aX p.plain).1=B2 at *;rw [q5] at f15;have hS1:=hS1.ext hx2;have hj:aV [B1,B2]=B1++B2:=gL _ _;have hjl:(aV [B1,B2]).length=B1.length+B2.length:=by rw [hj,aag]
     have HJ:=FC hj;clear hj q3 eo h0 h1 hs0 h2 q4;go_wp2_with fail;(with_reducible refine (aR _ _ _ [B1,B2] _ (oZ (hS1.ext eX) (hS2.ext eX) _) Zo (B1.length+B2.length) hjl Zo).mono ?_);rintro e w3 ⟨a3,c3,rfl,hO3,hx3⟩;rw [HJ.out] at hO3;go_wp2_with fail;go_ret2;rw [er.out];show bD (B1++B2).length _ _ _ _ _;rw [aag];exact ⟨a3,c3,rfl,hO3.sl,hO3.le.1,(hE1.trans hx2).trans ((FA _ _).trans hx3)⟩
    ·have er:=FC (show r=([],3) by rw [<- hr.out];exact ji q3 (.inr q5));rw [q5] at f15;clear q3 eo h0 h1 hs0 h2 q4;go_wp2_with fail;go_ret2;rw [er.out];exact aC _ _ _ (hE1.trans hx2)
  ·have eo:=kV h0 h1;have er:=FC (show r=([],(aX p.plain).2) by rw [<- hr.out,kW (by rw [eo];exact h1),eo]);have hI:=ne0 h1;generalize (aX p.plain).2=v at *;clear h0 h1 eo f14 f15;go_wp2_with fail;go_ret2;rw [er.out];exact aC _ _ _ (hE1.trans hx2)
 ·have eo:=mg (L:=p.plain) h0;have er:=FC (show r=([],(cH p.h).2) by rw [<- hr.out,kW (by rw [eo];exact h0),eo]);have hI:=ne0 h0;generalize (cH p.h).2=v at *;clear h0 hx f13 eo;go_wp2_with fail;go_ret2;rw [er.out];exact aC _ _ _ hE1
theorem lv (a:E8)(n c:Nat) (b:E7)(w:World)(hS:Sl w a n b) (hc:n<=c) (hn:n<=1000000) :
  Calls Tryz.prog 29 #[Zy a n c] w (iu (aE b) w):=by
 have hl:=hS.len;have hdh:=λ W H=>lY a n c b W H hc hn;have hrl:=mx (b:=b);obtain ⟨r,hr⟩:∃ r,aE b=r:=⟨_,rfl⟩;rw [hr];have hr:=FC hr
 go_enter Tryz.func29,Tryz.ntmps29
 go_wp2_with fail;refine br ?_;intro W hW;have hE:Ext w W:=by rw [hW];exact eX
 have hP:Blk W w.heap.size 67 [Zz Zx 0, Zz Zx 0, Zz Zx 0, Zz Zx 0, Zz Zx 0, Zz Zx 0, Zz Zv 0, Zz Zv 0, Zz Zv 0, Zz Zw 0, Zz Zw 0, Zz Zw 0, Zz Zw 0, Zy none 0 0, Zy none 0 0, .bool false]:=by rw [hW];exact bK
 clear hW;(with_reducible refine (hdh W (hS.ext hE)).mono ?_);rintro e w1 ⟨b1,d1,rfl,hS1,hd1,hx1⟩;have hE1:=hE.trans hx1;have hP1:=hP.extB hx1;haveI:=hP1.blt;clear hE hP hx1 hdh;by_cases q1:(bH b).2=0
 ·rw [q1];have hdf:=λ W H=>jv b1 (bH b).1.2.length d1 (bH b).1.2 W H hd1 Zo;have hok:=λ h=>iR q1 h;have hbad:=λ h=>ft q1 h;generalize (bH b).1.2=R at *;generalize (bH b).1.1=H at *
  go_wp2_with (first
   | (refine ag aJ rfl rfl _ _ rfl rfl rfl rfl (by simp [Act.put]) _ rfl Zs rfl oC ?_;intro x hz _)
   | fail)
  refine br ?_;intro W2 hW2;have hx2:Ext w1 W2:=by rw [hW2];exact eX
  have hzz:Blk W2 w1.heap.size 64 [Zz Zx H.leap, Zz Zx H.ver, Zz Zx H.mode, Zz Zx H.strat, Zz Zx H.poll, Zz Zx H.prec, Zz Zv (n32 H.rd), Zz Zv (n32 H.rp), Zz Zv (n32 H.id), Zz Zw (n64 H.ref), Zz Zw (n64 H.org), Zz Zw (n64 H.rcv), Zz Zw (n64 H.tx)]:=by rw [hW2];exact hz.extB eX
  have hP2:=hP1.extB hx2;have hE2:=hE1.trans hx2;have hS2:=hS1.ext hx2;have hlt:=hP1.lt;clear hW2 hx2 hE1 hP1 hS1;(with_reducible refine (hdf W2 hS2).mono ?_);rintro e w3 ⟨b3,d3,rfl,hO3,hx3⟩;have hP3:=hP2.extB hx3;have hz3:=hzz.extB hx3;have hE3:=hE2.trans hx3;haveI:=hP3.blt;clear hP2 hE2 hdf hz hzz hx3;by_cases q2:(bj R).2=0
  ·rw [q2];have er:=FC (show r=(⟨H,(bj R).1,[],false⟩,0) by rw [<- hr.out];exact hok q2);clear hok hbad q2;generalize (bj R).1=L at *
   go_wp2_with (first
    | (refine af aJ rfl _ rfl w1.heap.size 0 rfl _ ((hz3.extB eX).rd) rfl ?_)
    | (refine aa aK rfl _ _ rfl w.heap.size 0 rfl _ rfl 67 _ ((hP3.extB eX)) rfl Zs oC ?_;intro V hV hMV)
    | fail)
   refine aaa (aj Tryz.results29 aK _ _ w.heap.size 0 _ rfl hV.rd rfl (Zz Zx 0) rfl) rfl ?_;rw [er.out];exact ⟨b3,d3,rfl,⟨_,hO3.mut hP3 Zd Zs hMV⟩,E9 hE3 (hMV.below (aad _) hE3.size)⟩
  ·have er:=FC (show r=(aP,(bj R).2) by rw [<- hr.out];exact hbad q2);have i2:=ne0 q2;generalize (bj R).2=v at *;generalize (bj R).1=L at *;clear q2 hok hbad
   go_wp2_with (first
    | (refine aa aK rfl _ _ rfl w.heap.size 0 rfl _ rfl 67 _ ((hP3.extB eX)) rfl Zs oC ?_;intro V hV hMV)
    | fail)
   refine aaa (aj Tryz.results29 aK _ _ w.heap.size 0 _ rfl hV.rd rfl (Zz Zx v) rfl) rfl ?_;rw [er.out];exact iu.err _ _ _ (E9 (hE3.trans eX) (hMV.below (aad _) (Below.size (hE3.trans eX))))
 ·have er:=FC (show r=(aP,(bH b).2) by rw [<- hr.out];exact fo q1);have i1:=ne0 q1;generalize (bH b).2=v at *;generalize (bH b).1.1=H at *;clear q1
  go_wp2_with (first
   | (refine ag aJ rfl rfl _ _ rfl rfl rfl rfl (by simp [Act.put]) _ rfl Zs rfl oC ?_;intro x hz _)
   | (refine aa aK rfl _ _ rfl w.heap.size 0 rfl _ rfl 67 _ ((hP1.extB eX)) rfl Zs oC ?_;intro V hV hMV)
   | fail)
  refine aaa (aj Tryz.results29 aK _ _ w.heap.size 0 _ rfl hV.rd rfl (Zz Zx v) rfl) rfl ?_;rw [er.out];exact iu.err _ _ _ (E9 (hE1.trans eX) (hMV.below (aad _) (Below.size (hE1.trans eX))))
end Go.Proofs.P9

/- The walks of layer 18 of the document: Protect. -/
namespace Go.Proofs.P9
open Go.RowKit Go.Sec Go.Oct Go.Pkt Go.Aes BigFrame
theorem ma (ak an a1 a2:E8)(nk ck nn cn n1 c1 n2 c2:Nat) (p:Pkt) (ky nonce:E7)(w:World)(hk:Sl w ak nk ky) (hck:nk<=ck) (hnn:Sl w an nn nonce) (hcn:nn<=cn) (hn:nn<=1000000)
  (hI1:Ib w a1 n1 p.plain) (hn1:n1<=1000000) (hL1:∀ f∈p.plain,f.2.length<=1000000) (hI2:Ib w a2 n2 p.secret) (hn2:n2<=1000000) (hL2:∀ f∈p.secret,f.2.length<=1000000) :
  Calls Tryz.prog 51 #[Zy ak nk ck, .agg #[Zz Zx p.h.leap, Zz Zx p.h.ver, Zz Zx p.h.mode, Zz Zx p.h.strat, Zz Zx p.h.poll, Zz Zx p.h.prec, Zz Zv (n32 p.h.rd), Zz Zv (n32 p.h.rp), Zz Zv (n32 p.h.id), Zz Zw (n64 p.h.ref), Zz Zw (n64 p.h.org), Zz Zw (n64 p.h.rcv), Zz Zw (n64 p.h.tx), Zy a1 n1 c1, Zy a2 n2 c2, .bool p.guarded], Zy an nn cn] w (bD (cz ky p nonce).1.length (cz ky p nonce).1 (Zz Zx (cz ky p nonce).2) w):=by
 have lk:=hk.len;have ln:=hnn.len;have l1:=hI1.len;have he:=λ W=>jf p.h W;have ho:=λ W H=>eV a1 n1 c1 p.plain W H hn1 hL1;have hs:=λ W H=>eV a2 n2 c2 p.secret W H hn2 hL2;obtain ⟨r,hr⟩:∃ r,cz ky p nonce=r:=⟨_,rfl⟩;rw [hr];have hr:=FC hr;by_cases q1:nk=32
 ·by_cases q2:16<=nn/\nn<=32
  ·have q1':ky.length=32:=by omega
   have q2':¬ (nonce.length<16\/32<nonce.length):=Zo;have q2a:¬ (nn:Int)<16:=Zo;have q2b:¬ (32:Int)<(nn:Int):=Zo;subst q1
   go_enter Tryz.func51,Tryz.ntmps51
   go_wp2_with (first
    | (refine af aJ rfl _ rfl w.heap.size 0 rfl _ ((Rd.left (vs:=[Zz Zx p.h.leap, Zz Zx p.h.ver, Zz Zx p.h.mode, Zz Zx p.h.strat, Zz Zx p.h.poll, Zz Zx p.h.prec, Zz Zv (n32 p.h.rd), Zz Zv (n32 p.h.rp), Zz Zv (n32 p.h.id), Zz Zw (n64 p.h.ref), Zz Zw (n64 p.h.org), Zz Zw (n64 p.h.rcv), Zz Zw (n64 p.h.tx)]) (us:=[Zy a1 n1 c1, Zy a2 n2 c2, .bool p.guarded]) (Blk.new w #[Zz Zx p.h.leap, Zz Zx p.h.ver, Zz Zx p.h.mode, Zz Zx p.h.strat, Zz Zx p.h.poll, Zz Zx p.h.prec, Zz Zv (n32 p.h.rd), Zz Zv (n32 p.h.rp), Zz Zv (n32 p.h.id), Zz Zw (n64 p.h.ref), Zz Zw (n64 p.h.org), Zz Zw (n64 p.h.rcv), Zz Zw (n64 p.h.tx), Zy a1 n1 c1, Zy a2 n2 c2, .bool p.guarded] 67).rd)) rfl ?_)
    | fail)
   refine br ?_;intro W hW;have hE:Ext w W:=by rw [hW];exact eX
   have hB:Blk W w.heap.size 67 [Zz Zx p.h.leap, Zz Zx p.h.ver, Zz Zx p.h.mode, Zz Zx p.h.strat, Zz Zx p.h.poll, Zz Zx p.h.prec, Zz Zv (n32 p.h.rd), Zz Zv (n32 p.h.rp), Zz Zv (n32 p.h.id), Zz Zw (n64 p.h.ref), Zz Zw (n64 p.h.org), Zz Zw (n64 p.h.rcv), Zz Zw (n64 p.h.tx), Zy a1 n1 c1, Zy a2 n2 c2, .bool p.guarded]:=by rw [hW];exact bK
   clear hW;(with_reducible refine (he W).mono ?_);rintro e w0 ⟨bh,dh,rfl,hSh,hdh,hx0⟩;have hE:=hE.trans hx0;have hB:=hB.extB hx0;haveI:=hB.blt;have f13:w0.cell? ⟨w.heap.size,13,none⟩=some (Zy a1 n1 c1):=hB.cell? 13 rfl;have f14:w0.cell? ⟨w.heap.size,14,none⟩=some (Zy a2 n2 c2):=hB.cell? 14 rfl;clear hx0 he;by_cases p0:(cH p.h).2=0
   ·rw [p0];go_wp2_with fail;clear f13 f14;(with_reducible refine (ho w0 (hI1.ext hE)).mono ?_);rintro e w1 ⟨b1,d1,rfl,hS1,hd1,hx1⟩;have hE1:=hE.trans hx1;have hB1:=hB.extB hx1;have hSh:=hSh.ext hx1;haveI:=hB1.blt;have f13:w1.cell? ⟨w.heap.size,13,none⟩=some (Zy a1 n1 c1):=hB1.cell? 13 rfl;have f14:w1.cell? ⟨w.heap.size,14,none⟩=some (Zy a2 n2 c2):=hB1.cell? 14 rfl;clear hE hB hx1 ho;by_cases p1:(aX p.plain).2=0
    ·rw [p1];have eo:=pT p0 p1;have q3:(aZ p.h p.plain).2=0:=by rw [eo]
     have hn24:n1<=24:=by have:=(rM p1).2.1;omega
     have hbl:=mm p.h p.plain;have hlh:=nY (h:=p.h);have hlf:=gS (L:=p.plain);go_wp2_with fail;clear f13 f14;(with_reducible refine (hs w1 (hI2.ext hE1)).mono ?_);rintro e w2 ⟨b2,d2,rfl,hS2,hd2,hx2⟩;have hE2:=hE1.trans hx2;have hB2:=hB1.extB hx2;have hS1:=hS1.ext hx2;have hSh:=hSh.ext hx2;haveI:=hB2.blt;have f13:w2.cell? ⟨w.heap.size,13,none⟩=some (Zy a1 n1 c1):=hB2.cell? 13 rfl;clear hE1 hB1 hx2 hs;by_cases q4:(aX p.secret).2=0
     ·rw [q4];have hat:=FC (oM q1' q2' q3 q4);have hsl:(aX p.secret).1.length<=1232:=gS;have hfi:=λ W H=>jj 1028 a1 n1 c1 p.plain W H hn1;go_wp2_with fail;clear f13;(with_reducible refine (hfi w2 (hI1.ext hE2)).mono ?_);rintro e w3 ⟨b3,d3,rfl,hO3,hx3⟩;have hE3:=hE2.trans hx3;have hB3:=hB2.extB hx3;have hS1:=hS1.ext hx3;have hSh:=hSh.ext hx3;have hS2:=hS2.ext hx3;haveI:=hB3.blt;have f13:w3.cell? ⟨w.heap.size,13,none⟩=some (Zy a1 n1 c1):=hB3.cell? 13 rfl;clear hE2 hB2 hx3 hfi hO3;by_cases q5:ixs 1028 p.plain p.plain.length=[]
      ·have i5:(ixs 1028 p.plain p.plain.length).length=0:=by rw [q5];rfl
       have hat:=FC (show r=if 24<=p.plain.length then ([],8) else if (eN ky p nonce).2≠0\/1280<(aZ p.h p.plain).1.length+(eN ky p nonce).1.length then ([],2) else ((aZ p.h p.plain).1++(eN ky p nonce).1,0) by
        rw [<- hr.out,hat.out,aae (by rw [q5];simp)])
       rw [i5];clear q5 i5;by_cases q6:24<=n1
       ·have er:=FC (show r=([],8) by rw [hat.out,aaj Zo]);have i6:(n1:Int)=24:=Zo;go_wp2_with fail;go_ret2;rw [er.out];exact aC _ _ _ hE3
       ·have i6:¬ (n1:Int)=24:=by omega
        have hat:=FC (show r=if (eN ky p nonce).2≠0\/1280<(aZ p.h p.plain).1.length+(eN ky p nonce).1.length then ([],2) else ((aZ p.h p.plain).1++(eN ky p nonce).1,0) by
         rw [hat.out,aae Zo])
        obtain ⟨z1,z2⟩:=zg (b:=(aZ p.h p.plain).1) (n:=nonce) (p:=(aX p.secret).1) q1' Zo Zo Zo;unfold eN at hat;have hse:=λ b' c' W H1 H2 H3=>qA ak b' b2 32 ck 2 c' (aX p.secret).1.length d2 ky [(aZ p.h p.plain).1,nonce] (aX p.secret).1 W H1 hck H2 Zo H3 hd2;rw [z1] at hse;have eo1:aV [(cH p.h).1,(aX p.plain).1]=(aZ p.h p.plain).1:=by rw [gL,eo]
        have ejl:=congrArg List.length eo1;replace eo1:=FC eo1;clear eo p0 p1;generalize (aZ p.h p.plain).1=B1 at *;generalize (cH p.h).1=Hb at *;generalize (aX p.plain).1=Fb at *;generalize (aX p.secret).1=B2 at *;generalize (cj ky [B1,nonce] B2).1=S3 at *;clear q3 q4 q6 z1;replace z2:=FC z2;go_wp2_with fail;clear f13;(with_reducible refine (aR _ _ _ [Hb,Fb] _ (oZ hSh hS1 _) Zo B1.length ejl Zo).mono ?_);rintro e w3b ⟨ba,da,rfl,hOa,hxa⟩;rw [eo1.out] at hOa;have hxa:Ext w3 w3b:=(FA _ _).trans hxa;have hE3:=hE3.trans hxa;have hS1:=hOa.sl;have hd1:=hOa.le.1;have hS2:=hS2.ext hxa;clear hOa hxa hSh;go_wp2_with fail;(with_reducible refine (hse _ _ _ (hk.ext (hE3.trans (FA _ _))) (sm hS1 hd1 (hnn.ext hE3) hcn _) (hS2.ext (FA _ _))).mono ?_);rintro e w4 ⟨b4,d4,rfl,hS4,hd4,hx4⟩;have hx4:Ext w3b w4:=(FA _ _).trans hx4;have hE4:=hE3.trans hx4;have hS1:=hS1.ext hx4;clear hE3 hx4 hse;go_wp2_with fail;(with_reducible refine (mX an b4 nn cn S3.length d4 nonce S3 _ (hnn.ext hE4) hS4 hn (by rw [z2.out];omega)).mono ?_);rintro e w5 ⟨b5,d5,rfl,hO5,hx5⟩;have hE5:=hE4.trans hx5;have hS1:=hS1.ext hx5;have hS5:=hO5.sl;have hle5:=hO5.le.1;have hGl:=eG nonce S3;have hlen:=hS5.len;rw [<- hlen] at hS5 hle5 ⊢;clear hlen;have hxe:=λ a' c' W H=>eV a' 1 c' [(1028,aA nonce S3)] W H Zo (by intro f hf;rw [aau.1 hf];show (aA nonce S3).length<=1000000;rw [hGl];have:=z2.out;unfold aG;omega);generalize aA nonce S3=G at *;clear hE4 hx5 hO5 hS4 hd4 hGl;go_wp2_with fail;(with_reducible refine (hxe _ _ _ (ib1 hS5 hle5 1028 _)).mono ?_);rintro e w6 ⟨b6,d6,rfl,hS6,hd6,hx6⟩;have hx6:Ext w5 w6:=(FA _ _).trans hx6;have hE6:=hE5.trans hx6;have hS1:=hS1.ext hx6;clear hE5 hx6 hxe hS5;have hfl:=gS (L:=[(1028,G)]);by_cases q7:(aX [(1028,G)]).2=0
        ·rw [q7];by_cases q8:1280<B1.length+(aX [(1028,G)]).1.length
         ·exact z43q34
         ·have er:=FC (show r=(B1++(aX [(1028,G)]).1,0) by rw [hat.out,aae (λ h=>h.elim (λ h=>h q7) q8)]);clear hat q7;generalize (aX [(1028,G)]).1=B6 at *;have i8:¬ (1280:Int)<(B1.length:Int)+(B6.length:Int):=Zo;have hj:aV [B1,B6]=B1++B6:=gL _ _;have hjl:(aV [B1,B6]).length=B1.length+B6.length:=by rw [hj,aag]
          have HJ:=FC hj;clear hj;go_wp2_with fail;(with_reducible refine (aR _ _ _ [B1,B6] _ (oZ (hS1.ext eX) (hS6.ext eX) _) Zo (B1.length+B6.length) hjl Zo).mono ?_);rintro e w7 ⟨b7,d7,rfl,hO7,hx7⟩;rw [HJ.out] at hO7;go_wp2_with fail;go_ret2;rw [er.out];show bD (B1++B6).length _ _ _ _ _;rw [aag];exact ⟨b7,d7,rfl,hO7.sl,hO7.le.1,hE6.trans ((FA _ _).trans hx7)⟩
        ·exact z43q36
      ·exact z43q20
     ·exact z43q32
    ·have eo:=kV p0 p1;have er:=FC (show r=([],(aX p.plain).2) by rw [<- hr.out,lj q1' q2' (by rw [eo];exact p1),eo]);have i3:=ne0 p1;generalize (aX p.plain).2=v at *;clear p0 p1 eo f13 f14;go_wp2_with fail;go_ret2;rw [er.out];exact aC _ _ _ hE1
   ·have eo:=mg (L:=p.plain) p0;have er:=FC (show r=([],(cH p.h).2) by rw [<- hr.out,lj q1' q2' (by rw [eo];exact p0),eo]);have i3:=ne0 p0;generalize (cH p.h).2=v at *;clear p0 eo f13 f14;go_wp2_with fail;go_ret2;rw [er.out];exact aC _ _ _ hE
  ·have i1:((nk:Int) != 32)=false:=by rw [aaf];omega
   have er:=FC (show r=([],4) by rw [<- hr.out];exact np Zo Zo);have q1:=FC q1;by_cases q2a:nn<16
   ·have q2a:(nn:Int)<16:=by omega
    clear lk ln q2
    go_enter Tryz.func51,Tryz.ntmps51
    go_wp2_with fail;go_ret2;rw [er.out];exact aC _ _ _ eX
   ·have q2b:(32:Int)<(nn:Int):=by omega
    have q2a:¬ (nn:Int)<16:=Zo;clear lk ln q2
    go_enter Tryz.func51,Tryz.ntmps51
    go_wp2_with fail;go_ret2;rw [er.out];exact aC _ _ _ eX
 ·have er:=FC (show r=([],5) by rw [<- hr.out];exact qR Zo);have i1:((nk:Int) != 32)=true:=by rw [aao];omega
  clear lk ln q1
  go_enter Tryz.func51,Tryz.ntmps51
  go_wp2_with fail;go_ret2;rw [er.out];exact aC _ _ _ eX
end Go.Proofs.P9

/- The walks of layer 22 of the document: Question. -/
namespace Go.Jar
theorem y4 {j:Jar} (h:(df j).2=0):(df j).1.1.up=j.up:=by
 unfold df at h ⊢;split at h
 ·rename_i h1;rw [aaj h1];split at h
  ·cases h
  ·rename_i h2;rw [aae h2];split at h
   ·cases h
   ·rename_i h3;rw [aae h3]
 ·cases h
end Go.Jar
namespace Go.Proofs.P9
open Go.RowKit Go.Sec Go.Oct Go.Jar Go.Pkt BigFrame
theorem wP (t:UInt64) (w:World) :
  Calls Tryz.prog 33 #[Zz Zw (n64 t)] w λ e w'=>e = .returned (.agg #[Zz Zx 0, Zz Zx 4, Zz Zx 3, Zz Zx 0, Zz Zx 6, Zz Zx 0, Zz Zv 0, Zz Zv 0, Zz Zv 0, Zz Zw 0, Zz Zw 0, Zz Zw 0, Zz Zw (n64 t)])/\Ext w w':=by
 go_enter Tryz.func33,Tryz.ntmps33
 go_wp2;refine aaa (aL Tryz.results33 aJ _ _ w.heap.size 0 _ rfl ((Blk.new _ _ _).rd) rfl) rfl ?_;exact ⟨rfl,eX⟩
theorem vd (a1 a2 a3 a4 au an:E8)(n1 c1 n2 c2 n3 c3 n4 c4 nu cu nn cn:Nat) (j:Jar) (t:UInt64) (u nc:E7)(w:World)(h1:Sl w a1 n1 j.up) (hc1:n1<=c1) (m1:n1<=1000000) (h2:Sl w a2 n2 j.dn) (m2:n2<=1000000) (h3:Bsc w a3 n3 j.ck) (hc3:n3<=c3) (hn3:n3<=100000) (hb3:∀ x∈j.ck,x.length<=1000000) (h4:Sl w a4 n4 j.last) (m4:n4<=1000000)
  (hu:Sl w au nu u) (hcu:nu<=cu) (hnc:Sl w an nn nc) (hcn:nn<=cn) :
  Calls Tryz.prog 61 #[.agg #[Zy a1 n1 c1, Zy a2 n2 c2, Zy a3 n3 c3, Zy a4 n4 c4, Zz Zx j.net, Zz Zx j.sent], Zz Zw (n64 t), Zy au nu cu, Zy an nn cn] w (nt (lQ j t u nc) w):=by
 have hlu:=hu.len;have hln:=hnc.len;have hv:=λ W H1 H2 H3 H4=>ic a1 a2 a3 a4 n1 c1 n2 c2 n3 c3 n4 c4 j W H1 H2 H3 hc3 Zo H4;have htk:=λ W H1 H2 H3 H4 H5=>uZ a1 a2 a3 a4 n1 c1 n2 c2 n3 c3 n4 c4 j W H1 m1 H2 m2 H3 hc3 hn3 hb3 H4 m4 H5;obtain ⟨r,hr⟩:∃ r,lQ j t u nc=r:=⟨_,rfl⟩;rw [hr];replace hr:=FC hr
 go_enter Tryz.func61,Tryz.ntmps61
 go_wp2_with fail;refine vx ?_;intro W hW;have hE:Ext w W:=by rw [hW];exact eX
 have hB:Blk W w.heap.size 57 [Zy a1 n1 c1, Zy a2 n2 c2, Zy a3 n3 c3, Zy a4 n4 c4, Zz Zx j.net, Zz Zx j.sent]:=by rw [hW];exact bK
 have hR:Blk W (w.heap.size+1) 57 [Zy none 0 0, Zy none 0 0, Zy none 0 0, Zy none 0 0, Zz Zx 0, Zz Zx 0]:=by rw [hW];exact bK
 clear hW;(with_reducible refine (hv _ (h1.ext hE) (h2.ext hE) (h3.ext hE) (h4.ext hE)).mono ?_);rintro e w0 ⟨rfl,hx0⟩;have hE:=hE.trans hx0;have hB:=hB.extB hx0;have hR:=hR.extB hx0;clear hx0 hv;haveI:=hB.blt;haveI:=hR.blt;cases q:bQ j
 ·have er:=FC (show r=((bT,[]),3) by rw [<- hr.out];unfold lQ;rw [aae (λ h=>by rw [q] at h;exact absurd h.1 Zd)]);clear hr
  go_wp2_with (first
   | (refine aa RJ6 rfl _ _ rfl (w.heap.size+1) 0 rfl _ rfl 57 _ hR rfl Zs oC ?_;intro V hV hMV)
   | fail)
  refine aaa (aD Tryz.results61 RJ6 _ _ (w.heap.size+1) 0 _ rfl hV.rd rfl (Zy none 0 0) (Zz Zx 3) rfl rfl) rfl ?_;rw [er.out];exact nt.zero _ _ _ (E9 hE (hMV.below Zo hE.size))
 ·by_cases q1:nu=32
  ·have q1i:((nu:Int) != 32)=false:=by rw [aaf];omega
   by_cases q2:nn=16
   ·have q2i:((nn:Int) != 16)=false:=by rw [aaf];omega
    have hhd:jz j:=by
     exact z44q78
    have hsn0:=hhd.2.2.2.2.2.1;have hqe:=hr.out;unfold lQ at hqe;rw [aaj ⟨q,Zo,Zo⟩] at hqe;have hok:=y9 q;have hupj:=y4 (j:=j);have hnnb:nn<=1000000:=Zo;clear hr hhd q1 q2;generalize df j=T at *;replace hqe:=FC hqe;have hask:∀ W,Calls Tryz.prog 33 #[Zz Zw (n64 t)] W λ e w'=>e = .returned (.agg #[Zz Zx (bW t).leap, Zz Zx (bW t).ver, Zz Zx (bW t).mode, Zz Zx (bW t).strat, Zz Zx (bW t).poll, Zz Zx (bW t).prec, Zz Zv (n32 (bW t).rd), Zz Zv (n32 (bW t).rp), Zz Zv (n32 (bW t).id), Zz Zw (n64 (bW t).ref), Zz Zw (n64 (bW t).org), Zz Zw (n64 (bW t).rcv), Zz Zw (n64 (bW t).tx)])/\Ext W w':=λ W=>wP t W
    go_wp2_with (first
     | (refine af RJ6 rfl _ rfl w.heap.size 0 rfl _ hB.rd rfl ?_)
     | fail)
    (with_reducible refine (htk _ (h1.ext hE) (h2.ext hE) (h3.ext hE) (h4.ext hE) (.inl hsn0)).mono ?_);rintro e w1 ⟨b1,x1,d1,b2,x2,d2,b3,x3,d3,b4,x4,d4,b5,x5,d5,rfl,o1,o2,o3,k3,o4,k4,o5,hb3w,t3,hx1⟩;have hltw:=hR.lt;have hE:=hE.trans hx1;have hR:=hR.extB hx1;have hlt:=hR.lt;have hu:=hu.ext hE;have hu0:=hu;have hnc:=hnc.ext hE;have hB:=hB.extB hx1;have h1:=h1.ext hE;clear hx1 htk hsn0 h2 h3 h4 hb3;by_cases qe:T.2=0
    ·have qei:(T.2 != 0)=false:=by rw [aaf];exact qe
     obtain ⟨hck,hcl,hup⟩:=hok qe;have hupj:=hupj qe;have o3l:=o3.len;have o5l:=o5.1;obtain rfl:x5=104:=Zo;obtain rfl:nu=32:=by simpa [aaf] using (show nu=32 by have:=q1i;rw [aaf] at this;omega)
     have hx3I:(x3:Int)<=7:=Zo
     go_wp2_with (first
      | ((refine ag RJ6 rfl rfl _ _ rfl rfl rfl rfl (by simp [Act.put]) _ rfl Zs rfl oC ?_;intro x hz _);haveI:=hz.blt;have f2:=hz.cell? 2 rfl)
      | fail)
     have hxx:Ext w1 (w1.ext x):=FE _ _;have hR:=hR.extB hxx;have hB:=hB.extB hxx;have hu:=hu.ext hxx;have o5:=o5.ext hxx;have hIu:InT 79 (w1.ext x) w1.heap.size au 32:=(hu0.inT w1).ext hxx;have hI5:InT 79 (w1.ext x) w1.heap.size b5 104:=o5.inT Zd;obtain ⟨go,hgo⟩:∃ g,g=w1.heap.size:=⟨_,rfl⟩;rw [<- hgo] at hz hlt hIu hI5 ⊢;have hgo1:w1.heap.size<=go:=Zo;have hxx':=hxx;generalize w1.ext x=W1 at *;have hgz:=hz.lt;clear f2;refine cU ?_;intro w4 hW4;have hx34:Ext W1 w4:=by rw [hW4];exact eX
     have hrw:Blk w4 W1.heap.size 79 [Zz Zx 260, Zy au 32 cu, Zz Zx 516, Zy b5 104 d5]:=by rw [hW4];exact Blk.new W1 #[Zz Zx 260, Zy au 32 cu, Zz Zx 516, Zy b5 104 d5] 79
     clear hW4;have hz:=hz.extB hx34;have hR:=hR.extB hx34;have hB:=hB.extB hx34;have hO:cf 79 w4 go (some ⟨W1.heap.size,0,none⟩) 2 2 (bg u T.1.2 0):=cf.two hrw Zo (hu.ext hx34) hcu (hIu.ext hx34) (o5.sl.ext hx34) o5.le.1 (hI5.ext hx34);have hx04:Ext w1 w4:=hxx'.trans hx34;have hbs:go<=w4.heap.size:=by have:=hx34.size;omega
     obtain ⟨kk,hkk⟩:∃ kk,kk=7-x3:=⟨_,rfl⟩;have hk7:kk<=7:=Zo;have hx7:x3+kk=7:=Zo;clear hrw hIu hI5 hu o5 hxx' hx34 hgo hxx;replace hkk:=FC hkk
     go_loopw [14,15] (λ v14 v15 wr=>∃ (i:Nat) (sa:E8)(sc:Nat),i<=kk/\v15 = Zz Zx ((x3+1+i:Nat):Int)/\v14 = Zy sa (2+i) sc/\cf 79 wr go sa (2+i) sc (bg u T.1.2 i)/\go<=wr.heap.size/\Blk wr go 57 [Zy b1 x1 d1, Zy b2 x2 d2, Zy b3 x3 d3, Zy b4 x4 d4, Zz Zx T.1.1.net, Zz Zx T.1.1.sent]/\Blk wr (w.heap.size+1) 57 [Zy none 0 0, Zy none 0 0, Zy none 0 0, Zy none 0 0, Zz Zx 0, Zz Zx 0]/\Blk wr w.heap.size 57 [Zy a1 n1 c1, Zy a2 n2 c2, Zy a3 n3 c3, Zy a4 n4 c4, Zz Zx j.net, Zz Zx j.sent]/\Ext w1 wr) (λ _ v15 _=>8-(intOf v15).toNat)
     case atStart=>exact ⟨0,_,2,Zo,Zs,rfl,hO,hbs,hz,hR,hB,hx04⟩
     case round =>
      clear hO hbs hz hR hB hx04;obtain ⟨i,sa,sc,hi,rfl,rfl,hO,hbs,hz,hR,hB,hxL⟩:=hrel;by_cases hlt2:i<kk
      ·have i1:((x3+1+i:Nat):Int)<8:=by omega
       have hmk:=dc U 104 104 (aad _) Zo;simp only [aan] at hmk;have hqs:=FC (m6 u T.1.2 i);generalize bg u T.1.2 i=P at *;obtain ⟨Z,hZ⟩:∃ Z:E7,Z=List.replicate 104 0:=⟨_,rfl⟩;rw [<- hZ] at hqs;have hown:∀ V:World,Own (V.alloc (.cells (bJ (Zz Zu 0) 104) 5)) 0 (some ⟨V.heap.size,0,none⟩) 104 104 Z:=λ V=>by rw [hZ];exact ql V 104 Zo
       clear hZ;have hE2:Ext wr ((wr.alloc (.cells (bJ (Zz Zu 0) 104) 5)).alloc (.cells #[Zz Zx 772, Zy (some ⟨wr.heap.size,0,none⟩) 104 104] 79)):=(FA _ _).alloc _;have hZ2:=(hown wr).ext (FA (wr.alloc (.cells (bJ (Zz Zu 0) 104) 5)) (.cells #[Zz Zx 772, Zy (some ⟨wr.heap.size,0,none⟩) 104 104] 79))
       go_wp2_with (first
        | (at_builtin;refine db VF rfl _ _ rfl go sa (2+i) sc P rfl (wr.heap.size+1) 1 772 (some ⟨wr.heap.size,0,none⟩) 104 104 Z rfl (hO.ext hE2) (Blk.newAt (wr.alloc (.cells (bJ (Zz Zu 0) 104) 5)) #[Zz Zx 772, Zy (some ⟨wr.heap.size,0,none⟩) 104 104] 79 (wr.heap.size+1) Zs).rd hZ2.sl (aad _) (Own.inT hZ2 Zd) Zo (aal hbs hE2.size) ?_;intro sa' sc' w6 hO6 hg6 hb6)
        | fail)
       skip
       have hOx:=hO.ext hE2;have hz6:=(hz.extB hE2).grown hg6 (hOx.blk (hz.extB hE2) Zd);have hR6:=(hR.extB hE2).grown hg6 (hOx.blk (hR.extB hE2) Zd);have hB6:=(hB.extB hE2).grown hg6 (hOx.blk (hB.extB hE2) Zd);have hE6:Ext w1 w6:=E9 (hxL.trans hE2) (hb6.mono Zo);go_roundw
       case rel=>exact ⟨i+1,sa',sc',Zo,Zg,rfl,(by rw [hqs.out];exact hO6),aal (aal hbs hE2.size) hb6.size,hz6,hR6,hB6,hE6⟩
       case measure=>simp [intOf];omega
      ·obtain rfl:i=kk:=by omega
       have i1:¬ ((x3+1+i:Nat):Int)<8:=Zo;have hIp:=hO.ib.1;have hpl:=fB u T.1.2 i;have hnc:=hnc.ext hxL;have h1:=h1.ext hxL;have o1:=o1.ext hxL;have o2:=o2.ext hxL;have o3:=o3.ext hxL;have t3:=t3.ext hxL;have o4:=o4.ext hxL;have hE:=hE.trans hxL;have hpr:∀ W,Sl W a1 n1 j.up->Sl W an nn nc->Ib W sa (2+i) (bg u T.1.2 i)->Calls Tryz.prog 51 #[Zy a1 n1 c1, .agg #[Zz Zx (bW t).leap, Zz Zx (bW t).ver, Zz Zx (bW t).mode, Zz Zx (bW t).strat, Zz Zx (bW t).poll, Zz Zx (bW t).prec, Zz Zv (n32 (bW t).rd), Zz Zv (n32 (bW t).rp), Zz Zv (n32 (bW t).id), Zz Zw (n64 (bW t).ref), Zz Zw (n64 (bW t).org), Zz Zw (n64 (bW t).rcv), Zz Zw (n64 (bW t).tx), Zy sa (2+i) sc, Zy none 0 0, .bool false], Zy an nn cn] W (bD (cz T.1.1.up (kr t u T.1.2 i) nc).1.length (cz T.1.1.up (kr t u T.1.2 i) nc).1 (Zz Zx (cz T.1.1.up (kr t u T.1.2 i) nc).2) W):=λ W H1 H2 H3=>by
        rw [hupj];refine ma a1 an sa none n1 c1 nn cn (2+i) sc 0 0 (kr t u T.1.2 i) j.up nc W H1 hc1 H2 hcn hnnb H3 Zo ?_ (Ib.nil _ _) Zo (λ f hf=>by cases hf);intro f hf;rcases kf hf with h|h|h
        ·rw [h];show u.length<=1000000;omega
        ·rw [h];show T.1.2.length<=1000000;omega
        ·rw [h];simp
       have hke:7-T.1.1.ck.length=i:=by have:=hkk.out;omega
       have hqe2:=hqe.out;rw [aaj qe,hke] at hqe2;generalize cz T.1.1.up (kr t u T.1.2 i) nc=R at *;haveI:=hB.blt;have q0:=hB.cell? 0 rfl;clear hupj;go_wp2_with fail;refine R2.ae 13 [[],[0],[0,1],[],[3],[],[3,4,5],[],[0,1,2,3,4,5,6,7],[0,1,2,3,4,5,6,7,8],[0,1,2,3,4,5,6,7,8,9],[0,1,2,3,4,5,6,7,8,9],[0,1,2,3,4,5,6,7,8,9,10],[0,1,2,3,4,5,6,7,8,9,10,11,12]] [] (λ h=>(h rfl).elim) Zk Zk Zk Zk Zk ?_;simp only [q8q,q9q,q10q,q11q,q12q,q13q];(repeat (refine R2.av ?_;(try simp only [Act.put,q0q,q1q,q2q])));(refine R2.ai (λ _ => .agg #[Zz Zx (bW t).leap, Zz Zx (bW t).ver, Zz Zx (bW t).mode, Zz Zx (bW t).strat, Zz Zx (bW t).poll, Zz Zx (bW t).prec, Zz Zv (n32 (bW t).rd), Zz Zv (n32 (bW t).rp), Zz Zv (n32 (bW t).id), Zz Zw (n64 (bW t).ref), Zz Zw (n64 (bW t).org), Zz Zw (n64 (bW t).rcv), Zz Zw (n64 (bW t).tx)]) (λ _ _=>True) (λ _ _ _ _ _=>trivial) (λ us w' hx hf=>⟨rfl,?_⟩) ?_;(unfold gives;simp [go_sem,execOp];refine (hask _).mono ?_;rintro e w1 ⟨rfl,hx1⟩;first|exact ⟨rfl,hx1⟩|simpa using hx1));(repeat (refine R2.av ?_;(try simp only [Act.put,q0q,q1q,q2q])));(refine R2.ai (λ p => .tuple #[.slice (p 0).1 R.1.length (p 0).2, Zz Zx R.2]) (λ p w''=>Sl w'' (p 0).1 R.1.length (R.1)/\(R.1.length)<=(p 0).2) (λ p w w' h hx=>⟨h.1.ext hx,h.2⟩) (λ us w' hx hf=>⟨rfl,?_⟩) ?_;(unfold gives;simp [go_sem,execOp];exact dK (hpr _ (h1.ext hx) (hnc.ext hx) (hIp.ext hx))));(repeat (refine R2.av ?_;(try simp only [Act.put,q0q,q1q,q2q])));(refine R2.aU ?_;intro us x hx hf);obtain ⟨hS7,hd7⟩:=hf;obtain ⟨b7,hb7⟩:∃ a,(us 8 0).1=a:=⟨_,rfl⟩;obtain ⟨d7,hd7e⟩:∃ a,(us 8 0).2=a:=⟨_,rfl⟩;rw [hb7] at hS7 ⊢;rw [hd7e] at hd7 ⊢;clear hb7 hd7e q0 hask;have hx7:Ext wr (wr.ext x):=FE _ _;have hR:=hR.extB hx7;have hz:=hz.extB hx7;have o1:=o1.ext hx7;have o2:=o2.ext hx7;have o3:=o3.ext hx7;have t3:=t3.ext hx7;have o4:=o4.ext hx7;have hE:=hE.trans hx7;clear hpr hIp hO hnc h1 hB hx7;generalize wr.ext x=w7 at *;haveI:=hR.blt;haveI:=hz.blt;by_cases qr:R.2=0
       ·have qri:(R.2 != 0)=false:=by rw [aaf];exact qr
        have er:=FC (show r=((T.1.1,R.1),0) by rw [<- hqe2,aaj qr]);clear hqe2 hqe
        go_wp2_with (first
         | (refine af RJ6 rfl _ rfl go 0 rfl _ ((hz.rd)) rfl ?_)
         | (refine aa RJ6 rfl _ _ rfl (w.heap.size+1) 0 rfl _ rfl 57 _ hR rfl Zs oC ?_;intro V hV hMV)
         | fail)
        refine aaa (aD Tryz.results61 RJ6 _ _ (w.heap.size+1) 0 _ rfl hV.rd rfl (Zy b7 R.1.length d7) (Zz Zx 0) rfl rfl) rfl ?_;rw [er.out];exact ⟨b1,x1,d1,b2,x2,d2,b3,x3,d3,b4,x4,d4,b7,_,d7,rfl,(o1.mutT hR Zd hMV).sl,o1.le.1,(o2.mutT hR Zd hMV).sl,o2.le.1,o3.mutNe (λ b o h=>by have:=hb3w b o h;omega) hR Zs hMV,k3,t3.mut hR Zd hMV,o4.mut hR Zs hMV,k4,hS7.mut hR Zs hMV,hd7,E9 hE (hMV.below Zo hE.size)⟩
       ·have qri:(R.2 != 0)=true:=by rw [aao];exact qr
        have er:=FC (show r=((bT,[]),R.2) by rw [<- hqe2,aae qr]);clear hqe2 hqe qr
        go_wp2_with (first
         | (refine aa RJ6 rfl _ _ rfl (w.heap.size+1) 0 rfl _ rfl 57 _ hR rfl Zs oC ?_;intro V hV hMV)
         | fail)
        refine aaa (aD Tryz.results61 RJ6 _ _ (w.heap.size+1) 0 _ rfl hV.rd rfl (Zy none 0 0) (Zz Zx R.2) rfl rfl) rfl ?_;rw [er.out];exact nt.zero _ _ _ (E9 hE (hMV.below Zo hE.size))
    ·have qei:(T.2 != 0)=true:=by rw [aao];exact qe
     have er:=FC (show r=((bT,[]),T.2) by rw [<- hqe.out,aae qe]);clear hqe hok qe
     go_wp2_with (first
      | (refine ag RJ6 rfl rfl _ _ rfl rfl rfl rfl (by simp [Act.put]) _ rfl Zs rfl oC ?_;intro x hz _)
      | (refine aa RJ6 rfl _ _ rfl (w.heap.size+1) 0 rfl _ rfl 57 _ ((hR.extB (show Ext w1 (w1.ext x) from FE _ _))) rfl Zs oC ?_;intro V hV hMV)
      | fail)
     refine aaa (aD Tryz.results61 RJ6 _ _ (w.heap.size+1) 0 _ rfl hV.rd rfl (Zy none 0 0) (Zz Zx T.2) rfl rfl) rfl ?_;rw [er.out];have hE:=hE.trans (show Ext w1 (w1.ext x) from FE _ _);exact nt.zero _ _ _ (E9 hE (hMV.below Zo hE.size))
   ·have q2i:((nn:Int) != 16)=true:=by rw [aao];omega
    have er:=FC (show r=((bT,[]),3) by rw [<- hr.out];unfold lQ;rw [aae (λ h=>Zo)]);clear hr q2
    go_wp2_with (first
     | (refine aa RJ6 rfl _ _ rfl (w.heap.size+1) 0 rfl _ rfl 57 _ hR rfl Zs oC ?_;intro V hV hMV)
     | fail)
    refine aaa (aD Tryz.results61 RJ6 _ _ (w.heap.size+1) 0 _ rfl hV.rd rfl (Zy none 0 0) (Zz Zx 3) rfl rfl) rfl ?_;rw [er.out];exact nt.zero _ _ _ (E9 hE (hMV.below Zo hE.size))
  ·have q1i:((nu:Int) != 32)=true:=by rw [aao];omega
   have er:=FC (show r=((bT,[]),3) by rw [<- hr.out];unfold lQ;rw [aae (λ h=>Zo)]);clear hr q1
   go_wp2_with (first
    | (refine aa RJ6 rfl _ _ rfl (w.heap.size+1) 0 rfl _ rfl 57 _ hR rfl Zs oC ?_;intro V hV hMV)
    | fail)
   refine aaa (aD Tryz.results61 RJ6 _ _ (w.heap.size+1) 0 _ rfl hV.rd rfl (Zy none 0 0) (Zz Zx 3) rfl rfl) rfl ?_;rw [er.out];exact nt.zero _ _ _ (E9 hE (hMV.below Zo hE.size))
end Go.Proofs.P9

/- The walks of layer 18 of the document: parts. -/
namespace Go.Pkt
open Go.Oct
theorem we {G:E7} (h4:G.length % 4=0) (h12:12<=G.length) (hle:G.length<=1228):aX [(1028,G)]=(dt (1028,G),0)/\(dt (1028,G)).drop 4=G/\(dt (1028,G)).length=G.length+4:=by
 have hz:szN G.length=G.length+4:=by unfold szN;omega
 have hs:(cQ (1028,G)).2=0:=by
  unfold cQ;rw [aae Zs,aae (by simp only [hz];omega)]
 refine ⟨?_,?_,by rw [de];exact hz⟩
 ·unfold aX;have hb:fi [(1028,G)]=0:=by unfold fi;rw [aae (by simpa using hs)];rfl
  rw [hb,aae Zs,aae Zs,aae (by simp only [bf,aa3,abj,List.sum_cons,List.sum_nil,hz];omega)];simp [aQ]
 ·unfold dt;rw [show (4:Nat)=2+2 from rfl,iS _ _ 2 2 (aw _ _),eS _ _ _ (aw _ _)];simp only [hz];rw [show G.length+4-(2+2)-G.length=0 by omega];simp
theorem oc {G:E7} (h4:G.length % 4=0) (hgt:1228<G.length):aX [(1028,G)]=([],2):=by
 have hz:szN G.length=G.length+4:=by unfold szN;omega
 have hs:(cQ (1028,G)).2=2:=by
  unfold cQ;rw [aae Zs,aaj (by simp only [hz];omega)]
 unfold aX;have hb:fi [(1028,G)]=2:=by unfold fi;rw [aaj (by rw [hs];decide),hs]
 rw [hb,aaj Zd]
end Go.Pkt
namespace Go.Proofs.P9
open Go.RowKit Go.Sec Go.Oct Go.Pkt Go.Aes BigFrame
def fD (r:Option (E7 × E7)) (w:World)(e:Ending) (w':World):Prop :=
 ∃ a1 n1 c1 a2 n2 c2,e = .returned (.tuple #[Zy a1 n1 c1, Zy a2 n2 c2, .bool r.isSome])/\(∀ x,r=some x->Sl w' a1 n1 x.1/\n1<=c1/\Sl w' a2 n2 x.2/\n2<=c2)/\Ext w w'
theorem fD.no (w w':World)(hx:Ext w w'):fD none w (.returned (.tuple #[Zy none 0 0, Zy none 0 0, .bool false])) w':=⟨none,0,0,none,0,0,rfl,λ _ h=>(by cases h),hx⟩
theorem uC (a:E8)(k c:Nat) (d:E7)(w:World)(hS:Sl w a k d) (hc:k<=c) (hk:k<=1228) :
  Calls Tryz.prog 87 #[Zy a k c] w (fD (cZ d) w):=by
 have hl:=hS.len;obtain ⟨r,hr⟩:∃ r,cZ d=r:=⟨_,rfl⟩;rw [hr];have hr:=FC hr;by_cases h4:k<4
 ·have er:=FC (show r=none by rw [<- hr.out];exact lE Zo);have i4:(k:Int)<4:=Zo;clear hl
  go_enter Tryz.func87,Tryz.ntmps87
  go_wp2_with fail;refine aaa (v := .tuple #[Zy none 0 0, Zy none 0 0, .bool false]) (by simp [results,Tryz.results87,go_sem]) rfl ?_;rw [er.out];exact fD.no _ _ (FD _)
 ·have i4:¬ (k:Int)<4:=by omega
  obtain ⟨b0,o0,rfl,hb0, -⟩:=hS.at 0 Zo;have hsl:∀ j m,j<k->m<=k-j->Sl w (some ⟨b0,o0+j,none⟩) m ((d.drop j).take m):=λ j m hj hm=>(nz hS hc hj).take m hm;have t1:=hS.take 2 Zo;have t2:=hsl 2 2 Zo Zo;have hg1:=λ W H=>fb (some ⟨b0,o0,none⟩) 2 c (d.take 2) W H Zo;have hg2:=λ W H=>fb (some ⟨b0,o0+2,none⟩) 2 (c-2) ((d.drop 2).take 2) W H Zo;rw [mq _ (by simp;omega)] at hg1 hg2;obtain ⟨n,hn⟩:∃ n,bR (d.take 2)=n:=⟨_,rfl⟩;obtain ⟨m,hm⟩:∃ m,bR ((d.drop 2).take 2)=m:=⟨_,rfl⟩;rw [hn] at hg1;rw [hm] at hg2;have nb:n<65536:=by rw [<- hn];exact fM d
  have mb:m<65536:=by rw [<- hm];exact fM (d.drop 2)
  have hL:=FC hl;have hn:=FC hn;have hm:=FC hm;have j2:(2:Int)<=(c:Int):=Zo;have j4:(4:Int)<=(c:Int):=Zo;have d2:¬ c=2:=Zo;clear hl
  go_enter Tryz.func87,Tryz.ntmps87
  go_wp2_with fail;refine R2.ae 9 [[],[0],[0,1],[0,1,2],[],[4],[0,1,2,4,5],[0,1,2,4,5,6],[0,1,2,3,4,5,6],[0,1,2,3,4,5,6,7,8]] [] (λ h=>(h rfl).elim) Zk Zk Zk Zk Zk ?_;simp only [q8q,q9q,q10q,q11q,q12q,q13q];(repeat (refine R2.av ?_;(try simp only [Act.put,q0q,q1q,q2q])));(refine R2.ai (λ _ => Zz Zw ((n:Nat):Int)) (λ _ _=>True) (λ _ _ _ _ _=>trivial) (λ us w' hx hf=>⟨rfl,?_⟩) ?_;(unfold gives;simp [go_sem,execOp];refine (hg1 _ (t1.ext hx)).mono ?_;rintro e w1 ⟨rfl,hx1⟩;first|exact ⟨rfl,hx1⟩|simpa using hx1));(repeat (refine R2.av ?_;(try simp only [Act.put,q0q,q1q,q2q])));(refine R2.ai (λ _ => Zz Zw ((m:Nat):Int)) (λ _ _=>True) (λ _ _ _ _ _=>trivial) (λ us w' hx hf=>⟨rfl,?_⟩) ?_;(unfold gives;simp [go_sem,execOp];refine (hg2 _ (t2.ext hx)).mono ?_;rintro e w1 ⟨rfl,hx1⟩;first|exact ⟨rfl,hx1⟩|simpa using hx1));(repeat (refine R2.av ?_;(try simp only [Act.put,q0q,q1q,q2q])));(refine R2.aU ?_;intro us x hx hf);have hwn:IntKind.i64.wrap ((n:Nat):Int)=(n:Int):=by rw [aaO];omega
  have hwm:IntKind.i64.wrap ((m:Nat):Int)=(m:Int):=by clear hwn;rw [aaO];omega
  try rw [hwn]
  try rw [hwm]
  clear hwn hwm hf hg1 hg2 t1 t2;have hE:Ext w (w.ext x):=FE _ _;have hS:=hS.ext hE;generalize w.ext x=W at *;have pm0:m<=aG m:=by unfold aG;omega
  obtain ⟨Fr,hFr⟩:∃ Fr,4+aG n=Fr:=⟨_,rfl⟩;have hFi:(4:Int)+((n:Int)+3) / 4*4=(Fr:Int):=by rw [<- hFr];unfold aG;omega
  have hFn:4+n<=Fr:=by rw [<- hFr];unfold aG;omega
  have hFb:Fr<66000:=by rw [<- hFr];unfold aG;omega
  by_cases q0:n<16
  ·have er:=FC (show r=none by rw [<- hr.out];exact ju (by rw [hn.out];omega));have i5:(n:Int)<16:=Zo;go_wp2_with fail;refine aaa (v := .tuple #[Zy none 0 0, Zy none 0 0, .bool false]) (by simp [results,Tryz.results87,go_sem]) rfl ?_;rw [er.out];exact fD.no _ _ hE
  ·have i5:¬ (n:Int)<16:=by omega
   by_cases q1:32<n
   ·have er:=FC (show r=none by rw [<- hr.out];exact ju (by rw [hn.out];omega));have i6:(32:Int)<(n:Int):=Zo;go_wp2_with fail;refine aaa (v := .tuple #[Zy none 0 0, Zy none 0 0, .bool false]) (by simp [results,Tryz.results87,go_sem]) rfl ?_;rw [er.out];exact fD.no _ _ hE
   ·have i6:¬ (32:Int)<(n:Int):=by omega
    by_cases q2:k<Fr+m
    ·have er:=FC (show r=none by rw [<- hr.out];exact kU (by rw [hn.out,hm.out,hL.out];omega));have i7:(k:Int)<(Fr:Int)+(m:Int):=Zo;go_wp2_with fail;refine aaa (v := .tuple #[Zy none 0 0, Zy none 0 0, .bool false]) (by simp [results,Tryz.results87,go_sem]) rfl ?_;rw [er.out];exact fD.no _ _ hE
    ·have i7:¬ (k:Int)<(Fr:Int)+(m:Int):=by omega
     go_wp2_with fail;have j5:(4:Int)<=4+(n:Int):=Zo;have j6:(4:Int)+(n:Int)<=(c:Int):=Zo;have j7:((4:Int)+(n:Int)).toNat=4+n:=Zo;have j8:4+n-4=n:=Zo;have j9:(0:Int)<=(Fr:Int):=Zo;have j10:(Fr:Int)<=(Fr:Int)+(m:Int):=Zo;have j11:(Fr:Int)+(m:Int)<=(c:Int):=Zo;have j12:((Fr:Int)+(m:Int)).toNat=Fr+m:=Zo;have j13:Fr+m-Fr=m:=Zo;have d4:¬ c=4:=Zo;have u1:=(nz hS hc (i:=4) Zo).take n Zo;obtain ⟨A,hA,u2⟩:∃ A,(if c=Fr then some (⟨b0,o0,none⟩:Addr) else some ⟨b0,o0+Fr,none⟩)=A/\Sl W A m ((d.drop Fr).take m):=⟨_,rfl,by have:=(hS.drop c Fr hc).take m Zo;simpa [dX,bX] using this⟩;clear hsl;refine R2.ae 11 [[],[],[1],[0,1,2],[],[],[],[],[6,7],[4,5,6,7,8],[0,1,2,3],[0,1,2,3,4,5,6,7,8,9,10]] [] (λ h=>(h rfl).elim) Zk Zk Zk Zk Zk ?_;simp only [q8q,q9q,q10q,q11q,q12q,q13q];(repeat (refine R2.av ?_;(try simp only [Act.put,q0q,q1q,q2q])));(refine R2.aU ?_;intro us x hx hf);have hE2:Ext W (W.ext x):=FE _ _;have hE:=hE.trans hE2;have u1:=u1.ext hE2;have u2:=u2.ext hE2;have hS:=hS.ext hE2;generalize W.ext x=W at *;obtain ⟨N1,hN1⟩:∃ l,(d.drop 4).take n=l:=⟨_,rfl⟩;obtain ⟨N2,hN2⟩:∃ l,(d.drop Fr).take m=l:=⟨_,rfl⟩;rw [hN1] at u1;rw [hN2] at u2;have l1:=u1.len;have l2:=u2.len;have hGl:(aA N1 N2).length=Fr+aG m:=by rw [eG,l1,l2,<- hFr]
     have hGm:(aA N1 N2).length % 4=0:=by rw [hGl,<- hFr];unfold aG;omega
     have hd1:(d.drop 4).take (bR (d.take 2))=N1:=by rw [hn.out];exact hN1
     have hd2:(d.drop (4+aG (bR (d.take 2)))).take (bR ((d.drop 2).take 2))=N2:=by rw [hn.out,hm.out,hFr];exact hN2
     have hyes:aA N1 N2=d->r=some (N1,N2):=λ h=>by
      have hlen:d.length=4+aG n+aG m:=by rw [<- h,hGl,<- hFr]
      have:=oK (d:=d) Zo (by rw [hn.out];omega) (by rw [hn.out,hm.out];exact hlen) (by rw [hd1,hd2];exact h);rw [hd1,hd2,hr.out] at this;exact this
     have hnot:aA N1 N2≠d->r=none:=λ h=>by
      have:=qZ (d:=d) (by rw [hd1,hd2];exact h);rw [hr.out] at this;exact this
     have hgu:=λ W H1 H2=>mX (some ⟨b0,o0+4,none⟩) A n (c-4) m (c-Fr) N1 N2 W H1 H2 Zo Zo;have hc1:n<=c-4:=Zo;have hc2:m<=c-Fr:=Zo;have hpm:aG m<70000:=by unfold aG;omega
     clear hN1 hN2 hd1 hd2 hr hn hm hf j5 j6 j7 j8 j9 j10 j11 j12 j13 l1 l2 d2 d4 hA q0 q1 q2 hE2;generalize aA N1 N2=G at *;have hGb:G.length<=200000/\20<=G.length:=Zo;replace hGl:=FC hGl;go_wp2_with fail;(with_reducible refine (hgu _ u1 u2).mono ?_);rintro e w5 ⟨b5,d5,rfl,hO5,hx5⟩;have hE:=hE.trans hx5;have u1:=u1.ext hx5;have u2:=u2.ext hx5;have hS:=hS.ext hx5;have hS5:=hO5.sl;have hle5:=hO5.le.1;have hlen:=hS5.len;rw [<- hlen] at hS5 hle5 ⊢;clear hlen hO5 hgu hx5;have hxe:=λ a' c' W H=>eV a' 1 c' [(1028,G)] W H Zo (by intro f hf;rw [aau.1 hf];show G.length<=1000000;omega);go_wp2_with fail;(with_reducible refine (hxe _ _ _ (ib1 hS5 hle5 1028 _)).mono ?_);rintro e w6 ⟨b6,d6,rfl,hS6,hd6,hx6⟩;have hx6:Ext w5 w6:=(FA _ _).trans hx6;have hE:=hE.trans hx6;have u1:=u1.ext hx6;have u2:=u2.ext hx6;have hS:=hS.ext hx6;clear hxe hS5 hle5 hx6;by_cases q3:G.length<=1228
     ·obtain ⟨z1,z2,z3⟩:=we hGm Zo q3;rw [z1] at hS6 hd6 ⊢;simp only at hS6 hd6 ⊢;clear z1;generalize dt (1028,G)=FB at *;obtain ⟨g6,o6,rfl,hg6, -⟩:=hS6.at 0 Zo;have u6:=nz hS6 hd6 (i:=4) Zo;rw [z2] at u6;have hsm:=λ W H1 H2=>gQ (some ⟨g6,o6+4,none⟩) (some ⟨b0,o0,none⟩) (FB.length-4) (d6-4) k c G d W H1 H2;have j1:(4:Int)<=(FB.length:Int):=Zo;have j2:(4:Int)<=(d6:Int):=Zo;have j3:¬ d6=4:=Zo;clear hS6 z2;replace z3:=FC z3;go_wp2_with fail;(with_reducible refine (hsm _ u6 hS).mono ?_);rintro e w7 ⟨rfl,hx7⟩;have hE:=hE.trans hx7;by_cases q4:G=d
      ·have er:=FC (hyes q4);have hb:(G == d)=true:=aa5.2 q4;rw [hb];clear hyes hnot q4 hb;go_wp2_with fail;refine aaa (v := .tuple #[Zy (some ⟨b0,o0+4,none⟩) n (c-4), Zy A m (c-Fr), .bool true]) (by simp [results,Tryz.results87,go_sem]) rfl ?_;rw [er.out];exact ⟨_,_,_,_,_,_,rfl,λ x hx=>(by injection hx with hx;subst hx;exact ⟨u1.ext hx7,hc1,u2.ext hx7,hc2⟩),hE⟩
      ·have er:=FC (hnot q4);have hb:(G == d)=false:=aar.2 q4;rw [hb];clear hyes hnot q4 hb;go_wp2_with fail;refine aaa (v := .tuple #[Zy none 0 0, Zy none 0 0, .bool false]) (by simp [results,Tryz.results87,go_sem]) rfl ?_;rw [er.out];exact fD.no _ _ hE
     ·have er:=FC (hnot λ h=>q3 (by rw [h,hL.out];omega));have z1:=oc hGm Zo;rw [z1] at hS6 hd6 ⊢;simp only at hS6 hd6 ⊢;clear hyes hnot z1;go_wp2_with fail;refine aaa (v := .tuple #[Zy none 0 0, Zy none 0 0, .bool false]) (by simp [results,Tryz.results87,go_sem]) rfl ?_;rw [er.out];exact fD.no _ _ hE
end Go.Proofs.P9
