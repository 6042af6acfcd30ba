/- Lemmas of this claim, several texts joined. -/
import Derived.Test.YtmdahnkcnagkjaaGreatY41
import Derived.Test.YtmdahnkcnagkjaaGreatY48
import Derived.Test.YtmdahnkcnagkjaaGreatY60
import Derived.Test.YtmdahnkcnagkjaaGreatY61
set_option maxRecDepth 100000
open List renaming setIfInBounds_toArray -> q0q, set_cons_succ -> q1q, set_cons_zero -> q2q, take_succ_cons -> q8q, take_zero -> q9q, drop_succ_cons -> q10q, drop_zero -> q11q, take_nil -> q12q, drop_nil -> q13q, getElem_toArray -> q14q, getElem_cons_succ -> q15q, getElem_cons_zero -> q16q
set_option maxHeartbeats 8000000
set_option linter.unusedVariables false
set_option linter.unusedSimpArgs false
/- TimeserverKeepsNoState: the plain law. -/
namespace Go.Case
open Go.Oct Go.Pkt Go.Cook Go.Jar Go.Aes Go.Tsrv Go.Lane
theorem addJ_all (j:Jar) (L:List (List UInt8)) (hn:(j.ck++L).Nodup) (hl:j.last ∉ L) (h8:j.ck.length+L.length<=8):(dS j L).ck=j.ck++L:=by
 induction L generalizing j with
 | nil=>simp [dS]
 | cons b L ih =>
  have h1:b ∉ j.ck:=λ h=>by
   obtain ⟨_,_,h3⟩:=List.nodup_append.1 hn;exact h3 b h b (List.mem_cons_self ..) rfl
  have h2:j.last≠b:=λ h=>hl (h ▸ List.mem_cons_self ..);rw [List.length_cons] at h8;have e:eB j b={ j with ck:=j.ck++[b] }:=by unfold eB;rw [if_pos ⟨Zo,h1,h2⟩]
  have:dS j (b :: L)=dS (eB j b) L:=rfl;rw [this,e];have:=ih { j with ck:=j.ck++[b] } (by simpa using hn) (λ h=>hl (List.mem_cons_of_mem _ h)) (by simp;omega);rw [this];simp
theorem cook_nonce {m m':Int × List UInt8} {al al':Int} {u u' d d' n n':List UInt8} (hn:n.length=16) (hn':n'.length=16) (h:dw m al u d n=dw m' al' u' d' n'):n=n':=by
 have hl:∀ i:Int,(idB i).length=4:=λ i=>gy i;have e:=congrArg (λ x=>(x.drop 4).take 16) h;unfold dw at e;simpa [List.drop_append,List.take_append,hl,hn,hn'] using e
def nJqq (v:Nat) (i:Nat):List UInt8:=rnd (((v:Int)+5000)*1000+(i:Int)) 16
def nNqq (v:Nat) (i:Nat):List UInt8:=rnd (((v:Int)+1)*1000+((1+i:Nat):Int)) 16
theorem nonces_ne {v:Nat} (hv:v<100):(∀ i j,i<8->j<8->nJqq v i≠nNqq v j)/\∀ i j,i<j->j<8->nNqq v i≠nNqq v j:=by
 have h:=nonces26 (s:=v) Zo;unfold offs26 at h;obtain ⟨_,h2,h3⟩:=List.pairwise_append.1 h;refine ⟨λ i j hi hj=>?_,λ i j hi hj=>?_⟩
 ·have:=h3 _ (List.mem_map.2 ⟨i,List.mem_range.2 hi,rfl⟩) _ (List.mem_map.2 ⟨j,List.mem_range.2 hj,rfl⟩);unfold nJqq nNqq;rw [show ((v:Int)+5000)*1000+(i:Int)=((1000*v+(5000000+i):Nat):Int) from Zo,show ((v:Int)+1)*1000+((1+j:Nat):Int)=((1000*v+(1001+j):Nat):Int) by omega];exact this
 ·rw [List.pairwise_map] at h2;have:=List.pairwise_iff_getElem.1 h2 i j (by simp;omega) (by simp;omega) hi;simp only [List.getElem_range] at this;unfold nNqq;rw [show ((v:Int)+1)*1000+((1+i:Nat):Int)=((1000*v+(1001+i):Nat):Int) from Zo,show ((v:Int)+1)*1000+((1+j:Nat):Int)=((1000*v+(1001+j):Nat):Int) by omega];exact this
def newK (R:Ring) (v m:Nat):List (List UInt8):=(List.range m).map λ i=>dw (hd R) 15 (upC (v:Int)) (dnC (v:Int)) (nNqq v i)
theorem newK_nodup (R:Ring) {v m:Nat} (hv:v<100) (hm:m<=8):(newK R v m).Nodup:=by
 unfold newK List.Nodup;rw [List.pairwise_map,List.pairwise_iff_getElem];intro i j hi hj hij;simp only [List.getElem_range];simp at hi hj;intro h;exact (nonces_ne hv).2 i j hij Zo (cook_nonce (bS _ Zo) (bS _ Zo) h)
theorem newK_old (R R':Ring) {v m k:Nat} (hv:v<100) (hm:m<=8) (hk:k<=8) {x:List UInt8} (h1:x∈iM R (v:Int) k):x ∉ newK R' v m:=λ h2=>by
 obtain ⟨i,hi,rfl⟩:=List.mem_map.1 h1;obtain ⟨j,hj,e⟩:=List.mem_map.1 h2;rw [List.mem_range] at hi hj;exact (nonces_ne hv).1 i j Zo Zo (cook_nonce (bS _ Zo) (bS _ Zo) e).symm
theorem newF_K {R:Ring} {v n m:Nat} (hR:aR R=true) (hm:m<=8) {s:Srv} (hs:s.ring=R):(iC s ⟨15,upC (v:Int),dnC (v:Int),n,0⟩ (kO ((v:Int)+1) 16 9) m).map (·.2)=newK R v m:=by
 unfold iC newK;rw [List.map_map];refine List.map_congr_left λ i hi=>?_;rw [List.mem_range] at hi;show (bU s.ring 15 (upC (v:Int)) (dnC (v:Int)) ((kO ((v:Int)+1) 16 9).getD (1+i) [])).1=_;have e:(kO ((v:Int)+1) 16 9).getD (1+i) []=nNqq v i:=by
  unfold kO;rw [List.getD_eq_getElem?_getD,List.getElem?_map,List.getElem?_range Zo];rfl
 rw [hs,e,zu hR Zo Zo (dI _) (fy _) (nonce:=nNqq v i) (bS _ Zo)]
theorem keepsP {v k n:Nat} (hv:v<100) (h1:1<=k) (hk:k<=8) (hn:n<=3) {c:List UInt8} {rest:List (List UInt8)} (hck:(oS (lW (v:Int) 0) (v:Int) k 0).ck=c :: rest) :
  ∃ b P J2,jN (kS (lW (v:Int) n) 1 64 false) 0 7 (jP v c rest.length) 5 6 (kO ((v:Int)+1) 16 9)=((b,8),0)/\b.length<=1000/\(jP v c rest.length).length<=1000 /\
   qY (rW v c rest) (rnd ((v:Int)+1) 32) b=((J2,P),0)/\J2.ck.length=8/\(∀ x∈J2.ck,x.length=104)/\∀ x∈J2.ck,∃ i,dv (lW (v:Int) n) x=⟨15,upC (v:Int),dnC (v:Int),i,0⟩:=by
 obtain ⟨hR,_,hR0⟩:=ly v (t:=0) Zo;obtain ⟨hR',_,hR0'⟩:=ly v (t:=n) Zo;have hi:(lW (v:Int) n)[n]?=some (hd (lW (v:Int) 0)):=(rots_get _ n hn hR0).trans (CO hR0);have hN:=tH ((v:Int)+1) 9;have hNl:=ij ((v:Int)+1) 16 9;obtain ⟨j1,j2,j3,j4⟩:=lj hR hk hck;obtain ⟨b,e1,e2,e3,e4,e5,_⟩:=Bm (i:=n) (v:=v) (ev:=1) (bu:=64) (paid:=0) (now:=7) (p2:=8) (al:=true) (o:=false) hR hR' hi hk hck Zd Zd 5 6 hN Zo;rw [e4,if_pos rfl] at e2;have hm:8-rest.length=7-rest.length+1:=Zo;have hnew:(jI (kS (lW (v:Int) n) 1 64 false) ⟨15,upC (v:Int),dnC (v:Int),n,0⟩ (kO ((v:Int)+1) 16 9) (7-rest.length) true).map (·.2)=newK (lW (v:Int) n) v (8-rest.length):=by
  unfold jI;rw [if_pos rfl,hm];exact newF_K hR' Zo rfl
 rw [hnew] at e3;have hd1:(c :: rest).Nodup:=by
  have:=(ir (iM (lW (v:Int) 0) (v:Int) k)).1;have e:dedup (iM (lW (v:Int) 0) (v:Int) k)=c :: rest:=hck
  rwa [e] at this
 have hall:(dS (rW v c rest) (newK (lW (v:Int) n) v (8-rest.length))).ck=rest++newK (lW (v:Int) n) v (8-rest.length):=by
  refine addJ_all (rW v c rest) _ (List.nodup_append.2 ⟨(List.nodup_cons.1 hd1).2,newK_nodup _ hv Zo,λ x hx y hy e=>?_⟩) (newK_old _ _ hv Zo hk (j4 c (List.mem_cons_self ..))) (by show rest.length+(newK _ _ _).length<=8;unfold newK;simp;omega);subst e;exact newK_old _ _ hv Zo hk (j4 x (List.mem_cons_of_mem _ hx)) hy
 have hopen:∀ x∈rest++newK (lW (v:Int) n) v (8-rest.length),∃ i,dv (lW (v:Int) n) x=⟨15,upC (v:Int),dnC (v:Int),i,0⟩:=λ x hx=>by
  rcases List.mem_append.1 hx with h|h
  ·exact ⟨n,AL hR' hi (j4 x (List.mem_cons_of_mem _ h))⟩
  ·obtain ⟨i,_,rfl⟩:=List.mem_map.1 h;exact ⟨0,wk hR' (CO hR0') Zo Zo (bS _ Zo) (dI _) (fy _)⟩
 have h104:∀ x∈rest++newK (lW (v:Int) n) v (8-rest.length),x.length=104:=λ x hx=>by
  rcases List.mem_append.1 hx with h|h
  ·exact oI hR (j4 x (List.mem_cons_of_mem _ h))
  ·obtain ⟨i,_,rfl⟩:=List.mem_map.1 h;obtain ⟨g1,_,g3,_⟩:=bm.1 hR';obtain ⟨f1,f2,f3⟩:=g1 _ (oF g3);exact qg f1 f2 f3 (bS _ Zo) (dI _) (fy _)
 refine ⟨b,_,_,e1,Zo,by rw [e5];omega,e3,?_,?_,?_⟩
 ·rw [hall];unfold newK;simp;omega
 ·rw [hall];exact h104
 ·rw [hall];exact hopen
end Go.Case

/- TimeserverKeepsNoState: the walk. -/
namespace Go.Proofs.YtmdahnkcnagkjaaGreat
open Go.RowKit Go.Sec Go.Oct Go.Jar Go.Case Go.Cook Go.Pkt Go.Tsrv BigFrame
def JqV (JJ:Jar) (q:List UInt8)(p:Par):Value := .tuple #[.agg #[.slice (p 0).1 JJ.up.length (p 0).2, .slice (p 1).1 JJ.dn.length (p 1).2, .slice (p 2).1 JJ.ck.length (p 2).2, .slice (p 3).1 JJ.last.length (p 3).2, .int .i64 JJ.net, .int .i64 JJ.sent], .slice (p 4).1 q.length (p 4).2]
def JqP (J:Jar) (q:List UInt8)(p:Par) (w:World):Prop:=Sl w (p 0).1 J.up.length J.up/\J.up.length<=(p 0).2/\Sl w (p 1).1 J.dn.length J.dn/\J.dn.length<=(p 1).2/\Bsc w (p 2).1 J.ck.length J.ck/\J.ck.length<=(p 2).2/\fU w (p 2).1/\Sl w (p 3).1 J.last.length J.last/\J.last.length<=(p 3).2/\Sl w (p 4).1 q.length q/\q.length<=(p 4).2
theorem JqP.ext {J:Jar} {q:List UInt8} {p:Par} {w w':World} (h:JqP J q p w) (hx:Ext w w'):JqP J q p w':=by
 obtain ⟨h1,h2,h3,h4,h5,h6,h7,h8,h9,h10,h11⟩:=h;exact ⟨h1.ext hx,h2,h3.ext hx,h4,h5.ext hx,h6,h7.ext hx,h8.ext hx,h9,h10.ext hx,h11⟩
theorem JqP.mut {J:Jar} {q:List UInt8} {p:Par} {w w':World} {g:Nat} {T:TypeId} {vs:List Value} (h:JqP J q p w) (hB:Blk w g T vs) (hT:T≠33) (hne:∀ v∈vs,∀ x,v ≠ .int .u8 x) (hM:Mut g w w'):JqP J q p w':=by
 obtain ⟨h1,h2,h3,h4,h5,h6,h7,h8,h9,h10,h11⟩:=h;exact ⟨h1.mut hB hne hM,h2,h3.mut hB hne hM,h4,h5.mutNe (h7.ne hB hT) hB hne hM,h6,h7.mut hB hT hM,h8.mut hB hne hM,h9,h10.mut hB hne hM,h11⟩
theorem si.mut {J:Jar} {P:Pkt} {p:Par} {w w':World} {g:Nat} {T:TypeId} {vs:List Value} (h:si J P p w) (hB:Blk w g T vs) (hT:T≠33) (hne:∀ v∈vs,∀ x,v ≠ .int .u8 x) (hM:Mut g w w'):si J P p w':=by
 obtain ⟨h1,h2,h3,h4,h5,h6,h7,h8,h9⟩:=h;exact ⟨h1.mut hB hne hM,h2,h3.mut hB hne hM,h4,h5.mutNe (h7.ne hB hT) hB hne hM,h6,h7.mut hB hT hM,h8.mut hB hne hM,h9⟩
theorem vag_jq {J:Jar} {q:List UInt8} {w:World} {f:FuncId} {args:Array Value} (h:Calls Tryz.prog f args w (Cp J q w)) :
  Calls Tryz.prog f args w λ e w''=>∃ v,e = .returned v/\∃ p:Par,v=JqV J q p/\Ext w w''/\JqP J q p w'':=by
 refine h.mono ?_;rintro e w' ⟨b1,n1,d1,b2,n2,d2,b3,n3,d3,b4,n4,d4,b5,d5,rfl,h1,h2,h3,h4,h5,h6,ht,h7,h8,h9,h10,hx⟩;have l1:=h1.len;have l2:=h3.len;have l3:=h5.len;have l4:=h7.len;subst l1 l2 l3 l4;exact ⟨_,rfl,λ i=>match i with|0=>(b1,d1)|1=>(b2,d2)|2=>(b3,d3)|3=>(b4,d4)|_=>(b5,d5),rfl,hx,h1,h2,h3,h4,h5,h6,ht,h7,h8,h9,h10⟩
theorem vag_pair {u v:List UInt8} {w:World} {f:FuncId} {args:Array Value} (h:Calls Tryz.prog f args w (C0 u v w)) :
  Calls Tryz.prog f args w λ e w''=>∃ y,e = .returned y/\∃ p:Par,y = .agg #[.slice (p 0).1 32 (p 0).2, .slice (p 1).1 32 (p 1).2]/\Ext w w''/\(Sl w'' (p 0).1 32 u/\Sl w'' (p 1).1 32 v) :=
 h.mono λ _ _ ⟨a,c,b,d,he,h1,_,h2,_,hx⟩=>⟨_,he,λ i=>match i with|0=>(a,c)|_=>(b,d),rfl,hx,h1,h2⟩
theorem keeps_walk (v cookies rotations:Int) (w:World):Calls Tryz.prog 6 #[.int .i64 v, .int .i64 cookies, .int .i64 rotations] w λ e w'=>e = .returned (.bool true)/\Ext w w':=by
 obtain ⟨vnqq,hvn⟩:∃ k:Nat,v % 100=(k:Int):=⟨(v % 100).toNat,Zo⟩;obtain ⟨kn,hkn⟩:∃ k:Nat,cookies % 8=(k:Int):=⟨(cookies % 8).toNat,Zo⟩;obtain ⟨n,hnn⟩:∃ k:Nat,rotations % 4=(k:Int):=⟨(rotations % 4).toNat,Zo⟩;have hv:vnqq<100:=Zo;have hk:kn<8:=Zo;have hn:n<4:=Zo;have hw1:=λ W=>dE v 100 W Zo Zo;have hw2:=λ W=>dE cookies 8 W Zo Zo;have hw3:=λ W=>dE rotations 4 W Zo Zo;rw [hvn] at hw1;rw [hkn] at hw2;rw [hnn] at hw3;clear hvn hkn hnn;have hrg:=λ W=>kq vnqq 0 rfl (show (0:Int)=((0:Nat):Int) from rfl) W Zo Zo;have hR0:=(ly vnqq (t:=0) Zo).1;have hRt:∀ t,t<=4->aR (lW (vnqq:Int) t)=true/\(lW (vnqq:Int) t).length<=4:=λ t ht=>⟨(ly vnqq Zo).1,(ly vnqq Zo).2.1⟩;have hRr:∀ t,t<=4->fg (lW (vnqq:Int) t)=(lW (vnqq:Int) (t+1),0):=λ t ht=>(mM ((vnqq:Int) % 1000).toNat (rnd (vnqq:Int) 32) Zo t Zo).2.1;obtain ⟨c,rest,hck⟩:=qJ (R:=lW (vnqq:Int) 0) (v:=(vnqq:Int)) (k:=1+kn) (net:=0) Zo;obtain ⟨_,_,jq3,_⟩:=lj hR0 (v:=vnqq) (k:=1+kn) Zo hck;have hJv:=(lj hR0 (v:=vnqq) (k:=1+kn) Zo hck).1;have hqs:=λ a m cc W H H2=>lC a m cc (lW (vnqq:Int) 0) vnqq (1+kn) c rest rfl (show (1:Int)+(kn:Int)=((1+kn:Nat):Int) from Zo) W H H2 hR0 Zo Zo Zo hck;obtain ⟨b,P,J2,kAqq,kbl,kql,kJqq,k8,k104,kop⟩:=keepsP hv Zo Zo (show n<=3 from Zo) hck;have hns:=λ W=>km (vnqq+1) 16 9 (show ((vnqq:Int)+1)=((vnqq+1:Nat):Int) from Zo) (show (16:Int)=((16:Nat):Int) from rfl) (show (9:Int)=((9:Nat):Int) from rfl) W Zo Zo Zo;rw [show ((vnqq+1:Nat):Int)=(vnqq:Int)+1 by omega] at hns;have hNl:=ij ((vnqq:Int)+1) 16 9;have hr6:=λ W=>gE ((vnqq:Int)+1) 32 (show (32:Int)=((32:Nat):Int) from rfl) W Zo;have hu6:=bS ((vnqq:Int)+1) (n:=32) Zo;have hpr:=λ W=>vX vnqq rfl W Zo;generalize kO ((vnqq:Int)+1) 16 9=N at *;generalize rnd ((vnqq:Int)+1) 32=u6 at *;generalize jP vnqq c rest.length=q at *;generalize rW vnqq c rest=J at *;have hans:∀ (ar an ab:Option Addr)(nr cr cn cb:Nat) (W:World),Ib W ar nr (lW (vnqq:Int) n)->nr<=cr->Bsc W an 9 N->9<=cn->Sl W ab q.length q->q.length<=cb->Calls Tryz.prog 12 #[.agg #[.slice ar nr cr, .int .i64 2, .int .i64 1, .int .i64 64, .bool false], .agg #[.int .i64 0], .slice ab q.length cb, .int .u64 5, .int .u64 6, .int .i64 7, .slice an 9 cn] W (ou ((b,8),0) W):=λ ar an ab nr cr cn cb W H1 H2 H3 H4 H5 H6=>by
  have hl:=H1.len;have h4:=(hRt n Zo).2;have:=jR ar an ab nr cr cn q.length cb (kS (lW (vnqq:Int) n) 1 64 false) 0 7 5 6 N q W H1 H2 Zo (by rw [hNl];exact H3) Zo Zo H5 H6 Zo;rw [kAqq,hNl] at this;exact this
 have haj:=λ a1 a2 a3 a4 au ab n1 c1 n2 c2 n3 c3 n4 c4 cu cb W H1 m1 H2 m2 H3 H4 m3 H5 H6 H7 m4 H8 H9 Ha=>qP a1 a2 a3 a4 au ab n1 c1 n2 c2 n3 c3 n4 c4 32 cu b.length cb J u6 b W H1 m1 H2 m2 H3 H4 m3 H5 H6 H7 m4 H8 H9 Ha Zo;rw [kJqq] at haj;have hJf:=hJv;unfold bP at hJf;rw [Bool.and_eq_true,Bool.and_eq_true] at hJf;obtain ⟨g1,g2,_⟩:=hJf;have g1:jt J:=of_decide_eq_true g1;have g2:∀ x∈J.ck,x.length<=1000000:=λ x hx=>by
  have:=List.all_eq_true.1 g2 x hx;have:x.length=104:=by simpa using this
  omega
 have m1:J.up.length<=1000000:=by rw [g1.1.1];omega
 have m2:J.dn.length<=1000000:=by rw [g1.1.2];omega
 have m3:J.ck.length<=100000:=by have:=g1.2.1;omega
 have m4:J.last.length<=1000000:=by rcases g1.2.2.1 with h|h <;> omega
 clear kAqq kJqq hck hJv hR0 jq3 g1 hNl
 go_enter Tryz.func6,Tryz.ntmps6
 go_wp2_with fail;(with_reducible refine (hw1 _).mono ?_);rintro e w1 ⟨rfl,hE⟩;go_wp2_with fail;(with_reducible refine (hrg _).mono ?_);rintro e w2 ⟨ar,nr,cr,rfl,hI,hcr,hx⟩;have hE:=hE.trans hx;clear hx hrg hw1;go_upto_region 3 with (first
  | (refine ag RR1 rfl rfl _ _ rfl rfl rfl rfl (by simp [Act.put]) _ rfl Zs rfl oC ?_;intro x2 hB7 _)
  | fail)
 (try simp only [q14q,q15q,q16q,Act.put,q0q,q1q,q2q]);have hx:Ext w2 (w2.ext x2):=Ext.of_ext _ _;have hI:=hI.ext hx;have hE:=hE.trans hx;obtain ⟨g7,hg7⟩:∃ g,g=w2.heap.size:=⟨_,rfl⟩;rw [<- hg7] at hB7 ⊢;clear hx hg7;generalize w2.ext x2=W2 at *;have hr7:=hB7.rd;refine R2.aJ 10 [[],[],[],[2],[2,3],[0,1,2,3,4],[0,1,2,3,4,5],[0,1,2,3,4,5,6],[0,1,2,3,4,5,6],[],[0,1,2,3,4,5,6,7,9],[0,1,2,3,4,5,6,7,8,9,10]] [7,8] (by intro c a d v w h;cases d <;> exact h) Zk Zk Zk Zk Zk ?_;simp only [q8q,q9q,q10q,q11q,q12q,q13q];(refine R2.ay RR1 _ rfl (λ _=>rfl) g7 0 (λ _=>by simp [go_sem]) _ hr7 rfl ?_);(repeat (refine R2.cy ?_;(try simp only [Act.put,q0q,q1q,q2q])));(refine R2.ao (λ _ => .int .i64 kn) (λ _ _=>True) (λ _ _ _ _ _=>trivial) (λ us w' hx hf=>⟨rfl,?_⟩) ?_;(unfold gives;simp [go_sem,execOp];refine (hw2 _).mono ?_;rintro e w1 ⟨rfl,hx1⟩;first|exact ⟨rfl,hx1⟩|simpa using hx1));(repeat (refine R2.cy ?_;(try simp only [Act.put,q0q,q1q,q2q])));(refine R2.ao (JqV J q) (JqP J q) (λ p w w' h hx=>h.ext hx) (λ us w' hx hf=>⟨rfl,?_⟩) ?_;(unfold gives;simp [go_sem,execOp];exact vag_jq (hqs _ _ _ _ (hI.ext hx) hcr)));(repeat (refine R2.cy ?_;(try simp only [Act.put,q0q,q1q,q2q])));(refine R2.cW _ ([.slice none 0 0, .slice none 0 0, .slice none 0 0, .slice none 0 0, .int .i64 0, .int .i64 0]) Tryz.zeroValue57 rfl rfl rfl ?_);(refine R2.fS ?_;intro us x hx hf hd);obtain ⟨hP,g8,e8,hg8,hB8⟩:=hf;(try simp only [q14q,q15q,q16q]);rw [e8];clear hd e8 hqs hr7 hw2;generalize us 5=p at *;have hx:Ext W2 (W2.ext x):=hx;have hl7:=hB7.lt;have hI0:=hI;have hE0:=hE;have hB7:=hB7.extB hx;generalize W2.ext x=W3 at *;haveI:=hB8.blt;have hr7:=hB7.rd;have h78:g7≠g8:=Zo;go_upto_region 5 with (first
  | ((refine aa RJ6 rfl _ _ rfl g8 0 rfl _ rfl 57 _ hB8 rfl Zs oC ?_;intro V3 hV3 hM3);have hB7v:=Blk.turn hM3 hB7 h78;have hr7v:=Blk.rd hB7v)
  | (refine af RR1 rfl _ rfl g7 0 rfl _ hr7v rfl ?_)
  | (refine ag RR1 rfl rfl _ _ rfl rfl rfl rfl (by simp [Act.put]) _ rfl Zs rfl oC ?_;intro x4 hB10 _)
  | fail)
 (try simp only [q14q,q15q,q16q,Act.put,q0q,q1q,q2q]);have hV3:Blk V3 g8 57 [.slice (p 0).1 J.up.length (p 0).2, .slice (p 1).1 J.dn.length (p 1).2, .slice (p 2).1 J.ck.length (p 2).2, .slice (p 3).1 J.last.length (p 3).2, .int .i64 J.net, .int .i64 J.sent]:=hV3;have hx3:Ext W2 V3:=Below.trans hx (hM3.below hg8 hx.size);have hP:=(hP.mut hB8 Zd Zs hM3).ext (Ext.of_ext V3 x4);have hI:=(hI0.ext hx3).ext (Ext.of_ext V3 x4);have hV3:=hV3.extB (Ext.of_ext V3 x4);have hE:=(hE.trans hx3).trans (Ext.of_ext V3 x4);obtain ⟨g10,hg10⟩:∃ g,g=V3.heap.size:=⟨_,rfl⟩;have hlt10:g8<g10:=by rw [hg10];exact Nat.lt_of_lt_of_le hB8.lt hM3.size
 have hgE:w.heap.size<=g10:=by rw [hg10];exact (hE0.trans hx3).size
 rw [<- hg10] at hB10 ⊢;clear hB8 hM3 hx3 hx hr7 hr7v hB7v hB7 hg10 h78;generalize V3.ext x4=W4 at *;go_wp2_with fail;(with_reducible refine (hw3 _).mono ?_);rintro e w5 ⟨rfl,hx⟩;have hP:=hP.ext hx;have hI:=hI.ext hx;have hV3:=hV3.extB hx;have hB10:=hB10.extB hx;have hE:=hE.trans hx;clear hx hw3;go_wp2_with fail;have hRB:RB 26 (lW (vnqq:Int) 0) ar nr cr g10 w5:=⟨hB10,hI,hcr⟩
 go_loopw [12] (λ v12 wr=>∃ (k:Nat) (a:Option Addr)(m cc:Nat),k<=n/\v12 = .int .i64 k/\RB 26 (lW (vnqq:Int) k) a m cc g10 wr/\JqP J q p wr/\Blk wr g8 57 [.slice (p 0).1 J.up.length (p 0).2, .slice (p 1).1 J.dn.length (p 1).2, .slice (p 2).1 J.ck.length (p 2).2, .slice (p 3).1 J.last.length (p 3).2, .int .i64 J.net, .int .i64 J.sent]/\Ext w wr) (λ v12 _=>n-(intOf v12).toNat)
 case atStart=>exact ⟨0,_,_,_,Nat.zero_le _,rfl,hRB,hP,hV3,hE⟩
 case round =>
  clear hRB hP hV3 hE hB10 hI hI0 hE0;obtain ⟨k,a,m,cc,hk2,rfl,hRB,hP,hV3,hE⟩:=hrel;have hml:=hRB.ib.len;have hm4:=(hRt k Zo).2;have hmc:=hRB.le;by_cases hlt2:k<n
  ·have hki:(k:Int)<(n:Int):=by omega
   have hrot:=λ W H=>rl a m cc (lW (vnqq:Int) k) W H hmc Zo;rw [hRr k Zo] at hrot;clear hml hm4
   go_wp2_with (first
    | (refine af RR1 rfl _ rfl g10 0 rfl _ ((hRB.blk.rd)) rfl ?_)
    | fail)
   (with_reducible refine (hrot _ hRB.ib).mono ?_);rintro e w6 ⟨a4,n4,c4,rfl,hI4,hc4,hx4⟩;have hRB:=hRB.ext hx4;have hP:=hP.ext hx4;have hV3:=hV3.extB hx4;have hE:=hE.trans hx4
   go_wp2_with (first
    | (refine aa RR1 rfl _ _ rfl g10 0 rfl _ rfl 26 _ hRB.blk rfl Zs oC ?_;intro w7 hB7 hM7)
    | fail)
   go_roundw
   case rel=>exact ⟨k+1,a4,n4,c4,Zo,Zg,⟨hB7,hI4.muts hRB.blk (no1 _ _ _) hM7,hc4⟩,hP.mut hRB.blk Zd Zs hM7,Blk.turn hM7 hV3 Zo,sk hE (Ext.refl _) hM7 hgE⟩
   case measure=>simp [intOf];omega
  ·obtain rfl:k=n:=by omega
   have hki:¬ (k:Int)<(k:Int):=Zo;have hIk:=hRB.ib;have hrk:=hRB.blk.rd;have hm24:m<=1000000:=Zo;clear hlt2 hk2 hml hm4
   go_wp2_with (first
    | (refine af RR1 rfl _ rfl g10 0 rfl _ hrk rfl ?_)
    | fail)
   (with_reducible refine (fI a m cc false _).mono ?_);rintro e w8 ⟨rfl,hx1⟩;go_wp2_with fail;(with_reducible refine (hns _).mono ?_);rintro e w9 ⟨an,cn,rfl,hNn,hcn,htn,hx2⟩;have hx:=hx1.trans hx2;have hIk:=hIk.ext hx;have hP:=hP.ext hx;have hV3:=hV3.extB hx;have hRB:=hRB.ext hx;have hE:=hE.trans hx;clear hx hx1 hx2 htn hns hrk;obtain ⟨p1,p2,p3,p4,p5,p6,pt,p7,p8qq,p9qq,p10⟩:=hP;go_wp2_with fail;(with_reducible refine (hans a an (p 4).1 m cc cn (p 4).2 _ hIk hmc hNn hcn p9qq p10).mono ?_);rintro e w10 ⟨a5,c5,rfl,hS5,hc5,hx1⟩;go_upto_region 11 with (first
    | (refine aa RB1 rfl _ _ rfl w10.heap.size 0 rfl _ rfl 32 _ ((Blk.new w10 #[.int .i64 0] 32)) rfl Zs oC ?_;intro W11 hbk hM11)
    | fail)
   (try simp only [q14q,q15q,q16q,Act.put,q0q,q1q,q2q]);have hxa:=hx1.trans (Ext.of_alloc w10 (.cells #[.int .i64 0] 32));have hx:Ext w9 W11:=Below.trans hxa (hM11.below hx1.size hxa.size);have hS5:=(hS5.ext (Ext.of_alloc w10 (.cells #[.int .i64 0] 32))).mut (Blk.new w10 #[.int .i64 0] 32) Zs hM11;have p1:=p1.ext hx;have p3:=p3.ext hx;have p5:=p5.ext hx;have p7:=p7.ext hx;have hV3:=hV3.extB hx;have hRB:=hRB.ext hx;have hE:=hE.trans hx;clear hx hx1 hxa hM11 hbk hans hNn hIk p9qq p10 pt;have hrJ:=hV3.rd;refine R2.aJ 12 [[],[],[1],[1,2],[],[0,1,2,3,4],[0,1,2,3,4,5],[0,1,2,3,4,5,6],[0,1,2,3,4,5,6],[0,1,2,3,4,5,6],[],[],[0,1,2,3,4,5,6,7,10,11],[0,1,2,3,4,5,6,7,8,10,11,12],[0,1,2,3,4,5,6,7,8,9,10,11,12,13]] [7,8,9] (by intro c a d v w h;cases d <;> exact h) Zk Zk Zk Zk Zk ?_;simp only [q8q,q9q,q10q,q11q,q12q,q13q];(refine R2.ay RJ6 _ rfl (λ _=>rfl) g8 0 (λ _=>by simp [go_sem]) _ hrJ rfl ?_);(repeat (refine R2.cy ?_;(try simp only [Act.put,q0q,q1q,q2q])));(refine R2.ao (λ p => .slice (p 0).1 32 (p 0).2) (λ p w''=>Own w'' 0 (p 0).1 32 (p 0).2 u6) (λ p w w' h hx=>h.ext hx) (λ us w' hx hf=>⟨rfl,?_⟩) ?_;(unfold gives;simp [go_sem,execOp];exact aA (Nat.zero_le _) (hr6 _)));(repeat (refine R2.cy ?_;(try simp only [Act.put,q0q,q1q,q2q])));(refine R2.ao (CA J2 P) (si J2 P) (λ p w w' h hx=>h.ext hx) (λ us w' hx hf=>⟨rfl,?_⟩) ?_;(unfold gives;simp [go_sem,execOp];exact zN (haj (p 0).1 (p 1).1 (p 2).1 (p 3).1 _ a5 J.up.length (p 0).2 J.dn.length (p 1).2 J.ck.length (p 2).2 J.last.length (p 3).2 _ c5 _ (p1.ext hx) m1 (p3.ext hx) p4 m2 (p5.ext hx) p6 m3 g2 (p7.ext hx) m4 (Own.sl (hf _ (List.mem_append_right _ (List.mem_singleton_self _)) rfl)) (hS5.ext hx) hc5)));(repeat (refine R2.cy ?_;(try simp only [Act.put,q0q,q1q,q2q])));(refine R2.cW _ ([.slice none 0 0, .slice none 0 0, .slice none 0 0, .slice none 0 0, .int .i64 0, .int .i64 0]) Tryz.zeroValue57 rfl rfl rfl ?_);(refine R2.cW _ ([.int .i64 0, .int .i64 0, .int .i64 0, .int .i64 0, .int .i64 0, .int .i64 0, .int .u32 0, .int .u32 0, .int .u32 0, .int .u64 0, .int .u64 0, .int .u64 0, .int .u64 0, .slice none 0 0, .slice none 0 0, .bool false]) Tryz.zeroValue67 rfl rfl rfl ?_);(refine R2.fS ?_;intro us x hx hf hd);have hne:=hd 10 Zs 11 Zs Zo;obtain ⟨-,hA,⟨g16,e16,hg16,hB16⟩,g17,e17,hg17,hB17⟩:=hf;have h167:g17≠g16:=λ e=>hne (by rw [e16,e17,e]);(try simp only [q14q,q15q,q16q]);rw [e16,e17];clear hd e16 e17 hne haj hr6 hrJ hV3 p1 p3 p5 p7 hS5;generalize us 5=s at *;have hx:Ext W11 (W11.ext x):=hx;generalize W11.ext x=W12 at *;haveI:=hB16.blt;haveI:=hB17.blt;obtain ⟨PH,hPH⟩:∃ h,P.h=h:=⟨_,rfl⟩;rw [hPH];clear hPH;go_upto_region 12 with (first
    | ((refine aa RJ6 rfl _ _ rfl g16 0 rfl _ rfl 57 _ hB16 rfl Zs oC ?_;intro V7 hV7 hM7);have hB87:=Blk.turn hM7 hB17 h167;haveI:=Blk.blt hB87)
    | (refine aa aV rfl _ _ rfl g17 0 rfl _ rfl 67 _ hB87 rfl Zs oC ?_;intro V8 hV8 hM8)
    | fail)
   (try simp only [q14q,q15q,q16q,Act.put,q0q,q1q,q2q]);have hV7:Blk V7 g16 57 [.slice (s 0).1 J2.up.length (s 0).2, .slice (s 1).1 J2.dn.length (s 1).2, .slice (s 2).1 J2.ck.length (s 2).2, .slice (s 3).1 J2.last.length (s 3).2, .int .i64 J2.net, .int .i64 J2.sent]:=hV7;have hA:=(hA.mut hB16 Zd Zs hM7).mut hB87 Zd Zs hM8;have hV7:=Blk.turn hM8 hV7 (Ne.symm h167);have hEV7:Ext W11 V7:=Below.trans hx (hM7.below hg16 hx.size);have hEV8:Ext W11 V8:=Below.trans hEV7 (hM8.below hg17 hEV7.size);have hRB:=hRB.ext hEV8;have hE:=hE.trans hEV8;obtain ⟨-, -, -, -,q5,q6,qtqq, -, -⟩:=hA;clear hM7 hM8 hB16 hB17 hB87 hV8 hEV7 hEV8 h167 hx;have i8:((J2.ck.length:Int) != 8)=false:=by rw [k8];rfl
   replace k8:=Lib.hid k8;have hIk:=hRB.ib;have hB10:=hRB.blk;clear hRB;haveI:=hV7.blt;have v2:=hV7.cell? 2 rfl;go_wp2_with fail
   go_loopw [6,19,20,21,22,23] (λ _ v19 _ _ _ _ wr=>∃ i:Nat,i<=8/\v19 = .int .i64 i/\Ext V8 wr) (λ _ v19 _ _ _ _ _=>8-(intOf v19).toNat)
   case atStart=>exact ⟨0,Zo,rfl,Ext.refl _⟩
   case round =>
    clear v2;obtain ⟨i,hi,rfl,hX⟩:=hrel;have hV7x:=hV7.extB hX;haveI:=hV7x.blt;have v2:=hV7x.cell? 2 rfl;by_cases hlt:i<8
    ·have i1:(i:Int)<(J2.ck.length:Int):=by rw [k8.out];omega
     have i0:(0:Int)<=(i:Int):=Zo;have hil:i<J2.ck.length:=by rw [k8.out];omega
     obtain ⟨bcqq,ocqq,ac,mc,cd,hac,hbc,hcc,hcd,hSc⟩:=(q5.ext hX).at i hil;rw [hac] at v2;clear hac;obtain ⟨age,hop⟩:=kop _ (List.getElem_mem hil);generalize J2.ck[i]=X at *;have hopn:=λ W H1 H2=>rcopen_any a ac m cc mc cd (lW (vnqq:Int) k) X W H1 hmc hm24 H2 hcd;rw [hop] at hopn;obtain ⟨o,ho⟩:∃ o:Opened,o=⟨15,upC (vnqq:Int),dnC (vnqq:Int),age,0⟩:=⟨_,rfl⟩;rw [<- ho] at hopn;have i2:(o.err != 0)=false:=by rw [ho];rfl
     have hou:o.up=upC (vnqq:Int):=by rw [ho]
     have hod:o.down=dnC (vnqq:Int):=by rw [ho]
     clear ho hop;have hIx:=hIk.ext hX;have hrk:=(hB10.extB hX).rd;haveI:=hbc;replace hou:=Lib.hid hou;replace hod:=Lib.hid hod;go_wp2_with fail;refine R2.aJ 13 [[],[],[1],[],[1,2,3],[1,2,3,4],[0,1,2,3,4,5],[0,1,2,3,4,5,6],[0,1,2,3,4,5,6,7],[0,1,2,3,4,5,6,7],[0,1,2,3,4,5,6,7],[0,1,2,3,4,5,6,7],[],[0,1,2,3,4,5,6,7,8,12],[0,1,2,3,4,5,6,7,8,9,12,13],[0,1,2,3,4,5,6,7,8,9,10,12,13,14],[0,1,2,3,4,5,6,7,8,9,10,11,12,13,14,15]] [9,10,11] (by intro c a d v w h;cases d <;> exact h) Zk Zk Zk Zk Zk ?_;simp only [q8q,q9q,q10q,q11q,q12q,q13q];(refine R2.ay RR1 _ rfl (λ _=>rfl) g10 0 (λ _=>by simp [go_sem]) _ hrk rfl ?_);(repeat (refine R2.cy ?_;(try simp only [Act.put,q0q,q1q,q2q])));(refine R2.ao (C5 o) (yX o) (λ p w w' h hx=>h.ext hx) (λ us w' hx hf=>⟨rfl,?_⟩) ?_;(unfold gives;simp [go_sem,execOp];exact zR (hopn _ (hIx.ext hx) (hSc.ext hx))));(repeat (refine R2.cy ?_;(try simp only [Act.put,q0q,q1q,q2q])));(refine R2.cW _ ([.slice none 0 0, .slice none 0 0]) Tryz.zeroValue55 rfl rfl rfl ?_);(refine R2.fS ?_;intro us x hx hf hd);obtain ⟨hO,g21,e21,hg21,hB21⟩:=hf;(try simp only [q14q,q15q,q16q]);rw [e21];clear hd e21 hopn hrk hcc hSc v2;generalize us 6=z at *;have hx:Ext wr (wr.ext x):=hx;generalize wr.ext x=wx at *;haveI:=hB21.blt;obtain ⟨⟨hu,hcu⟩,hdd,hcdd⟩:=hO;go_upto_region 18 with (first
      | (refine aa AH rfl _ _ rfl g21 0 rfl _ rfl 55 _ hB21 rfl Zs oC ?_;intro V hV hMV)
      | fail)
     (try simp only [q14q,q15q,q16q,Act.put,q0q,q1q,q2q]);have hV:Blk V g21 55 [.slice (z 0).1 o.up.length (z 0).2, .slice (z 1).1 o.down.length (z 1).2]:=hV;have hEV:Ext wr V:=Below.trans hx (hMV.below hg21 hx.size);have hu:=hu.mut hB21 Zs hMV;have hdd:=hdd.mut hB21 Zs hMV;have hu':Sl V (z 0).1 o.up.length (upC (vnqq:Int)):=by rw [<- hou.out];exact hu
     have hdd':Sl V (z 1).1 o.down.length (dnC (vnqq:Int)):=by rw [<- hod.out];exact hdd
     have hrV:=hV.rd;clear hMV hB21 hx;refine R2.aJ 9 [[],[0],[0,1],[0,1,2],[0,1,2],[0,1,2,4],[0,1,2,3,4,5],[0,1,2,3,4,5,6],[0,1,2,3,4,5,6,7]] [] (by intro c a d v w h;cases d <;> exact h) Zk Zk Zk Zk Zk ?_;simp only [q8q,q9q,q10q,q11q,q12q,q13q];(repeat (refine R2.cy ?_;(try simp only [Act.put,q0q,q1q,q2q])));(refine R2.ay AH _ rfl (λ _=>rfl) g21 0 (λ _=>by simp [go_sem]) _ hrV rfl ?_);(repeat (refine R2.cy ?_;(try simp only [Act.put,q0q,q1q,q2q])));(refine R2.ao (λ p => .agg #[.slice (p 0).1 32 (p 0).2, .slice (p 1).1 32 (p 1).2]) (λ p w''=>Sl w'' (p 0).1 32 (upC (vnqq:Int))/\Sl w'' (p 1).1 32 (dnC (vnqq:Int))) (λ p w w' h hx=>⟨h.1.ext hx,h.2.ext hx⟩) (λ us w' hx hf=>⟨rfl,?_⟩) ?_;(unfold gives;simp [go_sem,execOp];exact vag_pair (hpr _)));(refine R2.ao (λ _ => .bool true) (λ _ _=>True) (λ _ _ _ _ _=>trivial) (λ us w' hx hf=>⟨rfl,?_⟩) ?_;(unfold gives;simp [go_sem,execOp];refine (ckpair_any _ _ _ _ _ _ _ _ _ _ _ _ _ _ _ (hu'.ext hx) (hdd'.ext hx) (And.left (hf _ (List.mem_append_right _ (List.mem_singleton_self _)) rfl)) (And.right (hf _ (List.mem_append_right _ (List.mem_singleton_self _)) rfl))).mono ?_;rintro e w1 ⟨rfl,hx1⟩;first|exact ⟨rfl,hx1⟩|simpa using hx1));(repeat (refine R2.cy ?_;(try simp only [Act.put,q0q,q1q,q2q])));(refine R2.fS ?_;intro us x hx hf hd);have hx:Ext V (V.ext x):=hx;have hXn:=(hX.trans hEV).trans hx;go_wp2_with fail;go_roundw
     case rel=>exact ⟨i+1,Zo,Zg,hXn⟩
     case measure=>simp [intOf];omega
    ·obtain rfl:i=8:=by omega
     have i1:¬ ((8:Nat):Int)<(J2.ck.length:Int):=by rw [k8.out];omega
     go_wp2_with fail;(with_reducible refine (jJ _).mono ?_);rintro e w9 ⟨rfl,hx9⟩;go_wp2_with fail;go_ret;exact ⟨rfl,(hE.trans hX).trans hx9⟩
end Go.Proofs.YtmdahnkcnagkjaaGreat
