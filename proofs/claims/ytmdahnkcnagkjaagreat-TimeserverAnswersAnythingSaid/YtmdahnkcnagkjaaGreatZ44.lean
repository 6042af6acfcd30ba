/- Lemmas of this claim, several texts joined. -/
import Derived.Test.YtmdahnkcnagkjaaGreatZ43
set_option maxRecDepth 100000
open Go.Value renaming int -> Zz,slice -> Zy
open Go.IntKind renaming i64 -> Zx,u64 -> Zw,u32 -> Zv,u8 -> Zu
open List renaming setIfInBounds_toArray -> q0q, set_cons_succ -> q1q, set_cons_zero -> q2q, mem_cons -> q3q, not_mem_nil -> q4q, nil_append -> q5q, cons_append -> q6q, mem_append -> q7q, take_succ_cons -> q8q, take_zero -> q9q, drop_succ_cons -> q10q, drop_zero -> q11q, take_nil -> q12q, drop_nil -> q13q
open Go.IntWalk renaming i64_in -> q17q, rem_in -> q18q, wrap64_in -> q19q
set_option maxHeartbeats 8000000
set_option linter.unusedVariables false
set_option linter.unusedSimpArgs false
/- Open undoes Protect: plain functions. No program. -/
namespace Go.Pkt
open Go.Oct Go.Aes Go.Sec
theorem u4 (l:E7):gD l 4=l++List.replicate (aG l.length-l.length) 0:=by
 unfold gD Bd aG;rw [aaj Zo]
 congr 2
 omega
theorem kC (l:E7):(gD l 4).length=aG l.length:=by
 rw [u4,aag,aaL];unfold aG;omega
theorem fm (n s:E7):(aA n s).length=4+aG n.length+aG s.length:=by
 simp only [aA,aag,aw,kC];omega
theorem qd {n s:E7} (h1:16<=n.length) (h2:n.length<=32) (h3:s.length<65536):cZ (aA n s)=some (n,s):=by
 have e0:bR ((aA n s).take 2)=n.length:=by
  unfold aA;rw [dV _ _ _ (aw _ _),kg _ Zo]
 have e1:bR (((aA n s).drop 2).take 2)=s.length:=by
  unfold aA;rw [eS _ _ _ (aw _ _),dV _ _ _ (aw _ _),kg _ Zo]
 have e2:(aA n s).drop 4=gD n 4++gD s 4:=by
  unfold aA;rw [show (4:Nat)=2+2 from rfl,iS _ _ 2 2 (aw _ _),eS _ _ _ (aw _ _)]
 have e3:((aA n s).drop 4).take n.length=n:=by
  rw [e2,u4,aam,dV _ _ _ rfl]
 have e4:((aA n s).drop (4+aG n.length)).take s.length=s:=by
  rw [<- abd,e2,eS _ _ _ (kC n),u4,dV _ _ _ rfl]
 unfold cZ;simp only [e0,e1,e3,e4];rw [aaj ⟨by rw [fm];omega,⟨h1,h2⟩,fm n s,trivial⟩]
theorem uk {n s:E7} (h1:16<=n.length):eQ (1028,aA n s)=(1028,aA n s):=by
 unfold eQ;have h:=fm n s;have:szN (aA n s).length-4-(aA n s).length=0:=by rw [h];unfold szN aG;omega
 rw [this];simp
theorem lS {k:Int} {L:List Fld} (M:List Fld) (h:∀ f∈L,f.1≠k):∀ j,j<=L.length->ixs k (L++M) j=[]:=by
 intro j
 induction j with
 | zero=>intro _;rfl
 | succ j ih =>
  intro hj;rw [mL,ih Zo];rw [FF,List.getElem?_append_left Zo,List.getElem?_eq_getElem Zo];exact h _ (aaB _)
theorem zJ {k:Int} {L:List Fld} (h:∀ f∈L,f.1≠k):ixs k L L.length=[]:=by
 have:=lS [] h L.length (aad _)
 rwa [List.append_nil] at this
theorem rv {L:List Fld} (h:∀ f∈L,(0<=f.1/\f.1<=65535)/\szN f.2.length<=1232) (h2:L.length<=24) (h3:bf L<=1232):aX L=(aQ L,0):=by
 have hb:fi L=0:=by
  clear h2 h3
  induction L with
  | nil=>rfl
  | cons f L ih =>
   obtain ⟨⟨a,b⟩,c⟩:=h f (aa4 ..);have:(cQ f).2=0:=by unfold cQ;rw [aae Zo,aae Zo]
   rw [fi,aae (by simpa using this)];exact ih λ g hg=>h g (List.mem_cons_of_mem _ hg)
 unfold aX;rw [hb,aae Zs,aae Zo,aae Zo]
structure Fits (p:Pkt) (nn:Nat):Prop where
 h:okH p.h
 f1:∀ f∈p.plain,(0<=f.1/\f.1<=65535)/\szN f.2.length<=1232
 f2:∀ f∈p.secret,(0<=f.1/\f.1<=65535)/\szN f.2.length<=1232
 a:∀ f∈p.plain,f.1≠1028
 n1:p.plain.length<24
 n2:p.secret.length<=24
 n0:16<=nn/\nn<=32
 t:48+bf p.plain+(8+aG nn+aG (16+bf p.secret))<=1280
 t2:bf p.secret<=1232
def bM (ky:E7)(p:Pkt) (nonce:E7):E7:=(cj ky [dg p.h++aQ p.plain,nonce] (aQ p.secret)).1
theorem wT {p:Pkt} {nn:Nat} (h:Fits p nn):cH p.h=(dg p.h,0)/\aX p.plain=(aQ p.plain,0)/\aX p.secret=(aQ p.secret,0)/\aZ p.h p.plain=(dg p.h++aQ p.plain,0):=by
 have h1:cH p.h=(dg p.h,0):=aaj h.h;have h2:=rv h.f1 (by have:=h.n1;omega) (by have:=h.t;omega);have h3:=rv h.f2 h.n2 h.t2;refine ⟨h1,h2,h3,?_⟩;unfold aZ;rw [h1,h2,aae Zs,aae Zs]
theorem zO {ky a b:E7} (h:ky.length=32) (ha:a.length<=65519) (hb:b.length<=65519):aO ky [a,b]=0:=by
 exact z43q81
theorem jE {p:Pkt} {nn:Nat} (h:Fits p nn):(dg p.h++aQ p.plain).length=48+bf p.plain:=by rw [aag,dB,bO]
theorem qV {ky nonce:E7} {p:Pkt} (hk:ky.length=32) (h:Fits p nonce.length):(bM ky p nonce).length=16+bf p.secret:=by
 have hl:=jE h;have ht:=h.t;have ht2:=h.t2;have hn:=h.n0;unfold bM;rw [(zg hk Zo Zo (by rw [bO];omega)).2,bO]
theorem jq {ky nonce:E7} {p:Pkt} (hk:ky.length=32) (h:Fits p nonce.length):cz ky p nonce=(dg p.h++aQ p.plain++dt (1028,aA nonce (bM ky p nonce)),0) /\
  (dt (1028,aA nonce (bM ky p nonce))).length=8+aG nonce.length+aG (16+bf p.secret):=by
 obtain ⟨e1,e2,e3,e4⟩:=wT h;have hl:=jE h;have ht:=h.t;have hn:=h.n0;have hsl:=qV hk h;have hgl:=fm nonce (bM ky p nonce);rw [hsl] at hgl;have hsz:szN (aA nonce (bM ky p nonce)).length=8+aG nonce.length+aG (16+bf p.secret):=by rw [hgl];unfold szN aG;omega
 have hle:szN (aA nonce (bM ky p nonce)).length<=1232:=by rw [hsz];omega
 have htt:bf [((1028:Int),aA nonce (bM ky p nonce))]=szN (aA nonce (bM ky p nonce)).length:=by simp [bf]
 have hlast:eN ky p nonce=(dt (1028,aA nonce (bM ky p nonce)),0):=by
  unfold eN;rw [e4,e3];show aX [(1028,aA nonce (bM ky p nonce))]=_;rw [rv (by intro f hf;rw [aau.1 hf];exact ⟨⟨Zs,Zs⟩,hle⟩) Zs (by rw [htt];exact hle)];simp [aQ]
 have hfl:(dt (1028,aA nonce (bM ky p nonce))).length=8+aG nonce.length+aG (16+bf p.secret):=by rw [de];exact hsz
 refine ⟨?_,hfl⟩;rw [oM hk Zo (by rw [e4]) (by rw [e3]),aae (by rw [zJ h.a];simp),aae (by have:=h.n1;omega),hlast,e4];show (if (0:Int)≠0\/1280<(dg p.h++aQ p.plain).length+(dt (1028,aA nonce (bM ky p nonce))).length then _ else _)=_;rw [aae (by rw [hl,hfl];omega)]
theorem kR {ky nonce:E7} {p:Pkt} (hk:ky.length=32) (h:Fits p nonce.length) :
  aE (dg p.h++aQ p.plain++dt (1028,aA nonce (bM ky p nonce)))=(⟨p.h,p.plain.map eQ++[(1028,aA nonce (bM ky p nonce))],[],false⟩,0):=by
 obtain ⟨_,hfl⟩:=jq hk h;have hn:=h.n0;have ht:=h.t;have hG:(dt (1028,aA nonce (bM ky p nonce))).length=szN (aA nonce (bM ky p nonce)).length:=de _;have e:dg p.h++aQ p.plain++dt (1028,aA nonce (bM ky p nonce))=dg p.h++aQ (p.plain++[(1028,aA nonce (bM ky p nonce))]):=by
  rw [aam,jT]
 have htot:=eO p.plain (1028,aA nonce (bM ky p nonce));have hd:bH (dg p.h++aQ (p.plain++[(1028,aA nonce (bM ky p nonce))]))=((p.h,aQ (p.plain++[(1028,aA nonce (bM ky p nonce))])),0) :=
  wz p.h h.h _ (by rw [bO,htot];simp only;omega)
 have hf:bj (aQ (p.plain++[(1028,aA nonce (bM ky p nonce))]))=(p.plain.map eQ++[(1028,aA nonce (bM ky p nonce))],0):=by
  unfold bj;rw [aae (by rw [bO,htot];simp only;omega),mW _ 24 (by rw [aag];have:=h.n1;simp;omega)]
  ·rw [aaK];show (p.plain.map eQ++[eQ (1028,aA nonce (bM ky p nonce))],0)=_;rw [uk hn.1]
  ·intro f hf;rcases aaP.1 hf with h1|h1
   ·exact h.f1 f h1
   ·rw [aau.1 h1];exact ⟨⟨Zs,Zs⟩,by show szN (aA nonce (bM ky p nonce)).length<=1232;omega⟩
 rw [e];unfold aE;rw [hd];simp only;rw [hf];simp
theorem vn {k:Int} {L:List Fld} {f:Fld} (h:∀ g∈L,g.1≠k) (hf:f.1=k):e9 k (L++[f])=some L.length:=by
 refine mU Zs (lS [f] h L.length (aad _)) ?_;rw [FF,List.getElem?_append_right (aad _)];simpa using hf
theorem oG {ky nonce:E7} {p:Pkt} (hk:ky.length=32) (h:Fits p nonce.length) :
  cV ky (dg p.h++aQ p.plain++dt (1028,aA nonce (bM ky p nonce)))=(⟨p.h,p.plain.map eQ,p.secret.map eQ,true⟩,0):=by
 obtain ⟨_,hfl⟩:=jq hk h;have hr:=kR hk h;have hl:=jE h;have hn:=h.n0;have ht:=h.t;have ht2:=h.t2;have hsl:=qV hk h;have hgl:=fm nonce (bM ky p nonce);have hmap:∀ g∈p.plain.map eQ,g.1≠1028:=by
  intro g hg;obtain ⟨f,hf,rfl⟩:=aa2.1 hg;exact h.a f hf
 have hfi:=vn (f:=(1028,aA nonce (bM ky p nonce))) hmap rfl;have hgd:(p.plain.map eQ++[((1028:Int),aA nonce (bM ky p nonce))]).getD (p.plain.map eQ).length (0,[])=(1028,aA nonce (bM ky p nonce)):=by
  rw [FF,List.getElem?_append_right (aad _)];simp
 have hpt:=qd (n:=nonce) (s:=bM ky p nonce) hn.1 hn.2 (by rw [hsl];omega);have htk:(dg p.h++aQ p.plain++dt (1028,aA nonce (bM ky p nonce))).take ((dg p.h++aQ p.plain++dt (1028,aA nonce (bM ky p nonce))).length-(aA nonce (bM ky p nonce)).length-4)=dg p.h++aQ p.plain:=by
  refine dV _ _ _ ?_;have hall:(dg p.h++aQ p.plain++dt (1028,aA nonce (bM ky p nonce))).length=48+bf p.plain+(8+aG nonce.length+aG (16+bf p.secret)):=by rw [aag,hl,hfl]
  rw [hl,hall,hgl,hsl];omega
 have hop:bL ky [dg p.h++aQ p.plain,nonce] (bM ky p nonce)=(aQ p.secret,0):=oP (zO hk Zo Zo) (by rw [bO];omega);have hdf:bj (aQ p.secret)=(p.secret.map eQ,0):=by
  unfold bj;rw [aae (by rw [bO];omega)];exact mW _ 24 h.n2 h.f2
 unfold cV;rw [aae Zo,hr];simp only;rw [aae Zs,hfi];simp only;rw [aae Zs,hgd];simp only;rw [hpt];simp only;rw [htk,hop];simp only;rw [aae Zs,hdf];simp
end Go.Pkt

/- Layer 22: the jars that the statements draw, as plain functions. No program. -/
namespace Go.Jar
open Go.Sha Go.Pkt Go.Oct Go.Aes Go.Lane
def ck0 (s:Nat):E7:=gE (s+1000003) 104
def ES (s k:Nat):Jar:=⟨upW s,dnW s,(ckW s k).tail,ck0 s,1,1⟩
theorem szQ {u c:E7} {k:Nat} (hu:u.length=32) (hc:c.length=104) {f:Fld} (h:f∈bg u c k):(0<=f.1/\f.1<=65535)/\f.1≠1028/\szN f.2.length<=108/\f.2.length<=104:=by
 rcases kf h with h|h|h
 ·rw [h];refine ⟨Zs,Zs,?_,?_⟩
  ·show szN u.length<=108;rw [hu];decide
  ·show u.length<=104;omega
 ·rw [h];refine ⟨Zs,Zs,?_,?_⟩
  ·show szN c.length<=108;rw [hc];decide
  ·show c.length<=104;omega
 ·rw [h];refine ⟨Zs,Zs,?_,?_⟩
  ·show szN (List.replicate 104 (0:UInt8)).length<=108;rw [aaL];decide
  ·show (List.replicate 104 (0:UInt8)).length<=104;rw [aaL];omega
theorem C6 {u c:E7} (hu:u.length=32) (hc:c.length=104) (k:Nat):bf (bg u c k)=36+108*(k+1):=by
 induction k with
 | zero =>
  have e:bf (bg u c 0)=szN u.length+szN c.length:=by simp [bg,bf]
  rw [e,hu,hc];decide
 | succ k ih =>
  rw [m6,eO,ih];show 36+108*(k+1)+szN (List.replicate 104 (0:UInt8)).length=_;rw [aaL,show szN 104=108 from by decide];omega
theorem Dl {u c:E7} (hu:u.length=32) (hc:c.length=104) (t:UInt64) {k:Nat} (hk:k<=7):Fits (kr t u c k) 16 where
 h:=nT t
 f1:=λ f hf=>⟨(szQ hu hc hf).1,aal (szQ hu hc hf).2.2.1 Zo⟩
 f2:=λ f hf=>by cases hf
 a:=λ f hf=>(szQ hu hc hf).2.1
 n1:=by show (bg u c k).length<24;rw [fB];omega
 n2:=by show 0<=24;omega
 n0:=Zo
 t:=by
  show 48+bf (bg u c k)+(8+aG 16+aG (16+bf []))<=1280;rw [C6 hu hc,show bf []=0 from rfl];unfold aG;omega
 t2:=by show bf []<=1232;rw [show bf []=0 from rfl];omega
def Er (s k:Nat) (t:UInt64) (u nn:E7):E7:=(cz (upW s) (kr t u (ck0 s) (8-k)) nn).1
end Go.Jar

/- Layer 22: what a question's fields read as. No program. -/
namespace Go.Jar
open Go.Sha Go.Pkt Go.Oct Go.Aes
theorem CM {u c:E7} {k:Nat} (hu:u.length=32) (hc:c.length=104):(bg u c k).map eQ=bg u c k:=by
 have h:∀ f∈bg u c k,eQ f=f:=λ f hf=>by
  unfold eQ;rcases kf hf with h|h|h <;> rw [h]
  ·simp only;rw [hu,show szN 32-4-32=0 from by decide];simp
  ·simp only;rw [hc,show szN 104-4-104=0 from by decide];simp
  ·simp only;rw [aaL,show szN 104-4-104=0 from by decide];simp
 calc (bg u c k).map eQ=(bg u c k).map id:=abo h
  _=_:=List.map_id _
end Go.Jar

/- Layer 22: what Answer answers. -/
namespace Go.Jar
open Go.Pkt
def jb (S:List Fld):List (E7):=(S.filter λ f=>decide (f.1=516)).map (·.2)
theorem yl {S:List Fld} {i:Nat} {y:Fld} (h:S[i]?=some y) (hy:y.1=516):jb (S.take (i+1))=jb (S.take i)++[y.2]:=by
 unfold jb;rw [abn,h];simp [List.filter_append,hy]
theorem zS {S:List Fld} {i:Nat} {y:Fld} (h:S[i]?=some y) (hy:y.1≠516):jb (S.take (i+1))=jb (S.take i):=by
 unfold jb;rw [abn,h];simp [List.filter_append,hy]
theorem yL (S:List Fld):∀ i,jb (S.take i)=(ixs 516 (S.take i) i).map λ k=>(S.getD k (0,[])).2:=by
 intro i
 induction i with
 | zero=>simp [jb,ixs]
 | succ i ih =>
  have e:ixs 516 (S.take (i+1)) i=ixs 516 (S.take i) i:=by
   unfold ixs;refine List.filter_congr λ k hk=>?_;have hk:=aaR.1 hk;have g:∀ m,k<m->((S.take m).getD k ((0:Int),([]:E7)))=S.getD k (0,[]):=λ m hm=>by
    rw [FF,FF,List.getElem?_take,aaj hm]
   rw [g (i+1) Zo,g i hk]
  have g1:(S.take (i+1)).getD i ((0:Int),([]:E7))=S.getD i (0,[]):=by
   rw [FF,FF,List.getElem?_take,aaj Zo]
  by_cases h:(S.getD i ((0:Int),([]:E7))).1=516
  ·have hi:i<S.length:=by
    rcases abe i S.length with h1|h1
    ·exact h1
    ·rw [FF,List.getElem?_eq_none h1] at h;exact absurd h Zd
   have hs:S[i]?=some S[i]:=List.getElem?_eq_getElem hi;have hd:S.getD i ((0:Int),([]:E7))=S[i]:=by rw [FF,hs];rfl
   rw [yl hs (by rw [<- hd];exact h),ih,lL (by rw [g1];exact h),e,aaK,<- hd];rfl
  ·rw [mL (by rw [g1];exact h),e,<- ih];rcases abe i S.length with h1|h1
   ·have hs:S[i]?=some S[i]:=List.getElem?_eq_getElem h1;have hd:S.getD i ((0:Int),([]:E7))=S[i]:=by rw [FF,hs];rfl
    exact zS hs (by rw [<- hd];exact h)
   ·rw [aah h1,aah Zo]
theorem yF (S:List Fld):jb S=(ixs 516 S S.length).map λ k=>(S.getD k (0,[])).2:=by
 have:=yL S S.length
 rwa [aah (aad _)] at this
def zu (L:List Fld) (u:E7):Prop:=∃ i,ixs 260 L L.length=[i]/\(L.getD i (0,[])).2=u
instance (L:List Fld) (u:E7):Decidable (zu L u) :=
 match h:ixs 260 L L.length with
 | [] => .isFalse λ ⟨i,h1,_⟩=>by rw [h] at h1;cases h1
 | [i]=>if h2:(L.getD i (0,[])).2=u then .isTrue ⟨i,h,h2⟩ else .isFalse λ ⟨k,h1,h3⟩=>by rw [h] at h1;injection h1 with h1;subst h1;exact h2 h3
 | _ :: _ :: _ => .isFalse λ ⟨i,h1,_⟩=>by rw [h] at h1;injection h1 with _ h1;cases h1
def qF (j:Jar) (u:E7)(P:Pkt × Int):(Jar × Pkt) × Int :=
 if P.2≠0 then ((bT,aP),P.2) else if P.1.h.mode≠4 then ((bT,aP),3) else if ¬ zu P.1.plain u then ((bT,aP),7)
 else if oR (jb P.1.secret)=true then ((dR j (jb P.1.secret),P.1),0) else ((bT,aP),3)
def sj (j:Jar) (u b:E7):(Jar × Pkt) × Int:=if bQ j=true/\u.length=32 then qF j u (cV j.dn b) else ((bT,aP),3)
end Go.Jar
namespace Go.Sec
open Go.RowKit
section
variable {P:Program} {fn:Func} {p p2 u n n2:Nat} {T T2:TypeId}
theorem bF (h:fn.results=#[.cell p T, .cell p2 T2, .tmp u]) (hT:RowT P T n) (hT2:RowT P T2 n2) (tmps:Array Value) (w:World)(g o:Nat) (cs:List Value)(hp:tmps.getD p undef = .pointer (some ⟨g,o,none⟩))
  (hR:Rd w (some ⟨g,o,none⟩) cs) (hn:cs.length=n) (g2 o2:Nat) (cs2:List Value)(hp2:tmps.getD p2 undef = .pointer (some ⟨g2,o2,none⟩)) (hR2:Rd w (some ⟨g2,o2,none⟩) cs2) (hn2:cs2.length=n2) (v:Value)(hv:tmps.getD u undef=v) :
  (results fn tmps).run P w = .ok (.tuple #[.agg cs.toArray, .agg cs2.toArray,v]) w:=by
 have hp':tmps[p]?.getD undef = .pointer (some ⟨g,o,none⟩):=by simpa using hp
 have hp2':tmps[p2]?.getD undef = .pointer (some ⟨g2,o2,none⟩):=by simpa using hp2
 subst hv;simp [results,h,hp',hp2',asAddr,dY hT w g o cs hR hn,dY hT2 w g2 o2 cs2 hR2 hn2]
end
end Go.Sec
namespace Go.Proofs.P9
open Go.RowKit Go.Sec Go.Oct Go.Jar Go.Pkt BigFrame
def oH (r:(Jar × Pkt) × Int) (w:World)(e:Ending) (w':World):Prop:=∃ b1 n1 d1 b2 n2 d2 b3 n3 d3 b4 n4 d4 p1 m1 k1 p2 m2 k2,e = .returned (.tuple #[.agg #[Zy b1 n1 d1, Zy b2 n2 d2, Zy b3 n3 d3, Zy b4 n4 d4, Zz Zx r.1.1.net, Zz Zx r.1.1.sent], .agg #[Zz Zx r.1.2.h.leap, Zz Zx r.1.2.h.ver, Zz Zx r.1.2.h.mode, Zz Zx r.1.2.h.strat, Zz Zx r.1.2.h.poll, Zz Zx r.1.2.h.prec, Zz Zv (n32 r.1.2.h.rd), Zz Zv (n32 r.1.2.h.rp), Zz Zv (n32 r.1.2.h.id), Zz Zw (n64 r.1.2.h.ref), Zz Zw (n64 r.1.2.h.org), Zz Zw (n64 r.1.2.h.rcv), Zz Zw (n64 r.1.2.h.tx), Zy p1 m1 k1, Zy p2 m2 k2, .bool r.1.2.guarded], Zz Zx r.2]) /\
 Sl w' b1 n1 r.1.1.up/\n1<=d1/\Sl w' b2 n2 r.1.1.dn/\n2<=d2/\Bsc w' b3 n3 r.1.1.ck/\n3<=d3/\fT w' b3/\Sl w' b4 n4 r.1.1.last/\n4<=d4/\Ib w' p1 m1 r.1.2.plain/\m1<=k1/\Ib w' p2 m2 r.1.2.secret/\m2<=k2/\Ext w w'
theorem oH.zero (w w':World)(e:Int) (hx:Ext w w'):oH ((bT,aP),e) w (.returned (.tuple #[.agg #[Zy none 0 0, Zy none 0 0, Zy none 0 0, Zy none 0 0, Zz Zx 0, Zz Zx 0], .agg #[Zz Zx 0, Zz Zx 0, Zz Zx 0, Zz Zx 0, Zz Zx 0, Zz Zx 0, Zz Zv 0, Zz Zv 0, Zz Zv 0, Zz Zw 0, Zz Zw 0, Zz Zw 0, Zz Zw 0, Zy none 0 0, Zy none 0 0, .bool false], Zz Zx e])) w' :=
 ⟨none,0,0,none,0,0,none,0,0,none,0,0,none,0,0,none,0,0,rfl,Sl.nil _ _,aad _,Sl.nil _ _,aad _,Bsc.nil _ _,aad _,fT.none _,Sl.nil _ _,aad _,Ib.nil _ _,aad _,Ib.nil _ _,aad _,hx⟩
end Go.Proofs.P9

/- Layer 22: what the statement JarRefills asks, as plain functions. No program. -/
namespace Go.Lane
open Go.Sha
def EH:List Nat:=((List.range 8).map λ i=>1000003*(i+1))++(List.range 8).map λ i=>7000000*(i+1)
end Go.Lane
namespace Go.Jar
open Go.Sha Go.Pkt Go.Oct Go.Aes Go.Lane
def frW (s n:Nat):List (E7):=(List.range n).map λ i=>gE (s+7000000*(i+1)) 104
def DV (s n:Nat):List Fld:=(frW s n).map λ b=>(516,b)
theorem sq {f:Fld} (h:f.2.length=104):eQ f=f:=by
 obtain ⟨a,b⟩:=f;have h:b.length=104:=h;unfold eQ;simp only;rw [h,show szN 104-4-104=0 from by decide];simp
theorem Bt {u:E7} (h:u.length=32):[((260:Int),u)].map eQ=[(260,u)]:=by
 show [eQ (260,u)]=_;unfold eQ;simp only;rw [h,show szN 32-4-32=0 from by decide];simp
def hR:Hdr:=⟨0,4,4,1,6, -20,0,0,0,0,3,10,20⟩
def DO (s n:Nat) (u:E7):Pkt:=⟨hR,[(260,u)],DV s n,false⟩
def E3 (s n:Nat) (u nn:E7):E7:=(cz (dnW s) (DO s n u) nn).1
def E0 (s k n:Nat):Jar:=⟨upW s,dnW s,(ckW s k).tail++frW s n,ck0 s,1,1⟩
theorem ixR (u:E7):ixs 260 [((260:Int),u)] [((260:Int),u)].length=[0]:=rfl
theorem idR {u v:E7}:zu [((260:Int),u)] v ↔ u=v:=by
 constructor
 ·rintro ⟨i,h1,h2⟩;rw [ixR] at h1;injection h1 with h1
  subst h1;exact h2
 ·rintro rfl;exact ⟨0,ixR u,rfl⟩
end Go.Jar

/- Layers 22 and 26 as plain functions: a question of a jar, and what a server answers it. No program. -/
namespace Go.Tsrv
open Go.Oct Go.Pkt Go.Cook Go.Jar Go.Aes
theorem Dg {f:Fld} (h:f.2.length=32):eQ f=f:=by
 obtain ⟨a,b⟩:=f;have h:b.length=32:=h;unfold eQ;simp only;rw [h,show szN 32-4-32=0 from by decide];simp
theorem CM {u c:E7} (hu:u.length=32) (hc:c.length=104) (k:Nat):(bg u c k).map eQ=bg u c k:=by
 refine (abo λ f hf=>?_).trans (List.map_id _);rcases kf hf with h|h|h
 ·rw [h];exact Dg hu
 ·rw [h];exact sq hc
 ·rw [h];exact sq (by show (List.replicate 104 (0:UInt8)).length=104;rw [aaL])
def iX (up:E7)(t:UInt64) (u c:E7)(k:Nat) (nn:E7):E7:=(cz up (kr t u c k) nn).1
theorem iZ {up u c nn:E7} (t:UInt64) {k:Nat} (hup:up.length=32) (hu:u.length=32) (hc:c.length=104) (hn:nn.length=16) (hk:k<=7) :
  cz up (kr t u c k) nn=(iX up t u c k nn,0)/\(iX up t u c k nn).length=124+108*(k+1) /\
  aE (iX up t u c k nn)=(⟨bW t,bg u c k++[(1028,aA nn (bM up (kr t u c k) nn))],[],false⟩,0)/\cV up (iX up t u c k nn)=(⟨bW t,bg u c k,[],true⟩,0):=by
 have hf:=Dl hu hc t hk;rw [<- hn] at hf;have hp:=jq hup hf;have e1:iX up t u c k nn=_:=congrArg Prod.fst hp.1;have h3:=hp.2;have h4:=jE hf;have h5:=kR hup hf;have h6:=oG hup hf;have e:(kr t u c k).plain.map eQ=bg u c k:=CM hu hc k;rw [e] at h5 h6;refine ⟨?_,?_,?_,?_⟩
 ·rw [e1];exact hp.1
 ·rw [e1];simp only;rw [aag,h3,h4,hn];show 48+bf (bg u c k)+(8+aG 16+aG (16+bf []))=_;rw [C6 hu hc,show bf []=0 from rfl];unfold aG;omega
 ·rw [e1];exact h5
 ·rw [e1];exact h6
theorem zi {j:Jar} {c:E7} {rest:List (E7)} (hv:bQ j=true) (hc:j.ck=c :: rest) (hs:j.sent≠1099511627776) (t:UInt64) {u nn:E7} (hu:u.length=32) (hn:nn.length=16) :
  lQ j t u nn=(({ j with last:=c,ck:=rest,sent:=j.sent+1 },iX j.up t u c (7-rest.length) nn),0)/\j.up.length=32/\j.dn.length=32/\c.length=104/\rest.length<=7:=by
 have hh:=hv;unfold bQ at hh;rw [aaz,aaz] at hh;obtain ⟨h1,h2,_⟩:=hh;have h1:jz j:=aaV h1;have hl:=h1.2.1;rw [hc,aaM] at hl;have hc4:c.length=104:=by simpa using aaw.1 h2 c (by rw [hc];exact aa4 ..)
 have ht:df j=(({ j with last:=c,ck:=rest,sent:=j.sent+1 },c),0):=by
  unfold df;rw [aaj hv,aae (by rw [hc];simp),aae hs,hc];rfl
 have hp:=(iZ t h1.1.1 hu hc4 hn (show 7-rest.length<=7 from Zo)).1;refine ⟨?_,h1.1.1,h1.1.2,hc4,Zo⟩;unfold lQ;rw [aaj ⟨hv,hu,hn⟩,ht];simp only;rw [aaj trivial,hp];rfl
theorem uG {u c g:E7} (hu:u.length=32) (hc:c.length=104) {k:Nat} (hk:k<=7):eA (bg u c k++[(1028,g)])=true:=by
 have hl:(bg u c k++[((1028:Int),g)]).length=3+k:=by rw [aag,fB];simp;omega
 have e:bg u c k++[((1028:Int),g)]=(260,u) :: (516,c) :: (List.replicate k ((772:Int),List.replicate 104 (0:UInt8))++[(1028,g)]):=by simp [bg]
 have hm:nN (bg u c k++[((1028:Int),g)])=List.replicate k ((772:Int),List.replicate 104 (0:UInt8)):=by
  unfold nN;rw [hl,e,show 3+k-3=k by omega];simp
 have hlast:(bg u c k++[((1028:Int),g)]).getD ((bg u c k++[((1028:Int),g)]).length-1) (0,[])=(1028,g):=by
  rw [FF,aag,List.getElem?_append_right Zs];simp
 have a1:decide (3<=3+k/\3+k<=10)=true:=aav Zo;have a2:isF 260 32 ((260:Int),u)=true:=by unfold isF;exact aav ⟨rfl,hu⟩
 have a3:isF 516 104 ((516:Int),c)=true:=by unfold isF;exact aav ⟨rfl,hc⟩
 have a5:(List.replicate k ((772:Int),List.replicate 104 (0:UInt8))).all (isF 772 104)=true:=aaw.2 λ x hx=>by
  rw [abB hx];unfold isF;exact aav ⟨rfl,aaL ..⟩
 unfold eA;rw [hm,hlast,hl,e,a1,a5];simp only [List.getD_cons_zero,List.getD_cons_succ];rw [a2,a3];rfl
theorem qy {up u c nn:E7} (t:UInt64) {k:Nat} (hup:up.length=32) (hu:u.length=32) (hc:c.length=104) (hn:nn.length=16) (hk:k<=7):ew (iX up t u c k nn)=2:=by
 obtain ⟨_,_,h3,_⟩:=iZ t hup hu hc hn hk;unfold ew;rw [h3];simp only;rw [aae (by simp [bW]),aae Zs,aaj (uG hu hc hk)]
def yX (s:Srv) (u:E7)(o:Opened) (tq r t:UInt64) (al:Bool) (N:List E7) (k:Nat):Pkt:=⟨aI s (bW tq) r t al,[(260,u)],if al=true then gF s o N (k+1) else [],false⟩
theorem xN {s:Srv} {o:Opened} {up u c nn:E7} (tq r t:UInt64) {k:Nat} (hup:up.length=32) (hu:u.length=32) (hc:c.length=104) (hn:nn.length=16) (hk:k<=7) (ho:cW s.ring c=o) (h0:o.err=0) (hu2:o.up=up) (al:Bool) (N:List E7) :
  jW s (aE (iX up tq u c k nn)).1 (iX up tq u c k nn) r t al N=((cz o.down (yX s u o tq r t al N k) (N.getD 0 [])).1,true):=by
 obtain ⟨_,_,h3,h4⟩:=iZ tq hup hu hc hn hk;have hck:pY (aE (iX up tq u c k nn)).1=c:=by rw [h3];simp [pY,bg]
 have hout:pS s (aE (iX up tq u c k nn)).1 o r t al N=yX s u o tq r t al N k:=by
  rw [h3];unfold pS yX;simp only;have e1:(bg u c k++[((1028:Int),aA nn (bM up (kr tq u c k) nn))]).take 1=[(260,u)]:=by simp [bg]
  have e2:(bg u c k++[((1028:Int),aA nn (bM up (kr tq u c k) nn))]).length-2=k+1:=by rw [aag,fB];simp;omega
  rw [e1,e2]
 unfold jW;rw [hck,ho,hu2,h4,aae (by simp [h0]),hout]
def yy (str:Int) (tq r t:UInt64):Hdr:=⟨0,4,4,str,6, -20,0,0,0,0,tq,r,t⟩
def sX (tq r t:UInt64):Hdr:=⟨0,4,4,0,6, -20,0,0,kB,0,tq,r,t⟩
theorem xU {s:Srv} (tq r t:UInt64) (h0:0<=s.str) (h1:s.str<=255):aI s (bW tq) r t true=yy s.str tq r t:=by
 unfold aI iY yy;rw [aaj rfl,aae (not_not_intro (nT tq)),aae (by simp [bW]),aae Zo];rfl
theorem yR {s:Srv} (tq r t:UInt64):aI s (bW tq) r t false=sX tq r t:=by
 unfold aI aY iY sX;rw [aae Zs,aae (not_not_intro (nT tq)),aae (by simp [bW]),aae Zo];rfl
theorem _root_.z44q63{p:Prop}(h:p:=by
 rw [FF,List.getElem?_eq_getElem Zo,abq];exact hN _ (aaB _)):p:=h
theorem zv {s:Srv} {o:Opened} {N:List (E7)} {n:Nat} (hr:aM s.ring=true) (ha:0<=o.algo/\o.algo<=65535) (hu:o.up.length=32) (hdn:o.down.length=32) (hN:∀ x∈N,x.length=16) (hl:n+1<=N.length) {f:Fld} (h:f∈gF s o N n):f.1=516/\f.2.length=104:=by
 unfold gF at h;obtain ⟨i,hi,rfl⟩:=aa2.1 h;have hi:=aaR.1 hi;have hg:(N.getD (1+i) []).length=16:=by
  exact z44q63
 obtain ⟨v1,_,v3,_⟩:=bm.1 hr;obtain ⟨k0,k1,k2⟩:=v1 _ (rQ v3);refine ⟨rfl,?_⟩;show (bV s.ring o.algo o.up o.down (N.getD (1+i) [])).1.length=104;unfold bV;rw [aae (by rw [hr];simp),aae Zo,aae Zo,aae Zo];exact (ig (m:=hd s.ring) (algo:=o.algo) k0 k1 k2 hg hu hdn).1
theorem vq {L:List Fld} (h:∀ f∈L,f.2.length=104):bf L=108*L.length:=by
 induction L with
 | nil=>rfl
 | cons f L ih =>
  have h1:=h f (aa4 ..);have h2:=ih λ g hg=>h g (List.mem_cons_of_mem _ hg);show szN f.2.length+bf L=_;rw [h1,h2,aaM,show szN 104=108 from by decide];omega
theorem yt (s:Srv) (o:Opened) (N:List E7) (k:Nat):(gF s o N k).length=k:=by unfold gF;simp
theorem Da {H:Hdr} {u:E7} {S:List Fld} (hH:okH H) (hu:u.length=32) (hS:∀ f∈S,f.1=516/\f.2.length=104) (hl:S.length<=8):Fits ⟨H,[(260,u)],S,false⟩ 16 where
 h:=hH
 f1:=λ f hf=>by
  rw [aau.1 hf];exact ⟨⟨Zs,Zs⟩,by show szN u.length<=1232;rw [hu];decide⟩
 f2:=λ f hf=>by
  obtain ⟨h1,h2⟩:=hS f hf;rw [h1,h2];exact ⟨⟨Zs,Zs⟩,Zd⟩
 a:=λ f hf=>by rw [aau.1 hf];simp
 n1:=by show 1<24;omega
 n2:=by show S.length<=24;omega
 n0:=Zo
 t:=by
  show 48+bf [(260,u)]+(8+aG 16+aG (16+bf S))<=1280;rw [vq λ f hf=>(hS f hf).2,show bf [((260:Int),u)]=szN u.length by simp [bf],hu,show szN 32=36 from by decide];unfold aG;omega
 t2:=by show bf S<=1232;rw [vq λ f hf=>(hS f hf).2];omega
theorem Ef {ky u nn:E7} {H:Hdr} {S:List Fld} (hk:ky.length=32) (hH:okH H) (hu:u.length=32) (hn:nn.length=16) (hS:∀ f∈S,f.1=516/\f.2.length=104) (hl:S.length<=8) :
  ∃ b,cz ky ⟨H,[(260,u)],S,false⟩ nn=(b,0)/\b.length=124+108*S.length/\cV ky b=(⟨H,[(260,u)],S,true⟩,0)/\aE b=(⟨H,[(260,u),(1028,aA nn (bM ky ⟨H,[(260,u)],S,false⟩ nn))],[],false⟩,0):=by
 have hf:=Da hH hu hS hl;obtain ⟨p,hpp⟩:∃ p:Pkt,(⟨H,[(260,u)],S,false⟩:Pkt)=p:=⟨_,rfl⟩;have f1:p.h=H:=by rw [<- hpp]
 have f2:p.plain=[(260,u)]:=by rw [<- hpp]
 have f3:p.secret=S:=by rw [<- hpp]
 rw [hpp] at hf ⊢;clear hpp;rw [<- hn] at hf;have hp:=jq hk hf;have h3:=hp.2;have h4:=jE hf;have h5:=kR hk hf;have h6:=oG hk hf;have tp:bf [((260:Int),u)]=36:=by rw [show bf [((260:Int),u)]=szN u.length by simp [bf],hu];decide
 have a1:[((260:Int),u)].map eQ=[(260,u)]:=Bt hu;have a2:S.map eQ=S:=(abo λ f hf=>sq (hS f hf).2).trans (List.map_id _);have a3:bf S=108*S.length:=vq λ f hf=>(hS f hf).2;refine ⟨_,hp.1,?_,?_,?_⟩
 ·rw [aag,h3,h4,f2,f3,tp,hn,a3];unfold aG;omega
 ·rw [f1,f2,f3,a1,a2] at h6;rw [f1,f2];exact h6
 ·rw [f1,f2,a1] at h5;rw [f1,f2];exact h5
theorem zW {S:List Fld} (h:∀ f∈S,f.1=516):jb S=S.map (·.2):=by
 unfold jb;rw [List.filter_eq_self.2 λ f hf=>by simpa using h f hf]
theorem BR {j:Jar} {b u:E7} {H:Hdr} {S:List Fld} (hj:bQ j=true) (hu:u.length=32) (hm:H.mode=4) (hb:cV j.dn b=(⟨H,[(260,u)],S,true⟩,0)) (hS:∀ f∈S,f.1=516/\f.2.length=104) :
  sj j u b=((dR j (S.map (·.2)),⟨H,[(260,u)],S,true⟩),0):=by
 unfold sj;rw [aaj ⟨hj,hu⟩,hb];unfold qF;rw [aae Zs,aae (by simp [hm]),aae (not_not_intro (idR.2 rfl))];simp only;rw [zW λ f hf=>(hS f hf).1,aaj];unfold oR;exact aaw.2 λ x hx=>by
  obtain ⟨f,hf,rfl⟩:=aa2.1 hx;simpa using (hS f hf).2
end Go.Tsrv

/- Layer 26: plain questions at one instant. Plain functions. -/
namespace Go.Tsrv
open Go.Oct Go.Pkt Go.Cook Go.Aes
def zd (t:UInt64):E7:=dg (bW t)
theorem yI (t:UInt64):(zd t).length=48:=dB _
theorem AJ {str:Int} (h0:0<=str) (h1:str<=255) (tq r t:UInt64):okH (yy str tq r t):=by
 unfold okH yy;simp only;omega
theorem ya (tq r t:UInt64):okH (sX tq r t):=by
 unfold okH sX;simp only;omega
def Ek (bu i:Nat):Int:=if i=0 then 0 else 50+1000*(min i bu:Nat)
end Go.Tsrv

/- Layer 26: no answer is longer than its question. Plain functions. -/
namespace Go.Tsrv
open Go.Oct Go.Pkt Go.Cook Go.Aes
theorem kU {d n s:E7} (h:cZ d=some (n,s)):16<=n.length/\d.length=4+aG n.length+aG s.length:=by
 unfold cZ at h;simp only at h;split at h
 ·rename_i hc;obtain ⟨h1,h2,h3,h4⟩:=hc;injection h with h
  injection h with e1 e2
  rw [<- h4];have hl:=fm ((d.drop 4).take (bR (d.take 2))) ((d.drop (4+aG (bR (d.take 2)))).take (bR ((d.drop 2).take 2)));rw [e1,e2] at hl;have e3:n.length=bR (d.take 2):=by
   rw [<- e1,aat,aaJ];unfold aG at h3;omega
  rw [e1,e2];exact ⟨Zo,hl⟩
 ·cases h
end Go.Tsrv

/- Layer 26: what a server answers the question of a jar, and what the jar makes of it. Plain functions. -/
namespace Go.Tsrv
open Go.Oct Go.Pkt Go.Cook Go.Jar Go.Aes
def uS (s:Srv) (tq r t:UInt64) (al:Bool):Hdr:=if al=true then yy s.str tq r t else sX tq r t
def jF (s:Srv) (o:Opened) (N:List E7) (k:Nat) (al:Bool):List Fld:=if al=true then gF s o N (k+1) else []
theorem Ak {s:Srv} (h0:0<=s.str) (h1:s.str<=255) (tq r t:UInt64) (al:Bool):okH (uS s tq r t al)/\(uS s tq r t al).mode=4/\aI s (bW tq) r t al=uS s tq r t al:=by
 cases al
 ·exact ⟨ya _ _ _,rfl,yR _ _ _⟩
 ·exact ⟨AJ h0 h1 _ _ _,rfl,xU _ _ _ h0 h1⟩
theorem xW {s:Srv} (h:cy s=0):aM s.ring=true/\1<=s.str/\s.str<=255:=by
 unfold cy at h;split at h
 ·cases h
 ·rename_i hv;split at h
  ·cases h
  ·rename_i h2;exact ⟨by simpa using hv,Zo,Zo⟩
theorem Am {s:Srv} {paid now p2:Int} {al:Bool} (hs:cy s=0) (hal:dC paid s.ev s.bu now=((p2,al),0)) (q:E7)(r t:UInt64) {N:List (E7)} (hN:∀ x∈N,x.length=16) (h9:9<=N.length) :
  ml s paid now q r t N=(yx s paid p2 al q r t N,0):=by
 unfold ml;rw [aae (by rw [hs];simp),hal,aae Zs,aae ?_,aae Zo];rw [aaw.2 λ x hx=>by simpa using hN x hx];simp
theorem Ao {s:Srv} {paid now p2:Int} {al:Bool} {o:Opened} {up u c nn:E7} (tq r t:UInt64) {k:Nat} (hup:up.length=32) (hu:u.length=32) (hc:c.length=104) (hn:nn.length=16) (hk:k<=7) (hs:cy s=0) (hal:dC paid s.ev s.bu now=((p2,al),0))
  {N:List (E7)} (hN:∀ x∈N,x.length=16) (h9:9<=N.length) (ho:cW s.ring c=o) (h0:o.err=0) (huo:o.up=up) (hdo:o.down.length=32) (ha:0<=o.algo/\o.algo<=65535) :
  ∃ b,ml s paid now (iX up tq u c k nn) r t N=((b,p2),0)/\b.length=124+108*(jF s o N k al).length /\
   (∀ j:Jar,bQ j=true->j.dn=o.down->sj j u b=((dR j ((jF s o N k al).map (·.2)),⟨uS s tq r t al,[(260,u)],jF s o N k al,true⟩),0)) /\
   (jF s o N k al).length=(if al=true then k+1 else 0)/\(∀ f∈jF s o N k al,f.1=516/\f.2.length=104):=by
 obtain ⟨hv,s0,s1⟩:=xW hs;obtain ⟨g1,g2,g3⟩:=Ak (s:=s) Zo s1 tq r t al;have hS:∀ f∈jF s o N k al,f.1=516/\f.2.length=104:=λ f hf=>by
  unfold jF at hf;split at hf
  ·exact zv hv ha (by rw [huo];exact hup) hdo hN Zo hf
  ·cases hf
 have hl:(jF s o N k al).length=(if al=true then k+1 else 0):=by
  unfold jF;split
  ·exact yt _ _ _ _
  ·rfl
 have hl8:(jF s o N k al).length<=8:=by
  rw [hl];split <;> omega
 have hN0:(N.getD 0 []).length=16:=by
  exact z44q63
 obtain ⟨b,e1,e2,e3,e4⟩:=Ef (nn:=N.getD 0 []) hdo g1 hu hN0 hS hl8;refine ⟨b,?_,e2,λ j hj hd=>?_,hl,hS⟩
 ·rw [Am hs hal _ _ _ hN h9];unfold yx;rw [qy tq hup hu hc hn hk,aae Zd,aaj rfl,xN tq r t hup hu hc hn hk ho h0 huo al N];have ho:yX s u o tq r t al N k=⟨uS s tq r t al,[(260,u)],jF s o N k al,false⟩:=by
   unfold yX;rw [g3];rfl
  rw [ho];simp only;rw [e1,aaj trivial]
 ·exact BR hj hu g2 (by rw [hd];exact e3) hS
end Go.Tsrv

/- The walks of layer 22 of the document: Take. -/
namespace Go.Proofs.P9
open Go.RowKit Go.Sec Go.Oct Go.Jar BigFrame
theorem _root_.z44q78{p:Prop}(h:p:=by
 have:=q;unfold bQ at this;rw [aaz] at this;exact aaV this.1):p:=h
theorem uZ (a1 a2 a3 a4:E8)(n1 c1 n2 c2 n3 c3 n4 c4:Nat) (j:Jar) (w:World)(h1:Sl w a1 n1 j.up) (m1:n1<=1000000) (h2:Sl w a2 n2 j.dn) (m2:n2<=1000000) (h3:Bsc w a3 n3 j.ck) (hc3:n3<=c3) (hn3:n3<=100000) (hb3:∀ x∈j.ck,x.length<=1000000) (h4:Sl w a4 n4 j.last) (m4:n4<=1000000) (hs0:0<=j.sent\/bQ j=false) :
  Calls Tryz.prog 100 #[.agg #[Zy a1 n1 c1, Zy a2 n2 c2, Zy a3 n3 c3, Zy a4 n4 c4, Zz Zx j.net, Zz Zx j.sent]] w (qP (df j) w):=by
 have hl3:=h3.len;have hv:=λ W H1 H2 H3 H4=>ic a1 a2 a3 a4 n1 c1 n2 c2 n3 c3 n4 c4 j W H1 H2 H3 hc3 Zo H4;have hcl:=λ W H1 H2 H3 H4=>nX a1 a2 a3 a4 n1 c1 n2 c2 n3 c3 n4 c4 j W H1 m1 H2 m2 H3 hn3 hb3 H4 m4;obtain ⟨r,hr⟩:∃ r,df j=r:=⟨_,rfl⟩;rw [hr];replace hr:=FC hr;have hl3:=h3.len
 go_enter Tryz.func100,Tryz.ntmps100
 go_wp2_with fail;refine vx ?_;intro W hW;have hE:Ext w W:=by rw [hW];exact eX
 have hB:Blk W w.heap.size 57 [Zy a1 n1 c1, Zy a2 n2 c2, Zy a3 n3 c3, Zy a4 n4 c4, Zz Zx j.net, Zz Zx j.sent]:=by rw [hW];exact bK
 have hR:Blk W (w.heap.size+1) 57 [Zy none 0 0, Zy none 0 0, Zy none 0 0, Zy none 0 0, Zz Zx 0, Zz Zx 0]:=by rw [hW];exact bK
 clear hW;(with_reducible refine (hv _ (h1.ext hE) (h2.ext hE) (h3.ext hE) (h4.ext hE)).mono ?_);rintro e w0 ⟨rfl,hx0⟩;have hE:=hE.trans hx0;have hB:=hB.extB hx0;have hR:=hR.extB hx0;clear hx0 hv;haveI:=hB.blt;haveI:=hR.blt;have f1:=hB.cell? 2 rfl;have f5:=hB.cell? 5 rfl;cases q:bQ j
 ·have er:=FC (show r=((bT,[]),3) by rw [<- hr.out];unfold df;rw [q];rfl);clear hs0 hr
  go_wp2_with (first
   | (refine aa RJ6 rfl _ _ rfl (w.heap.size+1) 0 rfl _ rfl 57 _ hR rfl Zs oC ?_;intro V hV hMV)
   | fail)
  refine aaa (aD Tryz.results100 RJ6 _ _ (w.heap.size+1) 0 _ rfl hV.rd rfl (Zy none 0 0) (Zz Zx 3) rfl rfl) rfl ?_;rw [er.out];exact qP.zero _ _ _ (E9 hE (hMV.below Zo hE.size))
 ·have hhd:jz j:=by
   exact z44q78
  obtain ⟨-, -, -, -, -,hsn0,hsn1⟩:=hhd;by_cases q0:n3=0
  ·have er:=FC (show r=((bT,[]),10) by rw [<- hr.out];unfold df;rw [q,aaj rfl,aaj Zo]);have q0i:((n3:Int) == 0)=true:=by rw [aa5];omega
   clear hs0 hr
   go_wp2_with (first
    | (refine aa RJ6 rfl _ _ rfl (w.heap.size+1) 0 rfl _ rfl 57 _ hR rfl Zs oC ?_;intro V hV hMV)
    | fail)
   refine aaa (aD Tryz.results100 RJ6 _ _ (w.heap.size+1) 0 _ rfl hV.rd rfl (Zy none 0 0) (Zz Zx 10) rfl rfl) rfl ?_;rw [er.out];exact qP.zero _ _ _ (E9 hE (hMV.below Zo hE.size))
  ·have q0i:((n3:Int) == 0)=false:=by rw [aar];omega
   by_cases qs:j.sent=1099511627776
   ·have er:=FC (show r=((bT,[]),7) by rw [<- hr.out];unfold df;rw [q,aaj rfl,aae Zo,aaj qs]);clear hs0 q0 hr
    go_wp2_with (first
     | (refine aa RJ6 rfl _ _ rfl (w.heap.size+1) 0 rfl _ rfl 57 _ hR rfl Zs oC ?_;intro V hV hMV)
     | fail)
    refine aaa (aD Tryz.results100 RJ6 _ _ (w.heap.size+1) 0 _ rfl hV.rd rfl (Zy none 0 0) (Zz Zx 7) rfl rfl) rfl ?_;rw [er.out];exact qP.zero _ _ _ (E9 hE (hMV.below Zo hE.size))
   ·have er:=FC (show r=(({ j with last:=j.ck.headD [],ck:=j.ck.tail,sent:=j.sent+1 },j.ck.headD []),0) by rw [<- hr.out];unfold df;rw [q,aaj rfl,aae Zo,aae qs]);have qsi:(j.sent == 1099511627776)=false:=by rw [aar];exact qs
    clear hs0 q0 hr
    go_wp2_with (first
     | (refine af RJ6 rfl _ rfl w.heap.size 0 rfl _ hB.rd rfl ?_)
     | fail)
    (with_reducible refine (hcl _ (h1.ext hE) (h2.ext hE) (h3.ext hE) (h4.ext hE)).mono ?_);rintro e w1 ⟨b1,d1,b2,d2,b3,d3,b4,d4,rfl,o1,o2,⟨B,hB0,hBs,o3⟩,o4,hx1⟩;have hR:=hR.extB hx1;have hE0:=hE;have hE:=hE.trans hx1;have hlt:=hR.lt;clear hcl hx1 hB f1 f5
    go_wp2_with (first
     | (refine ag RJ6 rfl rfl _ _ rfl rfl rfl rfl (by simp [Act.put]) _ rfl Zs rfl oC ?_;intro x hz _)
     | fail)
    have hxx:Ext w1 (w1.ext x):=FE _ _;have hR:=hR.extB hxx;have hE:=hE.trans hxx;have o1:=o1.ext hxx;have o2:=o2.ext hxx;have o3:=o3.ext hxx;have o4:=o4.ext hxx;have o3c:=o3.le;obtain ⟨g5,hg5⟩:∃ g,g=w1.heap.size:=⟨_,rfl⟩;rw [<- hg5] at hz hlt ⊢;clear hxx hg5;generalize w1.ext x=W1 at *;obtain ⟨y,L,hyL⟩:∃ y L,j.ck=y :: L:=by
     cases hj:j.ck with
     | nil=>rw [hj] at hl3;exact absurd hl3.symm (by simpa using λ h=>by simp [h] at q0i)
     | cons y L=>exact ⟨y,L,rfl⟩
    rw [hyL] at o3 hl3;have hb3w:∀ b o,b3=some ⟨b,o,none⟩->w.heap.size<=b:=λ b o h=>by
     have hb:=o3.base h;have:=hE0.size;omega
    obtain ⟨b0,o0,a',n',c',rfl,hb0,hcell,hc',hS⟩:=o3.bsc.at 0 (by rw [aaM] at hl3;omega);have hb0w:w.heap.size<=b0:=hb3w _ _ rfl;clear hb3w hE0;haveI:=hz.blt;haveI:=hb0;have f2:=hz.cell? 2 rfl;have f3:=hz.cell? 3 rfl;have f5:=hz.cell? 5 rfl;have z5:=hz.free 5;have z2:=hz.free 2;have z3:=hz.free 3;have n0:0<n3:=by rw [aaM] at hl3;omega
    have n0i:(0:Int)<(n3:Int):=Zo;have n1i:(1:Int)<=(n3:Int):=Zo;have n1d:(1:Int)<=(d3:Int):=Zo;have hcell0:W1.cell? ⟨b0,o0,none⟩=some (Zy a' n' c'):=by simpa using hcell
    have hsi:j.sent+1<=1099511627776:=Zo;have hyl:y.length<=1000000:=hb3 y (by rw [hyL];exact aa4 ..);have hS:Sl W1 a' n' y:=hS;have hyn:=hS.len;have hny:n'<=1000000:=Zo;replace hyn:=FC hyn;have erf:=er.out;rw [hyL] at erf;replace er:=FC erf;by_cases hd:d3=1
    ·subst hd;obtain rfl:n3=1:=Zo;simp only [Act.put]
     go_region
     all_goals
      go_wp2_with fail;refine cU ?_;intro V hV;have hM:Mut g5 W1 V:=by rw [hV];exact ((((Mut.refl _ _).setCell 3 _).setCell 2 _).setCell 5 _).drew
      have hzV:Blk V g5 57 [Zy b1 n1 d1, Zy b2 n2 d2, Zy (some ⟨b0,o0,none⟩) 0 0, Zy a' n' c', Zz Zx j.net, Zz Zx (j.sent+1)]:=by
       rw [hV];exact (((hz.set 3 (Zy a' n' c')).set 2 (Zy (some ⟨b0,o0,none⟩) 0 0)).set 5 (Zz Zx (j.sent+1))).extB (Ext.drew (FD _))
      clear hV;have hRV:=Blk.turn hM hR Zo;have o1:=o1.mutT hz Zd hM;have o2:=o2.mutT hz Zd hM;have o3:=o3.mut hz Zd Zs hM;have hS:=hS.mut hz Zs hM;have hEV:Ext w V:=E9 hE (hM.below (by have:=hE.size;omega) hE.size);clear hM hR hE hz f2 f3 f5 z5 z2 z3 hcell hcell0 o4;haveI:=hzV.blt;have f3:=hzV.cell? 3 rfl;refine R2.ae 5 [[],[],[1],[1,2],[1,2,3],[0,1,2,3,4],[0,1,2,3,4,5],[0,1,2,3,4,5,6]] [] (λ h=>(h rfl).elim) Zk Zk Zk Zk Zk ?_;simp only [q8q,q9q,q10q,q11q,q12q,q13q];(refine R2.ao RJ6 _ rfl (λ _=>rfl) g5 0 (λ _=>by simp [go_sem]) _ hzV.rd rfl ?_);(repeat (refine R2.av ?_;(try simp only [Act.put,q0q,q1q,q2q])));(refine R2.ai (λ p => .slice (p 0).1 1 1) (λ p w''=>Bss w'' (p 0).1 1 ([y])) (λ p w w' h hx=>h.ext hx) (λ us w' hx hf=>⟨rfl,?_⟩) ?_;(unfold gives;simp [go_sem,execOp];exact ⟨λ _=>(some ⟨w'.heap.size,0,none⟩,0),rfl,FA _ _,gV (hS.ext hx) _⟩));(refine R2.ai (λ p => .slice (p 0).1 n' (p 0).2) (λ p w''=>Own w'' 0 (p 0).1 n' (p 0).2 y) (λ p w w' h hx=>h.ext hx) (λ us w' hx hf=>⟨rfl,?_⟩) ?_;(unfold gives;simp [go_sem,execOp];exact az (aak _) (dM _ n' y hyn.out _ (by exact (hf _ (aac _ (aab _)) rfl)) hny)));(refine R2.aU ?_;intro us x hx hf);obtain ⟨-,hf⟩:=hf;obtain ⟨a9,ha9⟩:∃ a,(us 4 0).1=a:=⟨_,rfl⟩;obtain ⟨c9,hc9⟩:∃ a,(us 4 0).2=a:=⟨_,rfl⟩;rw [ha9,hc9] at hf ⊢;clear ha9 hc9;have hxx:Ext V (V.ext x):=FE _ _;have o1:=o1.ext hxx;have o2:=o2.ext hxx;have o3:=o3.ext hxx;have hS:=hS.ext hxx;have hRV:=hRV.extB hxx;have hEV:=hEV.trans hxx;clear hzV f3 hxx;generalize V.ext x=V2 at *;haveI:=hRV.blt
      go_wp2_with (first
       | (refine aa RJ6 rfl _ _ rfl (w.heap.size+1) 0 rfl _ rfl 57 _ hRV rfl Zs oC ?_;intro w9 hB9 hM9)
       | fail)
      refine aaa (aD Tryz.results100 RJ6 _ _ (w.heap.size+1) 0 _ rfl hB9.rd rfl (Zy a9 n' c9) (Zz Zx 0) rfl rfl) rfl ?_;rw [er.out];have hty:fT w9 (some ⟨b0,o0,none⟩):=λ b o h=>(o3.mut hRV Zd Zs hM9).typ3 b o0 (by injection h with h;injection h with h _;rw [h]);have o3:=(o3.mut hRV Zd Zs hM9).bsc;exact ⟨b1,n1,d1,b2,n2,d2,(some ⟨b0,o0,none⟩),0,0,a',n',c',a9,n',c9,rfl,o1.mutT hRV Zd hM9,o2.mutT hRV Zd hM9,(by have hL:=List.length_eq_zero_iff.1 (show L.length=0 by rw [aaM] at hl3;omega);subst hL;exact Bsc.nil _ _),Zo,hS.mut hRV Zs hM9,hc',(hf.mono (aak _)).mutT hRV Zd hM9,(λ b o h=>by injection h with h;injection h with h _;omega),hty,E9 hEV (hM9.below Zo hEV.size)⟩
    ·clear q0i;simp only [Act.put]
     go_region
     all_goals
      go_wp2_with fail;refine cU ?_;intro V hV;have hM:Mut g5 W1 V:=by rw [hV];exact ((((Mut.refl _ _).setCell 3 _).setCell 2 _).setCell 5 _).drew
      have hzV:Blk V g5 57 [Zy b1 n1 d1, Zy b2 n2 d2, Zy (some ⟨b0,o0+1,none⟩) (n3-1) (d3-1), Zy a' n' c', Zz Zx j.net, Zz Zx (j.sent+1)]:=by
       rw [hV];exact (((hz.set 3 (Zy a' n' c')).set 2 (Zy (some ⟨b0,o0+1,none⟩) (n3-1) (d3-1))).set 5 (Zz Zx (j.sent+1))).extB (Ext.drew (FD _))
      clear hV;have hRV:=Blk.turn hM hR Zo;have o1:=o1.mutT hz Zd hM;have o2:=o2.mutT hz Zd hM;have o3:=o3.mut hz Zd Zs hM;have hS:=hS.mut hz Zs hM;have hEV:Ext w V:=E9 hE (hM.below (by have:=hE.size;omega) hE.size);clear hM hR hE hz f2 f3 f5 z5 z2 z3 hcell hcell0 o4;haveI:=hzV.blt;have f3:=hzV.cell? 3 rfl;refine R2.ae 5 [[],[],[1],[1,2],[1,2,3],[0,1,2,3,4],[0,1,2,3,4,5],[0,1,2,3,4,5,6]] [] (λ h=>(h rfl).elim) Zk Zk Zk Zk Zk ?_;simp only [q8q,q9q,q10q,q11q,q12q,q13q];(refine R2.ao RJ6 _ rfl (λ _=>rfl) g5 0 (λ _=>by simp [go_sem]) _ hzV.rd rfl ?_);(repeat (refine R2.av ?_;(try simp only [Act.put,q0q,q1q,q2q])));(refine R2.ai (λ p => .slice (p 0).1 1 1) (λ p w''=>Bss w'' (p 0).1 1 ([y])) (λ p w w' h hx=>h.ext hx) (λ us w' hx hf=>⟨rfl,?_⟩) ?_;(unfold gives;simp [go_sem,execOp];exact ⟨λ _=>(some ⟨w'.heap.size,0,none⟩,0),rfl,FA _ _,gV (hS.ext hx) _⟩));(refine R2.ai (λ p => .slice (p 0).1 n' (p 0).2) (λ p w''=>Own w'' 0 (p 0).1 n' (p 0).2 y) (λ p w w' h hx=>h.ext hx) (λ us w' hx hf=>⟨rfl,?_⟩) ?_;(unfold gives;simp [go_sem,execOp];exact az (aak _) (dM _ n' y hyn.out _ (by exact (hf _ (aac _ (aab _)) rfl)) hny)));(refine R2.aU ?_;intro us x hx hf);obtain ⟨-,hf⟩:=hf;obtain ⟨a9,ha9⟩:∃ a,(us 4 0).1=a:=⟨_,rfl⟩;obtain ⟨c9,hc9⟩:∃ a,(us 4 0).2=a:=⟨_,rfl⟩;rw [ha9,hc9] at hf ⊢;clear ha9 hc9;have hxx:Ext V (V.ext x):=FE _ _;have o1:=o1.ext hxx;have o2:=o2.ext hxx;have o3:=o3.ext hxx;have hS:=hS.ext hxx;have hRV:=hRV.extB hxx;have hEV:=hEV.trans hxx;clear hzV f3 hxx;generalize V.ext x=V2 at *;haveI:=hRV.blt
      go_wp2_with (first
       | (refine aa RJ6 rfl _ _ rfl (w.heap.size+1) 0 rfl _ rfl 57 _ hRV rfl Zs oC ?_;intro w9 hB9 hM9)
       | fail)
      refine aaa (aD Tryz.results100 RJ6 _ _ (w.heap.size+1) 0 _ rfl hB9.rd rfl (Zy a9 n' c9) (Zz Zx 0) rfl rfl) rfl ?_;rw [er.out];have hty:fT w9 (some ⟨b0,o0+1,none⟩):=λ b o h=>(o3.mut hRV Zd Zs hM9).typ3 b o0 (by injection h with h;injection h with h _;rw [h]);have o3:=(o3.mut hRV Zd Zs hM9).bsc;exact ⟨b1,n1,d1,b2,n2,d2,(some ⟨b0,o0+1,none⟩),(n3-1),(d3-1),a',n',c',a9,n',c9,rfl,o1.mutT hRV Zd hM9,o2.mutT hRV Zd hM9,o3.tail,Zo,hS.mut hRV Zs hM9,hc',(hf.mono (aak _)).mutT hRV Zd hM9,(λ b o h=>by injection h with h;injection h with h _;omega),hty,E9 hEV (hM9.below Zo hEV.size)⟩
end Go.Proofs.P9

/- The walks of layer 16 of the document: signed, Decode, Reply. -/
namespace Go.Pkt
open Go.Sec Go.RowKit Go.Oct
theorem DJ (x:UInt8):n8 (x >>> 6)=((x.toNat / 64:Nat):Int):=lO (p:=λ x=>n8 (x >>> 6)=((x.toNat / 64:Nat):Int)) (by decide +kernel) x
theorem Ee (x:UInt8):n8 (x >>> 3 &&& 7)=((x.toNat / 8 % 8:Nat):Int):=lO (p:=λ x=>n8 (x >>> 3 &&& 7)=((x.toNat / 8 % 8:Nat):Int)) (by decide +kernel) x
theorem Eb (x:UInt8):n8 (x &&& 7)=((x.toNat % 8:Nat):Int):=lO (p:=λ x=>n8 (x &&& 7)=((x.toNat % 8:Nat):Int)) (by decide +kernel) x
end Go.Pkt
namespace Go.Proofs.P9
open Go.RowKit Go.Sec Go.Oct Go.Pkt BigFrame
theorem lX (x:UInt8) (w:World) :
  Calls Tryz.prog 73 #[Zz Zu (n8 x)] w λ e w'=>e = .returned (Zz Zx (sgn x))/\Ext w w':=by
 by_cases h:x.toNat<128
 ·have e:=FC (show sgn x=n8 x by unfold sgn n8;rw [aaj h]);have i1:¬ (127:Int)<n8 x:=by unfold n8;omega
  clear h
  go_enter Tryz.func73,Tryz.ntmps73
  go_wp2_with fail;go_ret;exact ⟨by rw [e.out];rfl,eX⟩
 ·have e:=FC (show sgn x=n8 x-256 by unfold sgn n8;rw [aae h]);have i1:(127:Int)<n8 x:=by unfold n8;omega
  clear h
  go_enter Tryz.func73,Tryz.ntmps73
  go_wp2_with fail;go_ret;exact ⟨by show Ending.returned (Zz Zx (wrap64 (n8 x-256)))=_;rw [<- e.out,vi],eX⟩
theorem lY (a:E8)(n c:Nat) (b:E7)(w:World)(hS:Sl w a n b) (hc:n<=c) (hn:n<=1000000) :
  Calls Tryz.prog 34 #[Zy a n c] w (iE (bH b) w):=by
 have hl:=hS.len;by_cases h1:n<48
 ·have er:bH b=((gW,[]),1):=aaj Zo;rw [er];have i1:(n:Int)<48:=Zo;clear hl
  go_enter Tryz.func34,Tryz.ntmps34
  go_wp2_with (first
   | (refine aa aJ rfl _ _ rfl w.heap.size 0 rfl _ rfl 64 _ bK rfl Zs (by first|exact aH _|(simp;done)|(simp;(repeat' (first|rfl|constructor)))) ?_;intro V hV hMV)
   | fail)
  refine aaa (aD Tryz.results34 aJ _ _ w.heap.size 0 ([Zz Zx 0, Zz Zx 0, Zz Zx 0, Zz Zx 0, Zz Zx 0, Zz Zx 0, Zz Zv 0, Zz Zv 0, Zz Zv 0, Zz Zw 0, Zz Zw 0, Zz Zw 0, Zz Zw 0]) rfl hV.rd rfl (Zy none 0 0) (Zz Zx 1) rfl rfl) rfl ?_;exact iE.err _ _ _ (E9 (b:=w.alloc _) eX (hMV.below Zo Zs))
 ·have i1:¬ (n:Int)<48:=by omega
  by_cases h2:1280<n
  ·have er:bH b=((gW,[]),2):=by unfold bH;rw [aae Zo,aaj Zo]
   rw [er];have i2:(1280:Int)<(n:Int):=Zo;clear hl
   go_enter Tryz.func34,Tryz.ntmps34
   go_wp2_with (first
    | (refine aa aJ rfl _ _ rfl w.heap.size 0 rfl _ rfl 64 _ bK rfl Zs (by first|exact aH _|(simp;done)|(simp;(repeat' (first|rfl|constructor)))) ?_;intro V hV hMV)
    | fail)
   refine aaa (aD Tryz.results34 aJ _ _ w.heap.size 0 ([Zz Zx 0, Zz Zx 0, Zz Zx 0, Zz Zx 0, Zz Zx 0, Zz Zx 0, Zz Zv 0, Zz Zv 0, Zz Zv 0, Zz Zw 0, Zz Zw 0, Zz Zw 0, Zz Zw 0]) rfl hV.rd rfl (Zy none 0 0) (Zz Zx 2) rfl rfl) rfl ?_;exact iE.err _ _ _ (E9 (b:=w.alloc _) eX (hMV.below Zo Zs))
  ·have i2:¬ (1280:Int)<(n:Int):=by omega
   obtain ⟨r,hr⟩:∃ r,bH b=r:=⟨_,rfl⟩;have hr1:(rdH b).ver=4\/(rdH b).ver=3->r=((rdH b,b.drop 48),0):=λ h=>by rw [<- hr];unfold bH;rw [aae Zo,aae Zo,aaj h]
   have hr2:¬ ((rdH b).ver=4\/(rdH b).ver=3)->r=((gW,[]),3):=λ h=>by rw [<- hr];unfold bH;rw [aae Zo,aae Zo,aae h]
   rw [hr];clear hr;obtain ⟨f,hf⟩:∃ f:Nat->UInt8,∀ o,b.getD o 0=f o:=⟨_,λ _=>rfl⟩;obtain ⟨b0,o0,rfl,hb0, -⟩:=hS.at 0 Zo;have hce:∀ k,k<n->w.cell? ⟨b0,o0+k,none⟩=some (Zz Zu (n8 (f k))):=λ k hk=>by
    obtain ⟨b1,o1,e1,_,hc1⟩:=hS.at k hk;injection e1 with e1
    injection e1 with e1 e2
    subst e1 e2;rw [hc1,<- hf k,FF,List.getElem?_eq_getElem Zo];rfl
   have hsl:∀ k m,k<n->m<=n-k->Sl w (some ⟨b0,o0+k,none⟩) m ((b.drop k).take m):=λ k m hk hm=>(nz hS hc hk).take m hm;have hg:∀ k m,m<=8->∀ W,Sl W (some ⟨b0,o0+k,none⟩) m ((b.drop k).take m)->Calls Tryz.prog 69 #[Zy (some ⟨b0,o0+k,none⟩) m (c-k)] W λ e w'=>e = .returned (Zz Zw (n64 (en b k m)))/\Ext W w':=λ k m hm W H=>fb _ m (c-k) _ W H Zo;have z0:=FC (show n8 (f 0 >>> 6)=(rdH b).leap by rw [<- hf];exact DJ _);have z1:=FC (show n8 (f 0 >>> 3 &&& 7)=(rdH b).ver by rw [<- hf];exact Ee _);have z2:=FC (show n8 (f 0 &&& 7)=(rdH b).mode by rw [<- hf];exact Eb _);have z3:=FC (show n8 (f 1)=(rdH b).strat by rw [<- hf];rfl);have z4:=FC (show sgn (f 2)=(rdH b).poll by rw [<- hf];rfl);have z5:=FC (show sgn (f 3)=(rdH b).prec by rw [<- hf];rfl)
   go_enter Tryz.func34,Tryz.ntmps34
   go_wp2_with fail;refine cU ?_;intro W hW;have hE:Ext w W:=by rw [hW];exact eX
   have hH:Blk W w.heap.size 64 [Zz Zx 0, Zz Zx 0, Zz Zx 0, Zz Zx 0, Zz Zx 0, Zz Zx 0, Zz Zv 0, Zz Zv 0, Zz Zv 0, Zz Zw 0, Zz Zw 0, Zz Zw 0, Zz Zw 0]:=by rw [hW];exact bK
   clear hW;haveI:=BlkLt.mk (aai hb0.lt hE.size);have hce:=λ k hk=>(hE.cell (p:=⟨b0,o0+k,none⟩) hb0.lt).trans (hce k hk);have hsl:=λ k m h1 h2=>(hsl k m h1 h2).ext hE;have k0:=hce 0 Zo;have k1:=hce 1 Zo;have k2:=hce 2 Zo;have k3:=hce 3 Zo;rw [abv] at k0;have j0:(1:Int)<(n:Int):=Zo;have j1:0<n:=Zo;have j2:(2:Int)<(n:Int):=Zo;have j3:(3:Int)<(n:Int):=Zo;have d4:¬ c=4:=Zo;have d8:¬ c=8:=Zo;have d12:¬ c=12:=Zo;have d16:¬ c=16:=Zo;have d24:¬ c=24:=Zo;have d32:¬ c=32:=Zo;have d40:¬ c=40:=Zo;have j8:(8:Int)<=(c:Int):=Zo;have j12:(12:Int)<=(c:Int):=Zo;have j16:(16:Int)<=(c:Int):=Zo;have j24:(24:Int)<=(c:Int):=Zo;have j32:(32:Int)<=(c:Int):=Zo;have j40:(40:Int)<=(c:Int):=Zo;have j48:(48:Int)<=(c:Int):=Zo;clear hce hf;refine R2.ae 54 [[],[0],[0,1],[0,1,2],[0,1,2,3],[],[5],[5,6],[5,6,7],[5,6,7,8],[5,6,7,8,9],[],[11],[11,12],[11,12,13],[11,12,13,14],[],[16],[16,17],[16,17,18],[],[20],[20,21],[20,21,22],[],[24],[24,25],[20,21,22,23,24,25,26],[],[28],[20,21,22,23,24,25,26,27,28,29],[20,21,22,23,24,25,26,27,28,29,30],[],[32],[20,21,22,23,24,25,26,27,28,29,30,32,33],[20,21,22,23,24,25,26,27,28,29,30,32,33,34],[],[36],[20,21,22,23,24,25,26,27,28,29,30,32,33,34,36,37],[20,21,22,23,24,25,26,27,28,29,30,32,33,34,36,37,38],[],[40],[20,21,22,23,24,25,26,27,28,29,30,32,33,34,36,37,38,40,41],[],[43],[20,21,22,23,24,25,26,27,28,29,30,32,33,34,36,37,38,40,41,42,43,44],[],[46],[20,21,22,23,24,25,26,27,28,29,30,32,33,34,36,37,38,40,41,42,43,44,45,46,47],[],[49],[20,21,22,23,24,25,26,27,28,29,30,32,33,34,36,37,38,40,41,42,43,44,45,46,47,48,49,50],[0,1,2,3,4,5,6,7,8,9,10,11,12,13,14,15,16,17,18,19,20,21,22,23,24,25,26,27,28,29,30,31,32,33,34,35,36,37,38,39,40,41,42,43,44,45,46,47,48,49,50,51],[],[0,1,2,3,4,5,6,7,8,9,10,11,12,13,14,15,16,17,18,19,20,21,22,23,24,25,26,27,28,29,30,31,32,33,34,35,36,37,38,39,40,41,42,43,44,45,46,47,48,49,50,51,52,53]] [] (λ h=>(h rfl).elim) Zk Zk Zk Zk Zk ?_;simp only [q8q,q9q,q10q,q11q,q12q,q13q];(repeat (refine R2.av ?_;(try simp only [Act.put,q0q,q1q,q2q])));(refine R2.ai (λ _ => Zz Zx (sgn (f 2))) (λ _ _=>True) (λ _ _ _ _ _=>trivial) (λ us w' hx hf=>⟨rfl,?_⟩) ?_;(unfold gives;simp [go_sem,execOp];refine (lX (f 2) _).mono ?_;rintro e w1 ⟨rfl,hx1⟩;first|exact ⟨rfl,hx1⟩|simpa using hx1));(repeat (refine R2.av ?_;(try simp only [Act.put,q0q,q1q,q2q])));(refine R2.ai (λ _ => Zz Zx (sgn (f 3))) (λ _ _=>True) (λ _ _ _ _ _=>trivial) (λ us w' hx hf=>⟨rfl,?_⟩) ?_;(unfold gives;simp [go_sem,execOp];refine (lX (f 3) _).mono ?_;rintro e w1 ⟨rfl,hx1⟩;first|exact ⟨rfl,hx1⟩|simpa using hx1));(repeat (refine R2.av ?_;(try simp only [Act.put,q0q,q1q,q2q])));(refine R2.ai (λ _ => Zz Zw (n64 (en b 4 4))) (λ _ _=>True) (λ _ _ _ _ _=>trivial) (λ us w' hx hf=>⟨rfl,?_⟩) ?_;(unfold gives;simp [go_sem,execOp];refine (hg 4 4 Zo _ ((hsl 4 4 Zo Zo).ext hx)).mono ?_;rintro e w1 ⟨rfl,hx1⟩;first|exact ⟨rfl,hx1⟩|simpa using hx1));(repeat (refine R2.av ?_;(try simp only [Act.put,q0q,q1q,q2q])));(refine R2.ai (λ _ => Zz Zw (n64 (en b 8 4))) (λ _ _=>True) (λ _ _ _ _ _=>trivial) (λ us w' hx hf=>⟨rfl,?_⟩) ?_;(unfold gives;simp [go_sem,execOp];refine (hg 8 4 Zo _ ((hsl 8 4 Zo Zo).ext hx)).mono ?_;rintro e w1 ⟨rfl,hx1⟩;first|exact ⟨rfl,hx1⟩|simpa using hx1));(repeat (refine R2.av ?_;(try simp only [Act.put,q0q,q1q,q2q])));(refine R2.ai (λ _ => Zz Zw (n64 (en b 12 4))) (λ _ _=>True) (λ _ _ _ _ _=>trivial) (λ us w' hx hf=>⟨rfl,?_⟩) ?_;(unfold gives;simp [go_sem,execOp];refine (hg 12 4 Zo _ ((hsl 12 4 Zo Zo).ext hx)).mono ?_;rintro e w1 ⟨rfl,hx1⟩;first|exact ⟨rfl,hx1⟩|simpa using hx1));(repeat (refine R2.av ?_;(try simp only [Act.put,q0q,q1q,q2q])));(refine R2.ai (λ _ => Zz Zw (n64 (en b 16 8))) (λ _ _=>True) (λ _ _ _ _ _=>trivial) (λ us w' hx hf=>⟨rfl,?_⟩) ?_;(unfold gives;simp [go_sem,execOp];refine (hg 16 8 Zo _ ((hsl 16 8 Zo Zo).ext hx)).mono ?_;rintro e w1 ⟨rfl,hx1⟩;first|exact ⟨rfl,hx1⟩|simpa using hx1));(repeat (refine R2.av ?_;(try simp only [Act.put,q0q,q1q,q2q])));(refine R2.ai (λ _ => Zz Zw (n64 (en b 24 8))) (λ _ _=>True) (λ _ _ _ _ _=>trivial) (λ us w' hx hf=>⟨rfl,?_⟩) ?_;(unfold gives;simp [go_sem,execOp];refine (hg 24 8 Zo _ ((hsl 24 8 Zo Zo).ext hx)).mono ?_;rintro e w1 ⟨rfl,hx1⟩;first|exact ⟨rfl,hx1⟩|simpa using hx1));(repeat (refine R2.av ?_;(try simp only [Act.put,q0q,q1q,q2q])));(refine R2.ai (λ _ => Zz Zw (n64 (en b 32 8))) (λ _ _=>True) (λ _ _ _ _ _=>trivial) (λ us w' hx hf=>⟨rfl,?_⟩) ?_;(unfold gives;simp [go_sem,execOp];refine (hg 32 8 Zo _ ((hsl 32 8 Zo Zo).ext hx)).mono ?_;rintro e w1 ⟨rfl,hx1⟩;first|exact ⟨rfl,hx1⟩|simpa using hx1));(repeat (refine R2.av ?_;(try simp only [Act.put,q0q,q1q,q2q])));(refine R2.ai (λ _ => Zz Zw (n64 (en b 40 8))) (λ _ _=>True) (λ _ _ _ _ _=>trivial) (λ us w' hx hf=>⟨rfl,?_⟩) ?_;(unfold gives;simp [go_sem,execOp];refine (hg 40 8 Zo _ ((hsl 40 8 Zo Zo).ext hx)).mono ?_;rintro e w1 ⟨rfl,hx1⟩;first|exact ⟨rfl,hx1⟩|simpa using hx1));(repeat (refine R2.av ?_;(try simp only [Act.put,q0q,q1q,q2q])));(refine R2.cJ _ ([Zz Zx 0, Zz Zx 0, Zz Zx 0, Zz Zx 0, Zz Zx 0, Zz Zx 0, Zz Zv 0, Zz Zv 0, Zz Zv 0, Zz Zw 0, Zz Zw 0, Zz Zw 0, Zz Zw 0]) Tryz.zeroValue64 rfl rfl rfl ?_);(refine R2.ef ?_;intro us x hx hf hd);obtain ⟨g,eg,hgW,hBg⟩:=hf;rw [eg];have hx5:Ext W (W.ext x):=FE _ _;have hgE:=aal hE.size hgW;have hne:w.heap.size≠g:=by have:=hH.lt;omega
   have hH:=hH.extB hx5;have hE:=hE.trans hx5;have hS:=hS.ext hE;clear k0 k1 k2 k3 hsl hg hd eg hx5;generalize W.ext x=W6 at *;rw [z0.out,z1.out,z2.out,z3.out,z4.out,z5.out];clear z0 z1 z2 z3 z4 z5 d4 d8 d12 d16 d24 d32 d40 j0 j1 j2 j3 j8 j12 j16 j24 j32 j40;haveI:=hBg.blt;haveI:=hH.blt;by_cases v3:(rdH b).ver=3
   ·have er:=FC (hr1 (.inr v3));have i3:((rdH b).ver != 3)=false:=by rw [aaf];exact v3
    clear hr1 hr2 v3
    go_wp2_with (first
     | ((refine aa aJ rfl _ _ rfl g 0 rfl _ rfl 64 _ hBg rfl Zs oC ?_;intro V hV0 hMV);have hV:Blk V g 64 [Zz Zx (rdH b).leap, Zz Zx (rdH b).ver, Zz Zx (rdH b).mode, Zz Zx (rdH b).strat, Zz Zx (rdH b).poll, Zz Zx (rdH b).prec, Zz Zv (n32 (rdH b).rd), Zz Zv (n32 (rdH b).rp), Zz Zv (n32 (rdH b).id), Zz Zw (n64 (rdH b).ref), Zz Zw (n64 (rdH b).org), Zz Zw (n64 (rdH b).rcv), Zz Zw (n64 (rdH b).tx)]:=hV0;clear hV0;haveI:=hV.blt;have q1:=hV.cell? 1 rfl;have hHV:=Blk.turn hMV hH hne;haveI:=hHV.blt)
     | (fail)
     | fail)
    have hEV:Ext w V:=E9 hE (hMV.below hgE hE.size);have hSV:=hS.mut hBg Zs hMV;clear q1 hS hBg hH hE hMV;have hcd:n-48<=c-48:=Zo;obtain ⟨A,hA,hSA⟩:∃ A,(if c=48 then some (⟨b0,o0,none⟩:Addr) else some ⟨b0,o0+48,none⟩)=A/\Sl V A (n-48) (b.drop 48):=⟨_,rfl,by have:=hSV.drop c 48 hc;simpa [dX,bX] using this⟩;have hdl:(b.drop 48).length=n-48:=hSA.len;have j48:(48:Int)<=(n:Int):=Zo;have j48c:(48:Int)<=(c:Int):=Zo;refine R2.ae 5 [[],[],[1],[1,2],[1,2,3],[0,1,2,3,4],[0,1,2,3,4,5],[0,1,2,3,4,5,6]] [] (λ h=>(h rfl).elim) Zk Zk Zk Zk Zk ?_;simp only [q8q,q9q,q10q,q11q,q12q,q13q];(refine R2.ao aJ _ rfl (λ _=>rfl) g 0 (λ _=>by simp [go_sem]) _ hV.rd rfl ?_);(repeat (refine R2.av ?_;(try simp only [Act.put,q0q,q1q,q2q])));(refine R2.ai (λ p => .slice (p 0).1 1 1) (λ p w''=>Bss w'' (p 0).1 1 ([b.drop 48])) (λ p w w' h hx=>h.ext hx) (λ us w' hx hf=>⟨rfl,?_⟩) ?_;(unfold gives;simp [go_sem,execOp];exact ⟨λ _=>(some ⟨w'.heap.size,0,none⟩,0),rfl,FA _ _,gV (hSA.ext hx) _⟩));(refine R2.ai (λ p => .slice (p 0).1 (n-48) (p 0).2) (λ p w''=>Own w'' 0 (p 0).1 (n-48) (p 0).2 (b.drop 48)) (λ p w w' h hx=>h.ext hx) (λ us w' hx hf=>⟨rfl,?_⟩) ?_;(unfold gives;simp [go_sem,execOp];exact az (aak _) ((by have:=aR _ 1 1 [b.drop 48] w' (by exact (hf _ (aac _ (aab _)) rfl)) Zo (n-48) (by rw [bP];exact hdl) Zo;rw [bP] at this;exact this))));(refine R2.aU ?_;intro us x hx hf);obtain ⟨-,hO⟩:=hf;obtain ⟨a5,ha5⟩:∃ a,(us 4 0).1=a:=⟨_,rfl⟩;obtain ⟨c5,hc5⟩:∃ a,(us 4 0).2=a:=⟨_,rfl⟩;rw [ha5,hc5] at hO ⊢;clear ha5 hc5;have hxx:Ext V (V.ext x):=FE _ _;have hHx:=hHV.extB hxx;have hEx:=hEV.trans hxx;generalize V.ext x=V5 at *
    go_wp2_with (first
     | (refine aa aJ rfl _ _ rfl w.heap.size 0 rfl _ rfl 64 _ hHx rfl Zs oC ?_;intro U hU hMU)
     | fail)
    refine aaa (aD Tryz.results34 aJ _ _ w.heap.size 0 ([Zz Zx (rdH b).leap, Zz Zx (rdH b).ver, Zz Zx (rdH b).mode, Zz Zx (rdH b).strat, Zz Zx (rdH b).poll, Zz Zx (rdH b).prec, Zz Zv (n32 (rdH b).rd), Zz Zv (n32 (rdH b).rp), Zz Zv (n32 (rdH b).id), Zz Zw (n64 (rdH b).ref), Zz Zw (n64 (rdH b).org), Zz Zw (n64 (rdH b).rcv), Zz Zw (n64 (rdH b).tx)]) rfl hU.rd rfl (Zy a5 (n-48) c5) (Zz Zx 0) rfl rfl) rfl ?_;have hOV:=Sl.mut hO.sl hHx Zs hMU;rw [er.out];exact ⟨a5,c5,by rw [hdl],by rw [hdl];exact hOV,by rw [hdl];exact hO.le.1,E9 hEx (hMU.below Zo hEx.size)⟩
   ·by_cases v4:(rdH b).ver=4
    ·have er:=FC (hr1 (.inl v4));have i3:((rdH b).ver != 3)=true:=by rw [aao];exact v3
     have i4:((rdH b).ver != 4)=false:=by rw [aaf];exact v4
     clear hr1 hr2 v3 v4
     go_wp2_with (first
      | ((refine aa aJ rfl _ _ rfl g 0 rfl _ rfl 64 _ hBg rfl Zs oC ?_;intro V hV0 hMV);have hV:Blk V g 64 [Zz Zx (rdH b).leap, Zz Zx (rdH b).ver, Zz Zx (rdH b).mode, Zz Zx (rdH b).strat, Zz Zx (rdH b).poll, Zz Zx (rdH b).prec, Zz Zv (n32 (rdH b).rd), Zz Zv (n32 (rdH b).rp), Zz Zv (n32 (rdH b).id), Zz Zw (n64 (rdH b).ref), Zz Zw (n64 (rdH b).org), Zz Zw (n64 (rdH b).rcv), Zz Zw (n64 (rdH b).tx)]:=hV0;clear hV0;haveI:=hV.blt;have q1:=hV.cell? 1 rfl;have hHV:=Blk.turn hMV hH hne;haveI:=hHV.blt)
      | (fail)
      | fail)
     have hEV:Ext w V:=E9 hE (hMV.below hgE hE.size);have hSV:=hS.mut hBg Zs hMV;clear q1 hS hBg hH hE hMV;have hcd:n-48<=c-48:=Zo;obtain ⟨A,hA,hSA⟩:∃ A,(if c=48 then some (⟨b0,o0,none⟩:Addr) else some ⟨b0,o0+48,none⟩)=A/\Sl V A (n-48) (b.drop 48):=⟨_,rfl,by have:=hSV.drop c 48 hc;simpa [dX,bX] using this⟩;have hdl:(b.drop 48).length=n-48:=hSA.len;have j48:(48:Int)<=(n:Int):=Zo;have j48c:(48:Int)<=(c:Int):=Zo;refine R2.ae 5 [[],[],[1],[1,2],[1,2,3],[0,1,2,3,4],[0,1,2,3,4,5],[0,1,2,3,4,5,6]] [] (λ h=>(h rfl).elim) Zk Zk Zk Zk Zk ?_;simp only [q8q,q9q,q10q,q11q,q12q,q13q];(refine R2.ao aJ _ rfl (λ _=>rfl) g 0 (λ _=>by simp [go_sem]) _ hV.rd rfl ?_);(repeat (refine R2.av ?_;(try simp only [Act.put,q0q,q1q,q2q])));(refine R2.ai (λ p => .slice (p 0).1 1 1) (λ p w''=>Bss w'' (p 0).1 1 ([b.drop 48])) (λ p w w' h hx=>h.ext hx) (λ us w' hx hf=>⟨rfl,?_⟩) ?_;(unfold gives;simp [go_sem,execOp];exact ⟨λ _=>(some ⟨w'.heap.size,0,none⟩,0),rfl,FA _ _,gV (hSA.ext hx) _⟩));(refine R2.ai (λ p => .slice (p 0).1 (n-48) (p 0).2) (λ p w''=>Own w'' 0 (p 0).1 (n-48) (p 0).2 (b.drop 48)) (λ p w w' h hx=>h.ext hx) (λ us w' hx hf=>⟨rfl,?_⟩) ?_;(unfold gives;simp [go_sem,execOp];exact az (aak _) ((by have:=aR _ 1 1 [b.drop 48] w' (by exact (hf _ (aac _ (aab _)) rfl)) Zo (n-48) (by rw [bP];exact hdl) Zo;rw [bP] at this;exact this))));(refine R2.aU ?_;intro us x hx hf);obtain ⟨-,hO⟩:=hf;obtain ⟨a5,ha5⟩:∃ a,(us 4 0).1=a:=⟨_,rfl⟩;obtain ⟨c5,hc5⟩:∃ a,(us 4 0).2=a:=⟨_,rfl⟩;rw [ha5,hc5] at hO ⊢;clear ha5 hc5;have hxx:Ext V (V.ext x):=FE _ _;have hHx:=hHV.extB hxx;have hEx:=hEV.trans hxx;generalize V.ext x=V5 at *
     go_wp2_with (first
      | (refine aa aJ rfl _ _ rfl w.heap.size 0 rfl _ rfl 64 _ hHx rfl Zs oC ?_;intro U hU hMU)
      | fail)
     refine aaa (aD Tryz.results34 aJ _ _ w.heap.size 0 ([Zz Zx (rdH b).leap, Zz Zx (rdH b).ver, Zz Zx (rdH b).mode, Zz Zx (rdH b).strat, Zz Zx (rdH b).poll, Zz Zx (rdH b).prec, Zz Zv (n32 (rdH b).rd), Zz Zv (n32 (rdH b).rp), Zz Zv (n32 (rdH b).id), Zz Zw (n64 (rdH b).ref), Zz Zw (n64 (rdH b).org), Zz Zw (n64 (rdH b).rcv), Zz Zw (n64 (rdH b).tx)]) rfl hU.rd rfl (Zy a5 (n-48) c5) (Zz Zx 0) rfl rfl) rfl ?_;have hOV:=Sl.mut hO.sl hHx Zs hMU;rw [er.out];exact ⟨a5,c5,by rw [hdl],by rw [hdl];exact hOV,by rw [hdl];exact hO.le.1,E9 hEx (hMU.below Zo hEx.size)⟩
    ·have er:=FC (hr2 Zo);have i3:((rdH b).ver != 3)=true:=by rw [aao];exact v3
     have i4:((rdH b).ver != 4)=true:=by rw [aao];exact v4
     clear hr1 hr2 v3 v4
     go_wp2_with (first
      | ((refine aa aJ rfl _ _ rfl g 0 rfl _ rfl 64 _ hBg rfl Zs oC ?_;intro V hV0 hMV);have hV:Blk V g 64 [Zz Zx (rdH b).leap, Zz Zx (rdH b).ver, Zz Zx (rdH b).mode, Zz Zx (rdH b).strat, Zz Zx (rdH b).poll, Zz Zx (rdH b).prec, Zz Zv (n32 (rdH b).rd), Zz Zv (n32 (rdH b).rp), Zz Zv (n32 (rdH b).id), Zz Zw (n64 (rdH b).ref), Zz Zw (n64 (rdH b).org), Zz Zw (n64 (rdH b).rcv), Zz Zw (n64 (rdH b).tx)]:=hV0;clear hV0;haveI:=hV.blt;have q1:=hV.cell? 1 rfl;have hHV:=Blk.turn hMV hH hne;haveI:=hHV.blt)
      | ((refine aa aJ rfl _ _ rfl w.heap.size 0 rfl _ rfl 64 _ hHV rfl Zs (by first|exact aH _|(simp;done)|(simp;(repeat' (first|rfl|constructor)))) ?_;intro V2 hV2 hMV2))
      | fail)
     have hEV:Ext w V:=E9 hE (hMV.below hgE hE.size);have hSV:=hS.mut hBg Zs hMV;refine aaa (aD Tryz.results34 aJ _ _ w.heap.size 0 ([Zz Zx 0, Zz Zx 0, Zz Zx 0, Zz Zx 0, Zz Zx 0, Zz Zx 0, Zz Zv 0, Zz Zv 0, Zz Zv 0, Zz Zw 0, Zz Zw 0, Zz Zw 0, Zz Zw 0]) rfl hV2.rd rfl (Zy none 0 0) (Zz Zx 3) rfl rfl) rfl ?_;rw [er.out];exact iE.err _ _ _ (E9 hEV (hMV2.below (aad _) hEV.size))
end Go.Proofs.P9

/- The walks of layer 17 of the document: walk, Decode, Places. -/
namespace Go.Pkt
open Go.Oct
def mo (A:List Fld):List Int:=(List.range A.length).map λ i=>((bf (A.take i):Nat):Int)
theorem mZ (A:List Fld):(mo A).length=A.length:=by simp [mo]
theorem wV (A:List Fld) (f:Fld):mo (A++[f])=mo A++[((bf A:Nat):Int)]:=by
 unfold mo;rw [aag,List.length_singleton,aaZ,aaK]
 congr 1
 ·refine abo λ i hi=>?_;rw [aax (by have:=aaR.1 hi;omega)]
 ·simp
end Go.Pkt
namespace Go.Proofs.P9
open Go.RowKit Go.Sec Go.Oct Go.Pkt Go.Sec.R4 BigFrame
def na (r:List Fld × Int) (w:World)(e:Ending) (w':World):Prop:=∃ a c b d,e = .returned (.tuple #[Zy a r.1.length c, Zy b r.1.length d, Zz Zx r.2])/\cf 79 w' w.heap.size a r.1.length c r.1/\fA w' w.heap.size b r.1.length d (mo r.1)/\Ext w w'
theorem na.err (w w':World)(e:Int) (hx:Ext w w'):na ([],e) w (.returned (.tuple #[Zy none 0 0, Zy none 0 0, Zz Zx e])) w':=⟨none,0,none,0,rfl,cf.nil _ _ _,fA.nil _ _,hx⟩
theorem _root_.z44q11{p:Prop}(h:p:=by
 have er:=FC (show r=([],3) by
  have hs:cX R=3:=by unfold cX;rw [aae Zo,hSz,aaj Zo]
  rw [hm.out,fg _ R hne (by rw [hs];decide),hs];rfl)
 clear hSz hRl hl hR hst hsl;go_wp2_with fail;(with_reducible refine (hget _ hS2).mono ?_);rintro e w5 ⟨rfl,hx5⟩;go_wp2_with fail;refine aaa (v := .tuple #[Zy none 0 0, Zy none 0 0, Zz Zx 3]) (by simp [results,Tryz.results109,go_sem]) rfl ?_;rw [er.out];exact na.err _ _ _ (hE.trans hx5)):p:=h
theorem qW (a:E8)(n c:Nat) (b:E7)(w:World)(hS:Sl w a n b) (hc:n<=c) (hn:n<=1000000) :
  Calls Tryz.prog 109 #[Zy a n c] w (na (bj b) w):=by
 have hl:=hS.len;by_cases h1:1232<n
 ·have er:=FC (show bj b=([],2) from aaj Zo);have i1:(1232:Int)<(n:Int):=Zo;clear hl
  go_enter Tryz.func109,Tryz.ntmps109
  go_wp2_with fail;refine aaa (v := .tuple #[Zy none 0 0, Zy none 0 0, Zz Zx 2]) (by simp [results,Tryz.results109,go_sem]) rfl ?_;rw [er.out];exact na.err _ _ _ (FD _)
 ·have i1:¬ (1232:Int)<(n:Int):=by omega
  obtain ⟨r,hr⟩:∃ r,bj b=r:=⟨_,rfl⟩;have hr24:=FC (show fh 24 b=r by rw [<- hr];exact (aae Zo).symm);rw [hr];clear hr
  go_enter Tryz.func109,Tryz.ntmps109
  go_wp2_with fail
  go_loopw [5,6,7,8] (λ v5 v6 v7 _ wr=>∃ (o:Nat) (A:List Fld) (la:E8)(lc:Nat) (pa:E8)(pc:Nat),o<=n/\A.length<=24/\v7 = Zz Zx o/\v5 = Zy la A.length lc/\v6 = Zy pa A.length pc/\bf A=o/\Hid (r=pQ A (fh (24-A.length) (b.drop o)))/\nH 79 wr w.heap.size la A.length lc A/\fA wr w.heap.size pa A.length pc (mo A)/\Ext w wr) (λ _ _ v7 _ _=>n-(intOf v7).toNat)
  case atStart=>exact ⟨0,[],none,0,none,0,Zo,Zs,rfl,rfl,rfl,rfl,FC (by rw [<- hr24.out];exact (tr _ _).symm),nH.nil _ _ _,fA.nil _ _,FD _⟩
  case round =>
   obtain ⟨o,A,la,lc,pa,pc,ho,hA,rfl,rfl,rfl,hto,hm,hF,hP,hE⟩:=hrel;have hSr:=hS.ext hE;by_cases hlt:o<n
   ·obtain ⟨R,hR⟩:∃ R,b.drop o=R:=⟨_,rfl⟩;have hRl:R.length=n-o:=by rw [<- hR,aaJ,hl]
    have hSR:=hSr.drop c o hc;rw [hR] at hSR hm;obtain ⟨b0,o0,rfl, -, -⟩:=hSr.at 0 Zo;have hAd:dX (some ⟨b0,o0,none⟩) c o 1=some ⟨b0,o0+o,none⟩:=by unfold dX;rw [aae Zo];simp [Addr.add]
    rw [hAd] at hSR;clear hAd;have hne:R≠[]:=λ h=>by rw [h] at hRl;simp at hRl;omega
    have i2:(o:Int)<(n:Int):=Zo;have i3:(o:Int)<=(c:Int):=Zo;by_cases h4:n-o<4
    ·have i4:(n:Int)-(o:Int)<4:=by omega
     have er:=FC (show r=([],1) by
      have hs:cX R=1:=aaj Zo;rw [hm.out,fg _ R hne (by rw [hs];decide),hs];rfl)
     go_wp2_with fail;refine aaa (v := .tuple #[Zy none 0 0, Zy none 0 0, Zz Zx 1]) (by simp [results,Tryz.results109,go_sem]) rfl ?_;rw [er.out];exact na.err _ _ _ hE
    ·have i4:¬ (n:Int)-(o:Int)<4:=by omega
     have i6:(o:Int)+4<=(c:Int):=Zo;have i7:(o:Int)+2<=(o:Int)+4:=Zo;have hsl:∀ k m,k<n->m<=n-k->Sl wr (some ⟨b0,o0+k,none⟩) m ((b.drop k).take m):=λ k m hk hm=>(nz hSr hc hk).take m hm;have hS2:=hsl (o+2) 2 Zo Zo;rw [<- abd,hR] at hS2;have hget:=λ W H=>fb (some ⟨b0,o0+(o+2),none⟩) 2 (c-(o+2)) ((R.drop 2).take 2) W H Zo;rw [oz] at hget;obtain ⟨S,hSz⟩:∃ S,dm R=S:=⟨_,rfl⟩;have hSlt:=qB R;have hst:4<=R.length:=Zo;rw [hSz] at hget hSlt;by_cases hq:S % 4=0
     ·by_cases hq2:S<16
      ·exact z44q11
      ·by_cases hq3:n-o<S
       ·have er:=FC (show r=([],1) by
         have hs:cX R=1:=by unfold cX;rw [aae Zo,hSz,aae Zo,aaj Zo]
         rw [hm.out,fg _ R hne (by rw [hs];decide),hs];rfl)
        have iq3:(n:Int)-(o:Int)<(S:Int):=Zo;clear hSz hRl hl hR hst hsl;go_wp2_with fail;(with_reducible refine (hget _ hS2).mono ?_);rintro e w5 ⟨rfl,hx5⟩;go_wp2_with fail;refine aaa (v := .tuple #[Zy none 0 0, Zy none 0 0, Zz Zx 1]) (by simp [results,Tryz.results109,go_sem]) rfl ?_;rw [er.out];exact na.err _ _ _ (hE.trans hx5)
       ·have hs:cX R=0:=by unfold cX;rw [aae Zo,hSz,aae Zo,aae Zo]
        have iq3:¬ (n:Int)-(o:Int)<(S:Int):=Zo;by_cases hq4:A.length=24
        ·have er:=FC (show r=([],8) by
          rw [hm.out,hq4,kj R hne hs];rfl)
         have iq4:(A.length:Int)=24:=Zo;clear hSz hRl hl hR hst hsl;go_wp2_with fail;(with_reducible refine (hget _ hS2).mono ?_);rintro e w5 ⟨rfl,hx5⟩;go_wp2_with fail;refine aaa (v := .tuple #[Zy none 0 0, Zy none 0 0, Zz Zx 8]) (by simp [results,Tryz.results109,go_sem]) rfl ?_;rw [er.out];exact na.err _ _ _ (hE.trans hx5)
        ·obtain ⟨q,hq5⟩:∃ q,24-A.length=q+1:=⟨24-A.length-1,Zo⟩;have hm2:=FC (show r=pQ (A++[eD R]) (fh (24-(A++[eD R]).length) (b.drop (o+S))) by
          rw [hm.out,hq5,iO q R hne hs,ri,hSz,aag,<- hR,abd]
          congr 2
          simp;omega)
         have iq4:¬ (A.length:Int)=24:=Zo;have hfl:=mE hs;have htot:=eO A (eD R);have hpl:=wV A (eD R);have hfd:(eD R)=(((bR (R.take 2):Nat):Int),(R.take S).drop 4):=by unfold eD;rw [hSz]
         rw [hSz] at hfl;rw [hfl.2,hto] at htot;rw [hto] at hpl;have hS4:=hsl (o+4) (S-4) Zo Zo;rw [<- abd,hR,<- List.drop_take] at hS4;have hSt:=hsl o 2 Zo Zo;rw [hR] at hSt;have hgt:=λ W H=>fb (some ⟨b0,o0+o,none⟩) 2 (c-o) (R.take 2) W H Zo;rw [nW] at hgt;have hTlt:=fM R;have hXl:((R.take S).drop 4).length=S-4:=by have:=hfl.1;rw [hfd] at this;simp only at this;omega
         rw [hfd] at hm2 htot hpl;have hb0:b0<w.heap.size:=hS.lt Zo b0 o0 rfl;clear hfd hfl;generalize bR (R.take 2)=T at *;generalize (R.take S).drop 4=X at *;clear hSz hRl hl hR hst hs hq5 hsl;go_wp2_with fail;(with_reducible refine (hget _ hS2).mono ?_);rintro e W ⟨rfl,hx5⟩;have hE:=hE.trans hx5;have hF:=hF.ext hx5;have hP:=hP.ext hx5;have hSt:=hSt.ext hx5;have hS4:=hS4.ext hx5;clear hx5 hget hS2 hSr hSR;have j1:(o:Int)+2<=(c:Int):=Zo;have j2:(o:Int)+4<=(o:Int)+(S:Int):=Zo;have j3:(o:Int)+(S:Int)<=(c:Int):=Zo;have j5:¬ c=o:=Zo;have j7:(0:Int)<=(o:Int):=Zo;have j8:(o:Int)<=(o:Int)+2:=Zo;have j9:((o:Int)+2).toNat=o+2:=Zo;have j10:(0:Int)<=(o:Int)+4:=Zo;have j11:((o:Int)+4).toNat=o+4:=Zo;have j12:((o:Int)+(S:Int)).toNat=o+S:=Zo;have j13:o+2-o=2:=Zo;have j14:o+S-(o+4)=S-4:=Zo;have j6:¬ c=o+4:=Zo;have hBW:=hE.size;have hFo:∀ g,la.map (·.block)=some g->w.heap.size<=g/\g<W.heap.size:=λ g e=>by
          obtain ⟨_,xs,h2,_⟩:=hF;exact fS h2 g (by rw [eT];exact e)
         have hPo:∀ g,pa.map (·.block)=some g->w.heap.size<=g/\g<W.heap.size:=λ g e=>fS hP.2 g (by rw [eT];exact e);obtain ⟨G,hGe⟩:∃ G,G=obL la++obL pa:=⟨_,rfl⟩;have hGm:∀ k,k∈G ↔ la.map (·.block)=some k\/pa.map (·.block)=some k:=λ k=>by rw [hGe,q7q,vz,vz]
         have hG:∀ k∈G,w.heap.size<=k/\k<W.heap.size:=λ k hk=>((hGm k).1 hk).elim (hFo k) (hPo k);have hX1:kx (λ k=>k∈G/\la.map (·.block)≠some k) 79 W w.heap.size la A.length lc A:=hF.toX λ k hk=>by
          have hpk:=((hGm k).1 hk.1).resolve_left hk.2;obtain ⟨vs,hB⟩:=hP.blk k (by rw [eT];exact hpk);exact ⟨3,vs,hB,Zd,Zd⟩
         have hdj:∀ g,pa.map (·.block)=some g->g ∉ (la.map (·.block)).toList:=λ g e hm=>by
          have he:la.map (·.block)=some g:=by
           cases hl:la.map (·.block) with
           | none=>rw [hl] at hm;cases hm
           | some g'=>rw [hl] at hm;simp at hm;rw [hm]
          obtain ⟨vs,hB⟩:=hP.blk g (by rw [eT];exact e);obtain ⟨_,xs,h2,_⟩:=hF;exact ed h2 hB Zd (by rw [eT];exact he)
         have hb0G:∀ o m,su (· ∈ G) (some ⟨b0,o,none⟩) m:=λ o m => .inr λ b o' e hk=>by
          injection e with e;injection e with e1 e2;subst e1
          have:=(hG b0 hk).1;omega
         clear hGe hF;go_wp2_with fail;refine R4.fQ 24 [[],[],[],[],[3],[1,2,3,4],[1,2,3,4,5],[1,2,3,4,5,6],[],[],[9],[],[],[11,12],[8,9,10,11,12,13],[8,9,10,11,12,13,14],[1,2,3,4,5,6,8,9,10,11,12,13,14,15],[1,2,3,4,5,6,7,8,9,10,11,12,13,14,15,16],[1,2,3,4,5,6,7,8,9,10,11,12,13,14,15,16,17],[0,1,2,3,4,5,6,7,8,9,10,11,12,13,14,15,16,17,18],[],[],[21],[0,1,2,3,4,5,6,7,8,9,10,11,12,13,14,15,16,17,18,19,20,21,22],[0,1,2,3,4,5,6,7,8,9,10,11,12,13,14,15,16,17,18,19,20,21,22,23],[0,1,2,3,4,5,6,7,8,9,10,11,12,13,14,15,16,17,18,19,20,21,22,23,24]] G Zk Zk Zk Zk ?_;simp only [q8q,q9q,q10q,q11q,q12q,q13q];(repeat (apply R4.eB;(case h=>(intro us w' hx hf;refine ⟨rfl,?_⟩;simp [go_sem,execOp, *];(try simp (disch:=omega) only [q17q,q18q,q19q]);rfl));(try simp only [Act.put,q0q,q1q,q2q])));(refine R4.ai (λ _ => Zz Zw ((T:Nat):Int)) (λ _ _=>True) ⟨(λ _ h=>by cases h),λ _ _ _ _ _=>trivial⟩ (λ us w' hx hf=>⟨rfl,?_⟩) ?_;(unfold gives;simp [go_sem,execOp];refine (hgt _ (vg hSt hx (hb0G _ _))).mono ?_;rintro e w1 ⟨rfl,hx1⟩;first|exact ⟨rfl,hx1⟩|simpa using hx1));(repeat (apply R4.eB;(case h=>(intro us w' hx hf;refine ⟨rfl,?_⟩;simp [go_sem,execOp, *];(try simp (disch:=omega) only [q17q,q18q,q19q]);rfl));(try simp only [Act.put,q0q,q1q,q2q])));(refine R4.ai (λ p => .slice (p 0).1 1 1) (λ p w''=>∃ bq,(p 0).1=some ⟨bq,0,none⟩/\W.heap.size<=bq/\Rd w'' (some ⟨bq,0,none⟩) [Zy (some ⟨b0,o0+(o+4),none⟩) (S-4) (c-(o+4))]) ⟨(λ _ h=>by cases h),λ p w1 w2 ⟨bq,h1,h2,h3⟩ hx=>⟨bq,h1,h2,sk h3 hx (λ hn=>by have:=hG bq hn.1;omega)⟩⟩ (λ us w' hx hf=>⟨rfl,?_⟩) ?_;(unfold gives;simp [go_sem,execOp];exact ⟨λ _=>(some ⟨w'.heap.size,0,none⟩,0),rfl,FA _ _,_,rfl,hx.size,(Blk.new w' _ _).rd⟩));(refine R4.ai (λ p => .slice (p 0).1 (S-4) (p 0).2) (λ p w''=>Own w'' W.heap.size (p 0).1 (S-4) (p 0).2 X) ⟨(λ _ h=>by cases h),λ p w1 w2 h hx=>vF h hx (λ k hk=>(hG k hk.1).2)⟩ (λ us w' hx hf=>⟨rfl,?_⟩) ?_;(unfold gives;simp [go_sem,execOp];obtain ⟨bq,e1,e2,e3⟩:=(hf _ (aac _ (aab _)) rfl);rw [e1];exact az hx.size (by have:=aR (some ⟨bq,0,none⟩) 1 1 [X] w' (zY e3 (vg hS4 hx (hb0G _ _))) Zo (S-4) (by rw [bP];exact hXl) Zo;rw [bP] at this;exact this)));(repeat (apply R4.eB;(case h=>(intro us w' hx hf;refine ⟨rfl,?_⟩;simp [go_sem,execOp, *];(try simp (disch:=omega) only [q17q,q18q,q19q]);rfl));(try simp only [Act.put,q0q,q1q,q2q])));(refine R4.ai (λ p => .slice (p 0).1 1 1) (λ p w''=>∃ bq,(p 0).1=some ⟨bq,0,none⟩/\W.heap.size<=bq/\Rd w'' (some ⟨bq,0,none⟩) [Zz Zx ((T:Nat):Int), .slice (p 1).1 (S-4) (p 1).2]/\Own w'' W.heap.size (p 1).1 (S-4) (p 1).2 X) ⟨(λ _ h=>by cases h),λ p w1 w2 ⟨bq,h1,h2,h3,h4⟩ hx=>⟨bq,h1,h2,sk h3 hx (λ hn=>by have:=hG bq hn.1;omega),vF h4 hx (λ k hk=>(hG k hk.1).2)⟩⟩ (λ us w' hx hf=>⟨rfl,?_⟩) ?_;(unfold gives;simp [go_sem,execOp];have hO:=(hf _ (aac _ (aab _)) rfl);exact ⟨λ i=>if i=0 then (some ⟨w'.heap.size,0,none⟩,0) else us 16 0,rfl,FA _ _,_,rfl,hx.size,(Blk.new w' _ _).rd,hO.ext (FA _ _)⟩));(refine R4.AW (la.map (·.block)) (λ g e=>(hGm g).2 (.inl e)) (λ _ _ h=>by cases h) (λ p => .slice (p 0).1 (A.length+1) (p 0).2) (λ p w''=>kx (λ k=>k∈G/\la.map (·.block)≠some k) 79 w'' w.heap.size (p 0).1 (A.length+1) (p 0).2 (A++[(((T:Nat):Int),X)])) (λ p w1 w2 h hx=>h.chg hx) (λ us w' hx hf=>⟨rfl,?_⟩) ?_;(obtain ⟨bq,e1,e2,e3,e4⟩:=(hf _ (aac _ (aab _)) rfl);obtain ⟨sa,sc,w2,r1,r2,r3⟩:=se VF w' _ w.heap.size la A.length lc A (hX1.chg hx) bq ((T:Nat):Int) _ (S-4) _ X e3 e4.sl e4.le.1 (Own.inT e4 Zd) (Ay e4 (λ k hk=>(hG k hk.1).2)) (BY e4) Zd (λ k hk=>aai (hG k hk.1).2 hx.size) 1 Zo (aal hBW hx.size);exact R5.gg (s := .tmp 45) (x := .tmp 63) rfl rfl (by show Value.slice (us 18 0).1 1 1=_;rw [e1]) r1 ⟨λ _=>(sa,sc),rfl,by have:=Chg.of_grown r3;rwa [eT] at this,r2⟩));(repeat (apply R4.eB;(case h=>(intro us w' hx hf;refine ⟨rfl,?_⟩;simp [go_sem,execOp, *];(try simp (disch:=omega) only [q17q,q18q,q19q]);rfl));(try simp only [Act.put,q0q,q1q,q2q])));(refine R4.ai (λ p => .slice (p 0).1 1 1) (λ p w''=>∃ bq,(p 0).1=some ⟨bq,0,none⟩/\W.heap.size<=bq/\Rd w'' (some ⟨bq,0,none⟩) [Zz Zx ((o:Nat):Int)]) ⟨(λ _ h=>by cases h),λ p w1 w2 ⟨bq,h1,h2,h3⟩ hx=>⟨bq,h1,h2,sk h3 hx (λ hn=>by have:=hG bq hn.1;omega)⟩⟩ (λ us w' hx hf=>⟨rfl,?_⟩) ?_;(unfold gives;simp [go_sem,execOp];exact ⟨λ _=>(some ⟨w'.heap.size,0,none⟩,0),rfl,FA _ _,_,rfl,hx.size,(Blk.new w' _ _).rd⟩));(refine R4.AW (pa.map (·.block)) (λ g e=>(hGm g).2 (.inr e)) (λ g e=>by rw [q5q];exact hdj g e) (λ p => .slice (p 0).1 (A.length+1) (p 0).2) (λ p w''=>fA w'' w.heap.size (p 0).1 (A.length+1) (p 0).2 (mo A++[((o:Nat):Int)])/\∀ g,(Value.slice (p 0).1 (A.length+1) (p 0).2).ownBlock=some g->¬ (g∈G/\pa.map (·.block)≠some g)) (λ p w1 w2 h hx=>⟨h.1.chg hx h.2,h.2⟩) (λ us w' hx hf=>⟨rfl,?_⟩) ?_;(obtain ⟨bq,e1,e2,e3⟩:=(hf _ (aac _ (aab _)) rfl);obtain ⟨sa,sc,w2,r1,r2,r3,r4⟩:=rn w' _ w.heap.size pa A.length pc (mo A) (hP.chg hx (λ g e hk=>hk.2 (by rw [<- eT pa A.length pc];exact e))) bq _ e3 1 Zo (aal hBW hx.size);exact R5.gg (s := .tmp 65) (x := .tmp 67) rfl rfl (by show Value.slice (us 22 0).1 1 1=_;rw [e1]) r1 ⟨λ _=>(sa,sc),rfl,by have:=Chg.of_grown r3;rwa [eT] at this,r2,λ g eg hk=>by
          rcases r4 with r4|r4
          ·rw [r4] at eg;exact hk.2 (by rw [<- eT pa A.length pc];exact eg)
          ·rw [r4] at eg;injection eg with eg;have:=(hG g hk.1).2;have:=hx.size;omega⟩))
         (refine R4.fN ?_;intro us w' hx hf hd;(try simp only [Act.put,q0q,q1q,q2q,wpList_none]);(try simp only [q3q,q4q,abt,aa7,forall_eq,q5q,q6q,q7q,false_or,true_and,and_true] at hf);(try simp only [Nat.reduceAdd,aaA] at hf ⊢));obtain ⟨-, -, -,hF2, -,hP2, -⟩:=hf;have hE2:Ext w w':=E9 hE ⟨hx.1,hx.2.1,hx.2.2.1,hx.size,λ k hk=>hx.block k (aai hk hBW) (λ hkG=>by have:=(hG k hkG).1;omega)⟩;obtain ⟨sa,hsa⟩:∃ a,(us 19 0).1=a:=⟨_,rfl⟩;obtain ⟨sc,hsc⟩:∃ a,(us 19 0).2=a:=⟨_,rfl⟩;obtain ⟨ja,hja⟩:∃ a,(us 23 0).1=a:=⟨_,rfl⟩;obtain ⟨jc,hjc⟩:∃ a,(us 23 0).2=a:=⟨_,rfl⟩;rw [hsa,hsc] at hF2 ⊢;rw [hja,hjc] at hP2 ⊢;clear hsa hsc hja hjc hx hd hX1 hdj hb0G hG hGm hgt;go_wp2_with fail;go_roundw
         case rel=>exact ⟨o+S,A++[(((T:Nat):Int),X)],sa,sc,ja,jc,Zo,by simp;omega,Zg,by rw [aag];rfl,by rw [aag];rfl,htot,hm2,by rw [aag];exact hF2.ownU,by rw [aag,hpl];exact hP2,hE2⟩
         case measure=>simp [intOf];omega
     ·exact z44q11
   ·obtain rfl:o=n:=by omega
    have i2:¬ (o:Int)<(o:Int):=Zo;have er:=FC (show r=(A,0) by rw [hm.out,aaF Zo,lM];simp [pQ]);go_wp2_with fail;refine aaa (v := .tuple #[Zy la A.length lc, Zy pa A.length pc, Zz Zx 0]) (by simp [results,Tryz.results109,go_sem]) rfl ?_;rw [er.out];exact ⟨la,lc,pa,pc,rfl,hF.ownI,hP,hE⟩
theorem jv (a:E8)(n c:Nat) (b:E7)(w:World)(hS:Sl w a n b) (hc:n<=c) (hn:n<=1000000) :
  Calls Tryz.prog 70 #[Zy a n c] w (tn (bj b) w):=by
 have hw:=qW a n c b w hS hc hn;generalize bj b=r at *
 go_enter Tryz.func70,Tryz.ntmps70
 go_wp2_with fail;(with_reducible refine hw.mono ?_);rintro e w1 ⟨a1,c1,a2,c2,rfl,h1,h2,hx⟩;go_wp2_with fail;refine aaa (v := .tuple #[Zy a1 r.1.length c1, Zz Zx r.2]) (by simp [results,Tryz.results70,go_sem]) rfl ?_;exact ⟨a1,c1,rfl,h1,hx⟩
def DL (r:List Fld × Int) (w:World)(e:Ending) (w':World):Prop:=∃ b d,e = .returned (.tuple #[Zy b r.1.length d, Zz Zx r.2])/\fA w' w.heap.size b r.1.length d (mo r.1)/\Ext w w'
theorem rR (a:E8)(n c:Nat) (b:E7)(w:World)(hS:Sl w a n b) (hc:n<=c) (hn:n<=1000000) :
  Calls Tryz.prog 88 #[Zy a n c] w (DL (bj b) w):=by
 have hw:=qW a n c b w hS hc hn;generalize bj b=r at *
 go_enter Tryz.func88,Tryz.ntmps88
 go_wp2_with fail;(with_reducible refine hw.mono ?_);rintro e w1 ⟨a1,c1,a2,c2,rfl,h1,h2,hx⟩;go_wp2_with fail;refine aaa (v := .tuple #[Zy a2 r.1.length c2, Zz Zx r.2]) (by simp [results,Tryz.results88,go_sem]) rfl ?_;exact ⟨a2,c2,rfl,h2,hx⟩
theorem jj (t:Int) (a:E8)(n c:Nat) (L:List Fld) (w:World)(hI:Ib w a n L) (hn:n<=1000000) :
  Calls Tryz.prog 65 #[Zy a n c, Zz Zx t] w λ e w'=>∃ b d,e = .returned (Zy b (ixs t L L.length).length d)/\fA w' w.heap.size b (ixs t L L.length).length d ((ixs t L L.length).map λ i=>((i:Nat):Int))/\Ext w w':=by
 have hl:=hI.len;obtain ⟨R,hR⟩:∃ R,ixs t L L.length=R:=⟨_,rfl⟩;rw [hR];replace hR:=FC hR
 go_enter Tryz.func65,Tryz.ntmps65
 go_wp2_with fail
 go_loopw [5,6] (λ v5 v6 wr=>∃ (k:Nat) (M:List Nat) (b:E8)(d:Nat),k<=n/\v6 = Zz Zx k/\Hid (ixs t L k=M)/\M.length<=k/\v5 = Zy b M.length d/\fA wr w.heap.size b M.length d (M.map λ i=>((i:Nat):Int))/\Ext w wr) (λ _ v6 _=>n-(intOf v6).toNat)
 case atStart=>exact ⟨0,[],none,0,Zo,rfl,FC (zG t L),Zs,rfl,fA.nil _ _,FD _⟩
 case round =>
  obtain ⟨k,M,b,d,hk,rfl,hM,hMk,rfl,hO,hx⟩:=hrel;by_cases hlt:k<n
  ·obtain ⟨y,hxi⟩:∃ y,L[k]?=some y:=⟨_,List.getElem?_eq_getElem Zo⟩;obtain ⟨b0,o0,g',c',rfl,hb0,hc0,hc1,hSk,hck⟩:=(hI.ext hx).at k hlt _ hxi;have hyd:L.getD k (0,[])=y:=by rw [FF,hxi];rfl
   have i0:(0:Int)<=(k:Int):=Zo;have i1:(k:Int)<(n:Int):=Zo;haveI:=hb0;by_cases ht:y.1=t
   ·have it:(y.1 == t)=true:=by rw [aa5];exact ht
    have hM2:=FC (show ixs t L (k+1)=M++[k] by rw [lL (by rw [hyd];exact ht),hM.out]);clear ht hyd;have hxw:=hx.size
    go_wp2_with (first
     | (at_builtin;refine nM rfl _ _ rfl w.heap.size b M.length d (M.map λ i=>((i:Nat):Int)) rfl wr.heap.size 1 k rfl (hO.ext (FA _ _)) (Blk.new wr #[Zz Zx k] 3).rd Zo (aal hxw (FA wr (.cells #[Zz Zx k] 3)).size) ?_;intro sa sc w2 hO2 hg2 hB2)
     | fail)
    go_roundw
    case rel=>exact ⟨k+1,M++[k],sa,sc,Zo,Zg,hM2,by simp;omega,by rw [aag];rfl,by rw [aag,aaK];exact hO2,E9 (hx.alloc _) hB2⟩
    case measure=>simp [intOf];omega
   ·have it:(y.1 == t)=false:=by rw [aar];exact ht
    have hM2:=FC (show ixs t L (k+1)=M by rw [mL (by rw [hyd];exact ht),hM.out]);clear ht hyd;go_wp2_with fail;go_roundw
    case rel=>exact ⟨k+1,M,b,d,Zo,Zg,hM2,Zo,rfl,hO,hx⟩
    case measure=>simp [intOf];omega
  ·obtain rfl:k=n:=by omega
   have i1:¬ (k:Int)<(k:Int):=Zo;have hRM:R=M:=by rw [<- hR.out,hl,hM.out]
   go_wp2_with fail;refine aaa (v := Zy b M.length d) (by simp [results,Tryz.results65,go_sem]) rfl ?_;exact ⟨b,d,rfl,hO,hx⟩
end Go.Proofs.P9
