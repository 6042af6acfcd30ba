/- Lemmas of this claim, several texts joined. -/
import Derived.Test.YtdmifbfgeeldnaaGreatZ1
import Derived.Test.YtdmifbfgeeldnaaGreatZ3
import Derived.Test.YtdmifbfgeeldnaaGreatZ8
import Derived.Test.YtdmifbfgeeldnaaGreatZ24
import Derived.Test.YtdmifbfgeeldnaaGreatZ28
import Derived.Test.YtdmifbfgeeldnaaGreatZ30
import Derived.Test.YtdmifbfgeeldnaaGreatZ31
import Derived.Test.YtdmifbfgeeldnaaGreatZ32
set_option maxRecDepth 100000
open List renaming setIfInBounds_toArray → q0q, set_cons_succ → q1q, set_cons_zero → q2q, mem_cons → q3q, not_mem_nil → q4q, nil_append → q5q, cons_append → q6q, mem_append → q7q, take_succ_cons → q8q, take_zero → q9q, drop_succ_cons → q10q, drop_zero → q11q, take_nil → q12q, drop_nil → q13q, getElem_toArray → q14q, getElem_cons_succ → q15q, getElem_cons_zero → q16q
open Go.IntWalk renaming i64_in → q17q, rem_in → q18q, wrap64_in → q19q
set_option linter.unusedVariables false
set_option linter.unusedSimpArgs false
/- Open undoes Protect: plain functions. No program. -/
namespace Go.Pkt
open Go.Oct Go.Aes Go.Sec
theorem padL_4 (l:List UInt8):padL l 4=l++List.replicate (pad4 l.length-l.length) 0:=by
 unfold padL padN pad4
 rw [if_pos (by omega)]
 congr 2
 omega
theorem padL_4_length (l:List UInt8):(padL l 4).length=pad4 l.length:=by
 rw [padL_4,List.length_append,List.length_replicate];unfold pad4;omega
theorem guardB_len (n s:List UInt8):(guardB n s).length=4+pad4 n.length+pad4 s.length:=by
 simp only [guardB,List.length_append,putL_length,padL_4_length];omega
theorem partsE_guardB {n s:List UInt8} (h1:16≤n.length) (h2:n.length≤32) (h3:s.length<65536):partsE (guardB n s)=some (n,s):=by
 have e0:getN ((guardB n s).take 2)=n.length:=by
  unfold guardB;rw [take_app _ _ _ (putL_length _ _),getN_put2 _ (by omega)]
 have e1:getN (((guardB n s).drop 2).take 2)=s.length:=by
  unfold guardB;rw [drop_app _ _ _ (putL_length _ _),take_app _ _ _ (putL_length _ _),getN_put2 _ (by omega)]
 have e2:(guardB n s).drop 4=padL n 4++padL s 4:=by
  unfold guardB;rw [show (4:Nat)=2+2 from rfl,drop_more _ _ 2 2 (putL_length _ _),drop_app _ _ _ (putL_length _ _)]
 have e3:((guardB n s).drop 4).take n.length=n:=by
  rw [e2,padL_4,List.append_assoc,take_app _ _ _ rfl]
 have e4:((guardB n s).drop (4+pad4 n.length)).take s.length=s:=by
  rw [← List.drop_drop,e2,drop_app _ _ _ (padL_4_length n),padL_4,take_app _ _ _ rfl]
 unfold partsE
 simp only [e0,e1,e3,e4]
 rw [if_pos ⟨by rw [guardB_len];omega,⟨h1,h2⟩,guardB_len n s,trivial⟩]
theorem padF_guard {n s:List UInt8} (h1:16≤n.length):padF (1028,guardB n s)=(1028,guardB n s):=by
 unfold padF
 have h:=guardB_len n s
 have:szN (guardB n s).length-4-(guardB n s).length=0:=by rw [h];unfold szN pad4;omega
 rw [this];simp
theorem ixs_app_none {k:Int} {L:List Fld} (M:List Fld) (h:∀ f∈L,f.1≠k):∀ j,j≤L.length→ixs k (L++M) j=[]:=by
 intro j
 induction j with
 | zero=>intro _;rfl
 | succ j ih =>
  intro hj
  rw [ixs_no,ih (by omega)]
  rw [List.getD_eq_getElem?_getD,List.getElem?_append_left (by omega),List.getElem?_eq_getElem (by omega)]
  exact h _ (List.getElem_mem _)
theorem ixs_none {k:Int} {L:List Fld} (h:∀ f∈L,f.1≠k):ixs k L L.length=[]:=by
 have:=ixs_app_none [] h L.length (Nat.le_refl _)
 rwa [List.append_nil] at this
theorem encF_of {L:List Fld} (h:∀ f∈L,(0≤f.1∧f.1≤65535)∧szN f.2.length≤1232) (h2:L.length≤24) (h3:totN L≤1232):encF L=(bytesF L,0):=by
 have hb:badE L=0:=by
  clear h2 h3
  induction L with
  | nil=>rfl
  | cons f L ih =>
   obtain ⟨⟨a,b⟩,c⟩:=h f (List.mem_cons_self ..)
   have:(sizE f).2=0:=by unfold sizE;rw [if_neg (by omega),if_neg (by omega)]
   rw [badE,if_neg (by simpa using this)]
   exact ih fun g hg=>h g (List.mem_cons_of_mem _ hg)
 unfold encF
 rw [hb,if_neg (by simp),if_neg (by omega),if_neg (by omega)]
structure Fits (p:Pkt) (nn:Nat):Prop where
 h:okH p.h
 f1:∀ f∈p.plain,(0≤f.1∧f.1≤65535)∧szN f.2.length≤1232
 f2:∀ f∈p.secret,(0≤f.1∧f.1≤65535)∧szN f.2.length≤1232
 a:∀ f∈p.plain,f.1≠1028
 n1:p.plain.length<24
 n2:p.secret.length≤24
 n0:16≤nn∧nn≤32
 t:48+totN p.plain+(8+pad4 nn+pad4 (16+totN p.secret))≤1280
 t2:totN p.secret≤1232
def sealB (ky:List UInt8)(p:Pkt) (nonce:List UInt8):List UInt8:=(sealE ky [hdrB p.h++bytesF p.plain,nonce] (bytesF p.secret)).1
theorem fits_open {p:Pkt} {nn:Nat} (h:Fits p nn):encH p.h=(hdrB p.h,0)∧encF p.plain=(bytesF p.plain,0)∧encF p.secret=(bytesF p.secret,0)∧openB p.h p.plain=(hdrB p.h++bytesF p.plain,0):=by
 have h1:encH p.h=(hdrB p.h,0):=if_pos h.h
 have h2:=encF_of h.f1 (by have:=h.n1;omega) (by have:=h.t;omega)
 have h3:=encF_of h.f2 h.n2 h.t2
 refine ⟨h1,h2,h3,?_⟩
 unfold openB
 rw [h1,h2,if_neg (by simp),if_neg (by simp)]
theorem checkA2 {ky a b:List UInt8} (h:ky.length=32) (ha:a.length≤65519) (hb:b.length≤65519):checkA ky [a,b]=0:=by
 exact z32q80
theorem fits_len {p:Pkt} {nn:Nat} (h:Fits p nn):(hdrB p.h++bytesF p.plain).length=48+totN p.plain:=by rw [List.length_append,hdrB_length,bytesF_length]
theorem sealB_len {ky nonce:List UInt8} {p:Pkt} (hk:ky.length=32) (h:Fits p nonce.length):(sealB ky p nonce).length=16+totN p.secret:=by
 have hl:=fits_len h
 have ht:=h.t
 have ht2:=h.t2
 have hn:=h.n0
 unfold sealB
 rw [(seal2 hk (by omega) (by omega) (by rw [bytesF_length];omega)).2,bytesF_length]
theorem protE_fits {ky nonce:List UInt8} {p:Pkt} (hk:ky.length=32) (h:Fits p nonce.length):protE ky p nonce=(hdrB p.h++bytesF p.plain++fldB (1028,guardB nonce (sealB ky p nonce)),0) ∧
  (fldB (1028,guardB nonce (sealB ky p nonce))).length=8+pad4 nonce.length+pad4 (16+totN p.secret):=by
 obtain ⟨e1,e2,e3,e4⟩:=fits_open h
 have hl:=fits_len h
 have ht:=h.t
 have hn:=h.n0
 have hsl:=sealB_len hk h
 have hgl:=guardB_len nonce (sealB ky p nonce)
 rw [hsl] at hgl
 have hsz:szN (guardB nonce (sealB ky p nonce)).length=8+pad4 nonce.length+pad4 (16+totN p.secret):=by rw [hgl];unfold szN pad4;omega
 have hle:szN (guardB nonce (sealB ky p nonce)).length≤1232:=by rw [hsz];omega
 have htt:totN [((1028:Int),guardB nonce (sealB ky p nonce))]=szN (guardB nonce (sealB ky p nonce)).length:=by simp [totN]
 have hlast:lastF ky p nonce=(fldB (1028,guardB nonce (sealB ky p nonce)),0):=by
  unfold lastF
  rw [e4,e3]
  show encF [(1028,guardB nonce (sealB ky p nonce))]=_
  rw [encF_of (by intro f hf;rw [List.mem_singleton.1 hf];exact ⟨⟨by simp,by simp⟩,hle⟩) (by simp) (by rw [htt];exact hle)]
  simp [bytesF]
 have hfl:(fldB (1028,guardB nonce (sealB ky p nonce))).length=8+pad4 nonce.length+pad4 (16+totN p.secret):=by rw [fldB_length];exact hsz
 refine ⟨?_,hfl⟩
 rw [protE_at hk (by omega) (by rw [e4]) (by rw [e3]),if_neg (by rw [ixs_none h.a];simp),if_neg (by have:=h.n1;omega),hlast,e4]
 show (if (0:Int)≠0∨1280<(hdrB p.h++bytesF p.plain).length+(fldB (1028,guardB nonce (sealB ky p nonce))).length then _ else _)=_
 rw [if_neg (by rw [hl,hfl];omega)]
theorem readE_fits {ky nonce:List UInt8} {p:Pkt} (hk:ky.length=32) (h:Fits p nonce.length) :
  readE (hdrB p.h++bytesF p.plain++fldB (1028,guardB nonce (sealB ky p nonce)))=(⟨p.h,p.plain.map padF++[(1028,guardB nonce (sealB ky p nonce))],[],false⟩,0):=by
 obtain ⟨_,hfl⟩:=protE_fits hk h
 have hn:=h.n0
 have ht:=h.t
 have hG:(fldB (1028,guardB nonce (sealB ky p nonce))).length=szN (guardB nonce (sealB ky p nonce)).length:=fldB_length _
 have e:hdrB p.h++bytesF p.plain++fldB (1028,guardB nonce (sealB ky p nonce))=hdrB p.h++bytesF (p.plain++[(1028,guardB nonce (sealB ky p nonce))]):=by
  rw [List.append_assoc,bytesF_snoc]
 have htot:=totN_snoc p.plain (1028,guardB nonce (sealB ky p nonce))
 have hd:decH (hdrB p.h++bytesF (p.plain++[(1028,guardB nonce (sealB ky p nonce))]))=((p.h,bytesF (p.plain++[(1028,guardB nonce (sealB ky p nonce))])),0) :=
  decH_hdrB p.h h.h _ (by rw [bytesF_length,htot];simp only;omega)
 have hf:decF (bytesF (p.plain++[(1028,guardB nonce (sealB ky p nonce))]))=(p.plain.map padF++[(1028,guardB nonce (sealB ky p nonce))],0):=by
  unfold decF
  rw [if_neg (by rw [bytesF_length,htot];simp only;omega),decR_bytesF _ 24 (by rw [List.length_append];have:=h.n1;simp;omega)]
  ·rw [List.map_append]
   show (p.plain.map padF++[padF (1028,guardB nonce (sealB ky p nonce))],0)=_
   rw [padF_guard hn.1]
  ·intro f hf
   rcases List.mem_append.1 hf with h1|h1
   ·exact h.f1 f h1
   ·rw [List.mem_singleton.1 h1]
    exact ⟨⟨by simp,by simp⟩,by show szN (guardB nonce (sealB ky p nonce)).length≤1232;omega⟩
 rw [e]
 unfold readE
 rw [hd]
 simp only
 rw [hf]
 simp
theorem firstI_app {k:Int} {L:List Fld} {f:Fld} (h:∀ g∈L,g.1≠k) (hf:f.1=k):firstI k (L++[f])=some L.length:=by
 refine firstI_some (by simp) (ixs_app_none [f] h L.length (Nat.le_refl _)) ?_
 rw [List.getD_eq_getElem?_getD,List.getElem?_append_right (Nat.le_refl _)]
 simpa using hf
theorem openP_fits {ky nonce:List UInt8} {p:Pkt} (hk:ky.length=32) (h:Fits p nonce.length) :
  openP ky (hdrB p.h++bytesF p.plain++fldB (1028,guardB nonce (sealB ky p nonce)))=(⟨p.h,p.plain.map padF,p.secret.map padF,true⟩,0):=by
 obtain ⟨_,hfl⟩:=protE_fits hk h
 have hr:=readE_fits hk h
 have hl:=fits_len h
 have hn:=h.n0
 have ht:=h.t
 have ht2:=h.t2
 have hsl:=sealB_len hk h
 have hgl:=guardB_len nonce (sealB ky p nonce)
 have hmap:∀ g∈p.plain.map padF,g.1≠1028:=by
  intro g hg
  obtain ⟨f,hf,rfl⟩:=List.mem_map.1 hg
  exact h.a f hf
 have hfi:=firstI_app (f:=(1028,guardB nonce (sealB ky p nonce))) hmap rfl
 have hgd:(p.plain.map padF++[((1028:Int),guardB nonce (sealB ky p nonce))]).getD (p.plain.map padF).length (0,[])=(1028,guardB nonce (sealB ky p nonce)):=by
  rw [List.getD_eq_getElem?_getD,List.getElem?_append_right (Nat.le_refl _)];simp
 have hpt:=partsE_guardB (n:=nonce) (s:=sealB ky p nonce) hn.1 hn.2 (by rw [hsl];omega)
 have htk:(hdrB p.h++bytesF p.plain++fldB (1028,guardB nonce (sealB ky p nonce))).take ((hdrB p.h++bytesF p.plain++fldB (1028,guardB nonce (sealB ky p nonce))).length-(guardB nonce (sealB ky p nonce)).length-4)=hdrB p.h++bytesF p.plain:=by
  refine take_app _ _ _ ?_
  have hall:(hdrB p.h++bytesF p.plain++fldB (1028,guardB nonce (sealB ky p nonce))).length=48+totN p.plain+(8+pad4 nonce.length+pad4 (16+totN p.secret)):=by rw [List.length_append,hl,hfl]
  rw [hl,hall,hgl,hsl]
  omega
 have hop:openE ky [hdrB p.h++bytesF p.plain,nonce] (sealB ky p nonce)=(bytesF p.secret,0):=openE_seal (checkA2 hk (by omega) (by omega)) (by rw [bytesF_length];omega)
 have hdf:decF (bytesF p.secret)=(p.secret.map padF,0):=by
  unfold decF
  rw [if_neg (by rw [bytesF_length];omega)]
  exact decR_bytesF _ 24 h.n2 h.f2
 unfold openP
 rw [if_neg (by omega),hr]
 simp only
 rw [if_neg (by simp),hfi]
 simp only
 rw [if_neg (by simp),hgd]
 simp only
 rw [hpt]
 simp only
 rw [htk,hop]
 simp only
 rw [if_neg (by simp),hdf]
 simp
end Go.Pkt

/- Layer 22: the jars that the statements draw, as plain functions. No program. -/
namespace Go.Jar
open Go.Sha Go.Pkt Go.Oct Go.Aes Go.Lane
theorem ckW_nodup {s k:Nat} (hs:s<1024) (hk:k≤8):(ckW s k).Nodup:=by
 have h:=cookiesK hs
 unfold offsK at h
 have h:=List.pairwise_map.1 (List.pairwise_append.1 h).1
 unfold ckW List.Nodup
 rw [List.pairwise_map]
 exact h.sublist (List.range_sublist.2 hk)
def ck0 (s:Nat):List UInt8:=wbytes (s+1000003) 104
theorem ck0_length (s:Nat):(ck0 s).length=104:=wbytes_length _ _
theorem ckW_cons (s k:Nat):ckW s (k+1)=ck0 s :: (ckW s (k+1)).tail:=by
 unfold ckW
 rw [List.range_succ_eq_map]
 rfl
theorem nil_ckW {s k:Nat}:([]:List UInt8) ∉ ckW s k:=fun h=>by have:=ckW_104 h;simp at this
theorem jarW_valid {s k:Nat} (hs:s<1024) (hk:k≤8):validJ (jarW s k)=true:=by
 refine validJ_end ?_ (fun b hb=>ckW_104 hb) (ckW_nodup hs hk)
 refine ⟨⟨upW_length s,dnW_length s⟩,?_, .inl rfl,nil_ckW,?_,?_,?_⟩
 ·show (ckW s k).length≤8;rw [ckW_length];exact hk
 ·show (0:Int)≤1;omega
 ·show (0:Int)≤0;omega
 ·show (0:Int)≤1099511627776;omega
def jar1 (s k:Nat):Jar:=⟨upW s,dnW s,(ckW s k).tail,ck0 s,1,1⟩
theorem takeJ_W {s k:Nat} (hs:s<1024) (h1:1≤k) (hk:k≤8):takeJ (jarW s k)=((jar1 s k,ck0 s),0):=by
 obtain ⟨k,rfl⟩:∃ m,k=m+1:=⟨k-1,by omega⟩
 unfold takeJ
 rw [if_pos (jarW_valid hs hk)]
 have hl:(jarW s (k+1)).ck.length=k+1:=ckW_length _ _
 have hn:¬ (jarW s (k+1)).sent=1099511627776:=by show ¬ (0:Int)=1099511627776;omega
 rw [if_neg (by omega),if_neg hn]
 have hh:(jarW s (k+1)).ck.headD []=ck0 s:=by show (ckW s (k+1)).headD []=ck0 s;rw [ckW_cons];rfl
 rw [hh]
 rfl
theorem jar1_valid {s k:Nat} (hs:s<1024) (h1:1≤k) (hk:k≤8):validJ (jar1 s k)=true:=by
 obtain ⟨k,rfl⟩:∃ m,k=m+1:=⟨k-1,by omega⟩
 have hn:=ckW_nodup hs hk
 have hc:=ckW_cons s k
 have hl:=ckW_length s (k+1)
 rw [hc] at hn hl
 rw [List.nodup_cons] at hn
 rw [List.length_cons] at hl
 refine validJ_end ?_ (fun b hb=>ckW_104 (s:=s) (k:=k+1) (List.mem_of_mem_tail hb)) hn.2
 refine ⟨⟨upW_length s,dnW_length s⟩,?_, .inr (ck0_length s),hn.1,?_,?_,?_⟩
 ·show (ckW s (k+1)).tail.length≤8;omega
 ·show (0:Int)≤1;omega
 ·show (0:Int)≤1;omega
 ·show (1:Int)≤1099511627776;omega
theorem szQ {u c:List UInt8} {k:Nat} (hu:u.length=32) (hc:c.length=104) {f:Fld} (h:f∈plainQ u c k):(0≤f.1∧f.1≤65535)∧f.1≠1028∧szN f.2.length≤108∧f.2.length≤104:=by
 rcases plainQ_in h with h|h|h
 ·rw [h];refine ⟨by simp,by simp,?_,?_⟩
  ·show szN u.length≤108;rw [hu];decide
  ·show u.length≤104;omega
 ·rw [h];refine ⟨by simp,by simp,?_,?_⟩
  ·show szN c.length≤108;rw [hc];decide
  ·show c.length≤104;omega
 ·rw [h];refine ⟨by simp,by simp,?_,?_⟩
  ·show szN (List.replicate 104 (0:UInt8)).length≤108;rw [List.length_replicate];decide
  ·show (List.replicate 104 (0:UInt8)).length≤104;rw [List.length_replicate];omega
theorem totQ {u c:List UInt8} (hu:u.length=32) (hc:c.length=104) (k:Nat):totN (plainQ u c k)=36+108*(k+1):=by
 induction k with
 | zero =>
  have e:totN (plainQ u c 0)=szN u.length+szN c.length:=by simp [plainQ,totN]
  rw [e,hu,hc];decide
 | succ k ih =>
  rw [plainQ_succ,totN_snoc,ih]
  show 36+108*(k+1)+szN (List.replicate 104 (0:UInt8)).length=_
  rw [List.length_replicate,show szN 104=108 from by decide]
  omega
theorem fitsQ {u c:List UInt8} (hu:u.length=32) (hc:c.length=104) (t:UInt64) {k:Nat} (hk:k≤7):Fits (pktQ t u c k) 16 where
 h:=askH_ok t
 f1:=fun f hf=>⟨(szQ hu hc hf).1,Nat.le_trans (szQ hu hc hf).2.2.1 (by omega)⟩
 f2:=fun f hf=>by cases hf
 a:=fun f hf=>(szQ hu hc hf).2.1
 n1:=by show (plainQ u c k).length<24;rw [plainQ_length];omega
 n2:=by show 0≤24;omega
 n0:=by omega
 t:=by
  show 48+totN (plainQ u c k)+(8+pad4 16+pad4 (16+totN []))≤1280
  rw [totQ hu hc,show totN []=0 from rfl]
  unfold pad4;omega
 t2:=by show totN []≤1232;rw [show totN []=0 from rfl];omega
def quesX (s k:Nat) (t:UInt64) (u nn:List UInt8):List UInt8:=(protE (upW s) (pktQ t u (ck0 s) (8-k)) nn).1
theorem quesJ_W {s k:Nat} (hs:s<1024) (h1:1≤k) (hk:k≤8) (t:UInt64) {u nn:List UInt8} (hu:u.length=32) (hn:nn.length=16):quesJ (jarW s k) t u nn=((jar1 s k,quesX s k t u nn),0)∧(quesX s k t u nn).length=124+108*(9-k) ∧
  openP (upW s) (quesX s k t u nn)=(⟨askH t,(plainQ u (ck0 s) (8-k)).map padF,[],true⟩,0):=by
 have hf:=fitsQ hu (ck0_length s) t (show 8-k≤7 by omega)
 rw [← hn] at hf
 have hp:=protE_fits (upW_length s) hf
 have hl:(jar1 s k).ck.length=k-1:=by show (ckW s k).tail.length=k-1;rw [List.length_tail,ckW_length]
 have e1:quesX s k t u nn=_:=congrArg Prod.fst hp.1
 refine ⟨?_,?_,?_⟩
 ·unfold quesJ
  rw [if_pos ⟨jarW_valid hs hk,hu,hn⟩,takeJ_W hs h1 hk]
  simp only
  rw [hl,show 7-(k-1)=8-k by omega,if_pos trivial]
  show (if (protE (upW s) (pktQ t u (ck0 s) (8-k)) nn).2=0 then _ else _)=_
  rw [if_pos (by rw [hp.1])]
  rfl
 ·have h3:=hp.2
  have h4:=fits_len hf
  rw [e1]
  show (hdrB (askH t)++bytesF (plainQ u (ck0 s) (8-k))++fldB (1028,guardB nn (sealB (upW s) (pktQ t u (ck0 s) (8-k)) nn))).length=_
  rw [List.length_append,h3]
  have h4:(hdrB (askH t)++bytesF (plainQ u (ck0 s) (8-k))).length=48+totN (plainQ u (ck0 s) (8-k)):=h4
  rw [h4,totQ hu (ck0_length s),hn]
  show 48+(36+108*(8-k+1))+(8+pad4 16+pad4 (16+totN []))=_
  rw [show totN []=0 from rfl]
  unfold pad4
  omega
 ·have h5:=openP_fits (upW_length s) hf
  rw [e1]
  exact h5
end Go.Jar

/- Layer 22: what a question's fields read as. No program. -/
namespace Go.Jar
open Go.Sha Go.Pkt Go.Oct Go.Aes
end Go.Jar

/- The walks of layer 18: parse. -/
namespace Go.Proofs.YtdmifbfgeeldnaaGreat
open Go.RowKit Go.Sec Go.Oct Go.Pkt Go.Aes BigFrame
theorem RG2:RowT Tryz.prog 86 2:=⟨⟨_,Tryz.underlying86,rfl⟩,by kernel_rfl,⟨_,Tryz.zeroValue86,by kernel_rfl⟩⟩
def ParseOut (r:Option (List UInt8 × List UInt8)) (w:World)(e:Ending) (w':World):Prop :=
 ∃ a1 n1 c1 a2 n2 c2,e = .returned (.tuple #[.agg #[.slice a1 n1 c1, .slice a2 n2 c2], .bool r.isSome])∧(∀ x,r=some x→Sl w' a1 n1 x.1∧n1≤c1∧Sl w' a2 n2 x.2∧n2≤c2)∧Ext w w'
theorem ParseOut.no (w w':World)(hx:Ext w w'):ParseOut none w (.returned (.tuple #[.agg #[.slice none 0 0, .slice none 0 0], .bool false])) w':=⟨_,_,_,_,_,_,rfl,fun x h=>(by cases h),hx⟩
theorem getN2_int (l:List UInt8)(h:l.length≤2):n64 (getL l)=((getN l:Nat):Int):=by
 unfold n64;rw [getL_nat _ (by omega)]
theorem partsE_short {d:List UInt8} (h:d.length<4):partsE d=none:=if_neg fun k=>by have:=k.1;omega
theorem partsE_nonce {d:List UInt8} (h:¬ (16≤getN (d.take 2)∧getN (d.take 2)≤32)):partsE d=none:=if_neg fun k=>h k.2.1
theorem partsE_len {d:List UInt8} (h:d.length≠4+pad4 (getN (d.take 2))+pad4 (getN ((d.drop 2).take 2))):partsE d=none:=if_neg fun k=>h k.2.2.1
theorem partsE_ne {d:List UInt8} (h:guardB ((d.drop 4).take (getN (d.take 2))) ((d.drop (4+pad4 (getN (d.take 2)))).take (getN ((d.drop 2).take 2)))≠d):partsE d=none:=if_neg fun k=>h k.2.2.2
theorem partsE_yes {d:List UInt8} (h0:4≤d.length) (h1:16≤getN (d.take 2)∧getN (d.take 2)≤32) (h2:d.length=4+pad4 (getN (d.take 2))+pad4 (getN ((d.drop 2).take 2)))
  (h:guardB ((d.drop 4).take (getN (d.take 2))) ((d.drop (4+pad4 (getN (d.take 2)))).take (getN ((d.drop 2).take 2)))=d):partsE d=some ((d.drop 4).take (getN (d.take 2)),(d.drop (4+pad4 (getN (d.take 2)))).take (getN ((d.drop 2).take 2))):=if_pos ⟨h0,h1,h2,h⟩
set_option maxHeartbeats 2000000 in
theorem pparse_any (a:Option Addr)(k c:Nat) (d:List UInt8)(w:World)(hS:Sl w a k d) (hc:k≤c) (hk:k≤1000000) :
  Calls Tryz.prog 48 #[.slice a k c] w (ParseOut (partsE d) w):=by
 have hl:=hS.len
 obtain ⟨r,hr⟩:∃ r,partsE d=r:=⟨_,rfl⟩
 rw [hr]
 have hr:=Lib.hid hr
 by_cases h4:k<4
 ·have er:=Lib.hid (show r=none by rw [← hr.out];exact partsE_short (by omega))
  have hcut:=fun W=>cut_no a k c 4 W (.inr (by omega))
  go_enter Tryz.func48,Tryz.ntmps48
  go_wp2_with fail
  refine nameCl ?_
  intro W hW
  have hE:Ext w W:=by rw [hW];exact eX
  have hG:Blk W w.heap.size 86 [.slice none 0 0, .slice none 0 0]:=by rw [hW];exact bK
  clear hW
  (with_reducible refine (hcut W).mono ?_)
  rintro e w1 ⟨rfl,hx1⟩
  have hE1:=hE.trans hx1
  have hG:=hG.extB hx1
  haveI:=hG.blt
  go_wp2_with (first
   | (refine wpList_store_arr (RG2) rfl _ _ rfl (w.heap.size) (0) rfl ([.slice none 0 0, .slice none 0 0]) rfl (86) _ (hG) (rfl) (by simp) (oC) ?_;intro V hV hMV)
   | fail)
  refine bodyPost_ret (results_arr_tmp Tryz.results48 (RG2) _ _ (w.heap.size) (0) ([.slice none 0 0, .slice none 0 0]) rfl (hV.rd) (rfl) (.bool false) rfl) rfl ?_
  rw [er.out]
  exact ParseOut.no _ _ (Below.trans hE1 (hMV.below (by omega) hE1.size))
 ·have hcut:=fun W H=>cut_ok a k c d 4 W H hk (by omega) hc
  simp only [Int.cast_ofNat_Int] at hcut
  have hh1:((d.take 4).take 2).length≤2:=by simp;omega
  have hh2:((d.take 4).drop 2).length≤2:=by simp;omega
  have g1:=getN2_int _ hh1
  have g2:=getN2_int _ hh2
  have b1:=getN_two (d.take 4)
  have b2:getN ((d.take 4).drop 2)<65536:=by have:=getN_lt ((d.take 4).drop 2);have h2:(256:Nat) ^ ((d.take 4).drop 2).length≤256 ^ 2:=Nat.pow_le_pow_right (by omega) hh2;omega
  have e1:(d.take 4).take 2=d.take 2:=by rw [List.take_take];rfl
  have e2:(d.take 4).drop 2=(d.drop 2).take 2:=by rw [List.drop_take]
  have hL4:(d.take 4).length=4:=by simp;omega
  have e3:∀ x,(d.drop 4).drop x=d.drop (4+x):=fun x=>by rw [List.drop_drop]
  go_enter Tryz.func48,Tryz.ntmps48
  go_wp2_with fail
  refine nameCl ?_
  intro W hW
  have hE:Ext w W:=by rw [hW];exact eX
  have hG:Blk W w.heap.size 86 [.slice none 0 0, .slice none 0 0]:=by rw [hW];exact bK
  clear hW
  (with_reducible refine (hcut W (hS.ext hE)).mono ?_)
  rintro e w1 ⟨a1,c1,a2,c2,rfl,hO1,hO2,hx1⟩
  have hE1:=hE.trans hx1
  have hG:=hG.extB hx1
  have hS:=hS.ext hE1
  have s1:=hO1.sl
  have s2:=hO2.sl
  have k1:=hO1.le.1
  have k2:=hO2.le.1
  have t1:=s1.take 2 (by omega)
  have t2:=s1.drop c1 2 k1
  have hg1:=fun W H=>oget_any a1 2 c1 ((d.take 4).take 2) W H (by omega) (by omega)
  have hg2:=fun W H=>oget_any (sAdr a1 c1 2 1) 2 (c1-2) ((d.take 4).drop 2) W H (by omega) (by omega)
  rw [g1] at hg1
  rw [g2] at hg2
  rw [e1] at hg1 t1
  rw [e2] at hg2 t2
  have i2:(2:Int)≤(c1:Int):=by omega
  clear hE hx1 hcut hO1 g1 g2 e1 e2 hL4 hh1 hh2
  obtain ⟨n,hn⟩:∃ n,getN (d.take 2)=n:=⟨_,rfl⟩
  obtain ⟨m,hm⟩:∃ m,getN ((d.drop 2).take 2)=m:=⟨_,rfl⟩
  rw [hn] at hg1 
  rw [hm] at hg2
  have nb:n<65536:=by rw [← hn];exact getN_two d
  have mb:m<65536:=by rw [← hm];exact getN_two (d.drop 2)
  have s1b:=hS
  have hL:=Lib.hid hl
  have e3:=Lib.hid e3
  have hn:=Lib.hid hn
  have hm:=Lib.hid hm
  clear b1 b2 s1 hl
  go_wp2_with fail
  refine wp_region_vague 10 [[],[0],[0,1],[0,1,2],[],[4],[0,1,2,4,5],[0,1,2,4,5,6],[0,1,2,3,4,5,6],[0,1,2,3,4,5,6,7,8]] (by kernel_rfl) (by kernel_rfl) (by kernel_rfl) (by kernel_rfl) ?_;simp only [q8q,q9q,q10q,q11q,q12q,q13q]
  (repeat (refine VD_a ?_;(try simp only [Act.put,q0q,q1q,q2q])))
  (refine VD_vag (fun _ => .int .u64 ((n:Nat):Int)) (fun _ _=>True) (fun _ _ _ _ _=>trivial) (fun us w' hx hf=>⟨rfl,?_⟩) ?_;(unfold gives;simp [go_sem,execOp];refine (hg1 _ (t1.ext hx)).mono ?_;rintro e w1 ⟨rfl,hx1⟩;first|exact ⟨rfl,hx1⟩|simpa using hx1))
  (repeat (refine VD_a ?_;(try simp only [Act.put,q0q,q1q,q2q])))
  (refine VD_vag (fun _ => .int .u64 ((m:Nat):Int)) (fun _ _=>True) (fun _ _ _ _ _=>trivial) (fun us w' hx hf=>⟨rfl,?_⟩) ?_;(unfold gives;simp [go_sem,execOp];refine (hg2 _ (t2.ext hx)).mono ?_;rintro e w1 ⟨rfl,hx1⟩;first|exact ⟨rfl,hx1⟩|simpa using hx1))
  (repeat (refine VD_a ?_;(try simp only [Act.put,q0q,q1q,q2q])))
  (refine VD_z ?_;intro us x hx hf;(try simp only [Act.put,q0q,q1q,q2q,wpList_none]);(try simp only [q3q,q4q,or_false,forall_eq_or_imp,forall_eq,q5q,q6q,q7q,false_or,true_and,and_true] at hf);(try simp only [Nat.reduceAdd,Nat.zero_add] at hf ⊢))
  have hwn:IntKind.i64.wrap ((n:Nat):Int)=(n:Int):=by rw [IntKind.wrap_i64];omega
  have hwm:IntKind.i64.wrap ((m:Nat):Int)=(m:Int):=by clear hwn;rw [IntKind.wrap_i64];omega
  try rw [hwn]
  try rw [hwm]
  clear hwn hwm hf
  have hx5:Ext w1 (w1.ext x):=Ext.of_ext _ _
  have hE1:=hE1.trans hx5
  have hG:=hG.extB hx5
  have s2:=s2.ext hx5
  have hS:=hS.ext hx5
  generalize w1.ext x=w1 at *
  haveI:=hG.blt
  clear hg1 hg2 t1 t2 s1b
  have pn:pad4 n<65600:=by unfold pad4;omega
  have pm:pad4 m<65600:=by unfold pad4;omega
  have pn0:n≤pad4 n:=by unfold pad4;omega
  have pm0:m≤pad4 m:=by unfold pad4;omega
  by_cases q1:16≤n∧n≤32
  ·have hnn:=fun W=>pnonced_any n rfl W
   rw [decide_eq_true q1] at hnn
   by_cases q2:k=4+pad4 n+pad4 m
   ·have i3:(((k-4:Nat):Int) != ((pad4 n:Nat):Int)+((pad4 m:Nat):Int))=false:=by rw [bne_eq_false_iff_eq];omega
    have j1:(n:Int)≤(c2:Int):=by omega
    have j2:((pad4 n:Nat):Int)≤((pad4 n:Nat):Int)+(m:Int):=by omega
    have j3:((pad4 n:Nat):Int)+(m:Int)≤(c2:Int):=by omega
    have mk1:n≤c2:=by omega
    have mk2:m≤c2-pad4 n:=by omega
    have u1:=s2.take n (by omega)
    have u2:=(s2.drop c2 (pad4 n) (by omega)).take m (by omega)
    have hql:=Lib.hid q2
    clear q2 s2
    go_wp2_with (first
     | (go_at_call 59;refine (hnn _).mono ?_;rintro e w1 ⟨rfl,hxq⟩;obtain ⟨xq,rfl⟩:=hxq.out;clear hxq)
     | (go_at_call 94;refine (ppadded_any _ rfl _ (by omega)).mono ?_;rintro e w1 ⟨rfl,hxq⟩;obtain ⟨xq,rfl⟩:=hxq.out;clear hxq)
     | fail)
    refine nameW ?_
    intro W5 hW5
    have hE6:Ext w1 W5:=by rw [hW5];exact eX
    clear hW5
    have hE5:=hE1.trans hE6
    have hG5:=hG.extB hE6
    have hS5:=hS.ext hE6
    have u1:=u1.ext hE6
    have u2:=u2.ext hE6
    have hgW5:=hG5.lt
    clear hG hS hE1 hE6 i3
    refine R2.wp_region_vague 13 [[],[],[0,1],[],[],[4],[],[4,5,6],[],[4,5,6,7,8],[3,4,5,6,7,8,9],[0,1,2,3,4,5,6,7,8,9,10],[],[0,1,2,3,4,5,6,7,8,9,10,11,12]] (by kernel_rfl) (by kernel_rfl) (by kernel_rfl) (by kernel_rfl) ?_;simp only [q8q,q9q,q10q,q11q,q12q,q13q]
    (repeat (apply R2.VD_der;(case h=>(intro us w' hx hf;obtain ⟨x,rfl⟩:=hx.out;refine ⟨rfl,?_⟩;simp [go_sem,execOp, *];(try simp (disch:=omega) only [q17q,q18q,q19q]);rfl));(try simp only [Act.put,q0q,q1q,q2q])))
    (refine R2.VD_vag (fun _ => .int .i64 ((pad4 n:Nat):Int)) (fun _ _=>True) (fun _ _ _ _ _=>trivial) (fun us w' hx hf=>⟨rfl,?_⟩) ?_;(unfold gives;simp [go_sem,execOp];refine (ppadded_any n rfl _ (by omega)).mono ?_;rintro e w1 ⟨rfl,hx1⟩;first|exact ⟨rfl,hx1⟩|simpa using hx1))
    (repeat (apply R2.VD_der;(case h=>(intro us w' hx hf;obtain ⟨x,rfl⟩:=hx.out;refine ⟨rfl,?_⟩;simp [go_sem,execOp, *];(try simp (disch:=omega) only [q17q,q18q,q19q]);rfl));(try simp only [Act.put,q0q,q1q,q2q])))
    (refine R2.VD_vag (fun _ => .int .i64 ((pad4 n:Nat):Int)) (fun _ _=>True) (fun _ _ _ _ _=>trivial) (fun us w' hx hf=>⟨rfl,?_⟩) ?_;(unfold gives;simp [go_sem,execOp];refine (ppadded_any n rfl _ (by omega)).mono ?_;rintro e w1 ⟨rfl,hx1⟩;first|exact ⟨rfl,hx1⟩|simpa using hx1))
    (repeat (apply R2.VD_der;(case h=>(intro us w' hx hf;obtain ⟨x,rfl⟩:=hx.out;refine ⟨rfl,?_⟩;simp [go_sem,execOp, *];(try simp (disch:=omega) only [q17q,q18q,q19q]);rfl));(try simp only [Act.put,q0q,q1q,q2q])))
    (refine R2.VD_alloc _ ([.slice none 0 0, .slice none 0 0]) Tryz.zeroValue86 rfl rfl rfl ?_)
    (refine R2.VD_nil ?_;intro us w' hx hf hd;obtain ⟨x,rfl⟩:=hx.out;(try simp only [Act.put,q0q,q1q,q2q,wpList_none]);(try simp only [q3q,q4q,or_false,forall_eq_or_imp,forall_eq,q5q,q6q,q7q,false_or,true_and,and_true] at hf);(try simp only [Nat.reduceAdd,Nat.zero_add] at hf ⊢))
    obtain ⟨g,eg,hgW,hBg⟩:=hf
    rw [eg]
    have hx6:Ext W5 (W5.ext x):=Ext.of_ext _ _
    have hgE:=Nat.le_trans hE5.size hgW
    have hE5:=hE5.trans hx6
    have hG5:=hG5.extB hx6
    have u1:=u1.ext hx6
    have u2:=u2.ext hx6
    have hS5:=hS5.ext hx6
    have hg5:=hG5.lt
    have hne:w.heap.size≠g:=by omega
    clear eg hd
    generalize W5.ext x=W6 at *
    haveI:=hG5.blt
    haveI:=hBg.blt
    have hz:(((pad4 n:Nat):Int)+(m:Int)).toNat-pad4 n=m:=by omega
    simp only [hz]
    clear hz
    go_wp2_with (first
     | (refine wpList_store_arr (RG2) rfl _ _ rfl (g) (0) rfl ([.slice a2 n c2, .slice (sAdr a2 c2 (pad4 n) 1) m (c2-pad4 n)]) rfl (86) _ (hBg) (rfl) (by simp) (oC) ?_;intro V hV hMV)
     | fail)
    have hV:Blk V g 86 [.slice a2 n c2, .slice (sAdr a2 c2 (pad4 n) 1) m (c2-pad4 n)]:=hV
    have hGV:=Blk.turn hMV hG5 hne
    have hEV:Ext w V:=Below.trans hE5 (hMV.below hgE hE5.size)
    have v1:=Sl.mut u1 hBg (by simp) hMV
    have v2:=Sl.mut u2 hBg (by simp) hMV
    have hSV:=Sl.mut hS5 hBg (by simp) hMV
    obtain ⟨N1,hN1⟩:∃ l,(d.drop 4).take n=l:=⟨_,rfl⟩
    obtain ⟨N2,hN2⟩:∃ l,((d.drop 4).drop (pad4 n)).take m=l:=⟨_,rfl⟩
    rw [hN1] at v1
    rw [hN2] at v2
    have hd1:(d.drop 4).take (getN (d.take 2))=N1:=by rw [hn.out];exact hN1
    have hd2:(d.drop (4+pad4 (getN (d.take 2)))).take (getN ((d.drop 2).take 2))=N2:=by rw [hn.out,hm.out,← e3.out];exact hN2
    have hyes:=fun h=>partsE_yes (d:=d) (by rw [hL.out];omega) (by rw [hn.out];exact q1) (by rw [hL.out,hn.out,hm.out];exact hql.out) h
    have hnot:=fun h=>partsE_ne (d:=d) h
    rw [hd1,hd2,hr.out] at hyes
    rw [hd1,hd2,hr.out] at hnot
    clear hd1 hd2 hN1 hN2 u1 u2 hS5 hBg hG5 hMV hE5 hn hm hL e3 hql hgW hgW5
    haveI:=hV.blt
    haveI:=hGV.blt
    refine wp_region_vague 5 [[],[],[1],[],[1,2,3],[0,1,2,3,4],[0,1,2,3,4,5]] (by kernel_rfl) (by kernel_rfl) (by kernel_rfl) (by kernel_rfl) ?_;simp only [q8q,q9q,q10q,q11q,q12q,q13q]
    (refine VD_load_arr (RG2) _ rfl (fun _=>rfl) (g) (0) (fun _=>by simp [go_sem]) ([.slice a2 n c2, .slice (sAdr a2 c2 (pad4 n) 1) m (c2-pad4 n)]) (hV.rd) (rfl) ?_)
    (refine VD_load_arr (RG2) _ rfl (fun _=>rfl) (g) (0) (fun _=>by simp [go_sem]) ([.slice a2 n c2, .slice (sAdr a2 c2 (pad4 n) 1) m (c2-pad4 n)]) (hV.rd) (rfl) ?_)
    (refine VD_vag (fun p => .slice (p 0).1 (4+pad4 n+pad4 m) (p 0).2) (fun p w''=>Own w'' 0 (p 0).1 (4+pad4 n+pad4 m) (p 0).2 (guardB N1 N2)) (fun p w w' h hx=>h.ext hx) (fun us w' hx hf=>⟨rfl,?_⟩) ?_;(unfold gives;simp [go_sem,execOp];exact vag_fresh (Nat.zero_le _) (pgbytes_any _ _ n c2 m (c2-pad4 n) N1 N2 _ (v1.ext hx) (v2.ext hx) (by omega) (by omega))))
    (repeat (refine VD_a ?_;(try simp only [Act.put,q0q,q1q,q2q])))
    (refine VD_vag (fun _ => .bool (guardB N1 N2 == d)) (fun _ _=>True) (fun _ _ _ _ _=>trivial) (fun us w' hx hf=>⟨rfl,?_⟩) ?_;(unfold gives;simp [go_sem,execOp];refine (osame_any _ _ _ _ _ _ _ _ _ (Own.sl (hf _ (List.mem_append_right _ (List.mem_singleton_self _)) rfl)) (hSV.ext hx)).mono ?_;rintro e w1 ⟨rfl,hx1⟩;first|exact ⟨rfl,hx1⟩|simpa using hx1))
    (refine VD_z ?_;intro us x hx hf;(try simp only [Act.put,q0q,q1q,q2q,wpList_none]);(try simp only [q3q,q4q,or_false,forall_eq_or_imp,forall_eq,q5q,q6q,q7q,false_or,true_and,and_true] at hf);(try simp only [Nat.reduceAdd,Nat.zero_add] at hf ⊢))
    have hxx:Ext V (V.ext x):=Ext.of_ext _ _
    have hGx:=hGV.extB hxx
    have hEx:=hEV.trans hxx
    have v1:=v1.ext hxx
    have v2:=v2.ext hxx
    clear hf hV hGV hEV hSV
    generalize V.ext x=V at *
    haveI:=hGx.blt
    by_cases hq:guardB N1 N2=d
    ·have er:=Lib.hid (hyes hq)
     have hb:(guardB N1 N2 == d)=true:=beq_iff_eq.2 hq
     rw [hb]
     clear hq hb hyes hnot
     go_wp2_with (first
      | (refine wpList_store_arr (RG2) rfl _ _ rfl (w.heap.size) (0) rfl ([.slice a2 n c2, .slice (sAdr a2 c2 (pad4 n) 1) m (c2-pad4 n)]) rfl (86) _ (hGx) (rfl) (by simp) (oC) ?_;intro V9 hV9 hM9)
      | fail)
     refine bodyPost_ret (results_arr_tmp Tryz.results48 (RG2) _ _ (w.heap.size) (0) ([.slice a2 n c2, .slice (sAdr a2 c2 (pad4 n) 1) m (c2-pad4 n)]) rfl (hV9.rd) (rfl) (.bool true) rfl) rfl ?_
     rw [er.out]
     exact ⟨_,_,_,_,_,_,rfl,fun y hy=>(by injection hy with hy;subst hy;exact ⟨Sl.mut v1 hGx (by simp) hM9,mk1,Sl.mut v2 hGx (by simp) hM9,mk2⟩),Below.trans hEx (hM9.below (Nat.le_refl _) hEx.size)⟩
    ·have er:=Lib.hid (hnot hq)
     have hb:(guardB N1 N2 == d)=false:=beq_eq_false_iff_ne.2 hq
     rw [hb]
     clear hq hb hyes hnot
     go_wp2_with (first
      | (refine wpList_store_arr (RG2) rfl _ _ rfl (w.heap.size) (0) rfl ([.slice a2 n c2, .slice (sAdr a2 c2 (pad4 n) 1) m (c2-pad4 n)]) rfl (86) _ (hGx) (rfl) (by simp) (oC) ?_;intro V9 hV9 hM9)
      | fail)
     refine bodyPost_ret (results_arr_tmp Tryz.results48 (RG2) _ _ (w.heap.size) (0) ([.slice a2 n c2, .slice (sAdr a2 c2 (pad4 n) 1) m (c2-pad4 n)]) rfl (hV9.rd) (rfl) (.bool false) rfl) rfl ?_
     rw [er.out]
     exact ⟨_,_,_,_,_,_,rfl,fun y hy=>(by cases hy),Below.trans hEx (hM9.below (Nat.le_refl _) hEx.size)⟩
   ·have er:=Lib.hid (show r=none by rw [← hr.out];exact partsE_len (by rw [hL.out,hn.out,hm.out];exact q2))
    have i3:(((k-4:Nat):Int) != ((pad4 n:Nat):Int)+((pad4 m:Nat):Int))=true:=by rw [bne_iff_ne];omega
    go_wp2_with (first
     | (go_at_call 59;refine (hnn _).mono ?_;rintro e w1 ⟨rfl,hxq⟩;obtain ⟨xq,rfl⟩:=hxq.out;clear hxq)
     | (go_at_call 94;refine (ppadded_any _ rfl _ (by omega)).mono ?_;rintro e w1 ⟨rfl,hxq⟩;obtain ⟨xq,rfl⟩:=hxq.out;clear hxq)
     | (refine wpList_store_arr (RG2) rfl _ _ rfl (w.heap.size) (0) rfl ([.slice none 0 0, .slice none 0 0]) rfl (86) _ ((hG.extB eX)) (rfl) (by simp) (oC) ?_;intro V hV hMV)
     | fail)
    refine bodyPost_ret (results_arr_tmp Tryz.results48 (RG2) _ _ (w.heap.size) (0) ([.slice none 0 0, .slice none 0 0]) rfl (hV.rd) (rfl) (.bool false) rfl) rfl ?_
    rw [er.out]
    exact ParseOut.no _ _ (Below.trans (hE1.trans eX) (hMV.below (by omega) (Below.size (hE1.trans eX))))
  ·have er:=Lib.hid (show r=none by rw [← hr.out];exact partsE_nonce (by rw [hn.out];exact q1))
   have hnn:=fun W=>pnonced_any n rfl W
   rw [decide_eq_false q1] at hnn
   go_wp2_with (first
    | (go_at_call 59;refine (hnn _).mono ?_;rintro e w1 ⟨rfl,hxq⟩;obtain ⟨xq,rfl⟩:=hxq.out;clear hxq)
    | (refine wpList_store_arr (RG2) rfl _ _ rfl (w.heap.size) (0) rfl ([.slice none 0 0, .slice none 0 0]) rfl (86) _ ((hG.extB eX)) (rfl) (by simp) (oC) ?_;intro V hV hMV)
    | fail)
   refine bodyPost_ret (results_arr_tmp Tryz.results48 (RG2) _ _ (w.heap.size) (0) ([.slice none 0 0, .slice none 0 0]) rfl (hV.rd) (rfl) (.bool false) rfl) rfl ?_
   rw [er.out]
   exact ParseOut.no _ _ (Below.trans (hE1.trans eX) (hMV.below (by omega) (Below.size (hE1.trans eX))))
end Go.Proofs.YtdmifbfgeeldnaaGreat

/- The walks of layer 18: Bare, Read. -/
namespace Go.Pkt
theorem readE_head {b:List UInt8} (h:(decH b).2≠0):readE b=(zeroP,(decH b).2):=if_pos h
theorem readE_flds {b:List UInt8} (h:(decH b).2=0) (h2:(decF (decH b).1.2).2≠0):readE b=(zeroP,(decF (decH b).1.2).2):=by unfold readE;rw [if_neg (by simpa using h),if_pos h2]
theorem readE_ok {b:List UInt8} (h:(decH b).2=0) (h2:(decF (decH b).1.2).2=0):readE b=(⟨(decH b).1.1,(decF (decH b).1.2).1,[],false⟩,0):=by unfold readE;rw [if_neg (by simpa using h),if_neg (by simpa using h2)]
theorem decH_rest {b:List UInt8}:(decH b).1.2.length≤b.length:=by
 unfold decH
 split
 ·simp
 ·split
  ·simp
  ·split <;> simp
end Go.Pkt
namespace Go.Proofs.YtdmifbfgeeldnaaGreat
open Go.RowKit Go.Sec Go.Oct Go.Pkt Go.Aes BigFrame
def ReadOut (r:Pkt × Int) (w:World)(e:Ending) (w':World):Prop:=∃ a1 c1,e = .returned (.tuple #[.agg #[.int .i64 r.1.h.leap, .int .i64 r.1.h.ver, .int .i64 r.1.h.mode, .int .i64 r.1.h.strat, .int .i64 r.1.h.poll, .int .i64 r.1.h.prec, .int .u32 (n32 r.1.h.rd), .int .u32 (n32 r.1.h.rp), .int .u32 (n32 r.1.h.id), .int .u64 (n64 r.1.h.ref), .int .u64 (n64 r.1.h.org), .int .u64 (n64 r.1.h.rcv), .int .u64 (n64 r.1.h.tx), .slice a1 r.1.plain.length c1, .slice none 0 0, .bool false], .int .i64 r.2]) ∧
 (∃ B,OwnI 66 w' B a1 r.1.plain.length c1 r.1.plain)∧Ext w w'
theorem ReadOut.err (w w':World)(e:Int) (hx:Ext w w'):ReadOut (zeroP,e) w (.returned (.tuple #[.agg #[.int .i64 0, .int .i64 0, .int .i64 0, .int .i64 0, .int .i64 0, .int .i64 0, .int .u32 0, .int .u32 0, .int .u32 0, .int .u64 0, .int .u64 0, .int .u64 0, .int .u64 0, .slice none 0 0, .slice none 0 0, .bool false], .int .i64 e])) w':=⟨none,0,rfl,⟨0,OwnI.nil _ _ _⟩,hx⟩
set_option maxHeartbeats 2000000 in
theorem pread_any (a:Option Addr)(n c:Nat) (b:List UInt8)(w:World)(hS:Sl w a n b) (hc:n≤c) (hn:n≤1000000) :
  Calls Tryz.prog 22 #[.slice a n c] w (ReadOut (readE b) w):=by
 have hl:=hS.len
 have hdh:=fun W H=>pdecode_any a n c b W H hc hn
 have hrl:=decH_rest (b:=b)
 obtain ⟨r,hr⟩:∃ r,readE b=r:=⟨_,rfl⟩
 rw [hr]
 have hr:=Lib.hid hr
 go_enter Tryz.func22,Tryz.ntmps22
 go_wp2_with fail
 refine nameCl ?_
 intro W hW
 have hE:Ext w W:=by rw [hW];exact eX
 have hP:Blk W w.heap.size 32 [.int .i64 0, .int .i64 0, .int .i64 0, .int .i64 0, .int .i64 0, .int .i64 0, .int .u32 0, .int .u32 0, .int .u32 0, .int .u64 0, .int .u64 0, .int .u64 0, .int .u64 0, .slice none 0 0, .slice none 0 0, .bool false]:=by rw [hW];exact bK
 clear hW
 (with_reducible refine (hdh W (hS.ext hE)).mono ?_)
 rintro e w1 ⟨b1,d1,rfl,hS1,hd1,hx1⟩
 have hE1:=hE.trans hx1
 have hP1:=hP.extB hx1
 haveI:=hP1.blt
 clear hE hP hx1 hdh
 by_cases q1:(decH b).2=0
 ·rw [q1]
  have hdf:=fun W H=>xdecode_any b1 (decH b).1.2.length d1 (decH b).1.2 W H hd1 (by omega)
  have hok:=fun h=>readE_ok q1 h
  have hbad:=fun h=>readE_flds q1 h
  generalize (decH b).1.2=R at *
  generalize (decH b).1.1=H at *
  go_wp2_with (first
   | (refine wpList_alloc_store (RH13) rfl rfl _ _ rfl rfl rfl rfl (by simp [Act.put]) ([.int .i64 H.leap, .int .i64 H.ver, .int .i64 H.mode, .int .i64 H.strat, .int .i64 H.poll, .int .i64 H.prec, .int .u32 (n32 H.rd), .int .u32 (n32 H.rp), .int .u32 (n32 H.id), .int .u64 (n64 H.ref), .int .u64 (n64 H.org), .int .u64 (n64 H.rcv), .int .u64 (n64 H.tx)]) rfl (by simp) (rfl) (oC) ?_;intro x hz _)
   | fail)
  refine nameCl ?_
  intro W2 hW2
  have hx2:Ext w1 W2:=by rw [hW2];exact eX
  have hzz:Blk W2 w1.heap.size 27 [.int .i64 H.leap, .int .i64 H.ver, .int .i64 H.mode, .int .i64 H.strat, .int .i64 H.poll, .int .i64 H.prec, .int .u32 (n32 H.rd), .int .u32 (n32 H.rp), .int .u32 (n32 H.id), .int .u64 (n64 H.ref), .int .u64 (n64 H.org), .int .u64 (n64 H.rcv), .int .u64 (n64 H.tx)]:=by rw [hW2];exact hz.extB eX
  have hP2:=hP1.extB hx2
  have hE2:=hE1.trans hx2
  have hS2:=hS1.ext hx2
  have hlt:=hP1.lt
  clear hW2 hx2 hE1 hP1 hS1
  (with_reducible refine (hdf W2 hS2).mono ?_)
  rintro e w3 ⟨b3,d3,rfl,hO3,hx3⟩
  have hP3:=hP2.extB hx3
  have hz3:=hzz.extB hx3
  have hE3:=hE2.trans hx3
  haveI:=hP3.blt
  clear hP2 hE2 hdf hz hzz hx3
  by_cases q2:(decF R).2=0
  ·rw [q2]
   have er:=Lib.hid (show r=(⟨H,(decF R).1,[],false⟩,0) by rw [← hr.out];exact hok q2)
   clear hok hbad q2
   generalize (decF R).1=L at *
   go_wp2_with (first
    | (refine wpList_load_arr (RH13) rfl _ rfl (w1.heap.size) (0) rfl ([.int .i64 H.leap, .int .i64 H.ver, .int .i64 H.mode, .int .i64 H.strat, .int .i64 H.poll, .int .i64 H.prec, .int .u32 (n32 H.rd), .int .u32 (n32 H.rp), .int .u32 (n32 H.id), .int .u64 (n64 H.ref), .int .u64 (n64 H.org), .int .u64 (n64 H.rcv), .int .u64 (n64 H.tx)]) ((hz3.extB eX).rd) (rfl) ?_)
    | (refine wpList_store_arr (RP16) rfl _ _ rfl (w.heap.size) (0) rfl ([.int .i64 H.leap, .int .i64 H.ver, .int .i64 H.mode, .int .i64 H.strat, .int .i64 H.poll, .int .i64 H.prec, .int .u32 (n32 H.rd), .int .u32 (n32 H.rp), .int .u32 (n32 H.id), .int .u64 (n64 H.ref), .int .u64 (n64 H.org), .int .u64 (n64 H.rcv), .int .u64 (n64 H.tx), .slice b3 L.length d3, .slice none 0 0, .bool false]) rfl (32) _ ((hP3.extB eX)) (rfl) (by simp) (oC) ?_;intro V hV hMV)
    | fail)
   refine bodyPost_ret (results_arr_tmp Tryz.results22 (RP16) _ _ (w.heap.size) (0) ([.int .i64 H.leap, .int .i64 H.ver, .int .i64 H.mode, .int .i64 H.strat, .int .i64 H.poll, .int .i64 H.prec, .int .u32 (n32 H.rd), .int .u32 (n32 H.rp), .int .u32 (n32 H.id), .int .u64 (n64 H.ref), .int .u64 (n64 H.org), .int .u64 (n64 H.rcv), .int .u64 (n64 H.tx), .slice b3 L.length d3, .slice none 0 0, .bool false]) rfl (hV.rd) (rfl) (.int .i64 0) rfl) rfl ?_
   rw [er.out]
   exact ⟨b3,d3,rfl,⟨_,hO3.mut hP3 (by decide) (by simp) hMV⟩,Below.trans hE3 (hMV.below (Nat.le_refl _) hE3.size)⟩
  ·have er:=Lib.hid (show r=(zeroP,(decF R).2) by rw [← hr.out];exact hbad q2)
   have i2:=ne0 q2
   generalize (decF R).2=v at *
   generalize (decF R).1=L at *
   clear q2 hok hbad
   go_wp2_with (first
    | (refine wpList_store_arr (RP16) rfl _ _ rfl (w.heap.size) (0) rfl ([.int .i64 0, .int .i64 0, .int .i64 0, .int .i64 0, .int .i64 0, .int .i64 0, .int .u32 0, .int .u32 0, .int .u32 0, .int .u64 0, .int .u64 0, .int .u64 0, .int .u64 0, .slice none 0 0, .slice none 0 0, .bool false]) rfl (32) _ ((hP3.extB eX)) (rfl) (by simp) (oC) ?_;intro V hV hMV)
    | fail)
   refine bodyPost_ret (results_arr_tmp Tryz.results22 (RP16) _ _ (w.heap.size) (0) ([.int .i64 0, .int .i64 0, .int .i64 0, .int .i64 0, .int .i64 0, .int .i64 0, .int .u32 0, .int .u32 0, .int .u32 0, .int .u64 0, .int .u64 0, .int .u64 0, .int .u64 0, .slice none 0 0, .slice none 0 0, .bool false]) rfl (hV.rd) (rfl) (.int .i64 v) rfl) rfl ?_
   rw [er.out]
   exact ReadOut.err _ _ _ (Below.trans (hE3.trans eX) (hMV.below (Nat.le_refl _) (Below.size (hE3.trans eX))))
 ·have er:=Lib.hid (show r=(zeroP,(decH b).2) by rw [← hr.out];exact readE_head q1)
  have i1:=ne0 q1
  generalize (decH b).2=v at *
  generalize (decH b).1.1=H at *
  clear q1
  go_wp2_with (first
   | (refine wpList_alloc_store (RH13) rfl rfl _ _ rfl rfl rfl rfl (by simp [Act.put]) ([.int .i64 H.leap, .int .i64 H.ver, .int .i64 H.mode, .int .i64 H.strat, .int .i64 H.poll, .int .i64 H.prec, .int .u32 (n32 H.rd), .int .u32 (n32 H.rp), .int .u32 (n32 H.id), .int .u64 (n64 H.ref), .int .u64 (n64 H.org), .int .u64 (n64 H.rcv), .int .u64 (n64 H.tx)]) rfl (by simp) (rfl) (oC) ?_;intro x hz _)
   | (refine wpList_store_arr (RP16) rfl _ _ rfl (w.heap.size) (0) rfl ([.int .i64 0, .int .i64 0, .int .i64 0, .int .i64 0, .int .i64 0, .int .i64 0, .int .u32 0, .int .u32 0, .int .u32 0, .int .u64 0, .int .u64 0, .int .u64 0, .int .u64 0, .slice none 0 0, .slice none 0 0, .bool false]) rfl (32) _ ((hP1.extB eX)) (rfl) (by simp) (oC) ?_;intro V hV hMV)
   | fail)
  refine bodyPost_ret (results_arr_tmp Tryz.results22 (RP16) _ _ (w.heap.size) (0) ([.int .i64 0, .int .i64 0, .int .i64 0, .int .i64 0, .int .i64 0, .int .i64 0, .int .u32 0, .int .u32 0, .int .u32 0, .int .u64 0, .int .u64 0, .int .u64 0, .int .u64 0, .slice none 0 0, .slice none 0 0, .bool false]) rfl (hV.rd) (rfl) (.int .i64 v) rfl) rfl ?_
  rw [er.out]
  exact ReadOut.err _ _ _ (Below.trans (hE1.trans eX) (hMV.below (Nat.le_refl _) (Below.size (hE1.trans eX))))
end Go.Proofs.YtdmifbfgeeldnaaGreat

/- The walks of layer 18: Open. -/
namespace Go.Pkt
open Go.Oct Go.Aes
theorem decH_ok {b:List UInt8} (h:(decH b).2=0):48≤b.length∧b.length≤1280∧(decH b).1.2=b.drop 48:=by
 unfold decH at h ⊢
 split at h
 ·cases h
 ·split at h
  ·cases h
  ·split at h
   ·rename_i h1 h2 h3
    rw [if_neg h1,if_neg h2,if_pos h3]
    exact ⟨by omega,by omega,rfl⟩
   ·cases h
theorem decF_ok {l:List UInt8} (h:(decF l).2=0):totN (decF l).1=l.length∧(decF l).1.length≤24∧∀ f∈(decF l).1,f.2.length % 4=0∧12≤f.2.length∧0≤f.1∧f.1≤65535:=by
 unfold decF at h ⊢
 split at h
 ·cases h
 ·rename_i h1
  rw [if_neg h1]
  exact decR_ok 24 l h
theorem totN_mem {L:List Fld} {f:Fld} (h:f∈L):szN f.2.length≤totN L:=by
 induction L with
 | nil=>cases h
 | cons g L ih =>
  rw [totN_cons]
  rcases List.mem_cons.1 h with rfl|h
  ·omega
  ·have:=ih h;omega
theorem readE_spec {b:List UInt8} (h:(readE b).2=0):48≤b.length∧b.length≤1280∧totN (readE b).1.plain+48=b.length∧(readE b).1.plain.length≤24 ∧
  ∀ f∈(readE b).1.plain,f.2.length % 4=0∧12≤f.2.length∧0≤f.1∧f.1≤65535:=by
 by_cases h1:(decH b).2=0
 ·by_cases h2:(decF (decH b).1.2).2=0
  ·obtain ⟨a1,a2,a3⟩:=decH_ok h1
   obtain ⟨b1,b2,b3⟩:=decF_ok h2
   rw [readE_ok h1 h2]
   refine ⟨a1,a2,?_,b2,b3⟩
   show totN (decF (decH b).1.2).1+48=_
   rw [b1,a3,List.length_drop];omega
  ·rw [readE_flds h1 h2] at h;exact absurd h h2
 ·rw [readE_head h1] at h;exact absurd h h1
theorem readE_fld {b:List UInt8} (h:(readE b).2=0) {f:Fld} (hf:f∈(readE b).1.plain):f.2.length+52≤b.length∧f.2.length≤1280:=by
 obtain ⟨h1,h2,h3,_,_⟩:=readE_spec h
 have h4:=totN_mem hf
 have h5:=szN_ge f.2.length
 omega
theorem openE_len {ky s:List UInt8} {A:List (List UInt8)}:(openE ky A s).1.length≤s.length:=by
 unfold openE
 split
 ·simp
 ·split
  ·simp
  ·split
   ·simp
   ·split
    ·rw [plainOf_length];omega
    ·simp
theorem partsE_sealed {d:List UInt8} {z:List UInt8 × List UInt8} (h:partsE d=some z):z.2.length≤d.length:=by
 unfold partsE at h
 simp only at h
 split at h
 ·injection h with h
  rw [← h]
  simp only [List.length_take,List.length_drop]
  omega
 ·cases h
theorem openP_key {ky b:List UInt8} (h:ky.length≠32):openP ky b=(zeroP,5):=if_pos h
theorem openP_read {ky b:List UInt8} (h:ky.length=32) (h2:(readE b).2≠0):openP ky b=(zeroP,(readE b).2):=by unfold openP;rw [if_neg (by omega),if_pos h2]
theorem openP_none {ky b:List UInt8} (h:ky.length=32) (h2:(readE b).2=0) (h3:firstI 1028 (readE b).1.plain=none):openP ky b=(zeroP,10):=by
 unfold openP;rw [if_neg (by omega),if_neg (by simpa using h2),h3]
def openAt (ky b:List UInt8)(i:Nat):Pkt × Int :=
 if i+1≠(readE b).1.plain.length then (zeroP,3) else
  match partsE ((readE b).1.plain.getD i (0,[])).2 with
  | none=>(zeroP,3)
  | some (nonce,s) =>
   if (openE ky [b.take (b.length-((readE b).1.plain.getD i (0,[])).2.length-4),nonce] s).2≠0 then (zeroP,6)
   else if (decF (openE ky [b.take (b.length-((readE b).1.plain.getD i (0,[])).2.length-4),nonce] s).1).2≠0 then (zeroP,(decF (openE ky [b.take (b.length-((readE b).1.plain.getD i (0,[])).2.length-4),nonce] s).1).2)
   else (⟨(readE b).1.h,(readE b).1.plain.take i,(decF (openE ky [b.take (b.length-((readE b).1.plain.getD i (0,[])).2.length-4),nonce] s).1).1,true⟩,0)
theorem openP_some {ky b:List UInt8} {i:Nat} (h:ky.length=32) (h2:(readE b).2=0) (h3:firstI 1028 (readE b).1.plain=some i):openP ky b=openAt ky b i:=by
 unfold openP;rw [if_neg (by omega),if_neg (by simpa using h2),h3];rfl
theorem firstI_lt {k:Int} {L:List Fld} {i:Nat} (h:firstI k L=some i):i<L.length:=by
 unfold firstI at h
 exact ixs_lt (List.mem_of_mem_head? (by rw [h];rfl))
end Go.Pkt
namespace Go.Proofs.YtdmifbfgeeldnaaGreat
open Go.RowKit Go.Sec Go.Oct Go.Pkt Go.Aes BigFrame
def PktE (r:Pkt × Int) (w:World)(e:Ending) (w':World):Prop:=∃ a1 n1 c1 a2 n2 c2,e = .returned (.tuple #[.agg #[.int .i64 r.1.h.leap, .int .i64 r.1.h.ver, .int .i64 r.1.h.mode, .int .i64 r.1.h.strat, .int .i64 r.1.h.poll, .int .i64 r.1.h.prec, .int .u32 (n32 r.1.h.rd), .int .u32 (n32 r.1.h.rp), .int .u32 (n32 r.1.h.id), .int .u64 (n64 r.1.h.ref), .int .u64 (n64 r.1.h.org), .int .u64 (n64 r.1.h.rcv), .int .u64 (n64 r.1.h.tx), .slice a1 n1 c1, .slice a2 n2 c2, .bool r.1.guarded], .int .i64 r.2]) ∧
 Ib w' a1 n1 r.1.plain∧n1≤c1∧Ib w' a2 n2 r.1.secret∧n2≤c2∧Ext w w'
theorem PktE.err (w w':World)(e:Int) (hx:Ext w w'):PktE (zeroP,e) w (.returned (.tuple #[.agg #[.int .i64 0, .int .i64 0, .int .i64 0, .int .i64 0, .int .i64 0, .int .i64 0, .int .u32 0, .int .u32 0, .int .u32 0, .int .u64 0, .int .u64 0, .int .u64 0, .int .u64 0, .slice none 0 0, .slice none 0 0, .bool false], .int .i64 e])) w':=⟨none,0,0,none,0,0,rfl,Ib.nil _ _,Nat.le_refl _,Ib.nil _ _,Nat.le_refl _,hx⟩
set_option maxHeartbeats 2000000 in
theorem popenp_any (ak ab:Option Addr)(nk ck nb cb:Nat) (ky b:List UInt8)(w:World)(hk:Sl w ak nk ky) (hck:nk≤ck) (hS:Sl w ab nb b) (hcb:nb≤cb) (hn:nb≤1000000) :
  Calls Tryz.prog 13 #[.slice ak nk ck, .slice ab nb cb] w (PktE (openP ky b) w):=by
 have lk:=hk.len
 have lb:=hS.len
 have hrd:=fun W H=>pread_any ab nb cb b W H hcb hn
 obtain ⟨r,hr⟩:∃ r,openP ky b=r:=⟨_,rfl⟩
 rw [hr]
 have hr:=Lib.hid hr
 by_cases q1:nk=32
 ·have q1':ky.length=32:=by omega
  subst q1
  go_enter Tryz.func13,Tryz.ntmps13
  go_wp2_with fail
  refine nameCl ?_
  intro W hW
  have hE:Ext w W:=by rw [hW];exact eX
  have hP:Blk W w.heap.size 32 [.int .i64 0, .int .i64 0, .int .i64 0, .int .i64 0, .int .i64 0, .int .i64 0, .int .u32 0, .int .u32 0, .int .u32 0, .int .u64 0, .int .u64 0, .int .u64 0, .int .u64 0, .slice none 0 0, .slice none 0 0, .bool false]:=by rw [hW];exact bK
  clear hW
  (with_reducible refine (hrd W (hS.ext hE)).mono ?_)
  rintro e w1 ⟨b1,d1,rfl,⟨B1,hO1⟩,hx1⟩
  have hE1:=hE.trans hx1
  have hP1:=hP.extB hx1
  have hlt:=hP1.lt
  haveI:=hP1.blt
  clear hE hP hx1 hrd
  by_cases q2:(readE b).2=0
  ·rw [q2]
   have hsp:=readE_spec q2
   have hfl:=fun f hf=>readE_fld q2 (f:=f) hf
   have hso:=fun i h=>openP_some (i:=i) q1' q2 h
   have hno:=fun h=>openP_none q1' q2 h
   unfold openAt at hso
   generalize (readE b).1.plain=L at *
   generalize (readE b).1.h=H at *
   go_wp2_with (first
    | ((refine wpList_alloc_store (RP16) rfl rfl _ _ rfl rfl rfl rfl (by simp [Act.put]) ([.int .i64 H.leap, .int .i64 H.ver, .int .i64 H.mode, .int .i64 H.strat, .int .i64 H.poll, .int .i64 H.prec, .int .u32 (n32 H.rd), .int .u32 (n32 H.rp), .int .u32 (n32 H.id), .int .u64 (n64 H.ref), .int .u64 (n64 H.org), .int .u64 (n64 H.rcv), .int .u64 (n64 H.tx), .slice b1 L.length d1, .slice none 0 0, .bool false]) rfl (by simp) (rfl) (oC) ?_;intro x hz _);haveI:=hz.blt;have f13:=hz.cell? 13 rfl)
    | fail)
   refine nameCl ?_
   intro W2 hW2
   have hx2:Ext w1 W2:=by rw [hW2];exact eX
   have hG:Blk W2 w1.heap.size 32 [.int .i64 H.leap, .int .i64 H.ver, .int .i64 H.mode, .int .i64 H.strat, .int .i64 H.poll, .int .i64 H.prec, .int .u32 (n32 H.rd), .int .u32 (n32 H.rp), .int .u32 (n32 H.id), .int .u64 (n64 H.ref), .int .u64 (n64 H.org), .int .u64 (n64 H.rcv), .int .u64 (n64 H.tx), .slice b1 L.length d1, .slice none 0 0, .bool false]:=by rw [hW2];exact hz.extB eX
   have hP2:=hP1.extB hx2
   have hE2:=hE1.trans hx2
   have hO2:=hO1.ext hx2
   clear hW2 hx2 hE1 hP1 hO1 f13 hz
   (with_reducible refine (xfirst_any b1 L.length d1 L W2 hO2.ib.1 (by omega)).mono ?_)
   rintro e w3 ⟨rfl,hx3⟩
   have hG3:=hG.extB hx3
   have hP3:=hP2.extB hx3
   have hE3:=hE2.trans hx3
   have hO3:=hO2.ext hx3
   clear hG hP2 hE2 hO2 hx3
   have hdc:L.length≤d1:=hO3.ib.2
   haveI:=hP3.blt
   haveI:=hG3.blt
   have f13:w3.cell? ⟨w1.heap.size,13,none⟩=some (.slice b1 L.length d1):=hG3.cell? 13 rfl
   cases q3:firstI 1028 L with
   | none =>
    have er:=Lib.hid (show r=(zeroP,10) by rw [← hr.out];exact hno q3)
    have ez:firstZ 1028 L = -1:=by unfold firstZ;rw [q3]
    rw [ez]
    clear ez q3 hno hso
    go_wp2_with (first
     | (refine wpList_store_arr (RP16) rfl _ _ rfl (w.heap.size) (0) rfl ([.int .i64 0, .int .i64 0, .int .i64 0, .int .i64 0, .int .i64 0, .int .i64 0, .int .u32 0, .int .u32 0, .int .u32 0, .int .u64 0, .int .u64 0, .int .u64 0, .int .u64 0, .slice none 0 0, .slice none 0 0, .bool false]) rfl (32) _ ((hP3.extB eX)) (rfl) (by simp) (oC) ?_;intro V hV hMV)
     | fail)
    refine bodyPost_ret (results_arr_tmp Tryz.results13 (RP16) _ _ (w.heap.size) (0) ([.int .i64 0, .int .i64 0, .int .i64 0, .int .i64 0, .int .i64 0, .int .i64 0, .int .u32 0, .int .u32 0, .int .u32 0, .int .u64 0, .int .u64 0, .int .u64 0, .int .u64 0, .slice none 0 0, .slice none 0 0, .bool false]) rfl (hV.rd) (rfl) (.int .i64 10) rfl) rfl ?_
    rw [er.out]
    exact PktE.err _ _ _ (Below.trans (hE3.trans eX) (hMV.below (Nat.le_refl _) (Below.size (hE3.trans eX))))
   | some i =>
    have hi:=firstI_lt q3
    have hat:=hso i q3
    rw [hr.out] at hat
    have ez:firstZ 1028 L=(i:Int):=by unfold firstZ;rw [q3]
    rw [ez]
    have iz:¬ (i:Int)<0:=by omega
    clear ez q3 hno hso
    by_cases q4:i+1=L.length
    ·rw [if_neg (by omega)] at hat
     replace hat:=Lib.hid hat
     have iq:((i:Int) != (L.length:Int)-1)=false:=by rw [bne_eq_false_iff_eq];omega
     obtain ⟨y,hy⟩:∃ y,L[i]?=some y:=⟨_,List.getElem?_eq_getElem hi⟩
     obtain ⟨g0,o0,g',c',rfl,hb0,hc0,hc1,hSk,hcy⟩:=hO3.ib.1.at i hi _ hy
     obtain ⟨y52,y1280⟩:=hfl y (List.mem_of_getElem? hy)
     replace hat:=Lib.hid (show r=_ by rw [hat.out,getD_at hy])
     have hi0:(0:Int)≤(i:Int):=by omega
     have hi1:(i:Int)<(L.length:Int):=by omega
     haveI:=hb0
     have hpa:=fun W H=>pparse_any g' y.2.length c' y.2 W H hcy (by omega)
     clear hfl
     go_wp2_with fail
     clear f13 hc0 hc1
     (with_reducible refine (hpa w3 hSk).mono ?_)
     rintro e w4 ⟨p1,n1,k1,p2,n2,k2,rfl,hps,hx4⟩
     have hE4:=hE3.trans hx4
     have hP4:=hP3.extB hx4
     have hG4:=hG3.extB hx4
     have hO4:=hO3.ext hx4
     haveI:=hP4.blt
     clear hE3 hP3 hG3 hO3 hpa hx4 hb0
     cases q5:partsE y.2 with
     | none =>
      have er:=Lib.hid (show r=(zeroP,3) by rw [hat.out,q5])
      clear q5 hps
      go_wp2_with (first
       | (refine wpList_alloc_store (RG2) rfl rfl _ _ rfl rfl rfl rfl (by simp [Act.put]) ([.slice p1 n1 k1, .slice p2 n2 k2]) rfl (by simp) (rfl) (oC) ?_;intro x2 hz2 _)
       | (refine wpList_store_arr (RP16) rfl _ _ rfl (w.heap.size) (0) rfl ([.int .i64 0, .int .i64 0, .int .i64 0, .int .i64 0, .int .i64 0, .int .i64 0, .int .u32 0, .int .u32 0, .int .u32 0, .int .u64 0, .int .u64 0, .int .u64 0, .int .u64 0, .slice none 0 0, .slice none 0 0, .bool false]) rfl (32) _ ((hP4.extB eX)) (rfl) (by simp) (oC) ?_;intro V hV hMV)
       | fail)
      refine bodyPost_ret (results_arr_tmp Tryz.results13 (RP16) _ _ (w.heap.size) (0) ([.int .i64 0, .int .i64 0, .int .i64 0, .int .i64 0, .int .i64 0, .int .i64 0, .int .u32 0, .int .u32 0, .int .u32 0, .int .u64 0, .int .u64 0, .int .u64 0, .int .u64 0, .slice none 0 0, .slice none 0 0, .bool false]) rfl (hV.rd) (rfl) (.int .i64 3) rfl) rfl ?_
      rw [er.out]
      exact PktE.err _ _ _ (Below.trans (hE4.trans eX) (hMV.below (Nat.le_refl _) (Below.size (hE4.trans eX))))
     | some z =>
      obtain ⟨v1,m1,v2,m2⟩:=hps z q5
      have hzl:=partsE_sealed q5
      replace hat:=Lib.hid (show r=_ by rw [hat.out,q5])
      clear q5 hps
      go_wp2_with (first
       | ((refine wpList_alloc_store (RG2) rfl rfl _ _ rfl rfl rfl rfl (by simp [Act.put]) ([.slice p1 n1 k1, .slice p2 n2 k2]) rfl (by simp) (rfl) (oC) ?_;intro x2 hz2 _);haveI:=hz2.blt;have e0:=hz2.cell? 0 rfl;have e1:=hz2.cell? 1 rfl)
       | fail)
      refine nameW ?_
      intro W5 hW5
      have hE6:Ext w4 W5:=by rw [hW5];exact eX
      have hg5:Blk W5 w4.heap.size 86 [.slice p1 n1 k1, .slice p2 n2 k2]:=by rw [hW5];exact hz2.extB eX
      clear hW5 hz2 e0 e1
      have hE5:=hE4.trans hE6
      have hP5:=hP4.extB hE6
      have hG5:=hG4.extB hE6
      have hO5:=hO4.ext hE6
      have v1:=v1.ext hE6
      have v2:=v2.ext hE6
      have hk5:=hk.ext hE5
      have hS5:=hS.ext hE5
      clear hE4 hP4 hG4 hO4 hE6
      obtain ⟨Q,hQ⟩:∃ Q,nb-y.2.length-4=Q:=⟨_,rfl⟩
      have hSQ:=hS5.take Q (by omega)
      have hQc:Q≤cb:=by omega
      have hQi:(nb:Int)-(y.2.length:Int)-4=(Q:Int):=by omega
      have hQ1:(Q:Int)≤(cb:Int):=by omega
      have hat:=hat.out
      rw [lb,hQ] at hat
      have hop:=fun b' c' W H1 H2 H3=>open_any ak b' p2 32 ck 2 c' n2 k2 ky [b.take Q,z.1] z.2 W H1 hck H2 (by omega) H3 m2
      have hAl:=Lib.hid (show (openE ky [b.take Q,z.1] z.2).1.length≤1280 from Nat.le_trans openE_len (Nat.le_trans hzl y1280))
      generalize openE ky [b.take Q,z.1] z.2=A at *
      replace hat:=Lib.hid hat
      haveI:=hg5.blt
      have e0:=hg5.cell? 0 rfl
      have e1:W5.cell? ⟨w4.heap.size,1,none⟩=some (.slice p2 n2 k2):=hg5.cell? 1 rfl
      clear hQ y52 lb
      refine wp_region_vague 19 [[],[],[],[2],[],[4],[2,3,4,5],[2,3,4,5,6],[1,2,3,4,5,6,7],[],[9],[1,2,3,4,5,6,7,8,9,10],[],[12],[0,1,2,3,4,5,6,7,8,9,10,11,12,13],[0,1,2,3,4,5,6,7,8,9,10,11,12,13,14],[0,1,2,3,4,5,6,7,8,9,10,11,12,13,14,15],[0,1,2,3,4,5,6,7,8,9,10,11,12,13,14,15],[0,1,2,3,4,5,6,7,8,9,10,11,12,13,14,15,16],[0,1,2,3,4,5,6,7,8,9,10,11,12,13,14,15,16,17,18]] (by kernel_rfl) (by kernel_rfl) (by kernel_rfl) (by kernel_rfl) ?_;simp only [q8q,q9q,q10q,q11q,q12q,q13q]
      (repeat (refine VD_a ?_;(try simp only [Act.put,q0q,q1q,q2q])))
      (refine VD_vag (fun p => .slice (p 0).1 2 2) (fun p w''=>Bsc w'' (p 0).1 2 [b.take Q,z.1]) (fun p w w' h hx=>by first|exact h.ext hx|exact ⟨h.1.ext hx,h.2.ext hx⟩|exact ⟨h.1.ext hx,h.2⟩|exact ⟨h.1.ext hx,h.2.1.ext hx,h.2.2.ext hx⟩) (fun us w' hx hf=>⟨rfl,?_⟩) ?_;(unfold gives;simp [go_sem,execOp];exact ⟨fun _=>(some ⟨w'.heap.size,0,none⟩,0),rfl,Ext.of_alloc _ _,bsc2 (hSQ.ext hx) hQc (v1.ext hx) m1 _⟩))
      (repeat (refine VD_a ?_;(try simp only [Act.put,q0q,q1q,q2q])))
      (refine VD_vag (fun p => .tuple #[.slice (p 0).1 (A.1.length) (p 0).2, .int .i64 A.2]) (fun p w''=>Sl w'' (p 0).1 (A.1.length) (A.1)∧(A.1.length)≤(p 0).2) (fun p w w' h hx=>⟨h.1.ext hx,h.2⟩) (fun us w' hx hf=>⟨rfl,?_⟩) ?_;(unfold gives;simp [go_sem,execOp];exact vag_read (hop _ _ _ (hk5.ext hx) (hf _ (List.mem_append_right _ (List.mem_singleton_self _)) rfl) (v2.ext hx))))
      (repeat (refine VD_a ?_;(try simp only [Act.put,q0q,q1q,q2q])))
      (refine VD_z ?_;intro us x hx hf;(try simp only [Act.put,q0q,q1q,q2q,wpList_none]);(try simp only [q3q,q4q,or_false,forall_eq_or_imp,forall_eq,q5q,q6q,q7q,false_or,true_and,and_true] at hf);(try simp only [Nat.reduceAdd,Nat.zero_add] at hf ⊢))
      obtain ⟨-,hS7,hc7⟩:=hf
      obtain ⟨p7,hp7⟩:∃ a,(us 14 0).1=a:=⟨_,rfl⟩
      obtain ⟨k7,hk7⟩:∃ a,(us 14 0).2=a:=⟨_,rfl⟩
      rw [hp7] at hS7 ⊢
      rw [hk7] at hc7 ⊢
      clear hp7 hk7 e0 e1 hg5 v1 v2 hSQ hk5 hS5 hop hQi hQ1 hQc
      have hx7:Ext W5 (W5.ext x):=Ext.of_ext _ _
      have hE7:=hE5.trans hx7
      have hP7:=hP5.extB hx7
      have hG7:=hG5.extB hx7
      have hO7:=hO5.ext hx7
      clear hE5 hP5 hG5 hO5 hx7
      generalize W5.ext x=W7 at *
      haveI:=hP7.blt
      by_cases q8:A.2=0
      ·rw [q8]
       have hdf:=fun W H=>xdecode_any p7 A.1.length k7 A.1 W H hc7 (Nat.le_trans hAl.out (by decide))
       replace hat:=Lib.hid (show r=_ by rw [hat.out,if_neg (by simpa using q8)])
       clear q8
       generalize A.1=D at *
       go_wp2_with fail
       (with_reducible refine (hdf W7 hS7).mono ?_)
       rintro e w8 ⟨b8,d8,rfl,hO8,hx8⟩
       have hE8:=hE7.trans hx8
       have hP8:=hP7.extB hx8
       have hG8:=hG7.extB hx8
       have hO7:=hO7.ext hx8
       clear hE7 hP7 hG7 hS7 hx8 hdf
       haveI:=hP8.blt
       haveI:=hG8.blt
       have g13:w8.cell? ⟨w1.heap.size,13,none⟩=some (.slice (some ⟨g0,o0,none⟩) L.length d1):=hG8.cell? 13 rfl
       by_cases q9:(decF D).2=0
       ·rw [q9]
        have er:=Lib.hid (show r=(⟨H,L.take i,(decF D).1,true⟩,0) by rw [hat.out,if_neg (by simpa using q9)])
        clear q9 hat
        generalize (decF D).1=S at *
        have l1:(i:Int)≤(d1:Int):=by omega
        have l2:(i:Int)≤(i:Int):=Int.le_refl _
        have hil:i≤L.length:=by omega
        have hGl:Rd w8 (some ⟨w1.heap.size,0,none⟩) [.int .i64 H.leap, .int .i64 H.ver, .int .i64 H.mode, .int .i64 H.strat, .int .i64 H.poll, .int .i64 H.prec, .int .u32 (n32 H.rd), .int .u32 (n32 H.rp), .int .u32 (n32 H.id), .int .u64 (n64 H.ref), .int .u64 (n64 H.org), .int .u64 (n64 H.rcv), .int .u64 (n64 H.tx)]:=Rd.left (vs:=[.int .i64 H.leap, .int .i64 H.ver, .int .i64 H.mode, .int .i64 H.strat, .int .i64 H.poll, .int .i64 H.prec, .int .u32 (n32 H.rd), .int .u32 (n32 H.rp), .int .u32 (n32 H.id), .int .u64 (n64 H.ref), .int .u64 (n64 H.org), .int .u64 (n64 H.rcv), .int .u64 (n64 H.tx)]) (us:=[.slice (some ⟨g0,o0,none⟩) L.length d1, .slice none 0 0, .bool false]) hG8.rd
        clear q4 iq iz hi hi1 hi0 hy
        go_wp2_with fail
        refine wp_region_vague 9 [[],[0],[],[2],[],[],[2,3,4,5],[],[0,1,2,3,4,5,6,7],[0,1,2,3,4,5,6,7,8],[0,1,2,3,4,5,6,7,8,9]] (by kernel_rfl) (by kernel_rfl) (by kernel_rfl) (by kernel_rfl) ?_;simp only [q8q,q9q,q10q,q11q,q12q,q13q]
        (repeat (refine VD_a ?_;(try simp only [Act.put,q0q,q1q,q2q])))
        (refine VD_load_arr (RH13) _ rfl (fun _=>rfl) (w1.heap.size) (0) (fun _=>by simp [go_sem]) ([.int .i64 H.leap, .int .i64 H.ver, .int .i64 H.mode, .int .i64 H.strat, .int .i64 H.poll, .int .i64 H.prec, .int .u32 (n32 H.rd), .int .u32 (n32 H.rp), .int .u32 (n32 H.id), .int .u64 (n64 H.ref), .int .u64 (n64 H.org), .int .u64 (n64 H.rcv), .int .u64 (n64 H.tx)]) (hGl) (rfl) ?_)
        (repeat (refine VD_a ?_;(try simp only [Act.put,q0q,q1q,q2q])))
        (refine VD_z ?_;intro us x hx hf;(try simp only [Act.put,q0q,q1q,q2q,wpList_none]);(try simp only [q3q,q4q,or_false,forall_eq_or_imp,forall_eq,q5q,q6q,q7q,false_or,true_and,and_true] at hf);(try simp only [Nat.reduceAdd,Nat.zero_add] at hf ⊢))
        have hx9:Ext w8 (w8.ext x):=Ext.of_ext _ _
        have hE9:=hE8.trans hx9
        have hP9:=hP8.extB hx9
        have hO7:=hO7.ext hx9
        have hO8:=hO8.ext hx9
        generalize w8.ext x=W9 at *
        haveI:=hP9.blt
        clear hf hx9 hE8 hP8 hG8 hGl g13
        go_wp2_with (first
         | (refine wpList_store_arr (RP16) rfl _ _ rfl (w.heap.size) (0) rfl ([.int .i64 H.leap, .int .i64 H.ver, .int .i64 H.mode, .int .i64 H.strat, .int .i64 H.poll, .int .i64 H.prec, .int .u32 (n32 H.rd), .int .u32 (n32 H.rp), .int .u32 (n32 H.id), .int .u64 (n64 H.ref), .int .u64 (n64 H.org), .int .u64 (n64 H.rcv), .int .u64 (n64 H.tx), .slice (some ⟨g0,o0,none⟩) i i, .slice b8 S.length d8, .bool true]) rfl (32) _ (hP9) (rfl) (by simp) (oC) ?_;intro V hV hMV)
         | fail)
        refine bodyPost_ret (results_arr_tmp Tryz.results13 (RP16) _ _ (w.heap.size) (0) ([.int .i64 H.leap, .int .i64 H.ver, .int .i64 H.mode, .int .i64 H.strat, .int .i64 H.poll, .int .i64 H.prec, .int .u32 (n32 H.rd), .int .u32 (n32 H.rp), .int .u32 (n32 H.id), .int .u64 (n64 H.ref), .int .u64 (n64 H.org), .int .u64 (n64 H.rcv), .int .u64 (n64 H.tx), .slice (some ⟨g0,o0,none⟩) i i, .slice b8 S.length d8, .bool true]) rfl (hV.rd) (rfl) (.int .i64 0) rfl) rfl ?_
        rw [er.out]
        exact ⟨_,_,_,_,_,_,rfl,(hO7.mut hP9 (by decide) (by simp) hMV).ib.1.take i hil,Nat.le_refl _,(hO8.mut hP9 (by decide) (by simp) hMV).ib.1,(hO8.mut hP9 (by decide) (by simp) hMV).ib.2,Below.trans hE9 (hMV.below (Nat.le_refl _) hE9.size)⟩
       ·have er:=Lib.hid (show r=(zeroP,(decF D).2) by rw [hat.out,if_pos q9])
        have i9:=ne0 q9
        generalize (decF D).2=v9 at *
        generalize (decF D).1=S at *
        clear q9 hat
        go_wp2_with (first
         | (refine wpList_store_arr (RP16) rfl _ _ rfl (w.heap.size) (0) rfl ([.int .i64 0, .int .i64 0, .int .i64 0, .int .i64 0, .int .i64 0, .int .i64 0, .int .u32 0, .int .u32 0, .int .u32 0, .int .u64 0, .int .u64 0, .int .u64 0, .int .u64 0, .slice none 0 0, .slice none 0 0, .bool false]) rfl (32) _ ((hP8.extB eX)) (rfl) (by simp) (oC) ?_;intro V hV hMV)
         | fail)
        refine bodyPost_ret (results_arr_tmp Tryz.results13 (RP16) _ _ (w.heap.size) (0) ([.int .i64 0, .int .i64 0, .int .i64 0, .int .i64 0, .int .i64 0, .int .i64 0, .int .u32 0, .int .u32 0, .int .u32 0, .int .u64 0, .int .u64 0, .int .u64 0, .int .u64 0, .slice none 0 0, .slice none 0 0, .bool false]) rfl (hV.rd) (rfl) (.int .i64 v9) rfl) rfl ?_
        rw [er.out]
        exact PktE.err _ _ _ (Below.trans (hE8.trans eX) (hMV.below (Nat.le_refl _) (Below.size (hE8.trans eX))))
      ·have er:=Lib.hid (show r=(zeroP,6) by rw [hat.out,if_pos q8])
       have i8:=ne0 q8
       generalize A.2=v8 at *
       generalize A.1=D at *
       clear q8 hat
       go_wp2_with (first
        | (refine wpList_store_arr (RP16) rfl _ _ rfl (w.heap.size) (0) rfl ([.int .i64 0, .int .i64 0, .int .i64 0, .int .i64 0, .int .i64 0, .int .i64 0, .int .u32 0, .int .u32 0, .int .u32 0, .int .u64 0, .int .u64 0, .int .u64 0, .int .u64 0, .slice none 0 0, .slice none 0 0, .bool false]) rfl (32) _ ((hP7.extB eX)) (rfl) (by simp) (oC) ?_;intro V hV hMV)
        | fail)
       refine bodyPost_ret (results_arr_tmp Tryz.results13 (RP16) _ _ (w.heap.size) (0) ([.int .i64 0, .int .i64 0, .int .i64 0, .int .i64 0, .int .i64 0, .int .i64 0, .int .u32 0, .int .u32 0, .int .u32 0, .int .u64 0, .int .u64 0, .int .u64 0, .int .u64 0, .slice none 0 0, .slice none 0 0, .bool false]) rfl (hV.rd) (rfl) (.int .i64 6) rfl) rfl ?_
       rw [er.out]
       exact PktE.err _ _ _ (Below.trans (hE7.trans eX) (hMV.below (Nat.le_refl _) (Below.size (hE7.trans eX))))
    ·rw [if_pos (by omega)] at hat
     have er:=Lib.hid hat
     have iq:((i:Int) != (L.length:Int)-1)=true:=by rw [bne_iff_ne];omega
     clear hat
     go_wp2_with (first
      | (refine wpList_store_arr (RP16) rfl _ _ rfl (w.heap.size) (0) rfl ([.int .i64 0, .int .i64 0, .int .i64 0, .int .i64 0, .int .i64 0, .int .i64 0, .int .u32 0, .int .u32 0, .int .u32 0, .int .u64 0, .int .u64 0, .int .u64 0, .int .u64 0, .slice none 0 0, .slice none 0 0, .bool false]) rfl (32) _ ((hP3.extB eX)) (rfl) (by simp) (oC) ?_;intro V hV hMV)
      | fail)
     refine bodyPost_ret (results_arr_tmp Tryz.results13 (RP16) _ _ (w.heap.size) (0) ([.int .i64 0, .int .i64 0, .int .i64 0, .int .i64 0, .int .i64 0, .int .i64 0, .int .u32 0, .int .u32 0, .int .u32 0, .int .u64 0, .int .u64 0, .int .u64 0, .int .u64 0, .slice none 0 0, .slice none 0 0, .bool false]) rfl (hV.rd) (rfl) (.int .i64 3) rfl) rfl ?_
     rw [er.out]
     exact PktE.err _ _ _ (Below.trans (hE3.trans eX) (hMV.below (Nat.le_refl _) (Below.size (hE3.trans eX))))
  ·have er:=Lib.hid (show r=(zeroP,(readE b).2) by rw [← hr.out];exact openP_read q1' q2)
   have i2:=ne0 q2
   generalize (readE b).2=v at *
   generalize (readE b).1.plain=L at *
   generalize (readE b).1.h=H at *
   clear q2
   go_wp2_with (first
    | (refine wpList_alloc_store (RP16) rfl rfl _ _ rfl rfl rfl rfl (by simp [Act.put]) ([.int .i64 H.leap, .int .i64 H.ver, .int .i64 H.mode, .int .i64 H.strat, .int .i64 H.poll, .int .i64 H.prec, .int .u32 (n32 H.rd), .int .u32 (n32 H.rp), .int .u32 (n32 H.id), .int .u64 (n64 H.ref), .int .u64 (n64 H.org), .int .u64 (n64 H.rcv), .int .u64 (n64 H.tx), .slice b1 L.length d1, .slice none 0 0, .bool false]) rfl (by simp) (rfl) (oC) ?_;intro x hz _)
    | (refine wpList_store_arr (RP16) rfl _ _ rfl (w.heap.size) (0) rfl ([.int .i64 0, .int .i64 0, .int .i64 0, .int .i64 0, .int .i64 0, .int .i64 0, .int .u32 0, .int .u32 0, .int .u32 0, .int .u64 0, .int .u64 0, .int .u64 0, .int .u64 0, .slice none 0 0, .slice none 0 0, .bool false]) rfl (32) _ ((hP1.extB eX)) (rfl) (by simp) (oC) ?_;intro V hV hMV)
    | fail)
   refine bodyPost_ret (results_arr_tmp Tryz.results13 (RP16) _ _ (w.heap.size) (0) ([.int .i64 0, .int .i64 0, .int .i64 0, .int .i64 0, .int .i64 0, .int .i64 0, .int .u32 0, .int .u32 0, .int .u32 0, .int .u64 0, .int .u64 0, .int .u64 0, .int .u64 0, .slice none 0 0, .slice none 0 0, .bool false]) rfl (hV.rd) (rfl) (.int .i64 v) rfl) rfl ?_
   rw [er.out]
   exact PktE.err _ _ _ (Below.trans (hE1.trans eX) (hMV.below (Nat.le_refl _) (Below.size (hE1.trans eX))))
 ·have er:=Lib.hid (show r=(zeroP,5) by rw [← hr.out];exact openP_key (by omega))
  have i1:((nk:Int) != 32)=true:=by rw [bne_iff_ne];omega
  clear lk lb q1
  go_enter Tryz.func13,Tryz.ntmps13
  go_wp2_with (first
   | (refine wpList_store_arr (RP16) rfl _ _ rfl (w.heap.size) (0) rfl ([.int .i64 0, .int .i64 0, .int .i64 0, .int .i64 0, .int .i64 0, .int .i64 0, .int .u32 0, .int .u32 0, .int .u32 0, .int .u64 0, .int .u64 0, .int .u64 0, .int .u64 0, .slice none 0 0, .slice none 0 0, .bool false]) rfl (32) _ ((Blk.new w #[.int .i64 0, .int .i64 0, .int .i64 0, .int .i64 0, .int .i64 0, .int .i64 0, .int .u32 0, .int .u32 0, .int .u32 0, .int .u64 0, .int .u64 0, .int .u64 0, .int .u64 0, .slice none 0 0, .slice none 0 0, .bool false] 32)) (rfl) (by simp) (oC) ?_;intro V hV hMV)
   | fail)
  refine bodyPost_ret (results_arr_tmp Tryz.results13 (RP16) _ _ (w.heap.size) (0) ([.int .i64 0, .int .i64 0, .int .i64 0, .int .i64 0, .int .i64 0, .int .i64 0, .int .u32 0, .int .u32 0, .int .u32 0, .int .u64 0, .int .u64 0, .int .u64 0, .int .u64 0, .slice none 0 0, .slice none 0 0, .bool false]) rfl (hV.rd) (rfl) (.int .i64 5) rfl) rfl ?_
  rw [er.out]
  exact PktE.err _ _ _ (Below.trans (Ext.of_alloc _ _) (hMV.below (Nat.le_refl _) (by simp)))
end Go.Proofs.YtdmifbfgeeldnaaGreat

/- Layer 22: what Answer answers. -/
namespace Go.Jar
open Go.Pkt
def cksF (S:List Fld):List (List UInt8):=(S.filter fun f=>decide (f.1=516)).map (·.2)
theorem cksF_yes {S:List Fld} {i:Nat} {y:Fld} (h:S[i]?=some y) (hy:y.1=516):cksF (S.take (i+1))=cksF (S.take i)++[y.2]:=by
 unfold cksF
 rw [List.take_add_one,h]
 simp [List.filter_append,hy]
theorem cksF_no {S:List Fld} {i:Nat} {y:Fld} (h:S[i]?=some y) (hy:y.1≠516):cksF (S.take (i+1))=cksF (S.take i):=by
 unfold cksF
 rw [List.take_add_one,h]
 simp [List.filter_append,hy]
theorem cksF_mem {S:List Fld} {y:Fld} (h:y∈S) (hy:y.1=516):y.2∈cksF S:=by
 unfold cksF
 exact List.mem_map.2 ⟨y,List.mem_filter.2 ⟨h,by simpa using hy⟩,rfl⟩
theorem cksF_len (S:List Fld):(cksF S).length≤S.length:=by
 unfold cksF
 rw [List.length_map]
 exact List.length_filter_le _ _
theorem cksF_ixs (S:List Fld):∀ i,cksF (S.take i)=(ixs 516 (S.take i) i).map fun k=>(S.getD k (0,[])).2:=by
 intro i
 induction i with
 | zero=>simp [cksF,ixs]
 | succ i ih =>
  have e:ixs 516 (S.take (i+1)) i=ixs 516 (S.take i) i:=by
   unfold ixs
   refine List.filter_congr fun k hk=>?_
   have hk:=List.mem_range.1 hk
   have g:∀ m,k<m→((S.take m).getD k ((0:Int),([]:List UInt8)))=S.getD k (0,[]):=fun m hm=>by
    rw [List.getD_eq_getElem?_getD,List.getD_eq_getElem?_getD,List.getElem?_take,if_pos hm]
   rw [g (i+1) (by omega),g i hk]
  have g1:(S.take (i+1)).getD i ((0:Int),([]:List UInt8))=S.getD i (0,[]):=by
   rw [List.getD_eq_getElem?_getD,List.getD_eq_getElem?_getD,List.getElem?_take,if_pos (by omega)]
  by_cases h:(S.getD i ((0:Int),([]:List UInt8))).1=516
  ·have hi:i<S.length:=by
    rcases Nat.lt_or_ge i S.length with h1|h1
    ·exact h1
    ·rw [List.getD_eq_getElem?_getD,List.getElem?_eq_none h1] at h;exact absurd h (by decide)
   have hs:S[i]?=some S[i]:=List.getElem?_eq_getElem hi
   have hd:S.getD i ((0:Int),([]:List UInt8))=S[i]:=by rw [List.getD_eq_getElem?_getD,hs];rfl
   rw [cksF_yes hs (by rw [← hd];exact h),ih,ixs_yes (by rw [g1];exact h),e,List.map_append,← hd]
   rfl
  ·rw [ixs_no (by rw [g1];exact h),e,← ih]
   rcases Nat.lt_or_ge i S.length with h1|h1
   ·have hs:S[i]?=some S[i]:=List.getElem?_eq_getElem h1
    have hd:S.getD i ((0:Int),([]:List UInt8))=S[i]:=by rw [List.getD_eq_getElem?_getD,hs];rfl
    exact cksF_no hs (by rw [← hd];exact h)
   ·rw [List.take_of_length_le h1,List.take_of_length_le (by omega)]
theorem cksF_all (S:List Fld):cksF S=(ixs 516 S S.length).map fun k=>(S.getD k (0,[])).2:=by
 have:=cksF_ixs S S.length
 rwa [List.take_of_length_le (Nat.le_refl _)] at this
def idOk (L:List Fld) (u:List UInt8):Prop:=∃ i,ixs 260 L L.length=[i]∧(L.getD i (0,[])).2=u
instance (L:List Fld) (u:List UInt8):Decidable (idOk L u) :=
 match h:ixs 260 L L.length with
 | [] => .isFalse fun ⟨i,h1,_⟩=>by rw [h] at h1;cases h1
 | [i]=>if h2:(L.getD i (0,[])).2=u then .isTrue ⟨i,h,h2⟩ else .isFalse fun ⟨k,h1,h3⟩=>by rw [h] at h1;injection h1 with h1;subst h1;exact h2 h3
 | _ :: _ :: _ => .isFalse fun ⟨i,h1,_⟩=>by rw [h] at h1;injection h1 with _ h1;cases h1
def ansAt (j:Jar) (u:List UInt8)(P:Pkt × Int):(Jar × Pkt) × Int :=
 if P.2≠0 then ((zeroJ,zeroP),P.2) else if P.1.h.mode≠4 then ((zeroJ,zeroP),3) else if ¬ idOk P.1.plain u then ((zeroJ,zeroP),7)
 else if allC (cksF P.1.secret)=true then ((addJ j (cksF P.1.secret),P.1),0) else ((zeroJ,zeroP),3)
def ansJ (j:Jar) (u b:List UInt8):(Jar × Pkt) × Int:=if validJ j=true∧u.length=32 then ansAt j u (openP j.dn b) else ((zeroJ,zeroP),3)
end Go.Jar
namespace Go.Sec
open Go.RowKit
section
variable {P:Program} {fn:Func} {p p2 u n n2:Nat} {T T2:TypeId}
theorem results_arr2_tmp (h:fn.results=#[.cell p T, .cell p2 T2, .tmp u]) (hT:RowT P T n) (hT2:RowT P T2 n2) (tmps:Array Value) (w:World)(g o:Nat) (cs:List Value)(hp:tmps.getD p undef = .pointer (some ⟨g,o,none⟩))
  (hR:Rd w (some ⟨g,o,none⟩) cs) (hn:cs.length=n) (g2 o2:Nat) (cs2:List Value)(hp2:tmps.getD p2 undef = .pointer (some ⟨g2,o2,none⟩)) (hR2:Rd w (some ⟨g2,o2,none⟩) cs2) (hn2:cs2.length=n2) (v:Value)(hv:tmps.getD u undef=v) :
  (results fn tmps).run P w = .ok (.tuple #[.agg cs.toArray, .agg cs2.toArray,v]) w:=by
 have hp':tmps[p]?.getD undef = .pointer (some ⟨g,o,none⟩):=by simpa using hp
 have hp2':tmps[p2]?.getD undef = .pointer (some ⟨g2,o2,none⟩):=by simpa using hp2
 subst hv
 simp [results,h,hp',hp2',asAddr,loadVar_arr hT w g o cs hR hn,loadVar_arr hT2 w g2 o2 cs2 hR2 hn2]
end
end Go.Sec
namespace Go.Proofs.YtdmifbfgeeldnaaGreat
open Go.RowKit Go.Sec Go.Oct Go.Jar Go.Pkt BigFrame
def AnsE (r:(Jar × Pkt) × Int) (w:World)(e:Ending) (w':World):Prop:=∃ b1 n1 d1 b2 n2 d2 b3 n3 d3 b4 n4 d4 p1 m1 k1 p2 m2 k2,e = .returned (.tuple #[.agg #[.slice b1 n1 d1, .slice b2 n2 d2, .slice b3 n3 d3, .slice b4 n4 d4, .int .i64 r.1.1.net, .int .i64 r.1.1.sent], .agg #[.int .i64 r.1.2.h.leap, .int .i64 r.1.2.h.ver, .int .i64 r.1.2.h.mode, .int .i64 r.1.2.h.strat, .int .i64 r.1.2.h.poll, .int .i64 r.1.2.h.prec, .int .u32 (n32 r.1.2.h.rd), .int .u32 (n32 r.1.2.h.rp), .int .u32 (n32 r.1.2.h.id), .int .u64 (n64 r.1.2.h.ref), .int .u64 (n64 r.1.2.h.org), .int .u64 (n64 r.1.2.h.rcv), .int .u64 (n64 r.1.2.h.tx), .slice p1 m1 k1, .slice p2 m2 k2, .bool r.1.2.guarded], .int .i64 r.2]) ∧
 Sl w' b1 n1 r.1.1.up∧n1≤d1∧Sl w' b2 n2 r.1.1.dn∧n2≤d2∧Bsc w' b3 n3 r.1.1.ck∧n3≤d3∧Typ3 w' b3∧Sl w' b4 n4 r.1.1.last∧n4≤d4∧Ib w' p1 m1 r.1.2.plain∧m1≤k1∧Ib w' p2 m2 r.1.2.secret∧m2≤k2∧Ext w w'
theorem AnsE.zero (w w':World)(e:Int) (hx:Ext w w'):AnsE ((zeroJ,zeroP),e) w (.returned (.tuple #[.agg #[.slice none 0 0, .slice none 0 0, .slice none 0 0, .slice none 0 0, .int .i64 0, .int .i64 0], .agg #[.int .i64 0, .int .i64 0, .int .i64 0, .int .i64 0, .int .i64 0, .int .i64 0, .int .u32 0, .int .u32 0, .int .u32 0, .int .u64 0, .int .u64 0, .int .u64 0, .int .u64 0, .slice none 0 0, .slice none 0 0, .bool false], .int .i64 e])) w' :=
 ⟨none,0,0,none,0,0,none,0,0,none,0,0,none,0,0,none,0,0,rfl,Sl.nil _ _,Nat.le_refl _,Sl.nil _ _,Nat.le_refl _,Bsc.nil _ _,Nat.le_refl _,Typ3.none _,Sl.nil _ _,Nat.le_refl _,Ib.nil _ _,Nat.le_refl _,Ib.nil _ _,Nat.le_refl _,hx⟩
end Go.Proofs.YtdmifbfgeeldnaaGreat

/- Layer 22: what the statement JarRefills asks, as plain functions. No program. -/
namespace Go.Lane
open Go.Sha
def offsR:List Nat:=((List.range 8).map fun i=>1000003*(i+1))++(List.range 8).map fun i=>7000000*(i+1)
theorem offsR_ne:allNe 1024 (offsR.map (headOff 1024))=true:=by decide +kernel
theorem offsR_le:∀ o∈offsR,o+1024≤2 ^ 32:=by decide
theorem cookiesR {s:Nat} (hs:s<1024):offsR.Pairwise fun a b=>wbytes (s+a) 104≠wbytes (s+b) 104:=all_ne (by decide) offsR_le offsR_ne s hs
end Go.Lane
namespace Go.Jar
open Go.Sha Go.Pkt Go.Oct Go.Aes Go.Lane
def frW (s n:Nat):List (List UInt8):=(List.range n).map fun i=>wbytes (s+7000000*(i+1)) 104
theorem frW_length (s n:Nat):(frW s n).length=n:=by simp [frW]
theorem frW_succ (s n:Nat):frW s (n+1)=frW s n++[wbytes (s+7000000*(n+1)) 104]:=by simp [frW,List.range_succ]
theorem frW_104 {s n:Nat} {b:List UInt8} (h:b∈frW s n):b.length=104:=by
 obtain ⟨i,_,rfl⟩:=List.mem_map.1 h
 exact wbytes_length _ _
theorem all_nodup {s k n:Nat} (hs:s<1024) (hk:k≤8) (hn:n≤8):(ckW s k++frW s n).Nodup:=by
 have h:=cookiesR hs
 have h2:(ckW s 8++frW s 8).Nodup:=by
  have e:ckW s 8++frW s 8=offsR.map fun a=>wbytes (s+a) 104:=by
   unfold ckW frW offsR
   rw [List.map_append,List.map_map,List.map_map]
   rfl
  rw [e]
  unfold List.Nodup
  rw [List.pairwise_map]
  exact h
 refine h2.sublist (List.Sublist.append ?_ ?_)
 ·exact (List.range_sublist.2 hk).map _
 ·exact (List.range_sublist.2 hn).map _
def secF (s n:Nat):List Fld:=(frW s n).map fun b=>(516,b)
theorem secF_length (s n:Nat):(secF s n).length=n:=by unfold secF;rw [List.length_map,frW_length]
theorem secF_succ (s n:Nat):secF s (n+1)=secF s n++[(516,wbytes (s+7000000*(n+1)) 104)]:=by unfold secF;rw [frW_succ,List.map_append];rfl
theorem secF_in {s n:Nat} {f:Fld} (h:f∈secF s n):f.1=516∧f.2.length=104:=by
 obtain ⟨b,hb,rfl⟩:=List.mem_map.1 h
 exact ⟨rfl,frW_104 hb⟩
theorem totSec (s n:Nat):totN (secF s n)=108*n:=by
 induction n with
 | zero=>rfl
 | succ n ih =>
  rw [secF_succ,totN_snoc,ih]
  show 108*n+szN (wbytes _ 104).length=_
  rw [wbytes_length,show szN 104=108 from by decide]
  omega
theorem cks_sec (s n:Nat):cksF (secF s n)=frW s n:=by
 unfold cksF secF
 rw [List.filter_eq_self.2 (fun f hf=>by obtain ⟨b,_,rfl⟩:=List.mem_map.1 hf;rfl),List.map_map]
 exact (List.map_congr_left fun _ _=>rfl).trans (List.map_id _)
theorem pad_104 {f:Fld} (h:f.2.length=104):padF f=f:=by
 obtain ⟨a,b⟩:=f
 have h:b.length=104:=h
 unfold padF
 simp only
 rw [h,show szN 104-4-104=0 from by decide]
 simp
theorem pad_32 {u:List UInt8} (h:u.length=32):[((260:Int),u)].map padF=[(260,u)]:=by
 show [padF (260,u)]=_
 unfold padF
 simp only
 rw [h,show szN 32-4-32=0 from by decide]
 simp
theorem pad_sec (s n:Nat):(secF s n).map padF=secF s n :=
 (List.map_congr_left fun f hf=>pad_104 (secF_in hf).2).trans (List.map_id _)
def hR:Hdr:=⟨0,4,4,1,6, -20,0,0,0,0,3,10,20⟩
theorem hR_ok:okH hR:=by decide
def pktR (s n:Nat) (u:List UInt8):Pkt:=⟨hR,[(260,u)],secF s n,false⟩
theorem fitsR {u:List UInt8} (hu:u.length=32) (s:Nat) {n:Nat} (hn:n≤8):Fits (pktR s n u) 16 where
 h:=hR_ok
 f1:=fun f hf=>by
  rw [List.mem_singleton.1 hf]
  exact ⟨⟨by simp,by simp⟩,by show szN u.length≤1232;rw [hu];decide⟩
 f2:=fun f hf=>by
  obtain ⟨h1,h2⟩:=secF_in hf
  rw [h1,h2]
  exact ⟨⟨by simp,by simp⟩,by decide⟩
 a:=fun f hf=>by rw [List.mem_singleton.1 hf];simp
 n1:=by show 1<24;omega
 n2:=by show (secF s n).length≤24;rw [secF_length];omega
 n0:=by omega
 t:=by
  show 48+totN [(260,u)]+(8+pad4 16+pad4 (16+totN (secF s n)))≤1280
  rw [totSec,show totN [((260:Int),u)]=szN u.length by simp [totN],hu,show szN 32=36 from by decide]
  unfold pad4;omega
 t2:=by show totN (secF s n)≤1232;rw [totSec];omega
def ansX (s n:Nat) (u nn:List UInt8):List UInt8:=(protE (dnW s) (pktR s n u) nn).1
theorem ansX_all {u nn:List UInt8} (hu:u.length=32) (hnn:nn.length=16) (s:Nat) {n:Nat} (hn:n≤8):protE (dnW s) (pktR s n u) nn=(ansX s n u nn,0)∧(ansX s n u nn).length=124+108*n∧openP (dnW s) (ansX s n u nn)=(⟨hR,[(260,u)],secF s n,true⟩,0):=by
 have hf:=fitsR hu s hn
 rw [← hnn] at hf
 have hp:=protE_fits (dnW_length s) hf
 have e1:ansX s n u nn=_:=congrArg Prod.fst hp.1
 refine ⟨?_,?_,?_⟩
 ·rw [e1];exact hp.1
 ·have h3:=hp.2
  have h4:=fits_len hf
  have tp:totN (pktR s n u).plain=36:=by
   show totN [((260:Int),u)]=36
   rw [show totN [((260:Int),u)]=szN u.length by simp [totN],hu];decide
  have ts:totN (pktR s n u).secret=108*n:=totSec s n
  rw [e1]
  show (hdrB (pktR s n u).h++bytesF (pktR s n u).plain++fldB (1028,guardB nn (sealB (dnW s) (pktR s n u) nn))).length=_
  rw [List.length_append,h3,h4,hnn,tp,ts]
  unfold pad4;omega
 ·have h5:=openP_fits (dnW_length s) hf
  have a1:(pktR s n u).plain.map padF=[(260,u)]:=pad_32 hu
  have a2:(pktR s n u).secret.map padF=secF s n:=pad_sec s n
  rw [a1,a2] at h5
  rw [e1]
  exact h5
def jarF (s k n:Nat):Jar:=⟨upW s,dnW s,(ckW s k).tail++frW s n,ck0 s,1,1⟩
theorem jarF_ck {s k n:Nat} (hk:k≤8) (h1:1≤k):(jarF s k n).ck.length=k-1+n:=by
 show ((ckW s k).tail++frW s n).length=_
 rw [List.length_append,List.length_tail,ckW_length,frW_length]
theorem nodR {s k n:Nat} (hs:s<1024) (h1:1≤k) (hk:k≤8) (hn:n≤8):ck0 s ∉ (ckW s k).tail++frW s n∧((ckW s k).tail++frW s n).Nodup:=by
 obtain ⟨k,rfl⟩:∃ m,k=m+1:=⟨k-1,by omega⟩
 have h:=all_nodup hs hk hn
 rw [ckW_cons,q6q,List.nodup_cons] at h
 exact h
theorem addR {s k:Nat} (hs:s<1024) (h1:1≤k) (hk:k≤8):∀ n,n≤9-k→addJ (jar1 s k) (frW s n)=jarF s k n:=by
 intro n
 induction n with
 | zero=>intro _;show jar1 s k=_;unfold jar1 jarF frW;simp
 | succ n ih =>
  intro hn
  have h:=nodR (n:=n+1) hs h1 hk (by omega)
  rw [frW_succ,addJ_snoc,ih (by omega)]
  rw [frW_succ,← List.append_assoc] at h
  have hne:ck0 s≠wbytes (s+7000000*(n+1)) 104:=fun e=>h.1 (List.mem_append_right _ (by rw [e];exact List.mem_singleton_self _))
  have hni:wbytes (s+7000000*(n+1)) 104 ∉ (ckW s k).tail++frW s n:=fun e =>
   (List.nodup_append.1 h.2).2.2 _ e _ (List.mem_singleton_self _) rfl
  unfold addOne
  rw [if_pos ⟨by rw [jarF_ck hk h1];omega,hni,hne⟩]
  show (⟨upW s,dnW s,((ckW s k).tail++frW s n)++[wbytes (s+7000000*(n+1)) 104],ck0 s,1,1⟩:Jar)=⟨upW s,dnW s,(ckW s k).tail++frW s (n+1),ck0 s,1,1⟩
  rw [frW_succ,List.append_assoc]
theorem jarF_valid {s k:Nat} (hs:s<1024) (h1:1≤k) (hk:k≤8):validJ (jarF s k (9-k))=true:=by
 have h:=nodR (n:=9-k) hs h1 hk (by omega)
 refine validJ_end ⟨⟨upW_length s,dnW_length s⟩,?_, .inr (ck0_length s),h.1,?_,?_,?_⟩ ?_ h.2
 ·rw [jarF_ck hk h1];omega
 ·show (0:Int)≤1;omega
 ·show (0:Int)≤1;omega
 ·show (1:Int)≤1099511627776;omega
 ·intro b hb
  rcases List.mem_append.1 hb with h|h
  ·exact ckW_104 (s:=s) (k:=k) (List.mem_of_mem_tail h)
  ·exact frW_104 h
theorem ixR (u:List UInt8):ixs 260 [((260:Int),u)] [((260:Int),u)].length=[0]:=rfl
theorem idR {u v:List UInt8}:idOk [((260:Int),u)] v ↔ u=v:=by
 constructor
 ·rintro ⟨i,h1,h2⟩
  rw [ixR] at h1
  injection h1 with h1
  subst h1
  exact h2
 ·rintro rfl
  exact ⟨0,ixR u,rfl⟩
theorem allC_fr (s n:Nat):allC (frW s n)=true:=by
 unfold allC
 exact List.all_eq_true.2 fun b hb=>by simpa using frW_104 hb
theorem ansR {s k:Nat} (hs:s<1024) (h1:1≤k) (hk:k≤8) {u nn:List UInt8} (hu:u.length=32) (hnn:nn.length=16):ansJ (jar1 s k) u (ansX s (9-k) u nn)=((jarF s k (9-k),⟨hR,[(260,u)],secF s (9-k),true⟩),0):=by
 obtain ⟨_,_,e3⟩:=ansX_all (s:=s) (n:=9-k) hu hnn (by omega)
 unfold ansJ
 rw [if_pos ⟨jar1_valid hs h1 hk,hu⟩]
 show ansAt (jar1 s k) u (openP (dnW s) _)=_
 rw [e3]
 unfold ansAt
 rw [if_neg (by simp),if_neg (by simp [hR]),if_neg (not_not_intro (idR.2 rfl))]
 simp only
 rw [cks_sec,if_pos (allC_fr _ _),addR hs h1 hk _ (Nat.le_refl _)]
theorem ansR_no {s k:Nat} (hs:s<1024) (h1:1≤k) (hk:k≤8) {u v nn:List UInt8} (hu:u.length=32) (hv:v.length=32) (hne:u≠v) (hnn:nn.length=16):ansJ (jar1 s k) v (ansX s (9-k) u nn)=((zeroJ,zeroP),7):=by
 obtain ⟨_,_,e3⟩:=ansX_all (s:=s) (n:=9-k) hu hnn (by omega)
 unfold ansJ
 rw [if_pos ⟨jar1_valid hs h1 hk,hv⟩]
 show ansAt (jar1 s k) v (openP (dnW s) _)=_
 rw [e3]
 unfold ansAt
 rw [if_neg (by simp),if_neg (by simp [hR]),if_pos (fun h=>hne (idR.1 h))]
end Go.Jar

/- The walks of extension.Same and of the document's Reply, for the law JarRefills. -/
namespace Go.Proofs.YtdmifbfgeeldnaaGreat
open Go.RowKit Go.Sec Go.Oct Go.Pkt Go.Jar BigFrame
theorem xsame1_any (f g:Fld) (a b:Option Addr)(n c m d:Nat) (w:World)(h1:Sl w a n f.2) (h2:Sl w b m g.2) :
  Calls Tryz.prog 81 #[.agg #[.int .i64 f.1, .slice a n c], .agg #[.int .i64 g.1, .slice b m d]] w fun e w'=>e = .returned (.bool (decide (f=g)))∧Ext w w':=by
 have hs:=fun W H1 H2=>osame_any a b n c m d f.2 g.2 W H1 H2
 by_cases ht:f.1=g.1
 ·have it:(f.1 == g.1)=true:=by simpa using ht
  have e:=Lib.hid (show decide (f=g)=(f.2 == g.2) by
   rw [Bool.eq_iff_iff,decide_eq_true_iff,beq_iff_eq]
   exact ⟨fun h=>by rw [h],fun h=>Prod.ext ht h⟩)
  clear ht
  go_enter Tryz.func81,Tryz.ntmps81
  go_wp2_with (first
   | (go_at_call 71;refine (hs _ (h1.ext eX) (h2.ext eX)).mono ?_;rintro e w1 ⟨rfl,hxq⟩;obtain ⟨xq,rfl⟩:=hxq.out;clear hxq)
   | fail)
  go_ret
  exact ⟨by rw [e.out];rfl,eX⟩
 ·have it:(f.1 == g.1)=false:=by simpa using ht
  have e:=Lib.hid (show decide (f=g)=false by
   rw [decide_eq_false_iff_not]
   exact fun h=>ht (by rw [h]))
  clear ht
  go_enter Tryz.func81,Tryz.ntmps81
  go_wp2_with (first
   | (go_at_call 71;refine (hs _ (h1.ext eX) (h2.ext eX)).mono ?_;rintro e w1 ⟨rfl,hxq⟩;obtain ⟨xq,rfl⟩:=hxq.out;clear hxq)
   | fail)
  go_ret
  exact ⟨by rw [e.out];rfl,eX⟩
set_option maxHeartbeats 4000000 in
theorem xsame2_any (a b:Option Addr)(n c m d:Nat) (L K:List Fld) (w:World)(h1:Ib w a n L) (h2:Ib w b m K) (hn:n≤1000000) :
  Calls Tryz.prog 80 #[.slice a n c, .slice b m d, .func (.func 81) #[] #[]] w fun e w'=>e = .returned (.bool (decide (L=K)))∧Ext w w':=by
 have l1:=h1.len
 have l2:=h2.len
 obtain ⟨r,hr⟩:∃ r,decide (L=K)=r:=⟨_,rfl⟩
 rw [hr]
 have hyes:=fun h:L=K=>(show r=true by rw [← hr];exact decide_eq_true h)
 have hno:=fun h:L≠K=>(show r=false by rw [← hr];exact decide_eq_false h)
 clear hr
 by_cases hnm:n=m
 ·subst hnm
  go_enter Tryz.func80,Tryz.ntmps80
  go_wp2
  go_loopw [7,8,9,17] (fun _ _ _ v17 wr=>∃ k:Nat,k≤n∧v17 = .int .i64 k∧Hid (L.take k=K.take k)∧Ext w wr) (fun _ _ _ v17 _=>n-(intOf v17).toNat)
  case atStart=>exact ⟨0,Nat.zero_le _,rfl,Lib.hid rfl,eX⟩
  case round =>
   obtain ⟨k,hk,rfl,hE,hx⟩:=hrel
   by_cases hlt:k<n
   ·obtain ⟨fx,hxi⟩:∃ fx,L[k]?=some fx:=⟨_,List.getElem?_eq_getElem (by omega)⟩
    obtain ⟨fy,hyi⟩:∃ fy,K[k]?=some fy:=⟨_,List.getElem?_eq_getElem (by omega)⟩
    obtain ⟨b1,o1,g1,k1,rfl,hb1,hc1,hd1,hs1,hk1⟩:=(h1.ext hx).at k hlt _ hxi
    obtain ⟨b2,o2,g2,k2,rfl,hb2,hc2,hd2,hs2,hk2⟩:=(h2.ext hx).at k hlt _ hyi
    have hrd1:=rd2 hb1.lt hc1 hd1
    have hrd2:=rd2 hb2.lt hc2 hd2
    have hk0:(0:Int)≤(k:Int):=by omega
    have hk1':(k:Int)<(n:Int):=by omega
    have hts:fx=fy→L.take (k+1)=K.take (k+1):=fun h=>by
     obtain ⟨q1,e1⟩:=List.getElem?_eq_some_iff.1 hxi
     obtain ⟨q2,e2⟩:=List.getElem?_eq_some_iff.1 hyi
     rw [List.take_succ_eq_append_getElem q1,List.take_succ_eq_append_getElem q2,hE.out,e1,e2,h]
    have hdf:fx≠fy→L≠K:=fun h e=>by subst e;rw [hxi] at hyi;injection hyi with hyi;exact h hyi
    have hs:=fun W H1 H2=>xsame1_any fx fy g1 g2 fx.2.length k1 fy.2.length k2 W H1 H2
    haveI:=hb1
    haveI:=hb2
    clear hxi hyi
    go_wp2_with (first
     | (refine wpList_load_arr (RF2) rfl _ rfl (b1) (o1+k*2) rfl ([.int .i64 fx.1, .slice g1 fx.2.length k1]) (hrd1) (rfl) ?_)
     | (refine wpList_alloc_store (RF2) rfl rfl _ _ rfl rfl rfl rfl (by simp [Act.put]) ([.int .i64 fx.1, .slice g1 fx.2.length k1]) rfl (by simp) (rfl) (oC) ?_;intro x1 hz1 _)
     | fail)
    (with_reducible refine (hs _ (hs1.ext eX) (hs2.ext eX)).mono ?_);rintro e w1 ⟨rfl,hx1⟩
    have hx2:Ext w w1:=Ext.trans eX hx1
    cases hb:decide (fx=fy)
    ·have er:=Lib.hid (hno (hdf (of_decide_eq_false hb)))
     go_wp2
     go_ret
     exact ⟨by rw [er.out];rfl,hx2⟩
    ·have hE2:=Lib.hid (hts (of_decide_eq_true hb))
     go_wp2
     go_roundw
     case rel=>exact ⟨k+1,by omega,by go_num,hE2,hx2⟩
     case measure=>simp [intOf];omega
   ·obtain rfl:k=n:=by omega
    have HE:=Lib.hid (hyes (by
     have:=hE.out
     rwa [List.take_of_length_le (by omega),List.take_of_length_le (by omega)] at this))
    clear hE
    go_wp2
    go_ret
    exact ⟨by rw [HE.out];rfl,hx⟩
 ·have HN:=Lib.hid (hno fun e=>hnm (by rw [← l1,← l2,e]))
  clear l1 l2
  go_enter Tryz.func80,Tryz.ntmps80
  go_wp2
  go_ret
  exact ⟨by rw [HN.out];rfl,Ext.refl _⟩
theorem xsame_any (a b:Option Addr)(n c m d:Nat) (L K:List Fld) (w:World)(h1:Ib w a n L) (h2:Ib w b m K) (hn:n≤1000000) :
  Calls Tryz.prog 36 #[.slice a n c, .slice b m d] w fun e w'=>e = .returned (.bool (decide (L=K)))∧Ext w w':=by
 go_enter Tryz.func36,Tryz.ntmps36
 go_wp2_with fail
 refine (xsame2_any a b n c m d L K _ h1 h2 hn).mono ?_;rintro e w1 ⟨rfl,hx1⟩
 go_wp2
 go_ret
 exact ⟨rfl,hx1⟩
set_option maxHeartbeats 4000000 in
theorem repR_any (w:World) :
  Calls Tryz.prog 34 #[.agg #[.int .i64 0, .int .i64 4, .int .i64 3, .int .i64 0, .int .i64 6, .int .i64 0, .int .u32 0, .int .u32 0, .int .u32 0, .int .u64 0, .int .u64 0, .int .u64 0, .int .u64 3], .int .i64 1, .int .u64 10, .int .u64 20] w fun e w'=>e = .returned (.tuple #[.agg #[.int .i64 0, .int .i64 4, .int .i64 4, .int .i64 1, .int .i64 6, .int .i64 (-20), .int .u32 0, .int .u32 0, .int .u32 0, .int .u64 0, .int .u64 3, .int .u64 10, .int .u64 20], .int .i64 0])∧Ext w w':=by
 have hv:∀ W,Calls Tryz.prog 77 #[.agg #[.int .i64 0, .int .i64 4, .int .i64 3, .int .i64 0, .int .i64 6, .int .i64 0, .int .u32 0, .int .u32 0, .int .u32 0, .int .u64 0, .int .u64 0, .int .u64 0, .int .u64 3]] W fun e w'=>e = .returned (.int .i64 0)∧Ext W w':=fun W=>by
  have:=rhvalid_any (askH 3) W
  rw [show (encH (askH 3)).2=0 by decide] at this
  exact this
 go_enter Tryz.func34,Tryz.ntmps34
 go_wp2_with fail
 refine nameCl ?_
 intro W hW
 have hB0:Blk W w.heap.size 27 [.int .i64 0, .int .i64 4, .int .i64 3, .int .i64 0, .int .i64 6, .int .i64 0, .int .u32 0, .int .u32 0, .int .u32 0, .int .u64 0, .int .u64 0, .int .u64 0, .int .u64 3]:=by rw [hW];exact bK
 have hB:Blk W (w.heap.size+1) 27 [.int .i64 0, .int .i64 0, .int .i64 0, .int .i64 0, .int .i64 0, .int .i64 0, .int .u32 0, .int .u32 0, .int .u32 0, .int .u64 0, .int .u64 0, .int .u64 0, .int .u64 0]:=by rw [hW];exact bK
 have hE:Ext w W:=by rw [hW];exact eX
 clear hW
 (with_reducible refine (hv _).mono ?_);rintro e W2 ⟨rfl,hx⟩
 have hB0:=hB0.extB hx
 have hB:=hB.extB hx
 have hE:=hE.trans hx
 clear hx hv
 haveI:=hB0.blt
 have f1:=hB0.cell? 1 rfl
 have f2:=hB0.cell? 2 rfl
 have f4:=hB0.cell? 4 rfl
 have f12:=hB0.cell? 12 rfl
 go_wp2_with (first
  | (refine wpList_store_arr (RH13) rfl _ _ rfl (w.heap.size+1) (0) rfl ([.int .i64 0, .int .i64 4, .int .i64 4, .int .i64 1, .int .i64 6, .int .i64 (-20), .int .u32 0, .int .u32 0, .int .u32 0, .int .u64 0, .int .u64 3, .int .u64 10, .int .u64 20]) rfl (27) _ (hB) (rfl) (by simp) (oC) ?_;intro V hV hMV)
  | fail)
 refine bodyPost_ret (results_arr_tmp Tryz.results34 (RH13) _ _ (w.heap.size+1) (0) ([.int .i64 0, .int .i64 4, .int .i64 4, .int .i64 1, .int .i64 6, .int .i64 (-20), .int .u32 0, .int .u32 0, .int .u32 0, .int .u64 0, .int .u64 3, .int .u64 10, .int .u64 20]) rfl (hV.rd) (rfl) (.int .i64 0) rfl) rfl ?_
 exact ⟨rfl,Below.trans hE (hMV.below (by omega) hE.size)⟩
end Go.Proofs.YtdmifbfgeeldnaaGreat

/- Layer 22: the sanity check. -/
namespace Go.Proofs.YtdmifbfgeeldnaaGreat
open Go.RowKit Go.Sec Go.Oct Go.Jar Go.Pkt Go.Sha BigFrame
def zJ32:List UInt8:=List.replicate 32 0
def zJ16:List UInt8:=List.replicate 16 0
theorem zJ32_len:zJ32.length=32:=by decide
def JarP (s k:Nat) (p:Par) (w:World):Prop:=Sl w (p 0).1 32 (upW s)∧32≤(p 0).2∧Sl w (p 1).1 32 (dnW s)∧32≤(p 1).2∧Bsc w (p 2).1 k (ckW s k)∧k≤(p 2).2
theorem JarP.ext {s k:Nat} {p:Par} {w w':World} (h:JarP s k p w) (hx:Ext w w'):JarP s k p w':=⟨h.1.ext hx,h.2.1,h.2.2.1.ext hx,h.2.2.2.1,h.2.2.2.2.1.ext hx,h.2.2.2.2.2⟩
def JarV (k:Nat) (p:Par):Value := .agg #[.slice (p 0).1 32 (p 0).2, .slice (p 1).1 32 (p 1).2, .slice (p 2).1 k (p 2).2, .slice none 0 0, .int .i64 1, .int .i64 0]
theorem vag_jar {s k:Nat} {w:World} {f:FuncId} {args:Array Value} (h:Calls Tryz.prog f args w (WJarO s k w)):Calls Tryz.prog f args w fun e w''=>∃ v,e = .returned v∧∃ p:Par,v=JarV k p∧Ext w w''∧JarP s k p w'':=by
 refine h.mono ?_
 rintro e w' ⟨a1,d1,a2,d2,b3,d3,rfl,h1,h2,h3,h4,h5,h6,hx⟩
 refine ⟨_,rfl,fun i=>match i with|0=>(a1,d1)|1=>(a2,d2)|_=>(b3,d3),rfl,hx,h1,h2,h3,h4,h5,h6⟩
def QuesP (r:Jar × List UInt8) (n1 n2 n3 n4 n5:Nat) (p:Par) (w:World):Prop:=Sl w (p 0).1 n1 r.1.up∧n1≤(p 0).2∧Sl w (p 1).1 n2 r.1.dn∧n2≤(p 1).2∧Bsc w (p 2).1 n3 r.1.ck∧n3≤(p 2).2∧Typ3 w (p 2).1∧Sl w (p 3).1 n4 r.1.last∧n4≤(p 3).2∧Sl w (p 4).1 n5 r.2∧n5≤(p 4).2
theorem QuesP.ext {r:Jar × List UInt8} {n1 n2 n3 n4 n5:Nat} {p:Par} {w w':World} (h:QuesP r n1 n2 n3 n4 n5 p w) (hx:Ext w w'):QuesP r n1 n2 n3 n4 n5 p w':=by
 obtain ⟨h1,h2,h3,h4,h5,h6,ht,h7,h8,h9,h10⟩:=h
 exact ⟨h1.ext hx,h2,h3.ext hx,h4,h5.ext hx,h6,ht.ext hx,h7.ext hx,h8,h9.ext hx,h10⟩
def QuesV (net sent:Int) (n1 n2 n3 n4 n5:Nat) (p:Par):Value := .tuple #[.agg #[.slice (p 0).1 n1 (p 0).2, .slice (p 1).1 n2 (p 1).2, .slice (p 2).1 n3 (p 2).2, .slice (p 3).1 n4 (p 3).2, .int .i64 net, .int .i64 sent], .slice (p 4).1 n5 (p 4).2, .int .i64 0]
theorem vag_ques {r:Jar × List UInt8} {w:World} {f:FuncId} {args:Array Value} {net sent:Int} {n1 n2 n3 n4 n5:Nat} (h:Calls Tryz.prog f args w (QuesE (r,0) w)) (e1:r.1.up.length=n1) (e2:r.1.dn.length=n2) (e3:r.1.ck.length=n3) (e4:r.1.last.length=n4) (e5:r.2.length=n5) (en:r.1.net=net) (es:r.1.sent=sent) :
  Calls Tryz.prog f args w fun e w''=>∃ v,e = .returned v∧∃ p:Par,v=QuesV net sent n1 n2 n3 n4 n5 p∧Ext w w''∧QuesP r n1 n2 n3 n4 n5 p w'':=by
 refine h.mono ?_
 rintro e w' ⟨b1,m1,d1,b2,m2,d2,b3,m3,d3,b4,m4,d4,b5,m5,d5,rfl,h1,h2,h3,h4,h5,h6,ht,h7,h8,h9,h10,hx⟩
 have l1:m1=n1:=by rw [← e1];exact h1.len.symm
 have l2:m2=n2:=by rw [← e2];exact h3.len.symm
 have l3:m3=n3:=by rw [← e3];exact h5.len.symm
 have l4:m4=n4:=by rw [← e4];exact h7.len.symm
 have l5:m5=n5:=by rw [← e5];exact h9.len.symm
 subst l1 l2 l3 l4 l5
 refine ⟨_,rfl,fun i=>match i with|0=>(b1,d1)|1=>(b2,d2)|2=>(b3,d3)|3=>(b4,d4)|_=>(b5,d5),?_,hx,h1,h2,h3,h4,h5,h6,ht,h7,h8,h9,h10⟩
 subst en es
 rfl
def MoveP (j:Jar) (n1 n2 n3 n4:Nat) (p:Par) (w:World):Prop:=Sl w (p 0).1 n1 j.up∧n1≤(p 0).2∧Sl w (p 1).1 n2 j.dn∧n2≤(p 1).2∧Bsc w (p 2).1 n3 j.ck∧n3≤(p 2).2∧Typ3 w (p 2).1∧Sl w (p 3).1 n4 j.last∧n4≤(p 3).2
def MoveV (net sent:Int) (n1 n2 n3 n4:Nat) (p:Par):Value := .tuple #[.agg #[.slice (p 0).1 n1 (p 0).2, .slice (p 1).1 n2 (p 1).2, .slice (p 2).1 n3 (p 2).2, .slice (p 3).1 n4 (p 3).2, .int .i64 net, .int .i64 sent], .int .i64 0]
set_option maxHeartbeats 400000 in
theorem known22_any (w:World):Calls Tryz.prog 26 #[] w fun e w'=>e = .returned (.bool true)∧Ext w w':=by
 have hmk:=run_make_by U 32 32 (Nat.le_refl _) (by omega)
 have hmk16:=run_make_by U 16 16 (Nat.le_refl _) (by omega)
 simp only [Int.cast_ofNat_Int] at hmk hmk16
 have hwj:=fun W=>wjar_any 1 1 1 (show (1:Int)=((1:Nat):Int) from rfl) W (by omega) (by decide)
 have hq:=quesJ_W (s:=1) (k:=1) (by omega) (by omega) (by omega) 5 (u:=zJ32) (nn:=zJ16) zJ32_len (by decide)
 have hwv:=jar1_valid (s:=1) (k:=1) (by omega) (by omega) (by omega)
 have hqc:∀ (a1 a2 a3 au an:Option Addr)(d1 d2 d3:Nat) (W:World),JarP 1 1 (fun i=>match i with|0=>(a1,d1)|1=>(a2,d2)|_=>(a3,d3)) W→Sl W au 32 zJ32→Sl W an 16 zJ16→Calls Tryz.prog 27 #[.agg #[.slice a1 32 d1, .slice a2 32 d2, .slice a3 1 d3, .slice none 0 0, .int .i64 1, .int .i64 0], .int .u64 5, .slice au 32 32, .slice an 16 16] W (QuesE ((jar1 1 1,quesX 1 1 5 zJ32 zJ16),0) W):=fun a1 a2 a3 au an d1 d2 d3 W ⟨h1,h2,h3,h4,h5,h6⟩ hu hn=>by
  have:=jques_any a1 a2 a3 none au an 32 d1 32 d2 1 d3 0 0 32 32 16 16 (jarW 1 1) 5 zJ32 zJ16 W h1 (by omega) h3 (by omega) h5 h6 (by omega) (fun y hy=>by have:=ckW_104 hy;omega) (Sl.nil _ _) (by omega) hu (Nat.le_refl _) hn (Nat.le_refl _)
  rw [hq.1] at this
  exact this
 go_enter Tryz.func26,Tryz.ntmps26
 go_wp2_with fail
 refine R2.wp_region_vagueZ 9 [[],[],[],[0,1,2],[0,1,2,3],[0,1,2,3,4],[0,1,2,3,4],[0,1,2,3,4],[],[0,1,2,3,4,5,8],[0,1,2,3,4,5,6,8,9],[0,1,2,3,4,5,6,7,8,9,10]] [6,7] (by intro c a d v w h;cases d <;> exact h) (by kernel_rfl) (by kernel_rfl) (by kernel_rfl) (by kernel_rfl) (by kernel_rfl) ?_;simp only [q8q,q9q,q10q,q11q,q12q,q13q]
 (refine R2.VD_vag (JarV 1) (JarP 1 1) (fun p w w' h hx=>h.ext hx) (fun us w' hx hf=>⟨rfl,?_⟩) ?_;(unfold gives;simp [go_sem,execOp];exact vag_jar (hwj _)))
 (repeat (apply R2.VD_der;(case h=>(intro us w' hx hf;obtain ⟨x,rfl⟩:=hx.out;refine ⟨rfl,?_⟩;simp [go_sem,execOp, *];(try simp (disch:=omega) only [q17q,q18q,q19q]);rfl));(try simp only [Act.put,q0q,q1q,q2q])))
 (refine R2.VD_vag (fun p => .slice (p 0).1 (32) (32)) (fun p w''=>Sl w'' (p 0).1 (32) (zJ32)) (fun p w w' h hx=>h.ext hx) (fun us w' hx hf=>⟨rfl,?_⟩) ?_;(unfold gives;simp [go_sem,execOp,hmk];exact ⟨fun _=>(some ⟨w'.heap.size,0,none⟩,0),rfl,Ext.of_alloc _ _,(blk_zeros8 _ _).sl rfl⟩))
 (refine R2.VD_vag (fun p => .slice (p 0).1 (16) (16)) (fun p w''=>Sl w'' (p 0).1 (16) (zJ16)) (fun p w w' h hx=>h.ext hx) (fun us w' hx hf=>⟨rfl,?_⟩) ?_;(unfold gives;simp [go_sem,execOp,hmk16];exact ⟨fun _=>(some ⟨w'.heap.size,0,none⟩,0),rfl,Ext.of_alloc _ _,(blk_zeros8 _ _).sl rfl⟩))
 (refine R2.VD_vag (QuesV 1 1 32 32 0 104 988) (QuesP (jar1 1 1,quesX 1 1 5 zJ32 zJ16) 32 32 0 104 988) (fun p w w' h hx=>h.ext hx) (fun us w' hx hf=>⟨rfl,?_⟩) ?_;(unfold gives;simp [go_sem,execOp];exact vag_ques (hqc _ _ _ _ _ _ _ _ _ (hf _ (List.mem_append_left _ (List.mem_append_left _ (List.mem_append_right _ (List.mem_singleton_self _)))) rfl) (hf _ (List.mem_append_left _ (List.mem_append_right _ (List.mem_singleton_self _))) rfl) (hf _ (List.mem_append_right _ (List.mem_singleton_self _)) rfl)) (upW_length 1) (dnW_length 1) rfl (ck0_length 1) hq.2.1 rfl rfl))
 (repeat (apply R2.VD_der;(case h=>(intro us w' hx hf;obtain ⟨x,rfl⟩:=hx.out;refine ⟨rfl,?_⟩;simp [go_sem,execOp, *];(try simp (disch:=omega) only [q17q,q18q,q19q]);rfl));(try simp only [Act.put,q0q,q1q,q2q])))
 (refine R2.VD_alloc _ ([.slice none 0 0, .slice none 0 0, .slice none 0 0, .slice none 0 0, .int .i64 0, .int .i64 0]) Tryz.zeroValue54 rfl rfl rfl ?_)
 (refine R2.VD_nil ?_;intro us w' hx hf hd;obtain ⟨x,rfl⟩:=hx.out;(try simp only [Act.put,q0q,q1q,q2q,wpList_none]);(try simp only [q3q,q4q,or_false,forall_eq_or_imp,forall_eq,q5q,q6q,q7q,false_or,true_and,and_true] at hf);(try simp only [Nat.reduceAdd,Nat.zero_add] at hf ⊢))
 obtain ⟨-, -, -,hP,g,eg,hgW,hBg⟩:=hf
 simp only [q14q,q15q,q16q]
 rw [eg]
 clear hd eg hqc hwj hmk hmk16
 generalize us 3=q at *
 have hxx:Ext w (w.ext x):=Ext.of_ext _ _
 generalize w.ext x=W at *
 have hwe:wantJ (jar1 1 1)=(8,0):=by unfold wantJ;rw [if_pos hwv];rfl
 have hwa:∀ W',Sl W' (q 0).1 32 (jar1 1 1).up→Sl W' (q 1).1 32 (jar1 1 1).dn→Bsc W' (q 2).1 0 (jar1 1 1).ck→Sl W' (q 3).1 104 (jar1 1 1).last→Calls Tryz.prog 33 #[.agg #[.slice (q 0).1 32 (q 0).2, .slice (q 1).1 32 (q 1).2, .slice (q 2).1 0 (q 2).2, .slice (q 3).1 104 (q 3).2, .int .i64 1, .int .i64 1]] W' fun e w'=>e = .returned (.tuple #[.int .i64 8, .int .i64 0])∧Ext W' w':=fun W' H1 H2 H3 H4=>by
  have:=jwant_any (q 0).1 (q 1).1 (q 2).1 (q 3).1 32 (q 0).2 32 (q 1).2 0 (q 2).2 104 (q 3).2 (jar1 1 1) W' H1 H2 H3 (by omega) (by omega) H4
  rw [hwe] at this
  exact this
 clear hq hwv hwe
 obtain ⟨p1,p2,p3,p4, -, -, -,p7,p8, -, -⟩:=hP
 have hckn:(jar1 1 1).ck=[]:=rfl
 generalize jar1 1 1=J at *
 generalize quesX 1 1 5 zJ32 zJ16=X at *
 haveI:=hBg.blt
 go_wp2_with (first
  | (refine wpList_store_arr (RJ6) rfl _ _ rfl (g) (0) rfl ([.slice (q 0).1 32 (q 0).2, .slice (q 1).1 32 (q 1).2, .slice (q 2).1 0 (q 2).2, .slice (q 3).1 104 (q 3).2, .int .i64 1, .int .i64 1]) rfl (54) _ (hBg) (rfl) (by simp) (oC) ?_;intro V hV hMV)
  | (refine wpList_load_arr (RJ6) rfl _ rfl (g) (0) rfl ([.slice (q 0).1 32 (q 0).2, .slice (q 1).1 32 (q 1).2, .slice (q 2).1 0 (q 2).2, .slice (q 3).1 104 (q 3).2, .int .i64 1, .int .i64 1]) ((show Blk _ _ _ [.slice (q 0).1 32 (q 0).2, .slice (q 1).1 32 (q 1).2, .slice (q 2).1 0 (q 2).2, .slice (q 3).1 104 (q 3).2, .int .i64 1, .int .i64 1] from hV).rd) (rfl) ?_)
  | fail)
 have hB:Blk V g 54 [.slice (q 0).1 32 (q 0).2, .slice (q 1).1 32 (q 1).2, .slice (q 2).1 0 (q 2).2, .slice (q 3).1 104 (q 3).2, .int .i64 1, .int .i64 1]:=hV
 have hEV:Ext w V:=Below.trans hxx (hMV.below hgW hxx.size)
 have p1:=p1.mut hBg (by simp) hMV
 have p3:=p3.mut hBg (by simp) hMV
 have p7:=p7.mut hBg (by simp) hMV
 clear hBg hMV hV hgW hxx hx
 haveI:=hB.blt
 (with_reducible refine (hwa V p1 p3 (by rw [hckn];exact Bsc.nil _ _) p7).mono ?_)
 rintro e w2 ⟨rfl,hx2⟩
 have hB:=hB.extB hx2
 haveI:=hB.blt
 have f2:=hB.cell? 2 rfl
 have f3:=hB.cell? 3 rfl
 go_wp2_with fail
 go_ret
 exact ⟨rfl,hEV.trans hx2⟩
end Go.Proofs.YtdmifbfgeeldnaaGreat
