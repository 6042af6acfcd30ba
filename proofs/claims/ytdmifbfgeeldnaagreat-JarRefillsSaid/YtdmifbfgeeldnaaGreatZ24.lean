/- Lemmas of this claim, several texts joined. -/
import Derived.Test.YtdmifbfgeeldnaaGreatZ1
import Derived.Test.YtdmifbfgeeldnaaGreatZ4
import Derived.Test.YtdmifbfgeeldnaaGreatZ6
import Derived.Test.YtdmifbfgeeldnaaGreatZ8
import Derived.Test.YtdmifbfgeeldnaaGreatZ9
import Derived.Test.YtdmifbfgeeldnaaGreatZ10
import Derived.Test.YtdmifbfgeeldnaaGreatZ14
import Derived.Test.YtdmifbfgeeldnaaGreatZ16
import Derived.Test.YtdmifbfgeeldnaaGreatZ18
import Derived.Test.YtdmifbfgeeldnaaGreatZ22
import Derived.Test.YtdmifbfgeeldnaaGreatZ23
set_option maxRecDepth 100000
open List renaming setIfInBounds_toArray → q0q, set_cons_succ → q1q, set_cons_zero → q2q, mem_cons → q3q, not_mem_nil → q4q, nil_append → q5q, cons_append → q6q, mem_append → q7q, take_succ_cons → q8q, take_zero → q9q, drop_succ_cons → q10q, drop_zero → q11q, take_nil → q12q, drop_nil → q13q
set_option linter.unusedVariables false
set_option linter.unusedSimpArgs false
/- Layer 4: the stream of the document. -/
namespace Go.Aes
theorem streamK_range (ks ctr l:List UInt8):streamK ks ctr l=(List.range l.length).map (strF ks ctr l):=by
 refine ext_at (by rw [streamK_length];simp) fun i hi=>?_
 have hi':i<l.length:=by simpa using hi
 rw [streamK_at _ _ _ _ hi',at_get _ _ hi]
 simp
theorem strF_at (ks ctr l:List UInt8)(q k:Nat) (hk:k<16):strF ks ctr l (16*q+k)=at' l (16*q+k) ^^^ at' (enc ks (nxtN q ctr)) k:=by
 unfold strF
 rw [show (16*q+k) / 16=q by omega,show (16*q+k) % 16=k by omega]
theorem range_snoc {α:Type} (f:Nat→α) (m:Nat):(List.range m).map f++[f m]=(List.range (m+1)).map f:=by
 rw [List.range_succ,List.map_append];rfl
end Go.Aes
namespace Go.Sec
open Go.RowKit Go.Aes
theorem Sl.atq {w:World} {a:Option Addr} {n:Nat} {l:List UInt8} (h:Sl w a n l) (k:Nat) (hk:k<n) :
  ∃ b off,a=some ⟨b,off,none⟩∧BlkLt b w∧w.cell? ⟨b,off+k,none⟩=some (.int .u8 (n8 (at' l k))):=by
 obtain ⟨b,off,h1,h2,h3⟩:=h.at k hk
 exact ⟨b,off,h1,h2,by rw [at_get l k (by have:=h.len;omega)];exact h3⟩
end Go.Sec
namespace Go.Proofs.YtdmifbfgeeldnaaGreat
open Go.RowKit Go.Sec Go.Oct Go.Aes BigFrame
set_option maxHeartbeats 4000000 in
theorem rstream_any (a b c:Option Addr)(ca cb cc n:Nat) (ky ctr l:List UInt8)(w:World)(hk:Sl w a 16 ky) (hcv:Sl w b 16 ctr) (hcb:16≤cb) (hl:Sl w c n l) (hn:n≤65535) :
  Calls Tryz.prog 85 #[.slice a 16 ca, .slice b 16 cb, .slice c n cc] w (Read2 n (stream ky ctr l) (.int .i64 0) w):=by
 have hks:(expand ky).length=176:=words_length ky 40 hk.len
 have hfin:=Lib.hid (show stream ky ctr l=(List.range n).map (strF (expand ky) ctr l) by unfold stream;rw [streamK_range,hl.len])
 have hes:=Lib.hid (fun q k=>strF_at (expand ky) ctr l q k)
 have hp:=fun w h=>prepare_any a ca ky w h
 have hpl:=pre_length (expand ky) (by omega)
 have hen:=fun a c l w h hc=>renc_any a c (expand ky) l hks w h hc
 generalize pre (expand ky)=pk at *
 generalize expand ky=ks at *
 generalize strF ks ctr l=f at *
 have hnI:¬ (65535:Int)<(n:Int):=by omega
 go_enter Tryz.func85,Tryz.ntmps85
 go_wp2_with (first
  | (go_at_call 119;(with_reducible refine (hp ?_ ?hq29).mono ?_);(case hq29=>exact sS);rintro e w1 ⟨rfl,hxq⟩;obtain ⟨xq,rfl⟩:=hxq.out;clear hxq)
  | ((refine wpList_alloc_store (R84) rfl rfl _ _ rfl rfl rfl rfl (by simp [Act.put]) (pk.map u8v) rfl (by simp) ((by simpa using hpl)) (one_u8 _) ?_;intro x2 hBx _);have hRx:=hBx.rd;clear hBx)
  | fail)
 obtain ⟨gm,hgm⟩:∃ gm,Hid (gm=(w.ext xq).heap.size):=⟨_,Lib.hid rfl⟩
 rw [← hgm.out] at hRx ⊢
 have hxx:Ext w ((w.ext xq).ext x2):=eX
 have hgw:w.heap.size≤gm:=by rw [hgm.out];exact (Ext.of_ext w xq).size
 have hgl:gm+1≤((w.ext xq).ext x2).heap.size:=by
  have:=hRx.lt (by simp;omega)
  omega
 go_loopw [1,9,10] (fun v1 v9 v10 wr=>∃ (q i m:Nat) (a1 a9:Option Addr)(c1 c9:Nat),v10 = .int .i64 i∧Hid (i=16*q)∧v1 = .slice a1 16 c1∧16≤c1∧Sl wr a1 16 (nxtN q ctr)∧v9 = .slice a9 m c9∧m≤n∧m≤i∧(n≤m∨i≤m)∧Sec.Own wr (gm+1) a9 m c9 ((List.range m).map f)∧Off a1 (Value.slice a9 m c9).ownBlock∧Rd wr (some ⟨gm,0,none⟩) (pk.map u8v)∧Ext w wr) (fun _ _ v10 _=>n-(intOf v10).toNat)
 case atStart =>
  refine ⟨0,0,0,_,_,_,_,rfl,Lib.hid rfl,rfl,hcb,(show Sl _ b 16 ctr from (by (repeat' (first|with_reducible assumption|(with_reducible exact zeros16 _)|(with_reducible exact sl_new1 _ _ _)|(with_reducible first|apply Sl.upE|apply Sl.upA|apply Sl.upD))))),rfl,by omega,by omega,by omega,(own_empty _).mono hgl,?_,(by (repeat' (first|with_reducible assumption|(with_reducible first|apply Rd.upE|apply Rd.upA|apply Rd.upD)))),eX⟩
  exact .lt (N:=w.heap.size) (hcv.lt (by omega)) (fun g e=>by have e:((w.ext xq).ext x2).heap.size=g:=Option.some.inj e;omega)
 case round =>
  clear hRx hgl hxx
  obtain ⟨q,i,m,a1,a9,c1,c9,rfl,hiq,rfl,hc1,hC,rfl,hmn,hmi,hor,hO,hof,hR,hx⟩:=hrel
  have hle0:=hO.le
  by_cases hlt:i<n
  ·have hltI:(i:Int)<(n:Int):=by omega
   obtain rfl:i=m:=by omega
   go_wp2_with (first
    | (refine wpList_load_arr (R84) rfl _ rfl (gm) (0) rfl (pk.map u8v) (hR) ((by simpa using hpl)) ?_)
    | fail)
   refine (hen _ _ _ _ hC hc1).mono ?_;rintro e W2 ⟨a2,c2,rfl,hO2,hx2⟩
   have hes1:=Lib.hid (fun k=>hes.out q k)
   have hek:=hO2.sl
   have hof2:Off a2 (Value.slice a9 i c9).ownBlock := .gt (hO2.ge (by omega)) (fun g e=>(own_lt hO.2 g e).2)
   generalize enc ks (nxtN q ctr)=ek at *
   have hekl:=hek.len
   have hxw2:=hx.trans hx2
   have hC2:=hC.ext hx2
   have hR2:=hR.ext hx2
   have hO2':=hO.ext hx2
   clear hO2 hx hx2 hC hR hO
   go_wp2_with fail
   go_loopw [9,12] (fun v9 v12 wr=>∃ (k m:Nat) (a9:Option Addr)(c9:Nat),k≤16∧v12 = .int .i64 k∧m≤n∧Hid (m=i+k)∧v9 = .slice a9 m c9∧Sec.Own wr (gm+1) a9 m c9 ((List.range m).map f)∧Off a1 (Value.slice a9 m c9).ownBlock∧Off a2 (Value.slice a9 m c9).ownBlock∧Sl wr a1 16 (nxtN q ctr)∧Sl wr a2 16 ek∧Rd wr (some ⟨gm,0,none⟩) (pk.map u8v)∧Ext w wr) (fun _ v12 _=>16-(intOf v12).toNat)
   case atStart=>exact ⟨0,i,_,_,by omega,rfl,by omega,Lib.hid rfl,rfl,hO2',hof,hof2,hC2,hek,hR2,hxw2⟩
   case round =>
    clear hO2' hC2 hek hR2 hxw2 hof hof2
    obtain ⟨k,m,a9,c9,hk,rfl,hmn,hm,rfl,hOw,hof1,hof2,hC,hE,hR,hx⟩:=hrel
    have hle:=hOw.le
    by_cases hkn:k<16∧i+k<n
    ·obtain ⟨hk16,hin⟩:=hkn
     have k0:(k:Int)<16:=by omega
     have k1:(i:Int)+(k:Int)<(n:Int):=by omega
     have k2:(0:Int)≤(i:Int)+(k:Int):=by omega
     have k3:(0:Int)≤(k:Int):=by omega
     have k4:((i:Int)+(k:Int)).toNat=i+k:=by omega
     obtain ⟨b1,o1,rfl,hb1,hc1'⟩:=(hl.ext hx).atq (i+k) hin
     obtain ⟨b2,o2,rfl,hb2,hc2'⟩:=hE.atq k hk16
     have hv:=Lib.hid (show f m=at' l (i+k) ^^^ at' ek k by rw [hm.out,hiq.out];exact hes1.out k hk16)
     generalize at' l (i+k)=y1 at *
     generalize at' ek k=y2 at *
     have hxw:=hx
     go_wp2
     refine wp_region_vague 13 [[],[],[],[],[2,3],[1,2,3,4],[1,2,3,4,5],[],[],[7,8],[7,8,9],[1,2,3,4,5,6,7,8,9,10],[1,2,3,4,5,6,7,8,9,10,11],[0,1,2,3,4,5,6,7,8,9,10,11,12],[0,1,2,3,4,5,6,7,8,9,10,11,12,13]] (by kernel_rfl) (by kernel_rfl) (by kernel_rfl) (by kernel_rfl) ?_;simp only [q8q,q9q,q10q,q11q,q12q,q13q]
     (repeat (refine VD_a ?_;(try simp only [Act.put,q0q,q1q,q2q])))
     (refine VD_vag (fun p => .slice (p 0).1 1 1) (fun p w''=>Sl w'' (p 0).1 1 [y1 ^^^ y2]) (fun p w w' h hx=>h.ext hx) (fun us w' hx hf=>⟨rfl,?_⟩) ?_;(unfold gives;simp [go_sem,execOp];exact ⟨fun _=>(some ⟨w'.heap.size,0,none⟩,0),rfl,Ext.of_alloc _ _,sl_new1 _ (y1 ^^^ y2) _⟩))
     (refine VD_z ?_;intro us x hx hf;(try simp only [Act.put,q0q,q1q,q2q,wpList_none]);(try simp only [q3q,q4q,or_false,forall_eq_or_imp,forall_eq,q5q,q6q,q7q,false_or,true_and,and_true] at hf);(try simp only [Nat.reduceAdd,Nat.zero_add] at hf ⊢))
     have hbw:gm+1≤(wr.ext x).heap.size:=by
      have:=(hR.ext hx).lt (by simp;omega)
      omega
     refine wpList_append_byL U rfl _ _ rfl (gm+1) _ _ _ _ rfl _ 1 1 _ rfl (hOw.ext hx) hf (by omega) hbw ?_;intro sa2 sc2 w3 hOa hga hBa hra
     have hOb:Sec.Own w3 (gm+1) sa2 (m+1) sc2 ((List.range (m+1)).map f):=by rw [← range_snoc,hv.out];exact hOa
     have hC3:=(hC.ext hx).grown hga hof1
     have hE3:=(hE.ext hx).grown hga hof2
     have hR3:=(hR.ext hx).grown hga (.lt (N:=gm+1) (fun b o e=>by injection e with e;injection e;omega) (fun g e=>(own_lt hOw.2 g e).1))
     have hof3:=hof1.app ((hC.ext hx).lt (by omega)) hra
     have hof4:=hof2.app ((hE.ext hx).lt (by omega)) hra
     have hx3:Ext w w3:=Below.trans (hxw.trans hx) (hBa.mono (by omega))
     clear hOa hga hf hBa hra
     go_wp2_with fail
     go_roundw
     case rel=>exact ⟨k+1,m+1,_,_,by omega,by go_num,by have:=hm.out;omega,Lib.hid (by have:=hm.out;omega),rfl,hOb,hof3,hof4,hC3,hE3,hR3,hx3⟩
     case measure=>simp [intOf];omega
    ·have e1:m≤i+16:=by have:=hm.out;omega
     have e2:n≤m∨i+16≤m:=by have:=hm.out;omega
     by_cases hk16:k<16
     case' neg=>have k0:¬ (k:Int)<16:=by omega
     case' pos =>
      have k0:(k:Int)<16:=by omega
      have k1:¬ (i:Int)+(k:Int)<(n:Int):=by omega
     all_goals
      go_wp2_with (first|(go_at_call 121;(with_reducible refine (rnext_any ?_ ?_ ?_ ?_ ?hq28).mono ?_);(case hq28=>exact sS);rintro e _ ⟨_,_,rfl,hO,hx⟩;obtain ⟨_,rfl⟩:=hx.out;clear hx;have:=Own.le hO;have:=Own.sl hO)|fail)
      go_roundw
      case rel=>exact ⟨q+1,i+16,m,_,a9,_,c9,by go_num,Lib.hid (by rw [hiq.out];omega),rfl,by omega,(show Sl _ _ 16 (nxt (nxtN q ctr)) from (by (repeat' (first|with_reducible assumption|(with_reducible exact zeros16 _)|(with_reducible exact sl_new1 _ _ _)|(with_reducible first|apply Sl.upE|apply Sl.upA|apply Sl.upD))))),rfl,hmn,e1,e2,(by (repeat' (first|with_reducible assumption|(with_reducible first|apply Own.upE|apply Own.upA|apply Own.upD)))), .gt (hO.ge (by omega)) (fun g e=>(own_lt hOw.2 g e).2),(by (repeat' (first|with_reducible assumption|(with_reducible first|apply Rd.upE|apply Rd.upA|apply Rd.upD)))),eX⟩
      case measure=>simp [intOf];omega
  ·obtain rfl:m=n:=by omega
   go_wp2_with fail
   go_ret2
   exact ⟨_,_,rfl,by rw [hfin.out];exact hO.sl,hle0.1,hx⟩
end Go.Proofs.YtdmifbfgeeldnaaGreat

/- Layer 4: all lengths: Next, Block, Stream, and the round keys. -/
namespace Go.Aes
def nextE (l:List UInt8):List UInt8:=if l.length=16 then nxt l else []
def blockE (ky l:List UInt8):List UInt8 × Int:=if ky.length≠16 then ([],5) else if l.length≠16 then ([],3) else (block ky l,0)
def streamE (ky ctr l:List UInt8):List UInt8 × Int:=if ky.length≠16 then ([],5) else if ctr.length≠16 then ([],3) else if 65535<l.length then ([],2) else (stream ky ctr l,0)
def rkeys (ks:List UInt8):List (List UInt8):=(List.range 11).map fun i=>(ks.drop (16*i)).take 16
def keysE (ky:List UInt8):List (List UInt8) × Int:=if ky.length≠16 then ([],5) else (rkeys (expand ky),0)
theorem stream_length (ky ctr l:List UInt8):(stream ky ctr l).length=l.length:=streamK_length _ _ _
end Go.Aes
namespace Go.Proofs.YtdmifbfgeeldnaaGreat
open Go.RowKit Go.Sec Go.Oct Go.Aes BigFrame
theorem read2_err (v:Value)(w w':World)(hx:Ext w w'):Read2 0 [] v w (.returned (.tuple #[.slice none 0 0,v])) w':=⟨_,_,rfl,Sl.nil _ _,Nat.le_refl _,hx⟩
end Go.Proofs.YtdmifbfgeeldnaaGreat

/- Layer 5 at all lengths of keys and lists. -/
namespace Go.Aes
def doubleE (l:List UInt8):List UInt8:=if l.length=16 then tw l else []
def subkeysE (ky:List UInt8):List UInt8 × List UInt8 × Int:=if ky.length=16 then (sub1 (expand ky),sub2 (expand ky),0) else ([],[],5)
def cmacE (ky l:List UInt8):List UInt8 × Int:=if ky.length=16 then (cmac ky l,0) else ([],5)
def vectorE (ky:List UInt8)(L:List (List UInt8)):List UInt8 × Int:=if ky.length=16 then if 17<L.length then ([],8) else (s2v ky L,0) else ([],5)
end Go.Aes
namespace Go.Proofs.YtdmifbfgeeldnaaGreat
open Go.RowKit Go.Sec Go.Oct Go.Aes BigFrame
def ReadS (n:Nat) (l:List UInt8)(w:World)(e:Ending) (w':World):Prop:=∃ a c,e = .returned (.slice a n c)∧Sl w' a n l∧n≤c∧Ext w w'
def Read3 (n:Nat) (l:List UInt8)(m:Nat) (k:List UInt8)(v:Value)(w:World)(e:Ending) (w':World):Prop :=
 ∃ a c b d,e = .returned (.tuple #[.slice a n c, .slice b m d,v])∧Sl w' a n l∧n≤c∧Sl w' b m k∧m≤d∧Ext w w'
def kz0:List Value := .pointer none :: List.replicate 32 (u8v 0)
def ReadyNo (w:World)(e:Ending) (w':World):Prop:=∃ ks:List Value,e = .returned (.tuple #[.agg ks.toArray, .int .i64 5])∧ks.length=33∧(∀ v∈ks,v.oneCell'=true)∧Ext w w'
end Go.Proofs.YtdmifbfgeeldnaaGreat

/- Layer 6 as plain functions. No program. -/
namespace Go.Aes
def longA (A:List (List UInt8)):Bool:=A.any fun x=>decide (65519<x.length)
def checkA (ky:List UInt8)(A:List (List UInt8)):Int:=if ky.length≠32 then 5 else if 16<A.length then 8 else if longA A then 2 else 0
def tagE (ky:List UInt8)(A:List (List UInt8)) (p:List UInt8):List UInt8 × Int :=
 if checkA ky A≠0 then ([],checkA ky A) else if 65519<p.length then ([],2) else (s2v (ky.take 16) (A++[p]),0)
def ctrOf (t:List UInt8):List UInt8:=(t.set 8 (at' t 8 &&& 127)).set 12 (at' t 12 &&& 127)
def sealE (ky:List UInt8)(A:List (List UInt8)) (p:List UInt8):List UInt8 × Int :=
 if (tagE ky A p).2≠0 then ([],(tagE ky A p).2) else ((tagE ky A p).1++stream (ky.drop 16) (ctrOf (tagE ky A p).1) p,0)
def plainOf (ky s:List UInt8):List UInt8:=stream (ky.drop 16) (ctrOf (s.take 16)) (s.drop 16)
def openE (ky:List UInt8)(A:List (List UInt8)) (s:List UInt8):List UInt8 × Int :=
 if checkA ky A≠0 then ([],checkA ky A) else if 65535<s.length then ([],2) else if s.length<16 then ([],1)
 else if (tagE ky A (plainOf ky s)).1=s.take 16 then (plainOf ky s,0) else ([],6)
theorem longA_no {A:List (List UInt8)} (h:longA A=false):∀ x∈A,x.length≤65519:=fun x hx=>by
 unfold longA at h
 rw [List.any_eq_false] at h
 have:=h x hx
 simp at this
 exact this
theorem checkA_ok {ky:List UInt8} {A:List (List UInt8)} (h:checkA ky A=0):ky.length=32∧A.length≤16∧∀ x∈A,x.length≤65519:=by
 unfold checkA at h
 split at h
 ·cases h
 ·split at h
  ·cases h
  ·split at h
   ·cases h
   ·rename_i h1 h2 h3
    exact ⟨by omega,by omega,longA_no (by simpa using h3)⟩
theorem tagE_ok {ky:List UInt8} {A:List (List UInt8)} {p:List UInt8} (h:checkA ky A=0) (hp:p.length≤65519):tagE ky A p=(s2v (ky.take 16) (A++[p]),0):=by
 unfold tagE
 rw [if_neg (by rw [h];simp),if_neg (by omega)]
theorem tagE_len {ky:List UInt8} {A:List (List UInt8)} {p:List UInt8} (h:(tagE ky A p).2=0):(tagE ky A p).1.length=16∧checkA ky A=0∧p.length≤65519:=by
 unfold tagE at h ⊢
 split at h
 ·rename_i h1;exact absurd h h1
 ·split at h
  ·cases h
  ·rename_i h1 h2
   rw [if_neg h1,if_neg h2]
   exact ⟨s2v_length _ _,by simpa using h1,by omega⟩
theorem plainOf_length {ky s:List UInt8}:(plainOf ky s).length=s.length-16:=by simp [plainOf,stream_length]
end Go.Aes

/- Layers 16 to 18 as plain functions: headers, fields, protected packets. No program. -/
namespace Go.Pkt
open Go.Oct Go.Sec Go.Aes
structure Hdr where
 leap:Int
 ver:Int
 mode:Int
 strat:Int
 poll:Int
 prec:Int
 rd:UInt32
 rp:UInt32
 id:UInt32
 ref:UInt64
 org:UInt64
 rcv:UInt64
 tx:UInt64
deriving DecidableEq
def zeroH:Hdr:=⟨0,0,0,0,0,0,0,0,0,0,0,0,0⟩
def okH (h:Hdr):Prop:=(0≤h.leap∧h.leap≤3)∧(3≤h.ver∧h.ver≤4)∧(0≤h.mode∧h.mode≤7)∧(0≤h.strat∧h.strat≤255)∧(-128≤h.poll∧h.poll≤127)∧(-128≤h.prec∧h.prec≤127)
instance (h:Hdr):Decidable (okH h):=by unfold okH;infer_instance
def headB (h:Hdr):List UInt8:=[b8 (h.leap*64+h.ver*8+h.mode),b8 h.strat,b8 h.poll,b8 h.prec]
def wordsB (h:Hdr):List UInt8:=putL 4 h.rd.toUInt64++(putL 4 h.rp.toUInt64++(putL 4 h.id.toUInt64++(putL 8 h.ref++(putL 8 h.org++(putL 8 h.rcv++putL 8 h.tx)))))
def hdrB (h:Hdr):List UInt8:=headB h++wordsB h
theorem hdrB_length (h:Hdr):(hdrB h).length=48:=by simp [hdrB,headB,wordsB,putL_length]
def encH (h:Hdr):List UInt8 × Int:=if okH h then (hdrB h,0) else ([],4)
def sgn (x:UInt8):Int:=if x.toNat<128 then (x.toNat:Int) else (x.toNat:Int)-256
def getU (b:List UInt8)(o n:Nat):UInt64:=getL ((b.drop o).take n)
def rdH (b:List UInt8):Hdr:=⟨((b.getD 0 0).toNat / 64:Nat),((b.getD 0 0).toNat / 8 % 8:Nat),((b.getD 0 0).toNat % 8:Nat),((b.getD 1 0).toNat:Nat),sgn (b.getD 2 0),sgn (b.getD 3 0),
 (getU b 4 4).toUInt32,(getU b 8 4).toUInt32,(getU b 12 4).toUInt32,getU b 16 8,getU b 24 8,getU b 32 8,getU b 40 8⟩
def decH (b:List UInt8):(Hdr × List UInt8) × Int :=
 if b.length<48 then ((zeroH,[]),1) else if 1280<b.length then ((zeroH,[]),2) else if (rdH b).ver=4∨(rdH b).ver=3 then ((rdH b,b.drop 48),0) else ((zeroH,[]),3)
def askH (t:UInt64):Hdr:=⟨0,4,3,0,6,0,0,0,0,0,0,0,t⟩
theorem askH_ok (t:UInt64):okH (askH t):=by unfold okH askH;simp
def repH (q:Hdr) (s:Int) (r t:UInt64):Hdr × Int :=
 if ¬ okH q then (zeroH,4) else if q.mode≠3 then (zeroH,3) else if s<0∨255<s then (zeroH,4) else (⟨0,q.ver,4,s,q.poll, -20,0,0,0,0,q.tx,r,t⟩,0)
theorem drop_app {α:Type} (l r:List α) (n:Nat) (h:l.length=n):(l++r).drop n=r:=by subst h;simp
theorem take_app {α:Type} (l r:List α) (n:Nat) (h:l.length=n):(l++r).take n=l:=by subst h;simp
theorem drop_more {α:Type} (l r:List α) (n m:Nat) (h:l.length=n):(l++r).drop (n+m)=r.drop m:=by subst h;rw [List.drop_append];simp
theorem get8_put (v:UInt64):getL (putL 8 v)=v:=by
 apply UInt64.toNat_inj.1
 rw [getL_nat _ (by rw [putL_length];omega),getN_put]
 exact Nat.mod_eq_of_lt (by have:=v.toNat_lt;omega)
theorem get4_put (v:UInt32):(getL (putL 4 v.toUInt64)).toUInt32=v:=by
 apply UInt32.toNat_inj.1
 rw [UInt64.toNat_toUInt32,getL_nat _ (by rw [putL_length];omega),getN_put,UInt32.toNat_toUInt64]
 have:=v.toNat_lt
 omega
theorem b8_nat (n:Int):(((b8 n).toNat:Nat):Int)=n % 256:=n8_b8 n
theorem rdH_hdrB (h:Hdr) (hh:okH h) (r:List UInt8):rdH (hdrB h++r)=h:=by
 obtain ⟨h1,h2,h3,h4,h5,h6⟩:=hh
 have g:∀ o n (A B C:List UInt8),A.length=o→B.length=n→getU (A++(B++C)) o n=getL B:=fun o n A B C hA hB=>by
  unfold getU;rw [drop_app _ _ _ hA,take_app _ _ _ hB]
 have e:hdrB h++r=headB h++(putL 4 h.rd.toUInt64++(putL 4 h.rp.toUInt64++(putL 4 h.id.toUInt64++(putL 8 h.ref++(putL 8 h.org++(putL 8 h.rcv++(putL 8 h.tx++r))))))):=by
  simp [hdrB,wordsB,List.append_assoc]
 have l0:(headB h).length=4:=rfl
 have k1:getU (hdrB h++r) 4 4=getL (putL 4 h.rd.toUInt64):=by rw [e];exact g _ _ _ _ _ l0 (putL_length _ _)
 have k2:getU (hdrB h++r) 8 4=getL (putL 4 h.rp.toUInt64):=by rw [e,← List.append_assoc];exact g _ _ _ _ _ (by simp [putL_length,l0]) (putL_length _ _)
 have k3:getU (hdrB h++r) 12 4=getL (putL 4 h.id.toUInt64):=by rw [e,← List.append_assoc,← List.append_assoc];exact g _ _ _ _ _ (by simp [putL_length,l0]) (putL_length _ _)
 have k4:getU (hdrB h++r) 16 8=getL (putL 8 h.ref):=by rw [e,← List.append_assoc,← List.append_assoc,← List.append_assoc];exact g _ _ _ _ _ (by simp [putL_length,l0]) (putL_length _ _)
 have k5:getU (hdrB h++r) 24 8=getL (putL 8 h.org):=by rw [e,← List.append_assoc,← List.append_assoc,← List.append_assoc,← List.append_assoc];exact g _ _ _ _ _ (by simp [putL_length,l0]) (putL_length _ _)
 have k6:getU (hdrB h++r) 32 8=getL (putL 8 h.rcv):=by rw [e,← List.append_assoc,← List.append_assoc,← List.append_assoc,← List.append_assoc,← List.append_assoc];exact g _ _ _ _ _ (by simp [putL_length,l0]) (putL_length _ _)
 have k7:getU (hdrB h++r) 40 8=getL (putL 8 h.tx):=by rw [e,← List.append_assoc,← List.append_assoc,← List.append_assoc,← List.append_assoc,← List.append_assoc,← List.append_assoc];exact g _ _ _ _ _ (by simp [putL_length,l0]) (putL_length _ _)
 unfold rdH
 rw [k1,k2,k3,k4,k5,k6,k7,get4_put,get4_put,get4_put,get8_put,get8_put,get8_put,get8_put,e]
 have a0:=b8_nat (h.leap*64+h.ver*8+h.mode)
 have a1:=b8_nat h.strat
 have a2:=b8_nat h.poll
 have a3:=b8_nat h.prec
 have d:∀ k (t:List UInt8),k<4→(headB h++t).getD k 0=(headB h).getD k 0:=fun k t hk=>by
  rw [List.getD_eq_getElem?_getD,List.getD_eq_getElem?_getD,List.getElem?_append_left (by rw [l0];exact hk)]
 rw [d 0 _ (by omega),d 1 _ (by omega),d 2 _ (by omega),d 3 _ (by omega)]
 show Hdr.mk (((b8 (h.leap*64+h.ver*8+h.mode)).toNat / 64:Nat)) (((b8 (h.leap*64+h.ver*8+h.mode)).toNat / 8 % 8:Nat)) (((b8 (h.leap*64+h.ver*8+h.mode)).toNat % 8:Nat)) ((b8 h.strat).toNat:Nat) (sgn (b8 h.poll)) (sgn (b8 h.prec)) _ _ _ _ _ _ _=_
 have c1:(((b8 (h.leap*64+h.ver*8+h.mode)).toNat / 64:Nat):Int)=h.leap:=by omega
 have c2:(((b8 (h.leap*64+h.ver*8+h.mode)).toNat / 8 % 8:Nat):Int)=h.ver:=by omega
 have c3:(((b8 (h.leap*64+h.ver*8+h.mode)).toNat % 8:Nat):Int)=h.mode:=by omega
 have c4:((b8 h.strat).toNat:Int)=h.strat:=by omega
 have c5:sgn (b8 h.poll)=h.poll:=by unfold sgn;split <;> omega
 have c6:sgn (b8 h.prec)=h.prec:=by unfold sgn;split <;> omega
 rw [c1,c2,c3,c4,c5,c6]
theorem decH_hdrB (h:Hdr) (hh:okH h) (r:List UInt8)(hr:r.length≤1232):decH (hdrB h++r)=((h,r),0):=by
 have l:(hdrB h++r).length=48+r.length:=by rw [List.length_append,hdrB_length]
 unfold decH
 rw [rdH_hdrB h hh r,if_neg (by omega),if_neg (by omega),if_pos (by have:=hh.2.1;omega),drop_app _ _ _ (hdrB_length h)]
/-! ### fields -/
abbrev Fld:=Int × List UInt8
def szN (n:Nat):Nat:=max 16 ((n+7) / 4*4)
theorem szN_mod (n:Nat):szN n % 4=0:=by unfold szN;omega
theorem szN_ge (n:Nat):16≤szN n∧n+4≤szN n:=by unfold szN;omega
def sizE (f:Fld):Int × Int:=if f.1<0∨65535<f.1 then (0,4) else if 1232<szN f.2.length then (0,2) else (szN f.2.length,0)
def fldB (f:Fld):List UInt8:=putL 2 (UInt64.ofNat f.1.toNat)++(putL 2 (UInt64.ofNat (szN f.2.length))++(f.2++List.replicate (szN f.2.length-4-f.2.length) 0))
theorem fldB_length (f:Fld):(fldB f).length=szN f.2.length:=by
 have:=szN_ge f.2.length
 simp only [fldB,List.length_append,putL_length,List.length_replicate];omega
def badE:List Fld→Int
 | []=>0
 | f :: L=>if (sizE f).2≠0 then (sizE f).2 else badE L
def totN (L:List Fld):Nat:=(L.map fun f=>szN f.2.length).sum
theorem totN_snoc (L:List Fld) (f:Fld):totN (L++[f])=totN L+szN f.2.length:=by simp [totN]
theorem totN_cons (L:List Fld) (f:Fld):totN (f :: L)=szN f.2.length+totN L:=by simp [totN]
def bytesF (L:List Fld):List UInt8:=(L.map fldB).flatten
theorem bytesF_snoc (L:List Fld) (f:Fld):bytesF (L++[f])=bytesF L++fldB f:=by simp [bytesF]
theorem bytesF_cons (L:List Fld) (f:Fld):bytesF (f :: L)=fldB f++bytesF L:=by simp [bytesF]
theorem bytesF_length (L:List Fld):(bytesF L).length=totN L:=by
 induction L with
 | nil=>rfl
 | cons f L ih=>rw [bytesF_cons,totN_cons,List.length_append,fldB_length,ih]
def encF (L:List Fld):List UInt8 × Int:=if badE L≠0 then ([],badE L) else if 24<L.length then ([],8) else if 1232<totN L then ([],2) else (bytesF L,0)
theorem encF_ok {L:List Fld} (h:(encF L).2=0):badE L=0∧L.length≤24∧totN L≤1232∧encF L=(bytesF L,0):=by
 unfold encF at h ⊢
 split at h
 ·rename_i h1;exact absurd h h1
 ·rename_i h1
  rw [if_neg h1]
  split at h
  ·cases h
  ·rename_i h2
   rw [if_neg h2]
   split at h
   ·cases h
   ·rename_i h3
    rw [if_neg h3]
    exact ⟨by simpa using h1,by omega,by omega,rfl⟩
theorem badE_ok {L:List Fld} (h:badE L=0):∀ f∈L,(0≤f.1∧f.1≤65535)∧szN f.2.length≤1232:=by
 induction L with
 | nil=>intro f hf;cases hf
 | cons g L ih =>
  rw [badE] at h
  split at h
  ·rename_i h1;exact absurd h h1
  ·rename_i h1
   intro f hf
   rcases List.mem_cons.1 hf with rfl|hf
   ·unfold sizE at h1
    split at h1
    ·exact absurd (show (4:Int)≠0 by decide) h1
    ·split at h1
     ·exact absurd (show (2:Int)≠0 by decide) h1
     ·omega
   ·exact ih h f hf
def sizeAt (l:List UInt8):Nat:=getN ((l.drop 2).take 2)
def stepE (l:List UInt8):Int:=if l.length<4 then 1 else if sizeAt l % 4≠0∨sizeAt l<16 then 3 else if l.length<sizeAt l then 1 else 0
def fldAt (l:List UInt8):Fld:=((getN (l.take 2):Nat),(l.take (sizeAt l)).drop 4)
def consR (f:Fld) (r:List Fld × Int):List Fld × Int:=if r.2=0 then (f :: r.1,0) else ([],r.2)
def preR (A:List Fld) (r:List Fld × Int):List Fld × Int:=if r.2=0 then (A++r.1,0) else ([],r.2)
theorem preR_cons (A:List Fld) (f:Fld) (r:List Fld × Int):preR A (consR f r)=preR (A++[f]) r:=by
 unfold preR consR
 by_cases h:r.2=0 <;> simp [h]
def decR:Nat→List UInt8→List Fld × Int
 | 0,l=>if l=[] then ([],0) else if stepE l≠0 then ([],stepE l) else ([],8)
 | m+1,l=>if l=[] then ([],0) else if stepE l≠0 then ([],stepE l) else consR (fldAt l) (decR m (l.drop (sizeAt l)))
def decF (b:List UInt8):List Fld × Int:=if 1232<b.length then ([],2) else decR 24 b
theorem decR_nil (m:Nat):decR m []=([],0):=by cases m <;> simp [decR]
theorem decR_bad (m:Nat) (l:List UInt8)(h:l≠[]) (hs:stepE l≠0):decR m l=([],stepE l):=by cases m <;> simp [decR,h,hs]
theorem decR_full (l:List UInt8)(h:l≠[]) (hs:stepE l=0):decR 0 l=([],8):=by simp [decR,h,hs]
theorem decR_step (m:Nat) (l:List UInt8)(h:l≠[]) (hs:stepE l=0):decR (m+1) l=consR (fldAt l) (decR m (l.drop (sizeAt l))):=by simp [decR,h,hs]
theorem stepE_ok {l:List UInt8} (h:stepE l=0):4≤l.length∧sizeAt l % 4=0∧16≤sizeAt l∧sizeAt l≤l.length:=by
 unfold stepE at h
 split at h
 ·cases h
 ·split at h
  ·cases h
  ·split at h
   ·cases h
   ·omega
theorem fldAt_len {l:List UInt8} (h:stepE l=0):(fldAt l).2.length+4=sizeAt l∧szN (fldAt l).2.length=sizeAt l:=by
 obtain ⟨h1,h2,h3,h4⟩:=stepE_ok h
 have e:(fldAt l).2.length=sizeAt l-4:=by simp only [fldAt,List.length_drop,List.length_take];omega
 refine ⟨by omega,?_⟩
 unfold szN;omega
theorem decR_ok:∀ (m:Nat) (l:List UInt8),(decR m l).2=0→totN (decR m l).1=l.length∧(decR m l).1.length≤m∧∀ f∈(decR m l).1,f.2.length % 4=0∧12≤f.2.length∧0≤f.1∧f.1≤65535:=by
 have hty:∀ l:List UInt8,0≤(fldAt l).1∧(fldAt l).1≤65535:=fun l=>by
  have h1:=getN_lt (l.take 2)
  have h2:(256:Nat) ^ (l.take 2).length≤256 ^ 2:=Nat.pow_le_pow_right (by omega) (by simp;omega)
  simp only [fldAt];omega
 intro m
 induction m with
 | zero =>
  intro l h
  by_cases h0:l=[]
  ·subst h0;simp [decR,totN]
  ·by_cases hs:stepE l=0
   ·rw [decR_full l h0 hs] at h;cases h
   ·rw [decR_bad 0 l h0 hs] at h;exact absurd h hs
 | succ m ih =>
  intro l h
  by_cases h0:l=[]
  ·subst h0;simp [decR,totN]
  ·by_cases hs:stepE l=0
   ·rw [decR_step m l h0 hs] at h ⊢
    unfold consR at h ⊢
    split at h
    ·rename_i h1
     rw [if_pos h1]
     obtain ⟨i1,i2,i3⟩:=ih _ h1
     obtain ⟨s1,s2,s3,s4⟩:=stepE_ok hs
     obtain ⟨f1,f2⟩:=fldAt_len hs
     refine ⟨?_,by simp;omega,fun f hf=>?_⟩
     ·rw [totN_cons,i1,f2,List.length_drop];omega
     ·rcases List.mem_cons.1 hf with rfl|hf
      ·have:=hty l
       exact ⟨by omega,by omega,this.1,this.2⟩
      ·exact i3 f hf
    ·rename_i h1;exact absurd h h1
   ·rw [decR_bad _ l h0 hs] at h;exact absurd h hs
def padF (f:Fld):Fld:=(f.1,f.2++List.replicate (szN f.2.length-4-f.2.length) 0)
theorem getN_put2 (k:Nat) (h:k<65536):getN (putL 2 (UInt64.ofNat k))=k:=by
 rw [getN_put,UInt64.toNat_ofNat'];omega
theorem fldB_at (f:Fld) (r:List UInt8)(h0:0≤f.1) (h1:f.1≤65535) (h2:szN f.2.length≤1232) :
  sizeAt (fldB f++r)=szN f.2.length∧fldAt (fldB f++r)=padF f∧stepE (fldB f++r)=0∧(fldB f++r).drop (sizeAt (fldB f++r))=r:=by
 have hz:=szN_ge f.2.length
 have hm:=szN_mod f.2.length
 have e:fldB f++r=putL 2 (UInt64.ofNat f.1.toNat)++(putL 2 (UInt64.ofNat (szN f.2.length))++((f.2++List.replicate (szN f.2.length-4-f.2.length) 0)++r)):=by simp [fldB,List.append_assoc]
 have es:sizeAt (fldB f++r)=szN f.2.length:=by
  unfold sizeAt
  rw [e,drop_app _ _ _ (putL_length _ _),take_app _ _ _ (putL_length _ _),getN_put2 _ (by omega)]
 have et:getN ((fldB f++r).take 2)=f.1.toNat:=by rw [e,take_app _ _ _ (putL_length _ _),getN_put2 _ (by omega)]
 have el:(fldB f++r).length=szN f.2.length+r.length:=by rw [List.length_append,fldB_length]
 refine ⟨es,?_,?_,?_⟩
 ·unfold fldAt
  rw [et,es,take_app _ _ _ (fldB_length f)]
  unfold fldB padF
  rw [show (4:Nat)=2+2 from rfl,drop_more _ _ 2 2 (putL_length _ _),drop_app _ _ _ (putL_length _ _)]
  congr 1
  omega
 ·unfold stepE
  rw [if_neg (by omega),es,if_neg (by omega),if_neg (by omega)]
 ·rw [es,drop_app _ _ _ (fldB_length f)]
theorem decR_bytesF:∀ (L:List Fld) (m:Nat),L.length≤m→(∀ f∈L,(0≤f.1∧f.1≤65535)∧szN f.2.length≤1232)→decR m (bytesF L)=(L.map padF,0):=by
 intro L
 induction L with
 | nil=>intro m _ _;exact decR_nil m
 | cons f L ih =>
  intro m hm hf
  obtain ⟨k,rfl⟩:∃ k,m=k+1:=⟨m-1,by simp at hm;omega⟩
  obtain ⟨⟨a1,a2⟩,a3⟩:=hf f (List.mem_cons_self ..)
  obtain ⟨b1,b2,b3,b4⟩:=fldB_at f (bytesF L) a1 a2 a3
  have hz:=szN_ge f.2.length
  have hne:fldB f++bytesF L≠[]:=fun h=>by
   have:=congrArg List.length h
   rw [List.length_append,fldB_length,List.length_nil] at this
   omega
  rw [bytesF_cons,decR_step k _ hne b3,b2,b4,ih k (by simp at hm;omega) (fun g hg=>hf g (List.mem_cons_of_mem _ hg))]
  rfl
def ixs (k:Int) (L:List Fld) (j:Nat):List Nat:=(List.range j).filter fun i=>decide ((L.getD i (0,[])).1=k)
theorem ixs_zero (k:Int) (L:List Fld):ixs k L 0=[]:=rfl
theorem ixs_yes {k:Int} {L:List Fld} {j:Nat} (h:(L.getD j (0,[])).1=k):ixs k L (j+1)=ixs k L j++[j]:=by
 unfold ixs;rw [List.range_succ,List.filter_append];simp only [List.filter_cons,List.filter_nil,h,decide_true,if_true]
theorem ixs_no {k:Int} {L:List Fld} {j:Nat} (h:(L.getD j (0,[])).1≠k):ixs k L (j+1)=ixs k L j:=by
 unfold ixs;rw [List.range_succ,List.filter_append];simp only [List.filter_cons,List.filter_nil,h,decide_false,Bool.false_eq_true,if_false,List.append_nil]
theorem ixs_mem {k:Int} {L:List Fld} {j i:Nat}:i∈ixs k L j ↔ i<j∧(L.getD i (0,[])).1=k:=by
 unfold ixs;simp
theorem ixs_lt {k:Int} {L:List Fld} {j i:Nat} (h:i∈ixs k L j):i<j:=(ixs_mem.1 h).1
theorem ixs_length (k:Int) (L:List Fld) (j:Nat):(ixs k L j).length≤j:=by
 unfold ixs
 have:=List.length_filter_le (fun i=>decide ((L.getD i (0,[])).1=k)) (List.range j)
 simpa using this
def firstI (k:Int) (L:List Fld):Option Nat:=(ixs k L L.length).head?
theorem ixs_add (k:Int) (L:List Fld) (j d:Nat):∃ r,ixs k L (j+d)=ixs k L j++r:=by
 induction d with
 | zero=>exact ⟨[],by simp⟩
 | succ d ih =>
  obtain ⟨r,hr⟩:=ih
  by_cases h:(L.getD (j+d) (0,[])).1=k
  ·exact ⟨r++[j+d],by rw [← Nat.add_assoc,ixs_yes h,hr,List.append_assoc]⟩
  ·exact ⟨r,by rw [← Nat.add_assoc,ixs_no h,hr]⟩
theorem firstI_some {k:Int} {L:List Fld} {j:Nat} (hj:j<L.length) (h0:ixs k L j=[]) (h:(L.getD j (0,[])).1=k):firstI k L=some j:=by
 obtain ⟨r,hr⟩:=ixs_add k L (j+1) (L.length-(j+1))
 rw [show j+1+(L.length-(j+1))=L.length by omega,ixs_yes h,h0] at hr
 unfold firstI;rw [hr];rfl
theorem firstI_none {k:Int} {L:List Fld} (h0:ixs k L L.length=[]):firstI k L=none:=by unfold firstI;rw [h0];rfl
/-! ### protected packets -/
structure Pkt where
 h:Hdr
 plain:List Fld
 secret:List Fld
 guarded:Bool
deriving DecidableEq
def zeroP:Pkt:=⟨zeroH,[],[],false⟩
def openB (h:Hdr) (L:List Fld):List UInt8 × Int:=if (encH h).2≠0 then ([],(encH h).2) else if (encF L).2≠0 then ([],(encF L).2) else ((encH h).1++(encF L).1,0)
def bareE (p:Pkt):List UInt8 × Int:=if (openB p.h p.plain).2≠0 then ([],(openB p.h p.plain).2) else if p.secret≠[]∨p.guarded=true then ([],3) else openB p.h p.plain
def guardB (n s:List UInt8):List UInt8:=putL 2 (UInt64.ofNat n.length)++(putL 2 (UInt64.ofNat s.length)++(padL n 4++padL s 4))
def protE (ky:List UInt8)(p:Pkt) (nonce:List UInt8):List UInt8 × Int :=
 if ky.length≠32 then ([],5) else if nonce.length<16∨32<nonce.length then ([],4)
 else if (openB p.h p.plain).2≠0 then ([],(openB p.h p.plain).2) else if (encF p.secret).2≠0 then ([],(encF p.secret).2)
 else if ixs 1028 p.plain p.plain.length≠[] then ([],3) else if 24≤p.plain.length then ([],8)
 else if (encF [(1028,guardB nonce (sealE ky [(openB p.h p.plain).1,nonce] (encF p.secret).1).1)]).2≠0∨1280<(openB p.h p.plain).1.length+(encF [(1028,guardB nonce (sealE ky [(openB p.h p.plain).1,nonce] (encF p.secret).1).1)]).1.length then ([],2)
 else ((openB p.h p.plain).1++(encF [(1028,guardB nonce (sealE ky [(openB p.h p.plain).1,nonce] (encF p.secret).1).1)]).1,0)
def readE (b:List UInt8):Pkt × Int:=if (decH b).2≠0 then (zeroP,(decH b).2) else if (decF (decH b).1.2).2≠0 then (zeroP,(decF (decH b).1.2).2) else (⟨(decH b).1.1,(decF (decH b).1.2).1,[],false⟩,0)
def pad4 (n:Nat):Nat:=(n+3) / 4*4
def partsE (d:List UInt8):Option (List UInt8 × List UInt8) :=
 let n:=getN (d.take 2)
 let m:=getN ((d.drop 2).take 2)
 let nonce:=(d.drop 4).take n
 let s:=(d.drop (4+pad4 n)).take m
 if 4≤d.length∧(16≤n∧n≤32)∧d.length=4+pad4 n+pad4 m∧guardB nonce s=d then some (nonce,s) else none
def openP (ky b:List UInt8):Pkt × Int :=
 if ky.length≠32 then (zeroP,5) else if (readE b).2≠0 then (zeroP,(readE b).2) else
 match firstI 1028 (readE b).1.plain with
 | none=>(zeroP,10)
 | some i=>if i+1≠(readE b).1.plain.length then (zeroP,3) else
  match partsE ((readE b).1.plain.getD i (0,[])).2 with
  | none=>(zeroP,3)
  | some (nonce,s) =>
   if (openE ky [b.take (b.length-((readE b).1.plain.getD i (0,[])).2.length-4),nonce] s).2≠0 then (zeroP,6)
   else if (decF (openE ky [b.take (b.length-((readE b).1.plain.getD i (0,[])).2.length-4),nonce] s).1).2≠0 then (zeroP,(decF (openE ky [b.take (b.length-((readE b).1.plain.getD i (0,[])).2.length-4),nonce] s).1).2)
   else (⟨(readE b).1.h,(readE b).1.plain.take i,(decF (openE ky [b.take (b.length-((readE b).1.plain.getD i (0,[])).2.length-4),nonce] s).1).1,true⟩,0)
end Go.Pkt

/- The walks of layer 16: Valid, Encode, Ask. -/
namespace Go.Pkt
def inR (x lo hi:Int):Bool:=decide (lo≤x∧x≤hi)
theorem inR_yes {x lo hi:Int} (h:lo≤x∧x≤hi):inR x lo hi=true:=decide_eq_true h
theorem inR_no {x lo hi:Int} (h:¬ (lo≤x∧x≤hi)):inR x lo hi=false:=decide_eq_false h
end Go.Pkt
namespace Go.Proofs.YtdmifbfgeeldnaaGreat
open Go.RowKit Go.Sec Go.Oct Go.Pkt BigFrame
theorem RH13:RowT Tryz.prog 27 13:=⟨⟨_,Tryz.underlying27,rfl⟩,by kernel_rfl,⟨_,Tryz.zeroValue27,by kernel_rfl⟩⟩
theorem pv1_any (x lo hi:Int) (w:World) :
  Calls Tryz.prog 144 #[.int .i64 x, .int .i64 lo, .int .i64 hi] w fun e w'=>e = .returned (.bool (inR x lo hi))∧Ext w w':=by
 by_cases h1:lo≤x
 ·by_cases h2:x≤hi
  ·have e:=Lib.hid (inR_yes ⟨h1,h2⟩)
   go_enter Tryz.func144,Tryz.ntmps144
   go_wp2
   go_ret
   exact ⟨by rw [e.out];rfl,eX⟩
  ·have e:=Lib.hid (inR_no (fun h=>h2 h.2:¬ (lo≤x∧x≤hi)))
   go_enter Tryz.func144,Tryz.ntmps144
   go_wp2
   go_ret
   exact ⟨by rw [e.out];rfl,eX⟩
 ·have e:=Lib.hid (inR_no (fun h=>h1 h.1:¬ (lo≤x∧x≤hi)))
  go_enter Tryz.func144,Tryz.ntmps144
  go_wp2
  go_ret
  exact ⟨by rw [e.out];rfl,eX⟩
set_option maxHeartbeats 4000000 in
theorem pvalid_any (h:Hdr) (w:World) :
  Calls Tryz.prog 127 #[.agg #[.int .i64 h.leap, .int .i64 h.ver, .int .i64 h.mode, .int .i64 h.strat, .int .i64 h.poll, .int .i64 h.prec, .int .u32 (n32 h.rd), .int .u32 (n32 h.rp), .int .u32 (n32 h.id), .int .u64 (n64 h.ref), .int .u64 (n64 h.org), .int .u64 (n64 h.rcv), .int .u64 (n64 h.tx)]] w fun e w'=>e = .returned (.int .i64 (encH h).2)∧Ext w w':=by
 obtain ⟨r,hr⟩:∃ r,(encH h).2=r:=⟨_,rfl⟩
 rw [hr]
 have hok:okH h→r=0:=fun k=>by rw [← hr];unfold encH;rw [if_pos k]
 have hno:¬ okH h→r=4:=fun k=>by rw [← hr];unfold encH;rw [if_neg k]
 clear hr
 by_cases c1:0≤h.leap∧h.leap≤3
 ·have i1:=inR_yes c1
  by_cases c2:3≤h.ver∧h.ver≤4
  ·have i2:=inR_yes c2
   by_cases c3:0≤h.mode∧h.mode≤7
   ·have i3:=inR_yes c3
    by_cases c4:0≤h.strat∧h.strat≤255
    ·have i4:=inR_yes c4
     by_cases c5 : -128≤h.poll∧h.poll≤127
     ·have i5:=inR_yes c5
      by_cases c6 : -128≤h.prec∧h.prec≤127
      ·have i6:=inR_yes c6
       have e:=Lib.hid (hok ⟨c1,c2,c3,c4,c5,c6⟩)
       clear c1 c2 c3 c4 c5 c6 hok hno
       go_enter Tryz.func127,Tryz.ntmps127
       go_wp2_with (first
        | (go_at_call 144;refine (pv1_any _ _ _ _).mono ?_;rintro e w1 ⟨rfl,hxq⟩;obtain ⟨xq,rfl⟩:=hxq.out;clear hxq)
        | fail)
       go_ret
       exact ⟨by rw [e.out];rfl,eX⟩
      ·have i6:=inR_no c6
       have e:=Lib.hid (hno fun k=>c6 k.2.2.2.2.2)
       clear c1 c2 c3 c4 c5 c6 hok hno
       go_enter Tryz.func127,Tryz.ntmps127
       go_wp2_with (first
        | (go_at_call 144;refine (pv1_any _ _ _ _).mono ?_;rintro e w1 ⟨rfl,hxq⟩;obtain ⟨xq,rfl⟩:=hxq.out;clear hxq)
        | fail)
       go_ret
       exact ⟨by rw [e.out];rfl,eX⟩
     ·have i5:=inR_no c5
      have e:=Lib.hid (hno fun k=>c5 k.2.2.2.2.1)
      clear c1 c2 c3 c4 c5 hok hno
      go_enter Tryz.func127,Tryz.ntmps127
      go_wp2_with (first
       | (go_at_call 144;refine (pv1_any _ _ _ _).mono ?_;rintro e w1 ⟨rfl,hxq⟩;obtain ⟨xq,rfl⟩:=hxq.out;clear hxq)
       | fail)
      go_ret
      exact ⟨by rw [e.out];rfl,eX⟩
    ·have i4:=inR_no c4
     have e:=Lib.hid (hno fun k=>c4 k.2.2.2.1)
     clear c1 c2 c3 c4 hok hno
     go_enter Tryz.func127,Tryz.ntmps127
     go_wp2_with (first
      | (go_at_call 144;refine (pv1_any _ _ _ _).mono ?_;rintro e w1 ⟨rfl,hxq⟩;obtain ⟨xq,rfl⟩:=hxq.out;clear hxq)
      | fail)
     go_ret
     exact ⟨by rw [e.out];rfl,eX⟩
   ·have i3:=inR_no c3
    have e:=Lib.hid (hno fun k=>c3 k.2.2.1)
    clear c1 c2 c3 hok hno
    go_enter Tryz.func127,Tryz.ntmps127
    go_wp2_with (first
     | (go_at_call 144;refine (pv1_any _ _ _ _).mono ?_;rintro e w1 ⟨rfl,hxq⟩;obtain ⟨xq,rfl⟩:=hxq.out;clear hxq)
     | fail)
    go_ret
    exact ⟨by rw [e.out];rfl,eX⟩
  ·have i2:=inR_no c2
   have e:=Lib.hid (hno fun k=>c2 k.2.1)
   clear c1 c2 hok hno
   go_enter Tryz.func127,Tryz.ntmps127
   go_wp2_with (first
    | (go_at_call 144;refine (pv1_any _ _ _ _).mono ?_;rintro e w1 ⟨rfl,hxq⟩;obtain ⟨xq,rfl⟩:=hxq.out;clear hxq)
    | fail)
   go_ret
   exact ⟨by rw [e.out];rfl,eX⟩
 ·have i1:=inR_no c1
  have e:=Lib.hid (hno fun k=>c1 k.1)
  clear c1 hok hno
  go_enter Tryz.func127,Tryz.ntmps127
  go_wp2_with (first
   | (go_at_call 144;refine (pv1_any _ _ _ _).mono ?_;rintro e w1 ⟨rfl,hxq⟩;obtain ⟨xq,rfl⟩:=hxq.out;clear hxq)
   | fail)
  go_ret
  exact ⟨by rw [e.out];rfl,eX⟩
end Go.Proofs.YtdmifbfgeeldnaaGreat

/- Layer 4: the round keys, both ways. -/
namespace Go.Aes
end Go.Aes
namespace Go.Proofs.YtdmifbfgeeldnaaGreat
open Go.RowKit Go.Sec Go.Oct Go.Aes BigFrame
theorem info22:(Tryz.prog.info? 33).map (fun i=>(i.zero,i.size,i.bytes))=some (some (.slice none 0 0),1,24):=by kernel_rfl
theorem V8:S8 Tryz.prog:=⟨Tryz.underlying52,info_parts info22⟩
def ReadB (n:Nat) (L:List (List UInt8)) (v:Value)(w:World)(e:Ending) (w':World):Prop :=
 ∃ a c,e = .returned (.tuple #[.slice a n c,v])∧Bsc w' a n L∧n≤c∧Ext w w'
end Go.Proofs.YtdmifbfgeeldnaaGreat

/- Open undoes Seal: plain functions. No program. -/
namespace Go.Aes
theorem sealE_ok {ky:List UInt8} {A:List (List UInt8)} {p:List UInt8} (h:checkA ky A=0) (hp:p.length≤65519) :
  sealE ky A p=(s2v (ky.take 16) (A++[p])++stream (ky.drop 16) (ctrOf (s2v (ky.take 16) (A++[p]))) p,0):=by
 unfold sealE
 rw [tagE_ok h hp,if_neg (by simp)]
theorem openE_seal {ky:List UInt8} {A:List (List UInt8)} {p:List UInt8} (h:checkA ky A=0) (hp:p.length≤65519):openE ky A (sealE ky A p).1=(p,0):=by
 rw [sealE_ok h hp]
 have ht:=s2v_length (ky.take 16) (A++[p])
 generalize hT:s2v (ky.take 16) (A++[p])=t at *
 have h1:(t++stream (ky.drop 16) (ctrOf t) p).take 16=t:=by rw [List.take_append_of_le_length (by omega),List.take_of_length_le (by omega)]
 have h2:(t++stream (ky.drop 16) (ctrOf t) p).drop 16=stream (ky.drop 16) (ctrOf t) p:=by rw [List.drop_append_of_le_length (by omega),List.drop_of_length_le (by omega),q5q]
 have h3:plainOf ky (t++stream (ky.drop 16) (ctrOf t) p)=p:=by
  unfold plainOf
  rw [h1,h2]
  exact streamK_undo _ _ _
 have hsl:=stream_length (ky.drop 16) (ctrOf t) p
 unfold openE
 rw [if_neg (by rw [h];simp),if_neg (by simp [ht,hsl];omega),if_neg (by simp [ht]),h3,tagE_ok h hp,h1,hT,if_pos rfl]
end Go.Aes
