/- Lemmas of this claim, several texts joined. -/
import Derived.Test.YtmdahnkcnagkjaaGreatZ1
import Derived.Test.YtmdahnkcnagkjaaGreatZ4
import Derived.Test.YtmdahnkcnagkjaaGreatZ6
import Derived.Test.YtmdahnkcnagkjaaGreatZ8
import Derived.Test.YtmdahnkcnagkjaaGreatZ9
import Derived.Test.YtmdahnkcnagkjaaGreatZ10
import Derived.Test.YtmdahnkcnagkjaaGreatZ14
import Derived.Test.YtmdahnkcnagkjaaGreatZ16
import Derived.Test.YtmdahnkcnagkjaaGreatZ18
import Derived.Test.YtmdahnkcnagkjaaGreatZ22
import Derived.Test.YtmdahnkcnagkjaaGreatZ23
set_option maxRecDepth 100000
open List renaming setIfInBounds_toArray → q0q, set_cons_succ → q1q, set_cons_zero → q2q, mem_cons → q3q, not_mem_nil → q4q, nil_append → q5q, cons_append → q6q, mem_append → q7q, take_succ_cons → q8q, take_zero → q9q, drop_succ_cons → q10q, drop_zero → q11q, take_nil → q12q, drop_nil → q13q
set_option maxHeartbeats 8000000
set_option linter.unusedVariables false
set_option linter.unusedSimpArgs false
/- Layer 4: the stream of the document. -/
namespace Go.Aes
theorem oT (ks ctr l:List UInt8):gV ks ctr l=(List.range l.length).map (oZ ks ctr l):=by
 refine yt (by rw [dS];simp) fun i hi=>?_
 have hi':i<l.length:=by simpa using hi
 rw [km _ _ _ _ hi',bt _ _ hi]
 simp
theorem zY (ks ctr l:List UInt8)(q k:Nat) (hk:k<16):oZ ks ctr l (16*q+k)=at' l (16*q+k) ^^^ at' (enc ks (rv q ctr)) k:=by
 unfold oZ
 rw [show (16*q+k) / 16=q by omega,show (16*q+k) % 16=k by omega]
theorem tf {α:Type} (f:Nat→α) (m:Nat):(List.range m).map f++[f m]=(List.range (m+1)).map f:=by
 rw [aa1,aaO];rfl
end Go.Aes
namespace Go.Sec
open Go.RowKit Go.Aes
theorem Sl.atq {w:World} {a:Option Addr} {n:Nat} {l:List UInt8} (h:Sl w a n l) (k:Nat) (hk:k<n) :
  ∃ b off,a=some ⟨b,off,none⟩∧BlkLt b w∧w.cell? ⟨b,off+k,none⟩=some (.int .u8 (n8 (at' l k))):=by
 obtain ⟨b,off,h1,h2,h3⟩:=h.at k hk
 exact ⟨b,off,h1,h2,by rw [bt l k (by have:=h.len;omega)];exact h3⟩
end Go.Sec
namespace Go.Proofs.YtmdahnkcnagkjaaGreat
open Go.RowKit Go.Sec Go.Oct Go.Aes BigFrame
theorem mB (a b c:Option Addr)(ca cb cc n:Nat) (ky ctr l:List UInt8)(w:World)(hk:Sl w a 16 ky) (hcv:Sl w b 16 ctr) (hcb:16≤cb) (hl:Sl w c n l) (hn:n≤65535) :
  Calls Tryz.prog 106 #[.slice a 16 ca, .slice b 16 cb, .slice c n cc] w (bQ n (stream ky ctr l) (.int .i64 0) w):=by
 have hks:(expand ky).length=176:=cX ky 40 hk.len
 have hfin:=Lib.hid (show stream ky ctr l=(List.range n).map (oZ (expand ky) ctr l) by unfold stream;rw [oT,hl.len])
 have hes:=Lib.hid (fun q k=>zY (expand ky) ctr l q k)
 have hp:=fun w h=>mg a ca ky w h
 have hpl:=eE (expand ky) (by omega)
 have hen:=fun a c l w h hc=>rH a c (expand ky) l hks w h hc
 generalize pre (expand ky)=pk at *
 generalize expand ky=ks at *
 generalize oZ ks ctr l=f at *
 have hnI:¬ (65535:Int)<(n:Int):=by omega
 go_enter Tryz.func106,Tryz.ntmps106
 go_wp2_with (first
  | (go_at_call 138;(with_reducible refine (hp ?_ ?hq2).mono ?_);(case hq2=>exact sS);rintro e w1 ⟨rfl,hxq⟩;obtain ⟨xq,rfl⟩:=hxq.out;clear hxq)
  | ((refine ai (R84) rfl rfl _ _ rfl rfl rfl rfl (by simp [Act.put]) (pk.map u8v) rfl (by simp) ((by simpa using hpl)) (aK _) ?_;intro x2 hBx _);have hRx:=hBx.rd;clear hBx)
  | fail)
 obtain ⟨gm,hgm⟩:∃ gm,Hid (gm=(w.ext xq).heap.size):=⟨_,Lib.hid rfl⟩
 rw [← hgm.out] at hRx ⊢
 have hxx:Ext w ((w.ext xq).ext x2):=eX
 have hgw:w.heap.size≤gm:=by rw [hgm.out];exact (Ext.of_ext w xq).size
 have hgl:gm+1≤((w.ext xq).ext x2).heap.size:=by
  have:=hRx.lt (by simp;omega)
  omega
 go_loopw [1,9,10] (fun v1 v9 v10 wr=>∃ (q i m:Nat) (a1 a9:Option Addr)(c1 c9:Nat),v10 = .int .i64 i∧Hid (i=16*q)∧v1 = .slice a1 16 c1∧16≤c1∧Sl wr a1 16 (rv q ctr)∧v9 = .slice a9 m c9∧m≤n∧m≤i∧(n≤m∨i≤m)∧Sec.Own wr (gm+1) a9 m c9 ((List.range m).map f)∧Off a1 (Value.slice a9 m c9).ownBlock∧Rd wr (some ⟨gm,0,none⟩) (pk.map u8v)∧Ext w wr) (fun _ _ v10 _=>n-(intOf v10).toNat)
 case atStart =>
  refine ⟨0,0,0,_,_,_,_,rfl,Lib.hid rfl,rfl,hcb,(show Sl _ b 16 ctr from (by (repeat' (first|with_reducible assumption|(with_reducible exact dB _)|(with_reducible exact bF _ _ _)|(with_reducible first|apply Sl.upE|apply Sl.upA|apply Sl.upD))))),rfl,by omega,by omega,by omega,(fm _).mono hgl,?_,(by (repeat' (first|with_reducible assumption|(with_reducible first|apply Rd.upE|apply Rd.upA|apply Rd.upD)))),eX⟩
  exact .lt (N:=w.heap.size) (hcv.lt (by omega)) (fun g e=>by have e:((w.ext xq).ext x2).heap.size=g:=Option.some.inj e;omega)
 case round =>
  clear hRx hgl hxx
  obtain ⟨q,i,m,a1,a9,c1,c9,rfl,hiq,rfl,hc1,hC,rfl,hmn,hmi,hor,hO,hof,hR,hx⟩:=hrel
  have hle0:=hO.le
  by_cases hlt:i<n
  ·have hltI:(i:Int)<(n:Int):=by omega
   obtain rfl:i=m:=by omega
   go_wp2_with (first
    | (refine af (R84) rfl _ rfl (gm) (0) rfl (pk.map u8v) (hR) ((by simpa using hpl)) ?_)
    | fail)
   refine (hen _ _ _ _ hC hc1).mono ?_;rintro e W2 ⟨a2,c2,rfl,hO2,hx2⟩
   have hes1:=Lib.hid (fun k=>hes.out q k)
   have hek:=hO2.sl
   have hof2:Off a2 (Value.slice a9 i c9).ownBlock := .gt (hO2.ge (by omega)) (fun g e=>(fh hO.2 g e).2)
   generalize enc ks (rv q ctr)=ek at *
   have hekl:=hek.len
   have hxw2:=hx.trans hx2
   have hC2:=hC.ext hx2
   have hR2:=hR.ext hx2
   have hO2':=hO.ext hx2
   clear hO2 hx hx2 hC hR hO
   go_wp2_with fail
   go_loopw [9,12] (fun v9 v12 wr=>∃ (k m:Nat) (a9:Option Addr)(c9:Nat),k≤16∧v12 = .int .i64 k∧m≤n∧Hid (m=i+k)∧v9 = .slice a9 m c9∧Sec.Own wr (gm+1) a9 m c9 ((List.range m).map f)∧Off a1 (Value.slice a9 m c9).ownBlock∧Off a2 (Value.slice a9 m c9).ownBlock∧Sl wr a1 16 (rv q ctr)∧Sl wr a2 16 ek∧Rd wr (some ⟨gm,0,none⟩) (pk.map u8v)∧Ext w wr) (fun _ v12 _=>16-(intOf v12).toNat)
   case atStart=>exact ⟨0,i,_,_,by omega,rfl,by omega,Lib.hid rfl,rfl,hO2',hof,hof2,hC2,hek,hR2,hxw2⟩
   case round =>
    clear hO2' hC2 hek hR2 hxw2 hof hof2
    obtain ⟨k,m,a9,c9,hk,rfl,hmn,hm,rfl,hOw,hof1,hof2,hC,hE,hR,hx⟩:=hrel
    have hle:=hOw.le
    by_cases hkn:k<16∧i+k<n
    ·obtain ⟨hk16,hin⟩:=hkn
     have k0:(k:Int)<16:=by omega
     have k1:(i:Int)+(k:Int)<(n:Int):=by omega
     have k2:(0:Int)≤(i:Int)+(k:Int):=by omega
     have k3:(0:Int)≤(k:Int):=by omega
     have k4:((i:Int)+(k:Int)).toNat=i+k:=by omega
     obtain ⟨b1,o1,rfl,hb1,hc1'⟩:=(hl.ext hx).atq (i+k) hin
     obtain ⟨b2,o2,rfl,hb2,hc2'⟩:=hE.atq k hk16
     have hv:=Lib.hid (show f m=at' l (i+k) ^^^ at' ek k by rw [hm.out,hiq.out];exact hes1.out k hk16)
     generalize at' l (i+k)=y1 at *
     generalize at' ek k=y2 at *
     have hxw:=hx
     go_wp2
     refine ae 13 [[],[],[],[],[2,3],[1,2,3,4],[1,2,3,4,5],[],[],[7,8],[7,8,9],[1,2,3,4,5,6,7,8,9,10],[1,2,3,4,5,6,7,8,9,10,11],[0,1,2,3,4,5,6,7,8,9,10,11,12],[0,1,2,3,4,5,6,7,8,9,10,11,12,13]] (by kernel_rfl) (by kernel_rfl) (by kernel_rfl) (by kernel_rfl) ?_;simp only [q8q,q9q,q10q,q11q,q12q,q13q]
     (repeat (refine aA ?_;(try simp only [Act.put,q0q,q1q,q2q])))
     (refine aj (fun p => .slice (p 0).1 1 1) (fun p w''=>Sl w'' (p 0).1 1 [y1 ^^^ y2]) (fun p w w' h hx=>h.ext hx) (fun us w' hx hf=>⟨rfl,?_⟩) ?_;(unfold gives;simp [go_sem,execOp];exact ⟨fun _=>(some ⟨w'.heap.size,0,none⟩,0),rfl,Ext.of_alloc _ _,bF _ (y1 ^^^ y2) _⟩))
     (refine aT ?_;intro us x hx hf;(try simp only [Act.put,q0q,q1q,q2q,ag]);(try simp only [q3q,q4q,aao,aaa,aal,q5q,q6q,q7q,aap,aaq,aar] at hf);(try simp only [Nat.reduceAdd,aad] at hf ⊢))
     have hbw:gm+1≤(wr.ext x).heap.size:=by
      have:=(hR.ext hx).lt (by simp;omega)
      omega
     refine gC U rfl _ _ rfl (gm+1) _ _ _ _ rfl _ 1 1 _ rfl (hOw.ext hx) hf (by omega) hbw ?_;intro sa2 sc2 w3 hOa hga hBa hra
     have hOb:Sec.Own w3 (gm+1) sa2 (m+1) sc2 ((List.range (m+1)).map f):=by rw [← tf,hv.out];exact hOa
     have hC3:=(hC.ext hx).grown hga hof1
     have hE3:=(hE.ext hx).grown hga hof2
     have hR3:=(hR.ext hx).grown hga (.lt (N:=gm+1) (fun b o e=>by injection e with e;injection e;omega) (fun g e=>(fh hOw.2 g e).1))
     have hof3:=hof1.app ((hC.ext hx).lt (by omega)) hra
     have hof4:=hof2.app ((hE.ext hx).lt (by omega)) hra
     have hx3:Ext w w3:=Below.trans (hxw.trans hx) (hBa.mono (by omega))
     clear hOa hga hf hBa hra
     go_wp2_with fail
     go_roundw
     case rel=>exact ⟨k+1,m+1,_,_,by omega,by go_num,by have:=hm.out;omega,Lib.hid (by have:=hm.out;omega),rfl,hOb,hof3,hof4,hC3,hE3,hR3,hx3⟩
     case measure=>simp [intOf];omega
    ·have e1:m≤i+16:=by have:=hm.out;omega
     have e2:n≤m∨i+16≤m:=by have:=hm.out;omega
     by_cases hk16:k<16
     case' neg=>have k0:¬ (k:Int)<16:=by omega
     case' pos =>
      have k0:(k:Int)<16:=by omega
      have k1:¬ (i:Int)+(k:Int)<(n:Int):=by omega
     all_goals
      go_wp2_with (first|(go_at_call 140;(with_reducible refine (vu ?_ ?_ ?_ ?_ ?hq1).mono ?_);(case hq1=>exact sS);rintro e _ ⟨_,_,rfl,hO,hx⟩;obtain ⟨_,rfl⟩:=hx.out;clear hx;have:=Own.le hO;have:=Own.sl hO)|fail)
      go_roundw
      case rel=>exact ⟨q+1,i+16,m,_,a9,_,c9,by go_num,Lib.hid (by rw [hiq.out];omega),rfl,by omega,(show Sl _ _ 16 (nxt (rv q ctr)) from (by (repeat' (first|with_reducible assumption|(with_reducible exact dB _)|(with_reducible exact bF _ _ _)|(with_reducible first|apply Sl.upE|apply Sl.upA|apply Sl.upD))))),rfl,hmn,e1,e2,(by (repeat' (first|with_reducible assumption|(with_reducible first|apply Own.upE|apply Own.upA|apply Own.upD)))), .gt (hO.ge (by omega)) (fun g e=>(fh hOw.2 g e).2),(by (repeat' (first|with_reducible assumption|(with_reducible first|apply Rd.upE|apply Rd.upA|apply Rd.upD)))),eX⟩
      case measure=>simp [intOf];omega
  ·obtain rfl:m=n:=by omega
   go_wp2_with fail
   go_ret2
   exact ⟨_,_,rfl,by rw [hfin.out];exact hO.sl,hle0.1,hx⟩
end Go.Proofs.YtmdahnkcnagkjaaGreat

/- Layer 4: all lengths: Next, Block, Stream, and the round keys. -/
namespace Go.Aes
def DN (l:List UInt8):List UInt8:=if l.length=16 then nxt l else []
def CY (ky l:List UInt8):List UInt8 × Int:=if ky.length≠16 then ([],5) else if l.length≠16 then ([],3) else (block ky l,0)
def CG (ky ctr l:List UInt8):List UInt8 × Int:=if ky.length≠16 then ([],5) else if ctr.length≠16 then ([],3) else if 65535<l.length then ([],2) else (stream ky ctr l,0)
def BR (ks:List UInt8):List (List UInt8):=(List.range 11).map fun i=>(ks.drop (16*i)).take 16
def Dt (ky:List UInt8):List (List UInt8) × Int:=if ky.length≠16 then ([],5) else (BR (expand ky),0)
theorem dc (ky ctr l:List UInt8):(stream ky ctr l).length=l.length:=dS _ _ _
end Go.Aes
namespace Go.Proofs.YtmdahnkcnagkjaaGreat
open Go.RowKit Go.Sec Go.Oct Go.Aes BigFrame
theorem aG (v:Value)(w w':World)(hx:Ext w w'):bQ 0 [] v w (.returned (.tuple #[.slice none 0 0,v])) w':=⟨_,_,rfl,Sl.nil _ _,aag _,hx⟩
end Go.Proofs.YtmdahnkcnagkjaaGreat

/- Layer 5 at all lengths of keys and lists. -/
namespace Go.Aes
def CO (l:List UInt8):List UInt8:=if l.length=16 then tw l else []
def BJ (ky:List UInt8):List UInt8 × List UInt8 × Int:=if ky.length=16 then (eW (expand ky),e9 (expand ky),0) else ([],[],5)
def DP (ky l:List UInt8):List UInt8 × Int:=if ky.length=16 then (CS ky l,0) else ([],5)
def CB (ky:List UInt8)(L:List (List UInt8)):List UInt8 × Int:=if ky.length=16 then if 17<L.length then ([],8) else (s2v ky L,0) else ([],5)
end Go.Aes
namespace Go.Proofs.YtmdahnkcnagkjaaGreat
open Go.RowKit Go.Sec Go.Oct Go.Aes BigFrame
def Dw (n:Nat) (l:List UInt8)(w:World)(e:Ending) (w':World):Prop:=∃ a c,e = .returned (.slice a n c)∧Sl w' a n l∧n≤c∧Ext w w'
def DD (n:Nat) (l:List UInt8)(m:Nat) (k:List UInt8)(v:Value)(w:World)(e:Ending) (w':World):Prop :=
 ∃ a c b d,e = .returned (.tuple #[.slice a n c, .slice b m d,v])∧Sl w' a n l∧n≤c∧Sl w' b m k∧m≤d∧Ext w w'
def kz0:List Value := .pointer none :: List.replicate 32 (u8v 0)
def CE (w:World)(e:Ending) (w':World):Prop:=∃ ks:List Value,e = .returned (.tuple #[.agg ks.toArray, .int .i64 5])∧ks.length=33∧(∀ v∈ks,v.oneCell'=true)∧Ext w w'
end Go.Proofs.YtmdahnkcnagkjaaGreat

/- Layer 6 as plain functions. No program. -/
namespace Go.Aes
def cR (A:List (List UInt8)):Bool:=A.any fun x=>decide (65519<x.length)
def aL (ky:List UInt8)(A:List (List UInt8)):Int:=if ky.length≠32 then 5 else if 16<A.length then 8 else if cR A then 2 else 0
def cG (ky:List UInt8)(A:List (List UInt8)) (p:List UInt8):List UInt8 × Int :=
 if aL ky A≠0 then ([],aL ky A) else if 65519<p.length then ([],2) else (s2v (ky.take 16) (A++[p]),0)
def dE (t:List UInt8):List UInt8:=(t.set 8 (at' t 8 &&& 127)).set 12 (at' t 12 &&& 127)
def bZ (ky:List UInt8)(A:List (List UInt8)) (p:List UInt8):List UInt8 × Int :=
 if (cG ky A p).2≠0 then ([],(cG ky A p).2) else ((cG ky A p).1++stream (ky.drop 16) (dE (cG ky A p).1) p,0)
def bw (ky s:List UInt8):List UInt8:=stream (ky.drop 16) (dE (s.take 16)) (s.drop 16)
def bI (ky:List UInt8)(A:List (List UInt8)) (s:List UInt8):List UInt8 × Int :=
 if aL ky A≠0 then ([],aL ky A) else if 65535<s.length then ([],2) else if s.length<16 then ([],1)
 else if (cG ky A (bw ky s)).1=s.take 16 then (bw ky s,0) else ([],6)
theorem yi {A:List (List UInt8)} (h:cR A=false):∀ x∈A,x.length≤65519:=fun x hx=>by
 unfold cR at h
 rw [List.any_eq_false] at h
 have:=h x hx
 simp at this
 exact this
theorem fQ {ky:List UInt8} {A:List (List UInt8)} (h:aL ky A=0):ky.length=32∧A.length≤16∧∀ x∈A,x.length≤65519:=by
 unfold aL at h
 split at h
 ·cases h
 ·split at h
  ·cases h
  ·split at h
   ·cases h
   ·rename_i h1 h2 h3
    exact ⟨by omega,by omega,yi (by simpa using h3)⟩
theorem iJ {ky:List UInt8} {A:List (List UInt8)} {p:List UInt8} (h:aL ky A=0) (hp:p.length≤65519):cG ky A p=(s2v (ky.take 16) (A++[p]),0):=by
 unfold cG
 rw [aaf (by rw [h];simp),aaf (by omega)]
theorem oD {ky:List UInt8} {A:List (List UInt8)} {p:List UInt8} (h:(cG ky A p).2=0):(cG ky A p).1.length=16∧aL ky A=0∧p.length≤65519:=by
 unfold cG at h ⊢
 split at h
 ·rename_i h1;exact absurd h h1
 ·split at h
  ·cases h
  ·rename_i h1 h2
   rw [aaf h1,aaf h2]
   exact ⟨dy _ _,by simpa using h1,by omega⟩
theorem dm {ky s:List UInt8}:(bw ky s).length=s.length-16:=by simp [bw,dc]
end Go.Aes

/- Layer 4: the round keys, both ways. -/
namespace Go.Aes
end Go.Aes
namespace Go.Proofs.YtmdahnkcnagkjaaGreat
open Go.RowKit Go.Sec Go.Oct Go.Aes BigFrame
theorem AE:(Tryz.prog.info? 33).map (fun i=>(i.zero,i.size,i.bytes))=some (some (.slice none 0 0),1,24):=by kernel_rfl
theorem V8:S8 Tryz.prog:=⟨Tryz.underlying37,info_parts AE⟩
def DM (n:Nat) (L:List (List UInt8)) (v:Value)(w:World)(e:Ending) (w':World):Prop :=
 ∃ a c,e = .returned (.tuple #[.slice a n c,v])∧Bsc w' a n L∧n≤c∧Ext w w'
end Go.Proofs.YtmdahnkcnagkjaaGreat

/- Open undoes Seal: plain functions. No program. -/
namespace Go.Aes
theorem nB {ky:List UInt8} {A:List (List UInt8)} {p:List UInt8} (h:aL ky A=0) (hp:p.length≤65519) :
  bZ ky A p=(s2v (ky.take 16) (A++[p])++stream (ky.drop 16) (dE (s2v (ky.take 16) (A++[p]))) p,0):=by
 unfold bZ
 rw [iJ h hp,aaf (by simp)]
theorem oJ {ky:List UInt8} {A:List (List UInt8)} {p:List UInt8} (h:aL ky A=0) (hp:p.length≤65519):bI ky A (bZ ky A p).1=(p,0):=by
 rw [nB h hp]
 have ht:=dy (ky.take 16) (A++[p])
 generalize hT:s2v (ky.take 16) (A++[p])=t at *
 have h1:(t++stream (ky.drop 16) (dE t) p).take 16=t:=by rw [aay (by omega),aaj (by omega)]
 have h2:(t++stream (ky.drop 16) (dE t) p).drop 16=stream (ky.drop 16) (dE t) p:=by rw [aa2 (by omega),aaK (by omega),q5q]
 have h3:bw ky (t++stream (ky.drop 16) (dE t) p)=p:=by
  unfold bw
  rw [h1,h2]
  exact qw _ _ _
 have hsl:=dc (ky.drop 16) (dE t) p
 unfold bI
 rw [aaf (by rw [h];simp),aaf (by simp [ht,hsl];omega),aaf (by simp [ht]),h3,iJ h hp,h1,hT,aam rfl]
end Go.Aes

/- Layers 16 to 18 as plain functions: headers, fields, protected packets. No program. -/
namespace Go.Pkt
open Go.Oct Go.Sec Go.Aes
structure Hdr where
 leap:Int
 ver:Int
 mode:Int
 strat:Int
 poll:Int
 prec:Int
 rd:UInt32
 rp:UInt32
 id:UInt32
 ref:UInt64
 org:UInt64
 rcv:UInt64
 tx:UInt64
deriving DecidableEq
def gM:Hdr:=⟨0,0,0,0,0,0,0,0,0,0,0,0,0⟩
def okH (h:Hdr):Prop:=(0≤h.leap∧h.leap≤3)∧(3≤h.ver∧h.ver≤4)∧(0≤h.mode∧h.mode≤7)∧(0≤h.strat∧h.strat≤255)∧(-128≤h.poll∧h.poll≤127)∧(-128≤h.prec∧h.prec≤127)
instance (h:Hdr):Decidable (okH h):=by unfold okH;infer_instance
def iG (h:Hdr):List UInt8:=[b8 (h.leap*64+h.ver*8+h.mode),b8 h.strat,b8 h.poll,b8 h.prec]
def oG (h:Hdr):List UInt8:=aF 4 h.rd.toUInt64++(aF 4 h.rp.toUInt64++(aF 4 h.id.toUInt64++(aF 8 h.ref++(aF 8 h.org++(aF 8 h.rcv++aF 8 h.tx)))))
def bY (h:Hdr):List UInt8:=iG h++oG h
theorem cU (h:Hdr):(bY h).length=48:=by simp [bY,iG,oG,ay]
def cP (h:Hdr):List UInt8 × Int:=if okH h then (bY h,0) else ([],4)
def sgn (x:UInt8):Int:=if x.toNat<128 then (x.toNat:Int) else (x.toNat:Int)-256
def dZ (b:List UInt8)(o n:Nat):UInt64:=dr ((b.drop o).take n)
def rdH (b:List UInt8):Hdr:=⟨((b.getD 0 0).toNat / 64:Nat),((b.getD 0 0).toNat / 8 % 8:Nat),((b.getD 0 0).toNat % 8:Nat),((b.getD 1 0).toNat:Nat),sgn (b.getD 2 0),sgn (b.getD 3 0),
 (dZ b 4 4).toUInt32,(dZ b 8 4).toUInt32,(dZ b 12 4).toUInt32,dZ b 16 8,dZ b 24 8,dZ b 32 8,dZ b 40 8⟩
def bO (b:List UInt8):(Hdr × List UInt8) × Int :=
 if b.length<48 then ((gM,[]),1) else if 1280<b.length then ((gM,[]),2) else if (rdH b).ver=4∨(rdH b).ver=3 then ((rdH b,b.drop 48),0) else ((gM,[]),3)
def bU (t:UInt64):Hdr:=⟨0,4,3,0,6,0,0,0,0,0,0,0,t⟩
theorem jH (t:UInt64):okH (bU t):=by unfold okH bU;simp
def jr (q:Hdr) (s:Int) (r t:UInt64):Hdr × Int :=
 if ¬ okH q then (gM,4) else if q.mode≠3 then (gM,3) else if s<0∨255<s then (gM,4) else (⟨0,q.ver,4,s,q.poll, -20,0,0,0,0,q.tx,r,t⟩,0)
theorem eQ {α:Type} (l r:List α) (n:Nat) (h:l.length=n):(l++r).drop n=r:=by subst h;simp
theorem dM {α:Type} (l r:List α) (n:Nat) (h:l.length=n):(l++r).take n=l:=by subst h;simp
theorem iA {α:Type} (l r:List α) (n m:Nat) (h:l.length=n):(l++r).drop (n+m)=r.drop m:=by subst h;rw [List.drop_append];simp
theorem lg (v:UInt64):dr (aF 8 v)=v:=by
 apply UInt64.toNat_inj.1
 rw [fA _ (by rw [ay];omega),lA]
 exact aaZ (by have:=v.toNat_lt;omega)
theorem oy (v:UInt32):(dr (aF 4 v.toUInt64)).toUInt32=v:=by
 apply UInt32.toNat_inj.1
 rw [UInt64.toNat_toUInt32,fA _ (by rw [ay];omega),lA,UInt32.toNat_toUInt64]
 have:=v.toNat_lt
 omega
theorem rl (n:Int):(((b8 n).toNat:Nat):Int)=n % 256:=mr n
theorem xK (h:Hdr) (hh:okH h) (r:List UInt8):rdH (bY h++r)=h:=by
 obtain ⟨h1,h2,h3,h4,h5,h6⟩:=hh
 have g:∀ o n (A B C:List UInt8),A.length=o→B.length=n→dZ (A++(B++C)) o n=dr B:=fun o n A B C hA hB=>by
  unfold dZ;rw [eQ _ _ _ hA,dM _ _ _ hB]
 have e:bY h++r=iG h++(aF 4 h.rd.toUInt64++(aF 4 h.rp.toUInt64++(aF 4 h.id.toUInt64++(aF 8 h.ref++(aF 8 h.org++(aF 8 h.rcv++(aF 8 h.tx++r))))))):=by
  simp [bY,oG,aas]
 have l0:(iG h).length=4:=rfl
 have k1:dZ (bY h++r) 4 4=dr (aF 4 h.rd.toUInt64):=by rw [e];exact g _ _ _ _ _ l0 (ay _ _)
 have k2:dZ (bY h++r) 8 4=dr (aF 4 h.rp.toUInt64):=by rw [e,← aas];exact g _ _ _ _ _ (by simp [ay,l0]) (ay _ _)
 have k3:dZ (bY h++r) 12 4=dr (aF 4 h.id.toUInt64):=by rw [e,← aas,← aas];exact g _ _ _ _ _ (by simp [ay,l0]) (ay _ _)
 have k4:dZ (bY h++r) 16 8=dr (aF 8 h.ref):=by rw [e,← aas,← aas,← aas];exact g _ _ _ _ _ (by simp [ay,l0]) (ay _ _)
 have k5:dZ (bY h++r) 24 8=dr (aF 8 h.org):=by rw [e,← aas,← aas,← aas,← aas];exact g _ _ _ _ _ (by simp [ay,l0]) (ay _ _)
 have k6:dZ (bY h++r) 32 8=dr (aF 8 h.rcv):=by rw [e,← aas,← aas,← aas,← aas,← aas];exact g _ _ _ _ _ (by simp [ay,l0]) (ay _ _)
 have k7:dZ (bY h++r) 40 8=dr (aF 8 h.tx):=by rw [e,← aas,← aas,← aas,← aas,← aas,← aas];exact g _ _ _ _ _ (by simp [ay,l0]) (ay _ _)
 unfold rdH
 rw [k1,k2,k3,k4,k5,k6,k7,oy,oy,oy,lg,lg,lg,lg,e]
 have a0:=rl (h.leap*64+h.ver*8+h.mode)
 have a1:=rl h.strat
 have a2:=rl h.poll
 have a3:=rl h.prec
 have d:∀ k (t:List UInt8),k<4→(iG h++t).getD k 0=(iG h).getD k 0:=fun k t hk=>by
  rw [List.getD_eq_getElem?_getD,List.getD_eq_getElem?_getD,List.getElem?_append_left (by rw [l0];exact hk)]
 rw [d 0 _ (by omega),d 1 _ (by omega),d 2 _ (by omega),d 3 _ (by omega)]
 show Hdr.mk (((b8 (h.leap*64+h.ver*8+h.mode)).toNat / 64:Nat)) (((b8 (h.leap*64+h.ver*8+h.mode)).toNat / 8 % 8:Nat)) (((b8 (h.leap*64+h.ver*8+h.mode)).toNat % 8:Nat)) ((b8 h.strat).toNat:Nat) (sgn (b8 h.poll)) (sgn (b8 h.prec)) _ _ _ _ _ _ _=_
 have c1:(((b8 (h.leap*64+h.ver*8+h.mode)).toNat / 64:Nat):Int)=h.leap:=by omega
 have c2:(((b8 (h.leap*64+h.ver*8+h.mode)).toNat / 8 % 8:Nat):Int)=h.ver:=by omega
 have c3:(((b8 (h.leap*64+h.ver*8+h.mode)).toNat % 8:Nat):Int)=h.mode:=by omega
 have c4:((b8 h.strat).toNat:Int)=h.strat:=by omega
 have c5:sgn (b8 h.poll)=h.poll:=by unfold sgn;split <;> omega
 have c6:sgn (b8 h.prec)=h.prec:=by unfold sgn;split <;> omega
 rw [c1,c2,c3,c4,c5,c6]
theorem lS (h:Hdr) (hh:okH h) (r:List UInt8)(hr:r.length≤1232):bO (bY h++r)=((h,r),0):=by
 have l:(bY h++r).length=48+r.length:=by rw [aah,cU]
 unfold bO
 rw [xK h hh r,aaf (by omega),aaf (by omega),aam (by have:=hh.2.1;omega),eQ _ _ _ (cU h)]
/-! ### fields -/
abbrev Fld:=Int × List UInt8
def szN (n:Nat):Nat:=max 16 ((n+7) / 4*4)
theorem zO (n:Nat):szN n % 4=0:=by unfold szN;omega
theorem js (n:Nat):16≤szN n∧n+4≤szN n:=by unfold szN;omega
def cL (f:Fld):Int × Int:=if f.1<0∨65535<f.1 then (0,4) else if 1232<szN f.2.length then (0,2) else (szN f.2.length,0)
def di (f:Fld):List UInt8:=aF 2 (UInt64.ofNat f.1.toNat)++(aF 2 (UInt64.ofNat (szN f.2.length))++(f.2++List.replicate (szN f.2.length-4-f.2.length) 0))
theorem cY (f:Fld):(di f).length=szN f.2.length:=by
 have:=js f.2.length
 simp only [di,aah,ay,aaP];omega
def eY:List Fld→Int
 | []=>0
 | f :: L=>if (cL f).2≠0 then (cL f).2 else eY L
def aX (L:List Fld):Nat:=(L.map fun f=>szN f.2.length).sum
theorem eF (L:List Fld) (f:Fld):aX (L++[f])=aX L+szN f.2.length:=by simp [aX]
theorem lU (L:List Fld) (f:Fld):aX (f :: L)=szN f.2.length+aX L:=by simp [aX]
def aM (L:List Fld):List UInt8:=(L.map di).flatten
theorem jF (L:List Fld) (f:Fld):aM (L++[f])=aM L++di f:=by simp [aM]
theorem mj (L:List Fld) (f:Fld):aM (f :: L)=di f++aM L:=by simp [aM]
theorem bG (L:List Fld):(aM L).length=aX L:=by
 induction L with
 | nil=>rfl
 | cons f L ih=>rw [mj,lU,aah,cY,ih]
def aW (L:List Fld):List UInt8 × Int:=if eY L≠0 then ([],eY L) else if 24<L.length then ([],8) else if 1232<aX L then ([],2) else (aM L,0)
theorem qK {L:List Fld} (h:(aW L).2=0):eY L=0∧L.length≤24∧aX L≤1232∧aW L=(aM L,0):=by
 unfold aW at h ⊢
 split at h
 ·rename_i h1;exact absurd h h1
 ·rename_i h1
  rw [aaf h1]
  split at h
  ·cases h
  ·rename_i h2
   rw [aaf h2]
   split at h
   ·cases h
   ·rename_i h3
    rw [aaf h3]
    exact ⟨by simpa using h1,by omega,by omega,rfl⟩
theorem uO {L:List Fld} (h:eY L=0):∀ f∈L,(0≤f.1∧f.1≤65535)∧szN f.2.length≤1232:=by
 induction L with
 | nil=>intro f hf;cases hf
 | cons g L ih =>
  rw [eY] at h
  split at h
  ·rename_i h1;exact absurd h h1
  ·rename_i h1
   intro f hf
   rcases List.mem_cons.1 hf with rfl|hf
   ·unfold cL at h1
    split at h1
    ·exact absurd (show (4:Int)≠0 by decide) h1
    ·split at h1
     ·exact absurd (show (2:Int)≠0 by decide) h1
     ·omega
   ·exact ih h f hf
def db (l:List UInt8):Nat:=bL ((l.drop 2).take 2)
def cQ (l:List UInt8):Int:=if l.length<4 then 1 else if db l % 4≠0∨db l<16 then 3 else if l.length<db l then 1 else 0
def ej (l:List UInt8):Fld:=((bL (l.take 2):Nat),(l.take (db l)).drop 4)
def pK (f:Fld) (r:List Fld × Int):List Fld × Int:=if r.2=0 then (f :: r.1,0) else ([],r.2)
def ny (A:List Fld) (r:List Fld × Int):List Fld × Int:=if r.2=0 then (A++r.1,0) else ([],r.2)
theorem pJ (A:List Fld) (f:Fld) (r:List Fld × Int):ny A (pK f r)=ny (A++[f]) r:=by
 unfold ny pK
 by_cases h:r.2=0 <;> simp [h]
def eZ:Nat→List UInt8→List Fld × Int
 | 0,l=>if l=[] then ([],0) else if cQ l≠0 then ([],cQ l) else ([],8)
 | m+1,l=>if l=[] then ([],0) else if cQ l≠0 then ([],cQ l) else pK (ej l) (eZ m (l.drop (db l)))
def bg (b:List UInt8):List Fld × Int:=if 1232<b.length then ([],2) else eZ 24 b
theorem lB (m:Nat):eZ m []=([],0):=by cases m <;> simp [eZ]
theorem eL (m:Nat) (l:List UInt8)(h:l≠[]) (hs:cQ l≠0):eZ m l=([],cQ l):=by cases m <;> simp [eZ,h,hs]
theorem jQ (l:List UInt8)(h:l≠[]) (hs:cQ l=0):eZ 0 l=([],8):=by simp [eZ,h,hs]
theorem iD (m:Nat) (l:List UInt8)(h:l≠[]) (hs:cQ l=0):eZ (m+1) l=pK (ej l) (eZ m (l.drop (db l))):=by simp [eZ,h,hs]
theorem r8 {l:List UInt8} (h:cQ l=0):4≤l.length∧db l % 4=0∧16≤db l∧db l≤l.length:=by
 unfold cQ at h
 split at h
 ·cases h
 ·split at h
  ·cases h
  ·split at h
   ·cases h
   ·omega
theorem lY {l:List UInt8} (h:cQ l=0):(ej l).2.length+4=db l∧szN (ej l).2.length=db l:=by
 obtain ⟨h1,h2,h3,h4⟩:=r8 h
 have e:(ej l).2.length=db l-4:=by simp only [ej,aaR,aaD];omega
 refine ⟨by omega,?_⟩
 unfold szN;omega
theorem zy:∀ (m:Nat) (l:List UInt8),(eZ m l).2=0→aX (eZ m l).1=l.length∧(eZ m l).1.length≤m∧∀ f∈(eZ m l).1,f.2.length % 4=0∧12≤f.2.length∧0≤f.1∧f.1≤65535:=by
 have hty:∀ l:List UInt8,0≤(ej l).1∧(ej l).1≤65535:=fun l=>by
  have h1:=jR (l.take 2)
  have h2:(256:Nat) ^ (l.take 2).length≤256 ^ 2:=Nat.pow_le_pow_right (by omega) (by simp;omega)
  simp only [ej];omega
 intro m
 induction m with
 | zero =>
  intro l h
  by_cases h0:l=[]
  ·subst h0;simp [eZ,aX]
  ·by_cases hs:cQ l=0
   ·rw [jQ l h0 hs] at h;cases h
   ·rw [eL 0 l h0 hs] at h;exact absurd h hs
 | succ m ih =>
  intro l h
  by_cases h0:l=[]
  ·subst h0;simp [eZ,aX]
  ·by_cases hs:cQ l=0
   ·rw [iD m l h0 hs] at h ⊢
    unfold pK at h ⊢
    split at h
    ·rename_i h1
     rw [aam h1]
     obtain ⟨i1,i2,i3⟩:=ih _ h1
     obtain ⟨s1,s2,s3,s4⟩:=r8 hs
     obtain ⟨f1,f2⟩:=lY hs
     refine ⟨?_,by simp;omega,fun f hf=>?_⟩
     ·rw [lU,i1,f2,aaR];omega
     ·rcases List.mem_cons.1 hf with rfl|hf
      ·have:=hty l
       exact ⟨by omega,by omega,this.1,this.2⟩
      ·exact i3 f hf
    ·rename_i h1;exact absurd h h1
   ·rw [eL _ l h0 hs] at h;exact absurd h hs
def eK (f:Fld):Fld:=(f.1,f.2++List.replicate (szN f.2.length-4-f.2.length) 0)
theorem jN (k:Nat) (h:k<65536):bL (aF 2 (UInt64.ofNat k))=k:=by
 rw [lA,aaN];omega
theorem zC (f:Fld) (r:List UInt8)(h0:0≤f.1) (h1:f.1≤65535) (h2:szN f.2.length≤1232) :
  db (di f++r)=szN f.2.length∧ej (di f++r)=eK f∧cQ (di f++r)=0∧(di f++r).drop (db (di f++r))=r:=by
 have hz:=js f.2.length
 have hm:=zO f.2.length
 have e:di f++r=aF 2 (UInt64.ofNat f.1.toNat)++(aF 2 (UInt64.ofNat (szN f.2.length))++((f.2++List.replicate (szN f.2.length-4-f.2.length) 0)++r)):=by simp [di,aas]
 have es:db (di f++r)=szN f.2.length:=by
  unfold db
  rw [e,eQ _ _ _ (ay _ _),dM _ _ _ (ay _ _),jN _ (by omega)]
 have et:bL ((di f++r).take 2)=f.1.toNat:=by rw [e,dM _ _ _ (ay _ _),jN _ (by omega)]
 have el:(di f++r).length=szN f.2.length+r.length:=by rw [aah,cY]
 refine ⟨es,?_,?_,?_⟩
 ·unfold ej
  rw [et,es,dM _ _ _ (cY f)]
  unfold di eK
  rw [show (4:Nat)=2+2 from rfl,iA _ _ 2 2 (ay _ _),eQ _ _ _ (ay _ _)]
  congr 1
  omega
 ·unfold cQ
  rw [aaf (by omega),es,aaf (by omega),aaf (by omega)]
 ·rw [es,eQ _ _ _ (cY f)]
theorem mE:∀ (L:List Fld) (m:Nat),L.length≤m→(∀ f∈L,(0≤f.1∧f.1≤65535)∧szN f.2.length≤1232)→eZ m (aM L)=(L.map eK,0):=by
 intro L
 induction L with
 | nil=>intro m _ _;exact lB m
 | cons f L ih =>
  intro m hm hf
  obtain ⟨k,rfl⟩:∃ k,m=k+1:=⟨m-1,by simp at hm;omega⟩
  obtain ⟨⟨a1,a2⟩,a3⟩:=hf f (aa6 ..)
  obtain ⟨b1,b2,b3,b4⟩:=zC f (aM L) a1 a2 a3
  have hz:=js f.2.length
  have hne:di f++aM L≠[]:=fun h=>by
   have:=congrArg List.length h
   rw [aah,cY,List.length_nil] at this
   omega
  rw [mj,iD k _ hne b3,b2,b4,ih k (by simp at hm;omega) (fun g hg=>hf g (List.mem_cons_of_mem _ hg))]
  rfl
def ixs (k:Int) (L:List Fld) (j:Nat):List Nat:=(List.range j).filter fun i=>decide ((L.getD i (0,[])).1=k)
theorem xO (k:Int) (L:List Fld):ixs k L 0=[]:=rfl
theorem lu {k:Int} {L:List Fld} {j:Nat} (h:(L.getD j (0,[])).1=k):ixs k L (j+1)=ixs k L j++[j]:=by
 unfold ixs;rw [aa1,List.filter_append];simp only [List.filter_cons,List.filter_nil,h,decide_true,abi]
theorem lN {k:Int} {L:List Fld} {j:Nat} (h:(L.getD j (0,[])).1≠k):ixs k L (j+1)=ixs k L j:=by
 unfold ixs;rw [aa1,List.filter_append];simp only [List.filter_cons,List.filter_nil,h,decide_false,aaG,abk,List.append_nil]
theorem u4 {k:Int} {L:List Fld} {j i:Nat}:i∈ixs k L j ↔ i<j∧(L.getD i (0,[])).1=k:=by
 unfold ixs;simp
theorem xB {k:Int} {L:List Fld} {j i:Nat} (h:i∈ixs k L j):i<j:=(u4.1 h).1
theorem oi (k:Int) (L:List Fld) (j:Nat):(ixs k L j).length≤j:=by
 unfold ixs
 have:=List.length_filter_le (fun i=>decide ((L.getD i (0,[])).1=k)) (List.range j)
 simpa using this
def eS (k:Int) (L:List Fld):Option Nat:=(ixs k L L.length).head?
theorem yZ (k:Int) (L:List Fld) (j d:Nat):∃ r,ixs k L (j+d)=ixs k L j++r:=by
 induction d with
 | zero=>exact ⟨[],by simp⟩
 | succ d ih =>
  obtain ⟨r,hr⟩:=ih
  by_cases h:(L.getD (j+d) (0,[])).1=k
  ·exact ⟨r++[j+d],by rw [← aaY,lu h,hr,aas]⟩
  ·exact ⟨r,by rw [← aaY,lN h,hr]⟩
theorem mJ {k:Int} {L:List Fld} {j:Nat} (hj:j<L.length) (h0:ixs k L j=[]) (h:(L.getD j (0,[])).1=k):eS k L=some j:=by
 obtain ⟨r,hr⟩:=yZ k L (j+1) (L.length-(j+1))
 rw [show j+1+(L.length-(j+1))=L.length by omega,lu h,h0] at hr
 unfold eS;rw [hr];rfl
theorem rD {k:Int} {L:List Fld} (h0:ixs k L L.length=[]):eS k L=none:=by unfold eS;rw [h0];rfl
/-! ### protected packets -/
structure Pkt where
 h:Hdr
 plain:List Fld
 secret:List Fld
 guarded:Bool
deriving DecidableEq
def aO:Pkt:=⟨gM,[],[],false⟩
def aU (h:Hdr) (L:List Fld):List UInt8 × Int:=if (cP h).2≠0 then ([],(cP h).2) else if (aW L).2≠0 then ([],(aW L).2) else ((cP h).1++(aW L).1,0)
def en (p:Pkt):List UInt8 × Int:=if (aU p.h p.plain).2≠0 then ([],(aU p.h p.plain).2) else if p.secret≠[]∨p.guarded=true then ([],3) else aU p.h p.plain
def aB (n s:List UInt8):List UInt8:=aF 2 (UInt64.ofNat n.length)++(aF 2 (UInt64.ofNat s.length)++(fV n 4++fV s 4))
def cD (ky:List UInt8)(p:Pkt) (nonce:List UInt8):List UInt8 × Int :=
 if ky.length≠32 then ([],5) else if nonce.length<16∨32<nonce.length then ([],4)
 else if (aU p.h p.plain).2≠0 then ([],(aU p.h p.plain).2) else if (aW p.secret).2≠0 then ([],(aW p.secret).2)
 else if ixs 1028 p.plain p.plain.length≠[] then ([],3) else if 24≤p.plain.length then ([],8)
 else if (aW [(1028,aB nonce (bZ ky [(aU p.h p.plain).1,nonce] (aW p.secret).1).1)]).2≠0∨1280<(aU p.h p.plain).1.length+(aW [(1028,aB nonce (bZ ky [(aU p.h p.plain).1,nonce] (aW p.secret).1).1)]).1.length then ([],2)
 else ((aU p.h p.plain).1++(aW [(1028,aB nonce (bZ ky [(aU p.h p.plain).1,nonce] (aW p.secret).1).1)]).1,0)
def aH (b:List UInt8):Pkt × Int:=if (bO b).2≠0 then (aO,(bO b).2) else if (bg (bO b).1.2).2≠0 then (aO,(bg (bO b).1.2).2) else (⟨(bO b).1.1,(bg (bO b).1.2).1,[],false⟩,0)
def aI (n:Nat):Nat:=(n+3) / 4*4
def cT (d:List UInt8):Option (List UInt8 × List UInt8) :=
 let n:=bL (d.take 2)
 let m:=bL ((d.drop 2).take 2)
 let nonce:=(d.drop 4).take n
 let s:=(d.drop (4+aI n)).take m
 if 4≤d.length∧(16≤n∧n≤32)∧d.length=4+aI n+aI m∧aB nonce s=d then some (nonce,s) else none
def cW (ky b:List UInt8):Pkt × Int :=
 if ky.length≠32 then (aO,5) else if (aH b).2≠0 then (aO,(aH b).2) else
 match eS 1028 (aH b).1.plain with
 | none=>(aO,10)
 | some i=>if i+1≠(aH b).1.plain.length then (aO,3) else
  match cT ((aH b).1.plain.getD i (0,[])).2 with
  | none=>(aO,3)
  | some (nonce,s) =>
   if (bI ky [b.take (b.length-((aH b).1.plain.getD i (0,[])).2.length-4),nonce] s).2≠0 then (aO,6)
   else if (bg (bI ky [b.take (b.length-((aH b).1.plain.getD i (0,[])).2.length-4),nonce] s).1).2≠0 then (aO,(bg (bI ky [b.take (b.length-((aH b).1.plain.getD i (0,[])).2.length-4),nonce] s).1).2)
   else (⟨(aH b).1.h,(aH b).1.plain.take i,(bg (bI ky [b.take (b.length-((aH b).1.plain.getD i (0,[])).2.length-4),nonce] s).1).1,true⟩,0)
end Go.Pkt

/- The walks of layer 16: Valid, Encode, Ask. -/
namespace Go.Pkt
def inR (x lo hi:Int):Bool:=decide (lo≤x∧x≤hi)
theorem iM {x lo hi:Int} (h:lo≤x∧x≤hi):inR x lo hi=true:=aaz h
theorem jE {x lo hi:Int} (h:¬ (lo≤x∧x≤hi)):inR x lo hi=false:=aaF h
end Go.Pkt
namespace Go.Proofs.YtmdahnkcnagkjaaGreat
open Go.RowKit Go.Sec Go.Oct Go.Pkt BigFrame
theorem bc:RowT Tryz.prog 64 13:=⟨⟨_,Tryz.underlying64,rfl⟩,by kernel_rfl,⟨_,Tryz.zeroValue64,by kernel_rfl⟩⟩
theorem iX (x lo hi:Int) (w:World) :
  Calls Tryz.prog 171 #[.int .i64 x, .int .i64 lo, .int .i64 hi] w fun e w'=>e = .returned (.bool (inR x lo hi))∧Ext w w':=by
 by_cases h1:lo≤x
 ·by_cases h2:x≤hi
  ·have e:=Lib.hid (iM ⟨h1,h2⟩)
   go_enter Tryz.func171,Tryz.ntmps171
   go_wp2
   go_ret
   exact ⟨by rw [e.out];rfl,eX⟩
  ·have e:=Lib.hid (jE (fun h=>h2 h.2:¬ (lo≤x∧x≤hi)))
   go_enter Tryz.func171,Tryz.ntmps171
   go_wp2
   go_ret
   exact ⟨by rw [e.out];rfl,eX⟩
 ·have e:=Lib.hid (jE (fun h=>h1 h.1:¬ (lo≤x∧x≤hi)))
  go_enter Tryz.func171,Tryz.ntmps171
  go_wp2
  go_ret
  exact ⟨by rw [e.out];rfl,eX⟩
theorem kx (h:Hdr) (w:World) :
  Calls Tryz.prog 161 #[.agg #[.int .i64 h.leap, .int .i64 h.ver, .int .i64 h.mode, .int .i64 h.strat, .int .i64 h.poll, .int .i64 h.prec, .int .u32 (n32 h.rd), .int .u32 (n32 h.rp), .int .u32 (n32 h.id), .int .u64 (n64 h.ref), .int .u64 (n64 h.org), .int .u64 (n64 h.rcv), .int .u64 (n64 h.tx)]] w fun e w'=>e = .returned (.int .i64 (cP h).2)∧Ext w w':=by
 obtain ⟨r,hr⟩:∃ r,(cP h).2=r:=⟨_,rfl⟩
 rw [hr]
 have hok:okH h→r=0:=fun k=>by rw [← hr];unfold cP;rw [aam k]
 have hno:¬ okH h→r=4:=fun k=>by rw [← hr];unfold cP;rw [aaf k]
 clear hr
 by_cases c1:0≤h.leap∧h.leap≤3
 ·have i1:=iM c1
  by_cases c2:3≤h.ver∧h.ver≤4
  ·have i2:=iM c2
   by_cases c3:0≤h.mode∧h.mode≤7
   ·have i3:=iM c3
    by_cases c4:0≤h.strat∧h.strat≤255
    ·have i4:=iM c4
     by_cases c5 : -128≤h.poll∧h.poll≤127
     ·have i5:=iM c5
      by_cases c6 : -128≤h.prec∧h.prec≤127
      ·have i6:=iM c6
       have e:=Lib.hid (hok ⟨c1,c2,c3,c4,c5,c6⟩)
       clear c1 c2 c3 c4 c5 c6 hok hno
       go_enter Tryz.func161,Tryz.ntmps161
       go_wp2_with (first
        | (go_at_call 171;refine (iX _ _ _ _).mono ?_;rintro e w1 ⟨rfl,hxq⟩;obtain ⟨xq,rfl⟩:=hxq.out;clear hxq)
        | fail)
       go_ret
       exact ⟨by rw [e.out];rfl,eX⟩
      ·have i6:=jE c6
       have e:=Lib.hid (hno fun k=>c6 k.2.2.2.2.2)
       clear c1 c2 c3 c4 c5 c6 hok hno
       go_enter Tryz.func161,Tryz.ntmps161
       go_wp2_with (first
        | (go_at_call 171;refine (iX _ _ _ _).mono ?_;rintro e w1 ⟨rfl,hxq⟩;obtain ⟨xq,rfl⟩:=hxq.out;clear hxq)
        | fail)
       go_ret
       exact ⟨by rw [e.out];rfl,eX⟩
     ·have i5:=jE c5
      have e:=Lib.hid (hno fun k=>c5 k.2.2.2.2.1)
      clear c1 c2 c3 c4 c5 hok hno
      go_enter Tryz.func161,Tryz.ntmps161
      go_wp2_with (first
       | (go_at_call 171;refine (iX _ _ _ _).mono ?_;rintro e w1 ⟨rfl,hxq⟩;obtain ⟨xq,rfl⟩:=hxq.out;clear hxq)
       | fail)
      go_ret
      exact ⟨by rw [e.out];rfl,eX⟩
    ·have i4:=jE c4
     have e:=Lib.hid (hno fun k=>c4 k.2.2.2.1)
     clear c1 c2 c3 c4 hok hno
     go_enter Tryz.func161,Tryz.ntmps161
     go_wp2_with (first
      | (go_at_call 171;refine (iX _ _ _ _).mono ?_;rintro e w1 ⟨rfl,hxq⟩;obtain ⟨xq,rfl⟩:=hxq.out;clear hxq)
      | fail)
     go_ret
     exact ⟨by rw [e.out];rfl,eX⟩
   ·have i3:=jE c3
    have e:=Lib.hid (hno fun k=>c3 k.2.2.1)
    clear c1 c2 c3 hok hno
    go_enter Tryz.func161,Tryz.ntmps161
    go_wp2_with (first
     | (go_at_call 171;refine (iX _ _ _ _).mono ?_;rintro e w1 ⟨rfl,hxq⟩;obtain ⟨xq,rfl⟩:=hxq.out;clear hxq)
     | fail)
    go_ret
    exact ⟨by rw [e.out];rfl,eX⟩
  ·have i2:=jE c2
   have e:=Lib.hid (hno fun k=>c2 k.2.1)
   clear c1 c2 hok hno
   go_enter Tryz.func161,Tryz.ntmps161
   go_wp2_with (first
    | (go_at_call 171;refine (iX _ _ _ _).mono ?_;rintro e w1 ⟨rfl,hxq⟩;obtain ⟨xq,rfl⟩:=hxq.out;clear hxq)
    | fail)
   go_ret
   exact ⟨by rw [e.out];rfl,eX⟩
 ·have i1:=jE c1
  have e:=Lib.hid (hno fun k=>c1 k.1)
  clear c1 hok hno
  go_enter Tryz.func161,Tryz.ntmps161
  go_wp2_with (first
   | (go_at_call 171;refine (iX _ _ _ _).mono ?_;rintro e w1 ⟨rfl,hxq⟩;obtain ⟨xq,rfl⟩:=hxq.out;clear hxq)
   | fail)
  go_ret
  exact ⟨by rw [e.out];rfl,eX⟩
end Go.Proofs.YtmdahnkcnagkjaaGreat
