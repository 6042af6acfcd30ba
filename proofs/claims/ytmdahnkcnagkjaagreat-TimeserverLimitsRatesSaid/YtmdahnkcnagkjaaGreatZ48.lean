/- Lemmas of this claim, several texts joined. -/
import Derived.Test.YtmdahnkcnagkjaaGreatZ6
import Derived.Test.YtmdahnkcnagkjaaGreatZ41
import Derived.Test.YtmdahnkcnagkjaaGreatZ43
import Derived.Test.YtmdahnkcnagkjaaGreatZ46
import Derived.Test.YtmdahnkcnagkjaaGreatZ47
set_option maxRecDepth 100000
open List renaming setIfInBounds_toArray -> q0q, set_cons_succ -> q1q, set_cons_zero -> q2q, mem_cons -> q3q, not_mem_nil -> q4q, nil_append -> q5q, cons_append -> q6q, mem_append -> q7q, take_succ_cons -> q8q, take_zero -> q9q, drop_succ_cons -> q10q, drop_zero -> q11q, take_nil -> q12q, drop_nil -> q13q, getElem_toArray -> q14q, getElem_cons_succ -> q15q, getElem_cons_zero -> q16q
open Go.IntWalk renaming i64_in -> q17q, rem_in -> q18q, wrap64_in -> q19q
set_option maxHeartbeats 8000000
set_option linter.unusedVariables false
set_option linter.unusedSimpArgs false
/- The walks of layer 26: Answer. -/
namespace Go.Tsrv
def okN (N:List (List UInt8)):Bool:=N.all λ n=>decide (n.length=16)
end Go.Tsrv
namespace Go.Sec
open Go.RowKit
theorem cV {P:Program} {fn:Func} {p u u2:Tmp} {T:TypeId} {n:Nat} (h:fn.results=#[.tmp u, .cell p T, .tmp u2]) (hT:RowT P T n) (tmps:Array Value) (w:World)(g o:Nat) (cs:List Value)(hp:tmps.getD p undef = .pointer (some ⟨g,o,none⟩))
  (hR:Rd w (some ⟨g,o,none⟩) cs) (hn:cs.length=n) (v v2:Value)(hv:tmps.getD u undef=v) (hv2:tmps.getD u2 undef=v2):(results fn tmps).run P w = .ok (.tuple #[v, .agg cs.toArray,v2]) w:=by
 have hp':tmps[p]?.getD undef = .pointer (some ⟨g,o,none⟩):=by simpa using hp
 subst hv hv2
 simp [results,h,hp',asAddr,dQ hT w g o cs hR hn]
end Go.Sec
namespace Go.Proofs.YtmdahnkcnagkjaaGreat
open Go.RowKit Go.Sec Go.Oct Go.Pkt Go.Cook Go.Tsrv BigFrame
theorem zk (a:Option Addr)(n c:Nat) (w:World) :
  Calls Tryz.prog 41 #[.slice a n c] w λ e w'=>e = .returned (.bool (!decide (n=16)))/\Ext w w':=by
 by_cases h:n=16
 ·have i1:((n:Int) != 16)=false:=by rw [aai];omega
  have e:=Lib.hid (show decide (n=16)=true from aaz h)
  clear h
  go_enter Tryz.func41,Tryz.ntmps41
  go_wp2
  go_ret
  exact ⟨by rw [e.out];rfl,eX⟩
 ·have i1:((n:Int) != 16)=true:=by rw [aaw];omega
  have e:=Lib.hid (show decide (n=16)=false from aaF h)
  clear h
  go_enter Tryz.func41,Tryz.ntmps41
  go_wp2
  go_ret
  exact ⟨by rw [e.out];rfl,eX⟩
def C2 (L:List (List UInt8)) (w:World)(e:Ending) (w':World):Prop:=∃ r:Int,e = .returned (.int .i64 r)/\(0<=r ↔ okN L=false)/\Ext w w'
theorem vj (a:Option Addr)(n c:Nat) (L:List (List UInt8)) (w:World)(h:Bsc w a n L) (hn:n<=1000000) :
  Calls Tryz.prog 75 #[.slice a n c, .func (.func 41) #[] #[]] w (C2 L w):=by
 have hl:=h.len
 go_enter Tryz.func75,Tryz.ntmps75
 go_wp2_with fail
 go_loopw [8] (λ v8 wr=>∃ i:Nat,i<=n/\v8 = .int .i64 i/\Hid (okN (L.take i)=true)/\Ext w wr) (λ v8 _=>n-(intOf v8).toNat)
 case atStart=>exact ⟨0,by omega,rfl,Lib.hid rfl,Ext.refl _⟩
 case round =>
  obtain ⟨i,hi,rfl,hm,hx⟩:=hrel
  by_cases hlt:i<n
  ·obtain ⟨b0,o0,a',n',c',rfl,hb0,hcell,hc',hS⟩:=(h.ext hx).at i hlt
   have i0:(0:Int)<=(i:Int):=by omega
   have i1:(i:Int)<(n:Int):=by omega
   have hiL:i<L.length:=by omega
   have hts:=Lib.hid (show L.take (i+1)=L.take i++[L[i]] from aax hiL)
   have hmem:=aaM hiL
   generalize L[i]=X at *
   have hXl:=hS.len
   haveI:=hb0
   go_wp2_with fail
   (with_reducible refine (zk _ _ _ _).mono ?_);rintro e w1 ⟨rfl,hx1⟩
   by_cases hb:n'=16
   ·have hd:decide (n'=16)=true:=aaz hb
    have hm2:=Lib.hid (show okN (L.take (i+1))=true by
     rw [hts.out]
     unfold okN
     rw [List.all_append]
     have:=hm.out
     unfold okN at this
     rw [this]
     simp
     omega)
    rw [hd]
    clear hb hd
    go_wp2_with fail
    go_roundw
    case rel=>exact ⟨i+1,by omega,by go_num,hm2,hx.trans hx1⟩
    case measure=>simp [intOf];omega
   ·have hd:decide (n'=16)=false:=aaF hb
    have hm2:=Lib.hid (show okN L=false by
     unfold okN
     rw [List.all_eq_false]
     exact ⟨X,hmem,by simp;omega⟩)
    rw [hd]
    clear hb hd
    go_wp2_with fail
    go_ret
    exact ⟨i,rfl,by simp [hm2.out],hx.trans hx1⟩
  ·obtain rfl:i=n:=by omega
   have hlo:=Lib.hid (show okN L=true by have:=hm.out;rwa [aaj (by omega)] at this)
   go_wp2_with fail
   go_ret
   exact ⟨-1,rfl,by simp [hlo.out],hx⟩
theorem td (a:Option Addr)(n c:Nat) (L:List (List UInt8)) (w:World)(h:Bsc w a n L) (hn:n<=1000000) :
  Calls Tryz.prog 40 #[.slice a n c, .func (.func 41) #[] #[]] w λ e w'=>e = .returned (.bool (!okN L))/\Ext w w':=by
 go_enter Tryz.func40,Tryz.ntmps40
 go_wp2_with fail
 refine (vj _ _ _ _ _ h hn).mono ?_;rintro e w1 ⟨r,rfl,hr,hx1⟩
 have hd:=Lib.hid (show decide (0<=r) = !okN L by rw [abm,abv,hr];simp)
 clear hr
 go_wp2_with fail
 go_ret
 exact ⟨by rw [<- hd.out];rfl,hx1⟩
def pe (R:(List UInt8 × Int) × Int) (w:World)(e:Ending) (w':World):Prop:=∃ a c,e = .returned (.tuple #[.slice a R.1.1.length c, .agg #[.int .i64 R.1.2], .int .i64 R.2])/\Sl w' a R.1.1.length R.1.1/\R.1.1.length<=c/\Ext w w'
theorem pe.err (w w':World)(e:Int) (hx:Ext w w'):pe (([],0),e) w (.returned (.tuple #[.slice none 0 0, .agg #[.int .i64 0], .int .i64 e])) w':=⟨none,0,rfl,Sl.nil _ _,aag _,hx⟩
theorem Cm:RowT Tryz.prog 28 2:=⟨⟨_,Tryz.underlying28,rfl⟩,by kernel_rfl,⟨_,Tryz.zeroValue28,by kernel_rfl⟩⟩
theorem zh {f:FuncId} {args:Array Value} {L:List UInt8} {w:World} (h:Calls Tryz.prog f args w (Cu L w)) :
  Calls Tryz.prog f args w λ e w'=>∃ v,e = .returned v/\∃ p:Par,v = .slice (p 0).1 L.length (p 0).2/\Ext w w'/\(Sl w' (p 0).1 L.length L/\L.length<=(p 0).2) :=
 h.mono λ _ _ ⟨a,c,he,hS,hc,hx⟩=>⟨_,he,λ _=>(a,c),rfl,hx,hS,hc⟩
theorem BZ {q:List UInt8} (h:fy q=2):(aH q).2=0/\3<=(aH q).1.plain.length/\(aH q).1.plain.length<=10:=by
 unfold fy at h
 split at h
 ·exact absurd h (by decide)
 ·rename_i h1
  split at h
  ·exact absurd h (by decide)
  ·split at h
   ·rename_i h2
    have h0:(aH q).2=0:=by
     by_cases z:(aH q).2=0
     ·exact z
     ·exact absurd (.inl z) h1
    unfold gx at h2
    rw [aaA,abv] at h2
    exact ⟨h0,h2.1.1,h2.1.2⟩
   ·exact absurd h (by decide)
theorem mC (ar an ab:Option Addr)(nr cr cn nb cb:Nat) (s:Srv) (paid now:Int) (r t:UInt64) (N:List (List UInt8)) (q:List UInt8)(w:World)(hI:Ib w ar nr s.ring) (hcr:nr<=cr) (hnr:nr<=1000000)
  (hN:Bsc w an N.length N) (hcn:N.length<=cn) (hnN:N.length<=1000000) (hb:Sl w ab nb q) (hcb:nb<=cb) (hnb:nb<=1000000) :
  Calls Tryz.prog 12 #[.agg #[.slice ar nr cr, .int .i64 s.str, .int .i64 s.ev, .int .i64 s.bu, .bool s.opn], .agg #[.int .i64 paid], .slice ab nb cb, .int .u64 (n64 r), .int .u64 (n64 t), .int .i64 now, .slice an N.length cn] w (pe (sw s paid now q r t N) w):=by
 have hck:=λ W H=>ux ar nr cr s W H hcr hnr
 have hal:=λ W=>ub paid s.ev s.bu now W
 have hnc:=λ W H=>td an N.length cn N W H hnN
 have hkd:=λ W H=>pZ ab nb cb q W H hcb hnb
 have hrd:=λ W H=>lZ ab nb cb q W H hcb hnb
 obtain ⟨R,hR⟩:∃ R,sw s paid now q r t N=R:=⟨_,rfl⟩
 rw [hR]
 unfold sw at hR
 go_enter Tryz.func12,Tryz.ntmps12
 go_wp2_with fail
 refine bN ?_
 intro W hW
 have hE:Ext w W:=by rw [hW];exact eX
 have hB0:Blk W w.heap.size 30 [.slice ar nr cr, .int .i64 s.str, .int .i64 s.ev, .int .i64 s.bu, .bool s.opn]:=by rw [hW];exact bK
 have hB1:Blk W (w.heap.size+1) 32 [.int .i64 paid]:=by rw [hW];exact bK
 have hB2:Blk W (w.heap.size+2) 32 [.int .i64 0]:=by rw [hW];exact Blk.newAt _ _ _ _ (by simp)
 clear hW
 have hI:=hI.ext hE
 have hN:=hN.ext hE
 have hb:=hb.ext hE
 (with_reducible refine (hck W hI).mono ?_);rintro e W2 ⟨rfl,hx⟩
 have hI:=hI.ext hx
 have hN:=hN.ext hx
 have hb:=hb.ext hx
 have hB0:=hB0.extB hx
 have hB1:=hB1.extB hx
 have hB2:=hB2.extB hx
 have hE:=hE.trans hx
 clear hx hck
 by_cases q1:eh s=0
 rotate_left
 ·have i1:(eh s != 0)=true:=by rw [aaw];exact q1
  rw [aam q1] at hR
  replace hR:=Lib.hid hR
  clear q1 hal hnc hkd hrd
  generalize eh s=ce at *
  go_wp2_with (first
   | (refine aa RB1 rfl _ _ rfl (w.heap.size+2) 0 rfl _ rfl 32 _ hB2 rfl (by simp) oC ?_;intro V hV hMV)
   | fail)
  refine aac (cV Tryz.results12 RB1 _ _ (w.heap.size+2) 0 [.int .i64 0] rfl hV.rd rfl _ _ rfl rfl) rfl ?_
  rw [<- hR.out]
  exact pe.err _ _ _ (Below.trans hE (hMV.below (by omega) hE.size))
 have i1:(eh s != 0)=false:=by rw [aai];exact q1
 rw [aaf (by rw [q1];simp)] at hR
 have hstr:0<=s.str/\s.str<=255:=by
  unfold eh at q1
  split at q1
  ·cases q1
  ·split at q1
   ·cases q1
   ·rename_i h
    omega
 generalize eC paid s.ev s.bu now=A at *
 have hrdRu:=Rd.sub hB0.rd 2 [.int .i64 s.ev, .int .i64 s.bu] rfl
 have hR0:=hB1.rd
 go_wp2_with (first
  | (refine af RB1 rfl _ rfl (w.heap.size+1) 0 rfl _ hR0 rfl ?_)
  | (refine af Cm rfl _ rfl w.heap.size 2 rfl _ hrdRu rfl ?_)
  | fail)
 clear i1 q1 hrdRu hR0
 (with_reducible refine (hal _).mono ?_);rintro e W3 ⟨rfl,hx⟩
 have hI:=hI.ext hx
 have hN:=hN.ext hx
 have hb:=hb.ext hx
 have hB0:=hB0.extB hx
 have hB1:=hB1.extB hx
 have hB2:=hB2.extB hx
 have hE:=hE.trans hx
 clear hx hal
 by_cases q2:A.2=0
 rotate_left
 ·have i2:(A.2 != 0)=true:=by rw [aaw];exact q2
  rw [aam q2] at hR
  replace hR:=Lib.hid hR
  clear q2 hnc hkd hrd
  go_wp2_with (first
   | ((refine ai RB1 rfl rfl _ _ rfl rfl rfl rfl (by simp [Act.put]) _ rfl (by simp) rfl oC ?_;intro x hz _);have hB2:=hB2.ext x)
   | (refine aa RB1 rfl _ _ rfl (w.heap.size+2) 0 rfl _ rfl 32 _ hB2 rfl (by simp) oC ?_;intro V hV hMV)
   | fail)
  refine aac (cV Tryz.results12 RB1 _ _ (w.heap.size+2) 0 [.int .i64 0] rfl hV.rd rfl _ _ rfl rfl) rfl ?_
  rw [<- hR.out]
  exact pe.err _ _ _ (Below.trans (hE.ext x) (hMV.below (by omega) (hE.ext x).size))
 have i2:(A.2 != 0)=false:=by rw [aai];exact q2
 have hltB:=hB2.lt
 rw [aaf (by rw [q2];simp)] at hR
 clear q2
 go_wp2_with (first
  | (refine ai RB1 rfl rfl _ _ rfl rfl rfl rfl (by simp [Act.put]) _ rfl (by simp) rfl oC ?_;intro x hz _)
  | fail)
 clear i2
 have hx:Ext W3 (W3.ext x):=Ext.of_ext _ _
 have hI:=hI.ext hx
 have hN:=hN.ext hx
 have hb:=hb.ext hx
 have hB0:=hB0.extB hx
 have hB1:=hB1.extB hx
 have hB2:=hB2.extB hx
 have hE:=hE.trans hx
 clear hx
 obtain ⟨gp,hgp⟩:∃ g,g=W3.heap.size:=⟨_,rfl⟩
 rw [<- hgp] at hz ⊢
 have hlt3:w.heap.size+2<gp:=by omega
 clear hgp
 generalize W3.ext x=W4 at *
 (with_reducible refine (hnc _ hN).mono ?_);rintro e W5 ⟨rfl,hx⟩
 have hI:=hI.ext hx
 have hN:=hN.ext hx
 have hb:=hb.ext hx
 have hB0:=hB0.extB hx
 have hB1:=hB1.extB hx
 have hB2:=hB2.extB hx
 have hz:=hz.extB hx
 have hE:=hE.trans hx
 clear hx hnc
 cases q3:okN N
 ·have q3':(N.all λ n=>decide (n.length=16))=false:=q3
  rw [aam q3'] at hR
  replace hR:=Lib.hid hR
  clear q3 q3' hkd hrd
  go_wp2_with (first
   | (refine aa RB1 rfl _ _ rfl (w.heap.size+2) 0 rfl _ rfl 32 _ hB2 rfl (by simp) oC ?_;intro V hV hMV)
   | fail)
  refine aac (cV Tryz.results12 RB1 _ _ (w.heap.size+2) 0 [.int .i64 0] rfl hV.rd rfl _ _ rfl rfl) rfl ?_
  rw [<- hR.out]
  exact pe.err _ _ _ (Below.trans hE (hMV.below (by omega) hE.size))
 have q3':¬ (N.all λ n=>decide (n.length=16))=false:=by rw [show (N.all λ n=>decide (n.length=16))=true from q3];simp
 rw [aaf q3'] at hR
 by_cases q4:N.length<9
 ·have i4:(N.length:Int)<9:=by omega
  rw [aam q4] at hR
  replace hR:=Lib.hid hR
  clear q3 q3' q4 hkd hrd
  go_wp2_with (first
   | (refine aa RB1 rfl _ _ rfl (w.heap.size+2) 0 rfl _ rfl 32 _ hB2 rfl (by simp) oC ?_;intro V hV hMV)
   | fail)
  refine aac (cV Tryz.results12 RB1 _ _ (w.heap.size+2) 0 [.int .i64 0] rfl hV.rd rfl _ _ rfl rfl) rfl ?_
  rw [<- hR.out]
  exact pe.err _ _ _ (Below.trans hE (hMV.below (by omega) hE.size))
 have i4:¬ (N.length:Int)<9:=by omega
 rw [aaf q4] at hR
 have hN16:∀ x∈N,x.length=16:=λ x hx=>by
  have:=aaC.1 (show (N.all λ n=>decide (n.length=16))=true from q3) x hx
  simpa using this
 clear q3 q3'
 have hR5:=hB0.rd
 go_wp2_with (first
  | (refine af yH rfl _ rfl w.heap.size 0 rfl _ hR5 rfl ?_)
  | (refine ai l9 rfl rfl _ _ rfl rfl rfl rfl (by simp [Act.put]) _ rfl (by simp) rfl oC ?_;intro x5 hGa _)
  | fail)
 clear hR5 i4
 have hx:Ext W5 (W5.ext x5):=Ext.of_ext _ _
 have hb6:=hb.ext hx
 obtain ⟨ga,hga⟩:∃ g,g=W5.heap.size:=⟨_,rfl⟩
 rw [<- hga] at hGa ⊢
 have hgz:gp<ga:=by rw [hga];exact hz.lt
 replace hga:=Nat.le_of_eq hga.symm
 have hx6:=hx
 generalize W5.ext x5=W6 at *
 clear hx
 (with_reducible refine (hrd _ hb6).mono ?_);rintro e W7 ⟨p1,m1,rfl,⟨BP,hOP⟩,hx7⟩
 have hGa:=hGa.extB hx7
 have hx7:=hx6.trans hx7
 have hm1:=hOP.ib.2
 have hOP:=hOP.ib.1
 have hk2:=λ h=>BZ (q:=q) h
 have hfs:=λ h f hf=>(jK (b:=q) h (f:=f) hf).2
 have hkc:=tN q
 clear hb6 hx6 hrd
 unfold wC at hR
 generalize aH q=P at *
 go_wp2_with (first
  | (refine aa aY rfl _ _ rfl ga 5 rfl _ rfl 97 _ hGa rfl (by simp) oC ?_;intro V hV hMV)
  | fail)
 have hV:Blk V ga 97 [.slice ar nr cr, .int .i64 s.str, .int .i64 s.ev, .int .i64 s.bu, .bool s.opn, .int .i64 P.1.h.leap, .int .i64 P.1.h.ver, .int .i64 P.1.h.mode, .int .i64 P.1.h.strat, .int .i64 P.1.h.poll, .int .i64 P.1.h.prec, .int .u32 (n32 P.1.h.rd), .int .u32 (n32 P.1.h.rp), .int .u32 (n32 P.1.h.id), .int .u64 (n64 P.1.h.ref), .int .u64 (n64 P.1.h.org), .int .u64 (n64 P.1.h.rcv), .int .u64 (n64 P.1.h.tx), .slice p1 P.1.plain.length m1, .slice none 0 0, .bool false, .int .u64 (n64 r), .int .u64 (n64 t), .slice an N.length cn, .bool A.1.2]:=hV
 have hEV:Ext W5 V:=Below.trans hx7 (hMV.below hga hx7.size)
 have hP:=hOP.mutq hGa (by simp) rfl hMV
 have hI:=hI.ext hEV
 have hN:=hN.ext hEV
 have hb:=hb.ext hEV
 have hB0:=hB0.extB hEV
 have hB1:=hB1.extB hEV
 have hB2:=hB2.extB hEV
 have hz:=hz.extB hEV
 have hE:=hE.trans hEV
 clear hMV hEV hOP hGa hx7 hga
 (with_reducible refine (hkd _ hb).mono ?_);rintro e W8 ⟨rfl,hx⟩
 have hI:=hI.ext hx
 have hN:=hN.ext hx
 have hb:=hb.ext hx
 have hP:=hP.ext hx
 have hB0:=hB0.extB hx
 have hB1:=hB1.extB hx
 have hB2:=hB2.extB hx
 have hz:=hz.extB hx
 have hV:=hV.extB hx
 have hE:=hE.trans hx
 clear hx hkd
 generalize fy q=K at *
 have hrz:=hz.rd
 have hr1:=hB1.rd
 have hrV:=hV.rd
 haveI:=hB0.blt
 haveI:=hB1.blt
 haveI:=hB2.blt
 haveI:=hz.blt
 haveI:=hV.blt
 have v4:=hB0.cell? 4 rfl
 have hl2:=hB2.lt
 rcases hkc with rfl|rfl|rfl
 ·rw [aaf (by decide),aaf (by decide)] at hR
  clear hk2 hfs hstr hI hN hb hP hV hrV hN16
  replace hR:=Lib.hid hR
  go_wp2_with fail
  refine R2.aJ 2 [[],[],[0,1],[0,1,2]] [] (by intro c a d v w h;cases d <;> exact h) (by kernel_rfl) (by kernel_rfl) (by kernel_rfl) (by kernel_rfl) (by kernel_rfl) ?_;simp only [q8q,q9q,q10q,q11q,q12q,q13q]
  (refine R2.aw RB1 _ rfl (λ _=>rfl) (w.heap.size+1) 0 (λ _=>by simp [go_sem]) _ hr1 rfl ?_)
  (repeat (apply R2.aE;(case h=>(intro us w' hx hf;obtain ⟨x,rfl⟩:=hx.out;refine ⟨rfl,?_⟩;simp [go_sem,execOp, *];(try simp (disch:=omega) only [q17q,q18q,q19q]);rfl));(try simp only [Act.put,q0q,q1q,q2q])))
  (refine R2.bj ?_;intro us w' hx hf hd;obtain ⟨x,rfl⟩:=hx.out;(try simp only [Act.put,q0q,q1q,q2q,ag]);(try simp only [q3q,q4q,aao,aaa,aal,q5q,q6q,q7q,aap,aaq,aar] at hf);(try simp only [Nat.reduceAdd,aad] at hf ⊢))
  have hx:Ext W8 (W8.ext x):=hx
  have hB2:=hB2.extB hx
  have hE:=hE.trans hx
  go_wp2_with (first
   | (refine aa RB1 rfl _ _ rfl (w.heap.size+2) 0 rfl _ rfl 32 _ hB2 rfl (by simp) oC ?_;intro U hU hMU)
   | fail)
  refine aac (cV Tryz.results12 RB1 _ _ (w.heap.size+2) 0 [.int .i64 paid] rfl hU.rd rfl _ _ rfl rfl) rfl ?_
  rw [<- hR.out]
  exact ⟨none,0,rfl,Sl.nil _ _,aag _,Below.trans hE (hMU.below (by omega) hE.size)⟩
 ·rw [aam rfl] at hR
  by_cases q5:s.opn=true
  ·rw [aam q5] at hR
   clear hk2 hfs hI hN hb hP hN16
   have hpl:=λ W=>tB ar p1 an nr cr m1 cn s P.1 r t N A.1.2 W hstr.1 hstr.2
   generalize en ⟨bC s P.1.h r t A.1.2,[],[],false⟩=L at *
   generalize L.1=L at *
   replace hR:=Lib.hid hR
   clear hstr
   go_wp2_with fail
   refine R2.aJ 4 [[],[0],[],[0,1],[0,1,2,3],[0,1,2,3,4]] [] (by intro c a d v w h;cases d <;> exact h) (by kernel_rfl) (by kernel_rfl) (by kernel_rfl) (by kernel_rfl) (by kernel_rfl) ?_;simp only [q8q,q9q,q10q,q11q,q12q,q13q]
   (refine R2.aw l9 _ rfl (λ _=>rfl) ga 0 (λ _=>by simp [go_sem]) _ hrV rfl ?_)
   (refine R2.aj (λ p => .slice (p 0).1 L.length (p 0).2) (λ p w''=>Sl w'' (p 0).1 L.length L/\L.length<=(p 0).2) (λ p w w' h hx=>⟨h.1.ext hx,h.2⟩) (λ us w' hx hf=>⟨rfl,?_⟩) ?_;(unfold gives;simp [go_sem,execOp];exact zh (hpl _)))
   (refine R2.aw RB1 _ rfl (λ _=>rfl) gp 0 (λ _=>by simp [go_sem]) _ hrz rfl ?_)
   (repeat (apply R2.aE;(case h=>(intro us w' hx hf;obtain ⟨x,rfl⟩:=hx.out;refine ⟨rfl,?_⟩;simp [go_sem,execOp, *];(try simp (disch:=omega) only [q17q,q18q,q19q]);rfl));(try simp only [Act.put,q0q,q1q,q2q])))
   (refine R2.bj ?_;intro us w' hx hf hd;obtain ⟨x,rfl⟩:=hx.out;(try simp only [Act.put,q0q,q1q,q2q,ag]);(try simp only [q3q,q4q,aao,aaa,aal,q5q,q6q,q7q,aap,aaq,aar] at hf);(try simp only [Nat.reduceAdd,aad] at hf ⊢))
   obtain ⟨hS,hc⟩:=hf
   have hx:Ext W8 (W8.ext x):=hx
   have hB2:=hB2.extB hx
   have hE:=hE.trans hx
   go_wp2_with (first
    | (refine aa RB1 rfl _ _ rfl (w.heap.size+2) 0 rfl _ rfl 32 _ hB2 rfl (by simp) oC ?_;intro U hU hMU)
    | fail)
   refine aac (cV Tryz.results12 RB1 _ _ (w.heap.size+2) 0 [.int .i64 A.1.1] rfl hU.rd rfl _ _ rfl rfl) rfl ?_
   rw [<- hR.out]
   exact ⟨_,_,rfl,hS.mut hB2 (by simp) hMU,hc,Below.trans hE (hMU.below (by omega) hE.size)⟩
  ·rw [aaf q5] at hR
   replace q5:=eq_false_of_ne_true q5
   clear hk2 hfs hstr hI hN hb hP hV hrV hN16
   replace hR:=Lib.hid hR
   go_wp2_with fail
   refine R2.aJ 2 [[],[],[0,1],[0,1,2]] [] (by intro c a d v w h;cases d <;> exact h) (by kernel_rfl) (by kernel_rfl) (by kernel_rfl) (by kernel_rfl) (by kernel_rfl) ?_;simp only [q8q,q9q,q10q,q11q,q12q,q13q]
   (refine R2.aw RB1 _ rfl (λ _=>rfl) (w.heap.size+1) 0 (λ _=>by simp [go_sem]) _ hr1 rfl ?_)
   (repeat (apply R2.aE;(case h=>(intro us w' hx hf;obtain ⟨x,rfl⟩:=hx.out;refine ⟨rfl,?_⟩;simp [go_sem,execOp, *];(try simp (disch:=omega) only [q17q,q18q,q19q]);rfl));(try simp only [Act.put,q0q,q1q,q2q])))
   (refine R2.bj ?_;intro us w' hx hf hd;obtain ⟨x,rfl⟩:=hx.out;(try simp only [Act.put,q0q,q1q,q2q,ag]);(try simp only [q3q,q4q,aao,aaa,aal,q5q,q6q,q7q,aap,aaq,aar] at hf);(try simp only [Nat.reduceAdd,aad] at hf ⊢))
   have hx:Ext W8 (W8.ext x):=hx
   have hB2:=hB2.extB hx
   have hE:=hE.trans hx
   go_wp2_with (first
    | (refine aa RB1 rfl _ _ rfl (w.heap.size+2) 0 rfl _ rfl 32 _ hB2 rfl (by simp) oC ?_;intro U hU hMU)
    | fail)
   refine aac (cV Tryz.results12 RB1 _ _ (w.heap.size+2) 0 [.int .i64 paid] rfl hU.rd rfl _ _ rfl rfl) rfl ?_
   rw [<- hR.out]
   exact ⟨none,0,rfl,Sl.nil _ _,aag _,Below.trans hE (hMU.below (by omega) hE.size)⟩
 ·rw [aaf (by decide),aam rfl] at hR
  obtain ⟨h0,h3,h10⟩:=hk2 rfl
  have hsf:=λ W H1 H2 H3 H4=>vq ar p1 an nr cr m1 cn s P.1 r t N A.1.2 ab nb cb q W hstr.1 hstr.2 H1 hcr hnr H2 hm1 h3 h10 (λ f hf=>aau (hfs h0 f hf) (by omega)) H3 (by omega) (λ x hx=>by rw [hN16 x hx];omega) H4 hcb hnb
  generalize ka s P.1 q r t A.1.2 N=S at *
  clear hk2 hfs hstr h0 h3 h10 hN16
  replace hR:=Lib.hid hR
  go_wp2_with (first
   | (refine af l9 rfl _ rfl ga 0 rfl _ hrV rfl ?_)
   | fail)
  (with_reducible refine (hsf _ hI hP hN hb).mono ?_);rintro e W9 ⟨a5,c5,rfl,hS,hc5,hx⟩
  clear hsf hI hP hN hb hrV hV hrz hr1
  have hB1:=hB1.extB hx
  have hB2:=hB2.extB hx
  have hz:=hz.extB hx
  have hE:=hE.trans hx
  have hrz:=hz.rd
  have hr1:=hB1.rd
  clear hx
  by_cases q6:S.2=true
  ·replace hR:=hR.out
   rw [aam q6] at hR
   replace hR:=Lib.hid hR
   go_wp2_with (first
    | (refine af RB1 rfl _ rfl gp 0 rfl _ hrz rfl ?_)
    | ((refine aa RB1 rfl _ _ rfl (w.heap.size+1) 0 rfl _ rfl 32 _ hB1 rfl (by simp) oC ?_;intro U hU hMU);have hB2U:=Blk.turn hMU hB2 (by omega);have hrU:=hU.rd;haveI:=Blk.blt hU)
    | fail)
   have hEU:Ext w U:=Below.trans hE (hMU.below (by omega) hE.size)
   have hS:=hS.mut hB1 (by simp) hMU
   clear hMU hB1 hz hrz hr1
   refine R2.aJ 3 [[],[],[0],[0,1,2],[0,1,2,3]] [] (by intro c a d v w h;cases d <;> exact h) (by kernel_rfl) (by kernel_rfl) (by kernel_rfl) (by kernel_rfl) (by kernel_rfl) ?_;simp only [q8q,q9q,q10q,q11q,q12q,q13q]
   (repeat (apply R2.aE;(case h=>(intro us w' hx hf;obtain ⟨x,rfl⟩:=hx.out;refine ⟨rfl,?_⟩;simp [go_sem,execOp, *];(try simp (disch:=omega) only [q17q,q18q,q19q]);rfl));(try simp only [Act.put,q0q,q1q,q2q])))
   (refine R2.aw RB1 _ rfl (λ _=>rfl) (w.heap.size+1) 0 (λ _=>by simp [go_sem]) _ hrU rfl ?_)
   (repeat (apply R2.aE;(case h=>(intro us w' hx hf;obtain ⟨x,rfl⟩:=hx.out;refine ⟨rfl,?_⟩;simp [go_sem,execOp, *];(try simp (disch:=omega) only [q17q,q18q,q19q]);rfl));(try simp only [Act.put,q0q,q1q,q2q])))
   (refine R2.bj ?_;intro us w' hx hf hd;obtain ⟨x,rfl⟩:=hx.out;(try simp only [Act.put,q0q,q1q,q2q,ag]);(try simp only [q3q,q4q,aao,aaa,aal,q5q,q6q,q7q,aap,aaq,aar] at hf);(try simp only [Nat.reduceAdd,aad] at hf ⊢))
   have hx:Ext U (U.ext x):=hx
   have hB2U:=hB2U.extB hx
   have hEU:=hEU.trans hx
   have hS:=hS.ext hx
   go_wp2_with (first
    | (refine aa RB1 rfl _ _ rfl (w.heap.size+2) 0 rfl _ rfl 32 _ hB2U rfl (by simp) oC ?_;intro Z hZ hMZ)
    | fail)
   refine aac (cV Tryz.results12 RB1 _ _ (w.heap.size+2) 0 [.int .i64 A.1.1] rfl hZ.rd rfl _ _ rfl rfl) rfl ?_
   rw [<- hR.out]
   exact ⟨_,_,rfl,hS.mut hB2U (by simp) hMZ,hc5,Below.trans hEU (hMZ.below (by omega) hEU.size)⟩
  ·replace hR:=hR.out
   rw [aaf q6] at hR
   replace hR:=Lib.hid hR
   replace q6:=eq_false_of_ne_true q6
   go_wp2_with fail
   refine R2.aJ 3 [[],[],[0],[0,1,2],[0,1,2,3]] [] (by intro c a d v w h;cases d <;> exact h) (by kernel_rfl) (by kernel_rfl) (by kernel_rfl) (by kernel_rfl) (by kernel_rfl) ?_;simp only [q8q,q9q,q10q,q11q,q12q,q13q]
   (repeat (apply R2.aE;(case h=>(intro us w' hx hf;obtain ⟨x,rfl⟩:=hx.out;refine ⟨rfl,?_⟩;simp [go_sem,execOp, *];(try simp (disch:=omega) only [q17q,q18q,q19q]);rfl));(try simp only [Act.put,q0q,q1q,q2q])))
   (refine R2.aw RB1 _ rfl (λ _=>rfl) (w.heap.size+1) 0 (λ _=>by simp [go_sem]) _ hr1 rfl ?_)
   (repeat (apply R2.aE;(case h=>(intro us w' hx hf;obtain ⟨x,rfl⟩:=hx.out;refine ⟨rfl,?_⟩;simp [go_sem,execOp, *];(try simp (disch:=omega) only [q17q,q18q,q19q]);rfl));(try simp only [Act.put,q0q,q1q,q2q])))
   (refine R2.bj ?_;intro us w' hx hf hd;obtain ⟨x,rfl⟩:=hx.out;(try simp only [Act.put,q0q,q1q,q2q,ag]);(try simp only [q3q,q4q,aao,aaa,aal,q5q,q6q,q7q,aap,aaq,aar] at hf);(try simp only [Nat.reduceAdd,aad] at hf ⊢))
   have hx:Ext W9 (W9.ext x):=hx
   have hB2:=hB2.extB hx
   have hE:=hE.trans hx
   have hS:=hS.ext hx
   go_wp2_with (first
    | (refine aa RB1 rfl _ _ rfl (w.heap.size+2) 0 rfl _ rfl 32 _ hB2 rfl (by simp) oC ?_;intro U hU hMU)
    | fail)
   refine aac (cV Tryz.results12 RB1 _ _ (w.heap.size+2) 0 [.int .i64 paid] rfl hU.rd rfl _ _ rfl rfl) rfl ?_
   rw [<- hR.out]
   exact ⟨_,_,rfl,hS.mut hB2 (by simp) hMU,hc5,Below.trans hE (hMU.below (by omega) hE.size)⟩
end Go.Proofs.YtmdahnkcnagkjaaGreat

/- Layer 26: the sanity check. -/
namespace Go.Proofs.YtmdahnkcnagkjaaGreat
open Go.RowKit Go.Sec Go.Oct Go.Jar Go.Case Go.Cook Go.Pkt Go.Tsrv BigFrame
def Ca (J:Jar) (P:Pkt) (p:Par):Value := .tuple #[.agg #[.slice (p 0).1 J.up.length (p 0).2, .slice (p 1).1 J.dn.length (p 1).2, .slice (p 2).1 J.ck.length (p 2).2, .slice (p 3).1 J.last.length (p 3).2, .int .i64 J.net, .int .i64 J.sent], .agg #[.int .i64 P.h.leap, .int .i64 P.h.ver, .int .i64 P.h.mode, .int .i64 P.h.strat, .int .i64 P.h.poll, .int .i64 P.h.prec, .int .u32 (n32 P.h.rd), .int .u32 (n32 P.h.rp), .int .u32 (n32 P.h.id), .int .u64 (n64 P.h.ref), .int .u64 (n64 P.h.org), .int .u64 (n64 P.h.rcv), .int .u64 (n64 P.h.tx), .slice (p 4).1 P.plain.length (p 4).2, .slice (p 5).1 P.secret.length (p 5).2, .bool P.guarded], .int .i64 0]
def rz (J:Jar) (P:Pkt) (p:Par) (w:World):Prop:=Sl w (p 0).1 J.up.length J.up/\J.up.length<=(p 0).2/\Sl w (p 1).1 J.dn.length J.dn/\J.dn.length<=(p 1).2/\Bsc w (p 2).1 J.ck.length J.ck/\J.ck.length<=(p 2).2/\fF w (p 2).1/\Sl w (p 3).1 J.last.length J.last/\J.last.length<=(p 3).2
theorem rz.ext {J:Jar} {P:Pkt} {p:Par} {w w':World} (h:rz J P p w) (hx:Ext w w'):rz J P p w':=by
 obtain ⟨h1,h2,h3,h4,h5,h6,h7,h8,h9⟩:=h
 exact ⟨h1.ext hx,h2,h3.ext hx,h4,h5.ext hx,h6,h7.ext hx,h8.ext hx,h9⟩
theorem zN {J:Jar} {P:Pkt} {w:World} {f:FuncId} {args:Array Value} (h:Calls Tryz.prog f args w (oL ((J,P),0) w)) :
  Calls Tryz.prog f args w λ e w''=>∃ v,e = .returned v/\∃ p:Par,v=Ca J P p/\Ext w w''/\rz J P p w'':=by
 refine h.mono ?_
 rintro e w' ⟨b1,n1,d1,b2,n2,d2,b3,n3,d3,b4,n4,d4,p1,m1,k1,p2,m2,k2,rfl,h1,h2,h3,h4,h5,h6,ht,h7,h8,h9,h10,h11,h12,hx⟩
 have l1:=h1.len
 have l2:=h3.len
 have l3:=h5.len
 have l4:=h7.len
 have l5:=h9.len
 have l6:=h11.len
 subst l1 l2 l3 l4 l5 l6
 exact ⟨_,rfl,λ i=>match i with|0=>(b1,d1)|1=>(b2,d2)|2=>(b3,d3)|3=>(b4,d4)|4=>(p1,k1)|_=>(p2,k2),rfl,hx,h1,h2,h3,h4,h5,h6,ht,h7,h8⟩
theorem sy (w:World):Calls Tryz.prog 14 #[] w λ e w'=>e = .returned (.bool true)/\Ext w w':=by
 obtain ⟨R1,hR1⟩:∃ R,mO ((1:Nat):Int) 0=R:=⟨_,rfl⟩
 have hrg:=λ W=>pY 1 0 (show (1:Int)=((1:Nat):Int) from rfl) (show (0:Int)=((0:Nat):Int) from rfl) W (by omega) (by omega)
 obtain ⟨hRv,hR4,hR0⟩:=rA 1 (t:=0) (by omega)
 rw [hR1] at hrg hRv hR4 hR0
 clear hR1
 obtain ⟨c,rest,hck⟩:=wW (R:=R1) (v:=((5:Nat):Int)) (k:=2) (net:=0) (by omega)
 have hqs:=λ ar nr cr W H1 H2=>qH ar nr cr R1 5 2 c rest (show (5:Int)=((5:Nat):Int) from rfl) (show (2:Int)=((2:Nat):Int) from rfl) W H1 H2 hRv (by omega) (by omega) (by omega) hck
 have hns:=λ W=>lF 3 16 9 (show (3:Int)=((3:Nat):Int) from rfl) (show (16:Int)=((16:Nat):Int) from rfl) (show (9:Int)=((9:Nat):Int) from rfl) W (by omega) (by omega) (by omega)
 have hN:=xn ((3:Nat):Int) 9
 have hNl:=jA ((3:Nat):Int) 16 9
 have hr6:=λ W=>gi 6 32 (show (32:Int)=((32:Nat):Int) from rfl) W (by omega)
 have e6:rnd 6 32=rnd (((5:Nat):Int)+1) 32:=by rfl
 rw [e6] at hr6
 generalize lC ((3:Nat):Int) 16 9=N at *
 obtain ⟨b,hb1,hb2,hb3,hb4,hb5,hb6⟩:=Bd (i:=0) (v:=5) (ev:=1) (bu:=64) (paid:=0) (now:=9) (p2:=10) (al:=true) (o:=false) hRv hRv (Ct hR0) (by omega) hck (by decide) (by decide) 70 80 hN (by omega)
 have hlen:(mw 5 c rest.length).length=b.length:=by rw [hb5,hb2,hb4,aam rfl]
 have hJv:=(ox hRv (v:=5) (k:=2) (by omega) hck).1
 obtain ⟨J,hJ⟩:∃ J,um 5 c rest=J:=⟨_,rfl⟩
 obtain ⟨q,hq⟩:∃ q,mw 5 c rest.length=q:=⟨_,rfl⟩
 rw [hJ] at hqs hb3 hJv
 rw [hq] at hqs hb1 hb5 hb6 hlen
 generalize rnd (((5:Nat):Int)+1) 32=u6 at *
 have hql:q.length<=1000000:=by rw [hb5];omega
 have hkd:=λ a c W H1 H2=>pZ a q.length c q W H1 H2 hql
 rw [hb6] at hkd
 have hans:∀ (ar an ab:Option Addr)(nr cr cn cb:Nat) (W:World),Ib W ar nr R1->nr<=cr->Bsc W an 9 N->9<=cn->Sl W ab q.length q->q.length<=cb->Calls Tryz.prog 12 #[.agg #[.slice ar nr cr, .int .i64 2, .int .i64 1, .int .i64 64, .bool false], .agg #[.int .i64 0], .slice ab q.length cb, .int .u64 70, .int .u64 80, .int .i64 9, .slice an 9 cn] W (pe ((b,10),0) W):=λ ar an ab nr cr cn cb W H1 H2 H3 H4 H5 H6=>by
  have hl:=H1.len
  have:=mC ar an ab nr cr cn q.length cb (kz R1 1 64 false) 0 9 70 80 N q W H1 H2 (by omega) (by rw [hNl];exact H3) (by omega) (by omega) H5 H6 hql
  rw [hb1,hNl] at this
  exact this
 have hbl:b.length<=1000000:=by omega
 replace hlen:=Lib.hid hlen
 have haj:=λ a1 a2 a3 a4 au ab n1 c1 n2 c2 n3 c3 n4 c4 cu cb W H1 m1 H2 m2 H3 H4 m3 H5 H6 H7 m4 H8 H9 Ha=>ra a1 a2 a3 a4 au ab n1 c1 n2 c2 n3 c3 n4 c4 32 cu b.length cb J u6 b W H1 m1 H2 m2 H3 H4 m3 H5 H6 H7 m4 H8 H9 Ha hbl
 rw [hb3] at haj
 generalize dK J ((jD (kz R1 1 64 false) ⟨15,upC ((5:Nat):Int),dnC ((5:Nat):Int),((0:Nat):Int),0⟩ N (7-rest.length) true).map (·.2))=J2 at *
 obtain ⟨P2,hP2⟩:∃ P:Pkt,P=⟨uG (kz R1 1 64 false) (tQ 5) 70 80 true,[(260,u6)],jD (kz R1 1 64 false) ⟨15,upC ((5:Nat):Int),dnC ((5:Nat):Int),((0:Nat):Int),0⟩ N (7-rest.length) true,true⟩:=⟨_,rfl⟩
 rw [<- hP2] at haj hb3
 have hrcv:P2.h.rcv=70:=by rw [hP2];rfl
 have hrc:(Value.int .u64 (n64 P2.h.rcv)) = .int .u64 70:=by rw [hrcv];rfl
 have hJf:=hJv
 unfold bH at hJf
 rw [aaA,aaA] at hJf
 obtain ⟨g1,g2,_⟩:=hJf
 have g1:iZ J:=aa0 g1
 have g2:∀ x∈J.ck,x.length<=1000000:=λ x hx=>by
  exact z41q91
 clear hb1 hb2 hb3 hb4 hb5 hb6 hN hP2 hrcv hJv hJ hq hck e6 hRv
 go_enter Tryz.func14,Tryz.ntmps14
 go_wp2_with fail
 (with_reducible refine (hrg _).mono ?_);rintro e w1 ⟨ar,nr,cr,rfl,hI,hcr,hE⟩
 go_wp2_with (first
  | ((refine ai RR1 rfl rfl _ _ rfl rfl rfl rfl (by simp [Act.put]) _ rfl (by simp) rfl oC ?_;intro x1 hA _);have hAr:=Blk.rd hA)
  | (refine af RR1 rfl _ rfl w1.heap.size 0 rfl _ hAr rfl ?_)
  | fail)
 have hx1:Ext w1 (w1.ext x1):=Ext.of_ext _ _
 have hI:=hI.ext hx1
 have hE:=hE.trans hx1
 obtain ⟨gA,hgA⟩:∃ g,g=w1.heap.size:=⟨_,rfl⟩
 rw [<- hgA] at hA ⊢
 clear hAr hx1 hgA
 generalize w1.ext x1=W1 at *
 (with_reducible refine (hqs _ _ _ _ hI hcr).mono ?_)
 rintro e w2 ⟨b1,n1,d1,b2,n2,d2,b3,n3,d3,b4,n4,d4,b5,d5,rfl,s1,k1,s2,k2,s3,k3,st,s4,k4,s5,k5,hx2⟩
 have hI:=hI.ext hx2
 have hA:=hA.extB hx2
 have hE:=hE.trans hx2
 clear hx2 hqs hrg
 go_wp2_with (first
  | ((refine ai RJ6 rfl rfl _ _ rfl rfl rfl rfl (by simp [Act.put]) _ rfl (by simp) rfl oC ?_;intro x2 hJb _);have hA2:=Blk.ext hA x2;have hA2r:=Blk.rd hA2)
  | (refine af RR1 rfl _ rfl gA 0 rfl _ hA2r rfl ?_)
  | fail)
 have hx2:Ext w2 (w2.ext x2):=Ext.of_ext _ _
 have hI:=hI.ext hx2
 have hE:=hE.trans hx2
 have s1:=s1.ext hx2
 have s2:=s2.ext hx2
 have s3:=s3.ext hx2
 have s4:=s4.ext hx2
 have s5:=s5.ext hx2
 obtain ⟨gJ,hgJ⟩:∃ g,g=w2.heap.size:=⟨_,rfl⟩
 rw [<- hgJ] at hJb ⊢
 clear hA hA2 hA2r hgJ hx2 st
 generalize w2.ext x2=W2 at *
 (with_reducible refine (mD ar nr cr false _).mono ?_);rintro e w3 ⟨rfl,hx3⟩
 go_wp2_with fail
 (with_reducible refine (hns _).mono ?_);rintro e w4 ⟨an,cn,rfl,hNn,hcn,htn,hx4⟩
 have hx:=hx3.trans hx4
 have hI:=hI.ext hx
 have hE:=hE.trans hx
 have s1:=s1.ext hx
 have s2:=s2.ext hx
 have s3:=s3.ext hx
 have s4:=s4.ext hx
 have s5:=s5.ext hx
 have hJb:=hJb.extB hx
 clear hx hx3 hx4 hns htn
 go_wp2_with fail
 (with_reducible refine (hans ar an b5 nr cr cn d5 _ hI hcr hNn hcn s5 k5).mono ?_);rintro e w5 ⟨a5,c5,rfl,hS5,hc5,hx5⟩
 have hE:=hE.trans hx5
 have s1:=s1.ext hx5
 have s2:=s2.ext hx5
 have s3:=s3.ext hx5
 have s4:=s4.ext hx5
 have s5:=s5.ext hx5
 have hJb:=hJb.extB hx5
 clear hx5 hans hI hNn
 go_wp2_with (first
  | (refine aa RB1 rfl _ _ rfl w5.heap.size 0 rfl _ rfl 32 _ ((Blk.new w5 #[.int .i64 0] 32)) rfl (by simp) oC ?_;intro W5 hbk hM5)
  | fail)
 have hx5:Ext w5 W5:=Below.trans (Ext.of_alloc w5 (.cells #[.int .i64 0] 32)) (hM5.below (aag _) (Ext.of_alloc w5 (.cells #[.int .i64 0] 32)).size)
 have hE:=hE.trans hx5
 have s1:=s1.ext hx5
 have s2:=s2.ext hx5
 have s3:=s3.ext hx5
 have s4:=s4.ext hx5
 have s5:=s5.ext hx5
 have hJb:=hJb.extB hx5
 have hS5:=hS5.ext hx5
 clear hx5 hbk hM5
 have l1:=s1.len
 have l2:=s2.len
 have l3:=s3.len
 have l4:=s4.len
 have m1:n1<=1000000:=by rw [<- l1,g1.1.1];omega
 have m2:n2<=1000000:=by rw [<- l2,g1.1.2];omega
 have m3:n3<=100000:=by have:=g1.2.1;omega
 have m4:n4<=1000000:=by rcases g1.2.2.1 with h|h <;> omega
 clear l1 l2 l3 l4 g1
 have hrJ:=hJb.rd
 refine R2.aJ 10 [[],[],[],[0,1,2],[0,1,2,3],[0,1,2,3,4],[0,1,2,3,4],[0,1,2,3,4],[],[],[0,1,2,3,4,5,8,9],[0,1,2,3,4,5,6,8,9,10],[0,1,2,3,4,5,6,7,8,9,10,11]] [5,6,7] (by intro c a d v w h;cases d <;> exact h) (by kernel_rfl) (by kernel_rfl) (by kernel_rfl) (by kernel_rfl) (by kernel_rfl) ?_;simp only [q8q,q9q,q10q,q11q,q12q,q13q]
 (refine R2.aw RJ6 _ rfl (λ _=>rfl) gJ 0 (λ _=>by simp [go_sem]) _ hrJ rfl ?_)
 (refine R2.aj (λ p => .slice (p 0).1 32 (p 0).2) (λ p w''=>Own w'' 0 (p 0).1 32 (p 0).2 u6) (λ p w w' h hx=>h.ext hx) (λ us w' hx hf=>⟨rfl,?_⟩) ?_;(unfold gives;simp [go_sem,execOp];exact az (aan _) (hr6 _)))
 (repeat (apply R2.aE;(case h=>(intro us w' hx hf;obtain ⟨x,rfl⟩:=hx.out;refine ⟨rfl,?_⟩;simp [go_sem,execOp, *];(try simp (disch:=omega) only [q17q,q18q,q19q]);rfl));(try simp only [Act.put,q0q,q1q,q2q])))
 (refine R2.aj (Ca J2 P2) (rz J2 P2) (λ p w w' h hx=>h.ext hx) (λ us w' hx hf=>⟨rfl,?_⟩) ?_;(unfold gives;simp [go_sem,execOp];exact zN (haj b1 b2 b3 b4 _ a5 n1 d1 n2 d2 n3 d3 n4 d4 _ c5 _ (s1.ext hx) m1 (s2.ext hx) k2 m2 (s3.ext hx) k3 m3 g2 (s4.ext hx) m4 (Own.sl (hf _ (aae _ (aab _)) rfl)) (hS5.ext hx) hc5)))
 (repeat (apply R2.aE;(case h=>(intro us w' hx hf;obtain ⟨x,rfl⟩:=hx.out;refine ⟨rfl,?_⟩;simp [go_sem,execOp, *];(try simp (disch:=omega) only [q17q,q18q,q19q]);rfl));(try simp only [Act.put,q0q,q1q,q2q])))
 (refine R2.cO _ ([.slice none 0 0, .slice none 0 0, .slice none 0 0, .slice none 0 0, .int .i64 0, .int .i64 0]) Tryz.zeroValue57 rfl rfl rfl ?_)
 (refine R2.cO _ ([.int .i64 0, .int .i64 0, .int .i64 0, .int .i64 0, .int .i64 0, .int .i64 0, .int .u32 0, .int .u32 0, .int .u32 0, .int .u64 0, .int .u64 0, .int .u64 0, .int .u64 0, .slice none 0 0, .slice none 0 0, .bool false]) Tryz.zeroValue67 rfl rfl rfl ?_)
 (refine R2.bj ?_;intro us w' hx hf hd;obtain ⟨x,rfl⟩:=hx.out;(try simp only [Act.put,q0q,q1q,q2q,ag]);(try simp only [q3q,q4q,aao,aaa,aal,q5q,q6q,q7q,aap,aaq,aar] at hf);(try simp only [Nat.reduceAdd,aad] at hf ⊢))
 have hne:=hd 8 (by simp) 9 (by simp) (by omega)
 obtain ⟨-,hP,⟨g7,e7,hg7,hB7⟩,g8,e8,hg8,hB8⟩:=hf
 have h78:g8≠g7:=λ e=>hne (by rw [e7,e8,e])
 simp only [q14q,q15q,q16q]
 rw [e7,e8]
 clear hd e7 e8 hne haj hr6 hrJ hJb
 generalize us 3=p at *
 have hx:Ext W5 (W5.ext x):=hx
 have hgw7:w.heap.size<=g7:=aau hE.size hg7
 have hgw8:w.heap.size<=g8:=aau hE.size hg8
 have s5:=s5.ext hx
 have hE:=hE.trans hx
 clear hx s1 s2 s3 s4 hS5
 generalize W5.ext x=W6 at *
 haveI:=hB7.blt
 haveI:=hB8.blt
 have hle:((b.length:Int) == (q.length:Int))=true:=by rw [aa7,hlen.out]
 have hrv:(n64 P2.h.rcv == 70)=true:=by
  have h:n64 P2.h.rcv=70:=by injection hrc
  rw [h]
  rfl
 clear hrc
 go_wp2_with (first
  | ((refine aa RJ6 rfl _ _ rfl g7 0 rfl _ rfl 57 _ hB7 rfl (by simp) oC ?_;intro V7 hV7 hM7);have hB87:=Blk.turn hM7 hB8 h78;haveI:=Blk.blt hB87)
  | ((refine aa aY rfl _ _ rfl g8 0 rfl _ rfl 67 _ hB87 rfl (by simp) oC ?_;intro V8 hV8 hM8);haveI:=Blk.blt hV8;have v11:=Blk.cell? hV8 11 rfl)
  | fail)
 have s5m:=(s5.mut hB7 (by simp) hM7).mut hB87 (by simp) hM8
 have hE7:Ext w V7:=Below.trans hE (hM7.below hgw7 hE.size)
 have hE8:Ext w V8:=Below.trans hE7 (hM8.below hgw8 hE7.size)
 (with_reducible refine (hkd b5 d5 _ s5m k5).mono ?_);rintro e w9 ⟨rfl,hx9⟩
 go_wp2_with fail
 go_ret
 exact ⟨rfl,hE8.trans hx9⟩
end Go.Proofs.YtmdahnkcnagkjaaGreat

/- TimeserverLimitsRates: the walk. -/
namespace Go.Proofs.YtmdahnkcnagkjaaGreat
open Go.RowKit Go.Sec Go.Oct Go.Jar Go.Case Go.Cook Go.Pkt Go.Tsrv BigFrame
theorem wX {L:List (List UInt8)} {k:Nat} {f:FuncId} {args:Array Value} {w:World} (h:Calls Tryz.prog f args w (Ad L k w)) :
  Calls Tryz.prog f args w λ e w'=>∃ v,e = .returned v/\∃ p:Par,v = .slice (p 0).1 k (p 0).2/\Ext w w'/\(Bsc w' (p 0).1 k L/\k<=(p 0).2) :=
 h.mono λ _ _ ⟨a,c,he,hb,hc,_,hx⟩=>⟨_,he,λ _=>(a,c),rfl,hx,hb,hc⟩
theorem xM {L:List UInt8} {n:Nat} {p2 ec:Int} {f:FuncId} {args:Array Value} {w:World} (hL:L.length=n) (h:Calls Tryz.prog f args w (pe ((L,p2),ec) w)) :
  Calls Tryz.prog f args w λ e w'=>∃ v,e = .returned v/\∃ p:Par,v = .tuple #[.slice (p 0).1 n (p 0).2, .agg #[.int .i64 p2], .int .i64 ec]/\Ext w w'/\(Sl w' (p 0).1 n L/\n<=(p 0).2):=by
 subst hL
 exact h.mono λ _ _ ⟨a,c,he,hS,hc,hx⟩=>⟨_,he,λ _=>(a,c),rfl,hx,hS,hc⟩
theorem lR (v burst n:Int) (w:World):Calls Tryz.prog 8 #[.int .i64 v, .int .i64 burst, .int .i64 n] w λ e w'=>e = .returned (.bool true)/\Ext w w':=by
 obtain ⟨vn,hvn⟩:∃ k:Nat,v % 50=(k:Int):=⟨(v % 50).toNat,by omega⟩
 obtain ⟨bn,hbn⟩:∃ k:Nat,burst % 8=(k:Int):=⟨(burst % 8).toNat,by omega⟩
 obtain ⟨kn,hkn⟩:∃ k:Nat,n % 14=(k:Int):=⟨(n % 14).toNat,by omega⟩
 have hvn2:vn<50:=by omega
 have hbn2:bn<8:=by omega
 have hkn2:kn<14:=by omega
 have hw1:=λ W=>gG v 50 W (by omega) (by omega)
 have hw2:=λ W=>gG burst 8 W (by omega) (by omega)
 have hw3:=λ W=>gG n 14 W (by omega) (by omega)
 rw [hvn] at hw1
 rw [hbn] at hw2
 rw [hkn] at hw3
 clear hvn hbn hkn
 have hrg:=λ W=>pY vn 0 rfl (show (0:Int)=((0:Nat):Int) from rfl) W (by omega) (by omega)
 obtain ⟨hRv,hR4,hR0⟩:=rA vn (t:=0) (by omega)
 generalize mO (vn:Int) 0=R at *
 obtain ⟨bu,hbu⟩:∃ b:Nat,b=1+bn:=⟨_,rfl⟩
 have hbuI:(1:Int)+(bn:Int)=(bu:Int):=by omega
 have hb1:1<=bu:=by omega
 have hb8:bu<=8:=by omega
 clear hbu hbn2
 have hal:=λ i hi=>zH (bu:=bu) (i:=i) hb1 hb8 hi
 have hru:gl 1000 (bu:Int)=true:=by unfold gl;exact aaz (by omega)
 go_enter Tryz.func8,Tryz.ntmps8
 go_wp2_with fail
 (with_reducible refine (hw1 _).mono ?_);rintro e w1 ⟨rfl,hE⟩
 go_wp2_with fail
 (with_reducible refine (hrg _).mono ?_);rintro e w2 ⟨ar,nr,cr,rfl,hI,hcr,hx⟩
 have hE:=hE.trans hx
 go_wp2_with fail
 (with_reducible refine (mD ar nr cr true _).mono ?_);rintro e w3 ⟨rfl,hx⟩
 have hI:=hI.ext hx
 have hE:=hE.trans hx
 clear hx hw1 hrg
 go_wp2_with (first
  | (refine ai yH rfl rfl _ _ rfl rfl rfl rfl (by simp [Act.put]) _ rfl (by simp) rfl oC ?_;intro x3 hB7 _)
  | fail)
 have hgw3:=hE.size
 have hx:Ext w3 (w3.ext x3):=Ext.of_ext _ _
 have hI:=hI.ext hx
 have hE:=hE.trans hx
 obtain ⟨g7,hg7⟩:∃ g,g=w3.heap.size:=⟨_,rfl⟩
 have hgw:w.heap.size<=g7:=by rw [hg7];exact hgw3
 rw [<- hg7] at hB7 ⊢
 clear hg7 hx hgw3
 generalize w3.ext x3=W4 at *
 (with_reducible refine (hw2 _).mono ?_);rintro e w5 ⟨rfl,hx⟩
 have hI:=hI.ext hx
 have hE:=hE.trans hx
 have hB7:=hB7.extB hx
 clear hx hw2
 have hg7w:w.heap.size<=g7:=hgw
 go_wp2_with (first
  | (refine aa Cm rfl _ _ rfl g7 2 rfl _ rfl 30 _ hB7 rfl (by simp) oC ?_;intro V hV hMV)
  | fail)
 have hV:Blk V g7 30 [.slice ar nr cr, .int .i64 2, .int .i64 1000, .int .i64 (bu:Int), .bool true]:=hV
 have hI:=hI.mutq hB7 (by simp) rfl hMV
 have hE:Ext w V:=Below.trans hE (hMV.below hg7w hE.size)
 clear hB7 hMV
 obtain ⟨g8,hg8⟩:∃ g,g=V.heap.size:=⟨_,rfl⟩
 have hxa:=Ext.of_alloc V (.cells #[.int .i64 0] 32)
 have hBk:Blk (V.alloc (.cells #[.int .i64 0] 32)) g8 32 [.int .i64 0]:=by rw [hg8];exact Blk.new V #[.int .i64 0] 32
 have hI:=hI.ext hxa
 have hS:=hV.extB hxa
 have hlt8:g7<g8:=by rw [hg8];exact hV.lt
 have hg8w:w.heap.size<=g8:=by rw [hg8];exact hE.size
 have hE:=hE.trans hxa
 rw [<- hg8]
 clear hxa hV hg8
 generalize V.alloc (.cells #[.int .i64 0] 32)=V2 at *
 (with_reducible refine (hw3 _).mono ?_);rintro e w6 ⟨rfl,hx⟩
 have hI:=hI.ext hx
 have hS:=hS.extB hx
 have hBk:=hBk.extB hx
 have hE:=hE.trans hx
 clear hx hw3 hbuI
 go_wp2_with fail
 go_loopw [9,11,12,13,14,15,16,17,18,19] (λ v9 v11 _ _ _ _ _ _ _ _ wr=>∃ i:Nat,i<=kn/\v11 = .int .i64 i/\v9 = .int .i64 ((min i bu:Nat):Int)/\Blk wr g8 32 [.int .i64 (ee bu i)]/\Blk wr g7 30 [.slice ar nr cr, .int .i64 2, .int .i64 1000, .int .i64 (bu:Int), .bool true]/\Ib wr ar nr R/\Ext w wr) (λ _ v11 _ _ _ _ _ _ _ _ _=>kn-(intOf v11).toNat)
 case atStart=>exact ⟨0,aan _,rfl,by simp,hBk,hS,hI,hE⟩
 case round =>
  clear hBk hS hI hE
  obtain ⟨i,hi,rfl,rfl,hBk,hS,hI,hE⟩:=hrel
  by_cases hlt:i<kn
  ·have i1:(i:Int)<(kn:Int):=by omega
   obtain ⟨T,hT⟩:∃ T,UInt64.ofNat (i+1)=T:=⟨_,rfl⟩
   have hwT:IntKind.u64.wrap ((i:Int)+1)=n64 T:=by rw [lr _ (by omega) (by omega),<- hT];rfl
   clear hT
   have hen:∀ W,Calls Tryz.prog 32 #[.agg #[.int .i64 0, .int .i64 4, .int .i64 3, .int .i64 0, .int .i64 6, .int .i64 0, .int .u32 0, .int .u32 0, .int .u32 0, .int .u64 0, .int .u64 0, .int .u64 0, .int .u64 (n64 T)]] W (bQ 48 (pd T) (.int .i64 0) W):=λ W=>by
    have:=kX (bU T) W
    rw [show cP (bU T)=(pd T,0) from aam (jH T)] at this
    simp only at this
    rw [wZ] at this
    exact this
   have hns:=λ W=>lF i 16 9 rfl (show (16:Int)=((16:Nat):Int) from rfl) (show (9:Int)=((9:Nat):Int) from rfl) W (by omega) (by omega) (by omega)
   have hN:=xn (i:Int) 9
   have hNl:=jA (i:Int) 16 9
   generalize lC (i:Int) 16 9=N at *
   obtain ⟨H,hH⟩:∃ H,(if decide (i<bu)=true then rB 2 T 5 6 else mQ T 5 6)=H:=⟨_,rfl⟩
   have hHok:okH H:=by
    rw [<- hH]
    split
    ·exact qR (by omega) (by omega) _ _ _
    ·exact oE _ _ _
   have hA:sw (kz R 1000 (bu:Int) true) (ee bu i) 50 (pd T) 5 6 N=((bY H,ee bu (i+1)),0):=by
    rw [uR (uM hRv hru true) (hal i (by omega)) _ _ _ hN (by omega),xA rfl (by show (0:Int)<=2;omega) (by show (2:Int)<=255;omega)]
    show ((bY (if decide (i<bu)=true then rB 2 T 5 6 else mQ T 5 6),ee bu (i+1)),(0:Int))=_
    rw [hH]
   have hHl:(bY H).length=48:=cU _
   have hans:∀ (an ab:Option Addr)(cn cb:Nat) (W:World),Ib W ar nr R->Bsc W an 9 N->9<=cn->Sl W ab 48 (pd T)->48<=cb->Calls Tryz.prog 12 #[.agg #[.slice ar nr cr, .int .i64 2, .int .i64 1000, .int .i64 (bu:Int), .bool true], .agg #[.int .i64 (ee bu i)], .slice ab 48 cb, .int .u64 5, .int .u64 6, .int .i64 50, .slice an 9 cn] W (pe ((bY H,ee bu (i+1)),0) W):=λ an ab cn cb W H1 H3 H4 H5 H6=>by
    have hl:=H1.len
    have:=mC ar an ab nr cr cn 48 cb (kz R 1000 (bu:Int) true) (ee bu i) 50 5 6 N (pd T) W H1 hcr (by omega) (by rw [hNl];exact H3) (by omega) (by omega) H5 H6 (by omega)
    rw [hA,hNl] at this
    exact this
   have hdc:∀ (a:Option Addr)(c:Nat) (W:World),Sl W a 48 (bY H)->48<=c->Calls Tryz.prog 34 #[.slice a 48 c] W (fU ((H,[]),0) W):=λ a c W H1 H2=>by
    have:=kO a 48 c (bY H) W H1 H2 (by omega)
    have hd:bO (bY H)=((H,[]),0):=by
     have:=lS H hHok [] (by simp)
     rwa [List.append_nil] at this
    rwa [hd] at this
   have ho:(n64 H.org != n64 T)=false:=by
    rw [aai,<- hH]
    split <;> rfl
   have hmo:(H.mode != 4)=false:=by
    rw [aai,<- hH]
    split <;> rfl
   have hras:=λ W=>xV T W
   have hst:if i<bu then H.strat=2 else H.strat=0/\n32 H.id=1380013125/\ee bu (i+1)=ee bu i:=by
    by_cases h:i<bu
    ·rw [aam h,<- hH,aam (by simpa using h)]
     rfl
    ·rw [aaf h,<- hH,aaf (by simpa using h)]
     refine ⟨rfl,rfl,?_⟩
     unfold ee
     rw [aaf (by omega),aaf (by omega)]
     congr 3
     omega
   replace hst:=Lib.hid hst
   clear hA hH hHok hN hNl
   have hrS:=hS.rd
   have hrB:=hBk.rd
   go_wp2_with fail
   (with_reducible refine (hras _).mono ?_);rintro e w1 ⟨rfl,hx1⟩
   go_wp2_with fail
   (with_reducible refine (hen _).mono ?_);rintro e w2 ⟨aq,cq,rfl,hSq,hcq,hx2⟩
   have hx:=hx1.trans hx2
   have hS:=hS.extB hx
   have hBk:=hBk.extB hx
   have hI:=hI.ext hx
   have hE:=hE.trans hx
   have hrS:=hS.rd
   have hrB:=hBk.rd
   clear hx hx1 hx2 hras hen
   go_wp2_with fail
   refine R2.aJ 11 [[],[],[],[],[3],[0,1,2,3,4],[0,1,2,3,4,5],[0,1,2,3,4,5,6],[0,1,2,3,4,5,6],[0,1,2,3,4,5,6],[],[0,1,2,3,4,5,6,7,10],[0,1,2,3,4,5,6,7,8,10,11],[0,1,2,3,4,5,6,7,8,9,10,11,12]] [7,8,9] (by intro c a d v w h;cases d <;> exact h) (by kernel_rfl) (by kernel_rfl) (by kernel_rfl) (by kernel_rfl) (by kernel_rfl) ?_;simp only [q8q,q9q,q10q,q11q,q12q,q13q]
   (refine R2.aw yH _ rfl (λ _=>rfl) g7 0 (λ _=>by simp [go_sem]) _ hrS rfl ?_)
   (refine R2.aw RB1 _ rfl (λ _=>rfl) g8 0 (λ _=>by simp [go_sem]) _ hrB rfl ?_)
   (repeat (apply R2.aE;(case h=>(intro us w' hx hf;obtain ⟨x,rfl⟩:=hx.out;refine ⟨rfl,?_⟩;simp [go_sem,execOp, *];(try simp (disch:=omega) only [q17q,q18q,q19q]);rfl));(try simp only [Act.put,q0q,q1q,q2q])))
   (refine R2.aj (λ p => .slice (p 0).1 9 (p 0).2) (λ p w''=>Bsc w'' (p 0).1 9 N/\9<=(p 0).2) (λ p w w' h hx=>⟨h.1.ext hx,h.2⟩) (λ us w' hx hf=>⟨rfl,?_⟩) ?_;(unfold gives;simp [go_sem,execOp];exact wX (hns _)))
   (refine R2.aj (λ p => .tuple #[.slice (p 0).1 48 (p 0).2, .agg #[.int .i64 (ee bu (i+1))], .int .i64 0]) (λ p w''=>Sl w'' (p 0).1 48 (bY H)/\48<=(p 0).2) (λ p w w' h hx=>⟨h.1.ext hx,h.2⟩) (λ us w' hx hf=>⟨rfl,?_⟩) ?_;(unfold gives;simp [go_sem,execOp];exact xM hHl (hans _ _ _ _ _ (hI.ext hx) (And.left (hf _ (aae _ (aab _)) rfl)) (And.right (hf _ (aae _ (aab _)) rfl)) (hSq.ext hx) hcq)))
   (repeat (apply R2.aE;(case h=>(intro us w' hx hf;obtain ⟨x,rfl⟩:=hx.out;refine ⟨rfl,?_⟩;simp [go_sem,execOp, *];(try simp (disch:=omega) only [q17q,q18q,q19q]);rfl));(try simp only [Act.put,q0q,q1q,q2q])))
   (refine R2.cO _ ([.int .i64 0]) Tryz.zeroValue32 rfl rfl rfl ?_)
   (refine R2.bj ?_;intro us w' hx hf hd;obtain ⟨x,rfl⟩:=hx.out;(try simp only [Act.put,q0q,q1q,q2q,ag]);(try simp only [q3q,q4q,aao,aaa,aal,q5q,q6q,q7q,aap,aaq,aar] at hf);(try simp only [Nat.reduceAdd,aad] at hf ⊢))
   obtain ⟨-,⟨hSa,hca⟩,g15,e15,hg15,hB15⟩:=hf
   (try simp only [q14q,q15q,q16q])
   rw [e15]
   clear hd e15 hns hans hrS hrB
   generalize (us 5 0).1=a5 at *
   generalize (us 5 0).2=c5 at *
   have hx:Ext w2 (w2.ext x):=hx
   have h815:g8<g15:=aak hBk.lt hg15
   generalize w2.ext x=w3 at *
   haveI:=hB15.blt
   go_wp2_with (first
    | (refine aa RB1 rfl _ _ rfl g15 0 rfl _ rfl 32 _ hB15 rfl (by simp) oC ?_;intro V3 hV3 hM3)
    | fail)
   have hx3:Ext w2 V3:=Below.trans hx (hM3.below hg15 hx.size)
   have hSa:=hSa.mut hB15 (by simp) hM3
   (with_reducible refine (hdc _ _ _ hSa hca).mono ?_);rintro e w4 ⟨a4,c4,rfl, -, -,hx4⟩
   have hx24:=hx3.trans hx4
   have hS:=hS.extB hx24
   have hBk:=hBk.extB hx24
   have hI:=hI.ext hx24
   have hE:=hE.trans hx24
   have hV3:=hV3.extB hx4
   have hgE8:w.heap.size<=g8:=hg8w
   clear hx hx3 hx4 hx24 hM3 hB15 hdc hSa hSq
   have hlt48:((48:Int) != 48)=false:=by decide
   by_cases hb:i<bu
   ·have hst:=hst.out
    rw [aam hb] at hst
    have zs:(H.strat == 2)=true:=by rw [hst];rfl
    have hmn:=Lib.hid (show ((min i bu:Nat):Int)+1=((min (i+1) bu:Nat):Int) by omega)
    clear hst hb
    go_upto_region 12 with (first
     | ((refine ai bc rfl rfl _ _ rfl rfl rfl rfl (by simp [Act.put]) _ rfl (by simp) rfl oC ?_;intro x4 hH64 _);have hB15x:=Blk.ext hV3 x4;have hB15r:=Blk.rd hB15x;have hBkx:=Blk.ext hBk x4;have hBkr:=Blk.rd hBkx;have hSx:=Blk.ext hS x4;haveI:=Blk.blt hH64;haveI:=Blk.blt hSx;have v10:=Blk.cell? hH64 10 rfl;have v2:=Blk.cell? hH64 2 rfl;have v3:=Blk.cell? hH64 3 rfl;have v8:=Blk.cell? hH64 8 rfl;have s1:=Blk.cell? hSx 1 rfl)
     | fail)
    go_upto_region 18 with fail
    go_wp2_with (first
     | (refine af RB1 rfl _ rfl g15 0 rfl _ hB15r rfl ?_)
     | (refine aa RB1 rfl _ _ rfl g8 0 rfl _ rfl 32 _ hBkx rfl (by simp) oC ?_;intro V5 hV5 hM5)
     | fail)
    have hE5:Ext w V5:=Below.trans (hE.ext x4) (hM5.below hgE8 (hE.ext x4).size)
    go_roundw
    case rel=>exact ⟨i+1,by omega,by go_num,by rw [hmn.out],hV5,Blk.turn hM5 hSx (by omega),(hI.ext (Ext.of_ext _ x4)).mutq hBkx (by simp) rfl hM5,hE5⟩
    case measure=>simp [intOf];omega
   ·have hst:=hst.out
    rw [aaf hb] at hst
    obtain ⟨y1,y2,y3⟩:=hst
    have zs:(H.strat == 2)=false:=by rw [y1];rfl
    have z2:(H.strat != 0)=false:=by rw [y1];rfl
    have z3:(n32 H.id != 1380013125)=false:=by rw [y2];rfl
    have hmn:=Lib.hid (show ((min i bu:Nat):Int)=((min (i+1) bu:Nat):Int) by omega)
    clear y1 y2 hb
    go_upto_region 12 with (first
     | ((refine ai bc rfl rfl _ _ rfl rfl rfl rfl (by simp [Act.put]) _ rfl (by simp) rfl oC ?_;intro x4 hH64 _);have hB15x:=Blk.ext hV3 x4;have hB15r:=Blk.rd hB15x;have hBkx:=Blk.ext hBk x4;have hBkr:=Blk.rd hBkx;have hSx:=Blk.ext hS x4;haveI:=Blk.blt hH64;haveI:=Blk.blt hSx;have v10:=Blk.cell? hH64 10 rfl;have v2:=Blk.cell? hH64 2 rfl;have v3:=Blk.cell? hH64 3 rfl;have v8:=Blk.cell? hH64 8 rfl;have s1:=Blk.cell? hSx 1 rfl)
     | fail)
    go_upto_region 16 with fail
    rw [y3] at hB15x
    replace y3:=Lib.hid y3
    have hB15r:=Blk.rd hB15x
    go_upto_region 18 with (first
     | (refine fv (by simp [Region.wanted,yielded,Act.put]) ?_;(refine af RB1 rfl _ rfl g15 0 rfl _ hB15r rfl ?_))
     | (refine fv (by simp [Region.wanted,yielded,Act.put]) ?_;(refine af RB1 rfl _ rfl g8 0 rfl _ hBkr rfl ?_))
     | fail)
    go_wp2_with (first
     | (refine af RB1 rfl _ rfl g15 0 rfl _ hB15r rfl ?_)
     | (refine aa RB1 rfl _ _ rfl g8 0 rfl _ rfl 32 _ hBkx rfl (by simp) oC ?_;intro V5 hV5 hM5)
     | fail)
    have hE5:Ext w V5:=Below.trans (hE.ext x4) (hM5.below hgE8 (hE.ext x4).size)
    go_roundw
    case rel=>exact ⟨i+1,by omega,by go_num,by rw [hmn.out],by rw [y3.out];exact hV5,Blk.turn hM5 hSx (by omega),(hI.ext (Ext.of_ext _ x4)).mutq hBkx (by simp) rfl hM5,hE5⟩
    case measure=>simp [intOf];omega
  ·obtain rfl:i=kn:=by omega
   have i1:¬ (i:Int)<(i:Int):=by omega
   go_wp2_with fail
   (with_reducible refine (sy _).mono ?_);rintro e w9 ⟨rfl,hx9⟩
   have hS:=hS.extB hx9
   haveI:=hS.blt
   have s3:=hS.cell? 3 rfl
   have hmi:(((min i bu:Nat):Int) == min (i:Int) (bu:Int))=true:=by rw [aa7];omega
   go_wp2_with fail
   trace_state
   go_ret
   exact ⟨rfl,hE.trans hx9⟩
end Go.Proofs.YtmdahnkcnagkjaaGreat
