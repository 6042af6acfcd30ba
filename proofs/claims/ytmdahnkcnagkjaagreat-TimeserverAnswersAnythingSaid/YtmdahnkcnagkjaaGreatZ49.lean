/- Lemmas of this claim, several texts joined. -/
import Derived.Test.YtmdahnkcnagkjaaGreatZ42
import Derived.Test.YtmdahnkcnagkjaaGreatZ48
set_option maxRecDepth 100000
open Go.Value renaming int -> Zz,slice -> Zy
open Go.IntKind renaming i64 -> Zx,u64 -> Zw,u32 -> Zv
open List renaming setIfInBounds_toArray -> q0q, set_cons_succ -> q1q, set_cons_zero -> q2q, take_succ_cons -> q8q, take_zero -> q9q, drop_succ_cons -> q10q, drop_zero -> q11q, take_nil -> q12q, drop_nil -> q13q, getElem_toArray -> q14q, getElem_cons_succ -> q15q, getElem_cons_zero -> q16q
set_option maxHeartbeats 8000000
set_option linter.unusedVariables false
set_option linter.unusedSimpArgs false
/- The walks of layer 26: Answer. -/
namespace Go.Tsrv
def okN (N:List E7):Bool:=N.all λ n=>decide (n.length=16)
end Go.Tsrv
namespace Go.Sec
open Go.RowKit
theorem bc {P:Program} {fn:Func} {p u u2:Tmp} {T:TypeId} {n:Nat} (h:fn.results=#[.tmp u, .cell p T, .tmp u2]) (hT:RowT P T n) (tmps:Array Value) (w:World)(g o:Nat) (cs:List Value)(hp:tmps.getD p undef = .pointer (some ⟨g,o,none⟩))
  (hR:Rd w (some ⟨g,o,none⟩) cs) (hn:cs.length=n) (v v2:Value)(hv:tmps.getD u undef=v) (hv2:tmps.getD u2 undef=v2):(results fn tmps).run P w = .ok (.tuple #[v, .agg cs.toArray,v2]) w:=by
 have hp':tmps[p]?.getD undef = .pointer (some ⟨g,o,none⟩):=by simpa using hp
 subst hv hv2;simp [results,h,hp',asAddr,dY hT w g o cs hR hn]
end Go.Sec
namespace Go.Proofs.P9
open Go.RowKit Go.Sec Go.Oct Go.Pkt Go.Cook Go.Tsrv BigFrame
theorem Aj (a:E8)(n c:Nat) (w:World) :
  Calls Tryz.prog 41 #[Zy a n c] w λ e w'=>e = .returned (.bool (!decide (n=16)))/\Ext w w':=by
 by_cases h:n=16
 ·have i1:((n:Int) != 16)=false:=by rw [aaf];omega
  have e:=FC (show decide (n=16)=true from aav h);clear h
  go_enter Tryz.func41,Tryz.ntmps41
  go_wp2;go_ret;exact ⟨by rw [e.out];rfl,eX⟩
 ·have i1:((n:Int) != 16)=true:=by rw [aao];omega
  have e:=FC (show decide (n=16)=false from aay h);clear h
  go_enter Tryz.func41,Tryz.ntmps41
  go_wp2;go_ret;exact ⟨by rw [e.out];rfl,eX⟩
def DG (L:List E7) (w:World)(e:Ending) (w':World):Prop:=∃ r:Int,e = .returned (Zz Zx r)/\(0<=r ↔ okN L=false)/\Ext w w'
theorem wK (a:E8)(n c:Nat) (L:List E7) (w:World)(h:Bsc w a n L) (hn:n<=1000000) :
  Calls Tryz.prog 75 #[Zy a n c, .func (.func 41) #[] #[]] w (DG L w):=by
 have hl:=h.len
 go_enter Tryz.func75,Tryz.ntmps75
 go_wp2_with fail
 go_loopw [8] (λ v8 wr=>∃ i:Nat,i<=n/\v8 = Zz Zx i/\Hid (okN (L.take i)=true)/\Ext w wr) (λ v8 _=>n-(intOf v8).toNat)
 case atStart=>exact ⟨0,Zo,rfl,FC rfl,FD _⟩
 case round =>
  obtain ⟨i,hi,rfl,hm,hx⟩:=hrel;by_cases hlt:i<n
  ·obtain ⟨b0,o0,a',n',c',rfl,hb0,hcell,hc',hS⟩:=(h.ext hx).at i hlt;have i0:(0:Int)<=(i:Int):=Zo;have i1:(i:Int)<(n:Int):=Zo;have hiL:i<L.length:=Zo;have hts:=FC (show L.take (i+1)=L.take i++[L[i]] from aas hiL);have hmem:=aaB hiL;generalize L[i]=X at *;have hXl:=hS.len;haveI:=hb0;go_wp2_with fail;(with_reducible refine (Aj _ _ _ _).mono ?_);rintro e w1 ⟨rfl,hx1⟩;by_cases hb:n'=16
   ·have hd:decide (n'=16)=true:=aav hb;have hm2:=FC (show okN (L.take (i+1))=true by
     rw [hts.out];unfold okN;rw [List.all_append];have:=hm.out;unfold okN at this;rw [this];simp;omega)
    rw [hd];clear hb hd;go_wp2_with fail;go_roundw
    case rel=>exact ⟨i+1,Zo,Zg,hm2,hx.trans hx1⟩
    case measure=>simp [intOf];omega
   ·have hd:decide (n'=16)=false:=aay hb;have hm2:=FC (show okN L=false by
     unfold okN;rw [abC];exact ⟨X,hmem,by simp;omega⟩)
    rw [hd];clear hb hd;go_wp2_with fail;go_ret;exact ⟨i,rfl,by simp [hm2.out],hx.trans hx1⟩
  ·obtain rfl:i=n:=by omega
   have hlo:=FC (show okN L=true by have:=hm.out;rwa [aah Zo] at this);go_wp2_with fail;go_ret;exact ⟨-1,rfl,by simp [hlo.out],hx⟩
theorem vl (a:E8)(n c:Nat) (L:List E7) (w:World)(h:Bsc w a n L) (hn:n<=1000000) :
  Calls Tryz.prog 40 #[Zy a n c, .func (.func 41) #[] #[]] w λ e w'=>e = .returned (.bool (!okN L))/\Ext w w':=by
 go_enter Tryz.func40,Tryz.ntmps40
 go_wp2_with fail;refine (wK _ _ _ _ _ h hn).mono ?_;rintro e w1 ⟨r,rfl,hr,hx1⟩;have hd:=FC (show decide (0<=r) = !okN L by rw [abk,decide_eq_true_iff,hr];simp);clear hr;go_wp2_with fail;go_ret;exact ⟨by rw [<- hd.out];rfl,hx1⟩
def ld (R:(E7 × Int) × Int) (w:World)(e:Ending) (w':World):Prop:=∃ a c,e = .returned (.tuple #[Zy a R.1.1.length c, .agg #[Zz Zx R.1.2], Zz Zx R.2])/\Sl w' a R.1.1.length R.1.1/\R.1.1.length<=c/\Ext w w'
theorem ld.err (w w':World)(e:Int) (hx:Ext w w'):ld (([],0),e) w (.returned (.tuple #[Zy none 0 0, .agg #[Zz Zx 0], Zz Zx e])) w':=⟨none,0,rfl,Sl.nil _ _,aad _,hx⟩
theorem BV:RowT Tryz.prog 28 2:=⟨⟨_,Tryz.underlying28,rfl⟩,Zk,⟨_,Tryz.zeroValue28,Zk⟩⟩
theorem zZ {f:FuncId} {args:Array Value} {L:E7} {w:World} (h:Calls Tryz.prog f args w (C8 L w)) :
  Calls Tryz.prog f args w λ e w'=>∃ v,e = .returned v/\∃ p:Par,v = .slice (p 0).1 L.length (p 0).2/\Ext w w'/\(Sl w' (p 0).1 L.length L/\L.length<=(p 0).2) :=
 h.mono λ _ _ ⟨a,c,he,hS,hc,hx⟩=>⟨_,he,λ _=>(a,c),rfl,hx,hS,hc⟩
theorem AY {q:E7} (h:ew q=2):(aE q).2=0/\3<=(aE q).1.plain.length/\(aE q).1.plain.length<=10:=by
 unfold ew at h;split at h
 ·exact absurd h Zd
 ·rename_i h1;split at h
  ·exact absurd h Zd
  ·split at h
   ·rename_i h2;have h0:(aE q).2=0:=by
     by_cases z:(aE q).2=0
     ·exact z
     ·exact absurd (.inl z) h1
    unfold eA at h2;rw [aaz,decide_eq_true_iff] at h2;exact ⟨h0,h2.1.1,h2.1.2⟩
   ·exact absurd h Zd
theorem _root_.z49q79{p:Prop}(h:p:=by
 unfold cy at q1;split at q1
 ·cases q1
 ·split at q1
  ·cases q1
  ·rename_i h;omega):p:=h
theorem mV (ar an ab:E8)(nr cr cn nb cb:Nat) (s:Srv) (paid now:Int) (r t:UInt64) (N:List E7) (q:E7)(w:World)(hI:Ib w ar nr s.ring) (hcr:nr<=cr) (hnr:nr<=1000000)
  (hN:Bsc w an N.length N) (hcn:N.length<=cn) (hnN:N.length<=1000000) (hb:Sl w ab nb q) (hcb:nb<=cb) (hnb:nb<=1000000) :
  Calls Tryz.prog 12 #[.agg #[Zy ar nr cr, Zz Zx s.str, Zz Zx s.ev, Zz Zx s.bu, .bool s.opn], .agg #[Zz Zx paid], Zy ab nb cb, Zz Zw (n64 r), Zz Zw (n64 t), Zz Zx now, Zy an N.length cn] w (ld (ml s paid now q r t N) w):=by
 have hck:=λ W H=>uY ar nr cr s W H hcr hnr;have hal:=λ W=>uK paid s.ev s.bu now W;have hnc:=λ W H=>vl an N.length cn N W H hnN;have hkd:=λ W H=>mN ab nb cb q W H hcb hnb;have hrd:=λ W H=>mj ab nb cb q W H hcb hnb;obtain ⟨R,hR⟩:∃ R,ml s paid now q r t N=R:=⟨_,rfl⟩;rw [hR];unfold ml at hR
 go_enter Tryz.func12,Tryz.ntmps12
 go_wp2_with fail;refine br ?_;intro W hW;have hE:Ext w W:=by rw [hW];exact eX
 have hB0:Blk W w.heap.size 30 [Zy ar nr cr, Zz Zx s.str, Zz Zx s.ev, Zz Zx s.bu, .bool s.opn]:=by rw [hW];exact bK
 have hB1:Blk W (w.heap.size+1) 32 [Zz Zx paid]:=by rw [hW];exact bK
 have hB2:Blk W (w.heap.size+2) 32 [Zz Zx 0]:=by rw [hW];exact Blk.newAt _ _ _ _ Zs
 clear hW;have hI:=hI.ext hE;have hN:=hN.ext hE;have hb:=hb.ext hE;(with_reducible refine (hck W hI).mono ?_);rintro e W2 ⟨rfl,hx⟩;have hI:=hI.ext hx;have hN:=hN.ext hx;have hb:=hb.ext hx;have hB0:=hB0.extB hx;have hB1:=hB1.extB hx;have hB2:=hB2.extB hx;have hE:=hE.trans hx;clear hx hck;by_cases q1:cy s=0
 rotate_left
 ·have i1:(cy s != 0)=true:=by rw [aao];exact q1
  rw [aaj q1] at hR;replace hR:=FC hR;clear q1 hal hnc hkd hrd;generalize cy s=ce at *
  go_wp2_with (first
   | (refine aa RB1 rfl _ _ rfl (w.heap.size+2) 0 rfl _ rfl 32 _ hB2 rfl Zs oC ?_;intro V hV hMV)
   | fail)
  refine aaa (bc Tryz.results12 RB1 _ _ (w.heap.size+2) 0 [Zz Zx 0] rfl hV.rd rfl _ _ rfl rfl) rfl ?_;rw [<- hR.out];exact ld.err _ _ _ (E9 hE (hMV.below Zo hE.size))
 have i1:(cy s != 0)=false:=by rw [aaf];exact q1
 rw [aae (by rw [q1];simp)] at hR;have hstr:0<=s.str/\s.str<=255:=by
  exact z49q79
 generalize dC paid s.ev s.bu now=A at *;have hrdRu:=Rd.sub hB0.rd 2 [Zz Zx s.ev, Zz Zx s.bu] rfl;have hR0:=hB1.rd
 go_wp2_with (first
  | (refine af RB1 rfl _ rfl (w.heap.size+1) 0 rfl _ hR0 rfl ?_)
  | (refine af BV rfl _ rfl w.heap.size 2 rfl _ hrdRu rfl ?_)
  | fail)
 clear i1 q1 hrdRu hR0;(with_reducible refine (hal _).mono ?_);rintro e W3 ⟨rfl,hx⟩;have hI:=hI.ext hx;have hN:=hN.ext hx;have hb:=hb.ext hx;have hB0:=hB0.extB hx;have hB1:=hB1.extB hx;have hB2:=hB2.extB hx;have hE:=hE.trans hx;clear hx hal;by_cases q2:A.2=0
 rotate_left
 ·have i2:(A.2 != 0)=true:=by rw [aao];exact q2
  rw [aaj q2] at hR;replace hR:=FC hR;clear q2 hnc hkd hrd
  go_wp2_with (first
   | ((refine ag RB1 rfl rfl _ _ rfl rfl rfl rfl (by simp [Act.put]) _ rfl Zs rfl oC ?_;intro x hz _);have hB2:=hB2.ext x)
   | (refine aa RB1 rfl _ _ rfl (w.heap.size+2) 0 rfl _ rfl 32 _ hB2 rfl Zs oC ?_;intro V hV hMV)
   | fail)
  refine aaa (bc Tryz.results12 RB1 _ _ (w.heap.size+2) 0 [Zz Zx 0] rfl hV.rd rfl _ _ rfl rfl) rfl ?_;rw [<- hR.out];exact ld.err _ _ _ (E9 (hE.ext x) (hMV.below Zo (hE.ext x).size))
 have i2:(A.2 != 0)=false:=by rw [aaf];exact q2
 have hltB:=hB2.lt;rw [aae (by rw [q2];simp)] at hR;clear q2
 go_wp2_with (first
  | (refine ag RB1 rfl rfl _ _ rfl rfl rfl rfl (by simp [Act.put]) _ rfl Zs rfl oC ?_;intro x hz _)
  | fail)
 clear i2;have hx:Ext W3 (W3.ext x):=FE _ _;have hI:=hI.ext hx;have hN:=hN.ext hx;have hb:=hb.ext hx;have hB0:=hB0.extB hx;have hB1:=hB1.extB hx;have hB2:=hB2.extB hx;have hE:=hE.trans hx;clear hx;obtain ⟨gp,hgp⟩:∃ g,g=W3.heap.size:=⟨_,rfl⟩;rw [<- hgp] at hz ⊢;have hlt3:w.heap.size+2<gp:=Zo;clear hgp;generalize W3.ext x=W4 at *;(with_reducible refine (hnc _ hN).mono ?_);rintro e W5 ⟨rfl,hx⟩;have hI:=hI.ext hx;have hN:=hN.ext hx;have hb:=hb.ext hx;have hB0:=hB0.extB hx;have hB1:=hB1.extB hx;have hB2:=hB2.extB hx;have hz:=hz.extB hx;have hE:=hE.trans hx;clear hx hnc;cases q3:okN N
 ·have q3':(N.all λ n=>decide (n.length=16))=false:=q3;rw [aaj q3'] at hR;replace hR:=FC hR;clear q3 q3' hkd hrd
  go_wp2_with (first
   | (refine aa RB1 rfl _ _ rfl (w.heap.size+2) 0 rfl _ rfl 32 _ hB2 rfl Zs oC ?_;intro V hV hMV)
   | fail)
  refine aaa (bc Tryz.results12 RB1 _ _ (w.heap.size+2) 0 [Zz Zx 0] rfl hV.rd rfl _ _ rfl rfl) rfl ?_;rw [<- hR.out];exact ld.err _ _ _ (E9 hE (hMV.below Zo hE.size))
 have q3':¬ (N.all λ n=>decide (n.length=16))=false:=by rw [show (N.all λ n=>decide (n.length=16))=true from q3];simp
 rw [aae q3'] at hR;by_cases q4:N.length<9
 ·have i4:(N.length:Int)<9:=by omega
  rw [aaj q4] at hR;replace hR:=FC hR;clear q3 q3' q4 hkd hrd
  go_wp2_with (first
   | (refine aa RB1 rfl _ _ rfl (w.heap.size+2) 0 rfl _ rfl 32 _ hB2 rfl Zs oC ?_;intro V hV hMV)
   | fail)
  refine aaa (bc Tryz.results12 RB1 _ _ (w.heap.size+2) 0 [Zz Zx 0] rfl hV.rd rfl _ _ rfl rfl) rfl ?_;rw [<- hR.out];exact ld.err _ _ _ (E9 hE (hMV.below Zo hE.size))
 have i4:¬ (N.length:Int)<9:=Zo;rw [aae q4] at hR;have hN16:∀ x∈N,x.length=16:=λ x hx=>by
  have:=aaw.1 (show (N.all λ n=>decide (n.length=16))=true from q3) x hx;simpa using this
 clear q3 q3';have hR5:=hB0.rd
 go_wp2_with (first
  | (refine af nJ rfl _ rfl w.heap.size 0 rfl _ hR5 rfl ?_)
  | (refine ag mF rfl rfl _ _ rfl rfl rfl rfl (by simp [Act.put]) _ rfl Zs rfl oC ?_;intro x5 hGa _)
  | fail)
 clear hR5 i4;have hx:Ext W5 (W5.ext x5):=FE _ _;have hb6:=hb.ext hx;obtain ⟨ga,hga⟩:∃ g,g=W5.heap.size:=⟨_,rfl⟩;rw [<- hga] at hGa ⊢;have hgz:gp<ga:=by rw [hga];exact hz.lt
 replace hga:=Nat.le_of_eq hga.symm;have hx6:=hx;generalize W5.ext x5=W6 at *;clear hx;(with_reducible refine (hrd _ hb6).mono ?_);rintro e W7 ⟨p1,m1,rfl,⟨BP,hOP⟩,hx7⟩;have hGa:=hGa.extB hx7;have hx7:=hx6.trans hx7;have hm1:=hOP.ib.2;have hOP:=hOP.ib.1;have hk2:=λ h=>AY (q:=q) h;have hfs:=λ h f hf=>(gy (b:=q) h (f:=f) hf).2;have hkc:=oQ q;clear hb6 hx6 hrd;unfold yx at hR;generalize aE q=P at *
 go_wp2_with (first
  | (refine aa aK rfl _ _ rfl ga 5 rfl _ rfl 97 _ hGa rfl Zs oC ?_;intro V hV hMV)
  | fail)
 have hV:Blk V ga 97 [Zy ar nr cr, Zz Zx s.str, Zz Zx s.ev, Zz Zx s.bu, .bool s.opn, Zz Zx P.1.h.leap, Zz Zx P.1.h.ver, Zz Zx P.1.h.mode, Zz Zx P.1.h.strat, Zz Zx P.1.h.poll, Zz Zx P.1.h.prec, Zz Zv (n32 P.1.h.rd), Zz Zv (n32 P.1.h.rp), Zz Zv (n32 P.1.h.id), Zz Zw (n64 P.1.h.ref), Zz Zw (n64 P.1.h.org), Zz Zw (n64 P.1.h.rcv), Zz Zw (n64 P.1.h.tx), Zy p1 P.1.plain.length m1, Zy none 0 0, .bool false, Zz Zw (n64 r), Zz Zw (n64 t), Zy an N.length cn, .bool A.1.2]:=hV;have hEV:Ext W5 V:=E9 hx7 (hMV.below hga hx7.size);have hP:=hOP.mutq hGa Zs rfl hMV;have hI:=hI.ext hEV;have hN:=hN.ext hEV;have hb:=hb.ext hEV;have hB0:=hB0.extB hEV;have hB1:=hB1.extB hEV;have hB2:=hB2.extB hEV;have hz:=hz.extB hEV;have hE:=hE.trans hEV;clear hMV hEV hOP hGa hx7 hga;(with_reducible refine (hkd _ hb).mono ?_);rintro e W8 ⟨rfl,hx⟩;have hI:=hI.ext hx;have hN:=hN.ext hx;have hb:=hb.ext hx;have hP:=hP.ext hx;have hB0:=hB0.extB hx;have hB1:=hB1.extB hx;have hB2:=hB2.extB hx;have hz:=hz.extB hx;have hV:=hV.extB hx;have hE:=hE.trans hx;clear hx hkd;generalize ew q=K at *;have hrz:=hz.rd;have hr1:=hB1.rd;have hrV:=hV.rd;haveI:=hB0.blt;haveI:=hB1.blt;haveI:=hB2.blt;haveI:=hz.blt;haveI:=hV.blt;have v4:=hB0.cell? 4 rfl;have hl2:=hB2.lt;rcases hkc with rfl|rfl|rfl
 ·rw [aae Zd,aae Zd] at hR;clear hk2 hfs hstr hI hN hb hP hV hrV hN16;replace hR:=FC hR;go_wp2_with fail;refine R2.ae 2 [[],[],[0,1],[0,1,2]] [] (λ h=>(h rfl).elim) Zk Zk Zk Zk Zk ?_;simp only [q8q,q9q,q10q,q11q,q12q,q13q];(refine R2.ao RB1 _ rfl (λ _=>rfl) (w.heap.size+1) 0 (λ _=>by simp [go_sem]) _ hr1 rfl ?_);(repeat (refine R2.av ?_;(try simp only [Act.put,q0q,q1q,q2q])));(refine R2.ef ?_;intro us x hx hf hd);have hx:Ext W8 (W8.ext x):=hx;have hB2:=hB2.extB hx;have hE:=hE.trans hx
  go_wp2_with (first
   | (refine aa RB1 rfl _ _ rfl (w.heap.size+2) 0 rfl _ rfl 32 _ hB2 rfl Zs oC ?_;intro U hU hMU)
   | fail)
  refine aaa (bc Tryz.results12 RB1 _ _ (w.heap.size+2) 0 [Zz Zx paid] rfl hU.rd rfl _ _ rfl rfl) rfl ?_;rw [<- hR.out];exact ⟨none,0,rfl,Sl.nil _ _,aad _,E9 hE (hMU.below Zo hE.size)⟩
 ·rw [aaj rfl] at hR;by_cases q5:s.opn=true
  ·rw [aaj q5] at hR;clear hk2 hfs hI hN hb hP hN16;have hpl:=λ W=>uW ar p1 an nr cr m1 cn s P.1 r t N A.1.2 W hstr.1 hstr.2;generalize cG ⟨aI s P.1.h r t A.1.2,[],[],false⟩=L at *;generalize L.1=L at *;replace hR:=FC hR;clear hstr;go_wp2_with fail;refine R2.ae 4 [[],[0],[],[0,1],[0,1,2,3],[0,1,2,3,4]] [] (λ h=>(h rfl).elim) Zk Zk Zk Zk Zk ?_;simp only [q8q,q9q,q10q,q11q,q12q,q13q];(refine R2.ao mF _ rfl (λ _=>rfl) ga 0 (λ _=>by simp [go_sem]) _ hrV rfl ?_);(refine R2.ai (λ p => .slice (p 0).1 L.length (p 0).2) (λ p w''=>Sl w'' (p 0).1 L.length L/\L.length<=(p 0).2) (λ p w w' h hx=>⟨h.1.ext hx,h.2⟩) (λ us w' hx hf=>⟨rfl,?_⟩) ?_;(unfold gives;simp [go_sem,execOp];exact zZ (hpl _)));(refine R2.ao RB1 _ rfl (λ _=>rfl) gp 0 (λ _=>by simp [go_sem]) _ hrz rfl ?_);(repeat (refine R2.av ?_;(try simp only [Act.put,q0q,q1q,q2q])));(refine R2.ef ?_;intro us x hx hf hd);obtain ⟨hS,hc⟩:=hf;have hx:Ext W8 (W8.ext x):=hx;have hB2:=hB2.extB hx;have hE:=hE.trans hx
   go_wp2_with (first
    | (refine aa RB1 rfl _ _ rfl (w.heap.size+2) 0 rfl _ rfl 32 _ hB2 rfl Zs oC ?_;intro U hU hMU)
    | fail)
   refine aaa (bc Tryz.results12 RB1 _ _ (w.heap.size+2) 0 [Zz Zx A.1.1] rfl hU.rd rfl _ _ rfl rfl) rfl ?_;rw [<- hR.out];exact ⟨_,_,rfl,hS.mut hB2 Zs hMU,hc,E9 hE (hMU.below Zo hE.size)⟩
  ·rw [aae q5] at hR;replace q5:=eq_false_of_ne_true q5;clear hk2 hfs hstr hI hN hb hP hV hrV hN16;replace hR:=FC hR;go_wp2_with fail;refine R2.ae 2 [[],[],[0,1],[0,1,2]] [] (λ h=>(h rfl).elim) Zk Zk Zk Zk Zk ?_;simp only [q8q,q9q,q10q,q11q,q12q,q13q];(refine R2.ao RB1 _ rfl (λ _=>rfl) (w.heap.size+1) 0 (λ _=>by simp [go_sem]) _ hr1 rfl ?_);(repeat (refine R2.av ?_;(try simp only [Act.put,q0q,q1q,q2q])));(refine R2.ef ?_;intro us x hx hf hd);have hx:Ext W8 (W8.ext x):=hx;have hB2:=hB2.extB hx;have hE:=hE.trans hx
   go_wp2_with (first
    | (refine aa RB1 rfl _ _ rfl (w.heap.size+2) 0 rfl _ rfl 32 _ hB2 rfl Zs oC ?_;intro U hU hMU)
    | fail)
   refine aaa (bc Tryz.results12 RB1 _ _ (w.heap.size+2) 0 [Zz Zx paid] rfl hU.rd rfl _ _ rfl rfl) rfl ?_;rw [<- hR.out];exact ⟨none,0,rfl,Sl.nil _ _,aad _,E9 hE (hMU.below Zo hE.size)⟩
 ·rw [aae Zd,aaj rfl] at hR;obtain ⟨h0,h3,h10⟩:=hk2 rfl;have hsf:=λ W H1 H2 H3 H4=>wD ar p1 an nr cr m1 cn s P.1 r t N A.1.2 ab nb cb q W hstr.1 hstr.2 H1 hcr hnr H2 hm1 h3 h10 (λ f hf=>aal (hfs h0 f hf) Zo) H3 Zo (λ x hx=>by rw [hN16 x hx];omega) H4 hcb hnb;generalize jW s P.1 q r t A.1.2 N=S at *;clear hk2 hfs hstr h0 h3 h10 hN16;replace hR:=FC hR
  go_wp2_with (first
   | (refine af mF rfl _ rfl ga 0 rfl _ hrV rfl ?_)
   | fail)
  (with_reducible refine (hsf _ hI hP hN hb).mono ?_);rintro e W9 ⟨a5,c5,rfl,hS,hc5,hx⟩;clear hsf hI hP hN hb hrV hV hrz hr1;have hB1:=hB1.extB hx;have hB2:=hB2.extB hx;have hz:=hz.extB hx;have hE:=hE.trans hx;have hrz:=hz.rd;have hr1:=hB1.rd;clear hx;by_cases q6:S.2=true
  ·replace hR:=hR.out;rw [aaj q6] at hR;replace hR:=FC hR
   go_wp2_with (first
    | (refine af RB1 rfl _ rfl gp 0 rfl _ hrz rfl ?_)
    | ((refine aa RB1 rfl _ _ rfl (w.heap.size+1) 0 rfl _ rfl 32 _ hB1 rfl Zs oC ?_;intro U hU hMU);have hB2U:=Blk.turn hMU hB2 Zo;have hrU:=hU.rd;haveI:=Blk.blt hU)
    | fail)
   have hEU:Ext w U:=E9 hE (hMU.below Zo hE.size);have hS:=hS.mut hB1 Zs hMU;clear hMU hB1 hz hrz hr1;refine R2.ae 3 [[],[],[0],[0,1,2],[0,1,2,3]] [] (λ h=>(h rfl).elim) Zk Zk Zk Zk Zk ?_;simp only [q8q,q9q,q10q,q11q,q12q,q13q];(repeat (refine R2.av ?_;(try simp only [Act.put,q0q,q1q,q2q])));(refine R2.ao RB1 _ rfl (λ _=>rfl) (w.heap.size+1) 0 (λ _=>by simp [go_sem]) _ hrU rfl ?_);(repeat (refine R2.av ?_;(try simp only [Act.put,q0q,q1q,q2q])));(refine R2.ef ?_;intro us x hx hf hd);have hx:Ext U (U.ext x):=hx;have hB2U:=hB2U.extB hx;have hEU:=hEU.trans hx;have hS:=hS.ext hx
   go_wp2_with (first
    | (refine aa RB1 rfl _ _ rfl (w.heap.size+2) 0 rfl _ rfl 32 _ hB2U rfl Zs oC ?_;intro Z hZ hMZ)
    | fail)
   refine aaa (bc Tryz.results12 RB1 _ _ (w.heap.size+2) 0 [Zz Zx A.1.1] rfl hZ.rd rfl _ _ rfl rfl) rfl ?_;rw [<- hR.out];exact ⟨_,_,rfl,hS.mut hB2U Zs hMZ,hc5,E9 hEU (hMZ.below Zo hEU.size)⟩
  ·replace hR:=hR.out;rw [aae q6] at hR;replace hR:=FC hR;replace q6:=eq_false_of_ne_true q6;go_wp2_with fail;refine R2.ae 3 [[],[],[0],[0,1,2],[0,1,2,3]] [] (λ h=>(h rfl).elim) Zk Zk Zk Zk Zk ?_;simp only [q8q,q9q,q10q,q11q,q12q,q13q];(repeat (refine R2.av ?_;(try simp only [Act.put,q0q,q1q,q2q])));(refine R2.ao RB1 _ rfl (λ _=>rfl) (w.heap.size+1) 0 (λ _=>by simp [go_sem]) _ hr1 rfl ?_);(repeat (refine R2.av ?_;(try simp only [Act.put,q0q,q1q,q2q])));(refine R2.ef ?_;intro us x hx hf hd);have hx:Ext W9 (W9.ext x):=hx;have hB2:=hB2.extB hx;have hE:=hE.trans hx;have hS:=hS.ext hx
   go_wp2_with (first
    | (refine aa RB1 rfl _ _ rfl (w.heap.size+2) 0 rfl _ rfl 32 _ hB2 rfl Zs oC ?_;intro U hU hMU)
    | fail)
   refine aaa (bc Tryz.results12 RB1 _ _ (w.heap.size+2) 0 [Zz Zx paid] rfl hU.rd rfl _ _ rfl rfl) rfl ?_;rw [<- hR.out];exact ⟨_,_,rfl,hS.mut hB2 Zs hMU,hc5,E9 hE (hMU.below Zo hE.size)⟩
end Go.Proofs.P9

/- Layer 26: the sanity check. -/
namespace Go.Proofs.P9
open Go.RowKit Go.Sec Go.Oct Go.Jar Go.Case Go.Cook Go.Pkt Go.Tsrv BigFrame
def CC (J:Jar) (P:Pkt) (p:Par):Value := .tuple #[.agg #[.slice (p 0).1 J.up.length (p 0).2, .slice (p 1).1 J.dn.length (p 1).2, .slice (p 2).1 J.ck.length (p 2).2, .slice (p 3).1 J.last.length (p 3).2, Zz Zx J.net, Zz Zx J.sent], .agg #[Zz Zx P.h.leap, Zz Zx P.h.ver, Zz Zx P.h.mode, Zz Zx P.h.strat, Zz Zx P.h.poll, Zz Zx P.h.prec, Zz Zv (n32 P.h.rd), Zz Zv (n32 P.h.rp), Zz Zv (n32 P.h.id), Zz Zw (n64 P.h.ref), Zz Zw (n64 P.h.org), Zz Zw (n64 P.h.rcv), Zz Zw (n64 P.h.tx), .slice (p 4).1 P.plain.length (p 4).2, .slice (p 5).1 P.secret.length (p 5).2, .bool P.guarded], Zz Zx 0]
def tV (J:Jar) (P:Pkt) (p:Par) (w:World):Prop:=Sl w (p 0).1 J.up.length J.up/\J.up.length<=(p 0).2/\Sl w (p 1).1 J.dn.length J.dn/\J.dn.length<=(p 1).2/\Bsc w (p 2).1 J.ck.length J.ck/\J.ck.length<=(p 2).2/\fT w (p 2).1/\Sl w (p 3).1 J.last.length J.last/\J.last.length<=(p 3).2
theorem tV.ext {J:Jar} {P:Pkt} {p:Par} {w w':World} (h:tV J P p w) (hx:Ext w w'):tV J P p w':=by
 obtain ⟨h1,h2,h3,h4,h5,h6,h7,h8,h9⟩:=h;exact ⟨h1.ext hx,h2,h3.ext hx,h4,h5.ext hx,h6,h7.ext hx,h8.ext hx,h9⟩
theorem Aa {J:Jar} {P:Pkt} {w:World} {f:FuncId} {args:Array Value} (h:Calls Tryz.prog f args w (oH ((J,P),0) w)) :
  Calls Tryz.prog f args w λ e w''=>∃ v,e = .returned v/\∃ p:Par,v=CC J P p/\Ext w w''/\tV J P p w'':=by
 refine h.mono ?_;rintro e w' ⟨b1,n1,d1,b2,n2,d2,b3,n3,d3,b4,n4,d4,p1,m1,k1,p2,m2,k2,rfl,h1,h2,h3,h4,h5,h6,ht,h7,h8,h9,h10,h11,h12,hx⟩;have l1:=h1.len;have l2:=h3.len;have l3:=h5.len;have l4:=h7.len;have l5:=h9.len;have l6:=h11.len;subst l1 l2 l3 l4 l5 l6;exact ⟨_,rfl,λ i=>match i with|0=>(b1,d1)|1=>(b2,d2)|2=>(b3,d3)|3=>(b4,d4)|4=>(p1,k1)|_=>(p2,k2),rfl,hx,h1,h2,h3,h4,h5,h6,ht,h7,h8⟩
theorem tv (w:World):Calls Tryz.prog 14 #[] w λ e w'=>e = .returned (.bool true)/\Ext w w':=by
 obtain ⟨R1,hR1⟩:∃ R,lG ((1:Nat):Int) 0=R:=⟨_,rfl⟩;have hrg:=λ W=>mC 1 0 (show (1:Int)=((1:Nat):Int) from rfl) (show (0:Int)=((0:Nat):Int) from rfl) W Zo Zo;obtain ⟨hRv,hR4,hR0⟩:=pE 1 (t:=0) Zo;rw [hR1] at hrg hRv hR4 hR0;clear hR1;obtain ⟨c,rest,hck⟩:=qI (R:=R1) (v:=((5:Nat):Int)) (k:=2) (net:=0) Zo;have hqs:=λ ar nr cr W H1 H2=>lT ar nr cr R1 5 2 c rest (show (5:Int)=((5:Nat):Int) from rfl) (show (2:Int)=((2:Nat):Int) from rfl) W H1 H2 hRv Zo Zo Zo hck;have hns:=λ W=>mz 3 16 9 (show (3:Int)=((3:Nat):Int) from rfl) (show (16:Int)=((16:Nat):Int) from rfl) (show (9:Int)=((9:Nat):Int) from rfl) W Zo Zo Zo;have hN:=Bx ((3:Nat):Int) 9;have hNl:=jH ((3:Nat):Int) 16 9;have hr6:=λ W=>gR 6 32 (show (32:Int)=((32:Nat):Int) from rfl) W Zo;have e6:rnd 6 32=rnd (((5:Nat):Int)+1) 32:=by rfl
 rw [e6] at hr6;generalize kQ ((3:Nat):Int) 16 9=N at *;obtain ⟨b,hb1,hb2,hb3,hb4,hb5,hb6⟩:=BB (i:=0) (v:=5) (ev:=1) (bu:=64) (paid:=0) (now:=9) (p2:=10) (al:=true) (o:=false) hRv hRv (C2 hR0) Zo hck Zd Zd 70 80 hN Zo;have hlen:(jV 5 c rest.length).length=b.length:=by rw [hb5,hb2,hb4,aaj rfl]
 have hJv:=(kT hRv (v:=5) (k:=2) Zo hck).1;obtain ⟨J,hJ⟩:∃ J,th 5 c rest=J:=⟨_,rfl⟩;obtain ⟨q,hq⟩:∃ q,jV 5 c rest.length=q:=⟨_,rfl⟩;rw [hJ] at hqs hb3 hJv;rw [hq] at hqs hb1 hb5 hb6 hlen;generalize rnd (((5:Nat):Int)+1) 32=u6 at *;have hql:q.length<=1000000:=by rw [hb5];omega
 have hkd:=λ a c W H1 H2=>mN a q.length c q W H1 H2 hql;rw [hb6] at hkd;have hans:∀ (ar an ab:E8)(nr cr cn cb:Nat) (W:World),Ib W ar nr R1->nr<=cr->Bsc W an 9 N->9<=cn->Sl W ab q.length q->q.length<=cb->Calls Tryz.prog 12 #[.agg #[Zy ar nr cr, Zz Zx 2, Zz Zx 1, Zz Zx 64, .bool false], .agg #[Zz Zx 0], Zy ab q.length cb, Zz Zw 70, Zz Zw 80, Zz Zx 9, Zy an 9 cn] W (ld ((b,10),0) W):=λ ar an ab nr cr cn cb W H1 H2 H3 H4 H5 H6=>by
  have hl:=H1.len;have:=mV ar an ab nr cr cn q.length cb (mf R1 1 64 false) 0 9 70 80 N q W H1 H2 Zo (by rw [hNl];exact H3) Zo Zo H5 H6 hql;rw [hb1,hNl] at this;exact this
 have hbl:b.length<=1000000:=Zo;replace hlen:=FC hlen;have haj:=λ a1 a2 a3 a4 au ab n1 c1 n2 c2 n3 c3 n4 c4 cu cb W H1 m1 H2 m2 H3 H4 m3 H5 H6 H7 m4 H8 H9 Ha=>rX a1 a2 a3 a4 au ab n1 c1 n2 c2 n3 c3 n4 c4 32 cu b.length cb J u6 b W H1 m1 H2 m2 H3 H4 m3 H5 H6 H7 m4 H8 H9 Ha hbl;rw [hb3] at haj;generalize dR J ((jF (mf R1 1 64 false) ⟨15,upC ((5:Nat):Int),dnC ((5:Nat):Int),((0:Nat):Int),0⟩ N (7-rest.length) true).map (·.2))=J2 at *;obtain ⟨P2,hP2⟩:∃ P:Pkt,P=⟨uS (mf R1 1 64 false) (tQ 5) 70 80 true,[(260,u6)],jF (mf R1 1 64 false) ⟨15,upC ((5:Nat):Int),dnC ((5:Nat):Int),((0:Nat):Int),0⟩ N (7-rest.length) true,true⟩:=⟨_,rfl⟩;rw [<- hP2] at haj hb3;have hrcv:P2.h.rcv=70:=by rw [hP2];rfl
 have hrc:(Value.int .u64 (n64 P2.h.rcv)) = Zz Zw 70:=by rw [hrcv];rfl
 have hJf:=hJv;unfold bQ at hJf;rw [aaz,aaz] at hJf;obtain ⟨g1,g2,_⟩:=hJf;have g1:jz J:=aaV g1;have g2:∀ x∈J.ck,x.length<=1000000:=λ x hx=>by
  exact z42q91
 clear hb1 hb2 hb3 hb4 hb5 hb6 hN hP2 hrcv hJv hJ hq hck e6 hRv
 go_enter Tryz.func14,Tryz.ntmps14
 go_wp2_with fail;(with_reducible refine (hrg _).mono ?_);rintro e w1 ⟨ar,nr,cr,rfl,hI,hcr,hE⟩
 go_wp2_with (first
  | ((refine ag RR1 rfl rfl _ _ rfl rfl rfl rfl (by simp [Act.put]) _ rfl Zs rfl oC ?_;intro x1 hA _);have hAr:=Blk.rd hA)
  | (refine af RR1 rfl _ rfl w1.heap.size 0 rfl _ hAr rfl ?_)
  | fail)
 have hx1:Ext w1 (w1.ext x1):=FE _ _;have hI:=hI.ext hx1;have hE:=hE.trans hx1;obtain ⟨gA,hgA⟩:∃ g,g=w1.heap.size:=⟨_,rfl⟩;rw [<- hgA] at hA ⊢;clear hAr hx1 hgA;generalize w1.ext x1=W1 at *;(with_reducible refine (hqs _ _ _ _ hI hcr).mono ?_);rintro e w2 ⟨b1,n1,d1,b2,n2,d2,b3,n3,d3,b4,n4,d4,b5,d5,rfl,s1,k1,s2,k2,s3,k3,st,s4,k4,s5,k5,hx2⟩;have hI:=hI.ext hx2;have hA:=hA.extB hx2;have hE:=hE.trans hx2;clear hx2 hqs hrg
 go_wp2_with (first
  | ((refine ag RJ6 rfl rfl _ _ rfl rfl rfl rfl (by simp [Act.put]) _ rfl Zs rfl oC ?_;intro x2 hJb _);have hA2:=Blk.ext hA x2;have hA2r:=Blk.rd hA2)
  | (refine af RR1 rfl _ rfl gA 0 rfl _ hA2r rfl ?_)
  | fail)
 have hx2:Ext w2 (w2.ext x2):=FE _ _;have hI:=hI.ext hx2;have hE:=hE.trans hx2;have s1:=s1.ext hx2;have s2:=s2.ext hx2;have s3:=s3.ext hx2;have s4:=s4.ext hx2;have s5:=s5.ext hx2;obtain ⟨gJ,hgJ⟩:∃ g,g=w2.heap.size:=⟨_,rfl⟩;rw [<- hgJ] at hJb ⊢;clear hA hA2 hA2r hgJ hx2 st;generalize w2.ext x2=W2 at *;(with_reducible refine (iw ar nr cr false _).mono ?_);rintro e w3 ⟨rfl,hx3⟩;go_wp2_with fail;(with_reducible refine (hns _).mono ?_);rintro e w4 ⟨an,cn,rfl,hNn,hcn,htn,hx4⟩;have hx:=hx3.trans hx4;have hI:=hI.ext hx;have hE:=hE.trans hx;have s1:=s1.ext hx;have s2:=s2.ext hx;have s3:=s3.ext hx;have s4:=s4.ext hx;have s5:=s5.ext hx;have hJb:=hJb.extB hx;clear hx hx3 hx4 hns htn;go_wp2_with fail;(with_reducible refine (hans ar an b5 nr cr cn d5 _ hI hcr hNn hcn s5 k5).mono ?_);rintro e w5 ⟨a5,c5,rfl,hS5,hc5,hx5⟩;have hE:=hE.trans hx5;have s1:=s1.ext hx5;have s2:=s2.ext hx5;have s3:=s3.ext hx5;have s4:=s4.ext hx5;have s5:=s5.ext hx5;have hJb:=hJb.extB hx5;clear hx5 hans hI hNn
 go_wp2_with (first
  | (refine aa RB1 rfl _ _ rfl w5.heap.size 0 rfl _ rfl 32 _ ((Blk.new w5 #[Zz Zx 0] 32)) rfl Zs oC ?_;intro W5 hbk hM5)
  | fail)
 have hx5:Ext w5 W5:=E9 (FA w5 (.cells #[Zz Zx 0] 32)) (hM5.below (aad _) (FA w5 (.cells #[Zz Zx 0] 32)).size);have hE:=hE.trans hx5;have s1:=s1.ext hx5;have s2:=s2.ext hx5;have s3:=s3.ext hx5;have s4:=s4.ext hx5;have s5:=s5.ext hx5;have hJb:=hJb.extB hx5;have hS5:=hS5.ext hx5;clear hx5 hbk hM5;have l1:=s1.len;have l2:=s2.len;have l3:=s3.len;have l4:=s4.len;have m1:n1<=1000000:=by rw [<- l1,g1.1.1];omega
 have m2:n2<=1000000:=by rw [<- l2,g1.1.2];omega
 have m3:n3<=100000:=by have:=g1.2.1;omega
 have m4:n4<=1000000:=by rcases g1.2.2.1 with h|h <;> omega
 clear l1 l2 l3 l4 g1;have hrJ:=hJb.rd;refine R2.ae 10 [[],[],[],[0,1,2],[0,1,2,3],[0,1,2,3,4],[0,1,2,3,4],[0,1,2,3,4],[],[],[0,1,2,3,4,5,8,9],[0,1,2,3,4,5,6,8,9,10],[0,1,2,3,4,5,6,7,8,9,10,11]] [5,6,7] (λ _=>by intro c a d v w h;cases d <;> exact h) Zk Zk Zk Zk Zk ?_;simp only [q8q,q9q,q10q,q11q,q12q,q13q];(refine R2.ao RJ6 _ rfl (λ _=>rfl) gJ 0 (λ _=>by simp [go_sem]) _ hrJ rfl ?_);(refine R2.ai (λ p => .slice (p 0).1 32 (p 0).2) (λ p w''=>Own w'' 0 (p 0).1 32 (p 0).2 u6) (λ p w w' h hx=>h.ext hx) (λ us w' hx hf=>⟨rfl,?_⟩) ?_;(unfold gives;simp [go_sem,execOp];exact az (aak _) (hr6 _)));(repeat (refine R2.av ?_;(try simp only [Act.put,q0q,q1q,q2q])));(refine R2.ai (CC J2 P2) (tV J2 P2) (λ p w w' h hx=>h.ext hx) (λ us w' hx hf=>⟨rfl,?_⟩) ?_;(unfold gives;simp [go_sem,execOp];exact Aa (haj b1 b2 b3 b4 _ a5 n1 d1 n2 d2 n3 d3 n4 d4 _ c5 _ (s1.ext hx) m1 (s2.ext hx) k2 m2 (s3.ext hx) k3 m3 g2 (s4.ext hx) m4 (Own.sl (hf _ (aac _ (aab _)) rfl)) (hS5.ext hx) hc5)));(repeat (refine R2.av ?_;(try simp only [Act.put,q0q,q1q,q2q])));(refine R2.cJ _ ([Zy none 0 0, Zy none 0 0, Zy none 0 0, Zy none 0 0, Zz Zx 0, Zz Zx 0]) Tryz.zeroValue57 rfl rfl rfl ?_);(refine R2.cJ _ ([Zz Zx 0, Zz Zx 0, Zz Zx 0, Zz Zx 0, Zz Zx 0, Zz Zx 0, Zz Zv 0, Zz Zv 0, Zz Zv 0, Zz Zw 0, Zz Zw 0, Zz Zw 0, Zz Zw 0, Zy none 0 0, Zy none 0 0, .bool false]) Tryz.zeroValue67 rfl rfl rfl ?_);(refine R2.ef ?_;intro us x hx hf hd);have hne:=hd 8 Zs 9 Zs Zo;obtain ⟨-,hP,⟨g7,e7,hg7,hB7⟩,g8,e8,hg8,hB8⟩:=hf;have h78:g8≠g7:=λ e=>hne (by rw [e7,e8,e]);simp only [q14q,q15q,q16q];rw [e7,e8];clear hd e7 e8 hne haj hr6 hrJ hJb;generalize us 3=p at *;have hx:Ext W5 (W5.ext x):=hx;have hgw7:w.heap.size<=g7:=aal hE.size hg7;have hgw8:w.heap.size<=g8:=aal hE.size hg8;have s5:=s5.ext hx;have hE:=hE.trans hx;clear hx s1 s2 s3 s4 hS5;generalize W5.ext x=W6 at *;haveI:=hB7.blt;haveI:=hB8.blt;have hle:((b.length:Int) == (q.length:Int))=true:=by rw [aa5,hlen.out]
 have hrv:(n64 P2.h.rcv == 70)=true:=by
  have h:n64 P2.h.rcv=70:=by injection hrc
  rw [h];rfl
 clear hrc
 go_wp2_with (first
  | ((refine aa RJ6 rfl _ _ rfl g7 0 rfl _ rfl 57 _ hB7 rfl Zs oC ?_;intro V7 hV7 hM7);have hB87:=Blk.turn hM7 hB8 h78;haveI:=Blk.blt hB87)
  | ((refine aa aK rfl _ _ rfl g8 0 rfl _ rfl 67 _ hB87 rfl Zs oC ?_;intro V8 hV8 hM8);haveI:=Blk.blt hV8;have v11:=Blk.cell? hV8 11 rfl)
  | fail)
 have s5m:=(s5.mut hB7 Zs hM7).mut hB87 Zs hM8;have hE7:Ext w V7:=E9 hE (hM7.below hgw7 hE.size);have hE8:Ext w V8:=E9 hE7 (hM8.below hgw8 hE7.size);(with_reducible refine (hkd b5 d5 _ s5m k5).mono ?_);rintro e w9 ⟨rfl,hx9⟩;go_wp2_with fail;go_ret;exact ⟨rfl,hE8.trans hx9⟩
end Go.Proofs.P9
