/- Lemmas of this claim, several texts joined. -/
import Derived.Test.YtmdahnkcnagkjaaGreatY44
set_option maxRecDepth 100000
open Go.Value renaming int -> Zz,slice -> Zy
open Go.IntKind renaming i64 -> Zx,u64 -> Zw,u32 -> Zv
set_option maxHeartbeats 8000000
set_option linter.unusedVariables false
set_option linter.unusedSimpArgs false
/- Layer 18 of the document: Read, with the fields in a row of the call's own. -/
namespace Go.Proofs.YtmdahnkcnagkjaaGreat
open Go.RowKit Go.Sec Go.Oct Go.Pkt Go.Aes BigFrame
def mg (r:Pkt × Int) (w:World)(e:Ending) (w':World):Prop:=∃ a1 c1 B,e = .returned (.tuple #[.agg #[Zz Zx r.1.h.leap, Zz Zx r.1.h.ver, Zz Zx r.1.h.mode, Zz Zx r.1.h.strat, Zz Zx r.1.h.poll, Zz Zx r.1.h.prec, Zz Zv (n32 r.1.h.rd), Zz Zv (n32 r.1.h.rp), Zz Zv (n32 r.1.h.id), Zz Zw (n64 r.1.h.ref), Zz Zw (n64 r.1.h.org), Zz Zw (n64 r.1.h.rcv), Zz Zw (n64 r.1.h.tx), Zy a1 r.1.plain.length c1, Zy none 0 0, .bool false], Zz Zx r.2]) /\
 w.heap.size<=B/\B<=w'.heap.size/\cI 79 w' B a1 r.1.plain.length c1 r.1.plain/\Ext w w'
theorem mg.err (w w':World)(e:Int) (hx:Ext w w'):mg (aQ,e) w (.returned (.tuple #[.agg #[Zz Zx 0, Zz Zx 0, Zz Zx 0, Zz Zx 0, Zz Zx 0, Zz Zx 0, Zz Zv 0, Zz Zv 0, Zz Zv 0, Zz Zw 0, Zz Zw 0, Zz Zw 0, Zz Zw 0, Zy none 0 0, Zy none 0 0, .bool false], Zz Zx e])) w':=⟨none,0,w.heap.size,rfl,aae _,hx.size,cI.nil _ _ _,hx⟩
theorem th (a:Option Addr)(n c:Nat) (b:List UInt8)(w:World)(hS:Sl w a n b) (hc:n<=c) (hn:n<=1000000) :
  Calls Tryz.prog 29 #[Zy a n c] w (mg (aC b) w):=by
 have hl:=hS.len;have hdh:=λ W H=>jd a n c b W H hc hn;have hrl:=mq (b:=b);obtain ⟨r,hr⟩:∃ r,aC b=r:=⟨_,rfl⟩;rw [hr];have hr:=Lib.hid hr
 go_enter Tryz.func29,Tryz.ntmps29
 go_wp2_with fail;refine bC ?_;intro W hW;have hE:Ext w W:=by rw [hW];exact eX
 have hP:Blk W w.heap.size 67 [Zz Zx 0, Zz Zx 0, Zz Zx 0, Zz Zx 0, Zz Zx 0, Zz Zx 0, Zz Zv 0, Zz Zv 0, Zz Zv 0, Zz Zw 0, Zz Zw 0, Zz Zw 0, Zz Zw 0, Zy none 0 0, Zy none 0 0, .bool false]:=by rw [hW];exact bK
 clear hW;(with_reducible refine (hdh W (hS.ext hE)).mono ?_);rintro e w1 ⟨b1,d1,rfl,hS1,hd1,hx1⟩;have hE1:=hE.trans hx1;have hP1:=hP.extB hx1;haveI:=hP1.blt;clear hE hP hx1 hdh;by_cases q1:(bD b).2=0
 ·rw [q1];have hdf:=λ W H=>jh b1 (bD b).1.2.length d1 (bD b).1.2 W H hd1 Zo;have hok:=λ h=>iQ q1 h;have hbad:=λ h=>fx q1 h;generalize (bD b).1.2=R at *;generalize (bD b).1.1=H at *
  go_wp2_with (first
   | (refine ag bc rfl rfl _ _ rfl rfl rfl rfl (by simp [Act.put]) _ rfl Zs rfl oC ?_;intro x hz _)
   | fail)
  refine bC ?_;intro W2 hW2;have hx2:Ext w1 W2:=by rw [hW2];exact eX
  have hzz:Blk W2 w1.heap.size 64 [Zz Zx H.leap, Zz Zx H.ver, Zz Zx H.mode, Zz Zx H.strat, Zz Zx H.poll, Zz Zx H.prec, Zz Zv (n32 H.rd), Zz Zv (n32 H.rp), Zz Zv (n32 H.id), Zz Zw (n64 H.ref), Zz Zw (n64 H.org), Zz Zw (n64 H.rcv), Zz Zw (n64 H.tx)]:=by rw [hW2];exact hz.extB eX
  have hP2:=hP1.extB hx2;have hE2:=hE1.trans hx2;have hS2:=hS1.ext hx2;have hlt:=hP1.lt;clear hW2 hx2 hE1 hP1 hS1;(with_reducible refine (hdf W2 hS2).mono ?_);rintro e w3 ⟨b3,d3,rfl,hO3,hx3⟩;have hP3:=hP2.extB hx3;have hz3:=hzz.extB hx3;have hE3:=hE2.trans hx3;have hbs:=hE2.size;have hb3:=hx3.size;haveI:=hP3.blt;clear hP2 hE2 hdf hz hzz hx3;by_cases q2:(bj R).2=0
  ·rw [q2];have er:=Lib.hid (show r=(⟨H,(bj R).1,[],false⟩,0) by rw [<- hr.out];exact hok q2);clear hok hbad q2;generalize (bj R).1=L at *
   go_wp2_with (first
    | (refine af bc rfl _ rfl w1.heap.size 0 rfl _ ((hz3.extB eX).rd) rfl ?_)
    | (refine aa aV rfl _ _ rfl w.heap.size 0 rfl _ rfl 67 _ ((hP3.extB eX)) rfl Zs oC ?_;intro V hV hMV)
    | fail)
   refine aab (av Tryz.results29 aV _ _ w.heap.size 0 _ rfl hV.rd rfl (Zz Zx 0) rfl) rfl ?_;rw [er.out];exact ⟨b3,d3,W2.heap.size,rfl,hbs,aaq hb3 hMV.size,hO3.mut hP3 Zd Zs hMV,Below.trans hE3 (hMV.below (aae _) hE3.size)⟩
  ·have er:=Lib.hid (show r=(aQ,(bj R).2) by rw [<- hr.out];exact hbad q2);have i2:=ne0 q2;generalize (bj R).2=v at *;generalize (bj R).1=L at *;clear q2 hok hbad
   go_wp2_with (first
    | (refine aa aV rfl _ _ rfl w.heap.size 0 rfl _ rfl 67 _ ((hP3.extB eX)) rfl Zs oC ?_;intro V hV hMV)
    | fail)
   refine aab (av Tryz.results29 aV _ _ w.heap.size 0 _ rfl hV.rd rfl (Zz Zx v) rfl) rfl ?_;rw [er.out];exact mg.err _ _ _ (Below.trans (hE3.trans eX) (hMV.below (aae _) (Below.size (hE3.trans eX))))
 ·have er:=Lib.hid (show r=(aQ,(bD b).2) by rw [<- hr.out];exact ft q1);have i1:=ne0 q1;generalize (bD b).2=v at *;generalize (bD b).1.1=H at *;clear q1
  go_wp2_with (first
   | (refine ag bc rfl rfl _ _ rfl rfl rfl rfl (by simp [Act.put]) _ rfl Zs rfl oC ?_;intro x hz _)
   | (refine aa aV rfl _ _ rfl w.heap.size 0 rfl _ rfl 67 _ ((hP1.extB eX)) rfl Zs oC ?_;intro V hV hMV)
   | fail)
  refine aab (av Tryz.results29 aV _ _ w.heap.size 0 _ rfl hV.rd rfl (Zz Zx v) rfl) rfl ?_;rw [er.out];exact mg.err _ _ _ (Below.trans (hE1.trans eX) (hMV.below (aae _) (Below.size (hE1.trans eX))))
end Go.Proofs.YtmdahnkcnagkjaaGreat
