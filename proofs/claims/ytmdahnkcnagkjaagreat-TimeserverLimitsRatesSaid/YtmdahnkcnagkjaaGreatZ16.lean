/- Lemmas of this claim, several texts joined. -/
import Derived.Test.YtmdahnkcnagkjaaGreatZ1
import Derived.Test.YtmdahnkcnagkjaaGreatZ11
import Derived.Test.YtmdahnkcnagkjaaGreatZ14
import Derived.Test.YtmdahnkcnagkjaaGreatZ19
set_option maxRecDepth 100000
open List renaming setIfInBounds_toArray → q0q, set_cons_succ → q1q, set_cons_zero → q2q, mem_cons → q3q, not_mem_nil → q4q, nil_append → q5q, cons_append → q6q, mem_append → q7q, take_succ_cons → q8q, take_zero → q9q, drop_succ_cons → q10q, drop_zero → q11q, take_nil → q12q, drop_nil → q13q, getElem_toArray → q14q, getElem_cons_succ → q15q, getElem_cons_zero → q16q
open Go.IntWalk renaming i64_in → q17q, rem_in → q18q, wrap64_in → q19q
set_option maxHeartbeats 8000000
set_option linter.unusedVariables false
set_option linter.unusedSimpArgs false
/- S2V of the program: the method. -/
namespace Go.Proofs.YtmdahnkcnagkjaaGreat
open Go.RowKit Go.Sec Go.Oct Go.Aes BigFrame
theorem jS {w:World} {g:Nat} {T:TypeId} {vs cs:List Value} (h:Blk w g T (vs.take 0++cs++vs.drop (0+16))) (hv:vs.length=16):Blk w g T cs:=by
 rw [q9q,q5q,aaK (by omega),List.append_nil] at h
 exact h
theorem sU (g:Nat) (ks:List UInt8)(b:Option Addr)(n cb:Nat) (L:List (List UInt8)) (w:World)(hC:Blk w g 231 (ks.map u8v)) (hks:ks.length=176) (hl:Bsc w b n L) (hnc:n≤cb) (h1:1≤n) (hn:n≤1000) (hmax:∀ x∈L,x.length≤65535) :
  Calls Tryz.prog 177 #[.agg (kc g (eW ks) (e9 ks)).toArray, .slice b n cb] w fun e w'=>e = .returned (.agg ((ma ks L).map u8v).toArray)∧Ext w w':=by
 have hmk:=lL
 have har2:=fun W a len cap=>run_arrayAt (P:=Tryz.prog) W 219 5 16 a len cap Tryz.underlying219
 have hLl:=hl.len
 have hgl:=hC.lt
 obtain ⟨m,hnm'⟩:∃ m:Nat,n=m+1:=⟨n-1,by omega⟩
 have hnmI:(n:Int)-1=(m:Int):=by omega
 have hmL:m<L.length:=by omega
 have hfin:=Lib.hid (show ma ks L=mac ks (gY (iO ks (L.take m)) (L[m]'hmL)) from pQ ks L m (by omega))
 have hnm:=Lib.hid hnm'
 clear hnm'
 have kL:∀ (a:Option Addr)(n cap:Nat) (l:List UInt8)(w:World),Blk w g 231 (ks.map u8v)→Sl w a n l→n≤cap→n≤1000000 →
   Calls Tryz.prog 178 #[.agg (kc g (eW ks) (e9 ks)).toArray, .slice a n cap] w fun e w'=>e = .returned (.agg ((mac ks l).map u8v).toArray)∧Ext w w' :=
  fun a n cap l w hC hS hc hn=>uU g ks (eW ks) (e9 ks) l a n cap w hC hks (bm _) (bm _) hS hc hn
 have hkl:=pO g (eW ks) (e9 ks) (bm _) (bm _)
 have hk1:=xY g (eW ks) (e9 ks)
 generalize kc g (eW ks) (e9 ks)=kk at *
 have hK0:=Blk.new w kk.toArray 223
 obtain ⟨zs,hzs,hzl,hR0⟩:∃ zs:List UInt8,zs=List.replicate 16 0∧zs.length=16∧Blk ((w.alloc (.cells kk.toArray 223)).alloc (.cells #[Value.int IntKind.u8 0,Value.int IntKind.u8 0,Value.int IntKind.u8 0,Value.int IntKind.u8 0,Value.int IntKind.u8 0,Value.int IntKind.u8 0,Value.int IntKind.u8 0,Value.int IntKind.u8 0,Value.int IntKind.u8 0,Value.int IntKind.u8 0,Value.int IntKind.u8 0,Value.int IntKind.u8 0,Value.int IntKind.u8 0,Value.int IntKind.u8 0,Value.int IntKind.u8 0,Value.int IntKind.u8 0] 219)) (w.heap.size+1) 219 (zs.map u8v):=⟨_,rfl,rfl,Blk.newAt _ _ _ _ (by simp)⟩
 have hK1:=hK0.alloc (.cells #[Value.int IntKind.u8 0,Value.int IntKind.u8 0,Value.int IntKind.u8 0,Value.int IntKind.u8 0,Value.int IntKind.u8 0,Value.int IntKind.u8 0,Value.int IntKind.u8 0,Value.int IntKind.u8 0,Value.int IntKind.u8 0,Value.int IntKind.u8 0,Value.int IntKind.u8 0,Value.int IntKind.u8 0,Value.int IntKind.u8 0,Value.int IntKind.u8 0,Value.int IntKind.u8 0,Value.int IntKind.u8 0] 219)
 have hC1:=(hC.alloc (.cells kk.toArray 223)).alloc (.cells #[Value.int IntKind.u8 0,Value.int IntKind.u8 0,Value.int IntKind.u8 0,Value.int IntKind.u8 0,Value.int IntKind.u8 0,Value.int IntKind.u8 0,Value.int IntKind.u8 0,Value.int IntKind.u8 0,Value.int IntKind.u8 0,Value.int IntKind.u8 0,Value.int IntKind.u8 0,Value.int IntKind.u8 0,Value.int IntKind.u8 0,Value.int IntKind.u8 0,Value.int IntKind.u8 0,Value.int IntKind.u8 0] 219)
 have hx1:Ext w ((w.alloc (.cells kk.toArray 223)).alloc (.cells #[Value.int IntKind.u8 0,Value.int IntKind.u8 0,Value.int IntKind.u8 0,Value.int IntKind.u8 0,Value.int IntKind.u8 0,Value.int IntKind.u8 0,Value.int IntKind.u8 0,Value.int IntKind.u8 0,Value.int IntKind.u8 0,Value.int IntKind.u8 0,Value.int IntKind.u8 0,Value.int IntKind.u8 0,Value.int IntKind.u8 0,Value.int IntKind.u8 0,Value.int IntKind.u8 0,Value.int IntKind.u8 0] 219)):=eX
 have hs1:((w.alloc (.cells kk.toArray 223)).alloc (.cells #[Value.int IntKind.u8 0,Value.int IntKind.u8 0,Value.int IntKind.u8 0,Value.int IntKind.u8 0,Value.int IntKind.u8 0,Value.int IntKind.u8 0,Value.int IntKind.u8 0,Value.int IntKind.u8 0,Value.int IntKind.u8 0,Value.int IntKind.u8 0,Value.int IntKind.u8 0,Value.int IntKind.u8 0,Value.int IntKind.u8 0,Value.int IntKind.u8 0,Value.int IntKind.u8 0,Value.int IntKind.u8 0] 219)).heap.size=w.heap.size+2:=by simp
 have hK1:Blk ((w.alloc (.cells kk.toArray 223)).alloc (.cells #[Value.int IntKind.u8 0,Value.int IntKind.u8 0,Value.int IntKind.u8 0,Value.int IntKind.u8 0,Value.int IntKind.u8 0,Value.int IntKind.u8 0,Value.int IntKind.u8 0,Value.int IntKind.u8 0,Value.int IntKind.u8 0,Value.int IntKind.u8 0,Value.int IntKind.u8 0,Value.int IntKind.u8 0,Value.int IntKind.u8 0,Value.int IntKind.u8 0,Value.int IntKind.u8 0,Value.int IntKind.u8 0] 219)) w.heap.size 223 kk:=hK1
 clear hK0 hzs
 go_enter Tryz.func177,Tryz.ntmps177
 go_wp2_with fail
 generalize (w.alloc _).alloc _=W at *
 refine R2.ae 4 [[],[],[0,1],[],[0,1,2,3]] (by kernel_rfl) (by kernel_rfl) (by kernel_rfl) (by kernel_rfl) ?_;simp only [q8q,q9q,q10q,q11q,q12q,q13q]
 (repeat (apply R2.aE;(case h=>(intro us w' hx hf;obtain ⟨x,rfl⟩:=hx.out;refine ⟨rfl,?_⟩;simp [go_sem,execOp, *];(try simp (disch:=omega) only [q17q,q18q,q19q]);rfl));(try simp only [Act.put,q0q,q1q,q2q])))
 (refine R2.aw (R71) _ rfl (fun _=>rfl) (w.heap.size) (0) (fun _=>by simp [go_sem]) (kk) (hK1.rd) (hkl) ?_)
 (refine R2.aj (fun p => .slice (p 0).1 (16) (16)) (fun p w''=>Sl w'' (p 0).1 (16) (dd)) (fun p w w' h hx=>h.ext hx) (fun us w' hx hf=>⟨rfl,?_⟩) ?_;(unfold gives;simp [go_sem,execOp,lL];exact ⟨fun _=>(some ⟨w'.heap.size,0,none⟩,0),rfl,Ext.of_alloc _ _,(bX _ _).sl rfl⟩))
 (refine R2.aj (fun _ => .agg ((mac ks dd).map u8v).toArray) (fun _ _=>True) (fun _ _ _ _ _=>trivial) (fun us w' hx hf=>⟨rfl,?_⟩) ?_;(unfold gives;simp [go_sem,execOp];refine (kL _ _ _ _ _ (hC1.extB hx) (hf _ (aae _ (aab _)) rfl) (by omega) (by omega)).mono ?_;rintro e w1 ⟨rfl,hx1⟩;first|exact ⟨rfl,hx1⟩|simpa using hx1))
 (repeat (apply R2.aE;(case h=>(intro us w' hx hf;obtain ⟨x,rfl⟩:=hx.out;refine ⟨rfl,?_⟩;simp [go_sem,execOp, *];(try simp (disch:=omega) only [q17q,q18q,q19q]);rfl));(try simp only [Act.put,q0q,q1q,q2q])))
 (refine R2.cO _ (List.replicate 16 (u8v 0)) Tryz.zeroValue219 rfl rfl rfl ?_)
 (refine R2.bj ?_;intro us w' hx hf hd;obtain ⟨x,rfl⟩:=hx.out;(try simp only [Act.put,q0q,q1q,q2q,ag]);(try simp only [q3q,q4q,aao,aaa,aal,q5q,q6q,q7q,aap,aaq,aar] at hf);(try simp only [Nat.reduceAdd,aad] at hf ⊢))
 obtain ⟨-,g6,e6,h6,hB6⟩:=hf
 have hlW:=hx1.size
 rw [e6]
 clear e6 hd
 have hK2:=hK1.extB hx
 have hR2:=hR0.extB hx
 have hC2:=hC1.extB hx
 have hx2:=hx1.trans hx
 clear hK1 hR0 hC1
 generalize W.ext x=W2 at *
 (refine aa R60 rfl _ _ rfl g6 0 rfl ((mac ks dd).map u8v) rfl _ _ hB6 (by simp [gg]) (by simp) (aK _) ?_;intro W3 hB8 hM8)
 have hD3:Blk W3 g6 219 ((iO ks (L.take 0)).map u8v):=by rw [wy];simpa using hB8
 have hK3:=hK2.turn hM8 (by omega)
 have hR3:=hR2.turn hM8 (by omega)
 have hC3:=hC2.turn hM8 (by omega)
 have hx3:Ext w W3:=Below.trans hx2 (hM8.below (by omega) hx2.size)
 clear hK2 hR2 hC2 hB8 hM8 hB6 hx2 hx hx1
 have m0:(m:Int)≤(cb:Int):=by have:=hnm.out;omega
 go_wp2_with fail
 go_loopw [24,8,9] (fun v24 _ _ wr=>∃ j:Nat,j≤m∧v24 = .int .i64 j∧Blk wr g6 219 ((iO ks (L.take j)).map u8v)∧Blk wr w.heap.size 223 kk∧Blk wr (w.heap.size+1) 219 (zs.map u8v)∧Blk wr g 231 (ks.map u8v)∧Ext w wr) (fun v24 _ _ _=>m-(intOf v24).toNat)
 case atStart=>exact ⟨0,by omega,rfl,hD3,hK3,hR3,hC3,hx3⟩
 case round =>
  clear hD3 hK3 hR3 hC3 hx3
  obtain ⟨j,hj,rfl,hD,hK,hR,hC,hx⟩:=hrel
  obtain ⟨b0,o0,a',n',c',rfl,hb0,hcell0,hc',hS⟩:=hl.at j (by have:=hnm.out;omega)
  have hcell:wr.cell? ⟨b0,o0+j,none⟩=some (.slice a' n' c'):=(hx.cell (p:=⟨b0,_,none⟩) hb0.lt).trans hcell0
  have hjL:j<L.length:=by have:=hnm.out;omega
  have hmx:=hmax _ (aaM hjL)
  have hn':=hS.len
  have hdl:=jz ks (L.take j)
  have j0:(0:Int)≤(j:Int):=by omega
  have j3:(j:Int)<(n:Int):=by have:=hnm.out;omega
  by_cases hlt:j<m
  ·have j1:(j:Int)<(m:Int):=by omega
   have hsc:=Lib.hid (ql ks L j hjL)
   generalize iO ks (L.take j)=d at *
   generalize L[j]'hjL=s at *
   have htl:=bm d
   have hml:=gg ks s
   go_wp2_with (first
    | (refine af (R60) rfl _ rfl (g6) (0) rfl (d.map u8v) (hD.rd) ((by simpa using hdl)) ?_)
    | fail)
   refine (jP d hdl _).mono ?_;rintro e W4 ⟨rfl,hx4⟩
   have hD4:=hD.extB hx4
   have hK4:=hK.extB hx4
   have hR4:=hR.extB hx4
   have hC4:=hC.extB hx4
   have hxw4:=hx.trans hx4
   have hgl:=hD4.lt
   have hkl':=hK4.lt
   have hg6:w.heap.size+1<g6:=by omega
   clear hD hK hR hC hx4 hcell
   have hd1:(d.map u8v).length=16:=by simpa using hdl
   have ht1:((tw d).map u8v).length=16:=by simpa using htl
   have hm1:((mac ks s).map u8v).length=16:=by simpa using hml
   go_wp2_with (first
    | (refine aa R60 rfl _ _ rfl g6 0 rfl ((tw d).map u8v) rfl 219 _ hD4 ht1 (by omega) (aK _) ?_;intro W5 hD5 hM5;have hK5:=hK4.turn hM5 (by omega))
    | (refine af (R71) rfl _ rfl (w.heap.size) (0) rfl (kk) (hK5.rd) (hkl) ?_)
    | fail)
   have hD5:Blk W5 g6 219 ((tw d).map u8v):=jS hD5 hd1
   have hR5:=hR4.turn hM5 (by omega)
   have hC5:=hC4.turn hM5 (by omega)
   have hb5:=hxw4.size
   have hxw5:Ext w W5:=Below.trans hxw4 (hM5.below (by omega) hxw4.size)
   refine (kL _ _ _ s _ hC5 (hS.ext hxw5) hc' (by omega)).mono ?_;rintro e W6 ⟨rfl,hx6⟩
   have hD6:=hD5.extB hx6
   have hK6:=hK5.extB hx6
   have hR6:=hR5.extB hx6
   have hC6:=hC5.extB hx6
   have hxw6:=hxw5.trans hx6
   have hgl6:=hD6.lt
   clear hD4 hK4 hR4 hC4 hM5 hD5 hK5 hR5 hC5 hx6
   go_wp2_with (first
    | (refine ai (R60) rfl rfl _ _ rfl rfl rfl rfl (by simp [Act.put]) ((mac ks s).map u8v) rfl (by simp) (hm1) (aK _) ?_;intro x7 hB7 _)
    | fail)
   have hD7:=hD6.ext x7
   have hK7:=hK6.ext x7
   have hR7:=hR6.ext x7
   have hC7:=hC6.ext x7
   have hxw7:=hxw6.ext x7
   have hb7:=hxw6.size
   clear hD6 hK6 hR6 hC6
   refine (fK g6 219 (tw d) (mac ks s) W6.heap.size 0 _ hD7 htl hml hB7.rd (by omega)).mono ?_
   rintro e W8 ⟨rfl,hD8,hM8⟩
   have hK8:=hK7.turn hM8 (by omega)
   have hR8:=hR7.turn hM8 (by omega)
   have hC8:=hC7.turn hM8 (by omega)
   have hxw8:Ext w W8:=Below.trans hxw7 (hM8.below (by omega) hxw7.size)
   rw [← hsc.out] at hD8
   clear hD7 hK7 hR7 hC7 hM8 hB7
   go_wp2_with fail
   go_roundw
   case rel=>exact ⟨j+1,by omega,by go_num,hD8,hK8,hR8,hC8,hxw8⟩
   case measure=>simp [intOf];omega
  ·obtain rfl:j=m:=by omega
   have hgl6:=hD.lt
   have hkl':=hK.lt
   have hbw:=hx.size
   have hSw:=hS.ext hx
   replace hfin:Hid (ma ks L=mac ks (gY (iO ks (L.take j)) (L[j]'hmL))):=hfin
   generalize iO ks (L.take j)=d at *
   generalize L[j]'hmL=s at *
   have hd1:(d.map u8v).length=16:=by simpa using hdl
   have hg6:w.heap.size+1<g6:=by omega
   by_cases h16:16≤n'
   ·have h16I:(16:Int)≤(n':Int):=by omega
    have q0:(0:Int)≤(n':Int)-16:=by omega
    have q1:((n':Int)-16).toNat=n'-16:=by omega
    have q2:(n':Int)-16≤(n':Int):=by omega
    have q3:n'-(n'-16)=16:=by omega
    have q4:(n':Int)-16≤(c':Int):=by omega
    have q5:(16:Int)≤(c':Int)-((n':Int)-16):=by omega
    have hS1:=hS.take (n'-16) (by omega)
    have hS2:=hSw.drop c' (n'-16) hc'
    rw [q3] at hS2
    replace hfin:Hid (ma ks L=mac ks (s.take (n'-16)++bJ (s.drop (n'-16)) d)):=Lib.hid (by
     rw [hfin.out,gY,aam (by omega),hn'])
    obtain ⟨b1,o1,rfl,hb1,_⟩:=hSw.at 0 (by omega)
    have hl2:=hS2.len
    unfold dU at hS2
    rw [aaf (by omega)] at hS2
    simp only [Option.map_some,abE,bW] at hS2
    have hl1:=hS1.len
    generalize s.take (n'-16)=s1 at *
    generalize s.drop (n'-16)=s2 at *
    have hr2:=hS2.by'
    have hl2':(s2.map u8v).length=16:=by simpa using hl2
    go_wp2_with (first
     | (refine af (R60) rfl _ rfl (b1) (o1+(n'-16)) rfl (s2.map u8v) (hr2) (hl2') ?_)
     | (refine ai (R60) rfl rfl _ _ rfl rfl rfl rfl (by simp [Act.put]) (s2.map u8v) rfl (by simp) (hl2') (aK _) ?_;intro x7 hB7 _)
     | fail)
    have hD7:=hD.ext x7
    have hK7:=hK.ext x7
    have hR7:=hR.ext x7
    have hC7:=hC.ext x7
    have hxw7:=hx.ext x7
    refine (fK wr.heap.size 219 s2 d g6 0 _ hB7 hl2 hdl hD7.rd (by omega)).mono ?_
    rintro e W8 ⟨rfl,hX8,hM8⟩
    have hK8:=hK7.turn hM8 (by omega)
    have hR8:=hR7.turn hM8 (by omega)
    have hC8:=hC7.turn hM8 (by omega)
    have hxw8:Ext w W8:=Below.trans hxw7 (hM8.below (by omega) hxw7.size)
    have hS8:=hS1.ext hxw8
    have hX9:=hX8.sl (n:=16) (by simp [bJ])
    have hb8:=hxw8.size
    clear hD7 hK7 hR7 hC7 hM8 hB7 hD hK hR hC
    go_wp2_with fail
    have hSE:∀ w',Ext (W8) w'→(fun w'=>Blk w' w.heap.size 223 kk) w':=(fun _ h=>hK8.extB h);have hExt0:Ext (W8) (W8).drew:=Ext.drew (Ext.refl _);refine abf (S:=fun w'=>Blk w' w.heap.size 223 kk) (by kernel_rfl) (hSE _ hExt0) (fun hHeld=>?_)
    refine aaE (i:=0) rfl (by kernel_rfl) (by kernel_rfl) (by kernel_rfl) (fun _ _ _ h=>h) (R5.fP (R71) _ rfl rfl (w.heap.size) (0) rfl (kk) ((fun w' h=>h.rd)) (hkl)) hHeld ?_;(try simp only [q14q,q15q,q16q,Act.put,q0q,q1q,q2q])
    refine aaE (i:=1) (v:=?v2) rfl (by kernel_rfl) (by kernel_rfl) (by kernel_rfl) (fun _ _ _ h=>h) (Or.inl ⟨by rfl,?hy2⟩) hHeld ?_;(case hy2=>(intro w' hx;simp [go_sem,execOp, *];(try simp (disch:=omega) only [q17q,q18q,q19q]);rfl));(try simp only [q14q,q15q,q16q,Act.put,q0q,q1q,q2q])
    refine aaE (i:=2) (v:=?v3) rfl (by kernel_rfl) (by kernel_rfl) (by kernel_rfl) (fun _ _ _ h=>h) (Or.inl ⟨by rfl,?hy3⟩) hHeld ?_;(case hy3=>(intro w' hx;simp [go_sem,execOp, *];(try simp (disch:=omega) only [q17q,q18q,q19q]);rfl));(try simp only [q14q,q15q,q16q,Act.put,q0q,q1q,q2q])
    refine aaE (i:=3) (v:=?v4) rfl (by kernel_rfl) (by kernel_rfl) (by kernel_rfl) (fun _ _ _ h=>h) (Or.inl ⟨by rfl,?hy4⟩) hHeld ?_;(case hy4=>(intro w' hx;simp [go_sem,execOp, *];(try simp (disch:=omega) only [q17q,q18q,q19q]);rfl));(try simp only [q14q,q15q,q16q,Act.put,q0q,q1q,q2q])
    refine aaE (i:=5) (v:=?v5) rfl (by kernel_rfl) (by kernel_rfl) (by kernel_rfl) (fun _ _ _ h=>h) (Or.inl ⟨by rfl,?hy5⟩) hHeld ?_;(case hy5=>(intro w' hx;simp [go_sem,execOp, *];(try simp (disch:=omega) only [q17q,q18q,q19q]);rfl));(try simp only [q14q,q15q,q16q,Act.put,q0q,q1q,q2q])
    refine R5.nw 0 [[],[],[],[1,2],[1,2,3],[],[1,2,3,4,5],[0,1,2,3,4,5,6],[0,1,2,3,4,5,6,7]] [0,1,2,3,5] hExt0 hSE (by kernel_rfl) (by kernel_rfl) (by kernel_rfl) (by kernel_rfl) (by kernel_rfl) ?_;simp only [q8q,q9q,q10q,q11q,q12q,q13q]
    (refine R5.bj ?_;intro us w' hx hf;obtain ⟨x,rfl⟩:=hx.out;(try simp only [Act.put,q0q,q1q,q2q,ag]);(try simp only [q3q,q4q,aao,aaa,aal,q5q,q6q,q7q,aap,aaq,aar] at hf);(try simp only [Nat.reduceAdd,aad] at hf ⊢))
    (refine R5.fE rfl ?_)
    (refine R5.fE rfl ?_)
    (refine R5.fE rfl ?_)
    (refine R5.fE rfl ?_)
    (refine R5.fM hSE U rfl rfl _ _ rfl (W8.heap.size) none 0 0 ([]) rfl _ _ _ (s1) rfl (Own.nil _ _) (hS8.ext hx) (by omega) hx.size (aag _) hx ?_;intro sa2 sc2 w2 hOa hg2 hB2 hx2)
    (refine R5.fE rfl ?_)
    (refine R5.fM hSE U rfl rfl _ _ rfl (W8.heap.size) _ _ _ ([]++s1) rfl _ _ _ (bJ s2 d) rfl (hOa) (hX9.ext hx2) (by omega) hx2.size (aag _) hx2 ?_;intro sa3 sc3 w3 hOb hg3 hB3 hx3)
    have hz1:(zs.map u8v).length=16:=by simpa using hzl
    have hoL:=mL ks L
    rw [hfin.out] at hoL
    have hlb:=hOb.le
    simp only [q5q,aad] at hOb hlb
    (try simp only [aad])
    (refine R5.cM rfl rfl ?_;unfold gives;simp [go_sem,execOp];(with_reducible refine (kL _ _ _ _ _ (hC8.extB hx3) hOb.sl hlb.1 (by omega)).mono ?_);rintro e _ ⟨rfl,hx⟩;obtain ⟨xc,rfl⟩:=hx.out;clear hx;refine ⟨_,rfl,hSE _ eX,?_⟩;(try simp only [q14q,q15q,q16q,Act.put,q0q,q1q,q2q]))
    (refine R5.mV R60 rfl rfl _ _ rfl (w.heap.size+1) 0 rfl ((mac ks (s1++bJ s2 d)).map u8v) rfl 219 _ (hR8.extB (hx3.ext xc)) (by simpa using hoL) (by omega) (aK _) ?_;intro w5 hR10 hM5)
    have hR11:=jS hR10 hz1
    refine ⟨(hK8.extB (hx3.ext xc)).turn hM5 (by omega),R5.iv ?_⟩
    go_wp2
    refine aac (aQ Tryz.results177 (R60) _ _ (w.heap.size+1) (0) ((mac ks (s1++bJ s2 d)).map u8v) rfl (hR11.rd) ((by simpa using hoL))) rfl ?_
    have hxl:=hxw8.trans (hx3.ext xc)
    exact ⟨by rw [hfin.out],Below.trans hxl (hM5.below (by omega) hxl.size)⟩
   ·have h16I:¬ (16:Int)≤(n':Int):=by omega
    replace hfin:Hid (ma ks L=mac ks (bJ (tw d) (fill s))):=Lib.hid (by
     rw [hfin.out,gY,aaf (by omega)])
    have htl:=bm d
    have hfl:=cK s (by omega)
    have ht1:((tw d).map u8v).length=16:=by simpa using htl
    have hf1:((fill s).map u8v).length=16:=by simpa using hfl
    go_wp2_with (first
     | (refine af (R60) rfl _ rfl (g6) (0) rfl (d.map u8v) (hD.rd) (hd1) ?_)
     | fail)
    refine (jP d hdl _).mono ?_;rintro e W4 ⟨rfl,hx4⟩
    have hD4:=hD.extB hx4
    have hK4:=hK.extB hx4
    have hR4:=hR.extB hx4
    have hC4:=hC.extB hx4
    have hxw4:=hx.trans hx4
    have hb4:=hxw4.size
    clear hD hK hR hC
    have hcell':∀ W,Ext w W→W.cell? ⟨b0,o0+j,none⟩=some (.slice a' n' c'):=fun W hW=>(hW.cell (p:=⟨b0,_,none⟩) hb0.lt).trans hcell0
    go_wp2_with (first
     | (refine aa R60 rfl _ _ rfl g6 0 rfl ((tw d).map u8v) rfl 219 _ hD4 ht1 (by omega) (aK _) ?_;intro W5 hD5 hM5;have hxw5:Ext w W5:=Below.trans hxw4 (hM5.below (by omega) hxw4.size);have hcell5:=hcell' W5 hxw5)
     | fail)
    have hD5:Blk W5 g6 219 ((tw d).map u8v):=jS hD5 hd1
    have hK5:=hK4.turn hM5 (by omega)
    have hR5:=hR4.turn hM5 (by omega)
    have hC5:=hC4.turn hM5 (by omega)
    clear hD4 hK4 hR4 hC4 hM5
    refine (nz _ _ _ s _ (hS.ext hxw5) (by omega)).mono ?_;rintro e W6 ⟨rfl,hx6⟩
    have hxw6:=hxw5.trans hx6
    go_wp2_with (first
     | (refine ai (R60) rfl rfl _ _ rfl rfl rfl rfl (by simp [Act.put]) ((fill s).map u8v) rfl (by simp) (hf1) (aK _) ?_;intro x7 hB7 _)
     | fail)
    have hx57:=hx6.ext x7
    have hD7:=hD5.extB hx57
    have hK7:=hK5.extB hx57
    have hR7:=hR5.extB hx57
    have hC7:=hC5.extB hx57
    have hxw7:=hxw6.ext x7
    have hgl7:=hD5.lt
    have hb7:=hx6.size
    clear hD5 hK5 hR5 hC5
    refine (fK g6 219 (tw d) (fill s) W6.heap.size 0 _ hD7 htl hfl hB7.rd (by omega)).mono ?_
    rintro e W8 ⟨rfl,hD8,hM8⟩
    have hK8:=hK7.turn hM8 (by omega)
    have hR8:=hR7.turn hM8 (by omega)
    have hC8:=hC7.turn hM8 (by omega)
    have hxw8:Ext w W8:=Below.trans hxw7 (hM8.below (by omega) hxw7.size)
    clear hD7 hK7 hR7 hC7 hM8 hB7
    have hz1:(zs.map u8v).length=16:=by simpa using hzl
    have hoL:=mL ks L
    rw [hfin.out] at hoL
    have hDs:=hD8.sl (n:=16) (by simp [bJ])
    go_wp2
    refine ae 3 [[],[],[0,1],[0,1,2]] (by kernel_rfl) (by kernel_rfl) (by kernel_rfl) (by kernel_rfl) ?_;simp only [q8q,q9q,q10q,q11q,q12q,q13q]
    (repeat (refine aA ?_;(try simp only [Act.put,q0q,q1q,q2q])))
    (refine aw (R71) _ rfl (fun _=>rfl) (w.heap.size) (0) (fun _=>by simp [go_sem]) (kk) (hK8.rd) (hkl) ?_)
    (repeat (refine aA ?_;(try simp only [Act.put,q0q,q1q,q2q])))
    (refine aj (fun _ => .agg ((mac ks (bJ (tw d) (fill s))).map u8v).toArray) (fun _ _=>True) (fun _ _ _ _ _=>trivial) (fun us w' hx hf=>⟨rfl,?_⟩) ?_;(unfold gives;simp [go_sem,execOp];refine (kL _ _ _ _ _ (hC8.extB hx) (hDs.ext hx) (by omega) (by omega)).mono ?_;rintro e w1 ⟨rfl,hx1⟩;first|exact ⟨rfl,hx1⟩|simpa using hx1))
    (refine aT ?_;intro us x hx hf;(try simp only [Act.put,q0q,q1q,q2q,ag]);(try simp only [q3q,q4q,aao,aaa,aal,q5q,q6q,q7q,aap,aaq,aar] at hf);(try simp only [Nat.reduceAdd,aad] at hf ⊢))
    (refine aa R60 rfl _ _ rfl (w.heap.size+1) 0 rfl ((mac ks (bJ (tw d) (fill s))).map u8v) rfl 219 _ (hR8.ext x) (by simpa using hoL) (by omega) (aK _) ?_;intro w5 hR10 hM5)
    have hR11:=jS hR10 hz1
    go_wp2
    refine aac (aQ Tryz.results177 (R60) _ _ (w.heap.size+1) (0) ((mac ks (bJ (tw d) (fill s))).map u8v) rfl (hR11.rd) ((by simpa using hoL))) rfl ?_
    have hxl:=hxw8.ext x
    exact ⟨by rw [hfin.out],Below.trans hxl (hM5.below (by omega) hxl.size)⟩
end Go.Proofs.YtmdahnkcnagkjaaGreat

/- S2V of the program. -/
namespace Go.Proofs.YtmdahnkcnagkjaaGreat
open Go.RowKit Go.Sec Go.Oct Go.Aes BigFrame
theorem AM (w:World):(Instr.makeSlice 33 (.int .i64 15) (.int .i64 15)).run Tryz.prog w = .ok (.slice (some ⟨w.heap.size,0,none⟩) 15 15) (w.alloc (.cells (bM (.int .u8 0) 15) 5)) :=
 dv U 15 15 (by omega) (by omega) w
theorem BV (w:World):Own (w.alloc (.cells (bM (.int .u8 0) 15) 5)) w.heap.size (some ⟨w.heap.size,0,none⟩) 15 15 (List.replicate 15 0):=rb (bX w 15) rfl (aag _) (by omega)
theorem tm (a b:Option Addr)(ca n cb:Nat) (ky:List UInt8)(L:List (List UInt8)) (w:World)(hk:Sl w a 16 ky) (hca:16≤ca) (hl:Bsc w b n L) (hnc:n≤cb) (hn:n≤17) (hmax:∀ x∈L,x.length≤65535) :
  Calls Tryz.prog 164 #[.slice a 16 ca, .slice b n cb] w (bQ 16 (s2v ky L) (.int .i64 0) w):=by
 have hE:=Lib.hid (show s2v ky L=ma (expand ky) L from rfl)
 have hks:(expand ky).length=176:=cX ky 40 hk.len
 have hr:=wz a ca ky w hk hca
 have hoL:=dy ky L
 have hLl:=hl.len
 generalize expand ky=ks at *
 have hnI:¬ (17:Int)<(n:Int):=by omega
 go_enter Tryz.func164,Tryz.ntmps164
 go_wp2_with fail
 refine hr.mono ?_
 rintro e w1 ⟨g,rfl,hg,hB,hx1⟩
 clear hr
 have hkl:=pO g (eW ks) (e9 ks) (bm _) (bm _)
 have hk1:=xY g (eW ks) (e9 ks)
 have hgl:=hB.lt
 have hv:=fun w hC hl hn1=>sU g ks b n cb L w hC hks hl hnc hn1 (by omega) hmax
 have kL:∀ (a:Option Addr)(n cap:Nat) (l:List UInt8)(w:World),Blk w g 231 (ks.map u8v)→Sl w a n l→n≤cap→n≤1000000 →
   Calls Tryz.prog 178 #[.agg (kc g (eW ks) (e9 ks)).toArray, .slice a n cap] w fun e w'=>e = .returned (.agg ((mac ks l).map u8v).toArray)∧Ext w w' :=
  fun a n cap l w hC hS hc hn=>uU g ks (eW ks) (e9 ks) l a n cap w hC hks (bm _) (bm _) hS hc hn
 generalize kc g (eW ks) (e9 ks)=kk at *
 go_wp2_with (first
  | (refine ai (R71) rfl rfl _ _ rfl rfl rfl rfl (by simp [Act.put]) (kk) rfl (by simp) (hkl) (hk1) ?_;intro x hBk _)
  | fail)
 have hBx:=hB.ext x
 have hx2:=hx1.ext x
 have hbw:=hx1.size
 clear hB hx1
 generalize w1.ext x=W at *
 generalize w1.heap.size=gk at *
 go_loopw [26,9] (fun v26 _ wr=>∃ i:Nat,i≤n∧v26 = .int .i64 i∧Ext W wr) (fun v26 _ _=>n-(intOf v26).toNat)
 case atStart=>exact ⟨0,by omega,rfl,Ext.refl _⟩
 case round =>
  obtain ⟨i,hi,rfl,hx⟩:=hrel
  obtain ⟨x3,rfl⟩:=hx.out
  by_cases hlt:i<n
  ·obtain ⟨b0,o0,a',n',c',rfl,hb0,hcell,hc',hS⟩:=(hl.ext (hx2.trans hx)).at i hlt
   have h1:=hmax _ (aaM (show i<L.length by omega))
   have hn':¬ (65535:Int)<(n':Int):=by have:=hS.len;omega
   have i0:(0:Int)≤(i:Int):=by omega
   have i1:(i:Int)<(n:Int):=by omega
   go_wp2_with fail
   go_roundw
   case rel=>exact ⟨i+1,by omega,by go_num,hx⟩
   case measure=>simp [intOf];omega
  ·have hi:¬ (i:Int)<(n:Int):=by omega
   have hC3:=hBx.extB hx
   have hK3:=hBk.extB hx
   have hxw:=hx2.trans hx
   have hl3:=hl.ext hxw
   have hgl3:=hC3.lt
   have hkl3:=hK3.lt
   generalize W.ext x3=W3 at *
   have hZ:=Blk.newAt W3 #[Value.int IntKind.u8 0,Value.int IntKind.u8 0,Value.int IntKind.u8 0,Value.int IntKind.u8 0,Value.int IntKind.u8 0,Value.int IntKind.u8 0,Value.int IntKind.u8 0,Value.int IntKind.u8 0,Value.int IntKind.u8 0,Value.int IntKind.u8 0,Value.int IntKind.u8 0,Value.int IntKind.u8 0,Value.int IntKind.u8 0,Value.int IntKind.u8 0,Value.int IntKind.u8 0,Value.int IntKind.u8 0] 219 W3.heap.size rfl
   have hC4:=hC3.alloc (.cells #[Value.int IntKind.u8 0,Value.int IntKind.u8 0,Value.int IntKind.u8 0,Value.int IntKind.u8 0,Value.int IntKind.u8 0,Value.int IntKind.u8 0,Value.int IntKind.u8 0,Value.int IntKind.u8 0,Value.int IntKind.u8 0,Value.int IntKind.u8 0,Value.int IntKind.u8 0,Value.int IntKind.u8 0,Value.int IntKind.u8 0,Value.int IntKind.u8 0,Value.int IntKind.u8 0,Value.int IntKind.u8 0] 219)
   have hK4:=hK3.alloc (.cells #[Value.int IntKind.u8 0,Value.int IntKind.u8 0,Value.int IntKind.u8 0,Value.int IntKind.u8 0,Value.int IntKind.u8 0,Value.int IntKind.u8 0,Value.int IntKind.u8 0,Value.int IntKind.u8 0,Value.int IntKind.u8 0,Value.int IntKind.u8 0,Value.int IntKind.u8 0,Value.int IntKind.u8 0,Value.int IntKind.u8 0,Value.int IntKind.u8 0,Value.int IntKind.u8 0,Value.int IntKind.u8 0] 219)
   have hl4:=hl3.ext (Ext.of_alloc W3 (.cells #[Value.int IntKind.u8 0,Value.int IntKind.u8 0,Value.int IntKind.u8 0,Value.int IntKind.u8 0,Value.int IntKind.u8 0,Value.int IntKind.u8 0,Value.int IntKind.u8 0,Value.int IntKind.u8 0,Value.int IntKind.u8 0,Value.int IntKind.u8 0,Value.int IntKind.u8 0,Value.int IntKind.u8 0,Value.int IntKind.u8 0,Value.int IntKind.u8 0,Value.int IntKind.u8 0,Value.int IntKind.u8 0] 219))
   have hx4:Ext w (W3.alloc (.cells #[Value.int IntKind.u8 0,Value.int IntKind.u8 0,Value.int IntKind.u8 0,Value.int IntKind.u8 0,Value.int IntKind.u8 0,Value.int IntKind.u8 0,Value.int IntKind.u8 0,Value.int IntKind.u8 0,Value.int IntKind.u8 0,Value.int IntKind.u8 0,Value.int IntKind.u8 0,Value.int IntKind.u8 0,Value.int IntKind.u8 0,Value.int IntKind.u8 0,Value.int IntKind.u8 0,Value.int IntKind.u8 0] 219)):=hxw.alloc _
   have hs4:(W3.alloc (.cells #[Value.int IntKind.u8 0,Value.int IntKind.u8 0,Value.int IntKind.u8 0,Value.int IntKind.u8 0,Value.int IntKind.u8 0,Value.int IntKind.u8 0,Value.int IntKind.u8 0,Value.int IntKind.u8 0,Value.int IntKind.u8 0,Value.int IntKind.u8 0,Value.int IntKind.u8 0,Value.int IntKind.u8 0,Value.int IntKind.u8 0,Value.int IntKind.u8 0,Value.int IntKind.u8 0,Value.int IntKind.u8 0] 219)).heap.size=W3.heap.size+1:=by simp
   have hb3:=hxw.size
   by_cases h0:0<n
   ·have h0I:(0:Int)<(n:Int):=by omega
    go_wp2_with (first
     | (refine af (R71) rfl _ rfl (gk) (0) rfl (kk) (hK4.rd) (hkl) ?_)
     | fail)
    refine (hv _ hC4 hl4 (by omega)).mono ?_;rintro e W5 ⟨rfl,hx5⟩
    rw [← hE.out]
    have hZ5:=hZ.extB hx5
    have hx5':=hx4.trans hx5
    go_wp2_with (first
     | (refine aa R60 rfl _ _ rfl W3.heap.size 0 rfl ((s2v ky L).map u8v) rfl 219 _ hZ5 (by simpa using hoL) (by simp) (aK _) ?_;intro W6 hB6 hM6)
     | fail)
    have hB7:Blk W6 W3.heap.size 219 ((s2v ky L).map u8v):=jS hB6 rfl
    go_ret2
    exact ⟨_,_,rfl,hB7.sl hoL,by omega,Below.trans hx5' (hM6.below (by omega) hx5'.size)⟩
   ·obtain rfl:n=0:=by omega
    have hL0:L=[]:=aav hLl
    rw [hL0] at hE
    replace hE:Hid (s2v ky L=mac ks rU):=Lib.hid (by rw [hL0,hE.out,sR])
    go_wp2_with fail
    generalize W3.alloc _=W4 at *
    have hSE:∀ w',Ext (W4) w'→(fun w'=>Blk w' gk 223 kk) w':=(fun _ h=>hK4.extB h);have hExt0:Ext (W4) (W4).drew:=Ext.drew (Ext.refl _);refine abf (S:=fun w'=>Blk w' gk 223 kk) (by kernel_rfl) (hSE _ hExt0) (fun hHeld=>?_)
    refine aaE (i:=0) rfl (by kernel_rfl) (by kernel_rfl) (by kernel_rfl) (fun _ _ _ h=>h) (R5.fP (R71) _ rfl rfl (gk) (0) rfl (kk) ((fun w' h=>h.rd)) (hkl)) hHeld ?_;(try simp only [q14q,q15q,q16q,Act.put,q0q,q1q,q2q])
    refine R5.nw 3 [[],[],[],[1,2],[0,1,2,3],[0,1,2,3,4]] [0] hExt0 hSE (by kernel_rfl) (by kernel_rfl) (by kernel_rfl) (by kernel_rfl) (by kernel_rfl) ?_;simp only [q8q,q9q,q10q,q11q,q12q,q13q]
    refine R5.dG rfl ?_
    (refine R5.aj rfl (fun p => .slice (p 0).1 15 15) (fun p w''=>Own w'' W4.heap.size (p 0).1 15 15 (List.replicate 15 0)) (fun p w w' h hx=>h.ext hx) (fun us w' hx hf=>⟨rfl,?_⟩) ?_;(unfold gives;simp [go_sem,execOp,AM];exact ⟨fun _=>(some ⟨w'.heap.size,0,none⟩,0),rfl,Ext.of_alloc _ _,(BV _).mono hx.size⟩))
    (refine R5.aj rfl (fun p => .slice (p 0).1 1 1) (fun p w''=>Sl w'' (p 0).1 1 [1]) (fun p w w' h hx=>h.ext hx) (fun us w' hx hf=>⟨rfl,?_⟩) ?_;(unfold gives;simp [go_sem,execOp];exact ⟨fun _=>(some ⟨w'.heap.size,0,none⟩,0),rfl,Ext.of_alloc _ _,bF _ (1) _⟩))
    (refine R5.bj ?_;intro us w' hx hf;obtain ⟨x,rfl⟩:=hx.out;(try simp only [Act.put,q0q,q1q,q2q,ag]);(try simp only [q3q,q4q,aao,aaa,aal,q5q,q6q,q7q,aap,aaq,aar] at hf);(try simp only [Nat.reduceAdd,aad] at hf ⊢))
    obtain ⟨hO1,hO2⟩:=hf
    (refine R5.fM hSE U rfl rfl _ _ rfl (W4.heap.size) _ _ _ (_) rfl _ _ _ ([1]) rfl (hO1) (hO2) (by omega) hx.size (aag _) hx ?_;intro sa2 sc2 w2 hOa hg2 hB2 hx2)
    replace hOa:Own w2 W4.heap.size sa2 16 sc2 rU:=hOa
    have hlb:=hOa.le
    (try simp only [Nat.reduceAdd])
    (refine R5.cM rfl rfl ?_;unfold gives;simp [go_sem,execOp];(with_reducible refine (kL _ _ _ _ _ (hC4.extB hx2) hOa.sl hlb.1 (by omega)).mono ?_);rintro e _ ⟨rfl,hx⟩;obtain ⟨xc,rfl⟩:=hx.out;clear hx;refine ⟨_,rfl,hSE _ eX,?_⟩;(try simp only [q14q,q15q,q16q,Act.put,q0q,q1q,q2q]))
    rw [← hE.out]
    (refine R5.mV R60 rfl rfl _ _ rfl W3.heap.size 0 rfl ((s2v ky L).map u8v) rfl 219 _ (hZ.extB (hx2.ext xc)) (by simpa using hoL) (by simp) (aK _) ?_;intro w5 hR10 hM5)
    have hB7:Blk w5 W3.heap.size 219 ((s2v ky L).map u8v):=jS hR10 rfl
    refine ⟨(hK4.extB (hx2.ext xc)).turn hM5 (by omega),R5.iv ?_⟩
    go_wp2
    go_ret2
    have hxl:=hx4.trans (hx2.ext xc)
    exact ⟨_,_,rfl,(by have:=hB7.sl hoL;rwa [hL0] at this),by omega,Below.trans hxl (hM5.below (by omega) hxl.size)⟩
end Go.Proofs.YtmdahnkcnagkjaaGreat

/- The document's layer 5: Cmac and Vector. -/
namespace Go.Proofs.YtmdahnkcnagkjaaGreat
open Go.RowKit Go.Sec Go.Oct Go.Aes Go.Sha BigFrame
theorem xi (W:World):(W.alloc (.cells (bM (.int .u8 0) 16) 5)).cell? ⟨W.heap.size,15,none⟩=some (.int .u8 0):=(bX W 16).cell? 15 rfl
theorem yD (W:World):(W.alloc (.cells (bM (.int .u8 0) 16) 5)).frozen? ⟨W.heap.size,15,none⟩=false:=(bX W 16).free 15
theorem yy (W:World):Sl (W.alloc (.cells ((bM (.int .u8 0) 16).setIfInBounds 15 (.int .u8 1)) 5)) (some ⟨W.heap.size,0,none⟩) 16 rU :=
 Blk.sl (Blk.new W _ _) rfl
theorem rS (a b:Option Addr)(ca n cb:Nat) (ky:List UInt8)(L:List (List UInt8)) (w:World)(hk:Sl w a 16 ky) (hl:Bsc w b n L) (hn:n≤17) (hmax:∀ x∈L,x.length≤65535) :
  Calls Tryz.prog 141 #[.slice a 16 ca, .slice b n cb] w (bQ 16 (s2v ky L) (.int .i64 0) w):=by
 have hks:(expand ky).length=176:=cX ky 40 hk.len
 have hE:=Lib.hid (show s2v ky L=ma (expand ky) L from rfl)
 have hp:=fun w h=>mg a ca ky w h
 have hpl:=eE (expand ky) (by omega)
 have hm:=fun b n cb l w h hnc hn=>xT b n cb (expand ky) l hks w h hnc hn
 generalize pre (expand ky)=pk at *
 generalize expand ky=ks at *
 have hnI:¬ (17:Int)<(n:Int):=by omega
 have hmk:=lL
 have hLl:=hl.len
 go_enter Tryz.func141,Tryz.ntmps141
 go_wp2_with fail
 go_loopw [6] (fun v6 wr=>∃ i:Nat,i≤n∧v6 = .int .i64 i∧Ext w wr) (fun v6 _=>n-(intOf v6).toNat)
 case atStart=>exact ⟨0,by omega,rfl,eX⟩
 case round =>
  obtain ⟨i,hi,rfl,hx⟩:=hrel
  obtain ⟨x,rfl⟩:=hx.out
  clear hx
  by_cases hlt:i<n
  ·obtain ⟨b0,o0,a',n',c',rfl,hb0,hcell,hc',hS⟩:=hl.at i hlt
   have h1:=hmax _ (aaM (show i<L.length by omega))
   have hn':¬ (65535:Int)<(n':Int):=by have:=hS.len;omega
   have i0:(0:Int)≤(i:Int):=by omega
   have i1:(i:Int)<(n:Int):=by omega
   go_wp2_with fail
   go_roundw
   case rel=>exact ⟨i+1,by omega,by go_num,eX⟩
   case measure=>simp [intOf];omega
  ·have hi:¬ (i:Int)<(n:Int):=by omega
   by_cases h0:n=0
   ·subst h0
    have hL0:L=[]:=aav hLl
    have c15:=xi
    have f15:=yD
    have hone:=hE
    rw [hL0,sR] at hone
    go_wp2_with (first
     | (go_at_call 138;(with_reducible refine (hp ?_ ?hq20).mono ?_);(case hq20=>exact sS);rintro e w1 ⟨rfl,hxq⟩;obtain ⟨xq,rfl⟩:=hxq.out;clear hxq)
     | ((refine ai (R84) rfl rfl _ _ rfl rfl rfl rfl (by simp [Act.put]) (pk.map u8v) rfl (by simp) ((by simpa using hpl)) (aK _) ?_;intro x2 hBx _);have hRx:=hBx.rd;clear hBx)
     | (refine af (R84) rfl _ rfl (((w.ext x).ext xq).heap.size) (0) rfl (pk.map u8v) (?hq18) ((by simpa using hpl)) ?_;(case hq18=>(repeat' (first|with_reducible assumption|(with_reducible first|apply Rd.upE|apply Rd.upA|apply Rd.upD)))))
     | fail)
    (with_reducible refine (hm _ 16 16 _ _ (yy _) (by omega) (by omega)).mono ?_);rintro e _ ⟨_,_,rfl,hO,hx⟩
    have hle:=hO.le
    go_wp2
    go_ret2
    exact ⟨_,_,rfl,by rw [hL0,hone.out];exact hO.sl,hle.1,Ext.trans eX hx⟩
   ·have h0I:((n:Int) == 0)=false:=by rw [aaJ];omega
    go_wp2_with (first
     | (go_at_call 138;(with_reducible refine (hp ?_ ?hq21).mono ?_);(case hq21=>exact sS);rintro e w1 ⟨rfl,hxq⟩;obtain ⟨xq,rfl⟩:=hxq.out;clear hxq)
     | ((refine ai (R84) rfl rfl _ _ rfl rfl rfl rfl (by simp [Act.put]) (pk.map u8v) rfl (by simp) ((by simpa using hpl)) (aK _) ?_;intro x2 hBx _);have hRx:=hBx.rd;clear hBx)
     | (refine af (R84) rfl _ rfl (((w.ext x).ext xq).heap.size) (0) rfl (pk.map u8v) (?hq19) ((by simpa using hpl)) ?_;(case hq19=>(repeat' (first|with_reducible assumption|(with_reducible first|apply Rd.upE|apply Rd.upA|apply Rd.upD)))))
     | (go_at_call 158;(with_reducible refine (hm ?_ ?_ ?_ ?_ ?_ ?hq15 ?hq16 ?hq17).mono ?_);(case hq15=>exact sS);(case hq16=>omega);(case hq17=>omega);rintro e _ ⟨_,_,rfl,hO,hx⟩;obtain ⟨_,rfl⟩:=hx.out;clear hx;have:=Own.le hO;have:=Own.sl hO)
     | fail)
    obtain ⟨m,hnm'⟩:∃ m:Nat,n=m+1:=⟨n-1,by omega⟩
    have hnmI:(n:Int)-1=(m:Int):=by omega
    obtain ⟨gm,hgm⟩:∃ gm,Hid (gm=((w.ext x).ext xq).heap.size):=⟨_,Lib.hid rfl⟩
    rw [← hgm.out] at hRx ⊢
    have hmL:m<L.length:=by omega
    have hfin:=Lib.hid (show ma ks L=mac ks (gY (iO ks (L.take m)) (L[m]'hmL)) from pQ ks L m (by omega))
    have hnm:=Lib.hid hnm'
    clear hnm'
    go_loopw [9,10] (fun v9 v10 wr=>∃ (j:Nat) (a9:Option Addr)(c9:Nat),j≤m∧v10 = .int .i64 j∧v9 = .slice a9 16 c9∧16≤c9∧Sl wr a9 16 (iO ks (L.take j))∧Rd wr (some ⟨gm,0,none⟩) (pk.map u8v)∧Ext w wr) (fun _ v10 _=>m-(intOf v10).toNat)
    case atStart=>exact ⟨0,_,_,by omega,rfl,rfl,by omega,by assumption,(by (repeat' (first|with_reducible assumption|(with_reducible first|apply Rd.upE|apply Rd.upA|apply Rd.upD)))),eX⟩
    case round =>
     clear hRx
     obtain ⟨j,a9,c9,hj,rfl,rfl,hc9,hV,hR,hx⟩:=hrel
     obtain ⟨b0,o0,a',n',c',rfl,hb0,hcell,hc',hS⟩:=(hl.ext hx).at j (by have:=hnm.out;omega)
     have h1:=hmax _ (aaM (show j<L.length by have:=hnm.out;omega))
     have hn':=hS.len
     have hjL:j<L.length:=by have:=hnm.out;omega
     by_cases hlt:j<m
     ·have hsc:=Lib.hid (ql ks L j hjL)
      have hdl:=jz ks (L.take j)
      have j0:(0:Int)≤(j:Int):=by omega
      have j1:(j:Int)<(n:Int):=by have:=hnm.out;omega
      have j2:(j:Int)<(m:Int):=by omega
      generalize iO ks (L.take j)=d at *
      generalize L[j]'(by omega)=s at *
      rw [← fq _ _ (bm d)] at hsc
      have hxw:=hx
      go_wp2
      refine ae 9 [[],[0],[],[],[],[3,4],[3,4,5],[0,1,2,3,4,5,6],[0,1,2,3,4,5,6,7],[0,1,2,3,4,5,6,7,8]] (by kernel_rfl) (by kernel_rfl) (by kernel_rfl) (by kernel_rfl) ?_;simp only [q8q,q9q,q10q,q11q,q12q,q13q]
      (repeat (refine aA ?_;(try simp only [Act.put,q0q,q1q,q2q])))
      (refine aj (fun p => .slice (p 0).1 (16) (p 0).2) (fun p w''=>Own w'' 0 (p 0).1 (16) (p 0).2 (tw d)) (fun p w w' h hx=>h.ext hx) (fun us w' hx hf=>⟨rfl,?_⟩) ?_;(unfold gives;simp [go_sem,execOp];exact az (aan _) (fD _ _ _ _ (hV.ext hx))))
      (repeat (refine aA ?_;(try simp only [Act.put,q0q,q1q,q2q])))
      (refine aw (R84) _ rfl (fun _=>rfl) (gm) (0) (fun _=>by simp [go_sem]) (pk.map u8v) (hR) ((by simpa using hpl)) ?_)
      (repeat (refine aA ?_;(try simp only [Act.put,q0q,q1q,q2q])))
      (refine aj (fun p => .slice (p 0).1 (16) (p 0).2) (fun p w''=>Own w'' 0 (p 0).1 (16) (p 0).2 (mac ks s)) (fun p w w' h hx=>h.ext hx) (fun us w' hx hf=>⟨rfl,?_⟩) ?_;(unfold gives;simp [go_sem,execOp];exact az (aan _) (hm _ _ _ _ _ (hS.ext hx) hc' (by omega))))
      (refine aj (fun p => .slice (p 0).1 (16) (p 0).2) (fun p w''=>Own w'' 0 (p 0).1 (16) (p 0).2 (du (tw d) (mac ks s))) (fun p w w' h hx=>h.ext hx) (fun us w' hx hf=>⟨rfl,?_⟩) ?_;(unfold gives;simp [go_sem,execOp];exact az (aan _) (eu _ _ 16 _ 16 _ _ _ _ (Own.sl (by exact (hf _ (aaT _ (aae _ (aab _))) rfl))) (Own.sl (by exact (hf _ (aae _ (aab _)) rfl))) (by omega) (by omega))))
      (refine aT ?_;intro us x hx hf;(try simp only [Act.put,q0q,q1q,q2q,ag]);(try simp only [q3q,q4q,aao,aaa,aal,q5q,q6q,q7q,aap,aaq,aar] at hf);(try simp only [Nat.reduceAdd,aad] at hf ⊢))
      obtain ⟨-, -,hO8⟩:=hf
      have hle8:=hO8.le
      go_wp2_with fail
      go_roundw
      case rel=>exact ⟨j+1,_,_,by omega,by go_num,rfl,hle8.1,by rw [hsc.out];exact hO8.sl,hR.ext hx,hxw.trans hx⟩
      case measure=>simp [intOf];omega
     ·obtain rfl:j=m:=by omega
      have j0:(0:Int)≤(j:Int):=by omega
      have j1:(j:Int)<(n:Int):=by have:=hnm.out;omega
      obtain ⟨x,rfl⟩:=hx.out
      have hdl:=jz ks (L.take j)
      have hsg:=Lib.hid (show (L[j]'hmL).length=n' from hn')
      replace hfin:Hid (s2v ky L=mac ks (gY (iO ks (L.take j)) (L[j]'hmL))):=Lib.hid (by rw [hE.out,hfin.out])
      generalize iO ks (L.take j)=d at *
      generalize L[j]'hmL=s at *
      have hxw:Ext w (w.ext x):=Ext.of_ext _ _
      generalize w.ext x=W at *
      clear hsg
      by_cases h16:16≤n'
      ·have h16I:(16:Int)≤(n':Int):=by omega
       have q0:(0:Int)≤(n':Int)-16:=by omega
       have q1:((n':Int)-16).toNat=n'-16:=by omega
       have q2:(n':Int)-16≤(n':Int):=by omega
       have q3:n'-(n'-16)=16:=by omega
       have q4:(n':Int)-16≤(c':Int):=by omega
       have hS1:=hS.take (n'-16) (by omega)
       have hS2:=hS.drop c' (n'-16) hc'
       rw [q3] at hS2
       replace hfin:Hid (s2v ky L=mac ks (s.take (n'-16)++du (s.drop (n'-16)) d)):=Lib.hid (by
        rw [hfin.out,gY,aam (by omega),hn',fq _ _ hS2.len])
       have hal:(s.take (n'-16)++du (s.drop (n'-16)) d).length=n':=by rw [aah,gI,hS1.len,hS2.len];omega
       generalize s.take (n'-16)=s1 at *
       generalize s.drop (n'-16)=s2 at *
       go_wp2_with fail
       refine ae 14 [[],[],[],[1,2],[],[],[4,5],[],[4,5,6,7],[1,2,3,4,5,6,7,8],[1,2,3,4,5,6,7,8,9],[0,1,2,3,4,5,6,7,8,9,10],[0,1,2,3,4,5,6,7,8,9,10,11],[0,1,2,3,4,5,6,7,8,9,10,11,12]] (by kernel_rfl) (by kernel_rfl) (by kernel_rfl) (by kernel_rfl) ?_;simp only [q8q,q9q,q10q,q11q,q12q,q13q]
       (refine aw (R84) _ rfl (fun _=>rfl) (gm) (0) (fun _=>by simp [go_sem]) (pk.map u8v) (hR) ((by simpa using hpl)) ?_)
       (repeat (refine aA ?_;(try simp only [Act.put,q0q,q1q,q2q])))
       (refine aj (fun p => .slice (p 0).1 (16) (p 0).2) (fun p w''=>Own w'' 0 (p 0).1 (16) (p 0).2 (du s2 d)) (fun p w w' h hx=>h.ext hx) (fun us w' hx hf=>⟨rfl,?_⟩) ?_;(unfold gives;simp [go_sem,execOp];exact az (aan _) (eu _ _ 16 _ 16 _ _ _ _ (hS2.ext hx) (hV.ext hx) (by omega) (by omega))))
       (refine aj (fun p => .slice (p 0).1 (2) (2)) (fun p w''=>Bss w'' (p 0).1 (2) ([s1,du s2 d])) (fun p w w' h hx=>h.ext hx) (fun us w' hx hf=>⟨rfl,?_⟩) ?_;(unfold gives;simp [go_sem,execOp];exact ⟨fun _=>(some ⟨w'.heap.size,0,none⟩,0),rfl,Ext.of_alloc _ _,oY (hS1.ext hx) (Own.sl (by exact (hf _ (aae _ (aab _)) rfl))) _⟩))
       (refine aj (fun p => .slice (p 0).1 (n') (p 0).2) (fun p w''=>Own w'' 0 (p 0).1 (n') (p 0).2 (s1++du s2 d)) (fun p w w' h hx=>h.ext hx) (fun us w' hx hf=>⟨rfl,?_⟩) ?_;(unfold gives;simp [go_sem,execOp];exact az (aan _) ((by have:=bf _ 2 2 [s1,du s2 d] _ (hf _ (aae _ (aab _)) rfl) (by omega) n' (by simpa [aV] using hal) (by omega);simpa [aV] using this))))
       (refine aj (fun p => .slice (p 0).1 (16) (p 0).2) (fun p w''=>Own w'' 0 (p 0).1 (16) (p 0).2 (mac ks (s1++du s2 d))) (fun p w w' h hx=>h.ext hx) (fun us w' hx hf=>⟨rfl,?_⟩) ?_;(unfold gives;simp [go_sem,execOp];exact az (aan _) (hm _ _ _ _ _ (Own.sl (by exact (hf _ (aae _ (aab _)) rfl))) (Own.le (by exact (hf _ (aae _ (aab _)) rfl))).1 (by omega))))
       (repeat (refine aA ?_;(try simp only [Act.put,q0q,q1q,q2q])))
       (refine aT ?_;intro us x hx hf;(try simp only [Act.put,q0q,q1q,q2q,ag]);(try simp only [q3q,q4q,aao,aaa,aal,q5q,q6q,q7q,aap,aaq,aar] at hf);(try simp only [Nat.reduceAdd,aad] at hf ⊢))
       obtain ⟨-, -, -,hO⟩:=hf
       rw [← hfin.out] at hO
       have hle:=hO.le
       go_wp2
       go_ret2
       exact ⟨_,_,rfl,hO.sl,hle.1,hxw.trans hx⟩
      ·have h16I:¬ (16:Int)≤(n':Int):=by omega
       replace hfin:Hid (s2v ky L=mac ks (du (tw d) (fill s))):=Lib.hid (by
        rw [hfin.out,gY,aaf (by omega),fq _ _ (bm _)])
       have hpd:=Lib.hid (show s++[128]++List.replicate (16-(n'+1)) 0=fill s by unfold fill;rw [hn',show 16-(n'+1)=15-n' by omega])
       go_wp2_with fail
       have hSE:∀ w',Ext (W) w'→(Ext (W)) w':=(fun _ h=>h);have hExt0:Ext (W) (W).drew:=Ext.drew (Ext.refl _);refine abf (S:=Ext (W)) (by kernel_rfl) (hSE _ hExt0) (fun hHeld=>?_)
       refine aaE (i:=0) rfl (by kernel_rfl) (by kernel_rfl) (by kernel_rfl) (fun _ _ _ h=>h) (R5.fP (R84) _ rfl rfl (gm) (0) rfl (pk.map u8v) ((fun w' h=>hR.ext h)) ((by simpa using hpl))) hHeld ?_;(try simp only [q14q,q15q,q16q,Act.put,q0q,q1q,q2q])
       refine aaE (i:=1) (v:=?v3) rfl (by kernel_rfl) (by kernel_rfl) (by kernel_rfl) (fun _ _ _ h=>h) (Or.inl ⟨by rfl,?hy3⟩) hHeld ?_;(case hy3=>(intro w' hx;simp [go_sem,execOp, *];(try simp (disch:=omega) only [q17q,q18q,q19q]);rfl));(try simp only [q14q,q15q,q16q,Act.put,q0q,q1q,q2q])
       refine aaE (i:=3) (v:=?v4) rfl (by kernel_rfl) (by kernel_rfl) (by kernel_rfl) (fun _ _ _ h=>h) (Or.inl ⟨by rfl,?hy4⟩) hHeld ?_;(case hy4=>(intro w' hx;simp [go_sem,execOp, *];(try simp (disch:=omega) only [q17q,q18q,q19q]);rfl));(try simp only [q14q,q15q,q16q,Act.put,q0q,q1q,q2q])
       refine R5.nw 7 [[],[],[1],[],[3],[1,2,3,4],[],[1,2,3,4,5,6],[1,2,3,4,5,6,7],[1,2,3,4,5,6,7,8],[0,1,2,3,4,5,6,7,8,9],[0,1,2,3,4,5,6,7,8,9,10],[0,1,2,3,4,5,6,7,8,9,10,11]] [0,1,3] hExt0 hSE (by kernel_rfl) (by kernel_rfl) (by kernel_rfl) (by kernel_rfl) (by kernel_rfl) ?_;simp only [q8q,q9q,q10q,q11q,q12q,q13q]
       refine R5.dG rfl ?_
       refine R5.dG rfl ?_
       (refine R5.aj rfl (fun p => .slice (p 0).1 (16) (p 0).2) (fun p w''=>Own w'' 0 (p 0).1 (16) (p 0).2 (tw d)) (fun p w w' h hx=>h.ext hx) (fun us w' hx hf=>⟨rfl,?_⟩) ?_;(unfold gives;simp [go_sem,execOp];exact az (aan _) (fD _ _ _ _ (hV.ext hx))))
       refine R5.dG rfl ?_
       (refine R5.aj rfl (fun p => .slice (p 0).1 (1) (1)) (fun p w''=>Bss w'' (p 0).1 (1) ([s])) (fun p w w' h hx=>h.ext hx) (fun us w' hx hf=>⟨rfl,?_⟩) ?_;(unfold gives;simp [go_sem,execOp];exact ⟨fun _=>(some ⟨w'.heap.size,0,none⟩,0),rfl,Ext.of_alloc _ _,ie (hS.ext hx) _⟩))
       (refine R5.zl rfl (fun p => .slice (p 0).1 (n') (p 0).2) (fun us p w''=>∃ w0,Ext (W) w0∧Ext w0 w''∧(Own w0 0 (us 2 0).1 16 (us 2 0).2 (tw d))∧Own w'' w0.heap.size (p 0).1 (n') (p 0).2 (s)) (fun us p w w' ⟨w0,h1,h2,h3,h4⟩ hx=>⟨w0,h1,h2.trans hx,h3,h4.ext hx⟩) (fun us us' he=>by have e2:=he 2 (by decide);simp only [e2]) (fun us w' hx hf=>⟨rfl,?_⟩) ?_;(unfold gives;simp [go_sem,execOp];exact R5.uo (K:=fun w0=>Own w0 0 (us 2 0).1 16 (us 2 0).2 (tw d)) hx ((hf _ (aaT _ (aae _ (aab _))) rfl)) ((by have:=bf _ 1 1 [s] _ (hf _ (aae _ (aab _)) rfl) (by omega) n' (by rw [cC,hn']) (by omega);rwa [cC] at this))))
       (refine R5.aj rfl (fun p => .slice (p 0).1 1 1) (fun p w''=>Sl w'' (p 0).1 1 [128]) (fun p w w' h hx=>h.ext hx) (fun us w' hx hf=>⟨rfl,?_⟩) ?_;(unfold gives;simp [go_sem,execOp];exact ⟨fun _=>(some ⟨w'.heap.size,0,none⟩,0),rfl,Ext.of_alloc _ _,bF _ (128) _⟩))
       (refine R5.bj ?_;intro us w' hx hf;obtain ⟨x,rfl⟩:=hx.out;(try simp only [Act.put,q0q,q1q,q2q,ag]);(try simp only [q3q,q4q,aao,aaa,aal,q5q,q6q,q7q,aap,aaq,aar] at hf);(try simp only [Nat.reduceAdd,aad] at hf ⊢))
       obtain ⟨-, -,⟨w0,hx0,hx0',hO1,hO2⟩,hO3⟩:=hf
       (refine R5.fM hSE U rfl rfl _ _ rfl (w0.heap.size) _ _ _ (s) rfl _ _ _ ([128]) rfl (hO2) (hO3) (by omega) hx0'.size hx0.size hx ?_;intro sa2 sc2 w2 hOa hg2 hB2 hx2)
       have hO1:=hO1.ext (Below.trans hx0' hB2)
       have hS1:=hO1.sl
       have hSa:=hOa.sl
       clear hg2
       (refine R5.cM rfl rfl ?_;unfold gives;simp [go_sem,execOp];(with_reducible refine (lV ?_ ?_ ?_ ?_ ?_ ?hq5 ?hq6 ?hq7).mono ?_);(case hq5=>exact sS);(case hq6=>omega);(case hq7=>omega);rintro e _ ⟨_,_,rfl,hO,hx⟩;obtain ⟨_,rfl⟩:=hx.out;clear hx;have:=Own.le hO;have:=Own.sl hO;refine ⟨_,rfl,hSE _ eX,?_⟩;(try simp only [q14q,q15q,q16q,Act.put,q0q,q1q,q2q]))
       (refine R5.cM rfl rfl ?_;unfold gives;simp [go_sem,execOp];(with_reducible refine (eu ?_ ?_ 16 ?_ 16 ?_ ?_ ?_ ?_ ?hq8 ?hq9 ?hq10 ?hq11).mono ?_);(case hq8=>exact sS);(case hq9=>exact sS);(case hq10=>omega);(case hq11=>omega);rintro e _ ⟨_,_,rfl,hO,hx⟩;obtain ⟨_,rfl⟩:=hx.out;clear hx;have:=Own.le hO;have:=Own.sl hO;refine ⟨_,rfl,hSE _ eX,?_⟩;(try simp only [q14q,q15q,q16q,Act.put,q0q,q1q,q2q]))
       (refine R5.cM rfl rfl ?_;unfold gives;simp [go_sem,execOp];(with_reducible refine (hm ?_ ?_ ?_ ?_ ?_ ?hq12 ?hq13 ?hq14).mono ?_);(case hq12=>exact sS);(case hq13=>omega);(case hq14=>omega);rintro e _ ⟨_,_,rfl,hO,hx⟩;obtain ⟨_,rfl⟩:=hx.out;clear hx;have:=Own.le hO;have:=Own.sl hO;refine ⟨_,rfl,hSE _ eX,?_⟩;(try simp only [q14q,q15q,q16q,Act.put,q0q,q1q,q2q]))
       (refine R5.pG hSE rfl rfl _ eX rfl ?_;(try simp only [q14q,q15q,q16q,Act.put,q0q,q1q,q2q]))
       (refine R5.pG hSE rfl rfl _ eX rfl ?_;(try simp only [q14q,q15q,q16q,Act.put,q0q,q1q,q2q]))
       refine R5.iv ?_
       go_wp2
       go_ret2
       exact ⟨_,_,rfl,by rw [hfin.out,← hpd.out];exact (by (repeat' (first|with_reducible assumption|(with_reducible exact dB _)|(with_reducible exact bF _ _ _)|(with_reducible first|apply Sl.upE|apply Sl.upA|apply Sl.upD)))),by omega,hxw.trans eX⟩
end Go.Proofs.YtmdahnkcnagkjaaGreat

/- CmacLengths: the law's walk. -/
namespace Go.Proofs.YtmdahnkcnagkjaaGreat
open Go.RowKit Go.Sec Go.Oct Go.Aes Go.Sha BigFrame
end Go.Proofs.YtmdahnkcnagkjaaGreat
