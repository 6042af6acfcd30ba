/- Lemmas of this claim, several texts joined. -/
import Derived.Test.YtmdahnkcnagkjaaGreatZ7
set_option maxRecDepth 100000
open List renaming setIfInBounds_toArray → q0q, set_cons_succ → q1q, set_cons_zero → q2q, mem_cons → q3q, not_mem_nil → q4q, nil_append → q5q, cons_append → q6q, mem_append → q7q, take_succ_cons → q8q, take_zero → q9q, drop_succ_cons → q10q, drop_zero → q11q, take_nil → q12q, drop_nil → q13q
set_option maxHeartbeats 8000000
set_option linter.unusedVariables false
set_option linter.unusedSimpArgs false
/- SHA-256 of the document: a block. -/
namespace Go.Proofs.YtmdahnkcnagkjaaGreat
open Go.RowKit Go.Sec Go.Oct Go.Sha BigFrame
theorem qW (b:List UInt8)(k:Nat):(sched b k).length=k+16:=by
 induction k with
 | zero=>rfl
 | succ k ih=>simp only [sched,aah,ih,List.length_singleton]
theorem xJ (W:List UInt32) (k:Nat):rX W (k+16)=s1 (w' W (k+14))+w' W (k+9)+s0 (w' W (k+1))+w' W k:=by
 unfold rX
 rw [show k+16-2=k+14 by omega,show k+16-7=k+9 by omega,show k+16-15=k+1 by omega,Nat.add_sub_cancel]
theorem _root_.z15q98{p:Prop}(h:p:=by
 injection he with he
 injection he with e1 e2
 subst e1 e2
 exact hc):p:=h
theorem ng (a ak ab:Option Addr)(ch ck cb:Nat) (h:List UInt32) (b:List UInt8)(w:World)(Hh:Sw w a 8 h) (Hk:Sw w ak 64 ks) (Hb:Sl w ab 64 b) :
  Calls Tryz.prog 97 #[.slice a 8 ch, .slice ak 64 ck, .slice ab 64 cb] w fun e w'=>∃ a' c',e = .returned (.slice a' 8 c')∧Sw w' a' 8 (block h b)∧Ext w w':=by
 generalize hks:ks=kk at Hk
 go_enter Tryz.func97,Tryz.ntmps97
 go_wp2
 obtain ⟨b0,o0,rfl,hb0,_⟩:=Hb.atD 0 (by omega)
 obtain ⟨bh,oh,rfl,hbh,_⟩:=Hh.at 0 (by omega)
 have hal:Tryz.prog.arrayLen 191=64:=by kernel_rfl
 have HbL:=Hb.len
 go_loopw [8] (fun v8 wr=>∃ k:Nat,k≤16∧v8 = .int .i64 k∧Blk wr w.heap.size 191 ((kj ((List.range k).map (inW b)) 64).map jX)∧Ext w wr) (fun v8 _=>16-(intOf v8).toNat)
 case atStart=>exact ⟨0,by omega,rfl,Blk.new _ _ _,Ext.of_alloc _ _⟩
 case round =>
  obtain ⟨k,hk,rfl,hBr,hxw⟩:=hrel
  by_cases hlt:k<16
  ·obtain ⟨vT,hvT⟩:=hBr.there32 (k:=k) (by simp;omega) (by omega)
   have at4:∀ j,j<4→wr.cell? ⟨b0,o0+(4*k+j),none⟩=some (.int .u8 (n8 (b' b (4*k+j)))):=fun j hj=>by
    obtain ⟨b1,o1,he,_,hc⟩:=(Hb.ext hxw).atD (4*k+j) (by omega)
    exact z15q98
   have c0:=at4 0 (by omega)
   have c1:=at4 1 (by omega)
   have c2:=at4 2 (by omega)
   have c3:=at4 3 (by omega)
   clear at4
   rw [abu] at c0
   haveI:BlkLt b0 wr:=⟨aak hb0.lt hxw.size⟩
   haveI:=hBr.blt
   have hf:=hBr.free k
   have k0:(0:Int)≤(k:Int):=by omega
   have k1:(k:Int)<16:=by omega
   have k2:(k:Int)<64:=by omega
   have d0:(0:Int)≤4*(k:Int):=by omega
   have d1:4*(k:Int)<64:=by omega
   have d2:(4*(k:Int)).toNat=4*k:=by omega
   have d3:(4*(k:Int)+1).toNat=4*k+1:=by omega
   have d4:(4*(k:Int)+2).toNat=4*k+2:=by omega
   have d5:(4*(k:Int)+3).toNat=4*k+3:=by omega
   have d6:4*(k:Int)+1<64:=by omega
   have d7:4*(k:Int)+2<64:=by omega
   have d8:4*(k:Int)+3<64:=by omega
   have d9:(0:Int)≤4*(k:Int)+1:=by omega
   have d10:(0:Int)≤4*(k:Int)+2:=by omega
   have d11:(0:Int)≤4*(k:Int)+3:=by omega
   have HI:=Lib.hid (show inW b k=(b' b (4*k)).toUInt32 <<< 24 ||| (b' b (4*k+1)).toUInt32 <<< 16 ||| (b' b (4*k+2)).toUInt32 <<< 8 ||| (b' b (4*k+3)).toUInt32 from rfl)
   go_wp2
   refine ae 35 [[],[],[],[2],[1,2,3],[1,2,3,4],[1,2,3,4,5],[1,2,3,4,5,6],[],[],[9],[9,10],[8,9,10,11],[8,9,10,11,12],[8,9,10,11,12,13],[8,9,10,11,12,13,14],[1,2,3,4,5,6,7,8,9,10,11,12,13,14,15],[],[],[18],[18,19],[17,18,19,20],[17,18,19,20,21],[17,18,19,20,21,22],[17,18,19,20,21,22,23],[1,2,3,4,5,6,7,8,9,10,11,12,13,14,15,16,17,18,19,20,21,22,23,24],[],[],[27],[27,28],[26,27,28,29],[26,27,28,29,30],[26,27,28,29,30,31],[1,2,3,4,5,6,7,8,9,10,11,12,13,14,15,16,17,18,19,20,21,22,23,24,25,26,27,28,29,30,31,32],[0,1,2,3,4,5,6,7,8,9,10,11,12,13,14,15,16,17,18,19,20,21,22,23,24,25,26,27,28,29,30,31,32,33],[0,1,2,3,4,5,6,7,8,9,10,11,12,13,14,15,16,17,18,19,20,21,22,23,24,25,26,27,28,29,30,31,32,33,34]] (by kernel_rfl) (by kernel_rfl) (by kernel_rfl) (by kernel_rfl) ?_;simp only [q8q,q9q,q10q,q11q,q12q,q13q]
   (repeat (refine aA ?_;(try simp only [Act.put,q0q,q1q,q2q])))
   (refine aT ?_;intro us x hx hf;(try simp only [Act.put,q0q,q1q,q2q,ag]);(try simp only [q3q,q4q,aao,aaa,aal,q5q,q6q,q7q,aap,aaq,aar] at hf);(try simp only [Nat.reduceAdd,aad] at hf ⊢))
   go_wp2
   go_roundw
   case rel =>
    refine ⟨k+1,by omega,by go_num,?_,eX⟩
    rw [aa1,aaO,aa5,abl,HI.out]
    exact Blk.push32 (by repeat (with_reducible first|assumption|apply Blk.ext|apply Blk.drew|apply Blk.alloc)) (by simp) (by omega) _
   case measure=>simp [intOf];omega
  ·obtain rfl:k=16:=(by omega);(try simp only [Nat.reduceAdd,Nat.reduceMul,Nat.reduceDiv,Nat.reduceSub,aat])
   have hBr:Blk wr w.heap.size 191 ((kj (sched b 0) 64).map jX):=hBr
   go_wp2
   obtain ⟨wo,rfl⟩:∃ wo:World,wo=wr:=⟨_,rfl⟩
   go_loopw [9,10,11] (fun v9 _ _ wr=>∃ k:Nat,k≤48∧v9 = .int .i64 ((k+16:Nat):Int)∧Blk wr w.heap.size 191 ((kj (sched b k) 64).map jX)∧Ext w wr) (fun v9 _ _ _=>64-(intOf v9).toNat)
   case atStart=>exact ⟨0,by omega,rfl,hBr,hxw⟩
   case round =>
    obtain ⟨k,hk,rfl,hBk,hxk⟩:=hrel
    have hWl:=qW b k
    by_cases hlt:k<48
    ·have HN:=Lib.hid (show sched b (k+1)=sched b k++[rX (sched b k) (k+16)] from rfl)
     have HX:=Lib.hid (xJ (sched b k) k)
     generalize sched b k=W at *
     obtain ⟨vT,hvT⟩:=hBk.there32 (k:=k+16) (by omega) (by omega)
     have c1:=hBk.at32 (k+1) (by omega)
     have c2:=hBk.at32 (k+14) (by omega)
     have c3:=hBk.at32 (k+9) (by omega)
     have c4:=hBk.at32 k (by omega)
     obtain ⟨x1,hx1⟩:∃ v,v=W.getD (k+1) 0:=⟨_,rfl⟩
     obtain ⟨x2,hx2⟩:∃ v,v=W.getD (k+14) 0:=⟨_,rfl⟩
     obtain ⟨x3,hx3⟩:∃ v,v=W.getD (k+9) 0:=⟨_,rfl⟩
     obtain ⟨x4,hx4⟩:∃ v,v=W.getD k 0:=⟨_,rfl⟩
     have HX2:=Lib.hid (show rX W (k+16)=(turn x2 17 ^^^ turn x2 19 ^^^ (x2 >>> 10))+x3+(turn x1 7 ^^^ turn x1 18 ^^^ (x1 >>> 3))+x4 by rw [HX.out,hx1,hx2,hx3,hx4];rfl)
     rw [← hx1] at c1
     rw [← hx2] at c2
     rw [← hx3] at c3
     rw [← hx4] at c4
     clear hx1 hx2 hx3 hx4
     haveI:=hBk.blt
     have hf:=hBk.free (k+16)
     have k0:(0:Int)≤(k:Int):=by omega
     have k1:(k:Int)<48:=by omega
     have d1:((k:Int)+16-15).toNat=k+1:=by omega
     have d2:((k:Int)+16-2).toNat=k+14:=by omega
     have d3:((k:Int)+16-7).toNat=k+9:=by omega
     have d4:((k:Int)+16-16).toNat=k:=by omega
     have d0:((k:Int)+16).toNat=k+16:=by omega
     have e1:(0:Int)≤(k:Int)+16-15:=by omega
     have e2:(0:Int)≤(k:Int)+16-2:=by omega
     have e3:(0:Int)≤(k:Int)+16-7:=by omega
     have e4:(0:Int)≤(k:Int)+16-16:=by omega
     have f1:(k:Int)+16-15<64:=by omega
     have f2:(k:Int)+16-2<64:=by omega
     have f3:(k:Int)+16-7<64:=by omega
     have f4:(k:Int)+16-16<64:=by omega
     have g1:(15:Int)≤(k:Int)+16:=by omega
     have g2:(2:Int)≤(k:Int)+16:=by omega
     have g3:(7:Int)≤(k:Int)+16:=by omega
     have g4:(16:Int)≤(k:Int)+16:=by omega
     have f5:(k:Int)<64:=by omega
     have f0:(k:Int)+16<64:=by omega
     have e0:(0:Int)≤(k:Int)+16:=by omega
     go_wp2
     refine ae 10 [[],[0],[0,1],[0,1,2],[],[4],[4,5],[4,5,6],[0,1,2,3],[0,1,2,3,4,5,6,7,8]] (by kernel_rfl) (by kernel_rfl) (by kernel_rfl) (by kernel_rfl) ?_;simp only [q8q,q9q,q10q,q11q,q12q,q13q]
     (repeat (refine aA ?_;(try simp only [Act.put,q0q,q1q,q2q])))
     (refine aT ?_;intro us x hx hf;(try simp only [Act.put,q0q,q1q,q2q,ag]);(try simp only [q3q,q4q,aao,aaa,aal,q5q,q6q,q7q,aap,aaq,aar] at hf);(try simp only [Nat.reduceAdd,aad] at hf ⊢))
     go_wp2
     refine ae 29 [[],[],[1],[],[1,2,3],[1,2,3,4],[],[6],[1,2,3,4,5,6,7],[],[9],[9,10],[9,10,11],[1,2,3,4,5,6,7,8,9,10,11,12],[],[1,2,3,4,14],[],[1,2,3,4,14,15,16],[1,2,3,4,14,15,16,17],[],[19],[1,2,3,4,14,15,16,17,18,19,20],[1,2,3,4,5,6,7,8,9,10,11,12,13,14,15,16,17,18,19,20,21],[],[23],[23,24],[23,24,25],[1,2,3,4,5,6,7,8,9,10,11,12,13,14,15,16,17,18,19,20,21,22,23,24,25,26],[0,1,2,3,4,5,6,7,8,9,10,11,12,13,14,15,16,17,18,19,20,21,22,23,24,25,26,27],[0,1,2,3,4,5,6,7,8,9,10,11,12,13,14,15,16,17,18,19,20,21,22,23,24,25,26,27,28]] (by kernel_rfl) (by kernel_rfl) (by kernel_rfl) (by kernel_rfl) ?_;simp only [q8q,q9q,q10q,q11q,q12q,q13q]
     (repeat (refine aA ?_;(try simp only [Act.put,q0q,q1q,q2q])))
     (refine aj (fun _ => .int .u32 (n32 (turn x2 17))) (fun _ _=>True) (fun _ _ _ _ _=>trivial) (fun us w' hx hf=>⟨rfl,?_⟩) ?_;(unfold gives;simp [go_sem,execOp];refine (ew x2 17 (by omega) (by omega) _).mono ?_;rintro e w1 ⟨rfl,hx1⟩;first|exact ⟨rfl,hx1⟩|simpa using hx1))
     (repeat (refine aA ?_;(try simp only [Act.put,q0q,q1q,q2q])))
     (refine aj (fun _ => .int .u32 (n32 (turn x2 19))) (fun _ _=>True) (fun _ _ _ _ _=>trivial) (fun us w' hx hf=>⟨rfl,?_⟩) ?_;(unfold gives;simp [go_sem,execOp];refine (ew x2 19 (by omega) (by omega) _).mono ?_;rintro e w1 ⟨rfl,hx1⟩;first|exact ⟨rfl,hx1⟩|simpa using hx1))
     (repeat (refine aA ?_;(try simp only [Act.put,q0q,q1q,q2q])))
     (refine aj (fun _ => .int .u32 (n32 (turn x1 7))) (fun _ _=>True) (fun _ _ _ _ _=>trivial) (fun us w' hx hf=>⟨rfl,?_⟩) ?_;(unfold gives;simp [go_sem,execOp];refine (ew x1 7 (by omega) (by omega) _).mono ?_;rintro e w1 ⟨rfl,hx1⟩;first|exact ⟨rfl,hx1⟩|simpa using hx1))
     (repeat (refine aA ?_;(try simp only [Act.put,q0q,q1q,q2q])))
     (refine aj (fun _ => .int .u32 (n32 (turn x1 18))) (fun _ _=>True) (fun _ _ _ _ _=>trivial) (fun us w' hx hf=>⟨rfl,?_⟩) ?_;(unfold gives;simp [go_sem,execOp];refine (ew x1 18 (by omega) (by omega) _).mono ?_;rintro e w1 ⟨rfl,hx1⟩;first|exact ⟨rfl,hx1⟩|simpa using hx1))
     (repeat (refine aA ?_;(try simp only [Act.put,q0q,q1q,q2q])))
     (refine aT ?_;intro us x hx hf;(try simp only [Act.put,q0q,q1q,q2q,ag]);(try simp only [q3q,q4q,aao,aaa,aal,q5q,q6q,q7q,aap,aaq,aar] at hf);(try simp only [Nat.reduceAdd,aad] at hf ⊢))
     go_wp2
     go_roundw
     case rel =>
      refine ⟨k+1,by omega,by go_num,?_,eX⟩
      rw [HN.out,HX2.out]
      exact Blk.push32 (by repeat (with_reducible first|assumption|apply Blk.ext|apply Blk.drew|apply Blk.alloc)) (by omega) (by omega) _
     case measure=>simp [intOf];omega
    ·obtain ⟨W,hWW⟩:∃ l,Hid (l=sched b k):=⟨_,Lib.hid rfl⟩
     rw [← hWW.out] at hBk hWl
     obtain rfl:k=48:=(by omega);(try simp only [Nat.reduceAdd,Nat.reduceMul,Nat.reduceDiv,Nat.reduceSub,aat])
     go_wp2
     have ah:∀ j,j<8→wr.cell? ⟨bh,oh+j,none⟩=some (.int .u32 (n32 (w' h j))):=fun j hj=>by
      obtain ⟨b1,o1,he,_,hc⟩:=(Hh.ext hxk).at j hj
      exact z15q98
     have ah0:=ah 0 (by omega)
     rw [abu] at ah0
     have ah1:=ah 1 (by omega)
     have ah2:=ah 2 (by omega)
     have ah3:=ah 3 (by omega)
     have ah4:=ah 4 (by omega)
     have ah5:=ah 5 (by omega)
     have ah6:=ah 6 (by omega)
     have ah7:=ah 7 (by omega)
     clear ah
     haveI:BlkLt bh wr:=⟨aak hbh.lt hxk.size⟩
     refine ae 32 [[],[0],[0,1],[],[3],[3,4],[],[6],[6,7],[],[9],[9,10],[],[12],[12,13],[],[15],[15,16],[],[18],[18,19],[],[21],[21,22],[0,1,2],[0,1,2,3,4,5,24],[0,1,2,3,4,5,6,7,8,24,25],[0,1,2,3,4,5,6,7,8,9,10,11,24,25,26],[0,1,2,3,4,5,6,7,8,9,10,11,12,13,14,24,25,26,27],[0,1,2,3,4,5,6,7,8,9,10,11,12,13,14,15,16,17,24,25,26,27,28],[0,1,2,3,4,5,6,7,8,9,10,11,12,13,14,15,16,17,18,19,20,24,25,26,27,28,29],[0,1,2,3,4,5,6,7,8,9,10,11,12,13,14,15,16,17,18,19,20,21,22,23,24,25,26,27,28,29,30]] (by kernel_rfl) (by kernel_rfl) (by kernel_rfl) (by kernel_rfl) ?_;simp only [q8q,q9q,q10q,q11q,q12q,q13q]
     (repeat (refine aA ?_;(try simp only [Act.put,q0q,q1q,q2q])))
     (refine aT ?_;intro us x hx hf;(try simp only [Act.put,q0q,q1q,q2q,ag]);(try simp only [q3q,q4q,aao,aaa,aal,q5q,q6q,q7q,aap,aaq,aar] at hf);(try simp only [Nat.reduceAdd,aad] at hf ⊢))
     go_wp2
     clear ah0 ah1 ah2 ah3 ah4 ah5 ah6 ah7
     go_loopw [12,13,14,15,16,17,18,19,20,21,22] (fun v12 v13 v14 v15 v16 v17 v18 v19 v20 _ _ wr=>∃ t:Nat,t≤64∧v20 = .int .i64 t∧v12 = .int .u32 (n32 (w' (rounds W h t) 0))∧v13 = .int .u32 (n32 (w' (rounds W h t) 1))∧v14 = .int .u32 (n32 (w' (rounds W h t) 2))∧v15 = .int .u32 (n32 (w' (rounds W h t) 3))∧v16 = .int .u32 (n32 (w' (rounds W h t) 4))∧v17 = .int .u32 (n32 (w' (rounds W h t) 5))∧v18 = .int .u32 (n32 (w' (rounds W h t) 6))∧v19 = .int .u32 (n32 (w' (rounds W h t) 7))∧Blk wr w.heap.size 191 ((kj W 64).map jX)∧Ext w wr) (fun _ _ _ _ _ _ _ _ v20 _ _ _=>64-(intOf v20).toNat)
     case atStart=>exact ⟨0,by omega,rfl,rfl,rfl,rfl,rfl,rfl,rfl,rfl,rfl,hBk.extB (Ext.of_ext _ _),eX⟩
     case round =>
      obtain ⟨t,ht,rfl,rfl,rfl,rfl,rfl,rfl,rfl,rfl,rfl,hBl,hxl⟩:=hrel
      by_cases hlt3:t<64
      ·have HR:=Lib.hid (show rounds W h (t+1)=round W (rounds W h t) t from rfl)
       generalize rounds W h t=v at *
       obtain ⟨bk,ok,he,hbk,ck1⟩:=(Hk.ext hxl).at t (by omega)
       subst he
       have cw:=hBl.at32 t (by omega)
       obtain ⟨kt,hkt⟩:∃ x,x=kk.getD t 0:=⟨_,rfl⟩
       obtain ⟨wt,hwt⟩:∃ x,x=W.getD t 0:=⟨_,rfl⟩
       rw [← hkt] at ck1
       rw [← hwt] at cw
       have HT1:=Lib.hid (show t1 v (w' ks t) (w' W t)=w' v 7+(turn (w' v 4) 6 ^^^ turn (w' v 4) 11 ^^^ turn (w' v 4) 25)+((w' v 4 &&& w' v 5) ^^^ (~~~ w' v 4 &&& w' v 6))+kt+wt by rw [hkt,hwt,← hks];rfl)
       have HT2:=Lib.hid (show t2 v=(turn (w' v 0) 2 ^^^ turn (w' v 0) 13 ^^^ turn (w' v 0) 22)+((w' v 0 &&& w' v 1) ^^^ (w' v 0 &&& w' v 2) ^^^ (w' v 1 &&& w' v 2)) from rfl)
       have HV:=Lib.hid (show round W v t=[t1 v (w' ks t) (w' W t)+t2 v,w' v 0,w' v 1,w' v 2,w' v 3+t1 v (w' ks t) (w' W t),w' v 4,w' v 5,w' v 6] from rfl)
       clear hkt hwt
       generalize w' v 0=a0 at *
       generalize w' v 1=a1 at *
       generalize w' v 2=a2 at *
       generalize w' v 3=a3 at *
       generalize w' v 4=a4 at *
       generalize w' v 5=a5 at *
       generalize w' v 6=a6 at *
       generalize w' v 7=a7 at *
       haveI:=hBl.blt
       have k0:(0:Int)≤(t:Int):=by omega
       have k1:(t:Int)<64:=by omega
       go_wp2
       refine ae 29 [[],[],[1],[],[1,2,3],[1,2,3,4],[],[1,2,3,4,6],[1,2,3,4,5,6,7],[0,1,2,3,4,5,6,7,8],[],[],[10,11],[],[13],[],[13,14,15],[10,11,12,13,14,15,16],[0,1,2,3,4,5,6,7,8,9,10,11,12,13,14,15,16,17],[],[],[19,20],[19,20,21],[0,1,2,3,4,5,6,7,8,9,10,11,12,13,14,15,16,17,18,19,20,21,22],[],[24],[24,25],[0,1,2,3,4,5,6,7,8,9,10,11,12,13,14,15,16,17,18,19,20,21,22,23,24,25,26],[0,1,2,3,4,5,6,7,8,9,10,11,12,13,14,15,16,17,18,19,20,21,22,23,24,25,26,27]] (by kernel_rfl) (by kernel_rfl) (by kernel_rfl) (by kernel_rfl) ?_;simp only [q8q,q9q,q10q,q11q,q12q,q13q]
       (repeat (refine aA ?_;(try simp only [Act.put,q0q,q1q,q2q])))
       (refine aj (fun _ => .int .u32 (n32 (turn a4 6))) (fun _ _=>True) (fun _ _ _ _ _=>trivial) (fun us w' hx hf=>⟨rfl,?_⟩) ?_;(unfold gives;simp [go_sem,execOp];refine (ew a4 6 (by omega) (by omega) _).mono ?_;rintro e w1 ⟨rfl,hx1⟩;first|exact ⟨rfl,hx1⟩|simpa using hx1))
       (repeat (refine aA ?_;(try simp only [Act.put,q0q,q1q,q2q])))
       (refine aj (fun _ => .int .u32 (n32 (turn a4 11))) (fun _ _=>True) (fun _ _ _ _ _=>trivial) (fun us w' hx hf=>⟨rfl,?_⟩) ?_;(unfold gives;simp [go_sem,execOp];refine (ew a4 11 (by omega) (by omega) _).mono ?_;rintro e w1 ⟨rfl,hx1⟩;first|exact ⟨rfl,hx1⟩|simpa using hx1))
       (repeat (refine aA ?_;(try simp only [Act.put,q0q,q1q,q2q])))
       (refine aj (fun _ => .int .u32 (n32 (turn a4 25))) (fun _ _=>True) (fun _ _ _ _ _=>trivial) (fun us w' hx hf=>⟨rfl,?_⟩) ?_;(unfold gives;simp [go_sem,execOp];refine (ew a4 25 (by omega) (by omega) _).mono ?_;rintro e w1 ⟨rfl,hx1⟩;first|exact ⟨rfl,hx1⟩|simpa using hx1))
       (repeat (refine aA ?_;(try simp only [Act.put,q0q,q1q,q2q])))
       (refine aT ?_;intro us x hx hf;(try simp only [Act.put,q0q,q1q,q2q,ag]);(try simp only [q3q,q4q,aao,aaa,aal,q5q,q6q,q7q,aap,aaq,aar] at hf);(try simp only [Nat.reduceAdd,aad] at hf ⊢))
       go_wp2_with fail;(with_reducible refine (ew a0 2 (by omega) (by omega) _).mono ?_);rintro e w1 ⟨rfl,hxq⟩;obtain ⟨xq,rfl⟩:=hxq.out;clear hxq
       go_wp2_with fail;(with_reducible refine (ew a0 13 (by omega) (by omega) _).mono ?_);rintro e w1 ⟨rfl,hxq⟩;obtain ⟨xq,rfl⟩:=hxq.out;clear hxq
       go_wp2_with fail;(with_reducible refine (ew a0 22 (by omega) (by omega) _).mono ?_);rintro e w1 ⟨rfl,hxq⟩;obtain ⟨xq,rfl⟩:=hxq.out;clear hxq
       go_wp2
       go_roundw
       case rel =>
        refine ⟨t+1,by omega,by go_num,?_,?_,?_,?_,?_,?_,?_,?_,(by repeat (first|exact hBl|apply Blk.ext)),eX⟩
        all_goals rw [HR.out,HV.out]
        ·rw [HT1.out,HT2.out];rfl
        ·rfl
        ·rfl
        ·rfl
        ·rw [HT1.out];rfl
        ·rfl
        ·rfl
        ·rfl
       case measure=>simp [intOf];omega
      ·obtain rfl:t=64:=(by omega);(try simp only [Nat.reduceAdd,Nat.reduceMul,Nat.reduceDiv,Nat.reduceSub,aat])
       have HF:=Lib.hid (show block h b=(List.range 8).map fun i=>w' h i+w' (rounds W h 64) i by rw [hWW.out];rfl)
       generalize rounds W h 64=v at *
       clear hBk hBl hWW
       have ah:∀ j,j<8→wr.cell? ⟨bh,oh+j,none⟩=some (.int .u32 (n32 (w' h j))):=fun j hj=>by
        obtain ⟨b1,o1,he,_,hc⟩:=(Hh.ext hxl).at j hj
        exact z15q98
       have ah0:=ah 0 (by omega)
       rw [abu] at ah0
       have ah1:=ah 1 (by omega)
       have ah2:=ah 2 (by omega)
       have ah3:=ah 3 (by omega)
       have ah4:=ah 4 (by omega)
       have ah5:=ah 5 (by omega)
       have ah6:=ah 6 (by omega)
       have ah7:=ah 7 (by omega)
       clear ah
       haveI:BlkLt bh wr:=⟨aak hbh.lt hxl.size⟩
       go_wp2
       refine ae 40 [[],[0],[0,1],[],[0,1,2,3],[],[5],[5,6],[],[5,6,7,8],[],[10],[10,11],[],[10,11,12,13],[],[15],[15,16],[],[15,16,17,18],[],[20],[20,21],[],[20,21,22,23],[],[25],[25,26],[],[25,26,27,28],[],[30],[30,31],[],[30,31,32,33],[],[35],[35,36],[],[35,36,37,38],[0,1,2,3,4,5,6,7,8,9,10,11,12,13,14,15,16,17,18,19,20,21,22,23,24,25,26,27,28,29,30,31,32,33,34,35,36,37,38,39],[0,1,2,3,4,5,6,7,8,9,10,11,12,13,14,15,16,17,18,19,20,21,22,23,24,25,26,27,28,29,30,31,32,33,34,35,36,37,38,39,40]] (by kernel_rfl) (by kernel_rfl) (by kernel_rfl) (by kernel_rfl) ?_;simp only [q8q,q9q,q10q,q11q,q12q,q13q]
       (repeat (refine aA ?_;(try simp only [Act.put,q0q,q1q,q2q])))
       (refine aT ?_;intro us x hx hf;(try simp only [Act.put,q0q,q1q,q2q,ag]);(try simp only [q3q,q4q,aao,aaa,aal,q5q,q6q,q7q,aap,aaq,aar] at hf);(try simp only [Nat.reduceAdd,aad] at hf ⊢))
       go_wp2
       go_ret
       refine ⟨_,_,rfl,?_,eX⟩
       rw [HF.out]
       exact ⟨rfl,(Blk.new _ _ _).rd⟩
end Go.Proofs.YtmdahnkcnagkjaaGreat
