/- Lemmas of this claim, several texts joined. -/
import Derived.Test.YtmdahnkcnagkjaaGreatZ1
import Derived.Test.YtmdahnkcnagkjaaGreatZ5
import Derived.Test.YtmdahnkcnagkjaaGreatZ6
set_option maxRecDepth 100000
open List renaming setIfInBounds_toArray → q0q, set_cons_succ → q1q, set_cons_zero → q2q, mem_cons → q3q, not_mem_nil → q4q, nil_append → q5q, cons_append → q6q, mem_append → q7q, take_succ_cons → q8q, take_zero → q9q, drop_succ_cons → q10q, drop_zero → q11q, take_nil → q12q, drop_nil → q13q, getElem_cons_succ → q15q, getElem_cons_zero → q16q
set_option maxHeartbeats 8000000
set_option linter.unusedVariables false
set_option linter.unusedSimpArgs false
/- The walks of AES-128. -/
namespace Go.Proofs.YtmdahnkcnagkjaaGreat
open Go.RowKit Go.Sec Go.Oct Go.Aes BigFrame
theorem kU (x:UInt8) (w:World) :
  Calls Tryz.prog 179 #[.int .u8 (n8 x)] w fun e w'=>e = .returned (.int .u8 (n8 (dbl x)))∧Ext w w':=by
 cases h:(x &&& 128 != 0)
 all_goals
  have HD:=Lib.hid (show dbl x=_ by unfold dbl;rw [h])
  simp only [aaG,abk,abi] at HD
  go_enter Tryz.func179,Tryz.ntmps179
  go_wp2
  go_returns
  exact ⟨by rw [HD.out];rfl,Ext.refl _⟩
theorem uZ (x:UInt8) (W:World):(Instr.index 9 (.string { data:=box.toArray }) (.int .u8 (n8 x))).run Tryz.prog W = .ok (.int .u8 (n8 (sub x))) W :=
 np 9 box x hst (by have:=x.toNat_lt;have h:box.length=256:=(by decide +kernel);omega) W
theorem _root_.z7q77{p:Prop}(h:p:=by
 obtain rfl:k=16:=by omega
 go_wp2
 go_end0
 rw [fB _ _ _ hl] at hBr
 exact ⟨rfl,hBr,hM⟩):p:=h
theorem fK (g:Nat) (T:TypeId)(l m:List UInt8)(c off:Nat) (w:World)(hB:Blk w g T (l.map u8v)) (hl:l.length=16) (hm:m.length=16) (hR:Rd w (some ⟨c,off,none⟩) (m.map u8v)) (hne:c≠g) :
  Calls Tryz.prog 181 #[.pointer (some ⟨g,0,none⟩), .pointer (some ⟨c,off,none⟩)] w fun e w'=>e = .returned (.tuple #[])∧Blk w' g T ((bJ l m).map u8v)∧Mut g w w':=by
 go_enter Tryz.func181,Tryz.ntmps181
 go_wp2
 go_loopw [4,5,7] (fun _ _ v7 wr=>∃ k:Nat,k≤16∧v7 = .int .i64 k∧Blk wr g T ((dt (jt l m) l k).map u8v)∧Mut g w wr) (fun _ _ v7 _=>16-(intOf v7).toNat)
 case atStart=>exact ⟨0,by omega,rfl,by rw [dI];exact hB,Mut.refl _ _⟩
 case round =>
  obtain ⟨k,hk,rfl,hBr,hM⟩:=hrel
  by_cases hlt:k<16
  ·have hc1:wr.cell? ⟨g,k,none⟩=some (.int .u8 (n8 (at' l k))):=hBr.at_upTo k (aag _) (by omega)
   have hf1:=hBr.free k
   haveI:=hBr.blt
   obtain ⟨c',off',he,hb2,hc2⟩:=(hR.turn hM hne).at k (by simp [hm];omega)
   obtain ⟨rfl,rfl⟩:c=c'∧off=off':=by simpa using he
   clear he
   have hc2':wr.cell? ⟨c,off+k,none⟩=some (.int .u8 (n8 (at' m k))):=by rw [hc2,abr,bt m k (by omega)]
   clear hc2
   have hk0:(0:Int)≤(k:Int):=by omega
   have hk1:(k:Int)<16:=by omega
   go_wp2
   refine ae 6 [[],[],[1],[1,2],[0],[0,1,2,3,4]] (by kernel_rfl) (by kernel_rfl) (by kernel_rfl) (by kernel_rfl) ?_;simp only [q8q,q9q,q10q,q11q,q12q,q13q]
   (repeat (refine aA ?_;(try simp only [Act.put,q0q,q1q,q2q])))
   (refine aT ?_;intro us x hx hf;(try simp only [Act.put,q0q,q1q,q2q,ag]);(try simp only [q3q,q4q,aao,aaa,aal,q5q,q6q,q7q,aap,aaq,aar] at hf);(try simp only [Nat.reduceAdd,aad] at hf ⊢))
   go_wp2
   refine ae 9 [[],[],[0],[0,1,2],[0,1,2,3],[],[0,1,2,3,4,5],[0],[0,1,2,3,4,5,6,7],[0,1,2,3,4,5,6,7,8]] (by kernel_rfl) (by kernel_rfl) (by kernel_rfl) (by kernel_rfl) ?_;simp only [q8q,q9q,q10q,q11q,q12q,q13q]
   (repeat (refine aA ?_;(try simp only [Act.put,q0q,q1q,q2q])))
   (refine aT ?_;intro us x hx hf;(try simp only [Act.put,q0q,q1q,q2q,ag]);(try simp only [q3q,q4q,aao,aaa,aal,q5q,q6q,q7q,aap,aaq,aar] at hf);(try simp only [Nat.reduceAdd,aad] at hf ⊢))
   go_wp2
   go_roundw
   case rel =>
    exact ⟨k+1,by omega,by go_num,Blk.upd (f:=jt l m) (by repeat (with_reducible first|assumption|apply Blk.ext|apply Blk.drew|apply Blk.alloc)) (by omega),(by repeat (with_reducible first|exact Mut.refl _ _|assumption|apply Mut.ext|apply Mut.drew|apply Mut.alloc|apply Mut.setCell))⟩
   case measure=>simp [intOf];omega
  ·exact z7q77
theorem R60:RowT Tryz.prog 219 16:=⟨⟨_,Tryz.underlying219,rfl⟩,by kernel_rfl,⟨_,Tryz.zeroValue219,rfl⟩⟩
theorem u0 (g:Nat) (T:TypeId)(l:List UInt8)(w:World)(hB:Blk w g T (l.map u8v)) (hl:l.length=16) :
  Calls Tryz.prog 182 #[.pointer (some ⟨g,0,none⟩)] w fun e w'=>e = .returned (.tuple #[])∧Blk w' g T ((rep l).map u8v)∧Mut g w w':=by
 have hld:=hB.rd
 go_enter Tryz.func182,Tryz.ntmps182
 have hbx:=uZ
 unfold box at hbx
 go_wp2_with (first
  | (refine af (R60) rfl _ rfl (g) (0) rfl (l.map u8v) (hld) ((by simpa using hl)) ?_)
  | (refine ai (R60) rfl rfl _ _ rfl rfl rfl rfl (by simp [Act.put]) (l.map u8v) rfl (by simp) ((by simpa using hl)) (aK _) ?_;intro x hBx _))
 go_loopw [3,7] (fun _ v7 wr=>∃ k:Nat,k≤16∧v7 = .int .i64 k∧Blk wr g T ((dt (qC l) l k).map u8v)∧Blk wr w.heap.size 219 (l.map u8v)∧Mut g w wr) (fun _ v7 _=>16-(intOf v7).toNat)
 case atStart=>exact ⟨0,by omega,rfl,by rw [dI];exact (by repeat (with_reducible first|assumption|apply Blk.ext|apply Blk.drew|apply Blk.alloc)),hBx,(by repeat (with_reducible first|exact Mut.refl _ _|assumption|apply Mut.ext|apply Mut.drew|apply Mut.alloc|apply Mut.setCell))⟩
 case round =>
  obtain ⟨k,hk,rfl,hBr,hBo,hM⟩:=hrel
  by_cases hlt:k<16
  ·have hf1:=hBr.free k
   have hc1:wr.cell? ⟨g,k,none⟩=some (.int .u8 (n8 (at' l k))):=hBr.at_upTo k (aag _) (by omega)
   haveI:=hBr.blt
   haveI:=hBo.blt
   have hc2:wr.cell? ⟨w.heap.size,(k+4*(k % 4)) % 16,none⟩=some (.int .u8 (n8 (at' l ((k+4*(k % 4)) % 16)))):=hBo.cell? _ (by
    have:(k+4*(k % 4)) % 16<l.length:=by omega
    rw [List.getElem?_map,List.getElem?_eq_getElem this,bt _ _ this];rfl)
   have hk0:(0:Int)≤(k:Int):=by omega
   have hk1:(k:Int)<16:=by omega
   have hi0:(0:Int)≤((k:Int)+4*((k:Int) % 4)) % 16:=by omega
   have hi1:((k:Int)+4*((k:Int) % 4)) % 16<16:=by omega
   have hi2:(((k:Int)+4*((k:Int) % 4)) % 16).toNat=(k+4*(k % 4)) % 16:=by omega
   go_wp2
   refine ae 13 [[],[],[],[],[3],[3,4],[2,3,4,5],[2,3,4,5,6],[2,3,4,5,6,7],[2,3,4,5,6,7,8],[2,3,4,5,6,7,8,9],[0],[0,1,2,3,4,5,6,7,8,9,10,11],[0,1,2,3,4,5,6,7,8,9,10,11,12]] (by kernel_rfl) (by kernel_rfl) (by kernel_rfl) (by kernel_rfl) ?_;simp only [q8q,q9q,q10q,q11q,q12q,q13q]
   (repeat (refine aA ?_;(try simp only [Act.put,q0q,q1q,q2q])))
   (refine aT ?_;intro us x hx hf;(try simp only [Act.put,q0q,q1q,q2q,ag]);(try simp only [q3q,q4q,aao,aaa,aal,q5q,q6q,q7q,aap,aaq,aar] at hf);(try simp only [Nat.reduceAdd,aad] at hf ⊢))
   go_wp2
   go_roundw
   case rel =>
    exact ⟨k+1,by omega,by go_num,Blk.upd (f:=qC l) (by repeat (with_reducible first|assumption|apply Blk.ext|apply Blk.drew|apply Blk.alloc)) (by omega),Blk.other (by repeat (with_reducible first|assumption|apply Blk.ext|apply Blk.drew|apply Blk.alloc)) (by have:=hB.lt;simp;omega) _,(by repeat (with_reducible first|exact Mut.refl _ _|assumption|apply Mut.ext|apply Mut.drew|apply Mut.alloc|apply Mut.setCell))⟩
   case measure=>simp [intOf];omega
  ·exact z7q77
theorem zI (g:Nat) (T:TypeId)(l:List UInt8)(w:World)(hB:Blk w g T (l.map u8v)) (hl:l.length=16) :
  Calls Tryz.prog 183 #[.pointer (some ⟨g,0,none⟩)] w fun e w'=>e = .returned (.tuple #[])∧Blk w' g T ((mix l).map u8v)∧Mut g w w':=by
 have hal:Tryz.prog.arrayLen 219=16:=by kernel_rfl
 have har:=fun W a len cap=>run_arrayAt (P:=Tryz.prog) W 207 5 4 a len cap Tryz.underlying207
 go_enter Tryz.func183,Tryz.ntmps183
 go_wp2
 go_loopw [2] (fun v2 wr=>∃ c:Nat,c≤4∧v2 = .int .i64 ((4*c:Nat):Int)∧Blk wr g T ((dt (jf l) l (4*c)).map u8v)∧Mut g w wr) (fun v2 _=>16-(intOf v2).toNat)
 case atStart=>exact ⟨0,by omega,rfl,by rw [dI];exact hB,Mut.refl _ _⟩
 case round =>
  obtain ⟨c,hc,rfl,hBr,hM⟩:=hrel
  by_cases hlt:c<4
  ·have a0:wr.cell? ⟨g,4*c,none⟩=some (.int .u8 (n8 (at' l (4*c)))):=hBr.at_upTo _ (by omega) (by omega)
   have a1:wr.cell? ⟨g,4*c+1,none⟩=some (.int .u8 (n8 (at' l (4*c+1)))):=hBr.at_upTo _ (by omega) (by omega)
   have a2:wr.cell? ⟨g,4*c+2,none⟩=some (.int .u8 (n8 (at' l (4*c+2)))):=hBr.at_upTo _ (by omega) (by omega)
   have a3:wr.cell? ⟨g,4*c+3,none⟩=some (.int .u8 (n8 (at' l (4*c+3)))):=hBr.at_upTo _ (by omega) (by omega)
   haveI:=hBr.blt
   have b0:(0:Int)≤4*(c:Int):=by omega
   have b1:4*(c:Int)≤16:=by omega
   have b2:(4*(c:Int)).toNat=4*c:=by omega
   have b3:¬ 16=4*c:=by omega
   have b4:4≤16-4*c:=by omega
   go_wp2
   obtain ⟨wo,rfl⟩:∃ wo:World,wo=wr:=⟨_,rfl⟩
   go_loopw [5,6,29] (fun _ _ v29 wi=>∃ r:Nat,r≤4∧v29 = .int .i64 r∧Blk wi g T ((dt (jf l) l (4*c+r)).map u8v)∧Blk wi wo.heap.size 207 [.int .u8 (n8 (at' l (4*c))), .int .u8 (n8 (at' l (4*c+1))), .int .u8 (n8 (at' l (4*c+2))), .int .u8 (n8 (at' l (4*c+3)))]∧Mut g w wi) (fun _ _ v29 _=>4-(intOf v29).toNat)
   case atStart=>exact ⟨0,by omega,rfl,hBr.alloc _,Blk.new _ _ _,hM.alloc _⟩
   case round =>
    obtain ⟨r,hr,rfl,hBi,hBw,hMi⟩:=hrel
    haveI:=hBi.blt
    haveI:=hBw.blt
    have hgn:g≠wo.heap.size:=by have:=hBr.lt;omega
    have w0:=hBw.cell 0 (by simp)
    have w1:=hBw.cell 1 (by simp)
    have w2:=hBw.cell 2 (by simp)
    have w3:=hBw.cell 3 (by simp)
    simp only [q16q,q15q] at w0 w1 w2 w3
    by_cases hr4:r<4
    ·obtain rfl|rfl|rfl|rfl:r=0∨r=1∨r=2∨r=3:=by omega
     ·rw [abu] at hBi
      have hi0:∀ W (x0 x1 x2 x3:Value),(Instr.index 207 (.agg #[x0,x1,x2,x3]) (.int .i64 0)).run Tryz.prog W = .ok x0 W:=fun _ _ _ _ _=>by kernel_rfl
      have hf1:=hBi.free (4*c)
      have hc1:wr.cell? ⟨g,4*c,none⟩=some (.int .u8 (n8 (at' l (4*c)))):=hBi.at_upTo _ (by omega) (by omega)
      have s0:(0:Int)≤4*(c:Int)+0:=by omega
      have s1:4*(c:Int)+0<16:=by omega
      have s2:(4*(c:Int)+0).toNat=4*c:=by omega
      have HF:=Lib.hid (Am l c)
      go_wp2
      refine ae 18 [[],[],[],[1,2],[],[],[4,5],[],[],[8],[8,9],[8,9,10],[8,9,10,11],[7,8,9,10,11,12],[7,8,9,10,11,12,13],[4,5,6,7,8,9,10,11,12,13,14],[0],[0,1,2,3,4,5,6,7,8,9,10,11,12,13,14,15,16],[0,1,2,3,4,5,6,7,8,9,10,11,12,13,14,15,16,17]] (by kernel_rfl) (by kernel_rfl) (by kernel_rfl) (by kernel_rfl) ?_;simp only [q8q,q9q,q10q,q11q,q12q,q13q]
      (repeat (refine aA ?_;(try simp only [Act.put,q0q,q1q,q2q])))
      (refine aj (fun _ => .int .u8 (n8 (dbl (at' l (4*c) ^^^ at' l (4*c+1))))) (fun _ _=>True) (fun _ _ _ _ _=>trivial) (fun us w' hx hf=>⟨rfl,?_⟩) ?_;(unfold gives;simp [go_sem,execOp];refine (kU _ _).mono ?_;rintro e w1 ⟨rfl,hx1⟩;first|exact ⟨rfl,hx1⟩|simpa using hx1))
      (repeat (refine aA ?_;(try simp only [Act.put,q0q,q1q,q2q])))
      (refine aT ?_;intro us x hx hf;(try simp only [Act.put,q0q,q1q,q2q,ag]);(try simp only [q3q,q4q,aao,aaa,aal,q5q,q6q,q7q,aap,aaq,aar] at hf);(try simp only [Nat.reduceAdd,aad] at hf ⊢))
      go_wp2
      go_roundw
      case rel =>
       refine ⟨0+1,by omega,by go_num,?_,Blk.other (by repeat (with_reducible first|assumption|apply Blk.ext|apply Blk.drew|apply Blk.alloc)) (by simp;omega) _,(by repeat (with_reducible first|exact Mut.refl _ _|assumption|apply Mut.ext|apply Mut.drew|apply Mut.alloc|apply Mut.setCell))⟩
       rw [← HF.out]
       exact Blk.upd (f:=jf l) (k:=4*c) (by repeat (with_reducible first|assumption|apply Blk.ext|apply Blk.drew|apply Blk.alloc)) (by omega)
      case measure=>simp [intOf]
     ·have hi0:∀ W (x0 x1 x2 x3:Value),(Instr.index 207 (.agg #[x0,x1,x2,x3]) (.int .i64 1)).run Tryz.prog W = .ok x1 W:=fun _ _ _ _ _=>by kernel_rfl
      have hf1:=hBi.free (4*c+1)
      have hc1:wr.cell? ⟨g,4*c+1,none⟩=some (.int .u8 (n8 (at' l (4*c+1)))):=hBi.at_upTo _ (by omega) (by omega)
      have s0:(0:Int)≤4*(c:Int)+1:=by omega
      have s1:4*(c:Int)+1<16:=by omega
      have s2:(4*(c:Int)+1).toNat=4*c+1:=by omega
      have HF:=Lib.hid (Aq l c)
      go_wp2
      refine ae 18 [[],[],[],[1,2],[],[],[4,5],[],[],[8],[8,9],[8,9,10],[8,9,10,11],[7,8,9,10,11,12],[7,8,9,10,11,12,13],[4,5,6,7,8,9,10,11,12,13,14],[0],[0,1,2,3,4,5,6,7,8,9,10,11,12,13,14,15,16],[0,1,2,3,4,5,6,7,8,9,10,11,12,13,14,15,16,17]] (by kernel_rfl) (by kernel_rfl) (by kernel_rfl) (by kernel_rfl) ?_;simp only [q8q,q9q,q10q,q11q,q12q,q13q]
      (repeat (refine aA ?_;(try simp only [Act.put,q0q,q1q,q2q])))
      (refine aj (fun _ => .int .u8 (n8 (dbl (at' l (4*c+1) ^^^ at' l (4*c+2))))) (fun _ _=>True) (fun _ _ _ _ _=>trivial) (fun us w' hx hf=>⟨rfl,?_⟩) ?_;(unfold gives;simp [go_sem,execOp];refine (kU _ _).mono ?_;rintro e w1 ⟨rfl,hx1⟩;first|exact ⟨rfl,hx1⟩|simpa using hx1))
      (repeat (refine aA ?_;(try simp only [Act.put,q0q,q1q,q2q])))
      (refine aT ?_;intro us x hx hf;(try simp only [Act.put,q0q,q1q,q2q,ag]);(try simp only [q3q,q4q,aao,aaa,aal,q5q,q6q,q7q,aap,aaq,aar] at hf);(try simp only [Nat.reduceAdd,aad] at hf ⊢))
      go_wp2
      go_roundw
      case rel =>
       refine ⟨1+1,by omega,by go_num,?_,Blk.other (by repeat (with_reducible first|assumption|apply Blk.ext|apply Blk.drew|apply Blk.alloc)) (by simp;omega) _,(by repeat (with_reducible first|exact Mut.refl _ _|assumption|apply Mut.ext|apply Mut.drew|apply Mut.alloc|apply Mut.setCell))⟩
       rw [← HF.out]
       exact Blk.upd (f:=jf l) (k:=4*c+1) (by repeat (with_reducible first|assumption|apply Blk.ext|apply Blk.drew|apply Blk.alloc)) (by omega)
      case measure=>simp [intOf]
     ·have hi0:∀ W (x0 x1 x2 x3:Value),(Instr.index 207 (.agg #[x0,x1,x2,x3]) (.int .i64 2)).run Tryz.prog W = .ok x2 W:=fun _ _ _ _ _=>by kernel_rfl
      have hf1:=hBi.free (4*c+2)
      have hc1:wr.cell? ⟨g,4*c+2,none⟩=some (.int .u8 (n8 (at' l (4*c+2)))):=hBi.at_upTo _ (by omega) (by omega)
      have s0:(0:Int)≤4*(c:Int)+2:=by omega
      have s1:4*(c:Int)+2<16:=by omega
      have s2:(4*(c:Int)+2).toNat=4*c+2:=by omega
      have HF:=Lib.hid (Ah l c)
      go_wp2
      refine ae 18 [[],[],[],[1,2],[],[],[4,5],[],[],[8],[8,9],[8,9,10],[8,9,10,11],[7,8,9,10,11,12],[7,8,9,10,11,12,13],[4,5,6,7,8,9,10,11,12,13,14],[0],[0,1,2,3,4,5,6,7,8,9,10,11,12,13,14,15,16],[0,1,2,3,4,5,6,7,8,9,10,11,12,13,14,15,16,17]] (by kernel_rfl) (by kernel_rfl) (by kernel_rfl) (by kernel_rfl) ?_;simp only [q8q,q9q,q10q,q11q,q12q,q13q]
      (repeat (refine aA ?_;(try simp only [Act.put,q0q,q1q,q2q])))
      (refine aj (fun _ => .int .u8 (n8 (dbl (at' l (4*c+2) ^^^ at' l (4*c+3))))) (fun _ _=>True) (fun _ _ _ _ _=>trivial) (fun us w' hx hf=>⟨rfl,?_⟩) ?_;(unfold gives;simp [go_sem,execOp];refine (kU _ _).mono ?_;rintro e w1 ⟨rfl,hx1⟩;first|exact ⟨rfl,hx1⟩|simpa using hx1))
      (repeat (refine aA ?_;(try simp only [Act.put,q0q,q1q,q2q])))
      (refine aT ?_;intro us x hx hf;(try simp only [Act.put,q0q,q1q,q2q,ag]);(try simp only [q3q,q4q,aao,aaa,aal,q5q,q6q,q7q,aap,aaq,aar] at hf);(try simp only [Nat.reduceAdd,aad] at hf ⊢))
      go_wp2
      go_roundw
      case rel =>
       refine ⟨2+1,by omega,by go_num,?_,Blk.other (by repeat (with_reducible first|assumption|apply Blk.ext|apply Blk.drew|apply Blk.alloc)) (by simp;omega) _,(by repeat (with_reducible first|exact Mut.refl _ _|assumption|apply Mut.ext|apply Mut.drew|apply Mut.alloc|apply Mut.setCell))⟩
       rw [← HF.out]
       exact Blk.upd (f:=jf l) (k:=4*c+2) (by repeat (with_reducible first|assumption|apply Blk.ext|apply Blk.drew|apply Blk.alloc)) (by omega)
      case measure=>simp [intOf]
     ·have hi0:∀ W (x0 x1 x2 x3:Value),(Instr.index 207 (.agg #[x0,x1,x2,x3]) (.int .i64 3)).run Tryz.prog W = .ok x3 W:=fun _ _ _ _ _=>by kernel_rfl
      have hf1:=hBi.free (4*c+3)
      have hc1:wr.cell? ⟨g,4*c+3,none⟩=some (.int .u8 (n8 (at' l (4*c+3)))):=hBi.at_upTo _ (by omega) (by omega)
      have s0:(0:Int)≤4*(c:Int)+3:=by omega
      have s1:4*(c:Int)+3<16:=by omega
      have s2:(4*(c:Int)+3).toNat=4*c+3:=by omega
      have HF:=Lib.hid (Ak l c)
      go_wp2
      refine ae 18 [[],[],[],[1,2],[],[],[4,5],[],[],[8],[8,9],[8,9,10],[8,9,10,11],[7,8,9,10,11,12],[7,8,9,10,11,12,13],[4,5,6,7,8,9,10,11,12,13,14],[0],[0,1,2,3,4,5,6,7,8,9,10,11,12,13,14,15,16],[0,1,2,3,4,5,6,7,8,9,10,11,12,13,14,15,16,17]] (by kernel_rfl) (by kernel_rfl) (by kernel_rfl) (by kernel_rfl) ?_;simp only [q8q,q9q,q10q,q11q,q12q,q13q]
      (repeat (refine aA ?_;(try simp only [Act.put,q0q,q1q,q2q])))
      (refine aj (fun _ => .int .u8 (n8 (dbl (at' l (4*c+3) ^^^ at' l (4*c))))) (fun _ _=>True) (fun _ _ _ _ _=>trivial) (fun us w' hx hf=>⟨rfl,?_⟩) ?_;(unfold gives;simp [go_sem,execOp];refine (kU _ _).mono ?_;rintro e w1 ⟨rfl,hx1⟩;first|exact ⟨rfl,hx1⟩|simpa using hx1))
      (repeat (refine aA ?_;(try simp only [Act.put,q0q,q1q,q2q])))
      (refine aT ?_;intro us x hx hf;(try simp only [Act.put,q0q,q1q,q2q,ag]);(try simp only [q3q,q4q,aao,aaa,aal,q5q,q6q,q7q,aap,aaq,aar] at hf);(try simp only [Nat.reduceAdd,aad] at hf ⊢))
      go_wp2
      go_roundw
      case rel =>
       refine ⟨3+1,by omega,by go_num,?_,Blk.other (by repeat (with_reducible first|assumption|apply Blk.ext|apply Blk.drew|apply Blk.alloc)) (by simp;omega) _,(by repeat (with_reducible first|exact Mut.refl _ _|assumption|apply Mut.ext|apply Mut.drew|apply Mut.alloc|apply Mut.setCell))⟩
       rw [← HF.out]
       exact Blk.upd (f:=jf l) (k:=4*c+3) (by repeat (with_reducible first|assumption|apply Blk.ext|apply Blk.drew|apply Blk.alloc)) (by omega)
      case measure=>simp [intOf]
    ·obtain rfl:r=4:=by omega
     go_wp2
     go_roundw
     case rel=>exact ⟨c+1,by omega,by go_num,by rw [show 4*(c+1)=4*c+4 by omega];exact hBi,hMi⟩
     case measure=>simp [intOf];omega
  ·obtain rfl:c=4:=by omega
   go_wp2
   go_end0
   rw [fB _ _ _ hl] at hBr
   exact ⟨rfl,hBr,hM⟩
end Go.Proofs.YtmdahnkcnagkjaaGreat

/- The walks of AES-128, part two: encryption, the keys. -/
namespace Go.Proofs.YtmdahnkcnagkjaaGreat
open Go.RowKit Go.Sec Go.Oct Go.Aes BigFrame
theorem rd_key {w:World} {c off:Nat} {ks:List UInt8} (h:Rd w (some ⟨c,off,none⟩) (ks.map u8v)) (r:Nat):Rd w (some ⟨c,off+r*16,none⟩) ((key ks r).map u8v):=by
 rcases h with h|⟨b,o,ha,hb,hc⟩
 ·left
  have:ks=[]:=by simpa using h
  subst this
  simp [key]
 ·injection ha with ha
  injection ha with e1 e2
  subst e1 e2
  refine .inr ⟨c,off+r*16,rfl,hb,fun k v hk=>?_⟩
  rw [aaY]
  refine hc (r*16+k) v ?_
  rw [Nat.mul_comm r 16]
  unfold key at hk
  rw [List.getElem?_map] at hk ⊢
  rw [List.getElem?_take] at hk
  split at hk
  ·rw [List.getElem?_drop] at hk;exact hk
  ·cases hk
theorem nf (g c off:Nat) (T:TypeId)(l ks:List UInt8)(w:World)(hB:Blk w g T (l.map u8v)) (hl:l.length=16) (hk:ks.length=176) (hR:Rd w (some ⟨c,off,none⟩) (ks.map u8v)) (hne:c≠g) :
  Calls Tryz.prog 174 #[.pointer (some ⟨c,off,none⟩), .pointer (some ⟨g,0,none⟩)] w fun e w'=>e = .returned (.tuple #[])∧Blk w' g T ((enc ks l).map u8v)∧Mut g w w':=by
 go_enter Tryz.func174,Tryz.ntmps174
 go_wp2_with fail
 refine (fK g T l (key ks 0) c (off+0*16) _ hB hl (kr ks 0 hk (by omega)) (rd_key hR 0) hne).mono ?_
 rintro e w1 ⟨rfl,hB1,hM1⟩
 go_wp2_with fail
 go_loopw [4] (fun v4 wr=>∃ r:Nat,r≤10∧v4 = .int .i64 ((r+1:Nat):Int)∧Blk wr g T ((rounds ks l r).map u8v)∧Mut g w wr) (fun v4 _=>11-(intOf v4).toNat)
 case atStart=>exact ⟨0,by omega,rfl,hB1,hM1⟩
 case round =>
  obtain ⟨r,hr,rfl,hBr,hM⟩:=hrel
  have hlr:=dJ ks l r
  by_cases hlt:r<10
  ·have hRk:=rd_key hR (r+1)
   have hkl:=kr ks (r+1) hk (by omega)
   by_cases h9:r+1<10
   ·have HS:=Lib.hid (show rounds ks l (r+1)=bJ (mix (rep (rounds ks l r))) (key ks (r+1)) by simp [rounds,h9])
    generalize rounds ks l r=s at *
    go_wp2_with fail
    refine (u0 g T s _ hBr hlr).mono ?_
    rintro e w2 ⟨rfl,hB2,hM2⟩
    go_wp2_with fail
    refine (zI g T (rep s) _ hB2 (by simp [rep])).mono ?_
    rintro e w3 ⟨rfl,hB3,hM3⟩
    go_wp2_with fail
    refine (fK g T _ (key ks (r+1)) c (off+(r+1)*16) _ hB3 (by simp [mix]) hkl (hRk.turn (hM.trans (hM2.trans hM3)) hne) hne).mono ?_
    rintro e w4 ⟨rfl,hB4,hM4⟩
    go_wp2_with fail
    go_roundw
    case rel=>exact ⟨r+1,by omega,by go_num,by rw [HS.out];exact hB4,hM.trans (hM2.trans (hM3.trans hM4))⟩
    case measure=>simp [intOf];omega
   ·have HS:=Lib.hid (show rounds ks l (r+1)=bJ (rep (rounds ks l r)) (key ks (r+1)) by simp [rounds,h9])
    generalize rounds ks l r=s at *
    go_wp2_with fail
    refine (u0 g T s _ hBr hlr).mono ?_
    rintro e w2 ⟨rfl,hB2,hM2⟩
    go_wp2_with fail
    refine (fK g T _ (key ks (r+1)) c (off+(r+1)*16) _ hB2 (by simp [rep]) hkl (hRk.turn (hM.trans hM2) hne) hne).mono ?_
    rintro e w4 ⟨rfl,hB4,hM4⟩
    go_wp2_with fail
    go_roundw
    case rel=>exact ⟨r+1,by omega,by go_num,by rw [HS.out];exact hB4,hM.trans (hM2.trans hM4)⟩
    case measure=>simp [intOf];omega
  ·obtain rfl:r=10:=by omega
   go_wp2
   go_end0
   exact ⟨rfl,hBr,hM⟩
end Go.Proofs.YtmdahnkcnagkjaaGreat

/- The walks of the document's SHA-256. -/
namespace Go.Sec
open Go.RowKit
structure Sw (w:World)(a:Option Addr)(n:Nat) (l:List UInt32):Prop where
 len:l.length=n
 rd:Rd w a (l.map jX)
theorem Sw.ext {w w':World} {a:Option Addr} {n:Nat} {l:List UInt32} (h:Sw w a n l) (hx:Ext w w'):Sw w' a n l:=⟨h.len,h.rd.ext hx⟩
theorem Sw.at {w:World} {a:Option Addr} {n:Nat} {l:List UInt32} (h:Sw w a n l) (k:Nat) (hk:k<n) :
  ∃ b off,a=some ⟨b,off,none⟩∧BlkLt b w∧w.cell? ⟨b,off+k,none⟩=some (.int .u32 (n32 (l.getD k 0))):=by
 have hl:=h.len
 obtain ⟨b,off,h1,h2,h3⟩:=h.rd.at k (by simp;omega)
 refine ⟨b,off,h1,h2,?_⟩
 rw [h3]
 simp [show k<l.length by omega]
def kj (l:List UInt32) (m:Nat):List UInt32:=l++List.replicate (m-l.length) 0
theorem xZ (l:List UInt32) (m:Nat) (v:UInt32) (h:l.length<m):(kj l m).set l.length v=kj (l++[v]) m:=by
 unfold kj
 rw [List.set_append_right _ _ (aag _),Nat.sub_self,aah,List.length_singleton]
 obtain ⟨j,hj⟩:∃ j,m-l.length=j+1:=⟨m-l.length-1,by omega⟩
 rw [hj,show m-(l.length+1)=j by omega,List.replicate_succ,q2q,aas]
 rfl
theorem yd (l:List UInt32) (m k:Nat) (h:k<l.length):(kj l m)[k]?=some (l.getD k 0):=by
 unfold kj
 rw [List.getElem?_append_left h]
 simp [h]
theorem sY (l:List UInt32) (m:Nat) (h:l.length≤m):(kj l m).length=m:=by simp [kj];omega
theorem Blk.there32 {w:World} {g m k:Nat} {T:TypeId} {l:List UInt32} (h:Blk w g T ((kj l m).map jX)) (hl:l.length≤m) (hk:k<m):∃ v,w.cell? ⟨g,k,none⟩=some v :=
 ⟨_,h.cell k (by rw [aaI,sY _ _ hl];exact hk)⟩
theorem Blk.push32 {w:World} {g m k:Nat} {T:TypeId} {l:List UInt32} (h:Blk w g T ((kj l m).map jX)) (hl:l.length=k) (hk:k<m) (v:UInt32):Blk (w.setCell ⟨g,k,none⟩ (.int .u32 (n32 v))) g T ((kj (l++[v]) m).map jX):=by
 have:=h.set k (jX v)
 rwa [← aaX,← hl,xZ _ _ _ (by omega),hl] at this
theorem Blk.at32 {w:World} {g m:Nat} {T:TypeId} {l:List UInt32} (h:Blk w g T ((kj l m).map jX)) (k:Nat) (hk:k<l.length):w.cell? ⟨g,k,none⟩=some (.int .u32 (n32 (l.getD k 0))) :=
 h.cell? k (by rw [List.getElem?_map,yd _ _ _ hk];rfl)
theorem Sl.atD {w:World} {a:Option Addr} {n:Nat} {l:List UInt8} (h:Sl w a n l) (k:Nat) (hk:k<n) :
  ∃ b off,a=some ⟨b,off,none⟩∧BlkLt b w∧w.cell? ⟨b,off+k,none⟩=some (.int .u8 (n8 (l.getD k 0))):=by
 obtain ⟨b,off,h1,h2,h3⟩:=h.at k hk
 have:=h.len
 exact ⟨b,off,h1,h2,by rw [h3];simp [show k<l.length by omega]⟩
end Go.Sec
namespace Go.Proofs.YtmdahnkcnagkjaaGreat
open Go.RowKit Go.Sec Go.Oct Go.Sha BigFrame
theorem wk (x:UInt32) (k:Nat) (hk:k<32):n32 x / (2:Int) ^ k=n32 (x >>> UInt32.ofNat k):=by
 have:=Af x k hk
 rwa [Int.natCast_pow] at this
theorem wH (x:UInt32) (k:Nat) (hk:k<32):n32 x*(2:Int) ^ k % 4294967296=n32 (x <<< UInt32.ofNat k):=by
 have e:(x <<< UInt32.ofNat k).toNat=x.toNat*2 ^ k % 4294967296:=by
  exact z6q58
 unfold n32
 rw [e]
 simp
theorem rO (x:UInt32) (n:Nat) (h1:1≤n) (h2:n≤31) (w:World) :
  Calls Tryz.prog 136 #[.int .u32 (n32 x), .int .i64 (n:Int)] w fun e w'=>e = .returned (.int .u32 (n32 (turn x n)))∧Ext w w':=by
 have e1:(32:Int)-(n:Int)=((32-n:Nat):Int):=by omega
 have s1:=wk x n (by omega)
 have s2:=wH x (32-n) (by omega)
 have HT:=Lib.hid (show turn x n=(x >>> UInt32.ofNat n) ||| (x <<< UInt32.ofNat (32-n)) from rfl)
 have hw1:IntKind.u64.wrap (n:Int)=(n:Int):=by rw [aaL];omega
 have hw2:IntKind.u64.wrap ((32-n:Nat):Int)=((32-n:Nat):Int):=by rw [aaL];omega
 have e0:IntKind.i64.wrap ((32-n:Nat):Int)=((32-n:Nat):Int):=by rw [abe];omega
 generalize hm:32-n=m at *
 go_enter Tryz.func136,Tryz.ntmps136
 go_wp2
 go_returns
 exact ⟨by rw [HT.out];rfl,Ext.refl _⟩
theorem ew (x:UInt32) (n:Nat) (h1:1≤n) (h2:n≤31) (w:World) :
  Calls Tryz.prog 136 #[.int .u32 (n32 x), .int .i64 (OfNat.ofNat n)] w fun e w'=>e = .returned (.int .u32 (n32 (turn x n)))∧Ext w w':=rO x n h1 h2 w
end Go.Proofs.YtmdahnkcnagkjaaGreat
