/- Lemmas of this claim, several texts joined. -/
import Derived.Test.YtdmifbfgeeldnaaGreatZ1
import Derived.Test.YtdmifbfgeeldnaaGreatZ5
import Derived.Test.YtdmifbfgeeldnaaGreatZ6
set_option maxRecDepth 100000
open List renaming setIfInBounds_toArray → q0q, set_cons_succ → q1q, set_cons_zero → q2q, mem_cons → q3q, not_mem_nil → q4q, nil_append → q5q, cons_append → q6q, mem_append → q7q, take_succ_cons → q8q, take_zero → q9q, drop_succ_cons → q10q, drop_zero → q11q, take_nil → q12q, drop_nil → q13q, getElem_cons_succ → q15q, getElem_cons_zero → q16q
set_option linter.unusedVariables false
set_option linter.unusedSimpArgs false
/- The walks of AES-128. -/
namespace Go.Proofs.YtdmifbfgeeldnaaGreat
open Go.RowKit Go.Sec Go.Oct Go.Aes BigFrame
set_option maxHeartbeats 1000000 in
theorem dbl_any (x:UInt8) (w:World) :
  Calls Tryz.prog 146 #[.int .u8 (n8 x)] w fun e w'=>e = .returned (.int .u8 (n8 (dbl x)))∧Ext w w':=by
 cases h:(x &&& 128 != 0)
 all_goals
  have HD:=Lib.hid (show dbl x=_ by unfold dbl;rw [h])
  simp only [Bool.false_eq_true,if_false,if_true] at HD
  go_enter Tryz.func146,Tryz.ntmps146
  go_wp2
  go_returns
  exact ⟨by rw [HD.out];rfl,Ext.refl _⟩
theorem box_any (x:UInt8) (W:World):(Instr.index 9 (.string { data:=box.toArray }) (.int .u8 (n8 x))).run Tryz.prog W = .ok (.int .u8 (n8 (sub x))) W :=
 run_index_str8 9 box x hst (by have:=x.toNat_lt;have h:box.length=256:=(by decide +kernel);omega) W
theorem _root_.z7q76{p:Prop}(h:p:=by
 obtain rfl:k=16:=by omega
 go_wp2
 go_end0
 rw [upTo_all _ _ _ hl] at hBr
 exact ⟨rfl,hBr,hM⟩):p:=h
set_option maxHeartbeats 2000000 in
theorem xor_any (g:Nat) (T:TypeId)(l m:List UInt8)(c off:Nat) (w:World)(hB:Blk w g T (l.map u8v)) (hl:l.length=16) (hm:m.length=16) (hR:Rd w (some ⟨c,off,none⟩) (m.map u8v)) (hne:c≠g) :
  Calls Tryz.prog 148 #[.pointer (some ⟨g,0,none⟩), .pointer (some ⟨c,off,none⟩)] w fun e w'=>e = .returned (.tuple #[])∧Blk w' g T ((xor16 l m).map u8v)∧Mut g w w':=by
 go_enter Tryz.func148,Tryz.ntmps148
 go_wp2
 go_loopw [4,5,7] (fun _ _ v7 wr=>∃ k:Nat,k≤16∧v7 = .int .i64 k∧Blk wr g T ((upTo (xorF l m) l k).map u8v)∧Mut g w wr) (fun _ _ v7 _=>16-(intOf v7).toNat)
 case atStart=>exact ⟨0,by omega,rfl,by rw [upTo_zero];exact hB,Mut.refl _ _⟩
 case round =>
  obtain ⟨k,hk,rfl,hBr,hM⟩:=hrel
  by_cases hlt:k<16
  ·have hc1:wr.cell? ⟨g,k,none⟩=some (.int .u8 (n8 (at' l k))):=hBr.at_upTo k (Nat.le_refl _) (by omega)
   have hf1:=hBr.free k
   haveI:=hBr.blt
   obtain ⟨c',off',he,hb2,hc2⟩:=(hR.turn hM hne).at k (by simp [hm];omega)
   obtain ⟨rfl,rfl⟩:c=c'∧off=off':=by simpa using he
   clear he
   have hc2':wr.cell? ⟨c,off+k,none⟩=some (.int .u8 (n8 (at' m k))):=by rw [hc2,List.getElem_map,at_get m k (by omega)]
   clear hc2
   have hk0:(0:Int)≤(k:Int):=by omega
   have hk1:(k:Int)<16:=by omega
   go_wp2
   refine wp_region_vague 6 [[],[],[1],[1,2],[0],[0,1,2,3,4]] (by kernel_rfl) (by kernel_rfl) (by kernel_rfl) (by kernel_rfl) ?_;simp only [q8q,q9q,q10q,q11q,q12q,q13q]
   (repeat (refine VD_a ?_;(try simp only [Act.put,q0q,q1q,q2q])))
   (refine VD_z ?_;intro us x hx hf;(try simp only [Act.put,q0q,q1q,q2q,wpList_none]);(try simp only [q3q,q4q,or_false,forall_eq_or_imp,forall_eq,q5q,q6q,q7q,false_or,true_and,and_true] at hf);(try simp only [Nat.reduceAdd,Nat.zero_add] at hf ⊢))
   go_wp2
   refine wp_region_vague 9 [[],[],[0],[0,1,2],[0,1,2,3],[],[0,1,2,3,4,5],[0],[0,1,2,3,4,5,6,7],[0,1,2,3,4,5,6,7,8]] (by kernel_rfl) (by kernel_rfl) (by kernel_rfl) (by kernel_rfl) ?_;simp only [q8q,q9q,q10q,q11q,q12q,q13q]
   (repeat (refine VD_a ?_;(try simp only [Act.put,q0q,q1q,q2q])))
   (refine VD_z ?_;intro us x hx hf;(try simp only [Act.put,q0q,q1q,q2q,wpList_none]);(try simp only [q3q,q4q,or_false,forall_eq_or_imp,forall_eq,q5q,q6q,q7q,false_or,true_and,and_true] at hf);(try simp only [Nat.reduceAdd,Nat.zero_add] at hf ⊢))
   go_wp2
   go_roundw
   case rel =>
    exact ⟨k+1,by omega,by go_num,Blk.upd (f:=xorF l m) (by repeat (with_reducible first|assumption|apply Blk.ext|apply Blk.drew|apply Blk.alloc)) (by omega),(by repeat (with_reducible first|exact Mut.refl _ _|assumption|apply Mut.ext|apply Mut.drew|apply Mut.alloc|apply Mut.setCell))⟩
   case measure=>simp [intOf];omega
  ·exact z7q76
theorem R60:RowT Tryz.prog 164 16:=⟨⟨_,Tryz.underlying164,rfl⟩,by kernel_rfl,⟨_,Tryz.zeroValue164,rfl⟩⟩
set_option maxHeartbeats 2000000 in
theorem rep_any (g:Nat) (T:TypeId)(l:List UInt8)(w:World)(hB:Blk w g T (l.map u8v)) (hl:l.length=16) :
  Calls Tryz.prog 149 #[.pointer (some ⟨g,0,none⟩)] w fun e w'=>e = .returned (.tuple #[])∧Blk w' g T ((rep l).map u8v)∧Mut g w w':=by
 have hld:=hB.rd
 go_enter Tryz.func149,Tryz.ntmps149
 have hbx:=box_any
 unfold box at hbx
 go_wp2_with (first
  | (refine wpList_load_arr (R60) rfl _ rfl (g) (0) rfl (l.map u8v) (hld) ((by simpa using hl)) ?_)
  | (refine wpList_alloc_store (R60) rfl rfl _ _ rfl rfl rfl rfl (by simp [Act.put]) (l.map u8v) rfl (by simp) ((by simpa using hl)) (one_u8 _) ?_;intro x hBx _))
 go_loopw [3,7] (fun _ v7 wr=>∃ k:Nat,k≤16∧v7 = .int .i64 k∧Blk wr g T ((upTo (repF l) l k).map u8v)∧Blk wr w.heap.size 164 (l.map u8v)∧Mut g w wr) (fun _ v7 _=>16-(intOf v7).toNat)
 case atStart=>exact ⟨0,by omega,rfl,by rw [upTo_zero];exact (by repeat (with_reducible first|assumption|apply Blk.ext|apply Blk.drew|apply Blk.alloc)),hBx,(by repeat (with_reducible first|exact Mut.refl _ _|assumption|apply Mut.ext|apply Mut.drew|apply Mut.alloc|apply Mut.setCell))⟩
 case round =>
  obtain ⟨k,hk,rfl,hBr,hBo,hM⟩:=hrel
  by_cases hlt:k<16
  ·have hf1:=hBr.free k
   have hc1:wr.cell? ⟨g,k,none⟩=some (.int .u8 (n8 (at' l k))):=hBr.at_upTo k (Nat.le_refl _) (by omega)
   haveI:=hBr.blt
   haveI:=hBo.blt
   have hc2:wr.cell? ⟨w.heap.size,(k+4*(k % 4)) % 16,none⟩=some (.int .u8 (n8 (at' l ((k+4*(k % 4)) % 16)))):=hBo.cell? _ (by
    have:(k+4*(k % 4)) % 16<l.length:=by omega
    rw [List.getElem?_map,List.getElem?_eq_getElem this,at_get _ _ this];rfl)
   have hk0:(0:Int)≤(k:Int):=by omega
   have hk1:(k:Int)<16:=by omega
   have hi0:(0:Int)≤((k:Int)+4*((k:Int) % 4)) % 16:=by omega
   have hi1:((k:Int)+4*((k:Int) % 4)) % 16<16:=by omega
   have hi2:(((k:Int)+4*((k:Int) % 4)) % 16).toNat=(k+4*(k % 4)) % 16:=by omega
   go_wp2
   refine wp_region_vague 13 [[],[],[],[],[3],[3,4],[2,3,4,5],[2,3,4,5,6],[2,3,4,5,6,7],[2,3,4,5,6,7,8],[2,3,4,5,6,7,8,9],[0],[0,1,2,3,4,5,6,7,8,9,10,11],[0,1,2,3,4,5,6,7,8,9,10,11,12]] (by kernel_rfl) (by kernel_rfl) (by kernel_rfl) (by kernel_rfl) ?_;simp only [q8q,q9q,q10q,q11q,q12q,q13q]
   (repeat (refine VD_a ?_;(try simp only [Act.put,q0q,q1q,q2q])))
   (refine VD_z ?_;intro us x hx hf;(try simp only [Act.put,q0q,q1q,q2q,wpList_none]);(try simp only [q3q,q4q,or_false,forall_eq_or_imp,forall_eq,q5q,q6q,q7q,false_or,true_and,and_true] at hf);(try simp only [Nat.reduceAdd,Nat.zero_add] at hf ⊢))
   go_wp2
   go_roundw
   case rel =>
    exact ⟨k+1,by omega,by go_num,Blk.upd (f:=repF l) (by repeat (with_reducible first|assumption|apply Blk.ext|apply Blk.drew|apply Blk.alloc)) (by omega),Blk.other (by repeat (with_reducible first|assumption|apply Blk.ext|apply Blk.drew|apply Blk.alloc)) (by have:=hB.lt;simp;omega) _,(by repeat (with_reducible first|exact Mut.refl _ _|assumption|apply Mut.ext|apply Mut.drew|apply Mut.alloc|apply Mut.setCell))⟩
   case measure=>simp [intOf];omega
  ·exact z7q76
set_option maxHeartbeats 4000000 in
theorem mix_any (g:Nat) (T:TypeId)(l:List UInt8)(w:World)(hB:Blk w g T (l.map u8v)) (hl:l.length=16) :
  Calls Tryz.prog 150 #[.pointer (some ⟨g,0,none⟩)] w fun e w'=>e = .returned (.tuple #[])∧Blk w' g T ((mix l).map u8v)∧Mut g w w':=by
 have hal:Tryz.prog.arrayLen 164=16:=by kernel_rfl
 have har:=fun W a len cap=>run_arrayAt (P:=Tryz.prog) W 157 5 4 a len cap Tryz.underlying157
 go_enter Tryz.func150,Tryz.ntmps150
 go_wp2
 go_loopw [2] (fun v2 wr=>∃ c:Nat,c≤4∧v2 = .int .i64 ((4*c:Nat):Int)∧Blk wr g T ((upTo (mixF l) l (4*c)).map u8v)∧Mut g w wr) (fun v2 _=>16-(intOf v2).toNat)
 case atStart=>exact ⟨0,by omega,rfl,by rw [upTo_zero];exact hB,Mut.refl _ _⟩
 case round =>
  obtain ⟨c,hc,rfl,hBr,hM⟩:=hrel
  by_cases hlt:c<4
  ·have a0:wr.cell? ⟨g,4*c,none⟩=some (.int .u8 (n8 (at' l (4*c)))):=hBr.at_upTo _ (by omega) (by omega)
   have a1:wr.cell? ⟨g,4*c+1,none⟩=some (.int .u8 (n8 (at' l (4*c+1)))):=hBr.at_upTo _ (by omega) (by omega)
   have a2:wr.cell? ⟨g,4*c+2,none⟩=some (.int .u8 (n8 (at' l (4*c+2)))):=hBr.at_upTo _ (by omega) (by omega)
   have a3:wr.cell? ⟨g,4*c+3,none⟩=some (.int .u8 (n8 (at' l (4*c+3)))):=hBr.at_upTo _ (by omega) (by omega)
   haveI:=hBr.blt
   have b0:(0:Int)≤4*(c:Int):=by omega
   have b1:4*(c:Int)≤16:=by omega
   have b2:(4*(c:Int)).toNat=4*c:=by omega
   have b3:¬ 16=4*c:=by omega
   have b4:4≤16-4*c:=by omega
   go_wp2
   obtain ⟨wo,rfl⟩:∃ wo:World,wo=wr:=⟨_,rfl⟩
   go_loopw [5,6,29] (fun _ _ v29 wi=>∃ r:Nat,r≤4∧v29 = .int .i64 r∧Blk wi g T ((upTo (mixF l) l (4*c+r)).map u8v)∧Blk wi wo.heap.size 157 [.int .u8 (n8 (at' l (4*c))), .int .u8 (n8 (at' l (4*c+1))), .int .u8 (n8 (at' l (4*c+2))), .int .u8 (n8 (at' l (4*c+3)))]∧Mut g w wi) (fun _ _ v29 _=>4-(intOf v29).toNat)
   case atStart=>exact ⟨0,by omega,rfl,hBr.alloc _,Blk.new _ _ _,hM.alloc _⟩
   case round =>
    obtain ⟨r,hr,rfl,hBi,hBw,hMi⟩:=hrel
    haveI:=hBi.blt
    haveI:=hBw.blt
    have hgn:g≠wo.heap.size:=by have:=hBr.lt;omega
    have w0:=hBw.cell 0 (by simp)
    have w1:=hBw.cell 1 (by simp)
    have w2:=hBw.cell 2 (by simp)
    have w3:=hBw.cell 3 (by simp)
    simp only [q16q,q15q] at w0 w1 w2 w3
    by_cases hr4:r<4
    ·obtain rfl|rfl|rfl|rfl:r=0∨r=1∨r=2∨r=3:=by omega
     ·rw [Nat.add_zero] at hBi
      have hi0:∀ W (x0 x1 x2 x3:Value),(Instr.index 157 (.agg #[x0,x1,x2,x3]) (.int .i64 0)).run Tryz.prog W = .ok x0 W:=fun _ _ _ _ _=>by kernel_rfl
      have hf1:=hBi.free (4*c)
      have hc1:wr.cell? ⟨g,4*c,none⟩=some (.int .u8 (n8 (at' l (4*c)))):=hBi.at_upTo _ (by omega) (by omega)
      have s0:(0:Int)≤4*(c:Int)+0:=by omega
      have s1:4*(c:Int)+0<16:=by omega
      have s2:(4*(c:Int)+0).toNat=4*c:=by omega
      have HF:=Lib.hid (mixF0 l c)
      go_wp2
      refine wp_region_vague 18 [[],[],[],[1,2],[],[],[4,5],[],[],[8],[8,9],[8,9,10],[8,9,10,11],[7,8,9,10,11,12],[7,8,9,10,11,12,13],[4,5,6,7,8,9,10,11,12,13,14],[0],[0,1,2,3,4,5,6,7,8,9,10,11,12,13,14,15,16],[0,1,2,3,4,5,6,7,8,9,10,11,12,13,14,15,16,17]] (by kernel_rfl) (by kernel_rfl) (by kernel_rfl) (by kernel_rfl) ?_;simp only [q8q,q9q,q10q,q11q,q12q,q13q]
      (repeat (refine VD_a ?_;(try simp only [Act.put,q0q,q1q,q2q])))
      (refine VD_vag (fun _ => .int .u8 (n8 (dbl (at' l (4*c) ^^^ at' l (4*c+1))))) (fun _ _=>True) (fun _ _ _ _ _=>trivial) (fun us w' hx hf=>⟨rfl,?_⟩) ?_;(unfold gives;simp [go_sem,execOp];refine (dbl_any _ _).mono ?_;rintro e w1 ⟨rfl,hx1⟩;first|exact ⟨rfl,hx1⟩|simpa using hx1))
      (repeat (refine VD_a ?_;(try simp only [Act.put,q0q,q1q,q2q])))
      (refine VD_z ?_;intro us x hx hf;(try simp only [Act.put,q0q,q1q,q2q,wpList_none]);(try simp only [q3q,q4q,or_false,forall_eq_or_imp,forall_eq,q5q,q6q,q7q,false_or,true_and,and_true] at hf);(try simp only [Nat.reduceAdd,Nat.zero_add] at hf ⊢))
      go_wp2
      go_roundw
      case rel =>
       refine ⟨0+1,by omega,by go_num,?_,Blk.other (by repeat (with_reducible first|assumption|apply Blk.ext|apply Blk.drew|apply Blk.alloc)) (by simp;omega) _,(by repeat (with_reducible first|exact Mut.refl _ _|assumption|apply Mut.ext|apply Mut.drew|apply Mut.alloc|apply Mut.setCell))⟩
       rw [← HF.out]
       exact Blk.upd (f:=mixF l) (k:=4*c) (by repeat (with_reducible first|assumption|apply Blk.ext|apply Blk.drew|apply Blk.alloc)) (by omega)
      case measure=>simp [intOf]
     ·have hi0:∀ W (x0 x1 x2 x3:Value),(Instr.index 157 (.agg #[x0,x1,x2,x3]) (.int .i64 1)).run Tryz.prog W = .ok x1 W:=fun _ _ _ _ _=>by kernel_rfl
      have hf1:=hBi.free (4*c+1)
      have hc1:wr.cell? ⟨g,4*c+1,none⟩=some (.int .u8 (n8 (at' l (4*c+1)))):=hBi.at_upTo _ (by omega) (by omega)
      have s0:(0:Int)≤4*(c:Int)+1:=by omega
      have s1:4*(c:Int)+1<16:=by omega
      have s2:(4*(c:Int)+1).toNat=4*c+1:=by omega
      have HF:=Lib.hid (mixF1 l c)
      go_wp2
      refine wp_region_vague 18 [[],[],[],[1,2],[],[],[4,5],[],[],[8],[8,9],[8,9,10],[8,9,10,11],[7,8,9,10,11,12],[7,8,9,10,11,12,13],[4,5,6,7,8,9,10,11,12,13,14],[0],[0,1,2,3,4,5,6,7,8,9,10,11,12,13,14,15,16],[0,1,2,3,4,5,6,7,8,9,10,11,12,13,14,15,16,17]] (by kernel_rfl) (by kernel_rfl) (by kernel_rfl) (by kernel_rfl) ?_;simp only [q8q,q9q,q10q,q11q,q12q,q13q]
      (repeat (refine VD_a ?_;(try simp only [Act.put,q0q,q1q,q2q])))
      (refine VD_vag (fun _ => .int .u8 (n8 (dbl (at' l (4*c+1) ^^^ at' l (4*c+2))))) (fun _ _=>True) (fun _ _ _ _ _=>trivial) (fun us w' hx hf=>⟨rfl,?_⟩) ?_;(unfold gives;simp [go_sem,execOp];refine (dbl_any _ _).mono ?_;rintro e w1 ⟨rfl,hx1⟩;first|exact ⟨rfl,hx1⟩|simpa using hx1))
      (repeat (refine VD_a ?_;(try simp only [Act.put,q0q,q1q,q2q])))
      (refine VD_z ?_;intro us x hx hf;(try simp only [Act.put,q0q,q1q,q2q,wpList_none]);(try simp only [q3q,q4q,or_false,forall_eq_or_imp,forall_eq,q5q,q6q,q7q,false_or,true_and,and_true] at hf);(try simp only [Nat.reduceAdd,Nat.zero_add] at hf ⊢))
      go_wp2
      go_roundw
      case rel =>
       refine ⟨1+1,by omega,by go_num,?_,Blk.other (by repeat (with_reducible first|assumption|apply Blk.ext|apply Blk.drew|apply Blk.alloc)) (by simp;omega) _,(by repeat (with_reducible first|exact Mut.refl _ _|assumption|apply Mut.ext|apply Mut.drew|apply Mut.alloc|apply Mut.setCell))⟩
       rw [← HF.out]
       exact Blk.upd (f:=mixF l) (k:=4*c+1) (by repeat (with_reducible first|assumption|apply Blk.ext|apply Blk.drew|apply Blk.alloc)) (by omega)
      case measure=>simp [intOf]
     ·have hi0:∀ W (x0 x1 x2 x3:Value),(Instr.index 157 (.agg #[x0,x1,x2,x3]) (.int .i64 2)).run Tryz.prog W = .ok x2 W:=fun _ _ _ _ _=>by kernel_rfl
      have hf1:=hBi.free (4*c+2)
      have hc1:wr.cell? ⟨g,4*c+2,none⟩=some (.int .u8 (n8 (at' l (4*c+2)))):=hBi.at_upTo _ (by omega) (by omega)
      have s0:(0:Int)≤4*(c:Int)+2:=by omega
      have s1:4*(c:Int)+2<16:=by omega
      have s2:(4*(c:Int)+2).toNat=4*c+2:=by omega
      have HF:=Lib.hid (mixF2 l c)
      go_wp2
      refine wp_region_vague 18 [[],[],[],[1,2],[],[],[4,5],[],[],[8],[8,9],[8,9,10],[8,9,10,11],[7,8,9,10,11,12],[7,8,9,10,11,12,13],[4,5,6,7,8,9,10,11,12,13,14],[0],[0,1,2,3,4,5,6,7,8,9,10,11,12,13,14,15,16],[0,1,2,3,4,5,6,7,8,9,10,11,12,13,14,15,16,17]] (by kernel_rfl) (by kernel_rfl) (by kernel_rfl) (by kernel_rfl) ?_;simp only [q8q,q9q,q10q,q11q,q12q,q13q]
      (repeat (refine VD_a ?_;(try simp only [Act.put,q0q,q1q,q2q])))
      (refine VD_vag (fun _ => .int .u8 (n8 (dbl (at' l (4*c+2) ^^^ at' l (4*c+3))))) (fun _ _=>True) (fun _ _ _ _ _=>trivial) (fun us w' hx hf=>⟨rfl,?_⟩) ?_;(unfold gives;simp [go_sem,execOp];refine (dbl_any _ _).mono ?_;rintro e w1 ⟨rfl,hx1⟩;first|exact ⟨rfl,hx1⟩|simpa using hx1))
      (repeat (refine VD_a ?_;(try simp only [Act.put,q0q,q1q,q2q])))
      (refine VD_z ?_;intro us x hx hf;(try simp only [Act.put,q0q,q1q,q2q,wpList_none]);(try simp only [q3q,q4q,or_false,forall_eq_or_imp,forall_eq,q5q,q6q,q7q,false_or,true_and,and_true] at hf);(try simp only [Nat.reduceAdd,Nat.zero_add] at hf ⊢))
      go_wp2
      go_roundw
      case rel =>
       refine ⟨2+1,by omega,by go_num,?_,Blk.other (by repeat (with_reducible first|assumption|apply Blk.ext|apply Blk.drew|apply Blk.alloc)) (by simp;omega) _,(by repeat (with_reducible first|exact Mut.refl _ _|assumption|apply Mut.ext|apply Mut.drew|apply Mut.alloc|apply Mut.setCell))⟩
       rw [← HF.out]
       exact Blk.upd (f:=mixF l) (k:=4*c+2) (by repeat (with_reducible first|assumption|apply Blk.ext|apply Blk.drew|apply Blk.alloc)) (by omega)
      case measure=>simp [intOf]
     ·have hi0:∀ W (x0 x1 x2 x3:Value),(Instr.index 157 (.agg #[x0,x1,x2,x3]) (.int .i64 3)).run Tryz.prog W = .ok x3 W:=fun _ _ _ _ _=>by kernel_rfl
      have hf1:=hBi.free (4*c+3)
      have hc1:wr.cell? ⟨g,4*c+3,none⟩=some (.int .u8 (n8 (at' l (4*c+3)))):=hBi.at_upTo _ (by omega) (by omega)
      have s0:(0:Int)≤4*(c:Int)+3:=by omega
      have s1:4*(c:Int)+3<16:=by omega
      have s2:(4*(c:Int)+3).toNat=4*c+3:=by omega
      have HF:=Lib.hid (mixF3 l c)
      go_wp2
      refine wp_region_vague 18 [[],[],[],[1,2],[],[],[4,5],[],[],[8],[8,9],[8,9,10],[8,9,10,11],[7,8,9,10,11,12],[7,8,9,10,11,12,13],[4,5,6,7,8,9,10,11,12,13,14],[0],[0,1,2,3,4,5,6,7,8,9,10,11,12,13,14,15,16],[0,1,2,3,4,5,6,7,8,9,10,11,12,13,14,15,16,17]] (by kernel_rfl) (by kernel_rfl) (by kernel_rfl) (by kernel_rfl) ?_;simp only [q8q,q9q,q10q,q11q,q12q,q13q]
      (repeat (refine VD_a ?_;(try simp only [Act.put,q0q,q1q,q2q])))
      (refine VD_vag (fun _ => .int .u8 (n8 (dbl (at' l (4*c+3) ^^^ at' l (4*c))))) (fun _ _=>True) (fun _ _ _ _ _=>trivial) (fun us w' hx hf=>⟨rfl,?_⟩) ?_;(unfold gives;simp [go_sem,execOp];refine (dbl_any _ _).mono ?_;rintro e w1 ⟨rfl,hx1⟩;first|exact ⟨rfl,hx1⟩|simpa using hx1))
      (repeat (refine VD_a ?_;(try simp only [Act.put,q0q,q1q,q2q])))
      (refine VD_z ?_;intro us x hx hf;(try simp only [Act.put,q0q,q1q,q2q,wpList_none]);(try simp only [q3q,q4q,or_false,forall_eq_or_imp,forall_eq,q5q,q6q,q7q,false_or,true_and,and_true] at hf);(try simp only [Nat.reduceAdd,Nat.zero_add] at hf ⊢))
      go_wp2
      go_roundw
      case rel =>
       refine ⟨3+1,by omega,by go_num,?_,Blk.other (by repeat (with_reducible first|assumption|apply Blk.ext|apply Blk.drew|apply Blk.alloc)) (by simp;omega) _,(by repeat (with_reducible first|exact Mut.refl _ _|assumption|apply Mut.ext|apply Mut.drew|apply Mut.alloc|apply Mut.setCell))⟩
       rw [← HF.out]
       exact Blk.upd (f:=mixF l) (k:=4*c+3) (by repeat (with_reducible first|assumption|apply Blk.ext|apply Blk.drew|apply Blk.alloc)) (by omega)
      case measure=>simp [intOf]
    ·obtain rfl:r=4:=by omega
     go_wp2
     go_roundw
     case rel=>exact ⟨c+1,by omega,by go_num,by rw [show 4*(c+1)=4*c+4 by omega];exact hBi,hMi⟩
     case measure=>simp [intOf];omega
  ·obtain rfl:c=4:=by omega
   go_wp2
   go_end0
   rw [upTo_all _ _ _ hl] at hBr
   exact ⟨rfl,hBr,hM⟩
end Go.Proofs.YtdmifbfgeeldnaaGreat

/- The walks of AES-128, part two: encryption, the keys. -/
namespace Go.Proofs.YtdmifbfgeeldnaaGreat
open Go.RowKit Go.Sec Go.Oct Go.Aes BigFrame
theorem rd_key {w:World} {c off:Nat} {ks:List UInt8} (h:Rd w (some ⟨c,off,none⟩) (ks.map u8v)) (r:Nat):Rd w (some ⟨c,off+r*16,none⟩) ((key ks r).map u8v):=by
 rcases h with h|⟨b,o,ha,hb,hc⟩
 ·left
  have:ks=[]:=by simpa using h
  subst this
  simp [key]
 ·injection ha with ha
  injection ha with e1 e2
  subst e1 e2
  refine .inr ⟨c,off+r*16,rfl,hb,fun k v hk=>?_⟩
  rw [Nat.add_assoc]
  refine hc (r*16+k) v ?_
  rw [Nat.mul_comm r 16]
  unfold key at hk
  rw [List.getElem?_map] at hk ⊢
  rw [List.getElem?_take] at hk
  split at hk
  ·rw [List.getElem?_drop] at hk;exact hk
  ·cases hk
set_option maxHeartbeats 2000000 in
theorem enc_any (g c off:Nat) (T:TypeId)(l ks:List UInt8)(w:World)(hB:Blk w g T (l.map u8v)) (hl:l.length=16) (hk:ks.length=176) (hR:Rd w (some ⟨c,off,none⟩) (ks.map u8v)) (hne:c≠g) :
  Calls Tryz.prog 139 #[.pointer (some ⟨c,off,none⟩), .pointer (some ⟨g,0,none⟩)] w fun e w'=>e = .returned (.tuple #[])∧Blk w' g T ((enc ks l).map u8v)∧Mut g w w':=by
 go_enter Tryz.func139,Tryz.ntmps139
 go_wp2_with fail
 refine (xor_any g T l (key ks 0) c (off+0*16) _ hB hl (key_length ks 0 hk (by omega)) (rd_key hR 0) hne).mono ?_
 rintro e w1 ⟨rfl,hB1,hM1⟩
 go_wp2_with fail
 go_loopw [4] (fun v4 wr=>∃ r:Nat,r≤10∧v4 = .int .i64 ((r+1:Nat):Int)∧Blk wr g T ((rounds ks l r).map u8v)∧Mut g w wr) (fun v4 _=>11-(intOf v4).toNat)
 case atStart=>exact ⟨0,by omega,rfl,hB1,hM1⟩
 case round =>
  obtain ⟨r,hr,rfl,hBr,hM⟩:=hrel
  have hlr:=rounds_length ks l r
  by_cases hlt:r<10
  ·have hRk:=rd_key hR (r+1)
   have hkl:=key_length ks (r+1) hk (by omega)
   by_cases h9:r+1<10
   ·have HS:=Lib.hid (show rounds ks l (r+1)=xor16 (mix (rep (rounds ks l r))) (key ks (r+1)) by simp [rounds,h9])
    generalize rounds ks l r=s at *
    go_wp2_with fail
    refine (rep_any g T s _ hBr hlr).mono ?_
    rintro e w2 ⟨rfl,hB2,hM2⟩
    go_wp2_with fail
    refine (mix_any g T (rep s) _ hB2 (by simp [rep])).mono ?_
    rintro e w3 ⟨rfl,hB3,hM3⟩
    go_wp2_with fail
    refine (xor_any g T _ (key ks (r+1)) c (off+(r+1)*16) _ hB3 (by simp [mix]) hkl (hRk.turn (hM.trans (hM2.trans hM3)) hne) hne).mono ?_
    rintro e w4 ⟨rfl,hB4,hM4⟩
    go_wp2_with fail
    go_roundw
    case rel=>exact ⟨r+1,by omega,by go_num,by rw [HS.out];exact hB4,hM.trans (hM2.trans (hM3.trans hM4))⟩
    case measure=>simp [intOf];omega
   ·have HS:=Lib.hid (show rounds ks l (r+1)=xor16 (rep (rounds ks l r)) (key ks (r+1)) by simp [rounds,h9])
    generalize rounds ks l r=s at *
    go_wp2_with fail
    refine (rep_any g T s _ hBr hlr).mono ?_
    rintro e w2 ⟨rfl,hB2,hM2⟩
    go_wp2_with fail
    refine (xor_any g T _ (key ks (r+1)) c (off+(r+1)*16) _ hB2 (by simp [rep]) hkl (hRk.turn (hM.trans hM2) hne) hne).mono ?_
    rintro e w4 ⟨rfl,hB4,hM4⟩
    go_wp2_with fail
    go_roundw
    case rel=>exact ⟨r+1,by omega,by go_num,by rw [HS.out];exact hB4,hM.trans (hM2.trans hM4)⟩
    case measure=>simp [intOf];omega
  ·obtain rfl:r=10:=by omega
   go_wp2
   go_end0
   exact ⟨rfl,hBr,hM⟩
end Go.Proofs.YtdmifbfgeeldnaaGreat

/- The walks of the document's SHA-256. -/
namespace Go.Sec
open Go.RowKit
structure Sw (w:World)(a:Option Addr)(n:Nat) (l:List UInt32):Prop where
 len:l.length=n
 rd:Rd w a (l.map u32v)
theorem Sw.ext {w w':World} {a:Option Addr} {n:Nat} {l:List UInt32} (h:Sw w a n l) (hx:Ext w w'):Sw w' a n l:=⟨h.len,h.rd.ext hx⟩
theorem Sw.at {w:World} {a:Option Addr} {n:Nat} {l:List UInt32} (h:Sw w a n l) (k:Nat) (hk:k<n) :
  ∃ b off,a=some ⟨b,off,none⟩∧BlkLt b w∧w.cell? ⟨b,off+k,none⟩=some (.int .u32 (n32 (l.getD k 0))):=by
 have hl:=h.len
 obtain ⟨b,off,h1,h2,h3⟩:=h.rd.at k (by simp;omega)
 refine ⟨b,off,h1,h2,?_⟩
 rw [h3]
 simp [show k<l.length by omega]
def pad0 (l:List UInt32) (m:Nat):List UInt32:=l++List.replicate (m-l.length) 0
theorem pad0_set (l:List UInt32) (m:Nat) (v:UInt32) (h:l.length<m):(pad0 l m).set l.length v=pad0 (l++[v]) m:=by
 unfold pad0
 rw [List.set_append_right _ _ (Nat.le_refl _),Nat.sub_self,List.length_append,List.length_singleton]
 obtain ⟨j,hj⟩:∃ j,m-l.length=j+1:=⟨m-l.length-1,by omega⟩
 rw [hj,show m-(l.length+1)=j by omega,List.replicate_succ,q2q,List.append_assoc]
 rfl
theorem pad0_get (l:List UInt32) (m k:Nat) (h:k<l.length):(pad0 l m)[k]?=some (l.getD k 0):=by
 unfold pad0
 rw [List.getElem?_append_left h]
 simp [h]
theorem pad0_length (l:List UInt32) (m:Nat) (h:l.length≤m):(pad0 l m).length=m:=by simp [pad0];omega
theorem Blk.there32 {w:World} {g m k:Nat} {T:TypeId} {l:List UInt32} (h:Blk w g T ((pad0 l m).map u32v)) (hl:l.length≤m) (hk:k<m):∃ v,w.cell? ⟨g,k,none⟩=some v :=
 ⟨_,h.cell k (by rw [List.length_map,pad0_length _ _ hl];exact hk)⟩
theorem Blk.push32 {w:World} {g m k:Nat} {T:TypeId} {l:List UInt32} (h:Blk w g T ((pad0 l m).map u32v)) (hl:l.length=k) (hk:k<m) (v:UInt32):Blk (w.setCell ⟨g,k,none⟩ (.int .u32 (n32 v))) g T ((pad0 (l++[v]) m).map u32v):=by
 have:=h.set k (u32v v)
 rwa [← List.map_set,← hl,pad0_set _ _ _ (by omega),hl] at this
theorem Blk.at32 {w:World} {g m:Nat} {T:TypeId} {l:List UInt32} (h:Blk w g T ((pad0 l m).map u32v)) (k:Nat) (hk:k<l.length):w.cell? ⟨g,k,none⟩=some (.int .u32 (n32 (l.getD k 0))) :=
 h.cell? k (by rw [List.getElem?_map,pad0_get _ _ _ hk];rfl)
theorem Sl.atD {w:World} {a:Option Addr} {n:Nat} {l:List UInt8} (h:Sl w a n l) (k:Nat) (hk:k<n) :
  ∃ b off,a=some ⟨b,off,none⟩∧BlkLt b w∧w.cell? ⟨b,off+k,none⟩=some (.int .u8 (n8 (l.getD k 0))):=by
 obtain ⟨b,off,h1,h2,h3⟩:=h.at k hk
 have:=h.len
 exact ⟨b,off,h1,h2,by rw [h3];simp [show k<l.length by omega]⟩
end Go.Sec
namespace Go.Proofs.YtdmifbfgeeldnaaGreat
open Go.RowKit Go.Sec Go.Oct Go.Sha BigFrame
theorem shr32_pow (x:UInt32) (k:Nat) (hk:k<32):n32 x / (2:Int) ^ k=n32 (x >>> UInt32.ofNat k):=by
 have:=shr32 x k hk
 rwa [Int.natCast_pow] at this
theorem shl32_pow (x:UInt32) (k:Nat) (hk:k<32):n32 x*(2:Int) ^ k % 4294967296=n32 (x <<< UInt32.ofNat k):=by
 have e:(x <<< UInt32.ofNat k).toNat=x.toNat*2 ^ k % 4294967296:=by
  exact z6q58
 unfold n32
 rw [e]
 simp
set_option maxHeartbeats 2000000 in
theorem turn_nat (x:UInt32) (n:Nat) (h1:1≤n) (h2:n≤31) (w:World) :
  Calls Tryz.prog 122 #[.int .u32 (n32 x), .int .i64 (n:Int)] w fun e w'=>e = .returned (.int .u32 (n32 (turn x n)))∧Ext w w':=by
 have e1:(32:Int)-(n:Int)=((32-n:Nat):Int):=by omega
 have s1:=shr32_pow x n (by omega)
 have s2:=shl32_pow x (32-n) (by omega)
 have HT:=Lib.hid (show turn x n=(x >>> UInt32.ofNat n) ||| (x <<< UInt32.ofNat (32-n)) from rfl)
 have hw1:IntKind.u64.wrap (n:Int)=(n:Int):=by rw [IntKind.wrap_u64];omega
 have hw2:IntKind.u64.wrap ((32-n:Nat):Int)=((32-n:Nat):Int):=by rw [IntKind.wrap_u64];omega
 have e0:IntKind.i64.wrap ((32-n:Nat):Int)=((32-n:Nat):Int):=by rw [IntKind.wrap_i64];omega
 generalize hm:32-n=m at *
 go_enter Tryz.func122,Tryz.ntmps122
 go_wp2
 go_returns
 exact ⟨by rw [HT.out];rfl,Ext.refl _⟩
theorem turn_any (x:UInt32) (n:Nat) (h1:1≤n) (h2:n≤31) (w:World) :
  Calls Tryz.prog 122 #[.int .u32 (n32 x), .int .i64 (OfNat.ofNat n)] w fun e w'=>e = .returned (.int .u32 (n32 (turn x n)))∧Ext w w':=turn_nat x n h1 h2 w
end Go.Proofs.YtdmifbfgeeldnaaGreat
