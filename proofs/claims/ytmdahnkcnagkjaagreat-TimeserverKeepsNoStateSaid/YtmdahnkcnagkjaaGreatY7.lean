/- Lemmas of this claim, several texts joined. -/
import Derived.Test.YtmdahnkcnagkjaaGreatY1
import Derived.Test.YtmdahnkcnagkjaaGreatY5
import Derived.Test.YtmdahnkcnagkjaaGreatY6
set_option maxRecDepth 100000
open Go.Value renaming int -> Zz
open Go.IntKind renaming i64 -> Zx,u32 -> Zv,u8 -> Zu
open List renaming setIfInBounds_toArray -> q0q, set_cons_succ -> q1q, set_cons_zero -> q2q, mem_cons -> q3q, not_mem_nil -> q4q, nil_append -> q5q, cons_append -> q6q, mem_append -> q7q, take_succ_cons -> q8q, take_zero -> q9q, drop_succ_cons -> q10q, drop_zero -> q11q, take_nil -> q12q, drop_nil -> q13q, getElem_cons_succ -> q15q, getElem_cons_zero -> q16q
open Go.IntWalk renaming i64_in -> q17q, rem_in -> q18q, wrap64_in -> q19q
set_option maxHeartbeats 8000000
set_option linter.unusedVariables false
set_option linter.unusedSimpArgs false
/- The walks of AES-128. -/
namespace Go.Proofs.YtmdahnkcnagkjaaGreat
open Go.RowKit Go.Sec Go.Oct Go.Aes BigFrame
theorem lS (x:UInt8) (w:World) :
  Calls Tryz.prog 179 #[Zz Zu (n8 x)] w λ e w'=>e = .returned (Zz Zu (n8 (dbl x)))/\Ext w w':=by
 cases h:(x &&& 128 != 0)
 all_goals
  have HD:=Lib.hid (show dbl x=_ by unfold dbl;rw [h]);simp only [aaG,abn,abg] at HD
  go_enter Tryz.func179,Tryz.ntmps179
  go_wp2
  go_returns
  exact ⟨by rw [HD.out];rfl,Ext.refl _⟩
theorem vw (x:UInt8) (W:World):(Instr.index 9 (.string { data:=box.toArray }) (Zz Zu (n8 x))).run Tryz.prog W = .ok (Zz Zu (n8 (sub x))) W :=
 oX 9 box x hst (by have:=x.toNat_lt;have h:box.length=256:=(by decide +kernel);omega) W
theorem _root_.z7q77{p:Prop}(h:p:=by
 obtain rfl:k=16:=Zo;go_wp2
 go_end0
 rw [fJ _ _ _ hl] at hBr;exact ⟨rfl,hBr,hM⟩):p:=h
theorem fZ (g:Nat) (T:TypeId)(l m:List UInt8)(c off:Nat) (w:World)(hB:Blk w g T (l.map u8v)) (hl:l.length=16) (hm:m.length=16) (hR:Rd w (some ⟨c,off,none⟩) (m.map u8v)) (hne:c≠g) :
  Calls Tryz.prog 181 #[.pointer (some ⟨g,0,none⟩), .pointer (some ⟨c,off,none⟩)] w λ e w'=>e = .returned (.tuple #[])/\Blk w' g T ((bQ l m).map u8v)/\Mut g w w':=by
 go_enter Tryz.func181,Tryz.ntmps181
 go_wp2
 go_loopw [4,5,7] (λ _ _ v7 wr=>∃ k:Nat,k<=16/\v7 = Zz Zx k/\Blk wr g T ((dC (jO l m) l k).map u8v)/\Mut g w wr) (λ _ _ v7 _=>16-(intOf v7).toNat)
 case atStart=>exact ⟨0,Zo,rfl,by rw [dP];exact hB,Mut.refl _ _⟩
 case round =>
  obtain ⟨k,hk,rfl,hBr,hM⟩:=hrel;by_cases hlt:k<16
  ·have hc1:wr.cell? ⟨g,k,none⟩=some (Zz Zu (n8 (at' l k))):=hBr.at_upTo k (aae _) Zo;have hf1:=hBr.free k;haveI:=hBr.blt;obtain ⟨c',off',he,hb2,hc2⟩:=(hR.turn hM hne).at k (by simp [hm];omega);obtain ⟨rfl,rfl⟩:c=c'/\off=off':=by simpa using he
   clear he;have hc2':wr.cell? ⟨c,off+k,none⟩=some (Zz Zu (n8 (at' m k))):=by rw [hc2,abG,bw m k Zo]
   clear hc2;have hk0:(0:Int)<=(k:Int):=Zo;have hk1:(k:Int)<16:=Zo;go_wp2;refine ae 6 [[],[],[1],[1,2],[0],[0,1,2,3,4]] Zk Zk Zk Zk ?_;simp only [q8q,q9q,q10q,q11q,q12q,q13q];(repeat (apply aj;(case h=>(intro us w' hx hf;obtain ⟨x,rfl⟩:=hx.out;refine ⟨rfl,?_⟩;simp [go_sem,execOp, *];(try simp (disch:=omega) only [q17q,q18q,q19q]);rfl));(try simp only [Act.put,q0q,q1q,q2q])));(refine aB ?_;intro us w' hx hf;obtain ⟨x,rfl⟩:=hx.out;(try simp only [Act.put,q0q,q1q,q2q,ai]);(try simp only [q3q,q4q,aar,aac,aan,q5q,q6q,q7q,aat,aau,aav] at hf);(try simp only [Nat.reduceAdd,aag] at hf ⊢));go_wp2;refine ae 9 [[],[],[0],[0,1,2],[0,1,2,3],[],[0,1,2,3,4,5],[0],[0,1,2,3,4,5,6,7],[0,1,2,3,4,5,6,7,8]] Zk Zk Zk Zk ?_;simp only [q8q,q9q,q10q,q11q,q12q,q13q];(repeat (apply aj;(case h=>(intro us w' hx hf;obtain ⟨x,rfl⟩:=hx.out;refine ⟨rfl,?_⟩;simp [go_sem,execOp, *];(try simp (disch:=omega) only [q17q,q18q,q19q]);rfl));(try simp only [Act.put,q0q,q1q,q2q])));(refine aB ?_;intro us w' hx hf;obtain ⟨x,rfl⟩:=hx.out;(try simp only [Act.put,q0q,q1q,q2q,ai]);(try simp only [q3q,q4q,aar,aac,aan,q5q,q6q,q7q,aat,aau,aav] at hf);(try simp only [Nat.reduceAdd,aag] at hf ⊢));go_wp2;go_roundw
   case rel =>
    exact ⟨k+1,Zo,Zg,Blk.upd (f:=jO l m) (by repeat (with_reducible first|assumption|apply Blk.ext|apply Blk.drew|apply Blk.alloc)) Zo,(by repeat (with_reducible first|exact Mut.refl _ _|assumption|apply Mut.ext|apply Mut.drew|apply Mut.alloc|apply Mut.setCell))⟩
   case measure=>simp [intOf];omega
  ·exact z7q77
theorem R60:RowT Tryz.prog 219 16:=⟨⟨_,Tryz.underlying219,rfl⟩,Zk,⟨_,Tryz.zeroValue219,rfl⟩⟩
theorem vy (g:Nat) (T:TypeId)(l:List UInt8)(w:World)(hB:Blk w g T (l.map u8v)) (hl:l.length=16) :
  Calls Tryz.prog 182 #[.pointer (some ⟨g,0,none⟩)] w λ e w'=>e = .returned (.tuple #[])/\Blk w' g T ((rep l).map u8v)/\Mut g w w':=by
 have hld:=hB.rd
 go_enter Tryz.func182,Tryz.ntmps182
 have hbx:=vw;unfold box at hbx
 go_wp2_with (first
  | (refine af R60 rfl _ rfl g 0 rfl (l.map u8v) hld ((by simpa using hl)) ?_)
  | (refine ag R60 rfl rfl _ _ rfl rfl rfl rfl (by simp [Act.put]) (l.map u8v) rfl Zs ((by simpa using hl)) (aK _) ?_;intro x hBx _))
 go_loopw [3,7] (λ _ v7 wr=>∃ k:Nat,k<=16/\v7 = Zz Zx k/\Blk wr g T ((dC (qU l) l k).map u8v)/\Blk wr w.heap.size 219 (l.map u8v)/\Mut g w wr) (λ _ v7 _=>16-(intOf v7).toNat)
 case atStart=>exact ⟨0,Zo,rfl,by rw [dP];exact (by repeat (with_reducible first|assumption|apply Blk.ext|apply Blk.drew|apply Blk.alloc)),hBx,(by repeat (with_reducible first|exact Mut.refl _ _|assumption|apply Mut.ext|apply Mut.drew|apply Mut.alloc|apply Mut.setCell))⟩
 case round =>
  obtain ⟨k,hk,rfl,hBr,hBo,hM⟩:=hrel;by_cases hlt:k<16
  ·have hf1:=hBr.free k;have hc1:wr.cell? ⟨g,k,none⟩=some (Zz Zu (n8 (at' l k))):=hBr.at_upTo k (aae _) Zo;haveI:=hBr.blt;haveI:=hBo.blt;have hc2:wr.cell? ⟨w.heap.size,(k+4*(k % 4)) % 16,none⟩=some (Zz Zu (n8 (at' l ((k+4*(k % 4)) % 16)))):=hBo.cell? _ (by
    have:(k+4*(k % 4)) % 16<l.length:=Zo;rw [List.getElem?_map,List.getElem?_eq_getElem this,bw _ _ this];rfl)
   have hk0:(0:Int)<=(k:Int):=Zo;have hk1:(k:Int)<16:=Zo;have hi0:(0:Int)<=((k:Int)+4*((k:Int) % 4)) % 16:=Zo;have hi1:((k:Int)+4*((k:Int) % 4)) % 16<16:=Zo;have hi2:(((k:Int)+4*((k:Int) % 4)) % 16).toNat=(k+4*(k % 4)) % 16:=Zo;go_wp2;refine ae 13 [[],[],[],[],[3],[3,4],[2,3,4,5],[2,3,4,5,6],[2,3,4,5,6,7],[2,3,4,5,6,7,8],[2,3,4,5,6,7,8,9],[0],[0,1,2,3,4,5,6,7,8,9,10,11],[0,1,2,3,4,5,6,7,8,9,10,11,12]] Zk Zk Zk Zk ?_;simp only [q8q,q9q,q10q,q11q,q12q,q13q];(repeat (apply aj;(case h=>(intro us w' hx hf;obtain ⟨x,rfl⟩:=hx.out;refine ⟨rfl,?_⟩;simp [go_sem,execOp, *];(try simp (disch:=omega) only [q17q,q18q,q19q]);rfl));(try simp only [Act.put,q0q,q1q,q2q])));(refine aB ?_;intro us w' hx hf;obtain ⟨x,rfl⟩:=hx.out;(try simp only [Act.put,q0q,q1q,q2q,ai]);(try simp only [q3q,q4q,aar,aac,aan,q5q,q6q,q7q,aat,aau,aav] at hf);(try simp only [Nat.reduceAdd,aag] at hf ⊢));go_wp2;go_roundw
   case rel =>
    exact ⟨k+1,Zo,Zg,Blk.upd (f:=qU l) (by repeat (with_reducible first|assumption|apply Blk.ext|apply Blk.drew|apply Blk.alloc)) Zo,Blk.other (by repeat (with_reducible first|assumption|apply Blk.ext|apply Blk.drew|apply Blk.alloc)) (by have:=hB.lt;simp;omega) _,(by repeat (with_reducible first|exact Mut.refl _ _|assumption|apply Mut.ext|apply Mut.drew|apply Mut.alloc|apply Mut.setCell))⟩
   case measure=>simp [intOf];omega
  ·exact z7q77
theorem Ai (g:Nat) (T:TypeId)(l:List UInt8)(w:World)(hB:Blk w g T (l.map u8v)) (hl:l.length=16) :
  Calls Tryz.prog 183 #[.pointer (some ⟨g,0,none⟩)] w λ e w'=>e = .returned (.tuple #[])/\Blk w' g T ((mix l).map u8v)/\Mut g w w':=by
 have hal:Tryz.prog.arrayLen 219=16:=Zk;have har:=λ W a len cap=>run_arrayAt (P:=Tryz.prog) W 207 5 4 a len cap Tryz.underlying207
 go_enter Tryz.func183,Tryz.ntmps183
 go_wp2
 go_loopw [2] (λ v2 wr=>∃ c:Nat,c<=4/\v2 = Zz Zx ((4*c:Nat):Int)/\Blk wr g T ((dC (jz l) l (4*c)).map u8v)/\Mut g w wr) (λ v2 _=>16-(intOf v2).toNat)
 case atStart=>exact ⟨0,Zo,rfl,by rw [dP];exact hB,Mut.refl _ _⟩
 case round =>
  obtain ⟨c,hc,rfl,hBr,hM⟩:=hrel;by_cases hlt:c<4
  ·have a0:wr.cell? ⟨g,4*c,none⟩=some (Zz Zu (n8 (at' l (4*c)))):=hBr.at_upTo _ Zo Zo;have a1:wr.cell? ⟨g,4*c+1,none⟩=some (Zz Zu (n8 (at' l (4*c+1)))):=hBr.at_upTo _ Zo Zo;have a2:wr.cell? ⟨g,4*c+2,none⟩=some (Zz Zu (n8 (at' l (4*c+2)))):=hBr.at_upTo _ Zo Zo;have a3:wr.cell? ⟨g,4*c+3,none⟩=some (Zz Zu (n8 (at' l (4*c+3)))):=hBr.at_upTo _ Zo Zo;haveI:=hBr.blt;have b0:(0:Int)<=4*(c:Int):=Zo;have b1:4*(c:Int)<=16:=Zo;have b2:(4*(c:Int)).toNat=4*c:=Zo;have b3:¬ 16=4*c:=Zo;have b4:4<=16-4*c:=Zo;go_wp2;obtain ⟨wo,rfl⟩:∃ wo:World,wo=wr:=⟨_,rfl⟩
   go_loopw [5,6,29] (λ _ _ v29 wi=>∃ r:Nat,r<=4/\v29 = Zz Zx r/\Blk wi g T ((dC (jz l) l (4*c+r)).map u8v)/\Blk wi wo.heap.size 207 [Zz Zu (n8 (at' l (4*c))), Zz Zu (n8 (at' l (4*c+1))), Zz Zu (n8 (at' l (4*c+2))), Zz Zu (n8 (at' l (4*c+3)))]/\Mut g w wi) (λ _ _ v29 _=>4-(intOf v29).toNat)
   case atStart=>exact ⟨0,Zo,rfl,hBr.alloc _,Blk.new _ _ _,hM.alloc _⟩
   case round =>
    obtain ⟨r,hr,rfl,hBi,hBw,hMi⟩:=hrel;haveI:=hBi.blt;haveI:=hBw.blt;have hgn:g≠wo.heap.size:=by have:=hBr.lt;omega
    have w0:=hBw.cell 0 Zs;have w1:=hBw.cell 1 Zs;have w2:=hBw.cell 2 Zs;have w3:=hBw.cell 3 Zs;simp only [q16q,q15q] at w0 w1 w2 w3;by_cases hr4:r<4
    ·obtain rfl|rfl|rfl|rfl:r=0\/r=1\/r=2\/r=3:=by omega
     ·rw [abx] at hBi;have hi0:∀ W (x0 x1 x2 x3:Value),(Instr.index 207 (.agg #[x0,x1,x2,x3]) (Zz Zx 0)).run Tryz.prog W = .ok x0 W:=λ _ _ _ _ _=>Zk;have hf1:=hBi.free (4*c);have hc1:wr.cell? ⟨g,4*c,none⟩=some (Zz Zu (n8 (at' l (4*c)))):=hBi.at_upTo _ Zo Zo;have s0:(0:Int)<=4*(c:Int)+0:=Zo;have s1:4*(c:Int)+0<16:=Zo;have s2:(4*(c:Int)+0).toNat=4*c:=Zo;have HF:=Lib.hid (AX l c);go_wp2;refine ae 18 [[],[],[],[1,2],[],[],[4,5],[],[],[8],[8,9],[8,9,10],[8,9,10,11],[7,8,9,10,11,12],[7,8,9,10,11,12,13],[4,5,6,7,8,9,10,11,12,13,14],[0],[0,1,2,3,4,5,6,7,8,9,10,11,12,13,14,15,16],[0,1,2,3,4,5,6,7,8,9,10,11,12,13,14,15,16,17]] Zk Zk Zk Zk ?_;simp only [q8q,q9q,q10q,q11q,q12q,q13q];(repeat (apply aj;(case h=>(intro us w' hx hf;obtain ⟨x,rfl⟩:=hx.out;refine ⟨rfl,?_⟩;simp [go_sem,execOp, *];(try simp (disch:=omega) only [q17q,q18q,q19q]);rfl));(try simp only [Act.put,q0q,q1q,q2q])));(refine ao (λ _ => Zz Zu (n8 (dbl (at' l (4*c) ^^^ at' l (4*c+1))))) (λ _ _=>True) (λ _ _ _ _ _=>trivial) (λ us w' hx hf=>⟨rfl,?_⟩) ?_;(unfold gives;simp [go_sem,execOp];refine (lS _ _).mono ?_;rintro e w1 ⟨rfl,hx1⟩;first|exact ⟨rfl,hx1⟩|simpa using hx1));(repeat (apply aj;(case h=>(intro us w' hx hf;obtain ⟨x,rfl⟩:=hx.out;refine ⟨rfl,?_⟩;simp [go_sem,execOp, *];(try simp (disch:=omega) only [q17q,q18q,q19q]);rfl));(try simp only [Act.put,q0q,q1q,q2q])));(refine aB ?_;intro us w' hx hf;obtain ⟨x,rfl⟩:=hx.out;(try simp only [Act.put,q0q,q1q,q2q,ai]);(try simp only [q3q,q4q,aar,aac,aan,q5q,q6q,q7q,aat,aau,aav] at hf);(try simp only [Nat.reduceAdd,aag] at hf ⊢));go_wp2;go_roundw
      case rel =>
       refine ⟨0+1,Zo,Zg,?_,Blk.other (by repeat (with_reducible first|assumption|apply Blk.ext|apply Blk.drew|apply Blk.alloc)) (by simp;omega) _,(by repeat (with_reducible first|exact Mut.refl _ _|assumption|apply Mut.ext|apply Mut.drew|apply Mut.alloc|apply Mut.setCell))⟩;rw [<- HF.out];exact Blk.upd (f:=jz l) (k:=4*c) (by repeat (with_reducible first|assumption|apply Blk.ext|apply Blk.drew|apply Blk.alloc)) Zo
      case measure=>simp [intOf]
     ·have hi0:∀ W (x0 x1 x2 x3:Value),(Instr.index 207 (.agg #[x0,x1,x2,x3]) (Zz Zx 1)).run Tryz.prog W = .ok x1 W:=λ _ _ _ _ _=>by kernel_rfl
      have hf1:=hBi.free (4*c+1);have hc1:wr.cell? ⟨g,4*c+1,none⟩=some (Zz Zu (n8 (at' l (4*c+1)))):=hBi.at_upTo _ Zo Zo;have s0:(0:Int)<=4*(c:Int)+1:=Zo;have s1:4*(c:Int)+1<16:=Zo;have s2:(4*(c:Int)+1).toNat=4*c+1:=Zo;have HF:=Lib.hid (AR l c);go_wp2;refine ae 18 [[],[],[],[1,2],[],[],[4,5],[],[],[8],[8,9],[8,9,10],[8,9,10,11],[7,8,9,10,11,12],[7,8,9,10,11,12,13],[4,5,6,7,8,9,10,11,12,13,14],[0],[0,1,2,3,4,5,6,7,8,9,10,11,12,13,14,15,16],[0,1,2,3,4,5,6,7,8,9,10,11,12,13,14,15,16,17]] Zk Zk Zk Zk ?_;simp only [q8q,q9q,q10q,q11q,q12q,q13q];(repeat (apply aj;(case h=>(intro us w' hx hf;obtain ⟨x,rfl⟩:=hx.out;refine ⟨rfl,?_⟩;simp [go_sem,execOp, *];(try simp (disch:=omega) only [q17q,q18q,q19q]);rfl));(try simp only [Act.put,q0q,q1q,q2q])));(refine ao (λ _ => Zz Zu (n8 (dbl (at' l (4*c+1) ^^^ at' l (4*c+2))))) (λ _ _=>True) (λ _ _ _ _ _=>trivial) (λ us w' hx hf=>⟨rfl,?_⟩) ?_;(unfold gives;simp [go_sem,execOp];refine (lS _ _).mono ?_;rintro e w1 ⟨rfl,hx1⟩;first|exact ⟨rfl,hx1⟩|simpa using hx1));(repeat (apply aj;(case h=>(intro us w' hx hf;obtain ⟨x,rfl⟩:=hx.out;refine ⟨rfl,?_⟩;simp [go_sem,execOp, *];(try simp (disch:=omega) only [q17q,q18q,q19q]);rfl));(try simp only [Act.put,q0q,q1q,q2q])));(refine aB ?_;intro us w' hx hf;obtain ⟨x,rfl⟩:=hx.out;(try simp only [Act.put,q0q,q1q,q2q,ai]);(try simp only [q3q,q4q,aar,aac,aan,q5q,q6q,q7q,aat,aau,aav] at hf);(try simp only [Nat.reduceAdd,aag] at hf ⊢));go_wp2;go_roundw
      case rel =>
       refine ⟨1+1,Zo,Zg,?_,Blk.other (by repeat (with_reducible first|assumption|apply Blk.ext|apply Blk.drew|apply Blk.alloc)) (by simp;omega) _,(by repeat (with_reducible first|exact Mut.refl _ _|assumption|apply Mut.ext|apply Mut.drew|apply Mut.alloc|apply Mut.setCell))⟩;rw [<- HF.out];exact Blk.upd (f:=jz l) (k:=4*c+1) (by repeat (with_reducible first|assumption|apply Blk.ext|apply Blk.drew|apply Blk.alloc)) Zo
      case measure=>simp [intOf]
     ·have hi0:∀ W (x0 x1 x2 x3:Value),(Instr.index 207 (.agg #[x0,x1,x2,x3]) (Zz Zx 2)).run Tryz.prog W = .ok x2 W:=λ _ _ _ _ _=>by kernel_rfl
      have hf1:=hBi.free (4*c+2);have hc1:wr.cell? ⟨g,4*c+2,none⟩=some (Zz Zu (n8 (at' l (4*c+2)))):=hBi.at_upTo _ Zo Zo;have s0:(0:Int)<=4*(c:Int)+2:=Zo;have s1:4*(c:Int)+2<16:=Zo;have s2:(4*(c:Int)+2).toNat=4*c+2:=Zo;have HF:=Lib.hid (A1 l c);go_wp2;refine ae 18 [[],[],[],[1,2],[],[],[4,5],[],[],[8],[8,9],[8,9,10],[8,9,10,11],[7,8,9,10,11,12],[7,8,9,10,11,12,13],[4,5,6,7,8,9,10,11,12,13,14],[0],[0,1,2,3,4,5,6,7,8,9,10,11,12,13,14,15,16],[0,1,2,3,4,5,6,7,8,9,10,11,12,13,14,15,16,17]] Zk Zk Zk Zk ?_;simp only [q8q,q9q,q10q,q11q,q12q,q13q];(repeat (apply aj;(case h=>(intro us w' hx hf;obtain ⟨x,rfl⟩:=hx.out;refine ⟨rfl,?_⟩;simp [go_sem,execOp, *];(try simp (disch:=omega) only [q17q,q18q,q19q]);rfl));(try simp only [Act.put,q0q,q1q,q2q])));(refine ao (λ _ => Zz Zu (n8 (dbl (at' l (4*c+2) ^^^ at' l (4*c+3))))) (λ _ _=>True) (λ _ _ _ _ _=>trivial) (λ us w' hx hf=>⟨rfl,?_⟩) ?_;(unfold gives;simp [go_sem,execOp];refine (lS _ _).mono ?_;rintro e w1 ⟨rfl,hx1⟩;first|exact ⟨rfl,hx1⟩|simpa using hx1));(repeat (apply aj;(case h=>(intro us w' hx hf;obtain ⟨x,rfl⟩:=hx.out;refine ⟨rfl,?_⟩;simp [go_sem,execOp, *];(try simp (disch:=omega) only [q17q,q18q,q19q]);rfl));(try simp only [Act.put,q0q,q1q,q2q])));(refine aB ?_;intro us w' hx hf;obtain ⟨x,rfl⟩:=hx.out;(try simp only [Act.put,q0q,q1q,q2q,ai]);(try simp only [q3q,q4q,aar,aac,aan,q5q,q6q,q7q,aat,aau,aav] at hf);(try simp only [Nat.reduceAdd,aag] at hf ⊢));go_wp2;go_roundw
      case rel =>
       refine ⟨2+1,Zo,Zg,?_,Blk.other (by repeat (with_reducible first|assumption|apply Blk.ext|apply Blk.drew|apply Blk.alloc)) (by simp;omega) _,(by repeat (with_reducible first|exact Mut.refl _ _|assumption|apply Mut.ext|apply Mut.drew|apply Mut.alloc|apply Mut.setCell))⟩;rw [<- HF.out];exact Blk.upd (f:=jz l) (k:=4*c+2) (by repeat (with_reducible first|assumption|apply Blk.ext|apply Blk.drew|apply Blk.alloc)) Zo
      case measure=>simp [intOf]
     ·have hi0:∀ W (x0 x1 x2 x3:Value),(Instr.index 207 (.agg #[x0,x1,x2,x3]) (Zz Zx 3)).run Tryz.prog W = .ok x3 W:=λ _ _ _ _ _=>by kernel_rfl
      have hf1:=hBi.free (4*c+3);have hc1:wr.cell? ⟨g,4*c+3,none⟩=some (Zz Zu (n8 (at' l (4*c+3)))):=hBi.at_upTo _ Zo Zo;have s0:(0:Int)<=4*(c:Int)+3:=Zo;have s1:4*(c:Int)+3<16:=Zo;have s2:(4*(c:Int)+3).toNat=4*c+3:=Zo;have HF:=Lib.hid (AU l c);go_wp2;refine ae 18 [[],[],[],[1,2],[],[],[4,5],[],[],[8],[8,9],[8,9,10],[8,9,10,11],[7,8,9,10,11,12],[7,8,9,10,11,12,13],[4,5,6,7,8,9,10,11,12,13,14],[0],[0,1,2,3,4,5,6,7,8,9,10,11,12,13,14,15,16],[0,1,2,3,4,5,6,7,8,9,10,11,12,13,14,15,16,17]] Zk Zk Zk Zk ?_;simp only [q8q,q9q,q10q,q11q,q12q,q13q];(repeat (apply aj;(case h=>(intro us w' hx hf;obtain ⟨x,rfl⟩:=hx.out;refine ⟨rfl,?_⟩;simp [go_sem,execOp, *];(try simp (disch:=omega) only [q17q,q18q,q19q]);rfl));(try simp only [Act.put,q0q,q1q,q2q])));(refine ao (λ _ => Zz Zu (n8 (dbl (at' l (4*c+3) ^^^ at' l (4*c))))) (λ _ _=>True) (λ _ _ _ _ _=>trivial) (λ us w' hx hf=>⟨rfl,?_⟩) ?_;(unfold gives;simp [go_sem,execOp];refine (lS _ _).mono ?_;rintro e w1 ⟨rfl,hx1⟩;first|exact ⟨rfl,hx1⟩|simpa using hx1));(repeat (apply aj;(case h=>(intro us w' hx hf;obtain ⟨x,rfl⟩:=hx.out;refine ⟨rfl,?_⟩;simp [go_sem,execOp, *];(try simp (disch:=omega) only [q17q,q18q,q19q]);rfl));(try simp only [Act.put,q0q,q1q,q2q])));(refine aB ?_;intro us w' hx hf;obtain ⟨x,rfl⟩:=hx.out;(try simp only [Act.put,q0q,q1q,q2q,ai]);(try simp only [q3q,q4q,aar,aac,aan,q5q,q6q,q7q,aat,aau,aav] at hf);(try simp only [Nat.reduceAdd,aag] at hf ⊢));go_wp2;go_roundw
      case rel =>
       refine ⟨3+1,Zo,Zg,?_,Blk.other (by repeat (with_reducible first|assumption|apply Blk.ext|apply Blk.drew|apply Blk.alloc)) (by simp;omega) _,(by repeat (with_reducible first|exact Mut.refl _ _|assumption|apply Mut.ext|apply Mut.drew|apply Mut.alloc|apply Mut.setCell))⟩;rw [<- HF.out];exact Blk.upd (f:=jz l) (k:=4*c+3) (by repeat (with_reducible first|assumption|apply Blk.ext|apply Blk.drew|apply Blk.alloc)) Zo
      case measure=>simp [intOf]
    ·obtain rfl:r=4:=by omega
     go_wp2;go_roundw
     case rel=>exact ⟨c+1,Zo,Zg,by rw [show 4*(c+1)=4*c+4 by omega];exact hBi,hMi⟩
     case measure=>simp [intOf];omega
  ·obtain rfl:c=4:=by omega
   go_wp2
   go_end0
   rw [fJ _ _ _ hl] at hBr;exact ⟨rfl,hBr,hM⟩
end Go.Proofs.YtmdahnkcnagkjaaGreat

/- The walks of AES-128, part two: encryption, the keys. -/
namespace Go.Proofs.YtmdahnkcnagkjaaGreat
open Go.RowKit Go.Sec Go.Oct Go.Aes BigFrame
theorem rd_key {w:World} {c off:Nat} {ks:List UInt8} (h:Rd w (some ⟨c,off,none⟩) (ks.map u8v)) (r:Nat):Rd w (some ⟨c,off+r*16,none⟩) ((key ks r).map u8v):=by
 rcases h with h|⟨b,o,ha,hb,hc⟩
 ·left;have:ks=[]:=by simpa using h
  subst this;simp [key]
 ·injection ha with ha
  injection ha with e1 e2
  subst e1 e2;refine .inr ⟨c,off+r*16,rfl,hb,λ k v hk=>?_⟩;rw [aa1];refine hc (r*16+k) v ?_;rw [Nat.mul_comm r 16];unfold key at hk;rw [List.getElem?_map] at hk ⊢;rw [List.getElem?_take] at hk;split at hk
  ·rw [List.getElem?_drop] at hk;exact hk
  ·cases hk
theorem nD (g c off:Nat) (T:TypeId)(l ks:List UInt8)(w:World)(hB:Blk w g T (l.map u8v)) (hl:l.length=16) (hk:ks.length=176) (hR:Rd w (some ⟨c,off,none⟩) (ks.map u8v)) (hne:c≠g) :
  Calls Tryz.prog 174 #[.pointer (some ⟨c,off,none⟩), .pointer (some ⟨g,0,none⟩)] w λ e w'=>e = .returned (.tuple #[])/\Blk w' g T ((enc ks l).map u8v)/\Mut g w w':=by
 go_enter Tryz.func174,Tryz.ntmps174
 go_wp2_with fail;refine (fZ g T l (key ks 0) c (off+0*16) _ hB hl (lu ks 0 hk Zo) (rd_key hR 0) hne).mono ?_;rintro e w1 ⟨rfl,hB1,hM1⟩;go_wp2_with fail
 go_loopw [4] (λ v4 wr=>∃ r:Nat,r<=10/\v4 = Zz Zx ((r+1:Nat):Int)/\Blk wr g T ((rounds ks l r).map u8v)/\Mut g w wr) (λ v4 _=>11-(intOf v4).toNat)
 case atStart=>exact ⟨0,Zo,rfl,hB1,hM1⟩
 case round =>
  obtain ⟨r,hr,rfl,hBr,hM⟩:=hrel;have hlr:=dR ks l r;by_cases hlt:r<10
  ·have hRk:=rd_key hR (r+1);have hkl:=lu ks (r+1) hk Zo;by_cases h9:r+1<10
   ·have HS:=Lib.hid (show rounds ks l (r+1)=bQ (mix (rep (rounds ks l r))) (key ks (r+1)) by simp [rounds,h9]);generalize rounds ks l r=s at *;go_wp2_with fail;refine (vy g T s _ hBr hlr).mono ?_;rintro e w2 ⟨rfl,hB2,hM2⟩;go_wp2_with fail;refine (Ai g T (rep s) _ hB2 (by simp [rep])).mono ?_;rintro e w3 ⟨rfl,hB3,hM3⟩;go_wp2_with fail;refine (fZ g T _ (key ks (r+1)) c (off+(r+1)*16) _ hB3 (by simp [mix]) hkl (hRk.turn (hM.trans (hM2.trans hM3)) hne) hne).mono ?_;rintro e w4 ⟨rfl,hB4,hM4⟩;go_wp2_with fail;go_roundw
    case rel=>exact ⟨r+1,Zo,Zg,by rw [HS.out];exact hB4,hM.trans (hM2.trans (hM3.trans hM4))⟩
    case measure=>simp [intOf];omega
   ·have HS:=Lib.hid (show rounds ks l (r+1)=bQ (rep (rounds ks l r)) (key ks (r+1)) by simp [rounds,h9]);generalize rounds ks l r=s at *;go_wp2_with fail;refine (vy g T s _ hBr hlr).mono ?_;rintro e w2 ⟨rfl,hB2,hM2⟩;go_wp2_with fail;refine (fZ g T _ (key ks (r+1)) c (off+(r+1)*16) _ hB2 (by simp [rep]) hkl (hRk.turn (hM.trans hM2) hne) hne).mono ?_;rintro e w4 ⟨rfl,hB4,hM4⟩;go_wp2_with fail;go_roundw
    case rel=>exact ⟨r+1,Zo,Zg,by rw [HS.out];exact hB4,hM.trans (hM2.trans hM4)⟩
    case measure=>simp [intOf];omega
  ·obtain rfl:r=10:=by omega
   go_wp2
   go_end0
   exact ⟨rfl,hBr,hM⟩
end Go.Proofs.YtmdahnkcnagkjaaGreat

/- The walks of the document's SHA-256. -/
namespace Go.Sec
open Go.RowKit
structure Sw (w:World)(a:Option Addr)(n:Nat) (l:List UInt32):Prop where
 len:l.length=n
 rd:Rd w a (l.map kA)
theorem Sw.ext {w w':World} {a:Option Addr} {n:Nat} {l:List UInt32} (h:Sw w a n l) (hx:Ext w w'):Sw w' a n l:=⟨h.len,h.rd.ext hx⟩
theorem Sw.at {w:World} {a:Option Addr} {n:Nat} {l:List UInt32} (h:Sw w a n l) (k:Nat) (hk:k<n) :
  ∃ b off,a=some ⟨b,off,none⟩/\BlkLt b w/\w.cell? ⟨b,off+k,none⟩=some (Zz Zv (n32 (l.getD k 0))):=by
 have hl:=h.len;obtain ⟨b,off,h1,h2,h3⟩:=h.rd.at k (by simp;omega);refine ⟨b,off,h1,h2,?_⟩;rw [h3];simp [show k<l.length by omega]
def kQ (l:List UInt32) (m:Nat):List UInt32:=l++List.replicate (m-l.length) 0
theorem yn (l:List UInt32) (m:Nat) (v:UInt32) (h:l.length<m):(kQ l m).set l.length v=kQ (l++[v]) m:=by
 unfold kQ;rw [List.set_append_right _ _ (aae _),Nat.sub_self,aah,List.length_singleton];obtain ⟨j,hj⟩:∃ j,m-l.length=j+1:=⟨m-l.length-1,Zo⟩;rw [hj,show m-(l.length+1)=j from Zo,List.replicate_succ,q2q,aao];rfl
theorem yB (l:List UInt32) (m k:Nat) (h:k<l.length):(kQ l m)[k]?=some (l.getD k 0):=by
 unfold kQ;rw [List.getElem?_append_left h];simp [h]
theorem sN (l:List UInt32) (m:Nat) (h:l.length<=m):(kQ l m).length=m:=by simp [kQ];omega
theorem Blk.there32 {w:World} {g m k:Nat} {T:TypeId} {l:List UInt32} (h:Blk w g T ((kQ l m).map kA)) (hl:l.length<=m) (hk:k<m):∃ v,w.cell? ⟨g,k,none⟩=some v :=
 ⟨_,h.cell k (by rw [aaJ,sN _ _ hl];exact hk)⟩
theorem Blk.push32 {w:World} {g m k:Nat} {T:TypeId} {l:List UInt32} (h:Blk w g T ((kQ l m).map kA)) (hl:l.length=k) (hk:k<m) (v:UInt32):Blk (w.setCell ⟨g,k,none⟩ (Zz Zv (n32 v))) g T ((kQ (l++[v]) m).map kA):=by
 have:=h.set k (kA v)
 rwa [<- aa0,<- hl,yn _ _ _ Zo,hl] at this
theorem Blk.at32 {w:World} {g m:Nat} {T:TypeId} {l:List UInt32} (h:Blk w g T ((kQ l m).map kA)) (k:Nat) (hk:k<l.length):w.cell? ⟨g,k,none⟩=some (Zz Zv (n32 (l.getD k 0))) :=
 h.cell? k (by rw [List.getElem?_map,yB _ _ _ hk];rfl)
theorem Sl.atD {w:World} {a:Option Addr} {n:Nat} {l:List UInt8} (h:Sl w a n l) (k:Nat) (hk:k<n) :
  ∃ b off,a=some ⟨b,off,none⟩/\BlkLt b w/\w.cell? ⟨b,off+k,none⟩=some (Zz Zu (n8 (l.getD k 0))):=by
 obtain ⟨b,off,h1,h2,h3⟩:=h.at k hk;have:=h.len;exact ⟨b,off,h1,h2,by rw [h3];simp [show k<l.length by omega]⟩
end Go.Sec
namespace Go.Proofs.YtmdahnkcnagkjaaGreat
open Go.RowKit Go.Sec Go.Oct Go.Sha BigFrame
theorem wB (x:UInt32) (k:Nat) (hk:k<32):n32 x / (2:Int) ^ k=n32 (x >>> UInt32.ofNat k):=by
 have:=AP x k hk
 rwa [Int.natCast_pow] at this
theorem xd (x:UInt32) (k:Nat) (hk:k<32):n32 x*(2:Int) ^ k % 4294967296=n32 (x <<< UInt32.ofNat k):=by
 have e:(x <<< UInt32.ofNat k).toNat=x.toNat*2 ^ k % 4294967296:=by
  exact z6q58
 unfold n32;rw [e];simp
theorem sj (x:UInt32) (n:Nat) (h1:1<=n) (h2:n<=31) (w:World) :
  Calls Tryz.prog 136 #[Zz Zv (n32 x), Zz Zx (n:Int)] w λ e w'=>e = .returned (Zz Zv (n32 (turn x n)))/\Ext w w':=by
 have e1:(32:Int)-(n:Int)=((32-n:Nat):Int):=Zo;have s1:=wB x n Zo;have s2:=xd x (32-n) Zo;have HT:=Lib.hid (show turn x n=(x >>> UInt32.ofNat n) ||| (x <<< UInt32.ofNat (32-n)) from rfl);have hw1:IntKind.u64.wrap (n:Int)=(n:Int):=by rw [aaL];omega
 have hw2:IntKind.u64.wrap ((32-n:Nat):Int)=((32-n:Nat):Int):=by rw [aaL];omega
 have e0:IntKind.i64.wrap ((32-n:Nat):Int)=((32-n:Nat):Int):=by rw [abe];omega
 generalize hm:32-n=m at *
 go_enter Tryz.func136,Tryz.ntmps136
 go_wp2
 go_returns
 exact ⟨by rw [HT.out];rfl,Ext.refl _⟩
theorem eC (x:UInt32) (n:Nat) (h1:1<=n) (h2:n<=31) (w:World) :
  Calls Tryz.prog 136 #[Zz Zv (n32 x), Zz Zx (OfNat.ofNat n)] w λ e w'=>e = .returned (Zz Zv (n32 (turn x n)))/\Ext w w':=sj x n h1 h2 w
end Go.Proofs.YtmdahnkcnagkjaaGreat
