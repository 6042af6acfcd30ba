/- Lemmas of this claim, several texts joined. -/
import Derived.Test.YtmdahnkcnagkjaaGreatZ5
import Derived.Test.YtmdahnkcnagkjaaGreatZ7
set_option maxRecDepth 100000
open Go.Value renaming int -> Zz
open Go.IntKind renaming i64 -> Zx,u8 -> Zu
open List renaming setIfInBounds_toArray -> q0q, set_cons_succ -> q1q, set_cons_zero -> q2q, take_succ_cons -> q8q, take_zero -> q9q, drop_succ_cons -> q10q, drop_zero -> q11q, take_nil -> q12q, drop_nil -> q13q, getElem_cons_succ -> q15q, getElem_cons_zero -> q16q
set_option maxHeartbeats 8000000
set_option linter.unusedVariables false
set_option linter.unusedSimpArgs false
/- The walks of AES-128. -/
namespace Go.Proofs.P9
open Go.RowKit Go.Sec Go.Oct Go.Aes BigFrame
theorem lF (x:UInt8) (w:World) :
  Calls Tryz.prog 179 #[Zz Zu (n8 x)] w λ e w'=>e = .returned (Zz Zu (n8 (dbl x)))/\Ext w w':=by
 cases h:(x &&& 128 != 0)
 all_goals
  have HD:=FC (show dbl x=_ by unfold dbl;rw [h]);simp only [aaD,abg,aba] at HD
  go_enter Tryz.func179,Tryz.ntmps179
  go_wp2
  go_returns
  exact ⟨by rw [HD.out];rfl,FD _⟩
theorem vH (x:UInt8) (W:World):(Instr.index 9 (.string { data:=box.toArray }) (Zz Zu (n8 x))).run Tryz.prog W = .ok (Zz Zu (n8 (sub x))) W :=
 nZ 9 box x hst (by have:=x.toNat_lt;have h:box.length=256:=(by decide +kernel);omega) W
theorem _root_.z8q75{p:Prop}(h:p:=by
 obtain rfl:k=16:=Zo;go_wp2
 go_end0
 rw [fH _ _ _ hl] at hBr;exact ⟨rfl,hBr,hM⟩):p:=h
theorem gi (g:Nat) (T:TypeId)(l m:E7)(c off:Nat) (w:World)(hB:Blk w g T (l.map u8v)) (hl:l.length=16) (hm:m.length=16) (hR:Rd w (some ⟨c,off,none⟩) (m.map u8v)) (hne:c≠g) :
  Calls Tryz.prog 181 #[.pointer (some ⟨g,0,none⟩), .pointer (some ⟨c,off,none⟩)] w λ e w'=>e = .returned (.tuple #[])/\Blk w' g T ((bN l m).map u8v)/\Mut g w w':=by
 go_enter Tryz.func181,Tryz.ntmps181
 go_wp2
 go_loopw [4,5,7] (λ _ _ v7 wr=>∃ k:Nat,k<=16/\v7 = Zz Zx k/\Blk wr g T ((dy (jN l m) l k).map u8v)/\Mut g w wr) (λ _ _ v7 _=>16-(intOf v7).toNat)
 case atStart=>exact ⟨0,Zo,rfl,by rw [dL];exact hB,Mut.refl _ _⟩
 case round =>
  obtain ⟨k,hk,rfl,hBr,hM⟩:=hrel;by_cases hlt:k<16
  ·have hc1:wr.cell? ⟨g,k,none⟩=some (Zz Zu (n8 (at' l k))):=hBr.at_upTo k (aad _) Zo;have hf1:=hBr.free k;haveI:=hBr.blt;obtain ⟨c',off',he,hb2,hc2⟩:=(hR.turn hM hne).at k (by simp [hm];omega);obtain ⟨rfl,rfl⟩:c=c'/\off=off':=by simpa using he
   clear he;have hc2':wr.cell? ⟨c,off+k,none⟩=some (Zz Zu (n8 (at' m k))):=by rw [hc2,abp,bE m k Zo]
   clear hc2;have hk0:(0:Int)<=(k:Int):=Zo;have hk1:(k:Int)<16:=Zo;go_wp2;refine R2.ae 6 [[],[],[1],[1,2],[0],[0,1,2,3,4]] [] (λ h=>(h rfl).elim) Zk Zk Zk Zk Zk ?_;simp only [q8q,q9q,q10q,q11q,q12q,q13q];(repeat (refine R2.av ?_;(try simp only [Act.put,q0q,q1q,q2q])));(refine R2.aU ?_;intro us x hx hf);go_wp2;refine R2.ae 9 [[],[],[0],[0,1,2],[0,1,2,3],[],[0,1,2,3,4,5],[0],[0,1,2,3,4,5,6,7],[0,1,2,3,4,5,6,7,8]] [] (λ h=>(h rfl).elim) Zk Zk Zk Zk Zk ?_;simp only [q8q,q9q,q10q,q11q,q12q,q13q];(repeat (refine R2.av ?_;(try simp only [Act.put,q0q,q1q,q2q])));(refine R2.aU ?_;intro us x hx hf);go_wp2;go_roundw
   case rel =>
    exact ⟨k+1,Zo,Zg,Blk.upd (f:=jN l m) (by repeat (with_reducible first|assumption|apply Blk.ext|apply Blk.drew|apply Blk.alloc)) Zo,(by repeat (with_reducible first|exact Mut.refl _ _|assumption|apply Mut.ext|apply Mut.drew|apply Mut.alloc|apply Mut.setCell))⟩
   case measure=>simp [intOf];omega
  ·exact z8q75
theorem R60:RowT Tryz.prog 219 16:=⟨⟨_,Tryz.underlying219,rfl⟩,Zk,⟨_,Tryz.zeroValue219,rfl⟩⟩
theorem vO (g:Nat) (T:TypeId)(l:E7)(w:World)(hB:Blk w g T (l.map u8v)) (hl:l.length=16) :
  Calls Tryz.prog 182 #[.pointer (some ⟨g,0,none⟩)] w λ e w'=>e = .returned (.tuple #[])/\Blk w' g T ((rep l).map u8v)/\Mut g w w':=by
 have hld:=hB.rd
 go_enter Tryz.func182,Tryz.ntmps182
 have hbx:=vH;unfold box at hbx
 go_wp2_with (first
  | (refine af R60 rfl _ rfl g 0 rfl (l.map u8v) hld ((by simpa using hl)) ?_)
  | (refine ag R60 rfl rfl _ _ rfl rfl rfl rfl (by simp [Act.put]) (l.map u8v) rfl Zs ((by simpa using hl)) (aH _) ?_;intro x hBx _))
 go_loopw [3,7] (λ _ v7 wr=>∃ k:Nat,k<=16/\v7 = Zz Zx k/\Blk wr g T ((dy (rY l) l k).map u8v)/\Blk wr w.heap.size 219 (l.map u8v)/\Mut g w wr) (λ _ v7 _=>16-(intOf v7).toNat)
 case atStart=>exact ⟨0,Zo,rfl,by rw [dL];exact (by repeat (with_reducible first|assumption|apply Blk.ext|apply Blk.drew|apply Blk.alloc)),hBx,(by repeat (with_reducible first|exact Mut.refl _ _|assumption|apply Mut.ext|apply Mut.drew|apply Mut.alloc|apply Mut.setCell))⟩
 case round =>
  obtain ⟨k,hk,rfl,hBr,hBo,hM⟩:=hrel;by_cases hlt:k<16
  ·have hf1:=hBr.free k;have hc1:wr.cell? ⟨g,k,none⟩=some (Zz Zu (n8 (at' l k))):=hBr.at_upTo k (aad _) Zo;haveI:=hBr.blt;haveI:=hBo.blt;have hc2:wr.cell? ⟨w.heap.size,(k+4*(k % 4)) % 16,none⟩=some (Zz Zu (n8 (at' l ((k+4*(k % 4)) % 16)))):=hBo.cell? _ (by
    have:(k+4*(k % 4)) % 16<l.length:=Zo;rw [List.getElem?_map,List.getElem?_eq_getElem this,bE _ _ this];rfl)
   have hk0:(0:Int)<=(k:Int):=Zo;have hk1:(k:Int)<16:=Zo;have hi0:(0:Int)<=((k:Int)+4*((k:Int) % 4)) % 16:=Zo;have hi1:((k:Int)+4*((k:Int) % 4)) % 16<16:=Zo;have hi2:(((k:Int)+4*((k:Int) % 4)) % 16).toNat=(k+4*(k % 4)) % 16:=Zo;go_wp2;refine R2.ae 13 [[],[],[],[],[3],[3,4],[2,3,4,5],[2,3,4,5,6],[2,3,4,5,6,7],[2,3,4,5,6,7,8],[2,3,4,5,6,7,8,9],[0],[0,1,2,3,4,5,6,7,8,9,10,11],[0,1,2,3,4,5,6,7,8,9,10,11,12]] [] (λ h=>(h rfl).elim) Zk Zk Zk Zk Zk ?_;simp only [q8q,q9q,q10q,q11q,q12q,q13q];(repeat (refine R2.av ?_;(try simp only [Act.put,q0q,q1q,q2q])));(refine R2.aU ?_;intro us x hx hf);go_wp2;go_roundw
   case rel =>
    exact ⟨k+1,Zo,Zg,Blk.upd (f:=rY l) (by repeat (with_reducible first|assumption|apply Blk.ext|apply Blk.drew|apply Blk.alloc)) Zo,Blk.other (by repeat (with_reducible first|assumption|apply Blk.ext|apply Blk.drew|apply Blk.alloc)) (by have:=hB.lt;simp;omega) _,(by repeat (with_reducible first|exact Mut.refl _ _|assumption|apply Mut.ext|apply Mut.drew|apply Mut.alloc|apply Mut.setCell))⟩
   case measure=>simp [intOf];omega
  ·exact z8q75
theorem AB (g:Nat) (T:TypeId)(l:E7)(w:World)(hB:Blk w g T (l.map u8v)) (hl:l.length=16) :
  Calls Tryz.prog 183 #[.pointer (some ⟨g,0,none⟩)] w λ e w'=>e = .returned (.tuple #[])/\Blk w' g T ((mix l).map u8v)/\Mut g w w':=by
 have hal:Tryz.prog.arrayLen 219=16:=Zk;have har:=λ W a len cap=>run_arrayAt (P:=Tryz.prog) W 207 5 4 a len cap Tryz.underlying207
 go_enter Tryz.func183,Tryz.ntmps183
 go_wp2
 go_loopw [2] (λ v2 wr=>∃ c:Nat,c<=4/\v2 = Zz Zx ((4*c:Nat):Int)/\Blk wr g T ((dy (jA l) l (4*c)).map u8v)/\Mut g w wr) (λ v2 _=>16-(intOf v2).toNat)
 case atStart=>exact ⟨0,Zo,rfl,by rw [dL];exact hB,Mut.refl _ _⟩
 case round =>
  obtain ⟨c,hc,rfl,hBr,hM⟩:=hrel;by_cases hlt:c<4
  ·have a0:wr.cell? ⟨g,4*c,none⟩=some (Zz Zu (n8 (at' l (4*c)))):=hBr.at_upTo _ Zo Zo;have a1:wr.cell? ⟨g,4*c+1,none⟩=some (Zz Zu (n8 (at' l (4*c+1)))):=hBr.at_upTo _ Zo Zo;have a2:wr.cell? ⟨g,4*c+2,none⟩=some (Zz Zu (n8 (at' l (4*c+2)))):=hBr.at_upTo _ Zo Zo;have a3:wr.cell? ⟨g,4*c+3,none⟩=some (Zz Zu (n8 (at' l (4*c+3)))):=hBr.at_upTo _ Zo Zo;haveI:=hBr.blt;have b0:(0:Int)<=4*(c:Int):=Zo;have b1:4*(c:Int)<=16:=Zo;have b2:(4*(c:Int)).toNat=4*c:=Zo;have b3:¬ 16=4*c:=Zo;have b4:4<=16-4*c:=Zo;go_wp2;obtain ⟨wo,rfl⟩:∃ wo:World,wo=wr:=⟨_,rfl⟩
   go_loopw [5,6,29] (λ _ _ v29 wi=>∃ r:Nat,r<=4/\v29 = Zz Zx r/\Blk wi g T ((dy (jA l) l (4*c+r)).map u8v)/\Blk wi wo.heap.size 207 [Zz Zu (n8 (at' l (4*c))), Zz Zu (n8 (at' l (4*c+1))), Zz Zu (n8 (at' l (4*c+2))), Zz Zu (n8 (at' l (4*c+3)))]/\Mut g w wi) (λ _ _ v29 _=>4-(intOf v29).toNat)
   case atStart=>exact ⟨0,Zo,rfl,hBr.alloc _,Blk.new _ _ _,hM.alloc _⟩
   case round =>
    obtain ⟨r,hr,rfl,hBi,hBw,hMi⟩:=hrel;haveI:=hBi.blt;haveI:=hBw.blt;have hgn:g≠wo.heap.size:=by have:=hBr.lt;omega
    have w0:=hBw.cell 0 Zs;have w1:=hBw.cell 1 Zs;have w2:=hBw.cell 2 Zs;have w3:=hBw.cell 3 Zs;simp only [q16q,q15q] at w0 w1 w2 w3;by_cases hr4:r<4
    ·obtain rfl|rfl|rfl|rfl:r=0\/r=1\/r=2\/r=3:=by omega
     ·rw [abv] at hBi;have hi0:∀ W (x0 x1 x2 x3:Value),(Instr.index 207 (.agg #[x0,x1,x2,x3]) (Zz Zx 0)).run Tryz.prog W = .ok x0 W:=λ _ _ _ _ _=>Zk;have hf1:=hBi.free (4*c);have hc1:wr.cell? ⟨g,4*c,none⟩=some (Zz Zu (n8 (at' l (4*c)))):=hBi.at_upTo _ Zo Zo;have s0:(0:Int)<=4*(c:Int)+0:=Zo;have s1:4*(c:Int)+0<16:=Zo;have s2:(4*(c:Int)+0).toNat=4*c:=Zo;have HF:=FC (A1 l c);go_wp2;refine R2.ae 18 [[],[],[],[1,2],[],[],[4,5],[],[],[8],[8,9],[8,9,10],[8,9,10,11],[7,8,9,10,11,12],[7,8,9,10,11,12,13],[4,5,6,7,8,9,10,11,12,13,14],[0],[0,1,2,3,4,5,6,7,8,9,10,11,12,13,14,15,16],[0,1,2,3,4,5,6,7,8,9,10,11,12,13,14,15,16,17]] [] (λ h=>(h rfl).elim) Zk Zk Zk Zk Zk ?_;simp only [q8q,q9q,q10q,q11q,q12q,q13q];(repeat (refine R2.av ?_;(try simp only [Act.put,q0q,q1q,q2q])));(refine R2.ai (λ _ => Zz Zu (n8 (dbl (at' l (4*c) ^^^ at' l (4*c+1))))) (λ _ _=>True) (λ _ _ _ _ _=>trivial) (λ us w' hx hf=>⟨rfl,?_⟩) ?_;(unfold gives;simp [go_sem,execOp];refine (lF _ _).mono ?_;rintro e w1 ⟨rfl,hx1⟩;first|exact ⟨rfl,hx1⟩|simpa using hx1));(repeat (refine R2.av ?_;(try simp only [Act.put,q0q,q1q,q2q])));(refine R2.aU ?_;intro us x hx hf);go_wp2;go_roundw
      case rel =>
       refine ⟨0+1,Zo,Zg,?_,Blk.other (by repeat (with_reducible first|assumption|apply Blk.ext|apply Blk.drew|apply Blk.alloc)) (by simp;omega) _,(by repeat (with_reducible first|exact Mut.refl _ _|assumption|apply Mut.ext|apply Mut.drew|apply Mut.alloc|apply Mut.setCell))⟩;rw [<- HF.out];exact Blk.upd (f:=jA l) (k:=4*c) (by repeat (with_reducible first|assumption|apply Blk.ext|apply Blk.drew|apply Blk.alloc)) Zo
      case measure=>simp [intOf]
     ·have hi0:∀ W (x0 x1 x2 x3:Value),(Instr.index 207 (.agg #[x0,x1,x2,x3]) (Zz Zx 1)).run Tryz.prog W = .ok x1 W:=λ _ _ _ _ _=>by kernel_rfl
      have hf1:=hBi.free (4*c+1);have hc1:wr.cell? ⟨g,4*c+1,none⟩=some (Zz Zu (n8 (at' l (4*c+1)))):=hBi.at_upTo _ Zo Zo;have s0:(0:Int)<=4*(c:Int)+1:=Zo;have s1:4*(c:Int)+1<16:=Zo;have s2:(4*(c:Int)+1).toNat=4*c+1:=Zo;have HF:=FC (A8 l c);go_wp2;refine R2.ae 18 [[],[],[],[1,2],[],[],[4,5],[],[],[8],[8,9],[8,9,10],[8,9,10,11],[7,8,9,10,11,12],[7,8,9,10,11,12,13],[4,5,6,7,8,9,10,11,12,13,14],[0],[0,1,2,3,4,5,6,7,8,9,10,11,12,13,14,15,16],[0,1,2,3,4,5,6,7,8,9,10,11,12,13,14,15,16,17]] [] (λ h=>(h rfl).elim) Zk Zk Zk Zk Zk ?_;simp only [q8q,q9q,q10q,q11q,q12q,q13q];(repeat (refine R2.av ?_;(try simp only [Act.put,q0q,q1q,q2q])));(refine R2.ai (λ _ => Zz Zu (n8 (dbl (at' l (4*c+1) ^^^ at' l (4*c+2))))) (λ _ _=>True) (λ _ _ _ _ _=>trivial) (λ us w' hx hf=>⟨rfl,?_⟩) ?_;(unfold gives;simp [go_sem,execOp];refine (lF _ _).mono ?_;rintro e w1 ⟨rfl,hx1⟩;first|exact ⟨rfl,hx1⟩|simpa using hx1));(repeat (refine R2.av ?_;(try simp only [Act.put,q0q,q1q,q2q])));(refine R2.aU ?_;intro us x hx hf);go_wp2;go_roundw
      case rel =>
       refine ⟨1+1,Zo,Zg,?_,Blk.other (by repeat (with_reducible first|assumption|apply Blk.ext|apply Blk.drew|apply Blk.alloc)) (by simp;omega) _,(by repeat (with_reducible first|exact Mut.refl _ _|assumption|apply Mut.ext|apply Mut.drew|apply Mut.alloc|apply Mut.setCell))⟩;rw [<- HF.out];exact Blk.upd (f:=jA l) (k:=4*c+1) (by repeat (with_reducible first|assumption|apply Blk.ext|apply Blk.drew|apply Blk.alloc)) Zo
      case measure=>simp [intOf]
     ·have hi0:∀ W (x0 x1 x2 x3:Value),(Instr.index 207 (.agg #[x0,x1,x2,x3]) (Zz Zx 2)).run Tryz.prog W = .ok x2 W:=λ _ _ _ _ _=>by kernel_rfl
      have hf1:=hBi.free (4*c+2);have hc1:wr.cell? ⟨g,4*c+2,none⟩=some (Zz Zu (n8 (at' l (4*c+2)))):=hBi.at_upTo _ Zo Zo;have s0:(0:Int)<=4*(c:Int)+2:=Zo;have s1:4*(c:Int)+2<16:=Zo;have s2:(4*(c:Int)+2).toNat=4*c+2:=Zo;have HF:=FC (Ba l c);go_wp2;refine R2.ae 18 [[],[],[],[1,2],[],[],[4,5],[],[],[8],[8,9],[8,9,10],[8,9,10,11],[7,8,9,10,11,12],[7,8,9,10,11,12,13],[4,5,6,7,8,9,10,11,12,13,14],[0],[0,1,2,3,4,5,6,7,8,9,10,11,12,13,14,15,16],[0,1,2,3,4,5,6,7,8,9,10,11,12,13,14,15,16,17]] [] (λ h=>(h rfl).elim) Zk Zk Zk Zk Zk ?_;simp only [q8q,q9q,q10q,q11q,q12q,q13q];(repeat (refine R2.av ?_;(try simp only [Act.put,q0q,q1q,q2q])));(refine R2.ai (λ _ => Zz Zu (n8 (dbl (at' l (4*c+2) ^^^ at' l (4*c+3))))) (λ _ _=>True) (λ _ _ _ _ _=>trivial) (λ us w' hx hf=>⟨rfl,?_⟩) ?_;(unfold gives;simp [go_sem,execOp];refine (lF _ _).mono ?_;rintro e w1 ⟨rfl,hx1⟩;first|exact ⟨rfl,hx1⟩|simpa using hx1));(repeat (refine R2.av ?_;(try simp only [Act.put,q0q,q1q,q2q])));(refine R2.aU ?_;intro us x hx hf);go_wp2;go_roundw
      case rel =>
       refine ⟨2+1,Zo,Zg,?_,Blk.other (by repeat (with_reducible first|assumption|apply Blk.ext|apply Blk.drew|apply Blk.alloc)) (by simp;omega) _,(by repeat (with_reducible first|exact Mut.refl _ _|assumption|apply Mut.ext|apply Mut.drew|apply Mut.alloc|apply Mut.setCell))⟩;rw [<- HF.out];exact Blk.upd (f:=jA l) (k:=4*c+2) (by repeat (with_reducible first|assumption|apply Blk.ext|apply Blk.drew|apply Blk.alloc)) Zo
      case measure=>simp [intOf]
     ·have hi0:∀ W (x0 x1 x2 x3:Value),(Instr.index 207 (.agg #[x0,x1,x2,x3]) (Zz Zx 3)).run Tryz.prog W = .ok x3 W:=λ _ _ _ _ _=>by kernel_rfl
      have hf1:=hBi.free (4*c+3);have hc1:wr.cell? ⟨g,4*c+3,none⟩=some (Zz Zu (n8 (at' l (4*c+3)))):=hBi.at_upTo _ Zo Zo;have s0:(0:Int)<=4*(c:Int)+3:=Zo;have s1:4*(c:Int)+3<16:=Zo;have s2:(4*(c:Int)+3).toNat=4*c+3:=Zo;have HF:=FC (A5 l c);go_wp2;refine R2.ae 18 [[],[],[],[1,2],[],[],[4,5],[],[],[8],[8,9],[8,9,10],[8,9,10,11],[7,8,9,10,11,12],[7,8,9,10,11,12,13],[4,5,6,7,8,9,10,11,12,13,14],[0],[0,1,2,3,4,5,6,7,8,9,10,11,12,13,14,15,16],[0,1,2,3,4,5,6,7,8,9,10,11,12,13,14,15,16,17]] [] (λ h=>(h rfl).elim) Zk Zk Zk Zk Zk ?_;simp only [q8q,q9q,q10q,q11q,q12q,q13q];(repeat (refine R2.av ?_;(try simp only [Act.put,q0q,q1q,q2q])));(refine R2.ai (λ _ => Zz Zu (n8 (dbl (at' l (4*c+3) ^^^ at' l (4*c))))) (λ _ _=>True) (λ _ _ _ _ _=>trivial) (λ us w' hx hf=>⟨rfl,?_⟩) ?_;(unfold gives;simp [go_sem,execOp];refine (lF _ _).mono ?_;rintro e w1 ⟨rfl,hx1⟩;first|exact ⟨rfl,hx1⟩|simpa using hx1));(repeat (refine R2.av ?_;(try simp only [Act.put,q0q,q1q,q2q])));(refine R2.aU ?_;intro us x hx hf);go_wp2;go_roundw
      case rel =>
       refine ⟨3+1,Zo,Zg,?_,Blk.other (by repeat (with_reducible first|assumption|apply Blk.ext|apply Blk.drew|apply Blk.alloc)) (by simp;omega) _,(by repeat (with_reducible first|exact Mut.refl _ _|assumption|apply Mut.ext|apply Mut.drew|apply Mut.alloc|apply Mut.setCell))⟩;rw [<- HF.out];exact Blk.upd (f:=jA l) (k:=4*c+3) (by repeat (with_reducible first|assumption|apply Blk.ext|apply Blk.drew|apply Blk.alloc)) Zo
      case measure=>simp [intOf]
    ·obtain rfl:r=4:=by omega
     go_wp2;go_roundw
     case rel=>exact ⟨c+1,Zo,Zg,by rw [show 4*(c+1)=4*c+4 by omega];exact hBi,hMi⟩
     case measure=>simp [intOf];omega
  ·obtain rfl:c=4:=by omega
   go_wp2
   go_end0
   rw [fH _ _ _ hl] at hBr;exact ⟨rfl,hBr,hM⟩
end Go.Proofs.P9

/- The walks of AES-128, part two: encryption, the keys. -/
namespace Go.Proofs.P9
open Go.RowKit Go.Sec Go.Oct Go.Aes BigFrame
theorem rd_key {w:World} {c off:Nat} {ks:E7} (h:Rd w (some ⟨c,off,none⟩) (ks.map u8v)) (r:Nat):Rd w (some ⟨c,off+r*16,none⟩) ((key ks r).map u8v):=by
 rcases h with h|⟨b,o,ha,hb,hc⟩
 ·left;have:ks=[]:=by simpa using h
  subst this;simp [key]
 ·injection ha with ha
  injection ha with e1 e2
  subst e1 e2;refine .inr ⟨c,off+r*16,rfl,hb,λ k v hk=>?_⟩;rw [aaY];refine hc (r*16+k) v ?_;rw [Nat.mul_comm r 16];unfold key at hk;rw [List.getElem?_map] at hk ⊢;rw [List.getElem?_take] at hk;split at hk
  ·rw [List.getElem?_drop] at hk;exact hk
  ·cases hk
theorem nS (g c off:Nat) (T:TypeId)(l ks:E7)(w:World)(hB:Blk w g T (l.map u8v)) (hl:l.length=16) (hk:ks.length=176) (hR:Rd w (some ⟨c,off,none⟩) (ks.map u8v)) (hne:c≠g) :
  Calls Tryz.prog 174 #[.pointer (some ⟨c,off,none⟩), .pointer (some ⟨g,0,none⟩)] w λ e w'=>e = .returned (.tuple #[])/\Blk w' g T ((enc ks l).map u8v)/\Mut g w w':=by
 go_enter Tryz.func174,Tryz.ntmps174
 go_wp2_with fail;refine (gi g T l (key ks 0) c (off+0*16) _ hB hl (kL ks 0 hk Zo) (rd_key hR 0) hne).mono ?_;rintro e w1 ⟨rfl,hB1,hM1⟩;go_wp2_with fail
 go_loopw [4] (λ v4 wr=>∃ r:Nat,r<=10/\v4 = Zz Zx ((r+1:Nat):Int)/\Blk wr g T ((rounds ks l r).map u8v)/\Mut g w wr) (λ v4 _=>11-(intOf v4).toNat)
 case atStart=>exact ⟨0,Zo,rfl,hB1,hM1⟩
 case round =>
  obtain ⟨r,hr,rfl,hBr,hM⟩:=hrel;have hlr:=dN ks l r;by_cases hlt:r<10
  ·have hRk:=rd_key hR (r+1);have hkl:=kL ks (r+1) hk Zo;by_cases h9:r+1<10
   ·have HS:=FC (show rounds ks l (r+1)=bN (mix (rep (rounds ks l r))) (key ks (r+1)) by simp [rounds,h9]);generalize rounds ks l r=s at *;go_wp2_with fail;refine (vO g T s _ hBr hlr).mono ?_;rintro e w2 ⟨rfl,hB2,hM2⟩;go_wp2_with fail;refine (AB g T (rep s) _ hB2 (by simp [rep])).mono ?_;rintro e w3 ⟨rfl,hB3,hM3⟩;go_wp2_with fail;refine (gi g T _ (key ks (r+1)) c (off+(r+1)*16) _ hB3 (by simp [mix]) hkl (hRk.turn (hM.trans (hM2.trans hM3)) hne) hne).mono ?_;rintro e w4 ⟨rfl,hB4,hM4⟩;go_wp2_with fail;go_roundw
    case rel=>exact ⟨r+1,Zo,Zg,by rw [HS.out];exact hB4,hM.trans (hM2.trans (hM3.trans hM4))⟩
    case measure=>simp [intOf];omega
   ·have HS:=FC (show rounds ks l (r+1)=bN (rep (rounds ks l r)) (key ks (r+1)) by simp [rounds,h9]);generalize rounds ks l r=s at *;go_wp2_with fail;refine (vO g T s _ hBr hlr).mono ?_;rintro e w2 ⟨rfl,hB2,hM2⟩;go_wp2_with fail;refine (gi g T _ (key ks (r+1)) c (off+(r+1)*16) _ hB2 (by simp [rep]) hkl (hRk.turn (hM.trans hM2) hne) hne).mono ?_;rintro e w4 ⟨rfl,hB4,hM4⟩;go_wp2_with fail;go_roundw
    case rel=>exact ⟨r+1,Zo,Zg,by rw [HS.out];exact hB4,hM.trans (hM2.trans hM4)⟩
    case measure=>simp [intOf];omega
  ·obtain rfl:r=10:=by omega
   go_wp2
   go_end0
   exact ⟨rfl,hBr,hM⟩
end Go.Proofs.P9
