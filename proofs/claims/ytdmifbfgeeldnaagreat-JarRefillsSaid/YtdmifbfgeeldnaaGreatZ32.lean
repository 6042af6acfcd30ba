/- Lemmas of this claim, several texts joined. -/
import Derived.Test.YtdmifbfgeeldnaaGreatZ6
import Derived.Test.YtdmifbfgeeldnaaGreatZ9
import Derived.Test.YtdmifbfgeeldnaaGreatZ28
import Derived.Test.YtdmifbfgeeldnaaGreatZ30
import Derived.Test.YtdmifbfgeeldnaaGreatZ31
import Derived.Test.YtdmifbfgeeldnaaGreatZ33
set_option maxRecDepth 100000
open List renaming setIfInBounds_toArray → q0q, set_cons_succ → q1q, set_cons_zero → q2q, mem_cons → q3q, not_mem_nil → q4q, nil_append → q5q, cons_append → q6q, mem_append → q7q, take_succ_cons → q8q, take_zero → q9q, drop_succ_cons → q10q, drop_zero → q11q, take_nil → q12q, drop_nil → q13q, getElem_toArray → q14q, getElem_cons_succ → q15q, getElem_cons_zero → q16q
open Go.IntWalk renaming i64_in → q17q, rem_in → q18q, wrap64_in → q19q
set_option linter.unusedVariables false
set_option linter.unusedSimpArgs false
/- The walks of layer 17: scan, Decode. -/
namespace Go.Pkt
open Go.Sec Go.RowKit
theorem _root_.z32q73{p:Prop}(h:p:=by
 have:=h.drop ca i hca
 unfold sAdr at this
 rw [if_neg (by omega)] at this
 simpa [addr_add] using this):p:=h
theorem sl_at {w:World} {b0 o0 n ca i:Nat} {l:List UInt8} (h:Sl w (some ⟨b0,o0,none⟩) n l) (hca:n≤ca) (hi:i<n):Sl w (some ⟨b0,o0+i,none⟩) (n-i) (l.drop i):=by
 exact z32q73
theorem decR_err (m:Nat) (l:List UInt8)(h:(decR m l).2≠0):(decR m l).1=[]:=by
 by_cases h0:l=[]
 ·subst h0;rw [decR_nil] at h;exact absurd rfl h
 ·by_cases hs:stepE l=0
  ·cases m with
   | zero=>rw [decR_full l h0 hs]
   | succ m =>
    rw [decR_step m l h0 hs] at h ⊢
    unfold consR at h ⊢
    split
    ·rename_i h1;rw [if_pos h1] at h;exact absurd rfl h
    ·rfl
  ·rw [decR_bad m l h0 hs]
theorem preR_nil (m:Nat) (l:List UInt8):preR [] (decR m l)=decR m l:=by
 unfold preR
 split
 ·rename_i h;rw [q5q,← h]
 ·rename_i h;rw [← decR_err m l h]
end Go.Pkt
namespace Go.Proofs.YtdmifbfgeeldnaaGreat
open Go.RowKit Go.Sec Go.Oct Go.Pkt BigFrame
theorem infoF:(Tryz.prog.info? 66).map (fun i=>(i.zero,i.size,i.bytes))=some (some (.agg #[.int .i64 0, .slice none 0 0]),2,32):=by kernel_rfl
theorem VF:SI Tryz.prog 29 66:=⟨Tryz.underlying29,by obtain ⟨i,h1,h2,h3,h4⟩:=info_parts infoF;exact ⟨i,_,h1,h2,h3,h4,rfl⟩⟩
def FldAt (base gB:Nat) (A:List Fld) (w:World):Prop:=∃ sa sc,base≤w.heap.size∧Blk w gB 29 [.slice sa A.length sc]∧OwnI 66 w base sa A.length sc A
theorem FldAt.ext {base gB:Nat} {A:List Fld} {w w':World} (h:FldAt base gB A w) (hx:Ext w w'):FldAt base gB A w':=by
 obtain ⟨sa,sc,h1,h2,h3⟩:=h
 exact ⟨sa,sc,Nat.le_trans h1 hx.size,h2.extB hx,h3.ext hx⟩
set_option maxHeartbeats 4000000 in
theorem xd1_any (base gB:Nat) (A:List Fld) (at0 t:Int) (g:Option Addr)(m c:Nat) (l:List UInt8)(w:World)(hF:FldAt base gB A w) (hS:Sl w g m l) (hc:m≤c) (hi:InT 66 w base g m) (hk:A.length≤1000000) (hg:base≤gB) :
  Calls Tryz.prog 99 #[.int .i64 at0, .agg #[.int .i64 t, .slice g m c], .pointer (some ⟨gB,0,none⟩)] w fun e w'=>e = .returned (.tuple #[])∧FldAt base gB (A++[(t,l)]) w'∧Below base w w':=by
 obtain ⟨sa,sc,hb,hB,hO⟩:=hF
 have f0:=hB.cell? 0 rfl
 haveI:=hB.blt
 go_enter Tryz.func99,Tryz.ntmps99
 go_wp2_with (first
  | (at_builtin;refine wpList_append_i VF rfl _ _ rfl base _ A.length sc _ rfl (w.heap.size+1) 1 t g m c l (by simp [go_sem]) (hO.ext eX) (Blk.rd bK) (hS.ext eX) hc (hi.ext eX) hk (by simp;omega) ?_;intro sa' sc' w6 hO6 hg6 hb6;have hB6:=(hB.extB (show Ext w ((w.alloc (.cells #[.int .i64 t, .slice g m c] 66)).alloc (.cells #[.int .i64 t, .slice g m c] 66)) from eX)).grown hg6 (hO.blk hB (by decide));have f6:=hB6.cell? 0 rfl;have z6:=hB6.free 0)
  | fail)
 go_end0
 have hM:Mut gB w6 (w6.setCell ⟨gB,0,none⟩ (.slice sa' (A.length+1) sc')):=(Mut.refl _ _).setCell 0 _
 have hE:Ext w ((w.alloc (.cells #[.int .i64 t, .slice g m c] 66)).alloc (.cells #[.int .i64 t, .slice g m c] 66)):=eX
 have hb:=Nat.le_trans hb hE.size
 refine ⟨rfl,⟨sa',sc',Nat.le_trans (Nat.le_trans hb hb6.size) hM.size,?_,?_⟩,Below.trans (Below.trans (hE.mono (by have:=hE.size;omega)) hb6) (hM.below hg (Nat.le_trans hb hb6.size))⟩
 ·rw [List.length_append];exact hB6.set 0 _
 ·rw [List.length_append];exact hO6.mut hB6 (by decide) (by simp) hM
theorem FldAt.below {base gB:Nat} {A:List Fld} {w:World} (h:FldAt base gB A w):base≤w.heap.size:=by obtain ⟨_,_,h1,_⟩:=h;exact h1
def ScanOut (base gB:Nat) (r:List Fld × Int) (w:World)(e:Ending) (w':World):Prop:=e = .returned (.int .i64 r.2)∧(r.2=0→FldAt base gB r.1 w')∧Below base w w'
theorem sizeAt_get (l:List UInt8):n64 (getL ((l.drop 2).take 2))=((sizeAt l:Nat):Int):=by
 unfold n64 sizeAt;rw [getL_nat _ (by simp;omega)]
theorem typeAt_get (l:List UInt8):n64 (getL (l.take 2))=((getN (l.take 2):Nat):Int):=by
 unfold n64;rw [getL_nat _ (by simp;omega)]
theorem getN_two (l:List UInt8):getN (l.take 2)<65536:=by
 have h1:=getN_lt (l.take 2)
 have h2:(256:Nat) ^ (l.take 2).length≤256 ^ 2:=Nat.pow_le_pow_right (by omega) (by simp;omega)
 omega
theorem sizeAt_lt (l:List UInt8):sizeAt l<65536:=getN_two (l.drop 2)
theorem _root_.z32q22{p:Prop}(h:p:=by
 have er:=Lib.hid (show r=([],3) by
  have hs:stepE R=3:=by unfold stepE;rw [if_neg (by omega),hSz,if_pos (by omega)]
  rw [hm.out,decR_bad _ R hne (by rw [hs];decide),hs];rfl)
 clear hSz hRl hl hR hst
 go_wp2_with fail
 (with_reducible refine (hget _ hS2).mono ?_)
 rintro e w5 ⟨rfl,hx5⟩
 go_wp2_with fail
 go_ret
 rw [er.out]
 exact ⟨rfl,fun h=>(by cases h),Below.trans hE (hx5.mono hF.below)⟩):p:=h
theorem _root_.z32q39{p:Prop}(h:p:=by
 clear hSz hRl hl hR hst
 go_wp2_with fail
 (with_reducible refine (hget _ hS2).mono ?_)
 rintro e w5 ⟨rfl,hx5⟩
 go_wp2_with fail
 go_ret
 rw [er.out]
 exact ⟨rfl,fun h=>(by cases h),Below.trans hE (hx5.mono hF.below)⟩):p:=h
set_option maxHeartbeats 4000000 in
theorem xscan_any (base gB:Nat) (a:Option Addr)(n c:Nat) (b:List UInt8)(w:World)(hS:Sl w a n b) (hc:n≤c) (hn:n≤1000000) (hF:FldAt base gB [] w) (hg:base≤gB) (hlo:∀ W,Below base w W→Sl W a n b) :
  Calls Tryz.prog 98 #[.slice a n c, .func (.func 99) #[] #[.pointer (some ⟨gB,0,none⟩)]] w (ScanOut base gB (decF b) w):=by
 have hl:=hS.len
 by_cases h1:1232<n
 ·have er:=Lib.hid (show decF b=([],2) from if_pos (by omega))
  have i1:(1232:Int)<(n:Int):=by omega
  clear hl
  go_enter Tryz.func98,Tryz.ntmps98
  go_wp2_with fail
  go_ret
  rw [er.out]
  exact ⟨rfl,fun h=>(by cases h),Below.refl _ _⟩
 ·have i1:¬ (1232:Int)<(n:Int):=by omega
  obtain ⟨r,hr⟩:∃ r,decF b=r:=⟨_,rfl⟩
  have hr24:=Lib.hid (show decR 24 b=r by rw [← hr];exact (if_neg (by omega)).symm)
  rw [hr]
  clear hr
  go_enter Tryz.func98,Tryz.ntmps98
  go_wp2_with fail
  go_loopw [5,6,7,8] (fun v5 v6 _ _ wr=>∃ (o:Nat) (A:List Fld),o≤n∧A.length≤24∧v5 = .int .i64 o∧v6 = .int .i64 A.length∧Hid (r=preR A (decR (24-A.length) (b.drop o)))∧FldAt base gB A wr∧Below base w wr) (fun v5 _ _ _ _=>n-(intOf v5).toNat)
  case atStart=>exact ⟨0,[],by omega,by simp,rfl,rfl,Lib.hid (by rw [← hr24.out];exact (preR_nil _ _).symm),hF,Below.refl _ _⟩
  case round =>
   obtain ⟨o,A,ho,hA,rfl,rfl,hm,hF,hE⟩:=hrel
   have hSr:=hlo _ hE
   by_cases hlt:o<n
   ·obtain ⟨R,hR⟩:∃ R,b.drop o=R:=⟨_,rfl⟩
    have hRl:R.length=n-o:=by rw [← hR,List.length_drop,hl]
    have hSR:=hSr.drop c o hc
    rw [hR] at hSR hm
    obtain ⟨b0,o0,rfl, -, -⟩:=hSr.at 0 (by omega)
    have hAd:sAdr (some ⟨b0,o0,none⟩) c o 1=some ⟨b0,o0+o,none⟩:=by unfold sAdr;rw [if_neg (by omega)];simp [Addr.add]
    rw [hAd] at hSR
    clear hAd
    have hne:R≠[]:=fun h=>by rw [h] at hRl;simp at hRl;omega
    have i2:(o:Int)<(n:Int):=by omega
    have i3:(o:Int)≤(c:Int):=by omega
    have i5:(2:Int)≤((c-o:Nat):Int)∨n-o<4:=by omega
    by_cases h4:n-o<4
    ·have i4:((n-o:Nat):Int)<4:=by omega
     have er:=Lib.hid (show r=([],1) by
      have hs:stepE R=1:=if_pos (by omega)
      rw [hm.out,decR_bad _ R hne (by rw [hs];decide),hs];rfl)
     clear i5
     go_wp2_with fail
     go_ret
     rw [er.out]
     exact ⟨rfl,fun h=>(by cases h),hE⟩
    ·have i4:¬ ((n-o:Nat):Int)<4:=by omega
     have i6:(4:Int)≤((c-o:Nat):Int):=by omega
     have i7:(4:Int)≤((n-o:Nat):Int):=by omega
     clear i5
     have hS2:=(sl_at hSR (ca:=c-o) (by omega) (i:=2) (by omega)).take 2 (by omega)
     have hget:=fun W H=>oget_any (some ⟨b0,o0+o+2,none⟩) 2 (c-o-2) ((R.drop 2).take 2) W H (by omega) (by omega)
     rw [sizeAt_get] at hget
     obtain ⟨S,hSz⟩:∃ S,sizeAt R=S:=⟨_,rfl⟩
     have hSlt:=sizeAt_lt R
     have hst:4≤R.length:=by omega
     rw [hSz] at hget hSlt
     by_cases hq:S % 4=0
     ·by_cases hq2:S<16
      ·exact z32q22
      ·by_cases hq3:n-o<S
       ·have er:=Lib.hid (show r=([],1) by
         have hs:stepE R=1:=by unfold stepE;rw [if_neg (by omega),hSz,if_neg (by omega),if_pos (by omega)]
         rw [hm.out,decR_bad _ R hne (by rw [hs];decide),hs];rfl)
        have iq3:((n-o:Nat):Int)<(S:Int):=by omega
        exact z32q39
       ·have hs:stepE R=0:=by unfold stepE;rw [if_neg (by omega),hSz,if_neg (by omega),if_neg (by omega)]
        have iq3:¬ ((n-o:Nat):Int)<(S:Int):=by omega
        by_cases hq4:A.length=24
        ·have er:=Lib.hid (show r=([],8) by
          rw [hm.out,hq4,decR_full R hne hs];rfl)
         have iq4:((A.length:Nat):Int)=24:=by omega
         exact z32q39
        ·obtain ⟨q,hq5⟩:∃ q,24-A.length=q+1:=⟨24-A.length-1,by omega⟩
         have hm2:=Lib.hid (show r=preR (A++[fldAt R]) (decR (24-(A++[fldAt R]).length) (b.drop (o+S))) by
          rw [hm.out,hq5,decR_step q R hne hs,preR_cons,hSz,List.length_append,← hR,List.drop_drop]
          congr 2
          simp;omega)
         have iq4:¬ ((A.length:Nat):Int)=24:=by omega
         have hfl:=(fldAt_len hs).1
         have hfd:(fldAt R)=(((getN (R.take 2):Nat):Int),(R.take S).drop 4):=by unfold fldAt;rw [hSz]
         have hS4:=(sl_at hSR (ca:=c-o) (by omega) (i:=4) (by omega)).take (S-4) (by omega)
         rw [hSz] at hfl
         have hl4:((R.take S).drop 4).length=S-4:=by rw [hfd] at hfl;simp only at hfl;omega
         rw [← List.drop_take] at hS4
         have hSt:=hSR.take 2 (by omega)
         have hgt:=fun W H=>oget_any (some ⟨b0,o0+o,none⟩) 2 (c-o) (R.take 2) W H (by omega) (by omega)
         rw [typeAt_get] at hgt
         have hTlt:=getN_two R
         rw [hfd] at hm2
         clear hfd hfl
         generalize getN (R.take 2)=T at *
         generalize (R.take S).drop 4=X at *
         clear hSz hRl hl hR hst hs hq5
         go_wp2_with fail
         (with_reducible refine (hget _ hS2).mono ?_)
         rintro e w5 ⟨rfl,hx5⟩
         have hE5:=Below.trans hE (hx5.mono hF.below)
         have hF5:=hF.ext hx5
         have hSt:=hSt.ext hx5
         have hS4:=hS4.ext hx5
         have j1:(2:Int)≤((c-o:Nat):Int):=by omega
         have j2:(4:Int)≤(S:Int):=by omega
         have j3:(S:Int)≤((c-o:Nat):Int):=by omega
         have j4:¬ c-o=4:=by omega
         go_wp2_with fail
         refine wp_region_vague 11 [[],[],[],[2],[2,3],[2,3,4],[],[],[6,7],[2,3,4,6,7,8],[2,3,4,5,6,7,8,9],[0,1,2,3,4,5,6,7,8,9,10]] (by kernel_rfl) (by kernel_rfl) (by kernel_rfl) (by kernel_rfl) ?_;simp only [q8q,q9q,q10q,q11q,q12q,q13q]
         (repeat (refine VD_a ?_;(try simp only [Act.put,q0q,q1q,q2q])))
         (refine VD_vag (fun _ => .int .u64 ((T:Nat):Int)) (fun _ _=>True) (fun _ _ _ _ _=>trivial) (fun us w' hx hf=>⟨rfl,?_⟩) ?_;(unfold gives;simp [go_sem,execOp];refine (hgt _ (hSt.ext hx)).mono ?_;rintro e w1 ⟨rfl,hx1⟩;first|exact ⟨rfl,hx1⟩|simpa using hx1))
         (repeat (refine VD_a ?_;(try simp only [Act.put,q0q,q1q,q2q])))
         (refine VD_vag (fun p => .slice (p 0).1 (S-4) (p 0).2) (fun p w''=>Own w'' 0 (p 0).1 (S-4) (p 0).2 (X)) (fun p w w' h hx=>h.ext hx) (fun us w' hx hf=>⟨rfl,?_⟩) ?_;(unfold gives;simp [go_sem,execOp];exact vag_fresh (Nat.zero_le _) (clone_any (some ⟨b0,o0+o+4,none⟩) (S-4) (c-o-4) X _ (hS4.ext hx) (by omega))))
         (repeat (refine VD_a ?_;(try simp only [Act.put,q0q,q1q,q2q])))
         (refine VD_z ?_;intro us x hx hf;(try simp only [Act.put,q0q,q1q,q2q,wpList_none]);(try simp only [q3q,q4q,or_false,forall_eq_or_imp,forall_eq,q5q,q6q,q7q,false_or,true_and,and_true] at hf);(try simp only [Nat.reduceAdd,Nat.zero_add] at hf ⊢))
         obtain ⟨a6,ha6⟩:∃ a,(us 9 0).1=a:=⟨_,rfl⟩
         obtain ⟨c6,hc6⟩:∃ a,(us 9 0).2=a:=⟨_,rfl⟩
         have hO:=hf
         rw [ha6,hc6] at hO ⊢
         clear ha6 hc6 hf
         have hx6:Ext w5 (w5.ext x):=Ext.of_ext _ _
         have hF6:=hF5.ext hx6
         have hE6:=Below.trans hE5 (hx6.mono hF5.below)
         have hwT:IntKind.i64.wrap ((T:Nat):Int)=(T:Int):=by rw [IntKind.wrap_i64];omega
         try rw [hwT]
         clear hwT
         generalize w5.ext x=w6 at *
         go_wp2_with fail
         (with_reducible refine (xd1_any base gB A _ _ _ _ _ X w6 hF6 hO.sl hO.le.1 (Own.inT hO (by decide)) (by omega) hg).mono ?_)
         rintro e w7 ⟨rfl,hF7,hE7⟩
         go_wp2_with fail
         go_roundw
         case rel=>exact ⟨o+S,A++[(((T:Nat):Int),X)],by omega,by simp;omega,by go_num,by simp,hm2,hF7,Below.trans hE6 hE7⟩
         case measure=>simp [intOf];omega
     ·exact z32q22
   ·obtain rfl:o=n:=by omega
    have i2:¬ (o:Int)<(o:Int):=by omega
    have er:=Lib.hid (show r=(A,0) by rw [hm.out,List.drop_of_length_le (by omega),decR_nil];simp [preR])
    go_wp2_with fail
    go_ret
    rw [er.out]
    exact ⟨rfl,fun _=>hF,hE⟩
def FldsE (r:List Fld × Int) (w:World)(e:Ending) (w':World):Prop:=∃ a c,e = .returned (.tuple #[.slice a r.1.length c, .int .i64 r.2])∧OwnI 66 w' w.heap.size a r.1.length c r.1∧Ext w w'
theorem FldsE.err (w w':World)(e:Int) (hx:Ext w w'):FldsE ([],e) w (.returned (.tuple #[.slice none 0 0, .int .i64 e])) w':=⟨none,0,rfl,OwnI.nil _ _ _,hx⟩
set_option maxHeartbeats 4000000 in
theorem xdecode_any (a:Option Addr)(n c:Nat) (b:List UInt8)(w:World)(hS:Sl w a n b) (hc:n≤c) (hn:n≤1000000) :
  Calls Tryz.prog 50 #[.slice a n c] w (FldsE (decF b) w):=by
 have hl:=hS.len
 go_enter Tryz.func50,Tryz.ntmps50
 go_wp2_with fail
 have hx0:Ext w (w.alloc (.cells #[.slice none 0 0] 29)):=Ext.of_alloc _ _
 have hF:FldAt w.heap.size w.heap.size [] (w.alloc (.cells #[.slice none 0 0] 29)):=⟨none,0,hx0.size,Blk.new _ _ _,OwnI.nil _ _ _⟩
 (with_reducible refine (xscan_any w.heap.size w.heap.size a n c b _ (hS.ext hx0) hc hn hF (Nat.le_refl _) (fun W hW=>hS.ext (Below.trans hx0 hW))).mono ?_)
 rintro e w1 ⟨rfl,hF1,hE1⟩
 have hE:=Below.trans hx0 hE1
 by_cases h0:(decF b).2=0
 ·obtain ⟨sa,sc,_,hB,hO⟩:=hF1 h0
  have er:=Lib.hid (show decF b=((decF b).1,0) by rw [← h0])
  rw [h0]
  clear hF1 h0
  haveI:=hB.blt
  have f0:=hB.cell? 0 rfl
  go_wp2_with fail
  go_ret2
  rw [er.out]
  exact ⟨sa,sc,rfl,hO,hE⟩
 ·have er:=Lib.hid (show decF b=([],(decF b).2) by
   have:(decF b).1=[]:=by
    unfold decF at h0 ⊢
    split
    ·rfl
    ·rename_i h1;rw [if_neg h1] at h0;exact decR_err _ _ h0
   rw [← this])
  have hne:((decF b).2 != 0)=true:=by rw [bne_iff_ne];exact h0
  clear hF1 h0
  generalize (decF b).2=v at *
  go_wp2_with fail
  go_ret2
  rw [er.out]
  exact FldsE.err _ _ _ hE
end Go.Proofs.YtdmifbfgeeldnaaGreat

/- The walks of layer 17: Encode. -/
namespace Go.Pkt
open Go.Sec Go.RowKit Go.Oct
theorem badE_app (A B:List Fld) (h:badE A=0):badE (A++B)=badE B:=by
 induction A with
 | nil=>rfl
 | cons f A ih =>
  rw [badE] at h
  split at h
  ·rename_i h1;exact absurd h h1
  ·rename_i h1
   rw [q6q,badE,if_neg h1,ih h]
theorem badE_at {L:List Fld} {k:Nat} {x:Fld} (hx:L[k]?=some x) (h:badE (L.take k)=0) (hx2:(sizE x).2≠0):badE L=(sizE x).2:=by
 obtain ⟨hk,rfl⟩:=List.getElem?_eq_some_iff.1 hx
 have:L=L.take k++(L[k] :: L.drop (k+1)):=by rw [← List.drop_eq_getElem_cons hk,List.take_append_drop]
 have e:=congrArg badE this
 rw [badE_app _ _ h,badE,if_pos hx2] at e
 exact e
theorem take_at {L:List Fld} {k:Nat} {x:Fld} (hx:L[k]?=some x):L.take (k+1)=L.take k++[x]:=by
 obtain ⟨hk,rfl⟩:=List.getElem?_eq_some_iff.1 hx
 exact List.take_succ_eq_append_getElem hk
theorem sizE_ok {x:Fld} (h:(sizE x).2=0):(0≤x.1∧x.1≤65535)∧szN x.2.length≤1232∧sizE x=(((szN x.2.length:Nat):Int),0):=by
 unfold sizE at h ⊢
 split at h
 ·cases h
 ·rename_i h1
  rw [if_neg h1]
  split at h
  ·cases h
  ·rename_i h2
   rw [if_neg h2]
   exact ⟨by omega,by omega,rfl⟩
theorem fld_fill (f:Fld) (N:Nat) (hN:szN f.2.length=N) :
  ((((List.replicate N (0:UInt8)).take 0++putL 2 (UInt64.ofNat f.1.toNat)++(List.replicate N (0:UInt8)).drop (0+2)).take (0+2)++putL 2 (UInt64.ofNat N)++((List.replicate N (0:UInt8)).take 0++putL 2 (UInt64.ofNat f.1.toNat)++(List.replicate N (0:UInt8)).drop (0+2)).drop (0+2+2)).take (0+2+2)++f.2 ++
   (((List.replicate N (0:UInt8)).take 0++putL 2 (UInt64.ofNat f.1.toNat)++(List.replicate N (0:UInt8)).drop (0+2)).take (0+2)++putL 2 (UInt64.ofNat N)++((List.replicate N (0:UInt8)).take 0++putL 2 (UInt64.ofNat f.1.toNat)++(List.replicate N (0:UInt8)).drop (0+2)).drop (0+2+2)).drop (0+2+2+f.2.length))=fldB f:=by
 subst hN
 have hz:=szN_ge f.2.length
 generalize hp:putL 2 (UInt64.ofNat f.1.toNat)=p
 generalize hq:putL 2 (UInt64.ofNat (szN f.2.length))=q
 have lp:p.length=2:=by rw [← hp];exact putL_length _ _
 have lq:q.length=2:=by rw [← hq];exact putL_length _ _
 unfold fldB
 rw [hp,hq]
 generalize szN f.2.length=N at *
 have e1:(List.replicate N (0:UInt8)).take 0++p++(List.replicate N (0:UInt8)).drop (0+2)=p++List.replicate (N-2) 0:=by simp
 rw [e1,take_app _ _ _ lp,show 0+2+2=2+2 from rfl,drop_more _ _ 2 2 lp,List.drop_replicate,List.append_assoc,← List.append_assoc p q,take_app _ _ _ (by simp [lp,lq]),drop_more _ _ (2+2) f.2.length (by simp [lp,lq]),List.drop_replicate]
 rw [show N-2-2-f.2.length=N-4-f.2.length by omega]
end Go.Pkt
namespace Go.Sec
open Go.RowKit
theorem Sl.mutNe {w w':World} {a:Option Addr} {n g:Nat} {l:List UInt8} (h:Sl w a n l) (hM:Mut g w w') (hne:n=0∨∀ b o,a=some ⟨b,o,none⟩→b≠g):Sl w' a n l:=by
 rcases hne with h0|hne
 ·exact z30q87
 ·refine ⟨h.len,?_⟩
  rcases h.by' with h1|⟨b,o,e,hb,hc⟩
  ·exact .inl h1
  ·subst e
   exact Rd.turn hM (.inr ⟨b,o,rfl,hb,hc⟩) (hne b o rfl)
theorem Sl.ne {w:World} {a:Option Addr} {n g:Nat} {l:List UInt8} (h:Sl w a n l) (hg:w.heap.size≤g):n=0∨∀ b o,a=some ⟨b,o,none⟩→b≠g:=by
 by_cases h0:n=0
 ·exact .inl h0
 ·exact .inr fun b o e=>by have:=h.lt (by omega) b o e;omega
theorem Own.mutNe {w w':World} {base n c g:Nat} {a:Option Addr} {l:List UInt8} (h:Own w base a n c l) (hM:Mut g w w') (hne:(Value.slice a n c).ownBlock≠some g):Own w' base a n c l:=by
 refine ⟨h.1,h.2.1,?_⟩
 rcases h.2.2 with h1|⟨g',cap,cur,hv,hb,hh,r⟩
 ·exact .inl h1
 ·refine .inr ⟨g',cap,cur,hv,hb,?_,r⟩
  rw [hM.block g' (Array.getElem?_eq_some_iff.1 hh).1 (fun e=>hne (by rw [hv];exact e))]
  exact hh
theorem Own.ne {w:World} {base n c g:Nat} {a:Option Addr} {l:List UInt8} (h:Own w base a n c l) (hg:w.heap.size≤g):(Value.slice a n c).ownBlock≠some g:=fun e=>by
 have:=(own_lt h.2 g e).2;omega
end Go.Sec
namespace Go.Proofs.YtdmifbfgeeldnaaGreat
open Go.RowKit Go.Sec Go.Oct Go.Pkt BigFrame
theorem _root_.z32q41{p:Prop}(h:p:=by
 have i24:(24:Int)<(k:Int):=by omega
 have er:=Lib.hid (show r=([],8) by rw [← hr.out];unfold encF;rw [hbad.out,if_neg (by simp),if_pos (by omega)])
 go_wp2_with fail
 go_ret2
 rw [er.out]
 exact read2_err _ _ _ hx):p:=h
set_option maxHeartbeats 2000000 in
theorem xencode_any (a:Option Addr)(n c:Nat) (L:List Fld) (w:World)(hI:Ib w a n L) (hn:n≤1000000) (hL:∀ f∈L,f.2.length≤1000000) :
  Calls Tryz.prog 60 #[.slice a n c] w (Read2 (encF L).1.length (encF L).1 (.int .i64 (encF L).2) w):=by
 have hl:=hI.len
 obtain ⟨r,hr⟩:∃ r,encF L=r:=⟨_,rfl⟩
 rw [hr]
 have hr:=Lib.hid hr
 have hp2:=fun (v:UInt64) (vI:Int) (hv:vI=n64 v) W=>oput_any v 2 hv (show (2:Int)=((2:Nat):Int) from rfl) W (by omega)
 go_enter Tryz.func60,Tryz.ntmps60
 go_wp2_with fail
 go_loopw [4,5,7,8,9,10,13] (fun v4 v5 _ _ _ _ v13 wr=>∃ (k m:Nat) (sa:Option Addr)(sc:Nat) (O:List UInt8),k≤n∧v13 = .int .i64 k∧v5 = .bool (decide (1232<totN (L.take k)))∧v4 = .slice sa m sc∧m≤1232∧Own wr w.heap.size sa m sc O∧Hid (totN (L.take k)≤1232→O=bytesF (L.take k))∧Hid (badE (L.take k)=0)∧Ext w wr) (fun _ _ _ _ _ _ v13 _=>n-(intOf v13).toNat)
 case atStart=>exact ⟨0,0,none,0,[],by omega,rfl,rfl,rfl,by omega,Own.nil _ _,Lib.hid fun _=>rfl,Lib.hid rfl,Ext.refl _⟩
 case round =>
  obtain ⟨k,m,sa,sc,O,hk,rfl,rfl,rfl,hm,hO,hOl,hbad,hx⟩:=hrel
  by_cases hlt:k<n
  ·obtain ⟨x,hxi⟩:∃ x,L[k]?=some x:=⟨_,List.getElem?_eq_getElem (by omega)⟩
   have hxl:=hL x (List.mem_of_getElem? hxi)
   obtain ⟨b0,o0,g',c',rfl,hb0,hc0,hc1,hSk,hck⟩:=(hI.ext hx).at k hlt _ hxi
   have hrd:=rd2 hb0.lt hc0 hc1
   have i0:(0:Int)≤(k:Int):=by omega
   have i1:(k:Int)<(n:Int):=by omega
   have hsz:=fun W=>xSize_any x g' c' W (by omega)
   have hts:=Lib.hid (take_at hxi)
   haveI:=hb0
   by_cases he:(sizE x).2=0
   ·obtain ⟨⟨t0,t1⟩,hzz,hze⟩:=sizE_ok he
    obtain ⟨N,hN⟩:∃ N,szN x.2.length=N:=⟨_,rfl⟩
    have hN16:=szN_ge x.2.length
    rw [hN] at hN16 hze hzz
    rw [hze] at hsz
    have htt:=totN_snoc (L.take k) x
    have hb2:=Lib.hid (show badE (L.take (k+1))=0 by rw [hts.out,badE_app _ _ hbad.out,badE,if_neg (by simpa using he)];rfl)
    rw [← hts.out,hN] at htt
    clear he
    by_cases hlo:1232<totN (L.take k)
    ·have il:decide (1232<totN (L.take k))=true:=decide_eq_true hlo
     have il2:=Lib.hid (show decide (1232<totN (L.take (k+1)))=true from decide_eq_true (by omega))
     have hol:=Lib.hid (show totN (L.take (k+1))≤1232→O=bytesF (L.take (k+1)) from fun h=>by omega)
     rw [il]
     clear htt hN16 hlo hN
     go_wp2_with (first
      | (refine wpList_load_arr (RF2) rfl _ rfl (b0) (o0+k*2) rfl ([.int .i64 x.1, .slice g' x.2.length c']) (hrd) (rfl) ?_)
      | (go_at_call 105;refine (hsz _).mono ?_;rintro e w1 ⟨rfl,hxq⟩;obtain ⟨xq,rfl⟩:=hxq.out;clear hxq)
      | fail)
     go_roundw
     case rel=>exact ⟨k+1,m,sa,sc,O,by omega,by go_num,by rw [il2.out],rfl,hm,hO.ext eX,hol,hb2,hx.trans eX⟩
     case measure=>simp [intOf];omega
    ·have il:decide (1232<totN (L.take k))=false:=decide_eq_false hlo
     have hOe:=hOl.out (by omega)
     have hmt:m=totN (L.take k):=by rw [← hO.1,hOe,bytesF_length]
     rw [il]
     by_cases hlo2:1232<m+N
     ·have il2:=Lib.hid (show decide (1232<totN (L.take (k+1)))=true from decide_eq_true (by omega))
      have hol:=Lib.hid (show totN (L.take (k+1))≤1232→O=bytesF (L.take (k+1)) from fun h=>by omega)
      have ilo:(1232:Int)<(m:Int)+(N:Int):=by omega
      clear htt hN16 hlo hN hmt hOe
      go_wp2_with (first
       | (refine wpList_load_arr (RF2) rfl _ rfl (b0) (o0+k*2) rfl ([.int .i64 x.1, .slice g' x.2.length c']) (hrd) (rfl) ?_)
       | (go_at_call 105;refine (hsz _).mono ?_;rintro e w1 ⟨rfl,hxq⟩;obtain ⟨xq,rfl⟩:=hxq.out;clear hxq)
       | fail)
      go_roundw
      case rel=>exact ⟨k+1,m,sa,sc,O,by omega,by go_num,by rw [il2.out],rfl,hm,hO.ext eX,hol,hb2,hx.trans eX⟩
      case measure=>simp [intOf];omega
     ·have il2:=Lib.hid (show decide (1232<totN (L.take (k+1)))=false from decide_eq_false (by omega))
      have hol:=Lib.hid (show O++fldB x=bytesF (L.take (k+1)) by rw [hOe,hts.out,bytesF_snoc])
      have ilo:¬ (1232:Int)<(m:Int)+(N:Int):=by omega
      have hfill:=Lib.hid (fld_fill x N hN)
      have hfl:=fldB_length x
      rw [hN] at hfl
      clear htt hlo hN hmt hOe
      have hmk:=run_make_by U 0 N (Nat.zero_le _) (by omega)
      simp only [Int.cast_ofNat_Int] at hmk
      go_wp2_with (first
       | (refine wpList_load_arr (RF2) rfl _ rfl (b0) (o0+k*2) rfl ([.int .i64 x.1, .slice g' x.2.length c']) (hrd) (rfl) ?_)
       | (go_at_call 105;refine (hsz _).mono ?_;rintro e w1 ⟨rfl,hxq⟩;obtain ⟨xq,rfl⟩:=hxq.out;clear hxq)
       | fail)
      refine nameW ?_
      intro W hW
      have hEW:Ext wr W:=by rw [hW];exact eX
      have hF:Blk W wr.heap.size 66 [.int .i64 x.1, .slice g' x.2.length c']:=by rw [hW];exact bK
      have hB:=blk_zeros8 ((wr.alloc (.cells #[.int .i64 x.1, .slice g' x.2.length c'] 66)).ext xq) N
      rw [← hW] at hB
      have hgl:wr.heap.size≤((wr.alloc (.cells #[.int .i64 x.1, .slice g' x.2.length c'] 66)).ext xq).heap.size:=Below.size (B:=wr.heap.size) eX
      have hgn:wr.heap.size≠((wr.alloc (.cells #[.int .i64 x.1, .slice g' x.2.length c'] 66)).ext xq).heap.size:=by
       have h:=lt_blk (n:=wr.heap.size) (w:=(wr.alloc (.cells #[.int .i64 x.1, .slice g' x.2.length c'] 66)).ext xq);omega
      generalize ((wr.alloc (.cells #[.int .i64 x.1, .slice g' x.2.length c'] 66)).ext xq).heap.size=g at *
      clear hW hmk
      have hS0:=hSk.ext hEW
      have hO0:=hO.ext hEW
      have hSne:=hSk.ne hgl
      have hOne:=hO.ne hgl
      have hgW:=hB.lt
      haveI:=hF.blt
      have i4:0≤x.1:=t0
      have hv1:IntKind.u64.wrap x.1=n64 (UInt64.ofNat x.1.toNat):=by rw [IntKind.wrap_u64];unfold n64;rw [UInt64.toNat_ofNat'];omega
      have hv2:IntKind.u64.wrap (N:Int)=n64 (UInt64.ofNat N):=by rw [IntKind.wrap_u64];unfold n64;rw [UInt64.toNat_ofNat'];omega
      have hpa:=hp2 _ _ hv1
      have hpb:=hp2 _ _ hv2
      clear hv1 hv2 hp2
      have hfl:=Lib.hid hfl
      have hSE:∀ w',Ext (W) w'→(fun w'=>w'.cell? ⟨wr.heap.size,0,none⟩=some (.int .i64 x.1)∧w'.cell? ⟨wr.heap.size,1,none⟩=some (.slice g' x.2.length c')) w':=(fun w' h=>⟨(hF.extB h).cell? 0 rfl,(hF.extB h).cell? 1 rfl⟩);have hExt0:Ext (W) (W).drew:=Ext.drew (Ext.refl _);refine wp_region_held_drew (S:=fun w'=>w'.cell? ⟨wr.heap.size,0,none⟩=some (.int .i64 x.1)∧w'.cell? ⟨wr.heap.size,1,none⟩=some (.slice g' x.2.length c')) (by kernel_rfl) (hSE _ hExt0) (fun hHeld=>?_)
      refine wpAnyH_take (i:=0) (v:=?v36) rfl (by kernel_rfl) (by kernel_rfl) (by kernel_rfl) (fun _ _ _ h=>h) (Or.inl ⟨by rfl,?hy36⟩) hHeld ?_;(case hy36=>(intro w' hx;simp [go_sem,execOp, *];(try simp (disch:=omega) only [q17q,q18q,q19q]);rfl));(try simp only [q14q,q15q,q16q,Act.put,q0q,q1q,q2q])
      refine wpAnyH_take (i:=1) (v:=?v37) rfl (by kernel_rfl) (by kernel_rfl) (by kernel_rfl) (fun _ _ _ h=>h) (Or.inl ⟨by rfl,?hy37⟩) hHeld ?_;(case hy37=>(intro w' hx;simp [go_sem,execOp, *];(try simp (disch:=omega) only [q17q,q18q,q19q]);rfl));(try simp only [q14q,q15q,q16q,Act.put,q0q,q1q,q2q])
      refine wpAnyH_take (i:=2) (v:=?v38) rfl (by kernel_rfl) (by kernel_rfl) (by kernel_rfl) (fun _ _ _ h=>h) (Or.inl ⟨by rfl,?hy38⟩) hHeld ?_;(case hy38=>(intro w' hx;simp [go_sem,execOp, *];(try simp (disch:=omega) only [q17q,q18q,q19q]);rfl));(try simp only [q14q,q15q,q16q,Act.put,q0q,q1q,q2q])
      refine wpAnyH_take (i:=3) (v:=?v39) rfl (by kernel_rfl) (by kernel_rfl) (by kernel_rfl) (fun _ _ _ h=>h) (Or.inl ⟨by rfl,?hy39⟩) hHeld ?_;(case hy39=>(intro w' hx;simp [go_sem,execOp, *];(try simp (disch:=omega) only [q17q,q18q,q19q]);rfl));(try simp only [q14q,q15q,q16q,Act.put,q0q,q1q,q2q])
      refine wpAnyH_take (i:=6) (v:=?v40) rfl (by kernel_rfl) (by kernel_rfl) (by kernel_rfl) (fun _ _ _ h=>h) (Or.inl ⟨by rfl,?hy40⟩) hHeld ?_;(case hy40=>(intro w' hx;simp [go_sem,execOp, *];(try simp (disch:=omega) only [q17q,q18q,q19q]);rfl));(try simp only [q14q,q15q,q16q,Act.put,q0q,q1q,q2q])
      refine wpAnyH_take (i:=7) (v:=?v41) rfl (by kernel_rfl) (by kernel_rfl) (by kernel_rfl) (fun _ _ _ h=>h) (Or.inl ⟨by rfl,?hy41⟩) hHeld ?_;(case hy41=>(intro w' hx;simp [go_sem,execOp, *];(try simp (disch:=omega) only [q17q,q18q,q19q]);rfl));(try simp only [q14q,q15q,q16q,Act.put,q0q,q1q,q2q])
      refine wpAnyH_take (i:=10) (v:=?v42) rfl (by kernel_rfl) (by kernel_rfl) (by kernel_rfl) (fun _ _ _ h=>h) (Or.inl ⟨by rfl,?hy42⟩) hHeld ?_;(case hy42=>(intro w' hx;simp [go_sem,execOp, *];(try simp (disch:=omega) only [q17q,q18q,q19q]);rfl));(try simp only [q14q,q15q,q16q,Act.put,q0q,q1q,q2q])
      refine wpAnyH_take (i:=11) (v:=?v43) rfl (by kernel_rfl) (by kernel_rfl) (by kernel_rfl) (fun _ _ _ h=>h) (Or.inl ⟨by rfl,?hy43⟩) hHeld ?_;(case hy43=>(intro w' hx;simp [go_sem,execOp, *];(try simp (disch:=omega) only [q17q,q18q,q19q]);rfl));(try simp only [q14q,q15q,q16q,Act.put,q0q,q1q,q2q])
      (refine R5.any_only 4 (by kernel_rfl) rfl rfl ?_;unfold gives;simp [go_sem,execOp])
      (with_reducible refine (hpa _).mono ?_)
      rintro e w5 ⟨a5,c5,rfl,hO5,hx5⟩
      have hx5:Ext W w5:=hExt0.trans hx5
      refine ⟨_,rfl,hSE _ hx5,?_⟩
      (try simp only [q14q,q15q,q16q,Act.put,q0q,q1q,q2q])
      refine R5.any_only 5 (by kernel_rfl) rfl rfl (R5.gives_append_fit U _ _ rfl g 0 N rfl a5 2 c5 rfl _ _ (hB.extB hx5) (by simp) hO5.sl (by omega) ?_)
      intro w6 hB6 hM6
      have hF6:=Blk.turn hM6 (hF.extB hx5) hgn
      refine ⟨⟨hF6.cell? 0 rfl,hF6.cell? 1 rfl⟩,?_⟩
      (try simp only [q14q,q15q,q16q,Act.put,q0q,q1q,q2q])
      (refine R5.any_only 8 (by kernel_rfl) rfl rfl ?_;unfold gives;simp [go_sem,execOp])
      (with_reducible refine (hpb _).mono ?_)
      rintro e w7 ⟨a7,c7,rfl,hO7,hx7⟩
      have hF7:=hF6.extB hx7
      refine ⟨_,rfl,⟨hF7.cell? 0 rfl,hF7.cell? 1 rfl⟩,?_⟩
      (try simp only [q14q,q15q,q16q,Act.put,q0q,q1q,q2q])
      refine R5.any_only 9 (by kernel_rfl) rfl rfl (R5.gives_append_fit U _ _ rfl g (0+2) N rfl a7 2 c7 rfl _ _ (hB6.extB hx7) (by simp [putL_length];omega) hO7.sl (by omega) ?_)
      intro w8 hB8 hM8
      have hF8:=Blk.turn hM8 hF7 hgn
      have hS8:=(((hS0.ext hx5).mutNe hM6 hSne).ext hx7).mutNe hM8 hSne
      refine ⟨⟨hF8.cell? 0 rfl,hF8.cell? 1 rfl⟩,?_⟩
      (try simp only [q14q,q15q,q16q,Act.put,q0q,q1q,q2q])
      refine R5.any_only 12 (by kernel_rfl) rfl rfl (R5.gives_append_fit U _ _ rfl g (0+2+2) N rfl g' x.2.length c' rfl _ _ hB8 (by simp [putL_length];omega) hS8 (by omega) ?_)
      intro w9 hB9 hM9
      have hF9:=Blk.turn hM9 hF8 hgn
      have hO9:=((((hO0.ext hx5).mutNe hM6 hOne).ext hx7).mutNe hM8 hOne).mutNe hM9 hOne
      have hE5:=(hx.trans hEW).trans hx5
      have hE6:Ext w w6:=Below.trans hE5 (hM6.below (by have:=hx.size;omega) hE5.size)
      have hE7:=hE6.trans hx7
      have hE8:Ext w w8:=Below.trans hE7 (hM8.below (by have:=hx.size;omega) hE7.size)
      have hE9:Ext w w9:=Below.trans hE8 (hM9.below (by have:=hx.size;omega) hE8.size)
      rw [hfill.out] at hB9
      have hS9:=hB9.sl hfl.out
      refine ⟨⟨hF9.cell? 0 rfl,hF9.cell? 1 rfl⟩,?_⟩
      (try simp only [q14q,q15q,q16q,Act.put,q0q,q1q,q2q])
      (refine R5.any_only 13 (by kernel_rfl) rfl rfl ?_;unfold gives;simp [go_sem,execOp])
      refine ⟨⟨hF9.cell? 0 rfl,hF9.cell? 1 rfl⟩,?_⟩
      (try simp only [q14q,q15q,q16q,Act.put,q0q,q1q,q2q])
      refine wpAnyH_done (by kernel_rfl) ?_ _
      clear hSE hExt0 hfill hB6 hB8 hM6 hM8 hM9 hF6 hF7 hF8 hF9 hE5 hE6 hE7 hE8 hO5 hO7 hS8 hpa hpb
      have iN:(N:Int)≤(N:Int):=Int.le_refl _
      go_wp2_with (at_builtin;refine wpList_append_by U rfl _ _ rfl w.heap.size sa _ sc _ rfl (some ⟨g,0,none⟩) N N _ rfl hO9 hS9 (by omega) hE9.size ?_;intro sa2 sc2 w2 hO2 hg2 hB2)
      go_roundw
      case rel=>exact ⟨k+1,m+N,sa2,sc2,_,by omega,by go_num,by rw [il2.out];simp;omega,rfl,by omega,hO2,Lib.hid fun _=>hol.out,hb2,Below.trans hE9 hB2⟩
      case measure=>simp [intOf];omega
   ·have he2:=Lib.hid (show r=([],(sizE x).2) by
     rw [← hr.out];unfold encF;rw [badE_at hxi hbad.out he,if_pos he])
    have hne:((sizE x).2 != 0)=true:=by rw [bne_iff_ne];exact he
    generalize (sizE x).2=ev at *
    generalize (sizE x).1=sv at *
    clear he
    go_wp2_with (first
     | (refine wpList_load_arr (RF2) rfl _ rfl (b0) (o0+k*2) rfl ([.int .i64 x.1, .slice g' x.2.length c']) (hrd) (rfl) ?_)
     | (go_at_call 105;refine (hsz _).mono ?_;rintro e w1 ⟨rfl,hxq⟩;obtain ⟨xq,rfl⟩:=hxq.out;clear hxq)
     | fail)
    go_ret2
    rw [he2.out]
    exact read2_err _ _ _ (hx.trans eX)
  ·obtain rfl:k=n:=by omega
   rw [List.take_of_length_le (by omega)] at *
   by_cases h24:24<k
   ·exact z32q41
   ·have i24:¬ (24:Int)<(k:Int):=by omega
    by_cases hlo:1232<totN L
    ·have er:=Lib.hid (show r=([],2) by rw [← hr.out];unfold encF;rw [hbad.out,if_neg (by simp),if_neg (by omega),if_pos hlo])
     have il:decide (1232<totN L)=true:=decide_eq_true hlo
     rw [il]
     go_wp2_with fail
     go_ret2
     rw [er.out]
     exact read2_err _ _ _ hx
    ·have er:=Lib.hid (show r=(O,0) by rw [← hr.out];unfold encF;rw [hbad.out,if_neg (by simp),if_neg (by omega),if_neg hlo,hOl.out (by omega)])
     have il:decide (1232<totN L)=false:=decide_eq_false hlo
     have hOL:=hO.1
     rw [il]
     go_wp2_with fail
     go_ret2
     rw [er.out]
     exact ⟨sa,sc,by rw [hOL];rfl,by rw [hOL];exact hO.sl,by rw [hOL];exact hO.le.1,hx⟩
end Go.Proofs.YtdmifbfgeeldnaaGreat

/- The walks of layer 18: open, Bare, nonced, padded, the guard's bytes. -/
namespace Go.Sec
theorem Rd.left {w:World} {a:Option Addr} {vs us:List Value} (h:Rd w a (vs++us)):Rd w a vs:=by
 rcases h with h|⟨b,o,ha,hb,hc⟩
 ·exact .inl (List.append_eq_nil_iff.1 h).1
 ·exact .inr ⟨b,o,ha,hb,fun k v hk=>hc k v (by rw [List.getElem?_append_left (List.getElem?_eq_some_iff.1 hk).1];exact hk)⟩
end Go.Sec
namespace Go.Proofs.YtdmifbfgeeldnaaGreat
open Go.RowKit Go.Sec Go.Oct Go.Pkt Go.Aes BigFrame
theorem RP16:RowT Tryz.prog 32 16:=⟨⟨_,Tryz.underlying32,rfl⟩,by kernel_rfl,⟨_,Tryz.zeroValue32,by kernel_rfl⟩⟩
theorem openB_err {h:Hdr} {L:List Fld} (h1:(encH h).2≠0):openB h L=([],(encH h).2):=if_pos h1
theorem openB_err2 {h:Hdr} {L:List Fld} (h1:(encH h).2=0) (h2:(encF L).2≠0):openB h L=([],(encF L).2):=by unfold openB;rw [if_neg (by simpa using h1),if_pos h2]
theorem openB_ok {h:Hdr} {L:List Fld} (h1:(encH h).2=0) (h2:(encF L).2=0):openB h L=((encH h).1++(encF L).1,0):=by unfold openB;rw [if_neg (by simpa using h1),if_neg (by simpa using h2)]
theorem encH_len {h:Hdr}:(encH h).1.length≤48:=by unfold encH;split <;> simp [hdrB_length]
theorem encF_len {L:List Fld}:(encF L).1.length≤1232:=by
 by_cases h:(encF L).2=0
 ·obtain ⟨_,_,h3,h4⟩:=encF_ok h
  rw [h4,bytesF_length];exact h3
 ·unfold encF at h ⊢
  split
  ·simp
  ·split
   ·simp
   ·split
    ·simp
    ·rename_i h1 h2 h3;rw [if_neg h1,if_neg h2,if_neg h3] at h;exact absurd rfl h
set_option maxHeartbeats 4000000 in
theorem popen_any (h:Hdr) (a1 a2:Option Addr)(n1 c1 n2 c2:Nat) (gd:Bool) (L:List Fld) (w:World)(hI:Ib w a1 n1 L) (hn:n1≤1000000) (hL:∀ f∈L,f.2.length≤1000000) :
  Calls Tryz.prog 58 #[.agg #[.int .i64 h.leap, .int .i64 h.ver, .int .i64 h.mode, .int .i64 h.strat, .int .i64 h.poll, .int .i64 h.prec, .int .u32 (n32 h.rd), .int .u32 (n32 h.rp), .int .u32 (n32 h.id), .int .u64 (n64 h.ref), .int .u64 (n64 h.org), .int .u64 (n64 h.rcv), .int .u64 (n64 h.tx), .slice a1 n1 c1, .slice a2 n2 c2, .bool gd]] w (Read2 (openB h L).1.length (openB h L).1 (.int .i64 (openB h L).2) w):=by
 have he:=fun W=>pencode_any h W
 have hx:=fun W H=>xencode_any a1 n1 c1 L W H hn hL
 go_enter Tryz.func58,Tryz.ntmps58
 go_wp2_with (first
  | (refine wpList_load_arr (RH13) rfl _ rfl (w.heap.size) (0) rfl ([.int .i64 h.leap, .int .i64 h.ver, .int .i64 h.mode, .int .i64 h.strat, .int .i64 h.poll, .int .i64 h.prec, .int .u32 (n32 h.rd), .int .u32 (n32 h.rp), .int .u32 (n32 h.id), .int .u64 (n64 h.ref), .int .u64 (n64 h.org), .int .u64 (n64 h.rcv), .int .u64 (n64 h.tx)]) ((Rd.left (vs:=[.int .i64 h.leap, .int .i64 h.ver, .int .i64 h.mode, .int .i64 h.strat, .int .i64 h.poll, .int .i64 h.prec, .int .u32 (n32 h.rd), .int .u32 (n32 h.rp), .int .u32 (n32 h.id), .int .u64 (n64 h.ref), .int .u64 (n64 h.org), .int .u64 (n64 h.rcv), .int .u64 (n64 h.tx)]) (us:=[.slice a1 n1 c1, .slice a2 n2 c2, .bool gd]) (Blk.new w #[.int .i64 h.leap, .int .i64 h.ver, .int .i64 h.mode, .int .i64 h.strat, .int .i64 h.poll, .int .i64 h.prec, .int .u32 (n32 h.rd), .int .u32 (n32 h.rp), .int .u32 (n32 h.id), .int .u64 (n64 h.ref), .int .u64 (n64 h.org), .int .u64 (n64 h.rcv), .int .u64 (n64 h.tx), .slice a1 n1 c1, .slice a2 n2 c2, .bool gd] 32).rd)) (rfl) ?_)
  | fail)
 refine nameCl ?_
 intro W hW
 have hE:Ext w W:=by rw [hW];exact eX
 have hB:Blk W w.heap.size 32 [.int .i64 h.leap, .int .i64 h.ver, .int .i64 h.mode, .int .i64 h.strat, .int .i64 h.poll, .int .i64 h.prec, .int .u32 (n32 h.rd), .int .u32 (n32 h.rp), .int .u32 (n32 h.id), .int .u64 (n64 h.ref), .int .u64 (n64 h.org), .int .u64 (n64 h.rcv), .int .u64 (n64 h.tx), .slice a1 n1 c1, .slice a2 n2 c2, .bool gd]:=by rw [hW];exact bK
 clear hW
 (with_reducible refine (he W).mono ?_)
 rintro e w1 ⟨b1,d1,rfl,hS1,hd1,hx1⟩
 have hB1:=hB.extB hx1
 have hE1:=hE.trans hx1
 haveI:=hB1.blt
 have f13:w1.cell? ⟨w.heap.size,13,none⟩=some (.slice a1 n1 c1):=hB1.cell? 13 rfl
 clear he hB hE hx1
 by_cases h0:(encH h).2=0
 ·rw [h0]
  go_wp2_with fail
  (with_reducible refine (hx w1 (hI.ext hE1)).mono ?_)
  rintro e w2 ⟨b2,d2,rfl,hS2,hd2,hx2⟩
  by_cases h1:(encF L).2=0
  ·rw [h1]
   have er:=Lib.hid (openB_ok h0 h1)
   have hl1:=encH_len (h:=h)
   have hl2:=encF_len (L:=L)
   generalize (encH h).1=B1 at *
   generalize (encF L).1=B2 at *
   clear h0 h1 hx f13
   have hS1:=hS1.ext hx2
   have hj:joinL [B1,B2]=B1++B2:=joinL2 _ _
   have hjl:(joinL [B1,B2]).length=B1.length+B2.length:=by rw [hj,List.length_append]
   have HJ:=Lib.hid hj
   clear hj
   go_wp2_with fail
   (with_reducible refine (ojoin_any _ _ _ [B1,B2] _ (bss2 (hS1.ext eX) (hS2.ext eX) _) (by omega) (B1.length+B2.length) hjl (by omega)).mono ?_)
   rintro e w3 ⟨a3,c3,rfl,hO3,hx3⟩
   rw [HJ.out] at hO3
   go_wp2_with fail
   go_ret2
   rw [er.out]
   show Read2 (B1++B2).length _ _ _ _ _
   rw [List.length_append]
   exact ⟨a3,c3,rfl,hO3.sl,hO3.le.1,(hE1.trans hx2).trans ((Ext.of_alloc _ _).trans hx3)⟩
  ·have er:=Lib.hid (openB_err2 h0 h1)
   have hI:=ne0 h1
   generalize (encF L).2=v at *
   clear h0 h1 hx f13
   go_wp2_with fail
   go_ret2
   rw [er.out]
   exact read2_err _ _ _ (hE1.trans hx2)
 ·have er:=Lib.hid (openB_err (L:=L) h0)
  have hI:=ne0 h0
  generalize (encH h).2=v at *
  clear h0 hx f13
  go_wp2_with fail
  go_ret2
  rw [er.out]
  exact read2_err _ _ _ hE1
theorem pnonced_any (n:Nat) {nI:Int} (hn:nI=(n:Int)) (w:World) :
  Calls Tryz.prog 59 #[.int .i64 nI] w fun e w'=>e = .returned (.bool (decide (16≤n∧n≤32)))∧Ext w w':=by
 subst hn
 obtain ⟨d,hd⟩:∃ d,decide (16≤n∧n≤32)=d:=⟨_,rfl⟩
 rw [hd]
 by_cases h1:16≤n
 ·have i1:(16:Int)≤(n:Int):=by omega
  by_cases h2:n≤32
  ·have i2:(n:Int)≤32:=by omega
   have e:=Lib.hid (show d=true by rw [← hd];exact decide_eq_true ⟨h1,h2⟩)
   clear h1 h2 hd
   go_enter Tryz.func59,Tryz.ntmps59
   go_wp2
   go_ret
   exact ⟨by rw [e.out];rfl,eX⟩
  ·have i2:¬ (n:Int)≤32:=by omega
   have e:=Lib.hid (show d=false by rw [← hd];exact decide_eq_false fun h=>h2 h.2)
   clear h1 h2 hd
   go_enter Tryz.func59,Tryz.ntmps59
   go_wp2
   go_ret
   exact ⟨by rw [e.out];rfl,eX⟩
 ·have i1:¬ (16:Int)≤(n:Int):=by omega
  have e:=Lib.hid (show d=false by rw [← hd];exact decide_eq_false fun h=>h1 h.1)
  clear h1 hd
  go_enter Tryz.func59,Tryz.ntmps59
  go_wp2
  go_ret
  exact ⟨by rw [e.out];rfl,eX⟩
theorem ppadded_any (n:Nat) {nI:Int} (hn:nI=(n:Int)) (w:World)(h:n≤1000000000) :
  Calls Tryz.prog 94 #[.int .i64 nI] w fun e w'=>e = .returned (.int .i64 ((pad4 n:Nat):Int))∧Ext w w':=by
 subst hn
 have e:((n:Int)+4-1) / 4*4=(pad4 n:Nat):=by unfold pad4;omega
 go_enter Tryz.func94,Tryz.ntmps94
 go_wp2
 go_ret
 exact ⟨by rw [← e];rfl,eX⟩
theorem padL4 (l:List UInt8):padL l 4=l++List.replicate (pad4 l.length-l.length) 0:=by
 unfold padL padN pad4
 rw [if_pos (by omega)]
 congr 2
 omega
theorem padL4_length (l:List UInt8):(padL l 4).length=pad4 l.length:=by
 rw [padL4,List.length_append,List.length_replicate];unfold pad4;omega
set_option maxHeartbeats 2000000 in
theorem opad4_any (a:Option Addr)(n c:Nat) (l:List UInt8)(w:World)(h:Sl w a n l) (hn:n≤1000000) :
  Calls Tryz.prog 107 #[.slice a n c, .int .i64 4] w (Fresh (pad4 n) (padL l 4) w):=by
 have hl:=h.len
 have hp:=Lib.hid (padL4 l)
 have hcl:=fun W H=>clone_any a n c l W H (by omega)
 go_enter Tryz.func107,Tryz.ntmps107
 go_wp2_with fail
 (with_reducible refine (hcl w h).mono ?_)
 rintro e w1 ⟨a1,c1,rfl,hO1,hx1⟩
 go_wp2_with fail
 go_loopw [5] (fun v5 wr=>∃ (m:Nat) (sa:Option Addr)(sc:Nat),n≤m∧m≤pad4 n∧v5 = .slice sa m sc∧Own wr w.heap.size sa m sc (l++List.replicate (m-n) 0)∧Ext w wr) (fun v5 _=>match v5 with | .slice _ m _=>pad4 n-m|_=>0)
 case atStart=>exact ⟨n,a1,c1,Nat.le_refl _,by unfold pad4;omega,rfl,by simpa using hO1,hx1⟩
 case round =>
  obtain ⟨m,sa,sc,hm0,hm1,rfl,hO,hx⟩:=hrel
  by_cases hlt:m<pad4 n
  ·have hmod:((m:Int) % 4 != 0)=true:=by rw [bne_iff_ne];unfold pad4 at hlt;omega
   have HS:=Lib.hid (show m+1-n=(m-n)+1 by omega)
   go_wp2_with (at_builtin;refine wpList_append_by U rfl _ _ rfl w.heap.size sa _ sc _ rfl _ 1 1 _ rfl (hO.ext eX) (sl_new1 _ 0 _) (by unfold pad4 at hm1;omega) (by simp;have:=hx.size;omega) ?_;intro sa2 sc2 w2 hO2 hg2 hB2)
   go_roundw
   case rel=>exact ⟨m+1,sa2,sc2,by omega,by omega,rfl,by rw [HS.out,List.replicate_succ',← List.append_assoc];exact hO2,Below.trans (b:=wr.alloc _) eX hB2⟩
   case measure=>show pad4 n-(m+1)<pad4 n-m;omega
  ·obtain rfl:m=pad4 n:=by omega
   have hmod:(((pad4 n:Nat):Int) % 4 != 0)=false:=by rw [bne_eq_false_iff_eq];unfold pad4;omega
   have hq:=Lib.hid (show l++List.replicate (pad4 n-n) 0=padL l 4 by rw [hp.out,hl])
   go_wp2
   go_ret
   exact ⟨_,_,rfl,by rw [← hq.out];exact hO,hx⟩
theorem guardB_length (n s:List UInt8):(guardB n s).length=4+pad4 n.length+pad4 s.length:=by
 simp only [guardB,List.length_append,putL_length,padL4_length];omega
set_option maxHeartbeats 4000000 in
theorem pgbytes_any (a1 a2:Option Addr)(n1 c1 n2 c2:Nat) (u v:List UInt8)(w:World)(h1:Sl w a1 n1 u) (h2:Sl w a2 n2 v) (m1:n1≤1000000) (m2:n2≤1000000) :
  Calls Tryz.prog 63 #[.agg #[.slice a1 n1 c1, .slice a2 n2 c2]] w (Fresh (4+pad4 n1+pad4 n2) (guardB u v) w):=by
 have l1:=h1.len
 have l2:=h2.len
 have hv1:IntKind.u64.wrap (n1:Int)=n64 (UInt64.ofNat n1):=by rw [IntKind.wrap_u64];unfold n64;rw [UInt64.toNat_ofNat'];omega
 have hv2:IntKind.u64.wrap (n2:Int)=n64 (UInt64.ofNat n2):=by rw [IntKind.wrap_u64];unfold n64;rw [UInt64.toNat_ofNat'];omega
 have hpa:=fun W=>oput_any (UInt64.ofNat n1) 2 hv1 (show (2:Int)=((2:Nat):Int) from rfl) W (by omega)
 have hpb:=fun W=>oput_any (UInt64.ofNat n2) 2 hv2 (show (2:Int)=((2:Nat):Int) from rfl) W (by omega)
 have hG:joinL [putL 2 (UInt64.ofNat n1),putL 2 (UInt64.ofNat n2),padL u 4,padL v 4]=guardB u v:=by unfold guardB;rw [joinL4,l1,l2]
 have hGl:(joinL [putL 2 (UInt64.ofNat n1),putL 2 (UInt64.ofNat n2),padL u 4,padL v 4]).length=4+pad4 n1+pad4 n2:=by rw [hG,guardB_length,l1,l2]
 have HG:=Lib.hid hG
 clear hG hv1 hv2 l1 l2
 go_enter Tryz.func63,Tryz.ntmps63
 go_wp2_with fail
 refine nameW ?_
 intro W hW
 have hE:Ext w W:=by rw [hW];exact eX
 have hB:Blk W w.heap.size 86 [.slice a1 n1 c1, .slice a2 n2 c2]:=by rw [hW];exact bK
 clear hW
 have h1:=h1.ext hE
 have h2:=h2.ext hE
 haveI:=hB.blt
 have f0:=hB.cell? 0 rfl
 have f1:W.cell? ⟨w.heap.size,1,none⟩=some (.slice a2 n2 c2):=hB.cell? 1 rfl
 refine wp_region_vague 16 [[],[0],[0,1],[0,1,2],[0,1,2,3],[],[5],[5,6],[5,6,7],[0,1,2,3,4,5,6,7,8],[],[10],[0,1,2,3,4,5,6,7,8,9,10,11],[],[13],[0,1,2,3,4,5,6,7,8,9,10,11,12,13,14],[0,1,2,3,4,5,6,7,8,9,10,11,12,13,14,15],[0,1,2,3,4,5,6,7,8,9,10,11,12,13,14,15,16],[0,1,2,3,4,5,6,7,8,9,10,11,12,13,14,15,16,17]] (by kernel_rfl) (by kernel_rfl) (by kernel_rfl) (by kernel_rfl) ?_;simp only [q8q,q9q,q10q,q11q,q12q,q13q]
 (repeat (refine VD_a ?_;(try simp only [Act.put,q0q,q1q,q2q])))
 (refine VD_vag (fun p => .slice (p 0).1 (2) (p 0).2) (fun p w''=>Own w'' 0 (p 0).1 (2) (p 0).2 (putL 2 (UInt64.ofNat n1))) (fun p w w' h hx=>h.ext hx) (fun us w' hx hf=>⟨rfl,?_⟩) ?_;(unfold gives;simp [go_sem,execOp];exact vag_fresh (Nat.zero_le _) (hpa _)))
 (repeat (refine VD_a ?_;(try simp only [Act.put,q0q,q1q,q2q])))
 (refine VD_vag (fun p => .slice (p 0).1 (2) (p 0).2) (fun p w''=>Own w'' 0 (p 0).1 (2) (p 0).2 (putL 2 (UInt64.ofNat n2))) (fun p w w' h hx=>h.ext hx) (fun us w' hx hf=>⟨rfl,?_⟩) ?_;(unfold gives;simp [go_sem,execOp];exact vag_fresh (Nat.zero_le _) (hpb _)))
 (repeat (refine VD_a ?_;(try simp only [Act.put,q0q,q1q,q2q])))
 (refine VD_vag (fun p => .slice (p 0).1 (pad4 n1) (p 0).2) (fun p w''=>Own w'' 0 (p 0).1 (pad4 n1) (p 0).2 (padL u 4)) (fun p w w' h hx=>h.ext hx) (fun us w' hx hf=>⟨rfl,?_⟩) ?_;(unfold gives;simp [go_sem,execOp];exact vag_fresh (Nat.zero_le _) (opad4_any a1 n1 c1 u _ (h1.ext hx) m1)))
 (repeat (refine VD_a ?_;(try simp only [Act.put,q0q,q1q,q2q])))
 (refine VD_vag (fun p => .slice (p 0).1 (pad4 n2) (p 0).2) (fun p w''=>Own w'' 0 (p 0).1 (pad4 n2) (p 0).2 (padL v 4)) (fun p w w' h hx=>h.ext hx) (fun us w' hx hf=>⟨rfl,?_⟩) ?_;(unfold gives;simp [go_sem,execOp];exact vag_fresh (Nat.zero_le _) (opad4_any a2 n2 c2 v _ (h2.ext hx) m2)))
 (refine VD_z ?_;intro us x hx hf;(try simp only [Act.put,q0q,q1q,q2q,wpList_none]);(try simp only [q3q,q4q,or_false,forall_eq_or_imp,forall_eq,q5q,q6q,q7q,false_or,true_and,and_true] at hf);(try simp only [Nat.reduceAdd,Nat.zero_add] at hf ⊢))
 obtain ⟨hO1,hO2,hO3,hO4⟩:=hf
 obtain ⟨p1,hp1⟩:∃ a,(us 4 0).1=a:=⟨_,rfl⟩
 obtain ⟨q1,hq1⟩:∃ a,(us 4 0).2=a:=⟨_,rfl⟩
 obtain ⟨p2,hp2⟩:∃ a,(us 9 0).1=a:=⟨_,rfl⟩
 obtain ⟨q2,hq2⟩:∃ a,(us 9 0).2=a:=⟨_,rfl⟩
 obtain ⟨p3,hp3⟩:∃ a,(us 12 0).1=a:=⟨_,rfl⟩
 obtain ⟨q3,hq3⟩:∃ a,(us 12 0).2=a:=⟨_,rfl⟩
 obtain ⟨p4,hp4⟩:∃ a,(us 15 0).1=a:=⟨_,rfl⟩
 obtain ⟨q4,hq4⟩:∃ a,(us 15 0).2=a:=⟨_,rfl⟩
 rw [hp1,hq1] at hO1 ⊢
 rw [hp2,hq2] at hO2 ⊢
 rw [hp3,hq3] at hO3 ⊢
 rw [hp4,hq4] at hO4 ⊢
 clear hp1 hq1 hp2 hq2 hp3 hq3 hp4 hq4 f0 f1 hpa hpb
 have hx5:Ext W (W.ext x):=Ext.of_ext _ _
 have s1:=hO1.sl
 have s2:=hO2.sl
 have s3:=hO3.sl
 have s4:=hO4.sl
 generalize W.ext x=W5 at *
 go_wp2_with fail
 (with_reducible refine (ojoin_any _ _ _ _ _ (bss4 s1 s2 s3 s4 _) (by omega) _ hGl (by unfold pad4;omega)).mono ?_)
 rintro e w9 ⟨a9,c9,rfl,hO9,hx9⟩
 rw [HG.out] at hO9
 go_wp2_with fail
 go_ret
 have hx8:=(hE.trans hx5).trans ((Ext.of_alloc _ _).trans hx9)
 exact ⟨a9,c9,rfl,hO9.mono (Nat.le_trans (hE.trans hx5).size (Ext.of_alloc _ _).size),hx8⟩
end Go.Proofs.YtdmifbfgeeldnaaGreat

/- The walks of layer 18: Protect. -/
namespace Go.Pkt
open Go.Aes Go.Oct
theorem _root_.z32q80{p:Prop}(h:p:=by
 unfold checkA
 rw [if_neg (by omega),if_neg (by simp),if_neg (by unfold longA;simp;omega)]):p:=h
theorem seal2 {ky b n p:List UInt8} (h:ky.length=32) (hb:b.length≤65519) (hn:n.length≤65519) (hp:p.length≤65519):(sealE ky [b,n] p).2=0∧(sealE ky [b,n] p).1.length=16+p.length:=by
 have hc:checkA ky [b,n]=0:=by
  exact z32q80
 have ht:=tagE_ok hc hp
 have h2:(tagE ky [b,n] p).2=0:=by rw [ht]
 have hl:=(tagE_len h2).1
 unfold sealE
 rw [if_neg (by simpa using h2)]
 refine ⟨rfl,?_⟩
 rw [List.length_append,hl,stream_length]
theorem openB_len (h:Hdr) (L:List Fld):(openB h L).1.length≤1280:=by
 unfold openB
 have h1:(encH h).1.length≤48:=by unfold encH;split <;> simp [hdrB_length]
 split
 ·simp
 ·split
  ·simp
  ·rename_i h2
   obtain ⟨_,_,h3,h4⟩:=encF_ok (by simpa using h2)
   rw [List.length_append,h4,bytesF_length];omega
def lastF (ky:List UInt8)(p:Pkt) (nonce:List UInt8):List UInt8 × Int:=encF [(1028,guardB nonce (sealE ky [(openB p.h p.plain).1,nonce] (encF p.secret).1).1)]
theorem protE_at {ky nonce:List UInt8} {p:Pkt} (h1:ky.length=32) (h2:¬ (nonce.length<16∨32<nonce.length)) (h3:(openB p.h p.plain).2=0) (h4:(encF p.secret).2=0) :
  protE ky p nonce=if ixs 1028 p.plain p.plain.length≠[] then ([],3) else if 24≤p.plain.length then ([],8)
   else if (lastF ky p nonce).2≠0∨1280<(openB p.h p.plain).1.length+(lastF ky p nonce).1.length then ([],2) else ((openB p.h p.plain).1++(lastF ky p nonce).1,0):=by
 unfold protE lastF
 rw [if_neg (by omega),if_neg h2,if_neg (by simpa using h3),if_neg (by simpa using h4)]
theorem protE_key {ky nonce:List UInt8} {p:Pkt} (h1:ky.length≠32):protE ky p nonce=([],5):=if_pos h1
theorem protE_nonce {ky nonce:List UInt8} {p:Pkt} (h1:ky.length=32) (h2:nonce.length<16∨32<nonce.length):protE ky p nonce=([],4):=by
 unfold protE;rw [if_neg (by omega),if_pos h2]
theorem protE_open {ky nonce:List UInt8} {p:Pkt} (h1:ky.length=32) (h2:¬ (nonce.length<16∨32<nonce.length)) (h3:(openB p.h p.plain).2≠0):protE ky p nonce=([],(openB p.h p.plain).2):=by
 unfold protE;rw [if_neg (by omega),if_neg h2,if_pos h3]
theorem protE_secret {ky nonce:List UInt8} {p:Pkt} (h1:ky.length=32) (h2:¬ (nonce.length<16∨32<nonce.length)) (h3:(openB p.h p.plain).2=0) (h4:(encF p.secret).2≠0):protE ky p nonce=([],(encF p.secret).2):=by
 unfold protE;rw [if_neg (by omega),if_neg h2,if_neg (by simpa using h3),if_pos h4]
end Go.Pkt
namespace Go.Proofs.YtdmifbfgeeldnaaGreat
open Go.RowKit Go.Sec Go.Oct Go.Pkt Go.Aes BigFrame
set_option maxHeartbeats 2000000 in
theorem pprotect_any (ak an a1 a2:Option Addr)(nk ck nn cn n1 c1 n2 c2:Nat) (p:Pkt) (ky nonce:List UInt8)(w:World)(hk:Sl w ak nk ky) (hck:nk≤ck) (hnn:Sl w an nn nonce) (hcn:nn≤cn) (hn:nn≤1000000)
  (hI1:Ib w a1 n1 p.plain) (hn1:n1≤1000000) (hL1:∀ f∈p.plain,f.2.length≤1000000) (hI2:Ib w a2 n2 p.secret) (hn2:n2≤1000000) (hL2:∀ f∈p.secret,f.2.length≤1000000) :
  Calls Tryz.prog 21 #[.slice ak nk ck, .agg #[.int .i64 p.h.leap, .int .i64 p.h.ver, .int .i64 p.h.mode, .int .i64 p.h.strat, .int .i64 p.h.poll, .int .i64 p.h.prec, .int .u32 (n32 p.h.rd), .int .u32 (n32 p.h.rp), .int .u32 (n32 p.h.id), .int .u64 (n64 p.h.ref), .int .u64 (n64 p.h.org), .int .u64 (n64 p.h.rcv), .int .u64 (n64 p.h.tx), .slice a1 n1 c1, .slice a2 n2 c2, .bool p.guarded], .slice an nn cn] w (Read2 (protE ky p nonce).1.length (protE ky p nonce).1 (.int .i64 (protE ky p nonce).2) w):=by
 have lk:=hk.len
 have ln:=hnn.len
 have l1:=hI1.len
 have ho:=fun W H=>popen_any p.h a1 a2 n1 c1 n2 c2 p.guarded p.plain W H hn1 hL1
 have hs:=fun W H=>xencode_any a2 n2 c2 p.secret W H hn2 hL2
 obtain ⟨r,hr⟩:∃ r,protE ky p nonce=r:=⟨_,rfl⟩
 rw [hr]
 have hr:=Lib.hid hr
 by_cases q1:nk=32
 ·by_cases q2:16≤nn∧nn≤32
  ·have hno:=fun W=>pnonced_any nn rfl W
   rw [decide_eq_true q2] at hno
   have q1':ky.length=32:=by omega
   have q2':¬ (nonce.length<16∨32<nonce.length):=by omega
   subst q1
   go_enter Tryz.func21,Tryz.ntmps21
   go_wp2_with (first
    | (go_at_call 59;refine (hno _).mono ?_;rintro e w1 ⟨rfl,hxq⟩;obtain ⟨xq,rfl⟩:=hxq.out;clear hxq)
    | (refine wpList_load_arr (RP16) rfl _ rfl (w.heap.size) (0) rfl ([.int .i64 p.h.leap, .int .i64 p.h.ver, .int .i64 p.h.mode, .int .i64 p.h.strat, .int .i64 p.h.poll, .int .i64 p.h.prec, .int .u32 (n32 p.h.rd), .int .u32 (n32 p.h.rp), .int .u32 (n32 p.h.id), .int .u64 (n64 p.h.ref), .int .u64 (n64 p.h.org), .int .u64 (n64 p.h.rcv), .int .u64 (n64 p.h.tx), .slice a1 n1 c1, .slice a2 n2 c2, .bool p.guarded]) (((Blk.new w #[.int .i64 p.h.leap, .int .i64 p.h.ver, .int .i64 p.h.mode, .int .i64 p.h.strat, .int .i64 p.h.poll, .int .i64 p.h.prec, .int .u32 (n32 p.h.rd), .int .u32 (n32 p.h.rp), .int .u32 (n32 p.h.id), .int .u64 (n64 p.h.ref), .int .u64 (n64 p.h.org), .int .u64 (n64 p.h.rcv), .int .u64 (n64 p.h.tx), .slice a1 n1 c1, .slice a2 n2 c2, .bool p.guarded] 32).extB eX).rd) (rfl) ?_)
    | fail)
   refine nameCl ?_
   intro W hW
   have hE:Ext w W:=by rw [hW];exact eX
   have hB:Blk W w.heap.size 32 [.int .i64 p.h.leap, .int .i64 p.h.ver, .int .i64 p.h.mode, .int .i64 p.h.strat, .int .i64 p.h.poll, .int .i64 p.h.prec, .int .u32 (n32 p.h.rd), .int .u32 (n32 p.h.rp), .int .u32 (n32 p.h.id), .int .u64 (n64 p.h.ref), .int .u64 (n64 p.h.org), .int .u64 (n64 p.h.rcv), .int .u64 (n64 p.h.tx), .slice a1 n1 c1, .slice a2 n2 c2, .bool p.guarded]:=by rw [hW];exact bK
   clear hW hno
   (with_reducible refine (ho W (hI1.ext hE)).mono ?_)
   rintro e w1 ⟨b1,d1,rfl,hS1,hd1,hx1⟩
   have hE1:=hE.trans hx1
   have hB1:=hB.extB hx1
   haveI:=hB1.blt
   have f13:w1.cell? ⟨w.heap.size,13,none⟩=some (.slice a1 n1 c1):=hB1.cell? 13 rfl
   have f14:w1.cell? ⟨w.heap.size,14,none⟩=some (.slice a2 n2 c2):=hB1.cell? 14 rfl
   have hbl:=openB_len p.h p.plain
   clear hE hB hx1 ho
   by_cases q3:(openB p.h p.plain).2=0
   ·rw [q3]
    go_wp2_with fail
    clear f13 f14
    (with_reducible refine (hs w1 (hI2.ext hE1)).mono ?_)
    rintro e w2 ⟨b2,d2,rfl,hS2,hd2,hx2⟩
    have hE2:=hE1.trans hx2
    have hB2:=hB1.extB hx2
    have hS1:=hS1.ext hx2
    haveI:=hB2.blt
    have f13:w2.cell? ⟨w.heap.size,13,none⟩=some (.slice a1 n1 c1):=hB2.cell? 13 rfl
    clear hE1 hB1 hx2 hs
    by_cases q4:(encF p.secret).2=0
    ·rw [q4]
     have hat:=Lib.hid (protE_at q1' q2' q3 q4)
     have hsl:(encF p.secret).1.length≤1232:=encF_len
     have hfi:=fun W H=>xfind_any 1028 a1 n1 c1 p.plain W H hn1
     go_wp2_with fail
     clear f13
     (with_reducible refine (hfi w2 (hI1.ext hE2)).mono ?_)
     rintro e w3 ⟨b3,d3,rfl,hO3,hx3⟩
     have hE3:=hE2.trans hx3
     have hB3:=hB2.extB hx3
     have hS1:=hS1.ext hx3
     have hS2:=hS2.ext hx3
     haveI:=hB3.blt
     have f13:w3.cell? ⟨w.heap.size,13,none⟩=some (.slice a1 n1 c1):=hB3.cell? 13 rfl
     clear hE2 hB2 hx3 hfi hO3
     by_cases q5:ixs 1028 p.plain p.plain.length=[]
     ·have i5:(ixs 1028 p.plain p.plain.length).length=0:=by rw [q5];rfl
      have hat:=Lib.hid (show r=if 24≤p.plain.length then ([],8) else if (lastF ky p nonce).2≠0∨1280<(openB p.h p.plain).1.length+(lastF ky p nonce).1.length then ([],2) else ((openB p.h p.plain).1++(lastF ky p nonce).1,0) by
       rw [← hr.out,hat.out,if_neg (by rw [q5];simp)])
      rw [i5]
      clear q5 i5
      by_cases q6:24≤n1
      ·have er:=Lib.hid (show r=([],8) by rw [hat.out,if_pos (by omega)])
       have i6:(24:Int)≤(n1:Int):=by omega
       go_wp2_with fail
       go_ret2
       rw [er.out]
       exact read2_err _ _ _ hE3
      ·have i6:¬ (24:Int)≤(n1:Int):=by omega
       have hat:=Lib.hid (show r=if (lastF ky p nonce).2≠0∨1280<(openB p.h p.plain).1.length+(lastF ky p nonce).1.length then ([],2) else ((openB p.h p.plain).1++(lastF ky p nonce).1,0) by
        rw [hat.out,if_neg (by omega)])
       obtain ⟨z1,z2⟩:=seal2 (b:=(openB p.h p.plain).1) (n:=nonce) (p:=(encF p.secret).1) q1' (by omega) (by omega) (by omega)
       unfold lastF at hat
       have hse:=fun b' c' W H1 H2 H3=>seal_any ak b' b2 32 ck 2 c' (encF p.secret).1.length d2 ky [(openB p.h p.plain).1,nonce] (encF p.secret).1 W H1 hck H2 (by omega) H3 hd2
       rw [z1] at hse
       generalize (openB p.h p.plain).1=B1 at *
       generalize (encF p.secret).1=B2 at *
       generalize (sealE ky [B1,nonce] B2).1=S3 at *
       clear q3 q4 q6 z1
       replace z2:=Lib.hid z2
       go_wp2_with fail
       clear f13
       (with_reducible refine (hse _ _ _ (hk.ext (hE3.trans (Ext.of_alloc _ _))) (bsc2 hS1 hd1 (hnn.ext hE3) hcn _) (hS2.ext (Ext.of_alloc _ _))).mono ?_)
       rintro e w4 ⟨b4,d4,rfl,hS4,hd4,hx4⟩
       have hx4:Ext w3 w4:=(Ext.of_alloc _ _).trans hx4
       have hE4:=hE3.trans hx4
       have hS1:=hS1.ext hx4
       clear hE3 hx4 hse
       go_wp2_with fail
       (with_reducible refine (pgbytes_any an b4 nn cn S3.length d4 nonce S3 _ (hnn.ext hE4) hS4 hn (by rw [z2.out];omega)).mono ?_)
       rintro e w5 ⟨b5,d5,rfl,hO5,hx5⟩
       have hE5:=hE4.trans hx5
       have hS1:=hS1.ext hx5
       have hS5:=hO5.sl
       have hle5:=hO5.le.1
       have hGl:=guardB_length nonce S3
       have hlen:=hS5.len
       rw [← hlen] at hS5 hle5 ⊢
       clear hlen
       have hxe:=fun a' c' W H=>xencode_any a' 1 c' [(1028,guardB nonce S3)] W H (by omega) (by intro f hf;rw [List.mem_singleton.1 hf];show (guardB nonce S3).length≤1000000;rw [hGl];have:=z2.out;unfold pad4;omega)
       generalize guardB nonce S3=G at *
       clear hE4 hx5 hO5 hS4 hd4 hGl
       go_wp2_with fail
       (with_reducible refine (hxe _ _ _ (ib1 hS5 hle5 1028 _)).mono ?_)
       rintro e w6 ⟨b6,d6,rfl,hS6,hd6,hx6⟩
       have hx6:Ext w5 w6:=(Ext.of_alloc _ _).trans hx6
       have hE6:=hE5.trans hx6
       have hS1:=hS1.ext hx6
       clear hE5 hx6 hxe hS5
       have hfl:=encF_len (L:=[(1028,G)])
       by_cases q7:(encF [(1028,G)]).2=0
       ·rw [q7]
        by_cases q8:1280<B1.length+(encF [(1028,G)]).1.length
        ·have er:=Lib.hid (show r=([],2) by rw [hat.out,if_pos (.inr q8)])
         generalize (encF [(1028,G)]).1=B6 at *
         have i8:(1280:Int)<(B1.length:Int)+(B6.length:Int):=by omega
         go_wp2_with fail
         go_ret2
         rw [er.out]
         exact read2_err _ _ _ hE6
        ·have er:=Lib.hid (show r=(B1++(encF [(1028,G)]).1,0) by rw [hat.out,if_neg (fun h=>h.elim (fun h=>h q7) q8)])
         clear hat q7
         generalize (encF [(1028,G)]).1=B6 at *
         have i8:¬ (1280:Int)<(B1.length:Int)+(B6.length:Int):=by omega
         have hj:joinL [B1,B6]=B1++B6:=joinL2 _ _
         have hjl:(joinL [B1,B6]).length=B1.length+B6.length:=by rw [hj,List.length_append]
         have HJ:=Lib.hid hj
         clear hj
         go_wp2_with fail
         (with_reducible refine (ojoin_any _ _ _ [B1,B6] _ (bss2 (hS1.ext eX) (hS6.ext eX) _) (by omega) (B1.length+B6.length) hjl (by omega)).mono ?_)
         rintro e w7 ⟨b7,d7,rfl,hO7,hx7⟩
         rw [HJ.out] at hO7
         go_wp2_with fail
         go_ret2
         rw [er.out]
         show Read2 (B1++B6).length _ _ _ _ _
         rw [List.length_append]
         exact ⟨b7,d7,rfl,hO7.sl,hO7.le.1,hE6.trans ((Ext.of_alloc _ _).trans hx7)⟩
       ·have er:=Lib.hid (show r=([],2) by rw [hat.out,if_pos (.inl q7)])
        have i7:=ne0 q7
        generalize (encF [(1028,G)]).2=v at *
        generalize (encF [(1028,G)]).1=B6 at *
        go_wp2_with fail
        go_ret2
        rw [er.out]
        exact read2_err _ _ _ hE6
     ·have er:=Lib.hid (show r=([],3) by rw [← hr.out,hat.out,if_pos q5])
      have i5:(0:Int)<((ixs 1028 p.plain p.plain.length).length:Int):=by have:=List.length_pos_iff.2 q5;omega
      generalize (ixs 1028 p.plain p.plain.length).length=n5 at *
      clear q5 hat
      go_wp2_with fail
      go_ret2
      rw [er.out]
      exact read2_err _ _ _ hE3
    ·have er:=Lib.hid (show r=([],(encF p.secret).2) by rw [← hr.out];exact protE_secret q1' q2' q3 q4)
     have i4:=ne0 q4
     generalize (encF p.secret).2=v at *
     clear q3 q4 f13
     go_wp2_with fail
     go_ret2
     rw [er.out]
     exact read2_err _ _ _ hE2
   ·have er:=Lib.hid (show r=([],(openB p.h p.plain).2) by rw [← hr.out];exact protE_open q1' q2' q3)
    have i3:=ne0 q3
    generalize (openB p.h p.plain).2=v at *
    clear q3 f13 f14
    go_wp2_with fail
    go_ret2
    rw [er.out]
    exact read2_err _ _ _ hE1
  ·have hno:=fun W=>pnonced_any nn rfl W
   rw [decide_eq_false q2] at hno
   have i1:((nk:Int) != 32)=false:=by rw [bne_eq_false_iff_eq];omega
   have er:=Lib.hid (show r=([],4) by rw [← hr.out];exact protE_nonce (by omega) (by omega))
   have q1:=Lib.hid q1
   clear lk ln q2
   go_enter Tryz.func21,Tryz.ntmps21
   go_wp2_with (first
    | (go_at_call 59;refine (hno _).mono ?_;rintro e w1 ⟨rfl,hxq⟩;obtain ⟨xq,rfl⟩:=hxq.out;clear hxq)
    | fail)
   go_ret2
   rw [er.out]
   exact read2_err _ _ _ eX
 ·have er:=Lib.hid (show r=([],5) by rw [← hr.out];exact protE_key (by omega))
  have i1:((nk:Int) != 32)=true:=by rw [bne_iff_ne];omega
  clear lk ln q1
  go_enter Tryz.func21,Tryz.ntmps21
  go_wp2_with fail
  go_ret2
  rw [er.out]
  exact read2_err _ _ _ eX
end Go.Proofs.YtdmifbfgeeldnaaGreat

/- The walks of layer 22: Question. -/
namespace Go.Jar
open Go.Pkt
def plainQ (u c:List UInt8)(k:Nat):List Fld:=[((260:Int),u),(516,c)]++List.replicate k ((772:Int),List.replicate 104 0)
theorem plainQ_length (u c:List UInt8)(k:Nat):(plainQ u c k).length=2+k:=by simp [plainQ];omega
theorem plainQ_succ (u c:List UInt8)(k:Nat):plainQ u c (k+1)=plainQ u c k++[((772:Int),List.replicate 104 0)]:=by simp only [plainQ,List.replicate_succ',List.append_assoc]
theorem plainQ_in {u c:List UInt8} {k:Nat} {f:Fld} (h:f∈plainQ u c k):f=(260,u)∨f=(516,c)∨f=(772,List.replicate 104 0):=by
 unfold plainQ at h
 rcases List.mem_append.1 h with h|h
 ·simp only [q3q,q4q,or_false] at h;rcases h with h|h
  ·exact .inl h
  ·exact .inr (.inl h)
 ·exact .inr (.inr (List.eq_of_mem_replicate h))
def pktQ (t:UInt64) (u c:List UInt8)(k:Nat):Pkt:=⟨askH t,plainQ u c k,[],false⟩
def quesJ (j:Jar) (t:UInt64) (u nn:List UInt8):(Jar × List UInt8) × Int :=
 if validJ j=true∧u.length=32∧nn.length=16 then
  (if (takeJ j).2=0 then
   (if (protE (takeJ j).1.1.up (pktQ t u (takeJ j).1.2 (7-(takeJ j).1.1.ck.length)) nn).2=0 then (((takeJ j).1.1,(protE (takeJ j).1.1.up (pktQ t u (takeJ j).1.2 (7-(takeJ j).1.1.ck.length)) nn).1),0)
    else ((zeroJ,[]),(protE (takeJ j).1.1.up (pktQ t u (takeJ j).1.2 (7-(takeJ j).1.1.ck.length)) nn).2))
   else ((zeroJ,[]),(takeJ j).2))
 else ((zeroJ,[]),3)
theorem takeJ_ok {j:Jar} (hv:validJ j=true) (h:(takeJ j).2=0):(takeJ j).1.1.ck.length≤7∧(takeJ j).1.2.length=104∧(takeJ j).1.1.up.length=32:=by
 unfold takeJ at h ⊢
 rw [if_pos hv] at h ⊢
 have hh:=hv
 unfold validJ at hh
 rw [Bool.and_eq_true,Bool.and_eq_true] at hh
 obtain ⟨h1,h2,_⟩:=hh
 have h1:headJ j:=of_decide_eq_true h1
 by_cases q:j.ck.length=0
 ·rw [if_pos q] at h;exact absurd h (by decide)
 ·rw [if_neg q] at h ⊢
  by_cases q2:j.sent=1099511627776
  ·rw [if_pos q2] at h;exact absurd h (by decide)
  ·rw [if_neg q2]
   cases hc:j.ck with
   | nil=>rw [hc] at q;exact absurd rfl q
   | cons y L =>
    have h3:=h1.2.1
    rw [hc,List.length_cons] at h3
    have h4:=List.all_eq_true.1 h2 y (by rw [hc];exact List.mem_cons_self ..)
    refine ⟨by show L.length≤7;omega,by simpa using h4,h1.1.1⟩
end Go.Jar
namespace Go.Sec
open Go.RowKit
theorem OwnI.two {T:TypeId} {w:World} {base g m1 c1 m2 c2:Nat} {id1 id2:Int} {g1 g2:Option Addr} {l1 l2:List UInt8} (hB:Blk w g T [.int .i64 id1, .slice g1 m1 c1, .int .i64 id2, .slice g2 m2 c2]) (hb:base≤g)
  (h1:Sl w g1 m1 l1) (k1:m1≤c1) (i1:InT T w base g1 m1) (h2:Sl w g2 m2 l2) (k2:m2≤c2) (i2:InT T w base g2 m2):OwnI T w base (some ⟨g,0,none⟩) 2 2 [(id1,l1),(id2,l2)]:=by
 have e1:=h1.len
 have e2:=h2.len
 subst e1 e2
 refine ⟨rfl,[.int .i64 id1, .slice g1 l1.length c1, .int .i64 id2, .slice g2 l2.length c2],⟨rfl, .inr ⟨g,2,#[.int .i64 id1, .slice g1 l1.length c1, .int .i64 id2, .slice g2 l2.length c2],rfl,hb,?_,Nat.le_refl _,by unfold maxLen;omega,rfl,rfl⟩⟩,rfl,fun k hk=>?_⟩
 ·exact hB
 ·match k,hk with
  | 0,_=>exact ⟨g1,c1,rfl,rfl,h1,k1,i1⟩
  | 1,_=>exact ⟨g2,c2,rfl,rfl,h2,k2,i2⟩
def NewJ (T:TypeId)(id:Int) (l:List UInt8)(w:World)(a:Option Addr):Prop:=∃ g ga n cc,a=some ⟨g,0,none⟩∧Rd w a [.int .i64 id, .slice ga n cc]∧Sl w ga n l∧n≤cc∧∀ base,InT T w base ga n
theorem NewJ.ext {T:TypeId} {id:Int} {l:List UInt8} {w w':World} {a:Option Addr} (h:NewJ T id l w a) (hx:Ext w w'):NewJ T id l w' a:=by
 obtain ⟨g,ga,n,cc,h1,h2,h3,h4,h5⟩:=h
 exact ⟨g,ga,n,cc,h1,h2.ext hx,h3.ext hx,h4,fun b=>(h5 b).ext hx⟩
theorem NewJ.mk {T:TypeId} {id:Int} {l:List UInt8} {w:World} {ga:Option Addr} {n cc base:Nat} (h:Own w base ga n cc l) (hT:5≠T):NewJ T id l (w.alloc (.cells #[.int .i64 id, .slice ga n cc] T)) (some ⟨w.heap.size,0,none⟩) :=
 ⟨_,ga,n,cc,rfl,(Blk.new w #[.int .i64 id, .slice ga n cc] T).rd,h.sl.ext (Ext.of_alloc _ _),h.le.1,fun b=>(h.ext (Ext.of_alloc _ _)).inT hT⟩
theorem own_zeros (w:World)(n:Nat) (hn:n≤1000000):Own (w.alloc (.cells (zerosOf (.int .u8 0) n) 5)) 0 (some ⟨w.heap.size,0,none⟩) n n (List.replicate n 0):=by
 have:=Own.of_blk (base:=0) (l:=List.replicate n 0) (blk_zeros8 w n) (Nat.zero_le _) (by rw [List.length_replicate];unfold maxLen;omega)
 rwa [List.length_replicate] at this
end Go.Sec
namespace Go.Proofs.YtdmifbfgeeldnaaGreat
open Go.RowKit Go.Sec Go.Oct Go.Jar Go.Pkt BigFrame
def QuesE (r:(Jar × List UInt8) × Int) (w:World)(e:Ending) (w':World):Prop:=∃ b1 n1 d1 b2 n2 d2 b3 n3 d3 b4 n4 d4 b5 n5 d5,e = .returned (.tuple #[.agg #[.slice b1 n1 d1, .slice b2 n2 d2, .slice b3 n3 d3, .slice b4 n4 d4, .int .i64 r.1.1.net, .int .i64 r.1.1.sent], .slice b5 n5 d5, .int .i64 r.2]) ∧
 Sl w' b1 n1 r.1.1.up∧n1≤d1∧Sl w' b2 n2 r.1.1.dn∧n2≤d2∧Bsc w' b3 n3 r.1.1.ck∧n3≤d3∧Typ3 w' b3∧Sl w' b4 n4 r.1.1.last∧n4≤d4∧Sl w' b5 n5 r.1.2∧n5≤d5∧Ext w w'
theorem QuesE.zero (w w':World)(e:Int) (hx:Ext w w'):QuesE ((zeroJ,[]),e) w (.returned (.tuple #[.agg #[.slice none 0 0, .slice none 0 0, .slice none 0 0, .slice none 0 0, .int .i64 0, .int .i64 0], .slice none 0 0, .int .i64 e])) w' :=
 ⟨none,0,0,none,0,0,none,0,0,none,0,0,none,0,0,rfl,Sl.nil _ _,Nat.le_refl _,Sl.nil _ _,Nat.le_refl _,Bsc.nil _ _,Nat.le_refl _,Typ3.none _,Sl.nil _ _,Nat.le_refl _,Sl.nil _ _,Nat.le_refl _,hx⟩
set_option maxHeartbeats 1000000 in
theorem jques_any (a1 a2 a3 a4 au an:Option Addr)(n1 c1 n2 c2 n3 c3 n4 c4 nu cu nn cn:Nat) (j:Jar) (t:UInt64) (u nc:List UInt8)(w:World)(h1:Sl w a1 n1 j.up) (m1:n1≤1000000) (h2:Sl w a2 n2 j.dn) (m2:n2≤1000000) (h3:Bsc w a3 n3 j.ck) (hc3:n3≤c3) (hn3:n3≤100000) (hb3:∀ x∈j.ck,x.length≤1000000) (h4:Sl w a4 n4 j.last) (m4:n4≤1000000)
  (hu:Sl w au nu u) (hcu:nu≤cu) (hnc:Sl w an nn nc) (hcn:nn≤cn) :
  Calls Tryz.prog 27 #[.agg #[.slice a1 n1 c1, .slice a2 n2 c2, .slice a3 n3 c3, .slice a4 n4 c4, .int .i64 j.net, .int .i64 j.sent], .int .u64 (n64 t), .slice au nu cu, .slice an nn cn] w (QuesE (quesJ j t u nc) w):=by
 have hlu:=hu.len
 have hln:=hnc.len
 have hv:=fun W H1 H2 H3 H4=>jvalid_any a1 a2 a3 a4 n1 c1 n2 c2 n3 c3 n4 c4 j W H1 H2 H3 hc3 (by omega) H4
 have htk:=fun W H1 H2 H3 H4 H5=>jtake_any a1 a2 a3 a4 n1 c1 n2 c2 n3 c3 n4 c4 j W H1 m1 H2 m2 H3 hc3 hn3 hb3 H4 m4 H5
 obtain ⟨r,hr⟩:∃ r,quesJ j t u nc=r:=⟨_,rfl⟩
 rw [hr]
 replace hr:=Lib.hid hr
 go_enter Tryz.func27,Tryz.ntmps27
 go_wp2_with fail
 refine nameC ?_
 intro W hW
 have hE:Ext w W:=by rw [hW];exact eX
 have hB:Blk W w.heap.size 54 [.slice a1 n1 c1, .slice a2 n2 c2, .slice a3 n3 c3, .slice a4 n4 c4, .int .i64 j.net, .int .i64 j.sent]:=by rw [hW];exact bK
 have hR:Blk W (w.heap.size+1) 54 [.slice none 0 0, .slice none 0 0, .slice none 0 0, .slice none 0 0, .int .i64 0, .int .i64 0]:=by rw [hW];exact bK
 clear hW
 (with_reducible refine (hv _ (h1.ext hE) (h2.ext hE) (h3.ext hE) (h4.ext hE)).mono ?_)
 rintro e w0 ⟨rfl,hx0⟩
 have hE:=hE.trans hx0
 have hB:=hB.extB hx0
 have hR:=hR.extB hx0
 clear hx0 hv
 haveI:=hB.blt
 haveI:=hR.blt
 cases q:validJ j
 ·have er:=Lib.hid (show r=((zeroJ,[]),3) by rw [← hr.out];unfold quesJ;rw [if_neg (fun h=>by rw [q] at h;exact absurd h.1 (by decide))])
  clear hr
  go_wp2_with (first
   | (refine wpList_store_arr (RJ6) rfl _ _ rfl (w.heap.size+1) (0) rfl ([.slice none 0 0, .slice none 0 0, .slice none 0 0, .slice none 0 0, .int .i64 0, .int .i64 0]) rfl (54) _ (hR) (rfl) (by simp) (oC) ?_;intro V hV hMV)
   | fail)
  refine bodyPost_ret (results_arr_tmp2 Tryz.results27 (RJ6) _ _ (w.heap.size+1) (0) ([.slice none 0 0, .slice none 0 0, .slice none 0 0, .slice none 0 0, .int .i64 0, .int .i64 0]) rfl (hV.rd) (rfl) (.slice none 0 0) (.int .i64 3) rfl rfl) rfl ?_
  rw [er.out]
  exact QuesE.zero _ _ _ (Below.trans hE (hMV.below (by omega) hE.size))
 ·by_cases q1:nu=32
  ·have q1i:((nu:Int) != 32)=false:=by rw [bne_eq_false_iff_eq];omega
   by_cases q2:nn=16
   ·have q2i:((nn:Int) != 16)=false:=by rw [bne_eq_false_iff_eq];omega
    have hhd:headJ j:=by
     exact z28q78
    have hsn0:=hhd.2.2.2.2.2.1
    have hqe:=hr.out
    unfold quesJ at hqe
    rw [if_pos ⟨q,by omega,by omega⟩] at hqe
    have hok:=takeJ_ok q
    have hnnb:nn≤1000000:=by omega
    clear hr hhd q1 q2
    generalize takeJ j=T at *
    replace hqe:=Lib.hid hqe
    have hask:∀ W,Calls Tryz.prog 55 #[.int .u64 (n64 t)] W fun e w'=>e = .returned (.agg #[.int .i64 (askH t).leap, .int .i64 (askH t).ver, .int .i64 (askH t).mode, .int .i64 (askH t).strat, .int .i64 (askH t).poll, .int .i64 (askH t).prec, .int .u32 (n32 (askH t).rd), .int .u32 (n32 (askH t).rp), .int .u32 (n32 (askH t).id), .int .u64 (n64 (askH t).ref), .int .u64 (n64 (askH t).org), .int .u64 (n64 (askH t).rcv), .int .u64 (n64 (askH t).tx)])∧Ext W w':=fun W=>pask_any t W
    go_wp2_with (first
     | (refine wpList_load_arr (RJ6) rfl _ rfl (w.heap.size) (0) rfl ([.slice a1 n1 c1, .slice a2 n2 c2, .slice a3 n3 c3, .slice a4 n4 c4, .int .i64 j.net, .int .i64 j.sent]) (hB.rd) (rfl) ?_)
     | fail)
    (with_reducible refine (htk _ (h1.ext hE) (h2.ext hE) (h3.ext hE) (h4.ext hE) (.inl hsn0)).mono ?_)
    rintro e w1 ⟨b1,x1,d1,b2,x2,d2,b3,x3,d3,b4,x4,d4,b5,x5,d5,rfl,o1,o2,o3,k3,o4,k4,o5,hb3w,t3,hx1⟩
    have hltw:=hR.lt
    have hE:=hE.trans hx1
    have hR:=hR.extB hx1
    have hlt:=hR.lt
    have hu:=hu.ext hE
    have hu0:=hu
    have hnc:=hnc.ext hE
    clear hB hx1 htk hsn0 h1 h2 h3 h4 hb3
    by_cases qe:T.2=0
    ·have qei:(T.2 != 0)=false:=by rw [bne_eq_false_iff_eq];exact qe
     go_wp2_with (first
      | (refine wpList_alloc_store (RJ6) rfl rfl _ _ rfl rfl rfl rfl (by simp [Act.put]) ([.slice b1 x1 d1, .slice b2 x2 d2, .slice b3 x3 d3, .slice b4 x4 d4, .int .i64 T.1.1.net, .int .i64 T.1.1.sent]) rfl (by simp) (rfl) (oC) ?_;intro x hz _)
      | fail)
     obtain ⟨hck,hcl,hup⟩:=hok qe
     have o3l:=o3.len
     have o5l:=o5.1
     obtain rfl:x5=104:=by omega
     obtain rfl:nu=32:=by simpa [bne_eq_false_iff_eq] using (show nu=32 by have:=q1i;rw [bne_eq_false_iff_eq] at this;omega)
     have hxx:Ext w1 (w1.ext x):=Ext.of_ext _ _
     have hR:=hR.extB hxx
     have hu:=hu.ext hxx
     obtain ⟨go,hgo⟩:∃ g,g=w1.heap.size:=⟨_,rfl⟩
     rw [← hgo] at hz hlt ⊢
     have hgo1:w1.heap.size≤go:=by omega
     have hxx':=hxx
     generalize w1.ext x=W1 at *
     (with_reducible refine (hask _).mono ?_)
     rintro e w2 ⟨rfl,hx2⟩
     have hx2':=hxx'.trans hx2
     have hz:=hz.extB hx2
     have hR:=hR.extB hx2
     have hu:=hu.ext hx2
     have o5:=o5.ext hx2'
     have hIu:InT 66 w2 go au 32:=((hu0.inT w1).mono (by omega)).ext hx2'
     have hI5:InT 66 w2 go b5 104:=o5.inT (by decide)
     clear hask hx2 hxx hgo o5l hok
     go_wp2_with (first
      | (refine wpList_alloc_store (RP16) rfl rfl _ _ rfl rfl rfl rfl (by simp [Act.put]) ([.int .i64 (askH t).leap, .int .i64 (askH t).ver, .int .i64 (askH t).mode, .int .i64 (askH t).strat, .int .i64 (askH t).poll, .int .i64 (askH t).prec, .int .u32 (n32 (askH t).rd), .int .u32 (n32 (askH t).rp), .int .u32 (n32 (askH t).id), .int .u64 (n64 (askH t).ref), .int .u64 (n64 (askH t).org), .int .u64 (n64 (askH t).rcv), .int .u64 (n64 (askH t).tx), .slice (some ⟨w2.heap.size,0,none⟩) 2 2, .slice none 0 0, .bool false]) rfl (by simp) (rfl) (oC) ?_;intro x hzp _)
      | (refine wpList_load_arr (RJ6) rfl _ rfl (go) (0) rfl ([.slice b1 x1 d1, .slice b2 x2 d2, .slice b3 x3 d3, .slice b4 x4 d4, .int .i64 T.1.1.net, .int .i64 T.1.1.sent]) (((hz.extB eX).rd)) (rfl) ?_)
      | fail)
     refine nameC ?_
     intro W3 hW3
     have hx3:Ext w2 W3:=by rw [hW3];exact eX
     have hrw:Blk W3 w2.heap.size 66 [.int .i64 260, .slice au 32 cu, .int .i64 516, .slice b5 104 d5]:=by rw [hW3];exact (Blk.new w2 #[.int .i64 260, .slice au 32 cu, .int .i64 516, .slice b5 104 d5] 66).ext _
     have hzp:Blk W3 (w2.heap.size+1) 32 [.int .i64 (askH t).leap, .int .i64 (askH t).ver, .int .i64 (askH t).mode, .int .i64 (askH t).strat, .int .i64 (askH t).poll, .int .i64 (askH t).prec, .int .u32 (n32 (askH t).rd), .int .u32 (n32 (askH t).rp), .int .u32 (n32 (askH t).id), .int .u64 (n64 (askH t).ref), .int .u64 (n64 (askH t).org), .int .u64 (n64 (askH t).rcv), .int .u64 (n64 (askH t).tx), .slice (some ⟨w2.heap.size,0,none⟩) 2 2, .slice none 0 0, .bool false]:=by rw [hW3];simpa using hzp
     clear hW3
     (with_reducible refine (jroom_any _ _ _ _ _ _ _ _ _ _ _ _ _ _ W3 (by omega)).mono ?_)
     rintro e w4 ⟨rfl,hx4⟩
     have hx34:=hx3.trans hx4
     have hrw:=hrw.extB hx4
     have hzp:=hzp.extB hx4
     have hgz:=hz.lt
     have hz:=hz.extB hx34
     have hR:=hR.extB hx34
     have hO:OwnI 66 w4 go (some ⟨w2.heap.size,0,none⟩) 2 2 (plainQ u T.1.2 0):=OwnI.two hrw (by omega) (hu.ext hx34) hcu (hIu.ext hx34) (o5.sl.ext hx34) (o5.le.1) (hI5.ext hx34)
     have hx04:Ext w1 w4:=hx2'.trans hx34
     have hgp:go<w2.heap.size+1:=by omega
     have hbs:go≤w4.heap.size:=by have:=hx34.size;omega
     obtain ⟨kk,hkk⟩:∃ kk,kk=7-x3:=⟨_,rfl⟩
     have hkI:(8:Int)-(x3:Int)-1=(kk:Int):=by omega
     have hk7:kk≤7:=by omega
     have hx3I:(x3:Int)≤7:=by omega
     obtain ⟨gp,hgpe⟩:∃ g,g=w2.heap.size+1:=⟨_,rfl⟩
     rw [← hgpe] at hzp hgp ⊢
     have hgp1:w1.heap.size≤gp:=by omega
     clear hgpe hx3 hx4 hrw hIu hI5 hu o5 hx2' hx34
     replace hkk:=Lib.hid hkk
     go_wp2_with fail
     go_loopw [51] (fun v51 wr=>∃ (i:Nat) (sa:Option Addr)(sc:Nat),i≤kk∧v51 = .int .i64 i∧Blk wr gp 32 [.int .i64 (askH t).leap, .int .i64 (askH t).ver, .int .i64 (askH t).mode, .int .i64 (askH t).strat, .int .i64 (askH t).poll, .int .i64 (askH t).prec, .int .u32 (n32 (askH t).rd), .int .u32 (n32 (askH t).rp), .int .u32 (n32 (askH t).id), .int .u64 (n64 (askH t).ref), .int .u64 (n64 (askH t).org), .int .u64 (n64 (askH t).rcv), .int .u64 (n64 (askH t).tx), .slice sa (2+i) sc, .slice none 0 0, .bool false]∧OwnI 66 wr go sa (2+i) sc (plainQ u T.1.2 i)∧go≤wr.heap.size∧Blk wr go 54 [.slice b1 x1 d1, .slice b2 x2 d2, .slice b3 x3 d3, .slice b4 x4 d4, .int .i64 T.1.1.net, .int .i64 T.1.1.sent]∧Blk wr (w.heap.size+1) 54 [.slice none 0 0, .slice none 0 0, .slice none 0 0, .slice none 0 0, .int .i64 0, .int .i64 0]∧Ext w1 wr) (fun v51 _=>kk-(intOf v51).toNat)
     case atStart=>exact ⟨0,_,2,by omega,rfl,hzp,hO,hbs,hz,hR,hx04⟩
     case round =>
      clear hzp hO hbs hz hR hx04
      obtain ⟨i,sa,sc,hi,rfl,hzp,hO,hbs,hz,hR,hxL⟩:=hrel
      haveI:=hzp.blt
      have f13:=hzp.cell? 13 rfl
      by_cases hlt2:i<kk
      ·have i1:(i:Int)<(kk:Int):=by omega
       have hmk:=run_make_by U 104 104 (Nat.le_refl _) (by omega)
       simp only [Int.cast_ofNat_Int] at hmk
       have hqs:=Lib.hid (plainQ_succ u T.1.2 i)
       generalize plainQ u T.1.2 i=P at *
       obtain ⟨Z,hZ⟩:∃ Z:List UInt8,Z=List.replicate 104 0:=⟨_,rfl⟩
       rw [← hZ] at hqs
       have hown:∀ V:World,Own (V.alloc (.cells (zerosOf (.int .u8 0) 104) 5)) 0 (some ⟨V.heap.size,0,none⟩) 104 104 Z:=fun V=>by rw [hZ];exact own_zeros V 104 (by omega)
       clear hZ
       go_wp2_with fail
       refine wp_region_vague 5 [[],[0],[],[2],[2,3],[0,1,2,3,4],[0,1,2,3,4,5],[0,1,2,3,4,5,6]] (by kernel_rfl) (by kernel_rfl) (by kernel_rfl) (by kernel_rfl) ?_;simp only [q8q,q9q,q10q,q11q,q12q,q13q]
       (repeat (refine VD_a ?_;(try simp only [Act.put,q0q,q1q,q2q])))
       (refine VD_vag (fun p => .slice (p 0).1 104 104) (fun p w''=>Own w'' 0 (p 0).1 104 104 Z) (fun p w w' h hx=>h.ext hx) (fun us w' hx hf=>⟨rfl,?_⟩) ?_;(unfold gives;simp [go_sem,execOp,hmk];exact ⟨fun _=>(some ⟨w'.heap.size,0,none⟩,0),rfl,Ext.of_alloc _ _,hown _⟩))
       (repeat (refine VD_a ?_;(try simp only [Act.put,q0q,q1q,q2q])))
       (refine VD_vag (fun p => .slice (p 0).1 1 1) (fun p w''=>NewJ 66 772 Z w'' (p 0).1) (fun p w w' h hx=>h.ext hx) (fun us w' hx hf=>⟨rfl,?_⟩) ?_;(unfold gives;simp [go_sem,execOp];exact ⟨fun _=>(some ⟨w'.heap.size,0,none⟩,0),rfl,Ext.of_alloc _ _,NewJ.mk (hf _ (List.mem_append_right _ (List.mem_singleton_self _)) rfl) (by decide)⟩))
       (refine VD_z ?_;intro us x hx hf;(try simp only [Act.put,q0q,q1q,q2q,wpList_none]);(try simp only [q3q,q4q,or_false,forall_eq_or_imp,forall_eq,q5q,q6q,q7q,false_or,true_and,and_true] at hf);(try simp only [Nat.reduceAdd,Nat.zero_add] at hf ⊢))
       obtain ⟨_,hN⟩:=hf
       obtain ⟨aN,haN⟩:∃ a,(us 4 0).1=a:=⟨_,rfl⟩
       rw [haN] at hN ⊢
       clear haN
       obtain ⟨gn,ga,m,cc,rfl,hRd,hSn,hcc,hIn⟩:=hN
       have hxx:Ext wr (wr.ext x):=Ext.of_ext _ _
       have hOx:=hO.ext hxx
       have hzpx:=hzp.extB hxx
       have hzx:=hz.extB hxx
       have hRx:=hR.extB hxx
       have hEx:=hxL.trans hxx
       have hbx:=Nat.le_trans hbs hxx.size
       clear hO hzp hz hR hxL hbs hxx f13 hown hmk
       refine wpList_append_i VF rfl _ _ rfl go sa (2+i) sc P rfl gn 1 772 ga m cc Z rfl hOx hRd hSn hcc (hIn go) (by omega) hbx ?_
       intro sa' sc' w6 hO6 hg6 hb6
       have hzp6:=hzpx.grown hg6 (hOx.blk hzpx (by decide))
       have hz6:=hzx.grown hg6 (hOx.blk hzx (by decide))
       have hR6:=hRx.grown hg6 (hOx.blk hRx (by decide))
       have hE6:Ext w1 w6:=Below.trans hEx (hb6.mono (by omega))
       have hB6:=Nat.le_trans hbx hb6.size
       haveI:=hzp6.blt
       have q13:=hzp6.cell? 13 rfl
       have z13:=hzp6.free 13
       go_wp2
       have hset:=hzp6.set 13 (.slice sa' (2+i+1) sc')
       have hM:Mut gp w6 (w6.setCell ⟨gp,13,none⟩ (.slice sa' (2+i+1) sc')):=(Mut.refl _ _).setCell 13 _
       go_roundw
       case rel=>exact ⟨i+1,sa',sc',by omega,by go_num,hset,(by rw [hqs.out];exact hO6.mut hzp6 (by decide) (by simp) hM),Nat.le_trans hB6 hM.size,Blk.turn hM hz6 (by omega),Blk.turn hM hR6 (by omega),Below.trans hE6 (hM.below (by omega) hE6.size)⟩
       case measure=>simp [intOf];omega
      ·obtain rfl:i=kk:=by omega
       have i1:¬ (i:Int)<(i:Int):=by omega
       haveI:=hz.blt
       have q0:=hz.cell? 0 rfl
       have hIp:=hO.ib.1
       have hpl:=plainQ_length u T.1.2 i
       have hnc:=hnc.ext hxL
       have o1:=o1.ext hxL
       have o2:=o2.ext hxL
       have o3:=o3.ext hxL
       have t3:=t3.ext hxL
       have o4:=o4.ext hxL
       have hE:=hE.trans hxL
       have hpr:∀ W,Sl W b1 x1 T.1.1.up→Sl W an nn nc→Ib W sa (2+i) (plainQ u T.1.2 i)→Calls Tryz.prog 21 #[.slice b1 x1 d1, .agg #[.int .i64 (askH t).leap, .int .i64 (askH t).ver, .int .i64 (askH t).mode, .int .i64 (askH t).strat, .int .i64 (askH t).poll, .int .i64 (askH t).prec, .int .u32 (n32 (askH t).rd), .int .u32 (n32 (askH t).rp), .int .u32 (n32 (askH t).id), .int .u64 (n64 (askH t).ref), .int .u64 (n64 (askH t).org), .int .u64 (n64 (askH t).rcv), .int .u64 (n64 (askH t).tx), .slice sa (2+i) sc, .slice none 0 0, .bool false], .slice an nn cn] W (Read2 (protE T.1.1.up (pktQ t u T.1.2 i) nc).1.length (protE T.1.1.up (pktQ t u T.1.2 i) nc).1 (.int .i64 (protE T.1.1.up (pktQ t u T.1.2 i) nc).2) W):=fun W H1 H2 H3=>pprotect_any b1 an sa none x1 d1 nn cn (2+i) sc 0 0 (pktQ t u T.1.2 i) T.1.1.up nc W H1 o1.le.1 H2 hcn hnnb H3 (by omega) (fun f hf=>by
        rcases plainQ_in hf with h|h|h
        ·rw [h];show u.length≤1000000;omega
        ·rw [h];show T.1.2.length≤1000000;omega
        ·rw [h];simp) (Ib.nil _ _) (by omega) (fun f hf=>by cases hf)
       have hke:7-T.1.1.ck.length=i:=by have:=hkk.out;omega
       have hqe2:=hqe.out
       rw [if_pos qe,hke] at hqe2
       generalize protE T.1.1.up (pktQ t u T.1.2 i) nc=R at *
       go_wp2_with (first
        | (refine wpList_load_arr (RP16) rfl _ rfl (gp) (0) rfl ([.int .i64 (askH t).leap, .int .i64 (askH t).ver, .int .i64 (askH t).mode, .int .i64 (askH t).strat, .int .i64 (askH t).poll, .int .i64 (askH t).prec, .int .u32 (n32 (askH t).rd), .int .u32 (n32 (askH t).rp), .int .u32 (n32 (askH t).id), .int .u64 (n64 (askH t).ref), .int .u64 (n64 (askH t).org), .int .u64 (n64 (askH t).rcv), .int .u64 (n64 (askH t).tx), .slice sa (2+i) sc, .slice none 0 0, .bool false]) (hzp.rd) (rfl) ?_)
        | fail)
       (with_reducible refine (hpr _ o1.sl hnc hIp).mono ?_)
       rintro e w7 ⟨b7,d7,rfl,hS7,hd7,hx7⟩
       have hR:=hR.extB hx7
       have hz:=hz.extB hx7
       have o1:=o1.ext hx7
       have o2:=o2.ext hx7
       have o3:=o3.ext hx7
       have t3:=t3.ext hx7
       have o4:=o4.ext hx7
       have hE:=hE.trans hx7
       clear hpr hIp hzp hO hnc hx7 q0 f13
       haveI:=hR.blt
       haveI:=hz.blt
       by_cases qr:R.2=0
       ·have qri:(R.2 != 0)=false:=by rw [bne_eq_false_iff_eq];exact qr
        have er:=Lib.hid (show r=((T.1.1,R.1),0) by rw [← hqe2,if_pos qr])
        clear hqe2 hqe
        go_wp2_with (first
         | (refine wpList_load_arr (RJ6) rfl _ rfl (go) (0) rfl ([.slice b1 x1 d1, .slice b2 x2 d2, .slice b3 x3 d3, .slice b4 x4 d4, .int .i64 T.1.1.net, .int .i64 T.1.1.sent]) ((hz.rd)) (rfl) ?_)
         | (refine wpList_store_arr (RJ6) rfl _ _ rfl (w.heap.size+1) (0) rfl ([.slice b1 x1 d1, .slice b2 x2 d2, .slice b3 x3 d3, .slice b4 x4 d4, .int .i64 T.1.1.net, .int .i64 T.1.1.sent]) rfl (54) _ (hR) (rfl) (by simp) (oC) ?_;intro V hV hMV)
         | fail)
        refine bodyPost_ret (results_arr_tmp2 Tryz.results27 (RJ6) _ _ (w.heap.size+1) (0) ([.slice b1 x1 d1, .slice b2 x2 d2, .slice b3 x3 d3, .slice b4 x4 d4, .int .i64 T.1.1.net, .int .i64 T.1.1.sent]) rfl (hV.rd) (rfl) (.slice b7 R.1.length d7) (.int .i64 0) rfl rfl) rfl ?_
        rw [er.out]
        exact ⟨b1,x1,d1,b2,x2,d2,b3,x3,d3,b4,x4,d4,b7,_,d7,rfl,(o1.mutT hR (by decide) hMV).sl,o1.le.1,(o2.mutT hR (by decide) hMV).sl,o2.le.1,o3.mutNe (fun b o h=>by have:=hb3w b o h;omega) hR (by simp) hMV,k3,t3.mut hR (by decide) hMV,o4.mut hR (by simp) hMV,k4,hS7.mut hR (by simp) hMV,hd7,Below.trans hE (hMV.below (by omega) hE.size)⟩
       ·have qri:(R.2 != 0)=true:=by rw [bne_iff_ne];exact qr
        have er:=Lib.hid (show r=((zeroJ,[]),R.2) by rw [← hqe2,if_neg qr])
        clear hqe2 hqe qr
        go_wp2_with (first
         | (refine wpList_store_arr (RJ6) rfl _ _ rfl (w.heap.size+1) (0) rfl ([.slice none 0 0, .slice none 0 0, .slice none 0 0, .slice none 0 0, .int .i64 0, .int .i64 0]) rfl (54) _ (hR) (rfl) (by simp) (oC) ?_;intro V hV hMV)
         | fail)
        refine bodyPost_ret (results_arr_tmp2 Tryz.results27 (RJ6) _ _ (w.heap.size+1) (0) ([.slice none 0 0, .slice none 0 0, .slice none 0 0, .slice none 0 0, .int .i64 0, .int .i64 0]) rfl (hV.rd) (rfl) (.slice none 0 0) (.int .i64 R.2) rfl rfl) rfl ?_
        rw [er.out]
        exact QuesE.zero _ _ _ (Below.trans hE (hMV.below (by omega) hE.size))
    ·have qei:(T.2 != 0)=true:=by rw [bne_iff_ne];exact qe
     have er:=Lib.hid (show r=((zeroJ,[]),T.2) by rw [← hqe.out,if_neg qe])
     clear hqe hok qe
     go_wp2_with (first
      | (refine wpList_alloc_store (RJ6) rfl rfl _ _ rfl rfl rfl rfl (by simp [Act.put]) ([.slice b1 x1 d1, .slice b2 x2 d2, .slice b3 x3 d3, .slice b4 x4 d4, .int .i64 T.1.1.net, .int .i64 T.1.1.sent]) rfl (by simp) (rfl) (oC) ?_;intro x hz _)
      | (refine wpList_store_arr (RJ6) rfl _ _ rfl (w.heap.size+1) (0) rfl ([.slice none 0 0, .slice none 0 0, .slice none 0 0, .slice none 0 0, .int .i64 0, .int .i64 0]) rfl (54) _ ((hR.extB (show Ext w1 (w1.ext x) from Ext.of_ext _ _))) (rfl) (by simp) (oC) ?_;intro V hV hMV)
      | fail)
     refine bodyPost_ret (results_arr_tmp2 Tryz.results27 (RJ6) _ _ (w.heap.size+1) (0) ([.slice none 0 0, .slice none 0 0, .slice none 0 0, .slice none 0 0, .int .i64 0, .int .i64 0]) rfl (hV.rd) (rfl) (.slice none 0 0) (.int .i64 T.2) rfl rfl) rfl ?_
     rw [er.out]
     have hE:=hE.trans (show Ext w1 (w1.ext x) from Ext.of_ext _ _)
     exact QuesE.zero _ _ _ (Below.trans hE (hMV.below (by omega) hE.size))
   ·have q2i:((nn:Int) != 16)=true:=by rw [bne_iff_ne];omega
    have er:=Lib.hid (show r=((zeroJ,[]),3) by rw [← hr.out];unfold quesJ;rw [if_neg (fun h=>by omega)])
    clear hr q2
    go_wp2_with (first
     | (refine wpList_store_arr (RJ6) rfl _ _ rfl (w.heap.size+1) (0) rfl ([.slice none 0 0, .slice none 0 0, .slice none 0 0, .slice none 0 0, .int .i64 0, .int .i64 0]) rfl (54) _ (hR) (rfl) (by simp) (oC) ?_;intro V hV hMV)
     | fail)
    refine bodyPost_ret (results_arr_tmp2 Tryz.results27 (RJ6) _ _ (w.heap.size+1) (0) ([.slice none 0 0, .slice none 0 0, .slice none 0 0, .slice none 0 0, .int .i64 0, .int .i64 0]) rfl (hV.rd) (rfl) (.slice none 0 0) (.int .i64 3) rfl rfl) rfl ?_
    rw [er.out]
    exact QuesE.zero _ _ _ (Below.trans hE (hMV.below (by omega) hE.size))
  ·have q1i:((nu:Int) != 32)=true:=by rw [bne_iff_ne];omega
   have er:=Lib.hid (show r=((zeroJ,[]),3) by rw [← hr.out];unfold quesJ;rw [if_neg (fun h=>by omega)])
   clear hr q1
   go_wp2_with (first
    | (refine wpList_store_arr (RJ6) rfl _ _ rfl (w.heap.size+1) (0) rfl ([.slice none 0 0, .slice none 0 0, .slice none 0 0, .slice none 0 0, .int .i64 0, .int .i64 0]) rfl (54) _ (hR) (rfl) (by simp) (oC) ?_;intro V hV hMV)
    | fail)
   refine bodyPost_ret (results_arr_tmp2 Tryz.results27 (RJ6) _ _ (w.heap.size+1) (0) ([.slice none 0 0, .slice none 0 0, .slice none 0 0, .slice none 0 0, .int .i64 0, .int .i64 0]) rfl (hV.rd) (rfl) (.slice none 0 0) (.int .i64 3) rfl rfl) rfl ?_
   rw [er.out]
   exact QuesE.zero _ _ _ (Below.trans hE (hMV.below (by omega) hE.size))
end Go.Proofs.YtdmifbfgeeldnaaGreat

/- sectimeworld.Pair, Jar. -/
namespace Go.Jar
open Go.Sha
def upW (s:Nat):List UInt8:=(wbytes s 64).take 32
def dnW (s:Nat):List UInt8:=(wbytes s 64).drop 32
theorem upW_length (s:Nat):(upW s).length=32:=by unfold upW;rw [List.length_take,wbytes_length];omega
theorem dnW_length (s:Nat):(dnW s).length=32:=by unfold dnW;rw [List.length_drop,wbytes_length]
def ckW (s k:Nat):List (List UInt8):=(List.range k).map fun i=>wbytes (s+1000003*(i+1)) 104
theorem ckW_length (s k:Nat):(ckW s k).length=k:=by simp [ckW]
theorem ckW_succ (s k:Nat):ckW s (k+1)=ckW s k++[wbytes (s+1000003*(k+1)) 104]:=by simp [ckW,List.range_succ]
theorem ckW_104 {s k:Nat} {b:List UInt8} (h:b∈ckW s k):b.length=104:=by
 obtain ⟨i,_,rfl⟩:=List.mem_map.1 h
 exact wbytes_length _ _
def jarW (s k:Nat):Jar:=⟨upW s,dnW s,ckW s k,[],1,0⟩
end Go.Jar
namespace Go.Proofs.YtdmifbfgeeldnaaGreat
open Go.RowKit Go.Sec Go.Oct Go.Jar Go.Sha BigFrame
theorem sl_fromJ {w:World} {b0 o0 n ca i:Nat} {l:List UInt8} (h:Sl w (some ⟨b0,o0,none⟩) n l) (hca:n≤ca) (hi:i<n):Sl w (some ⟨b0,o0+i,none⟩) (n-i) (l.drop i):=by
 exact z32q73
def PairO (s:Nat) (w:World)(e:Ending) (w':World):Prop:=∃ pb po c,e = .returned (.agg #[.slice (some ⟨pb,po,none⟩) 32 c, .slice (some ⟨pb,po+32,none⟩) 32 (c-32)])∧Own w' 0 (some ⟨pb,po,none⟩) 64 c (wbytes s 64)∧Ext w w'
set_option maxHeartbeats 1000000 in
theorem wpairO_any (s:Nat) {sI:Int} (hs:sI=(s:Int)) (w:World)(hs2:s≤1000000) :
  Calls Tryz.prog 76 #[.int .i64 sI] w (PairO s w):=by
 subst hs
 go_enter Tryz.func76,Tryz.ntmps76
 go_wp2_with fail;(with_reducible refine (wbytes_any s 64 rfl (show (64:Int)=((64:Nat):Int) from rfl) _ (by omega) (by omega)).mono ?_);rintro e w1 ⟨a1,c1,rfl,hO1,hx1⟩
 have hS:=hO1.sl
 have hc:=hO1.le.1
 have hR:=(Blk.new w #[.slice none 0 0, .slice none 0 0] 51).extB hx1
 have hE1:Ext w w1:=(Ext.of_alloc _ _).trans hx1
 have hlt:=hR.lt
 obtain ⟨pb,po,rfl,hpb,_⟩:=hS.at 0 (by omega)
 have j1:(32:Int)≤(c1:Int):=by omega
 have j2:(64:Int)≤(c1:Int):=by omega
 have j3:32<c1:=by omega
 have n32:¬ c1=32:=by omega
 go_wp2
 refine wp_region_vague 5 [[],[0],[],[2],[0,1,2,3],[0,1,2,3,4]] (by kernel_rfl) (by kernel_rfl) (by kernel_rfl) (by kernel_rfl) ?_;simp only [q8q,q9q,q10q,q11q,q12q,q13q]
 (repeat (refine VD_a ?_;(try simp only [Act.put,q0q,q1q,q2q])))
 (refine VD_z ?_;intro us x hx hf;(try simp only [Act.put,q0q,q1q,q2q,wpList_none]);(try simp only [q3q,q4q,or_false,forall_eq_or_imp,forall_eq,q5q,q6q,q7q,false_or,true_and,and_true] at hf);(try simp only [Nat.reduceAdd,Nat.zero_add] at hf ⊢))
 have hxx:Ext w1 (w1.ext x):=Ext.of_ext _ _
 have hR:=hR.extB hxx
 have hO1:=(hO1.ext hxx).mono (Nat.zero_le _)
 have hE1:=hE1.trans hxx
 clear hf hxx
 generalize w1.ext x=W at *
 haveI:=hR.blt
 go_wp2_with (first
  | (refine wpList_store_arr (RPj) rfl _ _ rfl (w.heap.size) (0) rfl ([.slice (some ⟨pb,po,none⟩) 32 c1, .slice (some ⟨pb,po+32,none⟩) 32 (c1-32)]) rfl (51) _ (hR) (rfl) (by simp) (oC) ?_;intro w9 hB9 hM9)
  | fail)
 refine bodyPost_ret (results_arr Tryz.results76 (RPj) _ _ (w.heap.size) (0) ([.slice (some ⟨pb,po,none⟩) 32 c1, .slice (some ⟨pb,po+32,none⟩) 32 (c1-32)]) rfl (hB9.rd) (rfl)) rfl ?_
 exact ⟨_,_,_,rfl,hO1.mutT hR (by decide) hM9,Below.trans hE1 (hM9.below (Nat.le_refl _) hE1.size)⟩
def WJarO (s k:Nat) (w:World)(e:Ending) (w':World):Prop:=∃ a1 d1 a2 d2 b3 d3,e = .returned (.agg #[.slice a1 32 d1, .slice a2 32 d2, .slice b3 k d3, .slice none 0 0, .int .i64 1, .int .i64 0])∧Sl w' a1 32 (upW s)∧32≤d1∧Sl w' a2 32 (dnW s)∧32≤d2∧Bsc w' b3 k (ckW s k)∧k≤d3∧Ext w w'
set_option maxHeartbeats 1000000 in
theorem wjar_any (s:Nat) (n:Int) (k:Nat) {sI:Int} (hs:sI=(s:Int)) (w:World)(hs2:s≤1000000) (hk:n % 9=(k:Int)) :
  Calls Tryz.prog 32 #[.int .i64 sI, .int .i64 n] w (WJarO s k w):=by
 subst hs
 have hw:=fun W=>within_any n 9 W (by omega) (by omega)
 rw [hk] at hw
 have hk9:k<9:=by omega
 clear hk
 go_enter Tryz.func32,Tryz.ntmps32
 go_wp2_with fail
 refine nameC ?_
 intro W hW
 have hE:Ext w W:=by rw [hW];exact eX
 have hR:Blk W w.heap.size 54 [.slice none 0 0, .slice none 0 0, .slice none 0 0, .slice none 0 0, .int .i64 0, .int .i64 0]:=by rw [hW];exact bK
 clear hW
 (with_reducible refine (wpairO_any s rfl W hs2).mono ?_)
 rintro e w1 ⟨pb,po,c,rfl,hO,hx1⟩
 have hE:=hE.trans hx1
 have hR:=hR.extB hx1
 have hlt:=hR.lt
 clear hx1
 go_wp2_with (first
  | (refine wpList_alloc_store (RJ6) rfl rfl _ _ rfl rfl rfl rfl (by simp [Act.put]) ([.slice (some ⟨pb,po,none⟩) 32 c, .slice (some ⟨pb,po+32,none⟩) 32 (c-32), .slice none 0 0, .slice none 0 0, .int .i64 1, .int .i64 0]) rfl (by simp) (rfl) (oC) ?_;intro x hz _)
  | fail)
 have hxx:Ext w1 (w1.ext x):=Ext.of_ext _ _
 have hE:=hE.trans hxx
 have hR:=hR.extB hxx
 have hO:=hO.ext hxx
 obtain ⟨g5,hg5⟩:∃ g,g=w1.heap.size:=⟨_,rfl⟩
 rw [← hg5] at hz hlt ⊢
 clear hxx hg5
 generalize w1.ext x=W at *
 obtain ⟨B,hB⟩:∃ B,B=W.heap.size:=⟨_,rfl⟩
 have hBE:w.heap.size≤B:=by rw [hB];exact hE.size
 have hgB:g5<B:=by rw [hB];exact hz.lt
 go_loopw [6] (fun v6 wr=>∃ (i:Nat) (sa:Option Addr)(sc:Nat),i≤k∧v6 = .int .i64 i∧Blk wr g5 54 [.slice (some ⟨pb,po,none⟩) 32 c, .slice (some ⟨pb,po+32,none⟩) 32 (c-32), .slice sa i sc, .slice none 0 0, .int .i64 1, .int .i64 0]∧OwnB wr B sa i sc (ckW s i)∧B≤wr.heap.size∧Own wr 0 (some ⟨pb,po,none⟩) 64 c (wbytes s 64)∧Blk wr w.heap.size 54 [.slice none 0 0, .slice none 0 0, .slice none 0 0, .slice none 0 0, .int .i64 0, .int .i64 0]∧Ext w wr) (fun v6 _=>k-(intOf v6).toNat)
 case atStart=>exact ⟨0,none,0,by omega,rfl,hz,OwnB.nil _ _,by omega,hO,hR,hE⟩
 case round =>
  clear hz hO hR hE hB
  obtain ⟨i,sa,sc,hi,rfl,hz,hO3,hBs,hO,hR,hE⟩:=hrel
  go_wp2_with fail
  (with_reducible refine (hw _).mono ?_)
  rintro e w2 ⟨rfl,hx2⟩
  have hz:=hz.extB hx2
  have hO3:=hO3.ext hx2
  have hBs:=Nat.le_trans hBs hx2.size
  have hO:=hO.ext hx2
  have hR:=hR.extB hx2
  have hE:=hE.trans hx2
  clear hx2
  haveI:=hz.blt
  have f2:=hz.cell? 2 rfl
  by_cases hlt2:i<k
  ·have i1:(i:Int)<(k:Int):=by omega
   have hmul:(1000003:Int)*((i:Int)+1)≤9000027:=by omega
   have hsI:(s:Int)≤1000000:=by omega
   have hi9:(i:Int)≤8:=by omega
   have hby:=fun V=>wbytes_any (s+1000003*(i+1)) 104 (show (s:Int)+1000003*((i:Int)+1)=((s+1000003*(i+1):Nat):Int) by omega) (show (104:Int)=((104:Nat):Int) from rfl) V (by omega) (by omega)
   have hck:=Lib.hid (ckW_succ s i)
   have hl104:(wbytes (s+1000003*(i+1)) 104).length=104:=wbytes_length _ _
   generalize wbytes (s+1000003*(i+1)) 104=X at *
   go_wp2_with fail
   refine wp_region_vague 9 [[],[0],[],[],[3],[3,4],[2,3,4,5],[2,3,4,5,6],[2,3,4,5,6,7],[0,1,2,3,4,5,6,7,8],[0,1,2,3,4,5,6,7,8,9],[0,1,2,3,4,5,6,7,8,9,10]] (by kernel_rfl) (by kernel_rfl) (by kernel_rfl) (by kernel_rfl) ?_;simp only [q8q,q9q,q10q,q11q,q12q,q13q]
   (repeat (refine VD_a ?_;(try simp only [Act.put,q0q,q1q,q2q])))
   (refine VD_vag (fun p => .slice (p 0).1 (104) (p 0).2) (fun p w''=>Own w'' 0 (p 0).1 (104) (p 0).2 (X)) (fun p w w' h hx=>h.ext hx) (fun us w' hx hf=>⟨rfl,?_⟩) ?_;(unfold gives;simp [go_sem,execOp];exact vag_fresh (Nat.zero_le _) (hby _)))
   (refine VD_vag (fun p => .slice (p 0).1 1 1) (fun p w''=>NewB X w'' (p 0).1) (fun p w w' h hx=>by first|exact h.ext hx|exact ⟨h.1.ext hx,h.2.ext hx⟩|exact ⟨h.1.ext hx,h.2⟩|exact ⟨h.1.ext hx,h.2.1.ext hx,h.2.2.ext hx⟩) (fun us w' hx hf=>⟨rfl,?_⟩) ?_;(unfold gives;simp [go_sem,execOp];exact ⟨fun _=>(some ⟨w'.heap.size,0,none⟩,0),rfl,Ext.of_alloc _ _,NewB.mk (hf _ (List.mem_append_right _ (List.mem_singleton_self _)) rfl) _⟩))
   (refine VD_z ?_;intro us x hx hf;(try simp only [Act.put,q0q,q1q,q2q,wpList_none]);(try simp only [q3q,q4q,or_false,forall_eq_or_imp,forall_eq,q5q,q6q,q7q,false_or,true_and,and_true] at hf);(try simp only [Nat.reduceAdd,Nat.zero_add] at hf ⊢))
   obtain ⟨_,hN⟩:=hf
   obtain ⟨aN,haN⟩:∃ a,(us 8 0).1=a:=⟨_,rfl⟩
   rw [haN] at hN ⊢
   clear haN
   obtain ⟨gn,ga,nn,cc,rfl,hRd,hOn⟩:=hN
   have hxx:Ext w2 (w2.ext x):=Ext.of_ext _ _
   have o3x:=hO3.ext hxx
   have hzx:=hz.extB hxx
   have hRx:=hR.extB hxx
   have hEx:=hE.trans hxx
   have hBx:=Nat.le_trans hBs hxx.size
   have hO:=hO.ext hxx
   clear hO3 hz hR hE hBs hxx f2 hby
   refine wpList_append_one V8 rfl _ _ rfl B sa i sc (ckW s i) rfl gn rfl o3x ga nn cc X hRd hOn.sl hOn.le.1 (Own.inBlk hOn) (by omega) hBx ?_
   intro sa' sc' w6 hO6 hg6 hb6
   have hz6:=hzx.grown hg6 (o3x.blk hzx (by decide))
   have hR6:=hRx.grown hg6 (o3x.blk hRx (by decide))
   have hO:=hO.grownB o3x hg6
   have hE6:Ext w w6:=Below.trans hEx (hb6.mono (by omega))
   have hB6:=Nat.le_trans hBx hb6.size
   haveI:=hz6.blt
   have q2:=hz6.cell? 2 rfl
   have z2:=hz6.free 2
   go_wp2
   have hset:=hz6.set 2 (.slice sa' (i+1) sc')
   have hM:Mut g5 w6 (w6.setCell ⟨g5,2,none⟩ (.slice sa' (i+1) sc')):=(Mut.refl _ _).setCell 2 _
   go_roundw
   case rel=>exact ⟨i+1,sa',sc',by omega,by go_num,hset,(by rw [hck.out];exact hO6.mut hz6 (by decide) (by simp) hM),Nat.le_trans hB6 hM.size,hO.mutT hz6 (by decide) hM,Blk.turn hM hR6 (by omega),Below.trans hE6 (hM.below (by omega) hE6.size)⟩
   case measure=>simp [intOf];omega
  ·obtain rfl:i=k:=by omega
   have i1:¬ (i:Int)<(i:Int):=by omega
   go_wp2_with (first
    | (refine wpList_load_arr (RJ6) rfl _ rfl (g5) (0) rfl ([.slice (some ⟨pb,po,none⟩) 32 c, .slice (some ⟨pb,po+32,none⟩) 32 (c-32), .slice sa i sc, .slice none 0 0, .int .i64 1, .int .i64 0]) (((hz.extB eX).rd)) (rfl) ?_)
    | (refine wpList_store_arr (RJ6) rfl _ _ rfl (w.heap.size) (0) rfl ([.slice (some ⟨pb,po,none⟩) 32 c, .slice (some ⟨pb,po+32,none⟩) 32 (c-32), .slice sa i sc, .slice none 0 0, .int .i64 1, .int .i64 0]) rfl (54) _ ((hR.extB eX)) (rfl) (by simp) (oC) ?_;intro w9 hB9 hM9)
    | fail)
   refine bodyPost_ret (results_arr Tryz.results32 (RJ6) _ _ (w.heap.size) (0) ([.slice (some ⟨pb,po,none⟩) 32 c, .slice (some ⟨pb,po+32,none⟩) 32 (c-32), .slice sa i sc, .slice none 0 0, .int .i64 1, .int .i64 0]) rfl (hB9.rd) (rfl)) rfl ?_
   have hO9:=hO.mutT hR (by decide) hM9
   have hS:=hO9.sl
   have hc:=hO9.le.1
   have o3:=hO3.mut hR (by decide) (by simp) hM9
   exact ⟨_,_,_,_,sa,sc,rfl,hS.take 32 (by omega),by omega,sl_fromJ hS hc (show 32<64 by omega),by omega,o3.bsc,o3.le,Below.trans hE (hM9.below (Nat.le_refl _) hE.size)⟩
end Go.Proofs.YtdmifbfgeeldnaaGreat
