/- Lemmas of this claim, several texts joined. -/
import Derived.Deep.Matrix
import Derived.Deep.SlicePairs
import Derived.ProofKit
import Derived.Test.YtmdahnkcnagkjaaGreatZ7
set_option maxRecDepth 100000
open Go.Value renaming int -> Zz,slice -> Zy
open Go.IntKind renaming u8 -> Zu
set_option maxHeartbeats 8000000
set_option linter.unusedVariables false
set_option linter.unusedSimpArgs false
/- What arguments of a law read as: bytes, and lists of bytes. -/
namespace Go.Sec
open Go.RowKit Go.ChangeShapes Go.WideShapes Go.Deep
theorem B3 {z:Int} (h:(Lit.int .u8 z).wf=true):z=n8 (b8 z):=by
 rw [lA];have:0<=z/\z<=255:=by simpa [Lit.wf,IntKind.min,IntKind.max,IntKind.signed,IntKind.bits] using h
 omega
theorem lr (x:Addr) (w:World)(v:Value)(h:w.cell? x=some v):x=⟨x.block,x.off,none⟩:=by
 cases x with
 | mk b o s =>
  unfold World.cell? at h;split at h
  ·cases s with
   | none=>rfl
   | some _=>simp at h
  ·cases h
section
variable {H:Type} {enc:TypeId × Value->H} {P:Program} {w:World} {base:Nat} {held:Bool}
theorem _root_.z53q88{p:Prop}(h:p:=by
 intro j;by_cases h0:j=0
 ·subst h0;simp [Addr.add];exact ha
 ·simp [Addr.add,h0]):p:=h
theorem mY {a:E8} {len:Nat} {zs:List Int} (hl:len<=zs.length) (hc:∀ a',a=some a'->∀ c,c<zs.length->w.cell? (a'.add c)=some (Zz Zu (zs.getD c 0))) (hn:a=none->len=0)
  (hw:∀ n∈zs,(Lit.int .u8 n).wf=true):Sl w a len ((zs.take len).map b8):=by
 refine ⟨by simp;omega,?_⟩;by_cases h0:len=0
 ·left;subst h0;simp
 ·cases a with
  | none=>exact absurd (hn rfl) h0
  | some a =>
   have c0:=hc a rfl 0 Zo;have ha:a=⟨a.block,a.off,none⟩:=lr a w _ (by simpa [Addr.add] using c0);have hadd:∀ j,a.add j=⟨a.block,a.off+j,none⟩:=by
    exact z53q88
   refine .inr ⟨a.block,a.off,by rw [<- ha],World.block_lt_of_cell? w a (by simpa [Addr.add] using c0),λ k v hk=>?_⟩;have hkl:k<len:=by
    have:=(List.getElem?_eq_some_iff.1 hk).1;simp at this;omega
   have h1:=hc a rfl k Zo;rw [hadd] at h1;rw [h1];have hz:zs.getD k 0=zs[k]'Zo:=by simp [List.getD,show k<zs.length by omega]
   have hk2:((((zs.take len).map b8).map u8v)[k]?)=some (u8v (b8 (zs[k]'Zo))):=by
    simp [List.getElem?_take,hkl,show k<zs.length by omega]
   rw [hk2] at hk;injection hk with hk
   rw [<- hk,hz];show some (Value.int .u8 _)=some (Value.int .u8 _);rw [<- B3 (hw _ (aaB _))]
theorem uP {spare:Nat->Bool} (h1:P.underlying 33=some (.slice 5)) (h2:P.underlying 5=some (.int .u8)) (h3:P.cellsOf 5=1) {n:Nat} {v:Value} {y:DataW H × List MemPlace}
  (h:DataW.trod enc P w base spare held n 33 [v]=some y):∃ a len cap l,v = Zy a len cap/\Sl w a len l/\len<=cap/\cap<=maxLen:=by
 rcases open_ints h1 h2 h3 h with ⟨hcs,_⟩|⟨a,len,cap,zs,hcs,_,hl,hm,hz,_,hcell,hwz⟩
 ·injection hcs with e _
  exact ⟨none,0,0,[],e,Sl.nil _ _,aad _,aak _⟩
 ·injection hcs with e _
  refine ⟨some a,len,cap,_,e,mY (zs:=zs) (by rw [hz];split <;> omega) (λ a' ha c hc=>?_) (λ h=>by cases h) hwz,hl,hm⟩;cases ha;exact hcell c hc
theorem sM (h0:P.underlying 37=some (.slice 33)) (h1:P.underlying 33=some (.slice 5)) (h2:P.underlying 5=some (.int .u8)) (h3:P.cellsOf 5=1) (h4:P.cellsOf 33=1)
  {n:Nat} {v:Value} {y:DataW H × List MemPlace}
  (h:DataW.trod enc P w base (λ _=>true) held n 37 [v]=some y):∃ a len cap L,v = Zy a len cap/\Bsc w a len L/\len<=cap/\cap<=maxLen:=by
 rcases open_int_rows h0 h1 h2 h4 h3 h with ⟨hcs,_⟩|⟨a,len,cap,A,Ln,C,Z,hcs,_,hl,hm,_,hall⟩
 ·injection hcs with e _
  exact ⟨none,0,0,[],e,Bsc.nil _ _,aad _,aak _⟩
 ·injection hcs with e _
  refine ⟨some a,len,cap,(List.range len).map λ r=>((Z r).take (Ln r)).map b8,e,⟨Zs,?_⟩,hl,hm⟩;by_cases h0:len=0
  ·exact .inl h0
  ·right;obtain ⟨c0,_⟩:=hall 0 Zo;have ha:a=⟨a.block,a.off,none⟩:=lr a w _ (by simpa [Addr.add] using c0);have hadd:∀ j,a.add j=⟨a.block,a.off+j,none⟩:=by
    exact z53q88
   refine ⟨a.block,a.off,by rw [<- ha],World.block_lt_of_cell? w a (by simpa [Addr.add] using c0),λ k hk=>?_⟩;have hk:k<len:=by simpa using hk
   obtain ⟨d0,d1,_,d3,d4,d5,d6⟩:=hall k Zo;rw [hadd] at d0;refine ⟨A k,Ln k,C k,d0,d1,?_⟩;simp only [abp,List.getElem_range];exact mY Zo (λ a' ha' c hc=>(d6 a' ha').2 c Zo) (λ h=>by have:=d5 h;omega) d4
theorem A3 {spare:Nat->Bool} (h1:P.underlying 33=some (.slice 5)) (h2:P.underlying 5=some (.int .u8)) (h3:P.cellsOf 5=1) {n:Nat} {a:E8} {len cap:Nat} {y:DataW H × List MemPlace}
  (h:DataW.trod enc P w base spare held n 33 (Value.slice a len cap).cells.toList=some y):∃ l,Sl w a len l/\len<=cap/\cap<=maxLen:=by
 obtain ⟨_,_,_,l,e,hs,hl⟩:=uP (v := Zy a len cap) h1 h2 h3 h;injection e with e1 e2 e3
 subst e1 e2 e3;exact ⟨l,hs,hl⟩
theorem zV (h0:P.underlying 37=some (.slice 33)) (h1:P.underlying 33=some (.slice 5)) (h2:P.underlying 5=some (.int .u8)) (h3:P.cellsOf 5=1) (h4:P.cellsOf 33=1)
  {n:Nat} {a:E8} {len cap:Nat} {y:DataW H × List MemPlace}
  (h:DataW.trod enc P w base (λ _=>true) held n 37 (Value.slice a len cap).cells.toList=some y):∃ L,Bsc w a len L/\len<=cap/\cap<=maxLen:=by
 obtain ⟨_,_,_,l,e,hs,hl⟩:=sM (v := Zy a len cap) h0 h1 h2 h3 h4 h;injection e with e1 e2 e3
 subst e1 e2 e3;exact ⟨l,hs,hl⟩
end
end Go.Sec
