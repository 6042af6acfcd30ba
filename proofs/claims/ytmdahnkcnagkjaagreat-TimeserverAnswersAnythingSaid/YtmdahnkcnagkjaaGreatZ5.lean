/- Lemmas of this claim, several texts joined. -/
import Derived.Test.YtmdahnkcnagkjaaGreatRows
import Derived.Test.YtmdahnkcnagkjaaGreatZ1
import Derived.Test.YtmdahnkcnagkjaaGreatZ4
set_option maxRecDepth 100000
open Go.Value renaming int -> Zz,slice -> Zy
open Go.IntKind renaming i64 -> Zx,u8 -> Zu
open List renaming nil_append -> q5q
set_option maxHeartbeats 8000000
set_option linter.unusedVariables false
set_option linter.unusedSimpArgs false
/- The walks of the functions on octets. -/
namespace Go.Proofs.P9
open Go.RowKit Go.Sec Go.Oct BigFrame
theorem CW:(Tryz.prog.info? 5).map (λ i=>(i.zero,i.size,i.bytes))=some (some (Zz Zu 0),1,1):=Zk
theorem U:U8 Tryz.prog:=⟨Tryz.underlying33,info_parts CW⟩
theorem hu8:Tryz.prog.underlying 5=some (.int .u8):=Tryz.underlying5
theorem hst:Tryz.prog.underlying 9=some .string:=Tryz.underlying9
theorem km (v:UInt64) (n:Nat) (w:World)(h1:n<=64) :
  Calls Tryz.prog 56 #[rI v, Zz Zx n] w (bZ n (aF n v) w):=by
 have hmk:=dc U n n (aad _) Zo
 go_enter Tryz.func56,Tryz.ntmps56
 go_wp2
 go_loopw [0,6] (λ v0 v6 wr=>∃ (k:Nat) (u:UInt64) (l:E7),k<=n/\v6 = Zz Zx ((k:Int)-1)/\v0=rI u/\Hid (l.length=n)/\Hid (aF k u++l.drop k=aF n v)/\Blk wr w.heap.size 5 (l.map u8v)/\Ext w wr) (λ _ v6 _=>(intOf v6+1).toNat)
 case atStart=>exact ⟨n,v,List.replicate n 0,aad _,rfl,rfl,FC Zs,FC Zs,bY _ _,eX⟩
 case round =>
  obtain ⟨k,u,l,hk,rfl,rfl,hl,hp,hB,hx⟩:=hrel;by_cases h0:0<k
  ·obtain ⟨j,rfl⟩:∃ j,k=j+1:=⟨k-1,Zo⟩;have hjl:j<l.length:=by rw [hl.out];omega
   have hc:=hB.cell j (by simpa using hjl);have hf:=hB.free j;haveI:=hB.blt;go_wp2;go_roundw
   case rel =>
    refine ⟨j,u >>> 8,l.set j u.toUInt8,Zo,Zg,rfl,FC (by rw [FI];exact hl.out),FC (tc _ _ _ _ hjl hp.out),?_,Ext.setCell hx Zs _⟩;have:=hB.set j (u8v u.toUInt8)
    rwa [<- aaT] at this
   case measure=>simp [intOf] <;> omega
  ·obtain rfl:k=0:=by omega
   go_wp2;go_ret;have hO:=hB.own (aad _) n (by simp [hl.out]) (by simp [hl.out,maxLen];omega);have hp':l=aF n v:=by simpa [aF] using hp.out
   subst hp';refine ⟨_,_,rfl,⟨aw _ _,?_⟩,hx⟩;rw [aah (by simp [aw])] at hO;simpa [aw] using hO
theorem fy (w:World):Own (w.alloc (.cells #[] 5)) w.heap.size (some ⟨w.heap.size,0,none⟩) 0 0 [] :=
 ⟨rfl,⟨rfl, .inr ⟨w.heap.size,0,#[],rfl,aad _,heap_alloc_new w _,Zs,Zs,rfl,rfl⟩⟩⟩
theorem aR (a:E8)(n c:Nat) (L:List E7) (w:World)(hL:Bss w a n L) (hn:n<=100000) (N:Nat) (hN:(aV L).length=N) (hmax:N<=1000000000) :
  Calls Tryz.prog 55 #[Zy a n c] w (bZ N (aV L) w):=by
 go_enter Tryz.func55,Tryz.ntmps55
 go_wp2
 go_loopw [3,4] (λ v3 v4 wr=>∃ (k:Nat) (m:Nat) (sa:E8)(sc:Nat),k<=n/\m<=N/\v4 = Zz Zx k/\v3 = Zy sa m sc/\Own wr w.heap.size sa m sc (aV (L.take k))/\Ext w wr) (λ _ v4 _=>n-(intOf v4).toNat)
 case atStart=>exact ⟨0,0,some ⟨w.heap.size,0,none⟩,0,aak _,aak _,rfl,rfl,fy _,eX⟩
 case round =>
  obtain ⟨k,m,sa,sc,hk,hm,rfl,rfl,hO,hx⟩:=hrel;by_cases hlt:k<n
  ·obtain ⟨b,off,a',n',c',rfl,hb,hc,hs⟩:=(hL.ext hx).at k hlt;have hkl:k<L.length:=by rw [hL.len];exact hlt
   have HT:=FC (kP L k hkl);have hle2:m+n'<=N:=by
    have:=nV L (k+1);rw [HT.out,aag,hs.len,hO.1] at this;omega
   go_wp2_with (at_builtin;refine aB U rfl _ _ rfl w.heap.size sa _ sc _ rfl a' n' c' _ rfl hO hs Zo hx.size ?_;intro sa2 sc2 w2 hO2 hg2 hB2)
   go_roundw
   case rel=>exact ⟨k+1,_,sa2,sc2,Zo,hle2,Zg,rfl,by rw [HT.out];exact hO2,E9 hx hB2⟩
   case measure=>simp [intOf];omega
  ·obtain rfl:k=n:=by omega
   go_wp2;go_ret;rw [mD L k hL.len] at hO;have:m=N:=by rw [<- hO.1,hN]
   subst this;exact ⟨_,_,rfl,hO,hx⟩
theorem ei (a:E8)(n c:Nat) (l:E7)(w:World)(hs:Sl w a n l) (hmax:n<=1000000000) :
  Calls Tryz.prog 112 #[Zy a n c] w (bZ n l w):=by
 have hnil:=λ W (a:E8)(n c:Nat)=>Lib.run_eql_slice_nil (P:=Tryz.prog) W 33 5 a n c 0 0 Tryz.underlying33;cases a with
 | none =>
  obtain rfl:l=[]:=by
   rcases hs.by' with h|⟨_,_,h,_⟩
   ·simpa using h
   ·cases h
  obtain rfl:n=0:=hs.len.symm
  go_enter Tryz.func112,Tryz.ntmps112
  go_wp2;go_ret;exact ⟨_,_,rfl,Own.nil _ _,eX⟩
 | some ad =>
  go_enter Tryz.func112,Tryz.ntmps112
  go_wp2_with (at_builtin;refine aB U rfl _ _ rfl w.heap.size _ 0 0 [] rfl _ n c _ rfl (fy _) (hs.ext eX) Zo Zs ?_;intro sa2 sc2 w2 hO2 hg2 hB2)
  go_ret;simp only [aaA,q5q] at hO2;exact ⟨_,_,rfl,hO2,E9 (b:=w.alloc _) eX hB2⟩
end Go.Proofs.P9
