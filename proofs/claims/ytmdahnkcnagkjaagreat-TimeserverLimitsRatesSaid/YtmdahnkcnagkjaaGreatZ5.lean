/- Lemmas of this claim, several texts joined. -/
import Derived.Test.YtmdahnkcnagkjaaGreatRows
import Derived.Test.YtmdahnkcnagkjaaGreatZ1
import Derived.Test.YtmdahnkcnagkjaaGreatZ4
set_option maxRecDepth 100000
open List renaming nil_append → q5q
set_option maxHeartbeats 8000000
set_option linter.unusedVariables false
set_option linter.unusedSimpArgs false
/- The walks of the functions on octets. -/
namespace Go.Proofs.YtmdahnkcnagkjaaGreat
open Go.RowKit Go.Sec Go.Oct BigFrame
theorem Ce:(Tryz.prog.info? 5).map (fun i=>(i.zero,i.size,i.bytes))=some (some (.int .u8 0),1,1):=by kernel_rfl
theorem U:U8 Tryz.prog:=⟨Tryz.underlying33,info_parts Ce⟩
theorem hu8:Tryz.prog.underlying 5=some (.int .u8):=Tryz.underlying5
theorem hst:Tryz.prog.underlying 9=some .string:=Tryz.underlying9
theorem jI (v:UInt64) (n:Nat) (w:World)(h1:n≤64) :
  Calls Tryz.prog 56 #[ri v, .int .i64 n] w (cf n (aF n v) w):=by
 have hmk:=dv U n n (aag _) (by omega)
 go_enter Tryz.func56,Tryz.ntmps56
 go_wp2
 go_loopw [0,6] (fun v0 v6 wr=>∃ (k:Nat) (u:UInt64) (l:List UInt8),k≤n∧v6 = .int .i64 ((k:Int)-1)∧v0=ri u∧Hid (l.length=n)∧Hid (aF k u++l.drop k=aF n v)∧Blk wr w.heap.size 5 (l.map u8v)∧Ext w wr) (fun _ v6 _=>(intOf v6+1).toNat)
 case atStart=>exact ⟨n,v,List.replicate n 0,aag _,rfl,rfl,Lib.hid (by simp),Lib.hid (by simp),bX _ _,eX⟩
 case round =>
  obtain ⟨k,u,l,hk,rfl,rfl,hl,hp,hB,hx⟩:=hrel
  by_cases h0:0<k
  ·obtain ⟨j,rfl⟩:∃ j,k=j+1:=⟨k-1,by omega⟩
   have hjl:j<l.length:=by rw [hl.out];omega
   have hc:=hB.cell j (by simpa using hjl)
   have hf:=hB.free j
   haveI:=hB.blt
   go_wp2
   go_roundw
   case rel =>
    refine ⟨j,u >>> 8,l.set j u.toUInt8,by omega,by go_num,rfl,Lib.hid (by rw [List.length_set];exact hl.out),Lib.hid (rG _ _ _ _ hjl hp.out),?_,Ext.setCell hx (by simp) _⟩
    have:=hB.set j (u8v u.toUInt8)
    rwa [← aaX] at this
   case measure=>simp [intOf] <;> omega
  ·obtain rfl:k=0:=by omega
   go_wp2
   go_ret
   have hO:=hB.own (aag _) n (by simp [hl.out]) (by simp [hl.out,maxLen];omega)
   have hp':l=aF n v:=by simpa [aF] using hp.out
   subst hp'
   refine ⟨_,_,rfl,⟨ay _ _,?_⟩,hx⟩
   rw [aaj (by simp [ay])] at hO
   simpa [ay] using hO
theorem fm (w:World):Own (w.alloc (.cells #[] 5)) w.heap.size (some ⟨w.heap.size,0,none⟩) 0 0 [] :=
 ⟨rfl,⟨rfl, .inr ⟨w.heap.size,0,#[],rfl,aag _,heap_alloc_new w _,by simp,by simp,rfl,rfl⟩⟩⟩
theorem bf (a:Option Addr)(n c:Nat) (L:List (List UInt8)) (w:World)(hL:Bss w a n L) (hn:n≤100000) (N:Nat) (hN:(aV L).length=N) (hmax:N≤1000000000) :
  Calls Tryz.prog 55 #[.slice a n c] w (cf N (aV L) w):=by
 go_enter Tryz.func55,Tryz.ntmps55
 go_wp2
 go_loopw [3,4] (fun v3 v4 wr=>∃ (k:Nat) (m:Nat) (sa:Option Addr)(sc:Nat),k≤n∧m≤N∧v4 = .int .i64 k∧v3 = .slice sa m sc∧Own wr w.heap.size sa m sc (aV (L.take k))∧Ext w wr) (fun _ v4 _=>n-(intOf v4).toNat)
 case atStart=>exact ⟨0,0,some ⟨w.heap.size,0,none⟩,0,aan _,aan _,rfl,rfl,fm _,eX⟩
 case round =>
  obtain ⟨k,m,sa,sc,hk,hm,rfl,rfl,hO,hx⟩:=hrel
  by_cases hlt:k<n
  ·obtain ⟨b,off,a',n',c',rfl,hb,hc,hs⟩:=(hL.ext hx).at k hlt
   have hkl:k<L.length:=by rw [hL.len];exact hlt
   have HT:=Lib.hid (kK L k hkl)
   have hle2:m+n'≤N:=by
    have:=ns L (k+1)
    rw [HT.out,aah,hs.len,hO.1] at this
    omega
   go_wp2_with (at_builtin;refine aC U rfl _ _ rfl w.heap.size sa _ sc _ rfl a' n' c' _ rfl hO hs (by omega) hx.size ?_;intro sa2 sc2 w2 hO2 hg2 hB2)
   go_roundw
   case rel=>exact ⟨k+1,_,sa2,sc2,by omega,hle2,by go_num,rfl,by rw [HT.out];exact hO2,Below.trans hx hB2⟩
   case measure=>simp [intOf];omega
  ·obtain rfl:k=n:=by omega
   go_wp2
   go_ret
   rw [lQ L k hL.len] at hO
   have:m=N:=by rw [← hO.1,hN]
   subst this
   exact ⟨_,_,rfl,hO,hx⟩
theorem ed (a:Option Addr)(n c:Nat) (l:List UInt8)(w:World)(hs:Sl w a n l) (hmax:n≤1000000000) :
  Calls Tryz.prog 112 #[.slice a n c] w (cf n l w):=by
 have hnil:=fun W (a:Option Addr)(n c:Nat)=>Lib.run_eql_slice_nil (P:=Tryz.prog) W 33 5 a n c 0 0 Tryz.underlying33
 cases a with
 | none =>
  obtain rfl:l=[]:=by
   rcases hs.by' with h|⟨_,_,h,_⟩
   ·simpa using h
   ·cases h
  obtain rfl:n=0:=hs.len.symm
  go_enter Tryz.func112,Tryz.ntmps112
  go_wp2
  go_ret
  exact ⟨_,_,rfl,Own.nil _ _,eX⟩
 | some ad =>
  go_enter Tryz.func112,Tryz.ntmps112
  go_wp2_with (at_builtin;refine aC U rfl _ _ rfl w.heap.size _ 0 0 [] rfl _ n c _ rfl (fm _) (hs.ext eX) (by omega) (by simp) ?_;intro sa2 sc2 w2 hO2 hg2 hB2)
  go_ret
  simp only [aad,q5q] at hO2
  exact ⟨_,_,rfl,hO2,Below.trans (b:=w.alloc _) eX hB2⟩
end Go.Proofs.YtmdahnkcnagkjaaGreat
