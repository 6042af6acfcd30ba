/- Lemmas of this claim, several texts joined. -/
import Derived.Test.YtmdahnkcnagkjaaGreatZ5
import Derived.Test.YtmdahnkcnagkjaaGreatZ6
set_option maxRecDepth 100000
open Go.Value renaming int -> Zz
open Go.IntKind renaming i64 -> Zx,u32 -> Zv,u8 -> Zu
open List renaming set_cons_zero -> q2q
set_option maxHeartbeats 8000000
set_option linter.unusedVariables false
set_option linter.unusedSimpArgs false
/- The walks of the document's SHA-256. -/
namespace Go.Sec
open Go.RowKit
structure Sw (w:World)(a:E8)(n:Nat) (l:List UInt32):Prop where
 len:l.length=n
 rd:Rd w a (l.map kq)
theorem Sw.ext {w w':World} {a:E8} {n:Nat} {l:List UInt32} (h:Sw w a n l) (hx:Ext w w'):Sw w' a n l:=⟨h.len,h.rd.ext hx⟩
theorem Sw.at {w:World} {a:E8} {n:Nat} {l:List UInt32} (h:Sw w a n l) (k:Nat) (hk:k<n) :
  ∃ b off,a=some ⟨b,off,none⟩/\BlkLt b w/\w.cell? ⟨b,off+k,none⟩=some (Zz Zv (n32 (l.getD k 0))):=by
 have hl:=h.len;obtain ⟨b,off,h1,h2,h3⟩:=h.rd.at k (by simp;omega);refine ⟨b,off,h1,h2,?_⟩;rw [h3];simp [show k<l.length by omega]
def kK (l:List UInt32) (m:Nat):List UInt32:=l++List.replicate (m-l.length) 0
theorem yr (l:List UInt32) (m:Nat) (v:UInt32) (h:l.length<m):(kK l m).set l.length v=kK (l++[v]) m:=by
 unfold kK;rw [List.set_append_right _ _ (aad _),Nat.sub_self,aag,List.length_singleton];obtain ⟨j,hj⟩:∃ j,m-l.length=j+1:=⟨m-l.length-1,Zo⟩;rw [hj,show m-(l.length+1)=j from Zo,List.replicate_succ,q2q,aam];rfl
theorem yW (l:List UInt32) (m k:Nat) (h:k<l.length):(kK l m)[k]?=some (l.getD k 0):=by
 unfold kK;rw [List.getElem?_append_left h];simp [h]
theorem sF (l:List UInt32) (m:Nat) (h:l.length<=m):(kK l m).length=m:=by simp [kK];omega
theorem Blk.there32 {w:World} {g m k:Nat} {T:TypeId} {l:List UInt32} (h:Blk w g T ((kK l m).map kq)) (hl:l.length<=m) (hk:k<m):∃ v,w.cell? ⟨g,k,none⟩=some v :=
 ⟨_,h.cell k (by rw [aaC,sF _ _ hl];exact hk)⟩
theorem Blk.push32 {w:World} {g m k:Nat} {T:TypeId} {l:List UInt32} (h:Blk w g T ((kK l m).map kq)) (hl:l.length=k) (hk:k<m) (v:UInt32):Blk (w.setCell ⟨g,k,none⟩ (Zz Zv (n32 v))) g T ((kK (l++[v]) m).map kq):=by
 have:=h.set k (kq v)
 rwa [<- aaT,<- hl,yr _ _ _ Zo,hl] at this
theorem Blk.at32 {w:World} {g m:Nat} {T:TypeId} {l:List UInt32} (h:Blk w g T ((kK l m).map kq)) (k:Nat) (hk:k<l.length):w.cell? ⟨g,k,none⟩=some (Zz Zv (n32 (l.getD k 0))) :=
 h.cell? k (by rw [List.getElem?_map,yW _ _ _ hk];rfl)
theorem Sl.atD {w:World} {a:E8} {n:Nat} {l:E7} (h:Sl w a n l) (k:Nat) (hk:k<n) :
  ∃ b off,a=some ⟨b,off,none⟩/\BlkLt b w/\w.cell? ⟨b,off+k,none⟩=some (Zz Zu (n8 (l.getD k 0))):=by
 obtain ⟨b,off,h1,h2,h3⟩:=h.at k hk;have:=h.len;exact ⟨b,off,h1,h2,by rw [h3];simp [show k<l.length by omega]⟩
end Go.Sec
namespace Go.Proofs.P9
open Go.RowKit Go.Sec Go.Oct Go.Sha BigFrame
theorem xA (x:UInt32) (k:Nat) (hk:k<32):n32 x / (2:Int) ^ k=n32 (x >>> UInt32.ofNat k):=by
 have:=A7 x k hk
 rwa [Int.natCast_pow] at this
theorem xz (x:UInt32) (k:Nat) (hk:k<32):n32 x*(2:Int) ^ k % 4294967296=n32 (x <<< UInt32.ofNat k):=by
 have e:(x <<< UInt32.ofNat k).toNat=x.toNat*2 ^ k % 4294967296:=by
  exact z6q57
 unfold n32;rw [e];simp
theorem sL (x:UInt32) (n:Nat) (h1:1<=n) (h2:n<=31) (w:World) :
  Calls Tryz.prog 136 #[Zz Zv (n32 x), Zz Zx (n:Int)] w λ e w'=>e = .returned (Zz Zv (n32 (turn x n)))/\Ext w w':=by
 have e1:(32:Int)-(n:Int)=((32-n:Nat):Int):=Zo;have s1:=xA x n Zo;have s2:=xz x (32-n) Zo;have HT:=FC (show turn x n=(x >>> UInt32.ofNat n) ||| (x <<< UInt32.ofNat (32-n)) from rfl);have hw1:IntKind.u64.wrap (n:Int)=(n:Int):=by rw [aaG];omega
 have hw2:IntKind.u64.wrap ((32-n:Nat):Int)=((32-n:Nat):Int):=by rw [aaG];omega
 have e0:IntKind.i64.wrap ((32-n:Nat):Int)=((32-n:Nat):Int):=by rw [aaO];omega
 generalize hm:32-n=m at *
 go_enter Tryz.func136,Tryz.ntmps136
 go_wp2
 go_returns
 exact ⟨by rw [HT.out];rfl,FD _⟩
theorem eF (x:UInt32) (n:Nat) (h1:1<=n) (h2:n<=31) (w:World) :
  Calls Tryz.prog 136 #[Zz Zv (n32 x), Zz Zx (OfNat.ofNat n)] w λ e w'=>e = .returned (Zz Zv (n32 (turn x n)))/\Ext w w':=sL x n h1 h2 w
end Go.Proofs.P9
