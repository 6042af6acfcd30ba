/- Lemmas of this claim, several texts joined. -/
import Derived.Maps.OwnOps
import Derived.Maps.Views
import Derived.Test.YtmdahnkcnagkjaaGreatZ7
set_option maxRecDepth 100000
open Go.Value renaming int -> Zz,slice -> Zy
open Go.IntKind renaming i64 -> Zx
set_option maxHeartbeats 8000000
set_option linter.unusedVariables false
set_option linter.unusedSimpArgs false
/- Slices of structs of a number and bytes. -/
namespace Go.Sec
open Go.RowKit
structure Ib (w:World)(a:E8)(n:Nat) (L:List (Int × E7)):Prop where
 len:L.length=n
 row:n=0\/∃ b off,a=some ⟨b,off,none⟩/\b<w.heap.size/\∀ k (hk:k<L.length),∃ g c,w.cell? ⟨b,off+k*2,none⟩=some (Zz Zx (L[k]).1) /\
  w.cell? ⟨b,off+k*2+1,none⟩=some (Zy g (L[k]).2.length c)/\Sl w g (L[k]).2.length (L[k]).2/\(L[k]).2.length<=c
section
variable {w w':World} {x:More} {o:Obj} {a:E8} {n:Nat} {L:List (Int × E7)}
theorem Ib.ext (h:Ib w a n L) (hx:Ext w w'):Ib w' a n L:=by
 refine ⟨h.len,h.row.imp id ?_⟩;rintro ⟨b,off,ha,hb,hc⟩;refine ⟨b,off,ha,aai hb hx.size,λ k hk=>?_⟩;obtain ⟨g,c,h1,h2,h3,h4⟩:=hc k hk;exact ⟨g,c,(hx.cell (p:=⟨b,_,none⟩) hb).trans h1,(hx.cell (p:=⟨b,_,none⟩) hb).trans h2,h3.ext hx,h4⟩
theorem Ib.at (h:Ib w a n L) (k:Nat) (hk:k<n) (x:Int × E7) (hx:L[k]?=some x) :
  ∃ b off g c,a=some ⟨b,off,none⟩/\BlkLt b w/\w.cell? ⟨b,off+k*2,none⟩=some (Zz Zx x.1)/\w.cell? ⟨b,off+k*2+1,none⟩=some (Zy g x.2.length c)/\Sl w g x.2.length x.2/\x.2.length<=c:=by
 rcases h.row with h0|⟨b,off,ha,hb,hc⟩
 ·omega
 ·obtain ⟨hk',rfl⟩:=List.getElem?_eq_some_iff.1 hx;obtain ⟨g,c,h1,h2,h3,h4⟩:=hc k hk';exact ⟨b,off,g,c,ha,⟨hb⟩,h1,h2,h3,h4⟩
theorem Ib.take (h:Ib w a n L) (j:Nat) (hj:j<=n):Ib w a j (L.take j):=by
 refine ⟨by rw [aat,h.len];omega,?_⟩;rcases h.row with h0|⟨b,off,ha,hb,hc⟩
 ·left;omega
 ·refine .inr ⟨b,off,ha,hb,λ k hk=>?_⟩;rw [aat] at hk;obtain ⟨g,c,h1,h2,h3,h4⟩:=hc k Zo;exact ⟨g,c,by simpa using h1,by simpa using h2,by simpa using h3,by simpa using h4⟩
theorem Ib.nil (w:World)(a:E8):Ib w a 0 []:=⟨rfl, .inl rfl⟩
theorem ib1 {g:E8} {m c:Nat} {l:E7} (h:Sl w g m l) (hc:m<=c) (id:Int) (t:TypeId) :
  Ib (w.alloc (.cells #[Zz Zx id, Zy g m c] t)) (some ⟨w.heap.size,0,none⟩) 1 [(id,l)]:=by
 have hx:=FA w (.cells #[Zz Zx id, Zy g m c] t);have hl:=h.len;subst hl;refine ⟨rfl, .inr ⟨_,0,rfl,Zs,λ k hk=>?_⟩⟩
 match k,hk with
 | 0,_=>exact ⟨g,c,by simp [go_sem],by simp [go_sem],h.ext hx,hc⟩
def IbC (w:World):List Value->List (Int × E7)->Prop
 | [],[]=>True
 | Zz Zx id :: Zy g m c :: vs,x :: L=>id=x.1/\Sl w g m x.2/\m<=c/\IbC w vs L
 | _,_=>False
end
/-! ### a look-up in a map of bools that the call makes -/
open Go.Maps (Keyed)
theorem kZ {H:Type} {P:Program} {e:TypeId} (he:P.underlying e=some .bool) {v:Value} {z:DataW H × List MemPlace} (h:plainElem P e v=some z):∃ x,v = .bool x/\z=(.lit (.bool x),[]):=by
 unfold plainElem at h;rw [he] at h;cases v <;> simp at h
 exact ⟨_,rfl,h.symm⟩
theorem eW {H:Type} {P:Program} (w:World){ops:Array Oper} {rest:List Oper} {o:Oper} {a:Act} {Q:Exit->Act->World->Prop}
  (hg:o.guard=none) (m x:Operand) (t:TypeId)(hop:o.op=Op.lookup t m x false)
  (k e:TypeId)(K:Keyed P k) (ht:P.underlying t=some (.map k e)) (he:P.underlying e=some .bool) (hz:(zeroValue e).run P w = .ok (.bool false) w) (b n:Nat) (D:DataW H)
  (hm:a.eval m = .map (some b)) (hown:w.ownsMap P k (plainElem P e) b n D) (key:Value)(kl:Lit) (hx:a.eval x=key) (hkey:keyOf P k key=some kl) (c:Bool) (hc:D.atKey kl (.lit (.bool false)) = .lit (.bool c))
  (hK:wpList P ops Q rest (a.put o.dst (.bool c)) w) :
  wpList P ops Q (o :: rest) a w:=by
 refine wpList_plain hg λ K' hK'=>?_;obtain ⟨v,ps,hrun,hv⟩:=hown.lookup K ht hz (plainElem_bool (H:=H) he false) hkey;obtain ⟨y,rfl,hy⟩:=kZ he hv;simp only [Prod.mk.injEq] at hy;have:c=y:=by
  have:=hy.1;rw [hc] at this;injection this with this
  injection this
 subst this;unfold Oper.wp;simp [execOp,hop,hm,hx,hrun,Result.andThen];exact hK' _ _ hK
def ni {H:Type}:List (Int × E7)->DataW H
 | l=>l.foldl (λ D m=>D.put (.int .i64 m.1) (.lit (.bool true))) (.map [])
theorem s6 {H:Type} (l:List (Int × E7)):Go.Maps.IsMap (ni (H:=H) l):=by
 unfold ni
 suffices ∀ (l:List (Int × E7)) (D:DataW H),Go.Maps.IsMap D->Go.Maps.IsMap (l.foldl (λ D m=>D.put (.int .i64 m.1) (.lit (.bool true))) D) from this l _ Go.Maps.isMap_empty
 intro l
 induction l with
 | nil=>exact λ D h=>h
 | cons m l ih=>exact λ D h=>ih _ (h.put _ _)
theorem oy {H:Type} (l:List (Int × E7)) (m:Int × E7):ni (H:=H) (l++[m])=(ni l).put (.int .i64 m.1) (.lit (.bool true)):=by
 simp [ni]
theorem y6 {H:Type} (l:List (Int × E7)) (id:Int):(ni (H:=H) l).atKey (.int .i64 id) (.lit (.bool false)) = .lit (.bool (decide (id∈l.map (·.1)))):=by
 rw [<- List.reverse_reverse l];generalize l.reverse=r
 induction r with
 | nil=>rfl
 | cons m r ih =>
  rw [List.reverse_cons,oy];by_cases h:id=m.1
  ·subst h;rw [Go.Maps.atKey_put_same (s6 _) (by trivial)];simp
  ·rw [Go.Maps.atKey_put_other (by intro e;injection e with _ e;exact h e),ih];simp [h]
end Go.Sec
