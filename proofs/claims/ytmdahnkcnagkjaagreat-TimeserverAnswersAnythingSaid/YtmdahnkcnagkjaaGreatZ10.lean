/- Lemmas of this claim, several texts joined. -/
import Derived.Test.YtmdahnkcnagkjaaGreatZ8
import Derived.Test.YtmdahnkcnagkjaaGreatZ13
import Derived.Test.YtmdahnkcnagkjaaGreatZ17
set_option maxRecDepth 100000
open Go.Value renaming int -> Zz,slice -> Zy
open Go.IntKind renaming i64 -> Zx,u64 -> Zw,u32 -> Zv,u8 -> Zu
open List renaming setIfInBounds_toArray -> q0q, set_cons_succ -> q1q, set_cons_zero -> q2q, nil_append -> q5q, cons_append -> q6q, take_succ_cons -> q8q, take_zero -> q9q, drop_succ_cons -> q10q, drop_zero -> q11q, take_nil -> q12q, drop_nil -> q13q
set_option maxHeartbeats 8000000
set_option linter.unusedVariables false
set_option linter.unusedSimpArgs false
/- The walks of the functions on octets, part three. -/
namespace Go.Proofs.P9
open Go.RowKit Go.Sec Go.Oct BigFrame
def vU (w:World)(n m:Nat) (l k:E7)(e:Ending) (w':World):Prop :=
 ∃ a c b d,e = .returned (.tuple #[Zy a n c, Zy b m d, .bool true])/\Own w' w.heap.size a n c l/\Own w' w.heap.size b m d k/\Ext w w'
theorem uu (a:E8)(n c:Nat) (l:E7)(k:Nat) (w:World)(h:Sl w a n l) (hn:n<=1000000) (hk:k<=n) (hc:n<=c) :
  Calls Tryz.prog 122 #[Zy a n c, Zz Zx k] w (vU w k (n-k) (l.take k) (l.drop k)):=by
 have h1:=h.take k hk;have h2:=h.drop c k hc;have k0:(0:Int)<=(k:Int):=Zo;have k1:(k:Int)<=(c:Int):=Zo;have k2:(k:Int)<=(n:Int):=Zo
 go_enter Tryz.func122,Tryz.ntmps122
 go_wp2;refine R2.ae 11 [[],[],[0,1],[0,1,2],[],[],[4,5],[0,1,2,3,4,5,6],[0,1,2,3,4,5,6,7],[0,1,2,3,4,5,6,7,8],[0,1,2,3,4,5,6,7,8,9]] [] (λ h=>(h rfl).elim) Zk Zk Zk Zk Zk ?_;simp only [q8q,q9q,q10q,q11q,q12q,q13q];(repeat (refine R2.av ?_;(try simp only [Act.put,q0q,q1q,q2q])));(refine R2.ai (λ p => .slice (p 0).1 k (p 0).2) (λ p w''=>Own w'' w.heap.size (p 0).1 k (p 0).2 (l.take k)) (λ p w w' h hx=>h.ext hx) (λ us w' hx hf=>⟨rfl,?_⟩) ?_;(unfold gives;simp [go_sem,execOp];exact az hx.size (ei _ _ _ _ _ (h1.ext hx) Zo)));(repeat (refine R2.av ?_;(try simp only [Act.put,q0q,q1q,q2q])));(refine R2.ai (λ p => .slice (p 0).1 (n-k) (p 0).2) (λ p w''=>Own w'' w.heap.size (p 0).1 (n-k) (p 0).2 (l.drop k)) (λ p w w' h hx=>h.ext hx) (λ us w' hx hf=>⟨rfl,?_⟩) ?_;(unfold gives;simp [go_sem,execOp];exact az hx.size (ei _ _ _ _ _ (h2.ext hx) Zo)));(repeat (refine R2.av ?_;(try simp only [Act.put,q0q,q1q,q2q])));(refine R2.aU ?_;intro us x hx hf);go_wp2
 go_ret3
 exact ⟨_,_,_,_,rfl,hf.1,hf.2,hx⟩
theorem zz (a:E8)(n c:Nat) (k:Int) (w:World)(hk:k<0\/(n:Int)<k) :
  Calls Tryz.prog 122 #[Zy a n c, Zz Zx k] w λ e w'=>e = .returned (.tuple #[Zy none 0 0, Zy none 0 0, .bool false])/\Ext w w':=by
 by_cases h0:k<0
 ·go_enter Tryz.func122,Tryz.ntmps122
  go_wp2
  go_ret3
  exact ⟨rfl,FD _⟩
 ·have h1:(n:Int)<k:=by omega
  go_enter Tryz.func122,Tryz.ntmps122
  go_wp2
  go_ret3
  exact ⟨rfl,FD _⟩
end Go.Proofs.P9

/- The walks of slices.Grow, slices.Concat, and what stands on them. -/
namespace Go.Proofs.P9
open Go.RowKit Go.Sec Go.Oct BigFrame
theorem hint:Tryz.prog.underlying 3=some (.int .i64):=Tryz.underlying3
theorem sY (base:Nat) (a:E8)(n c k:Nat) (l:E7)(w:World)(hO:Own w base a n c l) (hb:base<=w.heap.size) (hk:k<=1000000000) (hn:n<=1000000000) :
  Calls Tryz.prog 169 #[Zy a n c, Zz Zx k] w λ e w'=>∃ a' c',e = .returned (Zy a' n c')/\Own w' base a' n c' l/\Ext w w':=by
 have hle:n<=c/\c<=9223372036854775807:=by
  rcases hO.2.2 with ⟨h1,h2⟩|⟨g,cap,cur,h1,_,_,h2,h3,_⟩
  ·injection h1;omega
  ·injection h1;simp only [maxLen] at h3;omega
 obtain ⟨hle,hc⟩:=hle;by_cases hroom:k<=c-n
 ·have k0:(k:Int)<=(c:Int)-(n:Int):=by omega
  go_enter Tryz.func169,Tryz.ntmps169
  go_wp2;go_ret;exact ⟨_,_,rfl,hO,FD _⟩
 ·obtain ⟨m,hm⟩:∃ m:Nat,m=k-(c-n):=⟨_,rfl⟩;have hm2:(k:Int)-((c:Int)-(n:Int))=(m:Int):=Zo;have hm0:0<m:=Zo;obtain ⟨c',x,hcn,hrun,hO'⟩:=lI U hint w 33 base a n c l hO m hm0 Zo hb;clear hm hroom
  go_enter Tryz.func169,Tryz.ntmps169
  go_wp2_with (at_builtin;refine Lib.wpList_append_run _ rfl _ _ _ _ rfl _ _ rfl rfl _ _ hrun ?_)
  go_ret;exact ⟨_,_,rfl,hO',FE _ _⟩
theorem uv (a:E8)(n c:Nat) (L:List E7) (w:World)(hL:Bss w a n L) (hn:n<=100000) (N:Nat) (hN:(aV L).length=N) (hmax:N<=1000000000) :
  Calls Tryz.prog 155 #[Zy a n c] w (bZ N (aV L) w):=by
 go_enter Tryz.func155,Tryz.ntmps155
 go_wp2
 go_loopw [3,5,11] (λ v3 _ v11 wr=>∃ (k m:Nat),k<=n/\m<=N/\v11 = Zz Zx k/\v3 = Zz Zx m/\Hid ((aV (L.take k)).length=m)/\Ext w wr) (λ _ _ v11 _=>n-(intOf v11).toNat)
 case atStart=>exact ⟨0,0,aak _,aak _,rfl,rfl,FC rfl,FD _⟩
 case round =>
  obtain ⟨k,m,hk,hm,rfl,rfl,hl,hx⟩:=hrel;by_cases hlt:k<n
  ·obtain ⟨b,off,a',n',c',rfl,hb,hc,hs⟩:=(hL.ext hx).at k hlt;have hkl:k<L.length:=by rw [hL.len];exact hlt
   have HT:=FC (kP L k hkl);have hle2:m+n'<=N:=by
    have:=nV L (k+1);rw [HT.out,aag,hs.len,hl.out] at this;omega
   go_wp2;go_roundw
   case rel=>exact ⟨k+1,m+n',Zo,hle2,Zg,Zg,FC (by rw [HT.out,aag,hl.out,hs.len]),hx⟩
   case measure=>simp [intOf];omega
  ·obtain rfl:k=n:=by omega
   have hmN:m=N:=by rw [<- hl.out,mD L k hL.len,hN]
   subst hmN;clear hl;go_wp2_with fail;refine (sY w.heap.size none 0 0 m [] _ (Own.nil _ _) hx.size Zo Zo).mono ?_;rintro e w1 ⟨a1,c1,rfl,hO1,hx1⟩;go_wp2_with fail
   go_loopw [6,8,27] (λ v6 _ v27 wr=>∃ (k' m':Nat) (sa:E8)(sc:Nat),k'<=k/\m'<=m/\v27 = Zz Zx k'/\v6 = Zy sa m' sc/\Own wr w.heap.size sa m' sc (aV (L.take k'))/\Ext w wr) (λ _ _ v27 _=>k-(intOf v27).toNat)
   case atStart=>exact ⟨0,0,a1,c1,aak _,aak _,rfl,rfl,hO1,hx.trans hx1⟩
   case round =>
    obtain ⟨k',m',sa,sc,hk',hm',rfl,rfl,hO,hx2⟩:=hrel;by_cases hlt':k'<k
    ·obtain ⟨b,off,a',n',c',rfl,hb,hc,hs⟩:=(hL.ext hx2).at k' hlt';have hkl:k'<L.length:=by rw [hL.len];exact hlt'
     have HT:=FC (kP L k' hkl);have hle2:m'+n'<=m:=by
      have:=nV L (k'+1);rw [HT.out,aag,hs.len,hO.1] at this;omega
     go_wp2_with (at_builtin;refine aB U rfl _ _ rfl w.heap.size sa _ sc _ rfl a' n' c' _ rfl hO hs Zo hx2.size ?_;intro sa2 sc2 w2 hO2 hg2 hB2)
     go_roundw
     case rel=>exact ⟨k'+1,_,sa2,sc2,Zo,hle2,Zg,rfl,by rw [HT.out];exact hO2,E9 hx2 hB2⟩
     case measure=>simp [intOf];omega
    ·obtain rfl:k'=k:=by omega
     go_wp2;go_ret;rw [mD L k' hL.len] at hO;have:m'=m:=by rw [<- hO.1,hN]
     subst this;exact ⟨_,_,rfl,hO,hx2⟩
theorem gu (a:E8)(n c:Nat) (L:List E7) (w:World)(hL:Bss w a n L) (hn:n<=100000) (N:Nat) (hN:(aV L).length=N) (hmax:N<=1000000000) :
  Calls Tryz.prog 133 #[Zy a n c] w (bZ N (aV L) w):=by
 go_enter Tryz.func133,Tryz.ntmps133
 go_wp2_with (go_at_call 155;refine (uv _ _ _ L _ (hL.ext eX) hn N hN hmax).mono ?_;rintro e w1 ⟨a1,c1,rfl,hO1,hx1⟩)
 go_ret;exact ⟨_,_,rfl,hO1,hx1⟩
theorem vy (a:E8)(n c:Nat) (l:E7)(k:Nat) (w:World)(h:Sl w a n l) (hn:n<=1000000) (hk1:1<=k) (hk:k<=64) (N:Nat) (hN:N=n+(k-n % k) % k) :
  Calls Tryz.prog 135 #[Zy a n c, Zz Zx k] w (bZ N (l++List.replicate (N-n) 0) w):=by
 have hb:=gV h 33 (c1:=c);have kk0:(1:Int)<=(k:Int):=Zo;have kk1:(k:Int)<=64:=Zo;have hNb:N<n+k:=by
  have:=Nat.mod_lt (k-n % k) (show 0<k from Zo);omega
 go_enter Tryz.func135,Tryz.ntmps135
 go_wp2_with fail;refine (aR _ 1 1 [l] _ hb Zo n (by rw [bP,h.len]) Zo).mono ?_;rintro e w1 ⟨a1,c1,rfl,hO1,hx1⟩;rw [bP] at hO1;go_wp2_with fail
 go_loopw [5] (λ v5 wr=>∃ (m:Nat) (sa:E8)(sc:Nat),n<=m/\m<=N/\v5 = Zy sa m sc/\Own wr w.heap.size sa m sc (l++List.replicate (m-n) 0)/\Ext w wr) (λ v5 _=>match v5 with | Zy _ m _=>N-m|_=>0)
 case atStart=>exact ⟨n,a1,c1,aad _,Zo,rfl,by simpa using hO1.mono (base':=w.heap.size) Zs,(FA _ _).trans hx1⟩
 case round =>
  obtain ⟨m,sa,sc,hm0,hm1,rfl,hO,hx⟩:=hrel;by_cases hlt:m<N
  ·have hne:=BL n k m hk1 hm0 Zo;have hmod:((m:Int) % (k:Int) != 0)=true:=by rw [aao];omega
   have hNs:m+1-n=(m-n)+1:=Zo;clear hne;have HN:=FC hN;have HS:=FC hNs;clear hN hNs
   go_wp2_with (at_builtin;refine aB U rfl _ _ rfl w.heap.size sa _ sc _ rfl _ 1 1 _ rfl (hO.ext eX) (bI _ 0 _) Zo (by simp;have:=hx.size;omega) ?_;intro sa2 sc2 w2 hO2 hg2 hB2)
   go_roundw
   case rel=>exact ⟨m+1,sa2,sc2,Zo,Zo,rfl,by rw [HS.out,aby,<- aam];exact hO2,E9 (b:=wr.alloc _) eX hB2⟩
   case measure=>show N-(m+1)<N-m;omega
  ·obtain rfl:m=N:=by omega
   have hz:=zE n k hk1;rw [<- hN] at hz;have hmod:((m:Int) % (k:Int) != 0)=false:=by rw [aaf];omega
   clear hN hz;go_wp2;go_ret;exact ⟨_,_,rfl,hO,hx⟩
end Go.Proofs.P9

/- The walks of AES-128, part three: the keys. -/
namespace Go.Proofs.P9
open Go.RowKit Go.Sec Go.Oct Go.Aes BigFrame
theorem R99:RowT Tryz.prog 207 4:=⟨⟨_,Tryz.underlying207,rfl⟩,Zk,⟨_,Tryz.zeroValue207,rfl⟩⟩
theorem A4 (l:E7)(i:Nat) (h:i+4<=l.length):(l.drop i).take 4=[at' l i,at' l (i+1),at' l (i+2),at' l (i+3)]:=by
 apply abE
 ·simp;omega
 ·intro j h1 h2;simp at h2;have:j=0\/j=1\/j=2\/j=3:=Zo;rcases this with rfl|rfl|rfl|rfl <;> simp <;> rw [bE _ _ Zo]
def pV (ws:E7)(i:Nat):E7 :=
 if i % 4=0 then [sub (at' ws (4*i-3)) ^^^ con (i / 4-1),sub (at' ws (4*i-2)),sub (at' ws (4*i-1)),sub (at' ws (4*i-4))]
 else [at' ws (4*i-4),at' ws (4*i-3),at' ws (4*i-2),at' ws (4*i-1)]
def fJ (ws t:E7)(i r:Nat):UInt8:=at' ws (4*i-16+r) ^^^ at' t r
theorem mP (ws:E7)(i:Nat):(pV ws i).length=4:=by unfold pV;split <;> rfl
theorem vS (ws:E7)(i:Nat) (h4:4<=i) (h:4*i<=ws.length):word ws i=(List.range 4).map (fJ ws (pV ws i) i):=by
 have e1:4*i-4+1=4*i-3:=Zo;have e2:4*i-4+2=4*i-2:=Zo;have e3:4*i-4+3=4*i-1:=Zo;have e4:4*i-16+1=4*i-15:=Zo;have e5:4*i-16+2=4*i-14:=Zo;have e6:4*i-16+3=4*i-13:=Zo;have ht:=A4 ws (4*i-4) Zo;rw [e1,e2,e3] at ht;simp only [word,ht,pV,fJ,aaZ,List.range_zero,q5q,q6q,aa3,abj,e4,e5,e6,abv];split <;> rfl
theorem BE (t:E7)(h:t.length=4) (r:Nat) (hr:r<4) (W:World):(Instr.index 207 (.agg (t.map u8v).toArray) (Zz Zx (r:Int))).run Tryz.prog W = .ok (Zz Zu (n8 (at' t r))) W:=by
 match t,h with
 | [x0,x1,x2,x3],_ =>
  have h:∀ (x0 x1 x2 x3:Value),(Instr.index 207 (.agg #[x0,x1,x2,x3]) (Zz Zx 0)).run Tryz.prog W = .ok x0 W/\(Instr.index 207 (.agg #[x0,x1,x2,x3]) (Zz Zx 1)).run Tryz.prog W = .ok x1 W/\(Instr.index 207 (.agg #[x0,x1,x2,x3]) (Zz Zx 2)).run Tryz.prog W = .ok x2 W/\(Instr.index 207 (.agg #[x0,x1,x2,x3]) (Zz Zx 3)).run Tryz.prog W = .ok x3 W:=λ _ _ _ _=>⟨Zk,Zk,Zk,Zk⟩;obtain ⟨h0,h1,h2,h3⟩:=h (u8v x0) (u8v x1) (u8v x2) (u8v x3);have:r=0\/r=1\/r=2\/r=3:=Zo;rcases this with rfl|rfl|rfl|rfl
  ·exact h0
  ·exact h1
  ·exact h2
  ·exact h3
theorem vM (a:E8)(c:Nat) (ky:E7)(w:World)(h:Sl w a 16 ky) (hc:16<=c) :
  Calls Tryz.prog 172 #[Zy a 16 c] w λ e w'=>∃ g,e = .returned (.pointer (some ⟨g,0,none⟩))/\w.heap.size<=g/\Blk w' g 231 ((expand ky).map u8v)/\Ext w w':=by
 have har:=λ W a len cap=>run_arrayAt (P:=Tryz.prog) W 207 5 4 a len cap Tryz.underlying207;have har2:=λ W a len cap=>run_arrayAt (P:=Tryz.prog) W 219 5 16 a len cap Tryz.underlying219
 go_enter Tryz.func172,Tryz.ntmps172
 go_wp2_with fail;refine (ei _ 16 _ ky _ h Zo).mono ?_;rintro e w1 ⟨a1,c1,rfl,hO1,hx1⟩;go_wp2_with fail;refine (sY w.heap.size a1 16 c1 160 ky _ hO1 hx1.size Zo Zo).mono ?_;rintro e w2 ⟨a2,c2,rfl,hO2,hx2⟩;go_wp2_with fail;have hkl:=h.len
 go_loopw [3,4,5,6] (λ v3 v4 v5 _ wr=>∃ (k:Nat) (sa:E8)(sc:Nat),k<=40/\v5 = Zz Zx ((k+4:Nat):Int)/\v4 = Zz Zu (n8 (con ((k+3) / 4)))/\v3 = Zy sa (16+4*k) sc/\Own wr w.heap.size sa (16+4*k) sc (words ky k)/\Ext w wr) (λ _ _ v5 _ _=>44-(intOf v5).toNat)
 case atStart=>exact ⟨0,a2,c2,Zo,rfl,rfl,rfl,hO2,hx1.trans hx2⟩
 case round =>
  obtain ⟨k,sa,sc,hk,rfl,rfl,rfl,hO,hx⟩:=hrel;by_cases hlt:k<40
  ·obtain ⟨g,vs,rfl,hg,hB,hvl,hnc,hcm,htk⟩:=Blk.of_own hO.2 Zo;have hwl:=dd ky k hkl;have HW:=FC (vS (words ky k) (k+4) Zo Zo);have HS:=FC (show words ky (k+1)=words ky k++word (words ky k) (k+4) from rfl);have HT:=FC (A4 (words ky k) (4*k+12) Zo);generalize words ky k=ws at *;have hR:Rd wr (some ⟨g,4*k+12,none⟩) ([at' ws (4*k+12),at' ws (4*k+13),at' ws (4*k+14),at' ws (4*k+15)].map u8v):=by
    have h1:=((hO.sl.drop (16+4*k) (4*k+12) Zo).take 4 Zo).by';rw [HT.out] at h1;unfold dX at h1;rw [aae Zo] at h1;simp only [Option.map_some,abG,bX,aaA] at h1;exact h1
   have b0:(0:Int)<=4*((k:Int)+4)-4:=Zo;have b1:4*((k:Int)+4)-4<=16+4*(k:Int):=Zo;have b2:(4*((k:Int)+4)-4).toNat=4*k+12:=Zo;have b3:dX (some ⟨g,0,none⟩) sc (4*k+12) 1=some ⟨g,4*k+12,none⟩:=by
    unfold dX;rw [aae Zo];simp [bX]
   have b4:4<=(16+4*k)-(4*k+12):=Zo;have kk0:(0:Int)<=(k:Int):=Zo;have kk1:(k:Int)<40:=Zo;obtain ⟨t,ht⟩:∃ t,Hid (t=pV ws (k+4)):=⟨_,FC rfl⟩;have htl:t.length=4:=by rw [ht.out];exact mP _ _
   have hix:=BE t htl;have hcon:∃ x1,Hid (x1=con ((k+3) / 4)):=⟨_,FC rfl⟩;obtain ⟨x1,hx1'⟩:=hcon;rw [<- hx1'.out];have hbx:=vH;unfold box at hbx;have hxw:=hx;by_cases h0:k % 4=0
   case' pos =>
    have hmod:((k:Int) % 4 == 0)=true:=by rw [aa5];omega
    have hx4:=FC (show con ((k+1+3) / 4)=dbl x1 by
     rw [hx1'.out,show (k+1+3) / 4=(k+3) / 4+1 by omega];rfl)
    have ht2:=FC (show t=[sub (at' ws (4*k+13)) ^^^ x1,sub (at' ws (4*k+14)),sub (at' ws (4*k+15)),sub (at' ws (4*k+12))] by
     rw [ht.out,hx1'.out];unfold pV;rw [aaj Zo];rw [show 4*(k+4)-4=4*k+12 from Zo,show 4*(k+4)-3=4*k+13 from Zo,show 4*(k+4)-2=4*k+14 from Zo,show 4*(k+4)-1=4*k+15 from Zo,show (k+4) / 4-1=(k+3) / 4 by omega])
    go_wp2_with (first
     | (refine af R99 rfl _ rfl g ((4*k+12)) rfl ([at' ws (4*k+12),at' ws (4*k+13),at' ws (4*k+14),at' ws (4*k+15)].map u8v) hR rfl ?_)
     | (refine ag R99 rfl rfl _ _ rfl rfl rfl rfl (by simp [Act.put]) ([at' ws (4*k+12),at' ws (4*k+13),at' ws (4*k+14),at' ws (4*k+15)].map u8v) rfl Zs rfl (aH _) ?_;intro xb hBx _))
    have c0:=hBx.cell? 0 rfl;have c1:=hBx.cell? 1 rfl;have c2:=hBx.cell? 2 rfl;have c3:=hBx.cell? 3 rfl;refine R2.ae 15 [[],[0],[0,1],[],[0,1,2,3],[],[5],[5,6],[],[8],[8,9],[],[11],[11,12],[0,1,2,3,4,5,6,7,8,9,10,11,12,13],[0,1,2,3,4,5,6,7,8,9,10,11,12,13,14]] [] (λ h=>(h rfl).elim) Zk Zk Zk Zk Zk ?_;simp only [q8q,q9q,q10q,q11q,q12q,q13q];(repeat (refine R2.av ?_;(try simp only [Act.put,q0q,q1q,q2q])));(refine R2.aU ?_;intro us x hx hf);(refine aa R99 rfl _ _ rfl wr.heap.size 0 rfl ([sub (at' ws (4*k+13)) ^^^ x1,sub (at' ws (4*k+14)),sub (at' ws (4*k+15)),sub (at' ws (4*k+12))].map u8v) rfl 207 _ (hBx.ext _) rfl Zs (by first|exact aH _|(simp;done)|(simp;(repeat' (first|rfl|constructor)))) ?_;intro ws2 hB2 hM2);have hB3:Blk ws2 wr.heap.size 207 (t.map u8v):=by rw [ht2.out];simpa using hB2
    have hxs:Ext wr ws2:=E9 (b:=wr.ext xb) (FE _ _) (((Mut.of_ext (FE _ _)).trans hM2).below (aad _) (FE wr xb).size)
    go_wp2_with (first
     | (refine af R99 rfl _ rfl wr.heap.size 0 rfl (t.map u8v) ((hB3.ext _).rd) ((by simp [htl])) ?_)
     | (go_at_call 179;refine (lF x1 _).mono ?_;rintro e w1 ⟨rfl,hxq⟩;obtain ⟨xq,rfl⟩:=hxq.out;clear hxq))
    have hxo:=hxs.trans (FE ws2 xq)
   case' neg =>
    have hmod:((k:Int) % 4 == 0)=false:=by rw [aar];omega
    have hx4:=FC (show con ((k+1+3) / 4)=x1 by
     rw [hx1'.out,show (k+1+3) / 4=(k+3) / 4 by omega])
    have ht2:=FC (show t=[at' ws (4*k+12),at' ws (4*k+13),at' ws (4*k+14),at' ws (4*k+15)] by
     rw [ht.out];unfold pV;rw [aae Zo];rw [show 4*(k+4)-4=4*k+12 from Zo,show 4*(k+4)-3=4*k+13 from Zo,show 4*(k+4)-2=4*k+14 from Zo,show 4*(k+4)-1=4*k+15 by omega])
    go_wp2_with (first
     | (refine af R99 rfl _ rfl wr.heap.size 0 rfl (t.map u8v) ((by rw [ht2.out];exact hBx.rd)) ((by simp [htl])) ?_)
     | (refine af R99 rfl _ rfl g ((4*k+12)) rfl ([at' ws (4*k+12),at' ws (4*k+13),at' ws (4*k+14),at' ws (4*k+15)].map u8v) hR rfl ?_)
     | (refine ag R99 rfl rfl _ _ rfl rfl rfl rfl (by simp [Act.put]) ([at' ws (4*k+12),at' ws (4*k+13),at' ws (4*k+14),at' ws (4*k+15)].map u8v) rfl Zs rfl (aH _) ?_;intro x hBx _))
    have hxo:=FE wr x
   all_goals
    clear hbx hmod;have hF:∀ r,r<4->Hid (fJ ws t (k+4) r=at' ws (4*k+r) ^^^ at' t r):=λ r hr=>FC (by
     unfold fJ;rw [show 4*(k+4)-16+r=4*k+r by omega])
    obtain ⟨wq,rfl⟩:∃ wq:World,wq=wr:=⟨_,rfl⟩
    go_loopw [3,47] (λ v3 v47 wi=>∃ (r:Nat) (sa2:E8)(sc2:Nat),r<=4/\v47 = Zz Zx r/\v3 = Zy sa2 (16+4*k+r) sc2/\Own wi w.heap.size sa2 (16+4*k+r) sc2 (ws++(List.range r).map (fJ ws t (k+4)))/\Ext w wi) (λ _ v47 _=>4-(intOf v47).toNat)
    case atStart=>exact ⟨0,some ⟨g,0,none⟩,sc,Zo,rfl,rfl,by simpa using hO.ext hxo,hxw.trans hxo⟩
    case round =>
     obtain ⟨r,sa2,sc2,hr,rfl,rfl,hOi,hxi⟩:=hrel;by_cases hr4:r<4
     ·have hFr:=hF r hr4;have hixr:=hix r hr4;obtain ⟨bb,oo,rfl,hbb,hcell⟩:=hOi.sl.at (4*k+r) Zo;have hval:(ws++(List.range r).map (fJ ws t (k+4)))[4*k+r]'(by simp;omega)=at' ws (4*k+r):=by
       rw [abf Zo,bE _ _ Zo]
      rw [hval] at hcell;have j0:(0:Int)<=4*((k:Int)+4)-16+(r:Int):=Zo;have j1:4*((k:Int)+4)-16+(r:Int)<16+4*(k:Int)+(r:Int):=Zo;have j2:(4*((k:Int)+4)-16+(r:Int)).toNat=4*k+r:=Zo;have hr0:(r:Int)<4:=Zo;clear hval hix hF
      go_wp2_with (at_builtin;refine aB U rfl _ _ rfl w.heap.size (some ⟨bb,oo,none⟩) _ sc2 _ rfl _ 1 1 _ rfl (hOi.ext eX) (bI _ _ _) Zo (by simp;have:=hxi.size;omega) ?_;intro sa3 sc3 w3 hO3 hg3 hB3')
      go_roundw
      case rel =>
       refine ⟨r+1,sa3,sc3,Zo,Zg,rfl,?_,E9 (b:=wr.alloc _) eX hB3'⟩;rw [aaZ,aaK,<- aam,aa3,abj,hFr.out];exact hO3
      case measure=>simp [intOf];omega
     ·obtain rfl:r=4:=by omega
      clear hix hF;go_wp2;go_roundw
      case rel =>
       refine ⟨k+1,sa2,sc2,Zo,Zg,by rw [hx4.out],rfl,?_,hxi⟩;rw [HS.out,HW.out,<- ht.out];exact hOi
      case measure=>simp [intOf];omega
  ·obtain rfl:k=40:=by omega
   simp only [Nat.reduceMul,Nat.reduceAdd,Nat.reduceDiv,aan];obtain ⟨g,vs,rfl,hg,hB,hvl,hnc,hcm,htk⟩:=Blk.of_own hO.2 Zo;have hwl:(words ky 40).length=176:=dd ky 40 hkl;have hO:Own wr w.heap.size (some ⟨g,0,none⟩) 176 sc (words ky 40):=hO;have hnc:176<=sc:=hnc;clear htk;have HE:=FC (show expand ky=words ky 40 from rfl);generalize words ky 40=ks at *;have hz:Blk (wr.alloc (.cells Tryz.zeroCells231 231)) wr.heap.size 231 ((fp ks 176 0).map u8v):=by
    have:=Blk.new wr Tryz.zeroCells231 231;rw [tG];have e:Tryz.zeroCells231.toList=(List.replicate 176 (0:UInt8)).map u8v:=Zk
    rwa [e] at this
   obtain ⟨wq,rfl⟩:∃ wq:World,wq=wr:=⟨_,rfl⟩;go_wp2
   go_loopw [67] (λ v67 wi=>∃ r:Nat,r<=11/\v67 = Zz Zx r/\Blk wi wq.heap.size 231 ((fp ks 176 (16*r)).map u8v)/\Ext wq wi) (λ v67 _=>11-(intOf v67).toNat)
   case atStart=>exact ⟨0,Zo,rfl,hz,FA _ _⟩
   case round =>
    obtain ⟨r,hr,rfl,hBr,hxr⟩:=hrel;by_cases hr4:r<11
    ·have hR:=(((hO.ext hxr).sl.drop 176 (16*r) Zo).take 16 Zo).by';have b3:dX (some ⟨g,0,none⟩) 176 (16*r) 1=some ⟨g,16*r,none⟩:=by
      unfold dX;rw [aae Zo];simp [bX]
     rw [b3] at hR;have b4:dX (some ⟨g,0,none⟩) sc (16*r) 1=some ⟨g,16*r,none⟩:=by
      unfold dX;rw [aae Zo];simp [bX]
     have b6:¬ sc=16*r:=Zo;have b5:16<=176-16*r:=Zo;have r0:(0:Int)<=(r:Int):=Zo;have r1:(r:Int)<11:=Zo;have r2:(16*(r:Int)).toNat=16*r:=Zo;have r3:(16*(r:Int))<=176:=Zo;have hal:Tryz.prog.arrayLen 229=11:=Zk;have hcl:((ks.drop (16*r)).take 16).length=16:=by simp;omega
     have hR2:Rd wr (some ⟨g,16*r,none⟩) (((ks.drop (16*r)).take 16).map u8v):=hR;have HS:=FC (sP ks 176 (16*r) 16 hwl Zo);have HL:=FC (pX ks 176 (16*r) hwl Zo);obtain ⟨bs,hbs⟩:∃ bs,bs=(ks.drop (16*r)).take 16:=⟨_,rfl⟩;rw [<- hbs] at hR2 hcl HS;clear hbs hR;clear hB;obtain ⟨fl,hfl⟩:∃ fl,Hid (fl=fp ks 176 (16*r)):=⟨_,FC rfl⟩;rw [<- hfl.out] at hBr HS HL;go_wp2;refine R2.ae 11 [[],[],[],[],[3],[2,3,4],[2,3,4,5],[2,3,4,5,6],[0],[0,8],[0,1,2,3,4,5,6,7,8,9],[0,1,2,3,4,5,6,7,8,9,10]] [] (λ h=>(h rfl).elim) Zk Zk Zk Zk Zk ?_;simp only [q8q,q9q,q10q,q11q,q12q,q13q];(repeat (refine R2.av ?_;(try simp only [Act.put,q0q,q1q,q2q])));(refine R2.ao R60 _ rfl (λ _=>rfl) g (16*r) (λ _=>by simp [go_sem]) (bs.map u8v) hR2 ((by simpa using hcl)) ?_);(repeat (refine R2.av ?_;(try simp only [Act.put,q0q,q1q,q2q])));(refine R2.aU ?_;intro us x hx hf);(refine aa R60 rfl _ _ rfl wq.heap.size (r*16) rfl (bs.map u8v) rfl _ _ (hBr.ext _) (by simpa using hcl) (by rw [aaC,HL.out];omega) (aH _) ?_;intro ws2 hB2 hM2);go_wp2;go_roundw
     case rel =>
      refine ⟨r+1,Zo,Zg,?_,E9 (b:=wr.ext x) (hxr.trans (FE _ _)) (hM2.below (aad _) ((hxr.trans (FE wr x)).size))⟩;rw [show 16*(r+1)=16*r+16 from Zo,<- HS.out,show 16*r=r*16 by omega];exact hB2
     case measure=>simp [intOf];omega
    ·obtain rfl:r=11:=by omega
     go_wp2;go_ret;rw [ur _ _ hwl,<- HE.out] at hBr;exact ⟨_,rfl,hx.size,hBr,hx.trans hxr⟩
end Go.Proofs.P9

/- The walks of layer 4: products, the S-box, one block; the document's products and S-box; the sanity check. -/
namespace Go.Proofs.P9
open Go.RowKit Go.Sec Go.Oct Go.Aes BigFrame
theorem je (x y:UInt8) (w:World) :
  Calls Tryz.prog 157 #[Zz Zu (n8 x), Zz Zu (n8 y)] w λ e w'=>e = .returned (Zz Zu (n8 (mul x y)))/\Ext w w':=by
 go_enter Tryz.func157,Tryz.ntmps157
 go_wp2
 go_loopw [0,1,5,6] (λ v0 v1 v5 v6 wr=>∃ k:Nat,k<=8/\v0 = Zz Zu (n8 (dJ k x))/\v1 = Zz Zu (n8 (iV k y))/\v5 = Zz Zu (n8 (cM x y k))/\v6 = Zz Zx k/\Ext w wr) (λ _ _ _ v6 _=>8-(intOf v6).toNat)
 case atStart=>exact ⟨0,Zo,rfl,rfl,rfl,rfl,FD _⟩
 case round =>
  obtain ⟨k,hk,rfl,rfl,rfl,rfl,hx⟩:=hrel;by_cases hlt:k<8
  ·have HS:=FC (show cM x y (k+1)=cM x y k ^^^ tk y k (dJ k x) from rfl);have HR:=FC (show iV (k+1) y=iV k y >>> 1 from rfl);have HD:=FC (show dJ (k+1) x=dbl (dJ k x) from rfl);have HT:=FC (show tk y k (dJ k x)=if iV k y &&& 1 == 1 then dJ k x else 0 from rfl);generalize dJ k x=xk at *;generalize cM x y k=o at *;generalize iV k y=yk at *;have HB:=FC (show dbl xk=if xk &&& 128 != 0 then (xk <<< 1) ^^^ 27 else xk <<< 1 from rfl);cases h1:(yk &&& 1 == 1) <;> cases h2:(xk &&& 128 != 0)
   all_goals
    go_wp2;go_roundw
    case rel=>exact ⟨k+1,Zo,by rw [HD.out,HB.out,h2];rfl,by rw [HR.out],by rw [HS.out,HT.out,h1];simp,Zg,hx⟩
    case measure=>simp [intOf];omega
  ·obtain rfl:k=8:=by omega
   have HE:=FC (mul_eq x y);go_wp2
   go_returns
   exact ⟨by rw [HE.out];rfl,hx⟩
theorem lR (x:UInt8) (k:Nat) (h0:1<=k) (h1:k<=4) (w:World) :
  Calls Tryz.prog 170 #[Zz Zu (n8 x), Zz Zx k] w λ e w'=>e = .returned (Zz Zu (n8 (lft x k)))/\Ext w w':=by
 obtain rfl|rfl|rfl|rfl:k=1\/k=2\/k=3\/k=4:=Zo
 all_goals
  go_enter Tryz.func170,Tryz.ntmps170
  go_wp2
  go_returns
  exact ⟨rfl,FD _⟩
end Go.Proofs.P9

namespace Go.Proofs.P9
open Go.RowKit Go.Sec Go.Oct Go.Aes BigFrame
def k0:E7:=[0,1,2,3,4,5,6,7,8,9,10,11,12,13,14,15]
def i0:E7:=[0x00,0x11,0x22,0x33,0x44,0x55,0x66,0x77,0x88,0x99,0xaa,0xbb,0xcc,0xdd,0xee,0xff]
def o0:E7:=[0x69,0xc4,0xe0,0xd8,0x6a,0x7b,0x04,0x30,0xd8,0xcd,0xb7,0x80,0x70,0xb4,0xc5,0x5a]
def s1:E7:=[48,48,48,49,48,50,48,51,48,52,48,53,48,54,48,55,48,56,48,57,48,97,48,98,48,99,48,100,48,101,48,102]
def s2:E7:=[48,48,49,49,50,50,51,51,52,52,53,53,54,54,55,55,56,56,57,57,97,97,98,98,99,99,100,100,101,101,102,102]
def s3:E7:=[54,57,99,52,101,48,100,56,54,97,55,98,48,52,51,48,100,56,99,100,98,55,56,48,55,48,98,52,99,53,53,97]
theorem hv1:∀ k,(h:k<s1.length)->0<=Lib.indexByte digits s1[k]:=by decide +kernel
theorem hv2:∀ k,(h:k<s2.length)->0<=Lib.indexByte digits s2[k]:=by decide +kernel
end Go.Proofs.P9

/- The document's SHA-256: the constants, the end, the whole. -/
namespace Go.Proofs.P9
open Go.RowKit Go.Sec Go.Oct Go.Sha BigFrame
theorem oS (w:World):Calls Tryz.prog 96 #[] w λ e w'=>∃ a c,e = .returned (Zy a 64 c)/\Sw w' a 64 ks/\Ext w w':=by
 go_enter Tryz.func96,Tryz.ntmps96
 go_wp2;go_ret;exact ⟨_,_,rfl,⟨rfl,(Blk.new _ _ _).rd⟩,eX⟩
theorem xm (w:World):Calls Tryz.prog 95 #[] w λ e w'=>∃ a c,e = .returned (Zy a 8 c)/\Sw w' a 8 h0/\Ext w w':=by
 go_enter Tryz.func95,Tryz.ntmps95
 go_wp2;go_ret;exact ⟨_,_,rfl,⟨rfl,(Blk.new _ _ _).rd⟩,eX⟩
theorem zq (v:UInt64) (n:Nat) {vI nI:Int} (hv:vI=n64 v) (hn:nI=(n:Int)) (w:World)(h1:n<=64):Calls Tryz.prog 56 #[Zz Zw vI, Zz Zx nI] w (bZ n (aF n v) w):=by
 subst hv hn;exact km v n w h1
theorem Bz (count:Nat) (hc:count<=1152921504606846976):(count:Int)*8=n64 (UInt64.ofNat (count*8)):=by
 unfold n64;rw [aaH];omega
theorem uO (a ar:E8)(ch nr cr count:Nat) (h:List UInt32) (rest:E7)(w:World)(Hh:Sw w a 8 h) (Hr:Sl w ar nr rest) (hn:nr<=1000000) (hc:count<=1152921504606846976) :
  Calls Tryz.prog 98 #[Zy a 8 ch, Zy ar nr cr, Zz Zx count] w (bZ 32 (fin h rest count) w):=by
 have hc8:=FC (Bz count hc)
 go_enter Tryz.func98,Tryz.ntmps98
 go_wp2_with fail;refine (oS _).mono ?_;rintro e w1 ⟨ak,ck,rfl,Hk,hx1⟩;go_wp2_with fail;refine (aR _ 1 1 [rest] _ (gV (Hr.ext hx1) _) Zo nr (by rw [bP,Hr.len]) Zo).mono ?_;rintro e w2 ⟨a2,c2,rfl,hO2,hx2⟩;rw [bP] at hO2;have hx2':Ext w1 w2:=Ext.trans (Ext.alloc (FD _) _) hx2
 go_wp2_with (at_builtin;refine aB U rfl _ _ rfl w1.heap.size a2 _ c2 _ rfl _ 1 1 _ rfl ((hO2.mono Zs).ext eX) (bI _ 128 _) Zo (by simp;have:=hx2'.size;omega) ?_;intro a3 c3 w3 hO3 hg3 hB3)
 have hx3:Ext w1 w3:=E9 (b:=w2.alloc _) (Ext.alloc hx2' _) hB3;clear hB3 hg3
 go_loopw [8] (λ v8 wr=>∃ (m:Nat) (sa:E8)(sc:Nat),m<=jG nr/\v8 = Zy sa (nr+1+m) sc/\Own wr w1.heap.size sa (nr+1+m) sc (rest++[128]++List.replicate m 0)/\Ext w1 wr) (λ v8 _=>match v8 with | Zy _ m _=>nr+1+jG nr-m|_=>0)
 case atStart=>exact ⟨0,a3,c3,Zo,rfl,by simpa using hO3,hx3⟩
 case round =>
  obtain ⟨m,sa,sc,hm,rfl,hO,hx⟩:=hrel;have htl:=zD nr;by_cases hlt:m<jG nr
  ·have hne:=Au nr m hlt;have hmod:(((nr:Int)+1+(m:Int)) % 64 != 56)=true:=by rw [aao];omega
   clear hne;have htl2:=FC htl;clear htl
   go_wp2_with (at_builtin;refine aB U rfl _ _ rfl w1.heap.size sa _ sc _ rfl _ 1 1 _ rfl (hO.ext eX) (bI _ 0 _) (by have:=htl2.out;omega) (by simp;have:=hx.size;omega) ?_;intro sa2 sc2 w2 hO2 hg2 hB2)
   go_roundw
   case rel=>exact ⟨m+1,sa2,sc2,Zo,rfl,by rw [aby,<- aam];exact hO2,E9 (b:=wr.alloc _) eX hB2⟩
   case measure=>show _-(nr+1+m+1)<_-(nr+1+m);omega
  ·obtain ⟨q,hq⟩:∃ q,q=jG nr:=⟨_,rfl⟩;have hst:=xE nr;obtain rfl:m=q:=Zo;rw [<- hq] at htl hst;have hmod:(((nr:Int)+1+(m:Int)) % 64 != 56)=false:=by rw [aaf];omega
   have HT:=FC (show nq rest count=rest++[128]++List.replicate m 0++aF 8 (UInt64.ofNat (count*8)) by rw [hq,<- Hr.len];rfl);have HL:nr+1+m+8=64*((nr+1+m+8) / 64):=Zo;obtain ⟨nb,hnb⟩:∃ nb,nb=(nr+1+m+8) / 64:=⟨_,rfl⟩;rw [<- hnb] at HL;have HL2:=FC HL;have HF:=FC (show fin h rest count=Cb (blocks h (nq rest count) nb) by unfold fin;rw [rm,Hr.len,<- hq,hnb]);have hnbB:nb<=1000000:=Zo;clear hst hq HL hlt hm hnb;go_wp2_with fail;(with_reducible refine (zq (UInt64.ofNat (count*8)) 8 hc8.out Zo _ Zo).mono ?_);rintro e w4 ⟨a4,c4,rfl,hO4,hx4⟩
   go_wp2_with (at_builtin;refine aB U rfl _ _ rfl w1.heap.size sa _ sc _ rfl _ 8 _ _ rfl (hO.ext hx4) hO4.sl Zo (by have:=hx.size;have:=hx4.size;omega) ?_;intro a5 c5 w5 hO5 hg5 hB5)
   rw [<- HT.out] at hO5;have hx5:Ext w1 w5:=E9 (b:=w4) (hx.trans hx4) hB5;have hle5:=hO5.le;rw [HL2.out] at hO5 hle5 ⊢;obtain ⟨T,hT⟩:∃ T,T=nq rest count:=⟨_,rfl⟩;rw [<- hT] at HF hO5;clear HT hT HL2;have Hh5:=Hh.ext (hx1.trans hx5);have Hk5:Sw w5 ak 64 ks:=Hk.ext hx5;obtain ⟨wq,rfl⟩:∃ wq:World,wq=w5:=⟨_,rfl⟩;go_wp2
   go_loopw [0,9] (λ v0 v9 wr=>∃ (k:Nat) (ah:E8)(ch':Nat),k<=nb/\v9 = Zz Zx (64*(k:Int))/\v0 = Zy ah 8 ch'/\Sw wr ah 8 (blocks h T k)/\Ext wq wr) (λ _ v9 _=>64*nb-(intOf v9).toNat)
   case atStart=>exact ⟨0,a,ch,Zo,rfl,rfl,Hh5,FD _⟩
   case round =>
    obtain ⟨k,ah,ch',hk,rfl,rfl,Hhk,hxk⟩:=hrel;by_cases hlt:k<nb
    ·have HB:=FC (show blocks h T (k+1)=block (blocks h T k) ((T.drop (64*k)).take 64) from rfl);have HS:=((hO5.ext hxk).sl.drop c5 (64*k) Zo).take 64 Zo;go_wp2_with fail;(with_reducible refine (pB _ _ _ _ _ _ _ _ _ Hhk (Hk5.ext hxk) HS).mono ?_);rintro e w6 ⟨a6,c6,rfl,H6,hx6⟩;go_wp2;go_roundw
     case rel=>exact ⟨k+1,a6,c6,Zo,Zg,rfl,by rw [HB.out];exact H6,hxk.trans hx6⟩
     case measure=>simp [intOf];omega
    ·obtain rfl:k=nb:=by omega
     have HO:=FC (show Cb (blocks h T k)=ph (blocks h T k) 8 from rfl);generalize blocks h T k=hs at *;go_wp2;obtain ⟨wp,rfl⟩:∃ wp:World,wp=wr:=⟨_,rfl⟩
     go_loopw [10,11] (λ v10 v11 wr=>∃ (i:Nat) (so:E8)(co:Nat),i<=8/\v11 = Zz Zx i/\v10 = Zy so (4*i) co/\Own wr wp.heap.size so (4*i) co (ph hs i)/\Ext wp wr) (λ _ v11 _=>8-(intOf v11).toNat)
     case atStart=>exact ⟨0,_,_,Zo,rfl,rfl,fy _,eX⟩
     case round =>
      obtain ⟨i,so,co,hi,rfl,rfl,hOo,hxo⟩:=hrel;by_cases hlt2:i<8
      ·have HU:=FC (og hs i);obtain ⟨b9,o9,rfl,hb9,hc0⟩:=(Hhk.ext hxo).at i Zo;have i0:(0:Int)<=(i:Int):=Zo;have i1:(i:Int)<8:=Zo;obtain ⟨x,hxx⟩:∃ x,Hid (x=w' hs i):=⟨_,FC rfl⟩;have hc9:wr.cell? ⟨b9,o9+i,none⟩=some (Zz Zv (n32 x)):=by rw [hxx.out];exact hc0
       clear hc0;go_wp2_with fail;(with_reducible refine (zq x.toUInt64 4 (by rfl) Zo _ Zo).mono ?_);rintro e w7 ⟨a7,c7,rfl,hO7,hx7⟩
       go_wp2_with (at_builtin;refine aB U rfl _ _ rfl wp.heap.size so _ co _ rfl _ 4 _ _ rfl (hOo.ext hx7) hO7.sl Zo (by have:=hxo.size;have:=hx7.size;omega) ?_;intro a8 c8 w8 hO8 hg8 hB8)
       go_roundw
       case rel=>exact ⟨i+1,a8,c8,Zo,Zg,rfl,by rw [HU.out,<- hxx.out];exact hO8,E9 (b:=w7) (hxo.trans hx7) hB8⟩
       case measure=>simp [intOf];omega
      ·obtain rfl:i=8:=Zo;(try simp only [Nat.reduceAdd,Nat.reduceMul,Nat.reduceDiv,Nat.reduceSub,aan]);go_wp2;go_ret;have hxa:=hx1.trans (hx5.trans (hxk.trans hxo));exact ⟨_,_,rfl,by rw [HF.out,HO.out];exact hOo.mono (hx1.trans (hx5.trans hxk)).size,hxa⟩
end Go.Proofs.P9

/- The walks of the statements' own kit: numbers within bounds. -/
namespace Go.Proofs.P9
open Go.RowKit Go.Sec Go.Oct BigFrame
theorem AX {k:IntKind} {a b:Int} (h:a=b):Ending.returned (.int k a) = .returned (.int k b):=by rw [h]
theorem uh (v m:Int) (hm:1<=m) : -m<v.tmod m/\v.tmod m<m/\(0<=v.tmod m->v % m=v.tmod m)/\(v.tmod m<0->v % m=v.tmod m+m):=by
 have h1:=aa6 v (show m≠0 from Zo);have h2:=aaQ v (show 0<m from Zo);rw [Int.tmod_eq_emod];split
 ·omega
 ·have:(m.natAbs:Int)=m:=by omega
  rename_i h;have h3:v % m≠0:=λ h0=>h (.inr (Int.dvd_of_emod_eq_zero h0));omega
end Go.Proofs.P9

/- The document's SHA-256: the whole; the bytes of the statements' kit. -/
namespace Go.Proofs.P9
open Go.RowKit Go.Sec Go.Oct Go.Sha BigFrame
theorem nR (a:E8)(n c:Nat) (b:E7)(w:World)(Hb:Sl w a n b) (hnc:n<=c) (hn:n<=1000000) :
  Calls Tryz.prog 54 #[Zy a n c] w (bZ 32 (sha b) w):=by
 obtain ⟨nb,hnb⟩:∃ nb,nb=n / 64:=⟨_,rfl⟩;have hlen:=FC Hb.len;have h64:64*nb<=n:=Zo;have hdiv:(n:Int) / 64=(nb:Int):=Zo;have h1:nb<=1000000:=Zo;have h2:(n:Int)-64*(nb:Int)<=63:=Zo;have HF:=FC (show sha b=fin (blocks h0 b nb) (b.drop (64*nb)) n by unfold sha;rw [Hb.len,<- hnb,Nat.mul_comm]);have hdiv2:=FC hdiv;clear hnb hdiv
 go_enter Tryz.func54,Tryz.ntmps54
 go_wp2_with fail;refine (xm _).mono ?_;rintro e w1 ⟨ah,ch,rfl,Hh,hx1⟩;go_wp2_with fail;refine (oS _).mono ?_;rintro e w2 ⟨ak,ck,rfl,Hk,hx2⟩;have hdiv3:=hdiv2.out;have hm:(nb:Int)*64=64*(nb:Int):=Zo;go_wp2;have Hh2:=Hh.ext hx2;have Hb2:=Hb.ext (hx1.trans hx2);clear hdiv3 hm
 go_loopw [3,6] (λ v3 v6 wr=>∃ (k:Nat) (ah:E8)(ch':Nat),k<=nb/\v6 = Zz Zx (64*(k:Int))/\v3 = Zy ah 8 ch'/\Sw wr ah 8 (blocks h0 b k)/\Ext w2 wr) (λ _ v6 _=>64*nb-(intOf v6).toNat)
 case atStart=>exact ⟨0,ah,ch,Zo,rfl,rfl,Hh2,FD _⟩
 case round =>
  obtain ⟨k,ah,ch',hk,rfl,rfl,Hhk,hxk⟩:=hrel;by_cases hlt:k<nb
  ·have HB:=FC (show blocks h0 b (k+1)=block (blocks h0 b k) ((b.drop (64*k)).take 64) from rfl);have HS:=((Hb2.ext hxk).drop c (64*k) Zo).take 64 Zo;go_wp2_with fail;(with_reducible refine (pB _ _ _ _ _ _ _ _ _ Hhk (Hk.ext hxk) HS).mono ?_);rintro e w6 ⟨a6,c6,rfl,H6,hx6⟩;go_wp2;go_roundw
   case rel=>exact ⟨k+1,a6,c6,Zo,Zg,rfl,by rw [HB.out];exact H6,hxk.trans hx6⟩
   case measure=>simp [intOf];omega
  ·obtain rfl:k=nb:=by omega
   have HS:=(Hb2.ext hxk).drop c (64*k) Zo;generalize blocks h0 b k=hs at *;go_wp2_with fail;(with_reducible refine (uO _ _ _ _ _ _ hs _ _ Hhk HS Zo Zo).mono ?_);rintro e w7 ⟨a7,c7,rfl,hO7,hx7⟩;go_wp2;go_ret;have hxa:=hx1.trans (hx2.trans hxk);exact ⟨_,_,rfl,by rw [HF.out];exact hO7.mono hxa.size,hxa.trans hx7⟩
def chg (l:E7)(at' by':Int):E7:=l.set (at' % (l.length:Int)).toNat (l.getD (at' % (l.length:Int)).toNat 0 ^^^ b8 (1+by' % 255))
end Go.Proofs.P9

/- CipherPermutes: the walk of the law. -/
namespace Go.Proofs.P9
open Go.RowKit Go.Sec Go.Oct Go.Aes Go.Sha BigFrame
end Go.Proofs.P9

/- The walks of the reference's prepared key: the table of Sub. -/
namespace Go.Proofs.P9
open Go.RowKit Go.Sec Go.Oct Go.Aes BigFrame
theorem R82:RowT Tryz.prog 195 256:=⟨⟨_,Tryz.underlying195,rfl⟩,Zk,⟨_,Tryz.zeroValue195,Zk⟩⟩
theorem Ad (w:World):Calls Tryz.prog 156 #[] w λ e w'=>e = .returned (.agg (box.map u8v).toArray)/\Ext w w':=by
 have hz:(Tryz.zeroCells195.setIfInBounds 0 (Value.int IntKind.u8 99)).toList=(dW 0).2.2.map u8v:=Zk
 go_enter Tryz.func156,Tryz.ntmps156
 go_wp2_with fail;have hB0:=Blk.new (w.alloc (.cells Tryz.zeroCells195 195)) (Tryz.zeroCells195.setIfInBounds 0 (Value.int IntKind.u8 99)) 195;rw [hz,aa8] at hB0;have hR0:=(Blk.new w Tryz.zeroCells195 195).alloc (.cells (Tryz.zeroCells195.setIfInBounds 0 (Value.int IntKind.u8 99)) 195);have hE0:Ext w ((w.alloc (.cells Tryz.zeroCells195 195)).alloc (.cells (Tryz.zeroCells195.setIfInBounds 0 (Value.int IntKind.u8 99)) 195)):=eX;obtain ⟨zs,hzl,hzs⟩:∃ zs:List Value,zs.length=256/\zs=Tryz.zeroCells195.toList:=⟨_,Zk,rfl⟩;rw [<- hzs] at hR0;clear hzs hz;generalize (w.alloc (.cells Tryz.zeroCells195 195)).alloc (.cells (Tryz.zeroCells195.setIfInBounds 0 (Value.int IntKind.u8 99)) 195)=W at *
 go_loopw [2,3,4] (λ v2 v3 v4 wr=>∃ k:Nat,k<=255/\v2 = Zz Zu (n8 (dW k).1)/\v3 = Zz Zu (n8 (dW k).2.1)/\v4 = Zz Zx k/\Blk wr (w.heap.size+1) 195 ((dW k).2.2.map u8v)/\Blk wr w.heap.size 195 zs/\Ext w wr) (λ _ _ v4 _=>255-(intOf v4).toNat)
 case atStart=>exact ⟨0,Zo,rfl,rfl,rfl,hB0,hR0,hE0⟩
 case round =>
  obtain ⟨k,hk,rfl,rfl,rfl,hB,hR,hx⟩:=hrel;have hbl:=rO k;by_cases hlt:k<255
  ·have h1:=FC (show (dW (k+1)).1=mul (dW k).1 3 from rfl);have h2:=FC (show (dW (k+1)).2.1=mul (dW k).2.1 246 from rfl);have h3:=FC (show (dW (k+1)).2.2=(dW k).2.2.set (dW k).1.toNat (aff (dW k).2.1) from rfl);generalize (dW k).2.2=l at *;generalize (dW k).2.1=q at *;generalize (dW k).1=p at *;have hA:=FC (show aff q=q ^^^ lft q 1 ^^^ lft q 2 ^^^ lft q 3 ^^^ lft q 4 ^^^ 99 from rfl);have l1:∀ W,Calls Tryz.prog 170 #[Zz Zu (n8 q), Zz Zx 1] W λ e w'=>e = .returned (Zz Zu (n8 (lft q 1)))/\Ext W w':=λ W=>lR q 1 Zo Zo W;have l2:∀ W,Calls Tryz.prog 170 #[Zz Zu (n8 q), Zz Zx 2] W λ e w'=>e = .returned (Zz Zu (n8 (lft q 2)))/\Ext W w':=λ W=>lR q 2 Zo Zo W;have l3:∀ W,Calls Tryz.prog 170 #[Zz Zu (n8 q), Zz Zx 3] W λ e w'=>e = .returned (Zz Zu (n8 (lft q 3)))/\Ext W w':=λ W=>lR q 3 Zo Zo W;have l4:∀ W,Calls Tryz.prog 170 #[Zz Zu (n8 q), Zz Zx 4] W λ e w'=>e = .returned (Zz Zu (n8 (lft q 4)))/\Ext W w':=λ W=>lR q 4 Zo Zo W;have t3:∀ W,Calls Tryz.prog 157 #[Zz Zu (n8 p), Zz Zu 3] W λ e w'=>e = .returned (Zz Zu (n8 (mul p 3)))/\Ext W w':=λ W=>je p 3 W;have t4:∀ W,Calls Tryz.prog 157 #[Zz Zu (n8 q), Zz Zu 246] W λ e w'=>e = .returned (Zz Zu (n8 (mul q 246)))/\Ext W w':=λ W=>je q 246 W;have hpl:=p.toNat_lt;have hpl':p.toNat<256:=hpl;go_wp2_with fail;(with_reducible refine (l1 _).mono ?_);rintro e w1 ⟨rfl,hxq⟩;obtain ⟨xq,rfl⟩:=hxq.out;clear hxq;go_wp2_with fail;(with_reducible refine (l2 _).mono ?_);rintro e w1 ⟨rfl,hxq⟩;obtain ⟨xq,rfl⟩:=hxq.out;clear hxq;go_wp2_with fail;(with_reducible refine (l3 _).mono ?_);rintro e w1 ⟨rfl,hxq⟩;obtain ⟨xq,rfl⟩:=hxq.out;clear hxq;go_wp2_with fail;refine (l4 _).mono ?_;rintro e W5 ⟨rfl,hx5⟩;have hx5:Ext wr W5:=(FE _ _).trans ((FE _ _).trans ((FE _ _).trans hx5));have hB5:=hB.extB hx5;have hR5:=hR.extB hx5;have hxw:=hx.trans hx5;obtain ⟨vo,hvo⟩:∃ v,W5.cell? ⟨w.heap.size+1,p.toNat,none⟩=some v:=⟨_,hB5.cell p.toNat (by rw [aaC,hbl];exact hpl')⟩;have hf:=hB5.free p.toNat;haveI:=hB5.blt;have hB6:=hB5.set p.toNat (u8v (aff q));rw [<- aaT,<- h3.out,hA.out] at hB6;have hR6:=hR5.other (a:=⟨w.heap.size+1,p.toNat,none⟩) Zs (u8v (q ^^^ lft q 1 ^^^ lft q 2 ^^^ lft q 3 ^^^ lft q 4 ^^^ 99));have hx6:Ext w (W5.setCell ⟨w.heap.size+1,p.toNat,none⟩ (u8v (q ^^^ lft q 1 ^^^ lft q 2 ^^^ lft q 3 ^^^ lft q 4 ^^^ 99))):=Ext.setCell hxw Zs _;clear l1 l2 l3 l4 hx5 hA hB;go_wp2_with fail;generalize W5.setCell ⟨w.heap.size+1,p.toNat,none⟩ (u8v (q ^^^ lft q 1 ^^^ lft q 2 ^^^ lft q 3 ^^^ lft q 4 ^^^ 99))=W6 at *;refine (t3 _).mono ?_;rintro e W7 ⟨rfl,hx7⟩;go_wp2_with fail;refine (t4 _).mono ?_;rintro e W8 ⟨rfl,hx8⟩;go_wp2_with fail;go_roundw
   case rel=>exact ⟨k+1,Zo,by rw [h1.out],by rw [h2.out],Zg,(hB6.extB hx7).extB hx8,(hR6.extB hx7).extB hx8,(hx6.trans hx7).trans hx8⟩
   case measure=>simp [intOf];omega
  ·obtain rfl:k=255:=by omega
   rw [xM] at hB;clear hbl;obtain ⟨bx,hbe⟩:∃ bx,Hid (bx=box):=⟨_,FC rfl⟩;have hbx:bx.length=256:=by rw [hbe.out];exact dZ
   rw [<- hbe.out] at hB;have hzd:zs.drop 256=[]:=List.drop_eq_nil_of_le Zo;haveI:=hB.blt
   go_wp2_with (first
    | (refine af R82 rfl _ rfl (w.heap.size+1) 0 rfl (bx.map u8v) hB.rd ((by simpa using hbx)) ?_)
    | (refine aa R82 rfl _ _ rfl w.heap.size 0 rfl (bx.map u8v) rfl _ _ hR (by simpa using hbx) Zo (aH _) ?_;intro ws hBs hM)
    | fail)
   have hBf:Blk ws w.heap.size 195 (bx.map u8v):=by simpa [hbx,hzd] using hBs
   refine aaa (aL Tryz.results156 R82 _ _ w.heap.size 0 (bx.map u8v) rfl hBf.rd ((by simpa using hbx))) rfl ?_;exact ⟨by rw [hbe.out],E9 hx (hM.below (aad _) hx.size)⟩
end Go.Proofs.P9

/- The counter that follows: of the program and of the document. -/
namespace Go.Aes
def iA (l:E7):Nat->E7
 | 0=>l
 | k+1=>if at' l k+1=0 then iA (l.set k (at' l k+1)) k else l.set k (at' l k+1)
def nxt (l:E7):E7:=iA l 16
theorem pe (k:Nat):∀ l,(iA l k).length=l.length:=by
 induction k with
 | zero=>intro l;rfl
 | succ k ih =>
  intro l;unfold iA;split
  ·rw [ih];simp
  ·simp
theorem ug (l:E7):(nxt l).length=l.length:=pe _ _
end Go.Aes
namespace Go.Proofs.P9
open Go.RowKit Go.Sec Go.Oct Go.Aes BigFrame
theorem wk (x:UInt8):IntKind.u8.wrap (n8 x+1)=n8 (x+1):=by
 have:=xV x 1;exact this
theorem _root_.z10q2{p:Prop}(h:p:=by
 obtain ⟨k,cur,hk,rfl,hO,hn,hx⟩:=hrel;by_cases h0:0<k
 ·obtain ⟨j,rfl⟩:∃ j,k=j+1:=⟨k-1,Zo⟩;have hj:j<16:=Zo;obtain ⟨g,rfl,hg,hgb,hcell,hfr,_⟩:=hO.at j hj;have hat:cur.getD j 0=at' cur j:=rfl;rw [hat] at hcell;have hS:=hO.put j hj (at' cur j+1);have hcell2:(wr.setCell ⟨g,j,none⟩ (Zz Zu (n8 (at' cur j+1)))).cell? ⟨g,j,none⟩=some (Zz Zu (n8 (at' cur j+1))):=World.cell?_setCell_same' _ _ _ (by rw [hcell];rfl);have hinc:=wk (at' cur j);have hinc2:(n8 (at' cur j)+1) % 256=n8 (at' cur j+1):=by rw [<- hinc,abb]
  have hxs:=Ext.setCell hx (p:=⟨g,j,none⟩) hg (Zz Zu (n8 (at' cur j+1)));have hU:=FC (show iA cur (j+1)=if at' cur j+1=0 then iA (cur.set j (at' cur j+1)) j else cur.set j (at' cur j+1) from rfl);have j0:(0:Int)<=(j:Int):=Zo;have j1:(j:Int)<16:=Zo;generalize at' cur j+1=y at *;clear hat hinc;by_cases hz:y=0
  ·subst hz;go_wp2;go_roundw
   case rel=>exact ⟨j,cur.set j 0,Zo,Zg,hS,FC (by rw [<- hn.out,hU.out,aaj rfl]),hxs⟩
   case measure=>simp [intOf] <;> omega
  ·have hz2:(y != 0)=true:=by simpa using hz
   go_wp2;go_ret;refine ⟨_,_,rfl,?_,hxs⟩;rw [<- hn.out,hU.out,aae hz];exact hS
 ·obtain rfl:k=0:=by omega
  go_wp2;go_ret;refine ⟨_,_,rfl,?_,hx⟩;rw [<- hn.out];exact hO):p:=h
theorem yw (a:E8)(c:Nat) (l:E7)(w:World)(h:Sl w a 16 l) :
  Calls Tryz.prog 175 #[Zy a 16 c] w (bZ 16 (nxt l) w):=by
 have hl:=h.len
 go_enter Tryz.func175,Tryz.ntmps175
 go_wp2_with fail;(with_reducible refine (ei _ 16 _ l _ h Zo).mono ?_);rintro e w1 ⟨a1,c1,rfl,hO1,hx1⟩;go_wp2_with fail
 go_loopw [4] (λ v4 wr=>∃ (k:Nat) (cur:E7),k<=16/\v4 = Zz Zx ((k:Int)-1)/\Own wr w.heap.size a1 16 c1 cur/\Hid (iA cur k=nxt l)/\Ext w wr) (λ v4 _=>(intOf v4+1).toNat)
 case atStart=>exact ⟨16,l,Zo,rfl,hO1,FC rfl,hx1⟩
 case round =>
  exact z10q2
theorem wg (a:E8)(c:Nat) (l:E7)(w:World)(h:Sl w a 16 l) :
  Calls Tryz.prog 140 #[Zy a 16 c] w (bZ 16 (nxt l) w):=by
 have hl:=h.len
 go_enter Tryz.func140,Tryz.ntmps140
 go_wp2_with fail;(with_reducible refine (aR _ _ _ _ _ (gV h _) Zo 16 (by simp [bP,hl]) Zo).mono ?_);rintro e w1 ⟨a1,c1,rfl,hO1,hx1⟩;rw [bP] at hO1;have hO1:=hO1.mono (base':=w.heap.size) Zs;have hx1:Ext w w1:=Ext.trans (FA _ _) hx1;go_wp2_with fail
 go_loopw [4] (λ v4 wr=>∃ (k:Nat) (cur:E7),k<=16/\v4 = Zz Zx ((k:Int)-1)/\Own wr w.heap.size a1 16 c1 cur/\Hid (iA cur k=nxt l)/\Ext w wr) (λ v4 _=>(intOf v4+1).toNat)
 case atStart=>exact ⟨16,l,Zo,rfl,hO1,FC rfl,hx1⟩
 case round =>
  exact z10q2
end Go.Proofs.P9

/- The walks of Put and Get. -/
namespace Go.Sec
open Go.RowKit Go.Oct
section words
variable (x y:UInt64)
theorem C3:(BitVec.ofInt 64 (n64 x))=x.toBitVec:=by unfold n64;rw [BitVec.ofInt_natCast];exact BitVec.eq_of_toNat_eq Zs
theorem w64 (b:BitVec 64):IntKind.u64.wrap (b.toNat:Int)=(b.toNat:Int):=by
 have:=b.isLt;rw [aaG];omega
@[go_sem] theorem u64_or:bits .or .u64 (n64 x) (n64 y)=n64 (x ||| y):=by
 show IntKind.u64.wrap ((BitVec.ofInt 64 (n64 x) ||| BitVec.ofInt 64 (n64 y)).toNat:Int)=_;rw [C3,C3,w64];rfl
@[go_sem] theorem CR:IntKind.u64.wrap (n64 x)=n64 x:=w64 x.toBitVec
@[go_sem] theorem Ck (b:UInt8):IntKind.u64.wrap (n8 b)=n64 b.toUInt64:=by
 have:=b.toNat_lt;unfold n8 n64;rw [aaG,UInt8.toNat_toUInt64];omega
@[go_sem ↓ high] theorem Ce (yk:IntKind) (k:Nat) (hk:k<64):Op.shift .shl .u64 (n64 x) yk (no_index (OfNat.ofNat k))=pure (rI (x <<< OfNat.ofNat k)):=by
 rw [shift_shl_any _ _ _ _ (by exact abu k)];have e:(x <<< (OfNat.ofNat k:UInt64)).toNat=x.toNat*2 ^ k % 18446744073709551616:=by
  show (x <<< UInt64.ofNat k).toNat=_;rw [UInt64.toNat_shiftLeft,aaH,aaU (show k<2 ^ 64 from Zo),aaU hk,Nat.shiftLeft_eq]
 unfold rI n64;rw [e,aaG];have h2:min ((OfNat.ofNat k:Int)).toNat IntKind.u64.bits=k:=by
  show min ((k:Int)).toNat 64=k;rw [abm];omega
 rw [h2]
 congr 2
end words
end Go.Sec
namespace Go.Oct
theorem wU (l:E7)(k:Nat) (h:k<l.length):cR (l.take (k+1))=(cR (l.take k) <<< 8) ||| (l.getD k 0).toUInt64:=by
 unfold cR;rw [aas h,List.foldl_append];simp [uA,h]
theorem zB (k:Nat) (l p:E7)(h:aF k 0++l.drop k=p) (hz:l.take k=List.replicate k 0):l=p:=by
 rw [<- h,wW,<- hz,List.take_append_drop]
end Go.Oct
namespace Go.Proofs.P9
open Go.RowKit Go.Sec Go.Oct Go.Sha BigFrame
theorem gI (v:UInt64) (n:Nat) {vI nI:Int} (hv:vI=n64 v) (hn:nI=(n:Int)) (w:World)(h1:n<=64) :
  Calls Tryz.prog 152 #[Zz Zw vI, Zz Zx nI] w (bZ n (aF n v) w):=by
 subst hv hn;have hmk:=dc U n n (aad _) Zo;have hn64:¬ (64:Int)<(n:Int):=Zo
 go_enter Tryz.func152,Tryz.ntmps152
 go_wp2
 go_loopw [0,6] (λ v0 v6 wr=>∃ (k:Nat) (u:UInt64) (l:E7),k<=n/\v6 = Zz Zx ((k:Int)-1)/\v0=rI u/\Hid (l.length=n)/\Hid (aF k u++l.drop k=aF n v)/\Hid (l.take k=List.replicate k 0)/\Blk wr w.heap.size 5 (l.map u8v)/\Ext w wr) (λ _ v6 _=>(intOf v6+1).toNat)
 case atStart=>exact ⟨n,v,List.replicate n 0,aad _,rfl,rfl,FC Zs,FC Zs,FC Zs,bY _ _,eX⟩
 case round =>
  obtain ⟨k,u,l,hk,rfl,rfl,hl,hp,hz,hB,hx⟩:=hrel;have hO:=λ (hp':l=aF n v)=>hB.own (aad _) n (by simp [hl.out]) (by simp [hl.out,maxLen];omega);have fin:∀ (hp':l=aF n v),bZ n (aF n v) w (.returned (Zy (some ⟨w.heap.size,0,none⟩) n n)) wr:=by
   intro hp';have hO:=hO hp';subst hp';refine ⟨_,_,rfl,⟨aw _ _,?_⟩,hx⟩;rw [aah (by simp [aw])] at hO;simpa [aw] using hO
  clear hO;by_cases h0:0<k
  ·by_cases hu:0<n64 u
   ·obtain ⟨j,rfl⟩:∃ j,k=j+1:=⟨k-1,Zo⟩;have hjl:j<l.length:=by rw [hl.out];omega
    have hc:=hB.cell j (by simpa using hjl);have hf:=hB.free j;haveI:=hB.blt;clear fin;go_wp2;go_roundw
    case rel =>
     refine ⟨j,u >>> 8,l.set j u.toUInt8,Zo,Zg,rfl,FC (by rw [FI];exact hl.out),FC (tc _ _ _ _ hjl hp.out),FC ?_,?_,Ext.setCell hx Zs _⟩
     ·rw [List.take_set_of_le (aad _)];have:=congrArg (λ l=>l.take j) hz.out;simpa [List.take_take] using this
     ·have:=hB.set j (u8v u.toUInt8)
      rwa [<- aaT] at this
    case measure=>simp [intOf] <;> omega
   ·have hu0:u=0:=by
     apply z7.1;have:=B7 u;show n64 u=0;omega
    have hF:=fin (zB k l _ (by rw [<- hu0];exact hp.out) hz.out);clear fin hu0;go_wp2;go_ret;exact hF
  ·obtain rfl:k=0:=by omega
   have hF:=fin (by have:=hp.out;simpa [aF] using this);clear fin;go_wp2;go_ret;exact hF
theorem _root_.z10q13{p:Prop}(h:p:=by
 obtain ⟨k,hk,rfl,rfl,rfl⟩:=hrel;by_cases hlt:k<n
 ·obtain ⟨b0,o0,rfl,hb0,hcell⟩:=h.atD k hlt;have hkl:k<l.length:=Zo;have HG:=FC (wU l k hkl);generalize cR (l.take k)=g at *;go_wp2;go_roundw
  case rel=>exact ⟨k+1,Zo,Zg,by rw [HG.out];simp [hkl],trivial⟩
  case measure=>simp [intOf];omega
 ·obtain rfl:k=n:=by omega
  rw [aah Zo];go_wp2;go_ret;exact ⟨rfl,FD _⟩):p:=h
theorem eE (a:E8)(n c:Nat) (l:E7)(w:World)(h:Sl w a n l) (hc:n<=c) (hn:n<=8) :
  Calls Tryz.prog 120 #[Zy a n c] w λ e w'=>e = .returned (Zz Zw (n64 (cR l)))/\Ext w w':=by
 have hl:=h.len;have hmx:max (0:Int) ((n:Int)-8)=0:=Zo
 go_enter Tryz.func120,Tryz.ntmps120
 go_wp2
 go_loopw [3,5,13] (λ v3 _ v13 wr=>∃ k:Nat,k<=n/\v13 = Zz Zx k/\v3=rI (cR (l.take k))/\wr=w) (λ _ _ v13 _=>n-(intOf v13).toNat)
 case atStart=>exact ⟨0,aak _,rfl,rfl,rfl⟩
 case round =>
  exact z10q13
theorem fb (a:E8)(n c:Nat) (l:E7)(w:World)(h:Sl w a n l) (hn:n<=1000000) :
  Calls Tryz.prog 69 #[Zy a n c] w λ e w'=>e = .returned (Zz Zw (n64 (cR l)))/\Ext w w':=by
 have hl:=h.len
 go_enter Tryz.func69,Tryz.ntmps69
 go_wp2
 go_loopw [3,4] (λ v3 v4 wr=>∃ k:Nat,k<=n/\v4 = Zz Zx k/\v3=rI (cR (l.take k))/\wr=w) (λ _ v4 _=>n-(intOf v4).toNat)
 case atStart=>exact ⟨0,aak _,rfl,rfl,rfl⟩
 case round =>
  exact z10q13
end Go.Proofs.P9

/- sectimeworld.Few. -/
namespace Go.Proofs.P9
open Go.RowKit Go.Sec Go.Oct Go.Sha BigFrame
end Go.Proofs.P9
