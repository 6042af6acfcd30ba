/- Lemmas of this claim, several texts joined. -/
import Derived.Deep.MidRow
import Derived.Lib.AppendZerosOnto
import Derived.Lib.AppendZeros
import Derived.Test.YtmdahnkcnagkjaaGreatZ4
set_option maxRecDepth 100000
open Go.Value renaming int -> Zz,slice -> Zy
open Go.IntKind renaming i64 -> Zx,u8 -> Zu
open List renaming nil_append -> q5q
set_option maxHeartbeats 8000000
set_option linter.unusedVariables false
set_option linter.unusedSimpArgs false
/- Whole arrays and structs in memory: read, stored, made, without a look at their cells. -/
namespace Go.Sec
open Go.RowKit
structure RowT (P:Program) (T:TypeId)(n:Nat):Prop where
 und:∃ d,P.underlying T=some d/\d.isRow=true
 info:(P.info? T).map (·.size)=some n
 zero:∃ z,(∀ w,(zeroValue T).run P w = .ok z w)/\z.cells.size=n
theorem Rd.range {w:World} {b o:Nat} {cs:List Value} (h:Rd w (some ⟨b,o,none⟩) cs):w.rangeAt b o cs:=by
 intro j v hv;rcases h with h|⟨b',o',ha,_,hc⟩
 ·subst h;simp at hv
 ·injection ha with ha
  injection ha with e1 e2
  subst e1 e2;exact hc j v hv
section
variable {P:Program} {ops:Array Oper} {rest:List Oper} {o:Oper} {a:Act} {w:World} {Q:Exit->Act->World->Prop}
theorem af {T:TypeId} {n:Nat} (hT:RowT P T n) (hgd:o.guard=none) (x:Operand) (ho:o.op = .load T x) (b off:Nat) (hx:a.eval x = .pointer (some ⟨b,off,none⟩)) (cs:List Value)
  (hc:Rd w (some ⟨b,off,none⟩) cs) (hn:cs.length=n) (h:wpList P ops Q rest (a.put o.dst (.agg cs.toArray)) w):wpList P ops Q (o :: rest) a w:=by
 obtain ⟨d,hu,hd⟩:=hT.und;exact wpList_load_mid hgd T x ho b off hx cs d hc.range hu hd (by rw [hT.info,hn]) h
theorem fY {g:Nat} {T:TypeId} (cs:List Value):∀ (o:Nat) (w:World)(vs:List Value),Blk w g T vs->o+cs.length<=vs.length ->
  Blk (w.setCells g o cs) g T (vs.take o++cs++vs.drop (o+cs.length)):=by
 induction cs with
 | nil=>intro o w vs h _;simpa [World.setCells] using h
 | cons c r ih =>
  intro o w vs h hl;simp only [aaM] at hl;have:=ih (o+1) _ _ (h.set o c) (by simp;omega);simp only [World.setCells];have e:(vs.set o c).take (o+1)++r++(vs.set o c).drop (o+1+r.length)=vs.take o++(c :: r)++vs.drop (o+(c :: r).length):=by
   have h1:(vs.set o c).take (o+1)=vs.take o++[c]:=by
    rw [aas (by simp;omega),List.take_set_of_le (aad _)];simp
   have h2:(vs.set o c).drop (o+1+r.length)=vs.drop (o+1+r.length):=by
    rw [List.drop_set_of_lt Zo]
   rw [h1,h2];simp [aaY,abi 1]
  rwa [e] at this
theorem fZ {g:Nat} (cs:List Value):∀ (o:Nat) (w:World),Mut g w (w.setCells g o cs):=by
 induction cs with
 | nil=>intro o w;exact Mut.refl _ _
 | cons c r ih=>intro o w;exact ((Mut.refl g w).setCell o c).trans (ih (o+1) _)
theorem Blk.there {g:Nat} {T:TypeId} {vs:List Value} (h:Blk w g T vs) (o n:Nat) (hn:o+n<=vs.length):w.there g o n :=
 λ j hj=>⟨by rw [h.cell (o+j) Zo];rfl,h.free _⟩
theorem aa {T:TypeId} {n:Nat} (hT:RowT P T n) (hgd:o.guard=none) (x y:Operand) (ho:o.op = .store T x y) (g off:Nat) (hx:a.eval x = .pointer (some ⟨g,off,none⟩)) (cs:List Value)(hy:a.eval y = .agg cs.toArray)
  (T':TypeId)(vs:List Value)(hB:Blk w g T' vs) (hn:cs.length=n) (hfit:off+n<=vs.length) (h1:∀ v∈cs,v.oneCell'=true)
  (h:∀ w',Blk w' g T' (vs.take off++cs++vs.drop (off+n))->Mut g w w'->wpList P ops Q rest (a.put o.dst undef) w'):wpList P ops Q (o :: rest) a w:=by
 subst hn;exact wpList_store_mid hgd T x y ho g off cs.toArray hx hy (by simpa using hB.there off cs.length hfit) (by simpa using hT.info) (all_oneCell_toArray h1)
  (h _ (fY cs off w vs hB hfit) (fZ cs off w))
theorem ag {T:TypeId} {n:Nat} (hT:RowT P T n) {o1 o2:Oper} (hg1:o1.guard=none) (hg2:o2.guard=none) (d:Tmp) (y:Operand) (ho1:o1.op = .alloc T) (hd1:o1.dst=some d) (ho2:o2.op = .store T (.tmp d) y) (hd2:o2.dst=none)
  (hsz:d<a.tmps.size) (cs:List Value)(hy:a.eval y = .agg cs.toArray) (hyd:y ≠ .tmp d) (hn:cs.length=n) (h1:∀ v∈cs,v.oneCell'=true)
  (h:∀ x:More,Blk (w.ext x) w.heap.size T cs->BlkLt w.heap.size (w.ext x)->wpList P ops Q rest (a.put (some d) (.pointer (some ⟨w.heap.size,0,none⟩))) (w.ext x)):wpList P ops Q (o1 :: o2 :: rest) a w:=by
 obtain ⟨z,hz,hzs⟩:=hT.zero;have hB0:Blk (w.alloc (.cells z.cells T)) w.heap.size T z.cells.toList:=Blk.new w z.cells T;refine wpList_plain hg1 λ K hK=>?_;unfold Oper.wp execOp;simp only [ho1,Instr.alloc,aaW,hz,aaE,newVar,newRow,aaX];refine hK _ _ ?_;rw [hd1];refine aa hT hg2 (.tmp d) y ho2 w.heap.size 0 (by simp [Act.eval,Act.put,hsz]) cs ?_ T z.cells.toList hB0 hn (by simp [hzs]) h1 ?_
 ·rw [Act.eval_put]
  ·exact hy
  ·intro d' hd';injection hd' with hd'
   subst hd';exact hyd
 ·intro w' hB' hM;have hx:Ext w w':=E9 (b:=w.alloc (.cells z.cells T)) (FA _ _) (hM.below (aad _) Zs);obtain ⟨x,rfl⟩:=hx.out;have hcs:z.cells.toList.take 0++cs++z.cells.toList.drop (0+n)=cs:=by
   simp [hzs]
  rw [hcs] at hB';rw [hd2];exact h x hB' hB'.blt
theorem rB {P:Program} {w:World} {a:Addr} {cs:List Value} (h:∀ j v,cs[j]?=some v->w.cell? (a.add j)=some v):(loadCells a cs.length).run P w = .ok cs.toArray w:=run_loadCells_list (P:=P) w a cs h
theorem lI {P:Program} (U:U8 P) (hint:P.underlying 3=some (.int .i64)) (w:World)(ty:TypeId)(base:Nat) (a:E8)(n c:Nat) (l:E7)(hO:Own w base a n c l) (m:Nat) (hm:0<m) (hlen:c+m<=140737488355328) (hb:base<=w.heap.size) :
  ∃ c' x,n<=c'/\(Builtin.append_ #[33,3] ty #[Zy a c c, Zz Zx (m:Int)]).run P w = .ok (Zy (some ⟨w.heap.size,0,none⟩) (c+m) c') (w.ext x)/\Own (w.ext x) base (some ⟨w.heap.size,0,none⟩) n c' l:=by
 obtain ⟨i,hi,hzi,hs,hby⟩:=U.info;have hold:∃ olds:List Value,olds.length=c/\(Builtin.firstCells i.size c (Zy a c c)).run P w.drew = .ok olds.toArray w.drew/\olds.take n=l.map u8v/\n<=c:=by
  rcases hO.2.2 with ⟨h1,h2⟩|⟨g,cap,cur,h1,h2,h3,h4,h5,h6,h7⟩
  ·injection h1 with e1 e2 e3
   subst e1 e2 e3;have:l=[]:=aaq hO.1;subst this;exact ⟨[],rfl,by simp [Builtin.firstCells],rfl,aad _⟩
  ·injection h1 with e1 e2 e3
   subst e1 e3;refine ⟨cur.toList,by simpa using h6,?_,by simpa using h7,h4⟩;have:=rB (P:=P) (w:=w.drew) (a:=⟨g,0,none⟩) (cs:=cur.toList) (λ j v hj=>by
    rw [bX,aaA];show w.cell? ⟨g,j,none⟩=some v;rw [cell_of_row w g j cur _ (0,0) h3];simpa using hj)
   simp only [Builtin.firstCells,hs,abG];have hc:cur.toList.length=c:=by simpa using h6
   rw [hc] at this;simpa using this
 obtain ⟨olds,ho1,ho2,ho3,ho4⟩:=hold;have hr:=Lib.run_append_grow_zeros (P:=P) w 33 3 ty 5 i _ .i64 .i64 U.sl hint hi hzi a c c olds ho2 m hm Zo Zo Zo (by rw [hby];omega)
  (by have:=nextslicecap_le (show c<c+m from Zo);rw [hby];omega)
 have hcap:=grownCap_ge w (c+m) c 5;have hcap2:=grownCap_le_maxLen w (c+m) c 5 (by simp only [maxLen];omega);generalize grownCap w (c+m) c 5=c' at *;generalize hz:(olds.toArray++Builtin.zeroCells (Value.int IntKind.u8 0).cells m++Builtin.zeroCells (Value.int IntKind.u8 0).cells (c'-(c+m)))=cur at hr;have hsz:cur.size=c'*1:=by subst hz;simp [size_zeroCells,ho1,Value.cells];omega
 have htk:cur.toList.take (n*1)=l.map u8v:=by
  subst hz;have:((olds++(Builtin.zeroCells (Value.int .u8 0).cells m).toList++(Builtin.zeroCells (Value.int .u8 0).cells (c'-(c+m))).toList)).take (n*1)=l.map u8v:=by
   rw [abG,aam,aax Zo,ho3]
  simpa using this
 refine ⟨c',⟨#[.cells cur 5],w.drawn+1⟩,Zo,hr,hO.1,hO.2.1, .inr ⟨w.heap.size,c',cur,rfl,hb,?_,Zo,hcap2,hsz,htk⟩⟩;show (w.heap++#[_])[w.heap.size]?=_;simp
end
end Go.Sec

/- Whole arrays, more. -/
namespace Go.Sec
open Go.RowKit
theorem jP {P:Program} {T:TypeId} {n b o:Nat} {cs:List Value} {w:World} (hT:RowT P T n) (hR:Rd w (some ⟨b,o,none⟩) cs) (hn:cs.length=n) :
  (Instr.loadAt T (.pointer (some ⟨b,o,none⟩))).run P w = .ok (.agg cs.toArray) w:=by
 obtain ⟨d,hu,hd⟩:=hT.und;exact run_loadAt_mid w b o T cs d hR.range hu hd (by rw [hT.info,hn])
def fp (l:E7)(n k:Nat):E7:=l.take k++List.replicate (n-k) 0
theorem tG (l:E7)(n:Nat):fp l n 0=List.replicate n 0:=by simp [fp]
theorem ur (l:E7)(n:Nat) (h:l.length=n):fp l n n=l:=by simp [fp,<- h]
theorem pX (l:E7)(n k:Nat) (h:l.length=n) (hk:k<=n):(fp l n k).length=n:=by simp [fp];omega
theorem sP (l:E7)(n k m:Nat) (h:l.length=n) (hk:k+m<=n) :
  ((fp l n k).map u8v).take k++((l.drop k).take m).map u8v++((fp l n k).map u8v).drop (k+m)=(fp l n (k+m)).map u8v:=by
 rw [<- List.map_take,<- List.map_drop,<- aaK,<- aaK]
 congr 1
 unfold fp;have h1:(l.take k).length=k:=by simp;omega
 rw [aax Zo,aah Zo,List.take_add,aam,aam]
 congr 2
 rw [List.drop_append,h1,aaF Zo,q5q,List.drop_replicate]
 congr 1
 omega
theorem Own.le {w:World} {base:Nat} {a:E8} {n c:Nat} {l:E7} (hO:Own w base a n c l):n<=c/\c<=maxLen:=by
 rcases hO.2.2 with ⟨h1,h2⟩|⟨g,cap,cur,h1,_,_,h2,h3,_⟩
 ·injection h1;subst_vars;exact ⟨aak _,by simp only [maxLen];omega⟩
 ·injection h1;subst_vars;exact ⟨h2,h3⟩
theorem Blk.sl {w:World} {g:Nat} {T:TypeId} {l:E7} {n:Nat} (h:Blk w g T (l.map u8v)) (hn:l.length=n):Sl w (some ⟨g,0,none⟩) n l:=⟨hn,h.rd⟩
end Go.Sec

/- The call's own bytes: a prefix, a byte read, a byte written. -/
namespace Go.Sec
open Go.RowKit
theorem Own.pre {w:World} {base n c:Nat} {a:E8} {l:E7} (h:Own w base a n c l) (m:Nat) (hm:m<=n):Own w base a m c (l.take m):=by
 obtain ⟨h1,h2,h3⟩:=h;refine ⟨by rw [aat,h1];omega,by simp;omega,?_⟩;rcases h3 with ⟨h3,h4⟩|⟨g,cap,cur,h3,h4,h5,h6,h7,h8,h9⟩
 ·injection h3 with e1 e2 e3
  subst e1 e2 e3;left;obtain rfl:m=0:=Zo;exact ⟨rfl,rfl⟩
 ·injection h3 with e1 e2 e3
  subst e1 e3;refine .inr ⟨g,c,cur,rfl,h4,h5,Zo,h7,h8,?_⟩;rw [List.map_take,<- h9,List.take_take]
  congr 1
  omega
theorem Own.at {w:World} {base n c:Nat} {a:E8} {l:E7} (h:Own w base a n c l) (i:Nat) (hi:i<n) :
  ∃ g,a=some ⟨g,0,none⟩/\base<=g/\BlkLt g w/\w.cell? ⟨g,i,none⟩=some (Zz Zu (n8 (l.getD i 0)))/\w.frozen? ⟨g,i,none⟩=false/\∀ x,Own (w.setCell ⟨g,i,none⟩ (Zz Zu (n8 x))) base a n c (l.set i x):=by
 obtain ⟨hl,ho⟩:=h;obtain ⟨g,vs,rfl,hg,hB,hvl,hnc,hcm,htk⟩:=Blk.of_own ho Zo;refine ⟨g,rfl,hg,hB.blt,?_,hB.free i,λ x=>⟨by simpa using hl,?_⟩⟩
 ·refine hB.cell? i ?_;have h1:(vs.take n)[i]?=some (u8v (l.getD i 0)):=by
   rw [htk,List.getElem?_map];simp [show i<l.length by omega]
  rwa [List.getElem?_take,aaj hi] at h1
 ·have:=(hB.set i (u8v x)).own hg n (by simp;omega) (by simp;omega);rw [FI,hvl,List.take_set,htk,<- aaT] at this;exact this
theorem Own.put {w:World} {base g n c:Nat} {l:E7} (h:Own w base (some ⟨g,0,none⟩) n c l) (i:Nat) (hi:i<n) (x:UInt8):Own (w.setCell ⟨g,i,none⟩ (.int .u8 (n8 x))) base (some ⟨g,0,none⟩) n c (l.set i x):=by
 obtain ⟨g',he,_,_,_,_,hs⟩:=h.at i hi;injection he with he
 injection he with he
 subst he;exact hs x
theorem Blk.newAt (w:World)(cs:Array Value) (t:TypeId)(g:Nat) (h:g=w.heap.size):Blk (w.alloc (.cells cs t)) g t cs.toList:=by subst h;exact Blk.new w cs t
def bD (n:Nat) (l:E7)(v:Value)(w:World)(e:Ending) (w':World):Prop :=
 ∃ a c,e = .returned (.tuple #[Zy a n c,v])/\Sl w' a n l/\n<=c/\Ext w w'
theorem dK {P:Program} {f:FuncId} {args:Array Value} {w:World} {n:Nat} {l:E7} {v:Value} (h:Calls P f args w (bD n l v w)) :
  Calls P f args w λ e w'=>∃ x,e = .returned x/\∃ p:Par,x = .tuple #[.slice (p 0).1 n (p 0).2,v]/\Ext w w'/\Sl w' (p 0).1 n l/\n<=(p 0).2 :=
 h.mono λ _ _ ⟨a,c,he,hO,hc,hx⟩=>⟨_,he,λ _=>(a,c),rfl,hx,hO,hc⟩
end Go.Sec
namespace Go.Sec
open Go.RowKit
theorem bK {w : World} {g : Nat} {T : TypeId} {cs : List Value} (h : Blk w g T cs := by repeat (first | assumption | (refine Go.Sec.Blk.newAt _ _ _ _ ?_; first | rfl | (simp only [aa8]; done)) | apply Go.Sec.Blk.ext | apply Go.Sec.Blk.alloc | (refine Go.Sec.Blk.other ?_ ?_ _; rotate_left; (simp <;> omega)))) : Blk w g T cs := h
end Go.Sec

/- How words of 32 bits reckon. -/
namespace Go.Sec
open Go.RowKit
section words
variable (x y:UInt32)
@[go_sem] theorem DD:0<=n32 x:=by unfold n32;omega
@[go_sem] theorem Cr:(n32 x).toNat=x.toNat:=by unfold n32;simp
theorem wG:(BitVec.ofInt 32 (n32 x))=x.toBitVec:=by unfold n32;rw [BitVec.ofInt_natCast];exact BitVec.eq_of_toNat_eq Zs
theorem w32 (b:BitVec 32):IntKind.u32.wrap (b.toNat:Int)=(b.toNat:Int):=by
 have:=b.isLt;rw [IntKind.wrap_u32];omega
@[go_sem] theorem u32_and:bits .and .u32 (n32 x) (n32 y)=n32 (x &&& y):=by
 show IntKind.u32.wrap ((BitVec.ofInt 32 (n32 x) &&& BitVec.ofInt 32 (n32 y)).toNat:Int)=_;rw [wG,wG,w32];rfl
@[go_sem] theorem u32_or:bits .or .u32 (n32 x) (n32 y)=n32 (x ||| y):=by
 show IntKind.u32.wrap ((BitVec.ofInt 32 (n32 x) ||| BitVec.ofInt 32 (n32 y)).toNat:Int)=_;rw [wG,wG,w32];rfl
@[go_sem] theorem u32_xor:bits .xor .u32 (n32 x) (n32 y)=n32 (x ^^^ y):=by
 show IntKind.u32.wrap ((BitVec.ofInt 32 (n32 x) ^^^ BitVec.ofInt 32 (n32 y)).toNat:Int)=_;rw [wG,wG,w32];rfl
@[go_sem] theorem Dh:IntKind.u32.wrap (n32 x)=n32 x:=w32 x.toBitVec
@[go_sem] theorem BD:IntKind.u32.wrap (n32 x+n32 y)=n32 (x+y):=by
 unfold n32;rw [IntKind.wrap_u32,UInt32.toNat_add];omega
@[go_sem] theorem Cf:(n32 x+n32 y) % 4294967296=n32 (x+y):=by
 unfold n32;rw [UInt32.toNat_add];omega
@[go_sem] theorem Cs (b:UInt8):IntKind.u32.wrap (n8 b)=n32 b.toUInt32:=by
 have:=b.toNat_lt;unfold n8 n32;rw [IntKind.wrap_u32,UInt8.toNat_toUInt32];omega
@[go_sem] theorem BO:IntKind.u64.wrap (n32 x)=n64 x.toUInt64:=by
 have:=x.toNat_lt;unfold n32 n64;rw [aaG,UInt32.toNat_toUInt64];omega
@[go_sem] theorem Dp:IntKind.u32.wrap (-n32 x-1)=n32 (~~~x):=by
 have:=x.toNat_lt;unfold n32;rw [IntKind.wrap_u32,UInt32.toNat_not];have:UInt32.size=4294967296:=rfl;omega
@[go_sem] theorem yZ:bits .xor .u32 IntKind.u32.max (n32 x)=n32 (~~~x):=by
 have h:(4294967295:Int)=n32 (4294967295:UInt32):=rfl;show bits .xor .u32 4294967295 (n32 x)=_;rw [h,u32_xor]
 congr 1
@[go_sem] theorem Bl:IntKind.u32.signed=false:=rfl
@[go_sem] theorem Bs:IntKind.u64.signed=false:=rfl
@[go_sem] theorem Co:IntKind.u8.signed=false:=rfl
@[go_sem ↓ high] theorem EI:Op.unary .xor (kq x)=pure (kq (~~~x)):=by
 show (pure (Value.int .u32 (bits .xor .u32 IntKind.u32.max (n32 x))):Sem Value)=_;rw [yZ]
theorem _root_.z6q57{p:Prop}(h:p:=by
 rw [UInt32.toNat_shiftLeft,UInt32.toNat_ofNat',aaU (show k<2 ^ 32 from Zo),aaU hk,Nat.shiftLeft_eq]):p:=h
@[go_sem ↓ high] theorem Cu (yk:IntKind) (k:Nat) (hk:k<32):Op.shift .shl .u32 (n32 x) yk (no_index (OfNat.ofNat k))=pure (kq (x <<< OfNat.ofNat k)):=by
 rw [shift_shl_any _ _ _ _ (by exact abu k)];have e:(x <<< (OfNat.ofNat k:UInt32)).toNat=x.toNat*2 ^ k % 4294967296:=by
  show (x <<< UInt32.ofNat k).toNat=_;exact z6q57
 unfold kq n32;rw [e,IntKind.wrap_u32];have h2:min ((OfNat.ofNat k:Int)).toNat IntKind.u32.bits=k:=by
  show min ((k:Int)).toNat 32=k;rw [abm];omega
 rw [h2]
 congr 2
theorem A7 (k:Nat) (hk:k<32):n32 x / ((2 ^ k:Nat):Int)=n32 (x >>> UInt32.ofNat k):=by
 have:(x >>> UInt32.ofNat k).toNat=x.toNat / 2 ^ k:=by
  rw [UInt32.toNat_shiftRight,UInt32.toNat_ofNat',aaU (show k<2 ^ 32 from Zo),aaU hk,Nat.shiftRight_eq_div_pow]
 unfold n32;rw [this];simp
@[go_sem ↓ high] theorem Cc (yk:IntKind) (k:Nat) (hk:k<32):Op.shift .shr .u32 (n32 x) yk (no_index (OfNat.ofNat k))=pure (kq (x >>> OfNat.ofNat k)):=by
 rw [shift_shr_any _ _ _ _ (by exact abu k)];have h2:min ((OfNat.ofNat k:Int)).toNat IntKind.u32.bits=k:=by
  show min ((k:Int)).toNat 32=k;rw [abm];omega
 rw [h2];have:=A7 x k hk;unfold kq
 congr 2
end words
end Go.Sec

/- A guarded operation whose guard holds, as if it had none. -/
namespace Go.Sec
open Go.RowKit
theorem fE {P:Program} {ops:Array Oper} {rest:List Oper} {o:Oper} {a:Act} {w:World} {Q:Exit->Act->World->Prop} (hw:Region.wanted o (yielded ops a.tmps)=true) (h:wpList P ops Q ({ o with guard:=none } :: rest) a w) :
  wpList P ops Q (o :: rest) a w:=by
 unfold wpList at h ⊢;rw [aaj hw];rw [aaj (by simp [Region.wanted])] at h;exact h
end Go.Sec
