/- Lemmas of this claim, several texts joined. -/
import Derived.Test.YtmdahnkcnagkjaaGreatY1
import Derived.Test.YtmdahnkcnagkjaaGreatY26
import Derived.Test.YtmdahnkcnagkjaaGreatY28
set_option maxRecDepth 100000
open List renaming nil_append -> q5q, cons_append -> q6q, drop_zero -> q11q
set_option maxHeartbeats 8000000
set_option linter.unusedVariables false
set_option linter.unusedSimpArgs false
namespace Go.Aes
end Go.Aes

namespace Go.Cook
open Go.Sha Go.Oct Go.Aes Go.Sec
theorem rots_get (r:Ring) (t:Nat) (ht:t<=3) (hr:1<=r.length):(kV r t)[t]?=r[0]?:=by
 have g:∀ (r:Ring) (i:Nat),i<3->(kz r)[i+1]?=r[i]?:=λ r i hi=>by
  unfold kz;rw [List.getElem?_cons_succ,List.getElem?_take,if_pos hi]
 match t,ht with
 | 0,_=>rfl
 | 1,_=>exact g _ 0 Zo
 | 2,_=>exact (g _ 1 Zo).trans (g _ 0 Zo)
 | 3,_=>exact (g _ 2 Zo).trans ((g _ 1 Zo).trans (g _ 0 Zo))
end Go.Cook

namespace Go.Lane
open Go.Sha Go.Oct
theorem packN_congr {f g:Nat->Nat}:∀ {n:Nat},(∀ k,k<n->f k=g k)->fW n f=fW n g:=by
 intro n
 induction n generalizing f g with
 | zero=>intro _;rfl
 | succ n ih =>
  intro h;rw [fW,fW,ih (f:=λ k=>f (k+1)) (g:=λ k=>g (k+1)) (λ k hk=>h (k+1) Zo),h 0 Zo]
theorem packN_add (n:Nat):∀ f g:Nat->Nat,fW n f+fW n g=fW n λ k=>f k+g k:=by
 induction n with
 | zero=>intro f g;rfl
 | succ n ih =>
  intro f g;have:=ih (λ k=>f (k+1)) (λ k=>g (k+1));simp only [fW];omega
theorem iota_eq (n a:Nat):iota n a=fW n λ k=>k+a:=by
 have h:∀ n a,fW n (λ k=>k+a)*(2 ^ 64-1)+fW n (λ _=>1)+a+2 ^ (64*n)=(a+n)*2 ^ (64*n)+1:=by
  intro n
  induction n with
  | zero=>intro a;simp [fW]
  | succ n ih =>
   intro a;have ih:=ih (a+1);have e:(λ k=>k+(a+1))=λ k=>k+1+a:=by funext k;omega
   rw [e] at ih;rw [fW,fW,uk];generalize fW n (λ k=>k+1+a)=P at ih ⊢;generalize fW n (λ _=>1)=O at ih ⊢;generalize 2 ^ (64*n)=T at ih ⊢;have hB:(2:Nat) ^ 64=(2 ^ 64-1)+1:=Zd;generalize (2:Nat) ^ 64-1=C at hB ih ⊢;generalize (2:Nat) ^ 64=B at hB ⊢;have e1:(a+1+n)*T=a*T+T+n*T:=by rw [Nat.add_mul,Nat.add_mul,Nat.one_mul]
   have e2:(a+(n+1))*(B*T)=B*(a*T+T+n*T):=by rw [<- e1,Nat.mul_left_comm];congr 2;omega
   rw [e1] at ih;rw [e2];have e3:a*T+T+n*T=P*C+O+T+a:=Zo;have e4:(B*P+a)*C=B*(P*C)+a*C:=by rw [Nat.add_mul,Nat.mul_assoc]
   have e5:B*a=a*C+a:=by rw [hB,Nat.add_mul,Nat.one_mul,Nat.mul_comm]
   rw [e3,Nat.zero_add,e4];simp only [Nat.mul_add];omega
 have:=h n a;unfold iota;rw [Au,<- this];have e:fW n (λ k=>k+a)*(2 ^ 64-1)+fW n (λ _=>1)+a+2 ^ (64*n)-2 ^ (64*n)-fW n (λ _=>1)-a=fW n (λ k=>k+a)*(2 ^ 64-1):=Zo;rw [e,Nat.mul_div_cancel _ Zo]
theorem split_xor {x y:Nat} (hx:x<2 ^ 64) (hy:y<2 ^ 64) (a b:Nat):(2 ^ 64*a+x) ^^^ (2 ^ 64*b+y)=2 ^ 64*(a ^^^ b)+(x ^^^ y):=by
 apply Nat.eq_of_testBit_eq;intro i;have hxy:x ^^^ y<2 ^ 64:=Nat.xor_lt_two_pow hx hy;rw [Nat.testBit_xor,Nat.testBit_two_pow_mul_add _ hx,Nat.testBit_two_pow_mul_add _ hy,Nat.testBit_two_pow_mul_add _ hxy];split <;> simp [Nat.testBit_xor]
theorem packN_and (n:Nat):∀ f g:Nat->Nat,(∀ k,f k<2 ^ 64)->(∀ k,g k<2 ^ 64)->fW n f &&& fW n g=fW n λ k=>f k &&& g k:=by
 induction n with
 | zero=>intro f g _ _;simp [fW]
 | succ n ih =>
  intro f g hf hg;simp only [fW];rw [xz (hf 0) (hg 0),ih _ _ (λ k=>hf (k+1)) (λ k=>hg (k+1))]
theorem packN_xor (n:Nat):∀ f g:Nat->Nat,(∀ k,f k<2 ^ 64)->(∀ k,g k<2 ^ 64)->fW n f ^^^ fW n g=fW n λ k=>f k ^^^ g k:=by
 induction n with
 | zero=>intro f g _ _;simp [fW]
 | succ n ih =>
  intro f g hf hg;simp only [fW];rw [split_xor (hf 0) (hg 0),ih _ _ (λ k=>hf (k+1)) (λ k=>hg (k+1))]
theorem packN_low (n:Nat) (f:Nat->Nat) (hf:∀ k,f k<2 ^ 64):fW n f &&& mask n=fW n λ k=>f k % 2 ^ 32:=by
 rw [zW];rw [packN_and n f _ hf (λ _=>Zd)];simp only [uu]
variable {n:Nat}
theorem lt64 (x:UInt32):x.toNat<2 ^ 64:=Nat.lt_of_lt_of_le x.toNat_lt Zd
theorem pack_xor (f g:Nat->UInt32):pack n f ^^^ pack n g=pack n λ k=>f k ^^^ g k:=by
 unfold pack;rw [packN_xor n _ _ (λ k=>lt64 _) (λ k=>lt64 _)];simp only [UInt32.toNat_xor]
theorem pack_and (f g:Nat->UInt32):pack n f &&& pack n g=pack n λ k=>f k &&& g k:=by
 unfold pack;rw [packN_and n _ _ (λ k=>lt64 _) (λ k=>lt64 _)];simp only [UInt32.toNat_and]
theorem pack_add (f g:Nat->UInt32):(pack n f+pack n g) &&& mask n=pack n λ k=>f k+g k:=by
 unfold pack;rw [packN_add,packN_low n _ (λ k=>by have:=(f k).toNat_lt;have:=(g k).toNat_lt;omega)];simp only [UInt32.toNat_add]
theorem pack_not (f:Nat->UInt32):mask n-pack n f=pack n λ k => ~~~ f k:=by
 have h:pack n (λ k => ~~~ f k)+pack n f=mask n:=by
  rw [zW];unfold pack;rw [packN_add];apply packN_congr;intro k _;rw [UInt32.toNat_not];have:=(f k).toNat_lt;simp only [UInt32.size];omega
 omega
theorem pack_const (c:UInt32):mw n*c.toNat=pack n λ _=>c:=ones_mul n _
theorem pack_shr (f:Nat->UInt32) (r:Nat) (hr:r<32):(pack n f >>> r) &&& mask n=pack n λ k=>f k >>> UInt32.ofNat r:=by
 unfold pack;rw [BV n r Zo _ (λ k=>lt64 _)];apply packN_congr;intro k _;rw [zT _ _ hr,Nat.mod_eq_of_lt];exact Nat.lt_of_le_of_lt (Nat.div_le_self _ _) (f k).toNat_lt
theorem pack_turn (f:Nat->UInt32) (r:Nat) (h0:0<r) (hr:r<32):pG n (pack n f) r=pack n λ k=>turn (f k) r:=by
 unfold pack pG;rw [xB,BV n r Zo _ (λ k=>by have:=(f k).toNat_lt;omega)];apply packN_congr;intro k _;rw [sj _ _ h0 hr]
theorem pack_zero:pack n (λ _=>0)=0:=by have:=pack_const (n:=n) 0;simpa using this.symm
theorem RL.nil:RL n [] λ _=>[]:=⟨λ _=>rfl,λ _=>pack_zero.symm⟩
theorem RL.cons {x:Nat} {X:List Nat} {f:Nat->UInt32} {F:Nat->List UInt32} (hx:x=pack n f) (h:RL n X F):RL n (x :: X) λ k=>f k :: F k:=by
 refine ⟨λ k=>by simp [h.len],λ i=>?_⟩;cases i with
 | zero=>exact hx
 | succ i=>exact h.at' i
theorem RL.snoc {x:Nat} {X:List Nat} {f:Nat->UInt32} {F:Nat->List UInt32} (hx:x=pack n f) (h:RL n X F):RL n (X++[x]) λ k=>F k++[f k]:=by
 refine ⟨λ k=>by simp [h.len],λ i=>?_⟩;have hw:∀ k,w' (F k++[f k]) i=if i<X.length then w' (F k) i else if i=X.length then f k else 0:=λ k=>by
  have:=h.len k;unfold w';rw [List.getD_eq_getElem?_getD,List.getD_eq_getElem?_getD];split
  ·rw [List.getElem?_append_left Zo]
  ·rw [List.getElem?_append_right Zo,this];split
   ·subst_vars;simp
   ·rw [List.getElem?_eq_none (by simp;omega)];rfl
 simp only [hw];unfold wN;rw [List.getD_eq_getElem?_getD];split
 ·rw [List.getElem?_append_left (by assumption),<- List.getD_eq_getElem?_getD];exact h.at' i
 ·rw [List.getElem?_append_right Zo];split
  ·subst_vars;simp
  ·rw [List.getElem?_eq_none (by simp;omega)];exact pack_zero.symm
theorem addN_pack {x y:Nat} {f g:Nat->UInt32} (hx:x=pack n f) (hy:y=pack n g):ox n x y=pack n λ k=>f k+g k:=by subst hx hy;exact pack_add f g
theorem next_pack {X:List Nat} {F:Nat->List UInt32} (h:RL n X F) (t:Nat):Cz n X t=pack n λ k=>sD (F k) t:=by
 unfold Cz sD;refine addN_pack (addN_pack (addN_pack ?_ (h.at' _)) ?_) (h.at' _)
 ·unfold s1N s1;rw [h.at',pack_turn _ _ Zo Zo,pack_turn _ _ Zo Zo,pack_shr _ _ Zo,pack_xor,pack_xor];rfl
 ·unfold s0N s0;rw [h.at',pack_turn _ _ Zo Zo,pack_turn _ _ Zo Zo,pack_shr _ _ Zo,pack_xor,pack_xor];rfl
theorem sched_pack {X:List Nat} {m:Nat->List UInt8} (h:RL n X λ k=>(List.range 16).map (inW (m k))):∀ t,RL n (ud n X t) λ k=>sched (m k) t:=by
 intro t
 induction t with
 | zero=>exact h
 | succ t ih=>exact RL.snoc (next_pack ih _) ih
theorem round_pack {W v:List Nat} {F V:Nat->List UInt32} (hW:RL n W F) (hv:RL n v V) (t:Nat):RL n (A9 n W v t) λ k=>round (F k) (V k) t:=by
 have h1:t1N n v (mw n*(w' ks t).toNat) (wN W t)=pack n λ k=>t1 (V k) (w' ks t) (w' (F k) t):=by
  unfold t1N t1;refine addN_pack (addN_pack (addN_pack (addN_pack (hv.at' _) ?_) ?_) (pack_const _)) (hW.at' _)
  ·rw [hv.at',pack_turn _ _ Zo Zo,pack_turn _ _ Zo Zo,pack_turn _ _ Zo Zo,pack_xor,pack_xor]
  ·rw [hv.at',hv.at',hv.at',pack_not,pack_and,pack_and,pack_xor]
 have h2:t2N n v=pack n λ k=>t2 (V k):=by
  unfold t2N t2;refine addN_pack ?_ ?_
  ·rw [hv.at',pack_turn _ _ Zo Zo,pack_turn _ _ Zo Zo,pack_turn _ _ Zo Zo,pack_xor,pack_xor]
  ·rw [hv.at',hv.at',hv.at',pack_and,pack_and,pack_and,pack_xor,pack_xor]
 unfold A9 round;exact RL.cons (addN_pack h1 h2) (RL.cons (hv.at' _) (RL.cons (hv.at' _) (RL.cons (hv.at' _) (RL.cons (addN_pack (hv.at' _) h1) (RL.cons (hv.at' _) (RL.cons (hv.at' _) (RL.cons (hv.at' _) RL.nil)))))))
theorem rounds_pack {W v:List Nat} {F V:Nat->List UInt32} (hW:RL n W F) (hv:RL n v V):∀ t,RL n (vf n W v t) λ k=>rounds (F k) (V k) t:=by
 intro t
 induction t with
 | zero=>exact hv
 | succ t ih=>exact round_pack hW ih t
theorem head_pack {X:List Nat} {m:Nat->List UInt8} (h:RL n X λ k=>(List.range 16).map (inW (m k))):C1 n X=pack n λ k=>w' (block h0 (m k)) 0:=by
 have hv:RL n (h0.map λ c=>mw n*c.toNat) λ _=>h0 :=
  RL.cons (pack_const _) (RL.cons (pack_const _) (RL.cons (pack_const _) (RL.cons (pack_const _) (RL.cons (pack_const _) (RL.cons (pack_const _) (RL.cons (pack_const _) (RL.cons (pack_const _) RL.nil)))))))
 exact addN_pack (pack_const _) ((rounds_pack (sched_pack h 48) hv 64).at' 0)
theorem packN_inj:∀ {n:Nat} {f g:Nat->Nat},(∀ k,f k<2 ^ 64)->(∀ k,g k<2 ^ 64)->fW n f=fW n g->∀ k,k<n->f k=g k:=by
 intro n
 induction n with
 | zero=>intro f g _ _ _ k hk;omega
 | succ n ih =>
  intro f g hf hg h k hk;simp only [fW] at h;have h0:=hf 0;have h1:=hg 0;have e:f 0=g 0/\fW n (λ k=>f (k+1))=fW n (λ k=>g (k+1)):=Zo;cases k with
  | zero=>exact e.1
  | succ k=>exact ih (f:=λ k=>f (k+1)) (g:=λ k=>g (k+1)) (λ k=>hf (k+1)) (λ k=>hg (k+1)) e.2 k Zo
theorem neq_pack {f g:Nat->UInt32} (h:Dz n (pack n f) (pack n g)=true):∀ k,k<n->f k≠g k:=by
 intro k hk e;have h:=beq_iff_eq.1 h;have hb:∀ k,(f k ^^^ g k).toNat+(2 ^ 32-1)<2 ^ 64:=λ k=>by have:=(f k ^^^ g k).toNat_lt;omega
 rw [pack_xor,zW,ones_mul] at h;unfold pack at h;rw [packN_add,packN_and n _ _ hb (λ _=>Zd)] at h;have h:=packN_inj (λ k=>Nat.and_lt_two_pow _ Zd) (λ _=>Zd) h k hk;rw [e,UInt32.xor_self] at h;revert h
 decide
theorem or4 {a b c d:Nat} (hb:b<256) (hc:c<256) (hd:d<256):(2 ^ 24*a ||| 2 ^ 16*b ||| 2 ^ 8*c ||| d)=2 ^ 24*a+2 ^ 16*b+2 ^ 8*c+d:=by
 have h1:=Nat.two_pow_add_eq_or_of_lt (i:=24) (b:=2 ^ 16*b) Zo a;rw [<- h1];have h2:=Nat.two_pow_add_eq_or_of_lt (i:=16) (b:=2 ^ 8*c) Zo (2 ^ 8*a+b);have e2:2 ^ 16*(2 ^ 8*a+b)=2 ^ 24*a+2 ^ 16*b:=Zo;rw [e2] at h2;rw [<- h2];have h3:=Nat.two_pow_add_eq_or_of_lt (i:=8) (b:=d) Zo (2 ^ 16*a+2 ^ 8*b+c);have e3:2 ^ 8*(2 ^ 16*a+2 ^ 8*b+c)=2 ^ 24*a+2 ^ 16*b+2 ^ 8*c:=Zo;rw [e3] at h3;rw [<- h3]
theorem bt3 (x:Nat):x / 256 / 256 / 256 % 256*16777216 % 4294967296=16777216*(x / 256 / 256 / 256 % 256):=Zo
theorem bt2 (x:Nat):x / 256 / 256 % 256*65536 % 4294967296=65536*(x / 256 / 256 % 256):=Zo
theorem bt1 (x:Nat):x / 256 % 256*256 % 4294967296=256*(x / 256 % 256):=Zo
theorem btqq (x:Nat):16777216*(x / 256 / 256 / 256 % 256)+65536*(x / 256 / 256 % 256)+256*(x / 256 % 256)+x % 256=x % 4294967296:=Zo
theorem word4 (v:UInt64):((v >>> 8 >>> 8 >>> 8).toUInt8.toUInt32 <<< 24 ||| (v >>> 8 >>> 8).toUInt8.toUInt32 <<< 16 ||| (v >>> 8).toUInt8.toUInt32 <<< 8 ||| v.toUInt8.toUInt32)=v.toUInt32:=by
 apply UInt32.toNat_inj.1;have hv:=v.toNat_lt;simp only [UInt32.toNat_or,UInt32.toNat_shiftLeft,UInt8.toNat_toUInt32,UInt64.toNat_toUInt8,UInt64.toNat_shiftRight,UInt64.toNat_toUInt32,Nat.shiftRight_eq_div_pow,Nat.shiftLeft_eq];have r8qq:(8:UInt64).toNat % 64=8:=rfl;have s8:(8:UInt32).toNat % 32=8:=rfl;have s16:(16:UInt32).toNat % 32=16:=rfl;have s24:(24:UInt32).toNat % 32=24:=rfl;rw [r8qq,s8,s16,s24];generalize v.toNat=x at *;have h4:∀ {a b c d:Nat},b<256->c<256->d<256->(16777216*a ||| 65536*b ||| 256*c ||| d)=16777216*a+65536*b+256*c+d:=λ hb hc hd=>or4 hb hc hd;clear hv;simp only [Nat.reducePow];rw [bt3,bt2,bt1,h4 Zo Zo Zo];exact btqq x
theorem putL4_inj {x y:UInt32} (h:aH 4 x.toUInt64=aH 4 y.toUInt64):x=y:=by
 simp only [aH,q5q,q6q,List.cons.injEq,and_true] at h;obtain ⟨h1,h2,h3,h4⟩:=h;have hx:=word4 x.toUInt64;have hy:=word4 y.toUInt64;rw [h1,h2,h3,h4,hy] at hx;simpa using hx.symm
end Go.Lane

/- SHA-256 in lanes for many offsets at once. No program. -/
namespace Go.Lane
open Go.Sha Go.Oct
def splitN (n:Nat):Nat->Nat->List Nat
 | 0,_=>[]
 | c+1,X=>(X % 2 ^ (64*n)) :: splitN n c (X >>> (64*n))
theorem packN_split:∀ (n m:Nat) (f:Nat->Nat),fW (n+m) f=2 ^ (64*n)*fW m (λ k=>f (n+k))+fW n f:=by
 intro n
 induction n with
 | zero=>intro m f;simp [fW]
 | succ n ih =>
  intro m f;rw [Nat.succ_add,fW,fW,ih,uk,Nat.mul_add,Nat.mul_assoc,Nat.add_assoc];have e:(λ k=>f (n+k+1))=λ k=>f (n+1+k):=by funext k;congr 1;omega
  rw [e]
theorem packN_lt {f:Nat->Nat}:∀ {n:Nat},(∀ k,f k<2 ^ 64)->fW n f<2 ^ (64*n):=by
 intro n
 induction n generalizing f with
 | zero=>intro _;simp [fW]
 | succ n ih =>
  intro h;have h1:=ih (f:=λ k=>f (k+1)) λ k=>h (k+1);have h0:=h 0;rw [fW,uk];have h2:=Nat.mul_le_mul_left (2 ^ 64) (Nat.succ_le_of_lt h1);rw [Nat.mul_succ] at h2;omega
end Go.Lane

/- SHA-256 of the cases' numbers in lanes. No program. -/
namespace Go.Lane
open Go.Sha Go.Oct Go.Case
def catG (n:Nat):List (Nat × Nat)->Nat->Nat
 | [],_=>0
 | p :: l,t=>if t<n then p.1*t+p.2 else catG n l (t-n)
def catM (n:Nat):List (Nat × Nat)->Nat
 | []=>0
 | p :: l=>2 ^ (64*n)*catM n l+(iota n 0*p.1+mw n*p.2)
theorem catG_low {n t:Nat} {p:Nat × Nat} {l:List (Nat × Nat)} (h:t<n):catG n (p :: l) t=p.1*t+p.2:=by simp [catG,h]
theorem catG_up {n t:Nat} {p:Nat × Nat} {l:List (Nat × Nat)}:catG n (p :: l) (n+t)=catG n l t:=by
 rw [catG,if_neg Zo,Nat.add_sub_cancel_left]
theorem catM_eq (n:Nat):∀ L:List (Nat × Nat),catM n L=fW (n*L.length) (catG n L):=by
 intro L
 induction L with
 | nil=>simp [catM,fW]
 | cons p l ih =>
  rw [catM,List.length_cons,Nat.mul_succ,Nat.add_comm (n*l.length),packN_split,ih,iota_eq,ones_mul,xB,packN_add];have e1:fW (n*l.length) (λ k=>catG n (p :: l) (n+k))=fW (n*l.length) (catG n l):=packN_congr λ k _=>catG_up;have e2:fW n (catG n (p :: l))=fW n λ k=>(k+0)*p.1+p.2:=packN_congr λ k hk=>by rw [catG_low hk,Nat.add_zero,Nat.mul_comm]
  rw [e1,e2]
theorem catG_lt {n:Nat}:∀ {L:List (Nat × Nat)},(∀ p∈L,p.1*n+p.2<2 ^ 32)->∀ t,t<n*L.length->catG n L t<2 ^ 32:=by
 intro L
 induction L with
 | nil=>intro _ t ht;simp at ht
 | cons p l ih =>
  intro h t ht;rw [List.length_cons,Nat.mul_succ] at ht;by_cases hn:t<n
  ·rw [catG_low hn];have:=h p (List.mem_cons_self ..);have h2:=Nat.mul_le_mul_left p.1 (Nat.le_of_lt hn);omega
  ·rw [catG,if_neg hn];exact ih (λ o ho=>h o (List.mem_cons_of_mem _ ho)) _ Zo
theorem split_packG (n:Nat) (g:Nat->UInt32):∀ L:List (Nat × Nat),splitN n L.length (pack (n*L.length) λ t=>g (catG n L t))=L.map λ p=>pack n λ k=>g (p.1*k+p.2):=by
 intro L
 induction L with
 | nil=>rfl
 | cons p l ih =>
  have hlt:fW n (λ k=>(g (catG n (p :: l) k)).toNat)<2 ^ (64*n):=packN_lt λ k=>lt64 _;have hp:0<2 ^ (64*n):=Nat.pow_pos Zo;unfold pack at ih ⊢;rw [List.length_cons,Nat.mul_succ,Nat.add_comm (n*l.length),packN_split,splitN,List.map_cons,Nat.mul_add_mod,Nat.mod_eq_of_lt hlt,Nat.shiftRight_eq_div_pow,Nat.mul_add_div hp,Nat.div_eq_of_lt hlt,Nat.add_zero];have e:fW (n*l.length) (λ k=>(g (catG n (p :: l) (n+k))).toNat)=fW (n*l.length) (λ k=>(g (catG n l k)).toNat):=packN_congr λ k _=>by rw [catG_up]
  rw [e,ih]
  congr 1
  exact packN_congr λ k hk=>by rw [catG_low hk]
def msgK (s:Nat):List UInt8:=mP (vF++aH 8 (UInt64.ofNat s)) 12
theorem msgK_words {s:Nat} (hs:s<2 ^ 32):(List.range 16).map (inW (msgK s))=[1667330917,0,UInt32.ofNat s,2147483648,0,0,0,0,0,0,0,0,0,0,0,96]:=by
 have hv:(UInt64.ofNat s).toUInt32=UInt32.ofNat s:=by
  apply UInt32.toNat_inj.1;rw [UInt64.toNat_toUInt32,UInt64.toNat_ofNat',UInt32.toNat_ofNat'];omega
 have hz:(UInt64.ofNat s >>> 8 >>> 8 >>> 8 >>> 8)=0:=by
  apply UInt64.toNat_inj.1;have r8qq:(8:UInt64).toNat % 64=8:=rfl;simp only [UInt64.toNat_shiftRight,UInt64.toNat_ofNat',Nat.shiftRight_eq_div_pow,r8qq];have z:(0:UInt64).toNat=0:=rfl;rw [z];omega
 have hw:=word4 (UInt64.ofNat s);rw [hv] at hw;have hm:msgK s=(99:UInt8) :: 97 :: 115 :: 101 :: 0 :: 0 :: 0 :: 0 :: (UInt64.ofNat s >>> 8 >>> 8 >>> 8).toUInt8 :: (UInt64.ofNat s >>> 8 >>> 8).toUInt8 :: (UInt64.ofNat s >>> 8).toUInt8 :: (UInt64.ofNat s).toUInt8 ::
   (128 :: (List.replicate 43 0++aH 8 96)):=by
  have l12:(vF++aH 8 (UInt64.ofNat s)).length=12:=by simp [az,vF]
  have e8:aH 8 (UInt64.ofNat s)=[(0:UInt8),0,0,0,(UInt64.ofNat s >>> 8 >>> 8 >>> 8).toUInt8,(UInt64.ofNat s >>> 8 >>> 8).toUInt8,(UInt64.ofNat s >>> 8).toUInt8,(UInt64.ofNat s).toUInt8]:=by
   simp only [aH,hz,q5q,q6q]
   congr 1
  unfold msgK mP;rw [l12,e8,show jL 12=43 from rfl];simp only [vF,q5q,q6q,List.append_assoc];rfl
 have h2:inW (msgK s) 2=UInt32.ofNat s:=by rw [hm];exact hw
 have hr:∀ t,3<=t->inW (msgK s) t=inW (128 :: (List.replicate 43 0++aH 8 96)) (t-3):=by
  intro t ht;obtain ⟨u,rfl⟩:∃ u,t=u+3:=⟨t-3,Zo⟩;rw [hm];have e:∀ j,4*(u+3)+j=(4*u+j)+12:=λ j=>Zo;unfold inW b';have e0:=e 0;simp only [Nat.add_zero] at e0;rw [e 1,e 2,e 3,e0,Nat.add_sub_cancel];rfl
 have h0':inW (msgK s) 0=1667330917:=by rw [hm];simp [inW,b'];decide
 have h1':inW (msgK s) 1=0:=by rw [hm];simp [inW,b']
 show [inW (msgK s) 0,inW (msgK s) 1,inW (msgK s) 2,inW (msgK s) 3,inW (msgK s) 4,inW (msgK s) 5,inW (msgK s) 6,inW (msgK s) 7,inW (msgK s) 8,inW (msgK s) 9,inW (msgK s) 10,inW (msgK s) 11,inW (msgK s) 12,inW (msgK s) 13,inW (msgK s) 14,inW (msgK s) 15]=_;rw [h0',h1',h2,hr 3 Zo,hr 4 Zo,hr 5 Zo,hr 6 Zo,hr 7 Zo,hr 8 Zo,hr 9 Zo,hr 10 Zo,hr 11 Zo,hr 12 Zo,hr 13 Zo,hr 14 Zo,hr 15 Zo]
 congr 3
def seedG (n:Nat) (L:List (Nat × Nat)):List Nat:=[mw (n*L.length)*1667330917,0,catM n L,mw (n*L.length)*2147483648,0,0,0,0,0,0,0,0,0,0,0,mw (n*L.length)*96]
theorem seedG_rl {n:Nat} {L:List (Nat × Nat)} (h:∀ p∈L,p.1*n+p.2<2 ^ 32):RL (n*L.length) (seedG n L) λ t=>(List.range 16).map (inW (msgK (catG n L t))):=by
 refine ⟨λ k=>by simp [seedG],λ i=>?_⟩;have e:pack (n*L.length) (λ t=>w' ((List.range 16).map (inW (msgK (catG n L t)))) i)=pack (n*L.length) (λ t=>w' [1667330917,0,UInt32.ofNat (catG n L t),2147483648,0,0,0,0,0,0,0,0,0,0,0,96] i) :=
  packN_congr λ k hk=>by show UInt32.toNat (w' ((List.range 16).map (inW (msgK (catG n L k)))) i)=_;rw [msgK_words (catG_lt h k hk)]
 rw [e];have hi:catM n L=pack (n*L.length) λ t=>UInt32.ofNat (catG n L t):=by
  rw [catM_eq];refine packN_congr λ k hk=>?_;rw [UInt32.toNat_ofNat',Nat.mod_eq_of_lt (catG_lt h k hk)]
 have z:=(pack_zero (n:=n*L.length)).symm;have c0:=pack_const (n:=n*L.length) 1667330917;have c1:=pack_const (n:=n*L.length) 2147483648;have c2:=pack_const (n:=n*L.length) 96;exact (RL.cons c0 (RL.cons z (RL.cons hi (RL.cons c1 (RL.cons z (RL.cons z (RL.cons z (RL.cons z (RL.cons z (RL.cons z (RL.cons z (RL.cons z (RL.cons z (RL.cons z (RL.cons z (RL.cons c2 RL.nil)))))))))))))))).at' i
def headsG (n:Nat) (L:List (Nat × Nat)):List Nat:=splitN n L.length (C1 (n*L.length) (seedG n L))
theorem headsG_eq {n:Nat} {L:List (Nat × Nat)} (h:∀ p∈L,p.1*n+p.2<2 ^ 32):headsG n L=L.map λ p=>pack n λ k=>w' (block h0 (msgK (p.1*k+p.2))) 0:=by
 unfold headsG;rw [head_pack (seedG_rl h)];exact split_packG n (λ s=>w' (block h0 (msgK s)) 0) L
theorem u64i_nat {s:Nat} (h:s<2 ^ 32):xO (s:Int)=UInt64.ofNat s:=by
 unfold xO
 congr 1
 omega
theorem rnd_head {s m:Nat} (h:s<2 ^ 32) (hm:4<=m):(rnd (s:Int) m).take 4=aH 4 (w' (block h0 (msgK s)) 0).toUInt64:=by
 have l:(vF++aH 8 (UInt64.ofNat s)).length=12:=by simp [az,vF]
 unfold rnd;rw [List.take_take,Nat.min_eq_left hm,u64i_nat h];unfold sha;rw [l];show (fin h0 (vF++aH 8 (UInt64.ofNat s)) 12).take 4=_;unfold fin BM;have lt:(mP (vF++aH 8 (UInt64.ofNat s)) 12).length=64:=by rw [ra,l];rfl
 rw [lt];have eb:blocks h0 (mP (vF++aH 8 (UInt64.ofNat s)) 12) (64 / 64)=block h0 (msgK s):=by
  show block h0 (((mP (vF++aH 8 (UInt64.ofNat s)) 12).drop 0).take 64)=_;rw [q11q,List.take_of_length_le Zo];rfl
 rw [eb];have e8:om (block h0 (msgK s)) 8=aH 4 (w' (block h0 (msgK s)) 0).toUInt64++((List.range 7).map λ i=>aH 4 (w' (block h0 (msgK s)) (i+1)).toUInt64).flatten:=rfl;rw [e8];exact List.take_left' (az _ _)
theorem rnd_neq {n m:Nat} (hm:4<=m) {a b:Nat × Nat} (ha:a.1*n+a.2<2 ^ 32) (hb:b.1*n+b.2<2 ^ 32) (h:Dz n (pack n λ k=>w' (block h0 (msgK (a.1*k+a.2))) 0) (pack n λ k=>w' (block h0 (msgK (b.1*k+b.2))) 0)=true) :
  ∀ s,s<n->rnd ((a.1*s+a.2:Nat):Int) m≠rnd ((b.1*s+b.2:Nat):Int) m:=by
 intro s hs e;have h1:=Nat.mul_le_mul_left a.1 (Nat.le_of_lt hs);have h2:=Nat.mul_le_mul_left b.1 (Nat.le_of_lt hs);refine neq_pack h s hs (putL4_inj ?_);rw [<- rnd_head (m:=m) Zo hm,<- rnd_head (m:=m) Zo hm,e]
theorem rnds_ne {n m:Nat} (hm:4<=m) {L:List (Nat × Nat)} (hb:∀ p∈L,p.1*n+p.2<2 ^ 32) (h:CY n (headsG n L)=true):∀ s,s<n->L.Pairwise λ a b=>rnd ((a.1*s+a.2:Nat):Int) m≠rnd ((b.1*s+b.2:Nat):Int) m:=by
 rw [headsG_eq hb] at h;intro s hs
 induction L with
 | nil=>exact List.Pairwise.nil
 | cons p L ih =>
  rw [List.map_cons,CY,Bool.and_eq_true] at h;refine List.Pairwise.cons (λ b hbm=>?_) (ih (λ p hp=>hb p (List.mem_cons_of_mem _ hp)) h.2);have:=List.all_eq_true.1 h.1 _ (List.mem_map_of_mem (f:=λ o:Nat × Nat=>pack n λ k=>w' (block h0 (msgK (o.1*k+o.2))) 0) hbm);exact rnd_neq hm (hb _ (List.mem_cons_self ..)) (hb _ (List.mem_cons_of_mem _ hbm)) this s hs
def offs26:List (Nat × Nat):=((List.range 8).map λ i=>(1000,5000000+i))++(List.range 8).map λ i=>(1000,1001+i)
theorem offs26_ne:CY 101 (headsG 101 offs26)=true:=by decide +kernel
theorem offs26_le:∀ p∈offs26,p.1*101+p.2<2 ^ 32:=Zd
theorem nonces26 {s:Nat} (hs:s<101):offs26.Pairwise λ a b=>rnd ((a.1*s+a.2:Nat):Int) 16≠rnd ((b.1*s+b.2:Nat):Int) 16:=rnds_ne Zd offs26_le offs26_ne s hs
end Go.Lane
