/- Contracts and plain laws,part 2. -/
import Derived.Test.YtanlehkalkafdaaGreatDoorUT01
set_option linter.all false
namespace Go.Proofs.YtanlehkalkafdaaGreatDoor.Cel
open Go
abbrev L:=List UInt8
structure V where
 kind:Int
 num:Int
 text:L
 nums:List Int
 texts:List L
def V0:V:=⟨0,0, [], [], []⟩
def u64 (n:Int):Nat:=(n % 18446744073709551616).toNat
def s64 (b:Nat):Int:=if b<9223372036854775808 then (b:Int) else (b:Int) - 18446744073709551616
def In64 (n:Int):Prop:= -9223372036854775808<=n/\n<=9223372036854775807
def nanBad (n:Int):Bool:=decide (9218868437227405312<u64 n % 9223372036854775808) && decide (u64 n≠9221120237041090560)
def numWrong (k n:Int):Nat:=if k=1/\n≠0/\n≠1 then 42 else if k=3/\nanBad n=true then 43 else 0
def numsWrong (k:Int):List Int->Nat
 | []=>0
 | n :: r=>if numWrong k n≠0 then numWrong k n else numsWrong k r
def longs (l:List L):Bool:=l.any fun s=>decide (1000<s.length)
def Unused (v:V):Prop:=(v.num≠0/\3<v.kind)\/(v.text≠ []/\v.kind≠4)\/(v.nums≠ []/\(v.kind<5\/v.kind=8))\/(v.texts≠ []/\v.kind≠8)
instance (v:V):Decidable (Unused v):=by unfold Unused;infer_instance
def check (v:V):Nat:=
 if v.kind<1\/8<v.kind then 40 else
 if Unused v then 41 else
 if 40<v.nums.length\/40<v.texts.length then 45 else
 if 1000<v.text.length\/longs v.texts=true then 44 else
 if v.kind<4 then numWrong v.kind v.num else numsWrong (v.kind - 4) v.nums
def cls (k:Int):UInt8:=if k=1 then 98 else if k=2 then 105 else if k=3 then 102 else 115
def letter (k:Int):L:=if 4<k then [cls (k - 4),91,93] else [cls k]
def TRUE:L:= [116,114,117,101]
def FALSE:L:= [102,97,108,115,101]
def numS (k n:Int):L:=if k=2 then Lib.itoa n else if k=3 then Num.fmt (u64 n) else if n=0 then FALSE else TRUE
def escT:L->L
 | []=> []
 | c :: r=>if c=92\/c=59 then 92 :: c :: escT r else c :: escT r
def numE (k n:Int):L:=numS k n ++ [59]
def textE (t:L):L:=escT t ++ [59]
def print (v:V):L:=letter v.kind ++ [58] ++(if v.kind<4 then numS v.kind v.num else []) ++ v.text ++ v.nums.flatMap (numE (v.kind - 4)) ++ v.texts.flatMap textE
def printR (v:V):L×Nat:=if check v=0 then (print v,0) else ([],check v)
def numP (k:Int) (s:L):Int×Nat:=
 if k=1 then (if s=TRUE then (1,0) else if s=FALSE then (0,0) else (0,220)) else
 if k=2 then Num.parseInt s else
 match Num.parse s with
 | some b=>(s64 b,0)
 | none=>(0,52)
def cut59:L->L->Option (L×L)
 | [],_=>none
 | c :: r,b=>if c=59 then some (b,r) else cut59 r (b ++ [c])
def elem:L->L->Option (L×L)
 | [],_=>none
 | [c],b=>if c=59 then some (b, []) else none
 | c :: d :: r,b=>
  if c=59 then some (b,d :: r) else
  if c=92 then (if d=92\/d=59 then elem r (b ++ [d]) else none) else elem (d :: r) (b ++ [c])
def numsP (k:Int):Nat->L->List Int->List Int×Nat
 | 0,_,acc=>(acc,0)
 | f+1,l,acc=>
  if l= [] then (acc,0) else
  match cut59 l [] with
  | none=>([],220)
  | some (s,r)=>if (numP k s).2≠0 then ([],(numP k s).2) else numsP k f r (acc ++ [(numP k s).1])
def textsP:Nat->L->List L->List L×Nat
 | 0,_,acc=>(acc,0)
 | f+1,l,acc=>
  if l= [] then (acc,0) else
  match elem l [] with
  | none=>([],220)
  | some (s,r)=>textsP f r (acc ++ [s])
def kindOf (c:UInt8):Int:=if c=98 then 1 else if c=105 then 2 else if c=102 then 3 else if c=115 then 4 else 0
def headP:L->Option (Int×L)
 | []=>none
 | c :: r=>
  if Lib.hasPrefix r [91,93]=true then
   (if kindOf c=0\/Lib.hasPrefix (r.drop 2) [58]=false then none else some (kindOf c+4,r.drop 3))
  else
   (if kindOf c=0\/Lib.hasPrefix r [58]=false then none else some (kindOf c,r.drop 1))
def bodyP (k:Int) (r:L):V×Nat:=
 if 4<k then
  (if k=8 then (⟨k,0, [], [],(textsP (r.length+1) r []).1⟩,(textsP (r.length+1) r []).2)
   else (⟨k,0, [],(numsP (k - 4) (r.length+1) r []).1, []⟩,(numsP (k - 4) (r.length+1) r []).2))
 else if k=4 then (⟨4,0,r, [], []⟩,0)
 else (⟨k,(numP k r).1, [], [], []⟩,(numP k r).2)
def parse (s:L):V×Nat:=
 match headP s with
 | none=>(V0,220)
 | some (k,r)=>if (bodyP k r).2≠0 then (V0,(bodyP k r).2) else if check (bodyP k r).1≠0 then (V0,check (bodyP k r).1) else ((bodyP k r).1,0)
theorem u64_lt (n:Int):u64 n<18446744073709551616:=by unfold u64;omega
theorem s64_u64 {n:Int} (h:In64 n):s64 (u64 n)=n:=by
 obtain ⟨h1,h2⟩:=h;unfold s64 u64
 split<;> omega
theorem u64_s64 {b:Nat} (h:b<18446744073709551616):u64 (s64 b)=b:=by
 unfold s64 u64
 split<;> omega
theorem s64_in {b:Nat} (h:b<18446744073709551616):In64 (s64 b):=by
 unfold s64 In64
 split<;> omega
theorem canon_good {n:Int} (h:nanBad n=false):Num.canon (u64 n)=u64 n:=by
 unfold Num.canon
 split
 ·rename_i h1
  unfold nanBad at h;rw [kY h1,Bool.true_and,rM,Decidable.not_not] at h;exact h.symm
 rfl
theorem numP_numS {k n:Int} (hk:1<=k) (hk3:k<=3) (hn:In64 n) (h:numWrong k n=0):numP k (numS k n)=(n,0):=by
 unfold numP numS;by_cases h2:k=2
 ·rw [kU (by omega),lu h2,lu h2]
  exact Num.parse_itoa n hn.1 hn.2
 by_cases h3:k=3
 ·rw [kU (by omega),kU h2,kU h2,lu h3,Num.parse_fmt (u64_lt n)]
  have hb:nanBad n=false:=by
   cases hb:nanBad n with
   | false=>rfl
   | true=>unfold numWrong at h;rw [kU (by omega),lu ⟨h3,hb⟩] at h;omega
  simp only;rw [canon_good hb,s64_u64 hn]
 have h1:k=1:=by omega
 rw [lu h1,kU h2,kU h3];by_cases hz:n=0
 ·rw [lu hz,hz];rfl
 have hone:n=1:=by
  unfold numWrong at h;by_cases h9:n=1
  ·exact h9
  rw [lu ⟨h1,hz,h9⟩] at h;omega
 rw [kU hz,hone];rfl
theorem numS_numP {k n:Int} {s:L} (hk:1<=k) (hk3:k<=3) (h:numP k s=(n,0)):numS k n=s/\In64 n:=by
 unfold numP at h;unfold numS;by_cases h2:k=2
 ·rw [kU (by omega),lu h2] at h
  rw [lu h2];refine ⟨Num.itoa_of_parse h, ?_⟩;have:=h;unfold Num.parseInt at this
  simp only at this;unfold In64
  repeat' split at this
  all_goals first
   |(simp only [nH] at this;omega)
   |(obtain ⟨rfl,-⟩:=Prod.mk.inj this;omega)
 by_cases h3:k=3
 ·rw [kU (by omega),kU h2] at h
  rw [kU h2,lu h3];cases hp:Num.parse s with
  | none=>rw [hp] at h;simp at h
  | some b=>
   rw [hp] at h;simp only [nH,rJ] at h;obtain ⟨g1,g2,-⟩:=Num.fmt_parse hp;subst h
   exact ⟨by rw [u64_s64 g2,g1],s64_in g2⟩
 have h1:k=1:=by omega
 rw [lu h1] at h;rw [kU h2,kU h3]
 split at h
 ·rename_i e
  cases h;exact ⟨by rw [e];rfl,by unfold In64;omega⟩
 split at h
 ·rename_i e
  cases h;exact ⟨by rw [e];rfl,by unfold In64;omega⟩
 cases h
theorem dig_no {c:UInt8} (h:Num.isDig c=true):c≠59:=by
 rintro rfl;exact absurd h (by decide)
theorem itoa_no (n:Int): ∀x∈Lib.itoa n,x≠59:=by
 obtain ⟨neg,r,e,hg,-⟩:=Num.itoa_form n;intro x hx;rw [e] at hx
 rcases lW.1 hx with h | h
 ·cases neg with
  | true=>rw [lY.1 h];decide
  | false=>cases h
 exact dig_no (og.1 hg.1 x h)
theorem hexd_no: ∀d:Fin 16,Num.hexd d.val≠59:=by decide
theorem hexN_no: ∀(k n:Nat),∀x∈Num.hexN k n,x≠59
 | 0,n,x,h=>by simp [Num.hexN] at h
 | k+1,n,x,h=>by
  unfold Num.hexN at h
  rcases lW.1 h with h | h
  ·exact hexN_no k _ x h
  rw [lY.1 h];exact hexd_no ⟨n % 16,uV _ (by decide)⟩
theorem fracS_no (f:Nat): ∀x∈Num.fracS f,x≠59:=by
 intro x hx;unfold Num.fracS at hx
 split at hx
 ·cases hx
 rcases mX.1 hx with rfl | h
 ·decide
 obtain ⟨j,e,-⟩:=Num.trim_split _ (Num.hexN 13 f) rfl
 exact hexN_no 13 f x (by rw [e];exact qw _ h)
theorem expS_no (e:Int): ∀x∈Num.expS e,x≠59:=by
 intro x hx;unfold Num.expS at hx
 split at hx
 ·rcases mX.1 hx with rfl | h
  ·decide
  exact itoa_no _ x h
 rcases mX.1 hx with rfl | h
 ·decide
 exact itoa_no _ x h
theorem const_no: ∀x∈Num.NANS ++ Num.INFS ++ Num.ZERO ++ [45,48,120,49] ++ TRUE ++ FALSE,x≠(59:UInt8):=by decide
theorem form_no (f:Nat) (e:Int): ∀x∈Num.form f e,x≠59:=by
 intro x hx;unfold Num.form at hx
 rcases lW.1 hx with h | h
 ·exact const_no x (by simp at h⊢;rcases h with rfl | rfl | rfl<;> simp)
 rcases lW.1 h with h | h
 ·exact fracS_no f x h
 exact expS_no e x h
theorem fmt_no (b:Nat): ∀x∈Num.fmt b,x≠59:=by
 intro x hx;unfold Num.fmt at hx
 split at hx
 ·exact const_no x (by simp only [lW];simp [hx])
 rcases lW.1 hx with h | h
 ·unfold Num.sg at h
  split at h
  ·rw [lY.1 h];decide
  cases h
 unfold Num.fmtU at h
 split at h
 ·exact const_no x (by simp only [lW];simp [h])
 split at h
 ·exact const_no x (by simp only [lW];simp [h])
 exact form_no _ _ x h
theorem numS_no (k n:Int): ∀x∈numS k n,x≠59:=by
 intro x hx;unfold numS at hx
 repeat' split at hx
 ·exact itoa_no _ x hx
 ·exact fmt_no _ x hx
 ·exact const_no x (by simp only [lW];simp [hx])
 exact const_no x (by simp only [lW];simp [hx])
theorem cut59_of: ∀(a r b:L),(∀x∈a,x≠59)->cut59 (a ++ 59 :: r) b=some (b ++ a,r)
 | [],r,b,_=>by simp [cut59]
 | c :: a,r,b,h=>by
  rw [nG,cut59,kU (h c (by simp)),cut59_of a r _ (fun x hx=>h x (by simp [hx]))]
  simp
theorem cut59_some: ∀(l b x r:L),cut59 l b=some (x,r)-> ∃a,x=b ++ a/\l=a ++ 59 :: r
 | [],b,x,r,h=>by cases h
 | c :: l,b,x,r,h=>by
  unfold cut59 at h
  split at h
  ·rename_i hc
   cases h;exact ⟨[],by simp,by rw [hc];rfl⟩
  obtain ⟨a,e1,e2⟩:=cut59_some l _ x r h;exact ⟨c :: a,by rw [e1];simp,by rw [e2];rfl⟩
theorem elem_cons {c:UInt8} {l b:L} (h1:c≠59) (h2:c≠92):elem (c :: l) b=elem l (b ++ [c]):=by
 cases l with
 | nil=>simp only [elem];rw [kU h1]
 | cons d r=>rw [elem,kU h1,kU h2]
theorem elem_end (l b:L):elem (59 :: l) b=some (b,l):=by
 cases l with
 | nil=>simp [elem]
 | cons d r=>simp [elem]
theorem elem_esc {d:UInt8} {l b:L} (h:d=92\/d=59):elem (92 :: d :: l) b=elem l (b ++ [d]):=by
 rw [elem,kU (by decide),lu rfl,lu h]
theorem elem_of: ∀(t r b:L),elem (escT t ++ 59 :: r) b=some (b ++ t,r)
 | [],r,b=>by rw [escT,mP,elem_end,mG]
 | c :: t,r,b=>by
  unfold escT
  split
  ·rename_i h
   rw [nG,nG,elem_esc h,elem_of t r];simp
  rename_i h;rw [nG,elem_cons (fun e=>h (.inr e)) (fun e=>h (.inl e)),elem_of t r]
  simp
theorem elem_some: ∀(n:Nat) (l b x r:L),l.length<=n->elem l b=some (x,r)-> ∃t,x=b ++ t/\l=escT t ++ 59 :: r
 | _, [],b,x,r,_,h=>by cases h
 | 0,c :: l,b,x,r,hl,h=>by simp at hl
 | n+1,c :: l,b,x,r,hl,h=>by
  rw [lF] at hl;by_cases h1:c=59
  ·subst h1
   rw [elem_end] at h;cases h;exact ⟨[],by simp,rfl⟩
  by_cases h2:c=92
  ·subst h2
   cases l with
   | nil=>simp [elem] at h
   | cons d l=>
    by_cases hd:d=92\/d=59
    ·rw [elem_esc hd] at h
     obtain ⟨t,e1,e2⟩:=elem_some n l _ x r (by rw [lF] at hl;omega) h
     exact ⟨d :: t,by rw [e1];simp,by rw [escT,lu hd,e2];rfl⟩
    rw [elem,kU (by decide),lu rfl,kU hd] at h
    cases h
  rw [elem_cons h1 h2] at h;obtain ⟨t,e1,e2⟩:=elem_some n l _ x r (by omega) h
  exact ⟨c :: t,by rw [e1];simp,by rw [escT,kU (fun e=>e.elim h2 h1),e2];rfl⟩
theorem numE_len (k n:Int):1<=(numE k n).length:=by unfold numE;simp
theorem textE_len (t:L):1<=(textE t).length:=by unfold textE;simp
theorem numsWrong_cons {k n:Int} {r:List Int} (h:numsWrong k (n :: r)=0):numWrong k n=0/\numsWrong k r=0:=by
 unfold numsWrong at h
 split at h
 ·rename_i h1;exact absurd h h1
 rename_i h1;exact ⟨by omega,h⟩
theorem numsP_of {k:Int} (hk:1<=k) (hk3:k<=3): ∀(f:Nat) (ns acc:List Int),(ns.flatMap (numE k)).length<f->(∀n∈ns,In64 n)->numsWrong k ns=0->numsP k f (ns.flatMap (numE k)) acc=(acc ++ ns,0)
 | 0,_,_,h,_,_=>by omega
 | f+1, [],acc,_,_,_=>by simp [numsP]
 | f+1,n :: r,acc,hf,hn,hw=>by
  obtain ⟨w1,w2⟩:=numsWrong_cons hw
  have e:(n :: r).flatMap (numE k)=numS k n ++ 59 :: r.flatMap (numE k):=by simp [numE]
  have hl:=numE_len k n;rw [ny,kW] at hf;unfold numsP
  rw [e,kU (by simp),cut59_of _ _ _ (numS_no k n)]
  simp only [mP]
  rw [numP_numS hk hk3 (hn n (by simp)) w1,kU (by simp),numsP_of hk hk3 f r _ (by omega) (fun m hm=>hn m (by simp [hm])) w2]
  simp
theorem textsP_of: ∀(f:Nat) (ts acc:List L),(ts.flatMap textE).length<f->textsP f (ts.flatMap textE) acc=(acc ++ ts,0)
 | 0,_,_,h=>by omega
 | f+1, [],acc,_=>by simp [textsP]
 | f+1,t :: r,acc,hf=>by
  have e:(t :: r).flatMap textE=escT t ++ 59 :: r.flatMap textE:=by simp [textE]
  have hl:=textE_len t;rw [ny,kW] at hf;unfold textsP;rw [e,kU (by simp),elem_of]
  simp only [mP];rw [textsP_of f r _ (by omega)]
  simp
theorem numsP_some {k:Int} (hk:1<=k) (hk3:k<=3): ∀(f:Nat) (l:L) (acc ns:List Int),l.length<f->numsP k f l acc=(ns,0)-> ∃m,ns=acc ++ m/\l=m.flatMap (numE k)/\ ∀n∈m,In64 n
 | 0,l,acc,ns,h,_=>by omega
 | f+1,l,acc,ns,hf,h=>by
  unfold numsP at h
  split at h
  ·rename_i hl
   cases h;exact ⟨[],by simp,by rw [hl];rfl,by simp⟩
  cases hc:cut59 l [] with
  | none=>rw [hc] at h;simp at h
  | some x=>
   obtain ⟨s,r⟩:=x;rw [hc] at h;simp only at h;obtain ⟨a,e1,e2⟩:=cut59_some l [] s r hc
   rw [mP] at e1;subst e1
   split at h
   ·rename_i hne
    simp only [nH] at h;exact absurd h.2 hne
   rename_i hne
   obtain ⟨n,hn⟩: ∃n,numP k s=(n,0):=⟨(numP k s).1,by rw [<-Decidable.not_not.1 hne]⟩
   rw [hn] at h;obtain ⟨g1,g2⟩:=numS_numP hk hk3 hn
   obtain ⟨m,e3,e4,e5⟩:=numsP_some hk hk3 f r _ ns (by rw [e2] at hf;simp at hf;omega) h
   refine ⟨n :: m,by rw [e3];simp, ?_, ?_⟩
   ·rw [e2,e4,ny,numE,g1]
    simp
   intro x hx
   rcases mX.1 hx with rfl | hx
   ·exact g2
   exact e5 x hx
theorem textsP_some: ∀(f:Nat) (l:L) (acc ts:List L),l.length<f->textsP f l acc=(ts,0)-> ∃m,ts=acc ++ m/\l=m.flatMap textE
 | 0,l,acc,ts,h,_=>by omega
 | f+1,l,acc,ts,hf,h=>by
  unfold textsP at h
  split at h
  ·rename_i hl
   cases h;exact ⟨[],by simp,by rw [hl];rfl⟩
  cases hc:elem l [] with
  | none=>rw [hc] at h;simp at h
  | some x=>
   obtain ⟨s,r⟩:=x;rw [hc] at h;simp only at h
   obtain ⟨a,e1,e2⟩:=elem_some _ l [] s r (kV _) hc;rw [mP] at e1;subst e1
   obtain ⟨m,e3,e4⟩:=textsP_some f r _ ts (by rw [e2] at hf;simp at hf;omega) h
   refine ⟨s :: m,by rw [e3];simp, ?_⟩
   rw [e2,e4,ny,textE];simp
theorem kindOf_cls: ∀k:Fin 5,1<=k.val->kindOf (cls (k.val:Int))=(k.val:Int):=by decide
theorem kindOf_cls' {k:Int} (h1:1<=k) (h2:k<=4):kindOf (cls k)=k:=by
 have:=kindOf_cls ⟨k.toNat,by omega⟩ (by show 1<=k.toNat;omega)
 simp only at this
 rwa [show ((k.toNat:Nat):Int)=k by omega] at this
theorem cls_kindOf {c:UInt8} (h:kindOf c≠0):cls (kindOf c)=c/\1<=kindOf c/\kindOf c<=4:=by
 unfold kindOf at h⊢
 repeat' split at h
 all_goals first
  |(rename_i e;subst e;decide)
  |(exfalso;exact h rfl)
  |(rename_i a b c e;subst e;decide)
  |(rename_i a e;subst e;decide)
  |(rename_i a b e;subst e;decide)
theorem hasPrefix_iff (l p:L):Lib.hasPrefix l p=true↔ ∃r,l=p ++ r:=by
 unfold Lib.hasPrefix;rw [uU]
 constructor
 ·rintro ⟨r,hr⟩;exact ⟨r,hr.symm⟩
 rintro ⟨r,hr⟩;exact ⟨r,hr.symm⟩
theorem hasPrefix_one (c:UInt8) (l:L):Lib.hasPrefix (c :: l) [c]=true:=(hasPrefix_iff _ _).2 ⟨l,rfl⟩
theorem headP_of {k:Int} (h1:1<=k) (h2:k<=8) (r:L):headP (letter k ++ [58] ++ r)=some (k,r):=by
 unfold letter;by_cases h:4<k
 ·rw [lu h]
  have hk:=kindOf_cls' (k:=k - 4) (by omega) (by omega)
  show headP (cls (k - 4) :: 91 :: 93 :: 58 :: r)=_
  simp only [headP]
  rw [lu ((hasPrefix_iff (91 :: 93 :: 58 :: r) [91,93]).2 ⟨58 :: r,rfl⟩),hk]
  simp only [oz,pG];rw [hasPrefix_one,kU (by rintro (h | h)<;> first | omega | cases h)]
  congr 2
  omega
 rw [kU h];have hk:=kindOf_cls' (k:=k) (by omega) (by omega)
 show headP (cls k :: 58 :: r)=_
 simp only [headP]
 rw [kU (by rw [hasPrefix_iff];rintro ⟨t,ht⟩;simp at ht),hk,hasPrefix_one,kU (by rintro (h | h)<;> first | omega | cases h)]
 simp
theorem headP_some {s:L} {k:Int} {r:L} (h:headP s=some (k,r)):s=letter k ++ [58] ++ r/\1<=k/\k<=8:=by
 unfold headP at h
 split at h
 ·cases h
 rename_i c l
 split at h
 ·rename_i hp
  split at h
  ·cases h
  rename_i hn;simp only [sG] at hn;obtain ⟨hn1,hn2⟩:=hn;obtain ⟨g1,g2,g3⟩:=cls_kindOf hn1
  obtain ⟨t,rfl⟩:=(hasPrefix_iff _ _).1 hp
  obtain ⟨u,hu⟩:=(hasPrefix_iff _ _).1 (by simpa using hn2)
  have hu':t=58 :: u:=hu;subst hu';simp only [nD,nH] at h;obtain ⟨rfl,rfl⟩:=h
  refine ⟨?_,by omega,by omega⟩
  unfold letter;rw [lu (by omega),show kindOf c+4 - 4=kindOf c by omega,g1]
  rfl
 split at h
 ·cases h
 rename_i hn;simp only [sG] at hn;obtain ⟨hn1,hn2⟩:=hn;obtain ⟨g1,g2,g3⟩:=cls_kindOf hn1
 obtain ⟨u,rfl⟩:=(hasPrefix_iff _ _).1 (by simpa using hn2)
 simp only [nD,nH] at h;obtain ⟨rfl,rfl⟩:=h;refine ⟨?_,by omega,by omega⟩
 unfold letter;rw [kU (by omega),g1]
 rfl
theorem check_range {v:V} (h:check v=0):1<=v.kind/\v.kind<=8:=by
 unfold check at h
 split at h
 ·cases h
 omega
theorem check_parts {v:V} (h:check v=0):1<=v.kind/\v.kind<=8/\ ¬Unused v/\v.nums.length<=40/\v.texts.length<=40/\v.text.length<=1000/\longs v.texts=false/\(if v.kind<4 then numWrong v.kind v.num else numsWrong (v.kind - 4) v.nums)=0:=by
 have hr:=check_range h;unfold check at h;rw [kU (by omega)] at h
 split at h
 ·cases h
 rename_i hu
 split at h
 ·cases h
 rename_i hl
 split at h
 ·cases h
 rename_i ht;simp only [sG] at ht
 exact ⟨hr.1,hr.2,hu,by omega,by omega,by omega,Bool.eq_false_iff.2 ht.2,h⟩
theorem there {v:V} (h:check v=0) (hn:In64 v.num) (hns: ∀n∈v.nums,In64 n):parse (print v)=(v,0):=by
 obtain ⟨h1,h8,hu,-,-,-,-,hw⟩:=check_parts h
 have hu': ¬(v.num≠0/\3<v.kind)/\ ¬(v.text≠ []/\v.kind≠4)/\ ¬(v.nums≠ []/\(v.kind<5\/v.kind=8))/\ ¬(v.texts≠ []/\v.kind≠8):=by
  unfold Unused at hu;simp only [sG] at hu;exact hu
 obtain ⟨u1,u2,u3,u4⟩:=hu'
 have hb:bodyP v.kind ((if v.kind<4 then numS v.kind v.num else []) ++ v.text ++ v.nums.flatMap (numE (v.kind - 4)) ++ v.texts.flatMap textE)=(v,0):=by
  obtain ⟨k,n,t,ns,ts⟩:=v;simp only at h1 h8 hu hw u1 u2 u3 u4 hn hns⊢;unfold bodyP
  by_cases k4:4<k
  ·have e1:n=0:=by apply Decidable.not_not.1;intro e;exact u1 ⟨e,by omega⟩
   have e2:t= []:=by apply Decidable.not_not.1;intro e;exact u2 ⟨e,by omega⟩
   subst e1 e2;have e0:(if k<4 then numS k 0 else [])= []:=kU (by omega)
   rw [lu k4,e0,mP,mP];by_cases k8:k=8
   ·have e3:ns= []:=by apply Decidable.not_not.1;intro e;exact u3 ⟨e, .inr k8⟩
    subst e3;rw [lu k8,pR,mP,textsP_of _ _ _ (by omega)]
    rfl
   have e4:ts= []:=by apply Decidable.not_not.1;intro e;exact u4 ⟨e,k8⟩
   subst e4;rw [kU (by omega)] at hw
   rw [kU k8,pR,mG,numsP_of (by omega) (by omega) _ _ _ (by omega) hns hw]
   rfl
  have e3:ns= []:=by apply Decidable.not_not.1;intro e;exact u3 ⟨e, .inl (by omega)⟩
  have e4:ts= []:=by apply Decidable.not_not.1;intro e;exact u4 ⟨e,by omega⟩
  subst e3 e4;rw [kU k4,pR,pR,mG,mG];by_cases k44:k=4
  ·have e1:n=0:=by apply Decidable.not_not.1;intro e;exact u1 ⟨e,by omega⟩
   subst e1 k44;have e0:(if (4:Int)<4 then numS 4 0 else [])= []:=kU (by omega)
   rw [lu rfl,e0,mP]
  have e2:t= []:=by apply Decidable.not_not.1;intro e;exact u2 ⟨e,k44⟩
  subst e2;have e0:(if k<4 then numS k n else [])=numS k n:=lu (by omega)
  rw [kU k44,e0,mG];rw [lu (by omega)] at hw
  rw [numP_numS (by omega) (by omega) hn hw]
 have hp:print v=letter v.kind ++ [58] ++((if v.kind<4 then numS v.kind v.num else []) ++ v.text ++ v.nums.flatMap (numE (v.kind - 4)) ++ v.texts.flatMap textE):=by
  unfold print;simp only [lX]
 unfold parse;rw [hp,headP_of h1 h8];simp only [hb];rw [kU (by omega),kU (by omega)]
theorem one {s:L} {v:V} (h:parse s=(v,0)):check v=0/\print v=s/\In64 v.num/\ ∀n∈v.nums,In64 n:=by
 unfold parse at h
 split at h
 ·cases h
 rename_i k r hh;obtain ⟨hs,h1,h8⟩:=headP_some hh
 split at h
 ·rename_i hne
  simp only [nH] at h;exact absurd h.2 hne
 rename_i hz
 split at h
 ·rename_i hne
  simp only [nH] at h;exact absurd h.2 hne
 rename_i hc;simp only [nH,rJ] at h;have hz':(bodyP k r).2=0:=by omega
 have hc':check v=0:=by rw [<-h];omega
 refine ⟨hc', ?_⟩;clear hc hz hh;unfold bodyP at h hz';rw [hs];unfold print
 by_cases k4:4<k
 ·rw [lu k4] at h hz'
  by_cases k8:k=8
  ·rw [lu k8] at h hz'
   simp only at h hz'
   obtain ⟨m,e1,e2⟩:=textsP_some (r.length+1) r [] (textsP (r.length+1) r []).1 (by omega) (by rw [<-hz'])
   rw [mP] at e1;rw [<-h];simp only;rw [e1,kU (by omega),<-e2]
   exact ⟨by simp,by unfold In64;omega,by simp⟩
  rw [kU k8] at h hz';simp only at h hz'
  obtain ⟨m,e1,e2,e3⟩:=numsP_some (k:=k - 4) (by omega) (by omega) (r.length+1) r [] (numsP (k - 4) (r.length+1) r []).1 (by omega) (by rw [<-hz'])
  rw [mP] at e1;rw [<-h];simp only;rw [e1,kU (by omega),<-e2]
  exact ⟨by simp,by unfold In64;omega,e3⟩
 rw [kU k4] at h hz';by_cases k44:k=4
 ·rw [lu k44] at h
  rw [<-h];simp only;rw [kU (by omega),k44]
  exact ⟨by simp,by unfold In64;omega,by simp⟩
 rw [kU k44] at h hz';simp only at hz'
 obtain ⟨g1,g2⟩:=numS_numP (k:=k) (n:=(numP k r).1) (s:=r) (by omega) (by omega) (by rw [<-hz'])
 rw [<-h];simp only;rw [lu (by omega),g1]
 exact ⟨by simp,g2,by simp⟩
end Go.Proofs.YtanlehkalkafdaaGreatDoor.Cel
namespace Go.Proofs.YtanlehkalkafdaaGreatDoor.Lex
open Go
abbrev L:=List UInt8
def isLet (c:UInt8):Bool:=(decide (97<=c.toNat) && decide (c.toNat<=122)) ||(decide (65<=c.toNat) && decide (c.toNat<=90)) || decide (c.toNat=95)
def inWord (c:UInt8):Bool:=isLet c || Num.isDig c
def inNum (c:UInt8):Bool:=inWord c || c == 46
def blank (c:UInt8):Bool:=c == 32 || c == 9 || c == 13 || c == 10
def run (p:UInt8->Bool) (l:L):Nat:=(l.takeWhile p).length
def gap:Bool->L->Nat
 | _, []=>0
 | true,c :: r=>1+gap (c !=10) r
 | false,c :: r=>if c=47/\r.head?=some 47 then 1+gap true r else if blank c then 1+gap false r else 0
structure Tok where
 kind:Nat
 text:L
 num:Int
 pos:Nat
inductive Res where
 | tok (kind:Nat) (text:L) (num:Int) (len:Nat)
 | err (off:Nat) (e:Nat)
def int64 (b:Nat):Int:=if b<9223372036854775808 then (b:Int) else (b:Int) - 18446744073709551616
def numHead (w:L):L:=if w.head?=some 45 then w.drop 1 else w
def numTok (w:L):Res:=
 if Lib.hasPrefix (numHead w) [48,120]=true then
  match Num.parse w with
  | some b=> .tok 3 [] (int64 b) w.length
  | none=> .err 0 52
 else if (Num.parseInt w).2=0 then .tok 2 [] (Num.parseInt w).1 w.length else .err 0 (Num.parseInt w).2
def esc:L->Option (UInt8×Nat)
 | []=>none
 | c :: r=>
  if c=92\/c=39 then some (c,1) else
  if c=110 then some (10,1) else
  if c=114 then some (13,1) else
  if c=116 then some (9,1) else
  if c=120 then
   match r with
   | a :: b :: _=>
    match Num.hexv a,Num.hexv b with
    | some x,some y=>some (UInt8.ofNat (x*16+y),3)
    | _,_=>none
   | _=>none
  else none
def odd (c:UInt8):Bool:=decide (c.toNat<32) || decide (126<c.toNat)
def textR:Nat->L->Nat->L->Res
 | 0,_,_,_=> .err 0 241
 | _+1, [],_,_=> .err 0 241
 | k+1,c :: r,o,b=>
  if c=39 then .tok 4 b 0 (o+1) else
  if odd c=true then .err o 240 else
  if c=92 then
   match esc r with
   | none=> .err o 242
   | some (x,n)=>textR k (r.drop n) (o+1+n) (b ++ [x])
  else textR k r (o+1) (b ++ [c])
def MARKS:L:= [40,41,123,125,91,93,58,44,59,45]
def tok1:L->Res
 | []=> .err 0 0
 | c :: r=>
  if c=39 then textR (r.length+1) r 1 [] else
  if isLet c=true then .tok 1 ((c :: r).take (run inWord (c :: r))) 0 (run inWord (c :: r)) else
  if Num.isDig c=true\/(c=45/\r.head?.any Num.isDig=true) then numTok ((c :: r).take (1+run inNum r)) else
  if c=45/\r.head?=some 62 then .tok 5 [45,62] 0 2 else
  if c∈MARKS then .tok 5 [c] 0 1 else .err 0 240
def scan:Nat->L->Nat->List Tok×Option (Nat×Nat)
 | 0,_,_=>([],none)
 | _+1, [],_=>([],none)
 | k+1,c :: r,i=>
  match tok1 (c :: r) with
  | .err o e=>([],some (i+o,e))
  | .tok kd tx nm n=>
   ((⟨kd,tx,nm,i⟩:Tok) ::(scan k ((c :: r).drop (n+gap false ((c :: r).drop n))) (i+n+gap false ((c :: r).drop n))).1,
    (scan k ((c :: r).drop (n+gap false ((c :: r).drop n))) (i+n+gap false ((c :: r).drop n))).2)
def body (l:L) (i:Nat):List Tok×Option (Nat×Nat):=scan (l.length+1) (l.drop (gap false l)) (i+gap false l)
def read (s:L):List Tok×Option (Nat×Nat):=if 16777216<s.length then ([],some (0,1)) else body s 0
theorem run_le (p:UInt8->Bool) (l:L):run p l<=l.length:=by
 unfold run;exact (List.takeWhile_prefix p).length_le
theorem run_cons_pos {p:UInt8->Bool} {c:UInt8} (r:L) (h:p c=true):run p (c :: r)=1+run p r:=by
 unfold run;rw [rH,lu h,lF,pF]
theorem run_cons_neg {p:UInt8->Bool} {c:UInt8} (r:L) (h:p c=false):run p (c :: r)=0:=by
 unfold run;rw [rH,kU (by rw [h];decide)]
 rfl
theorem esc_le {r:L} {x:UInt8} {n:Nat} (h:esc r=some (x,n)):1<=n/\n<=r.length:=by
 unfold esc at h
 split at h
 ·cases h
 rename_i c r;rw [lF]
 repeat' split at h
 all_goals first
  |(cases h;done)
  |(simp only [nD,nH] at h;obtain ⟨rfl,rfl⟩:=h;(try simp only [lF]);omega)
theorem textR_len: ∀(k:Nat) (r:L) (o:Nat) (b:L) {kd:Nat} {tx:L} {nm:Int} {n:Nat},textR k r o b= .tok kd tx nm n->o+1<=n/\n<=o+r.length
 | 0,r,o,b,kd,tx,nm,n,h=>by simp [textR] at h
 | k+1, [],o,b,kd,tx,nm,n,h=>by simp [textR] at h
 | k+1,c :: r,o,b,kd,tx,nm,n,h=>by
  simp only [textR] at h;rw [lF]
  split at h
  ·simp only [Res.tok.injEq] at h;omega
  split at h
  ·cases h
  split at h
  ·cases he:esc r with
   | none=>rw [he] at h;cases h
   | some x=>
    obtain ⟨x,m⟩:=x;rw [he] at h;simp only at h;obtain ⟨h1,h2⟩:=esc_le he
    have:=textR_len k _ _ _ h;rw [mM] at this;omega
  have:=textR_len k _ _ _ h;omega
theorem numTok_len {w:L} {kd:Nat} {tx:L} {nm:Int} {n:Nat} (h:numTok w= .tok kd tx nm n):n=w.length:=by
 unfold numTok at h
 split at h
 ·split at h
  ·simp only [Res.tok.injEq] at h;omega
  cases h
 split at h
 ·simp only [Res.tok.injEq] at h;omega
 cases h
theorem tok1_len {l:L} {kd:Nat} {tx:L} {nm:Int} {n:Nat} (h:tok1 l= .tok kd tx nm n):1<=n/\n<=l.length:=by
 cases l with
 | nil=>simp [tok1] at h
 | cons c r=>
  simp only [tok1] at h
  split at h
  ·have:=textR_len _ _ _ _ h
   rw [lF];omega
  split at h
  ·rename_i h1
   simp only [Res.tok.injEq] at h;have h2:=run_le inWord (c :: r)
   have h3:=run_cons_pos (p:=inWord) r (c:=c) (by unfold inWord;rw [h1];rfl)
   omega
  split at h
  ·have h1:=numTok_len h
   have h2:=run_le inNum r;rw [mO,lF] at h1;rw [lF];omega
  split at h
  ·rename_i h1
   simp only [Res.tok.injEq] at h
   have:1<=r.length:=by
    cases r with
    | nil=>simp at h1
    | cons d r=>simp
   rw [lF];omega
  split at h
  ·simp only [Res.tok.injEq] at h
   rw [lF];omega
  cases h
theorem scan_nil (k i:Nat):scan k [] i=([],none):=by cases k<;> rfl
theorem scan_tok {k:Nat} {l:L} {i kd:Nat} {tx:L} {nm:Int} {n g:Nat} (h:tok1 l= .tok kd tx nm n) (hg:gap false (l.drop n)=g):
  scan (k+1) l i=((⟨kd,tx,nm,i⟩:Tok) ::(scan k (l.drop (n+g)) (i+n+g)).1,(scan k (l.drop (n+g)) (i+n+g)).2):=by
 cases l with
 | nil=>simp [tok1] at h
 | cons c r=>
  simp only [scan];rw [h];simp only [hg]
theorem scan_err {k:Nat} {l:L} {i o e:Nat} (hl:l≠ []) (h:tok1 l= .err o e):scan (k+1) l i=([],some (i+o,e)):=by
 cases l with
 | nil=>exact absurd rfl hl
 | cons c r=>
  simp only [scan];rw [h]
theorem scan_fuel: ∀(k m:Nat) (l:L) (i:Nat),l.length<k->l.length<m->scan k l i=scan m l i
 | 0,_,_,_,h,_=>by omega
 | _,0,_,_,_,h=>by omega
 | k+1,m+1, [],i,_,_=>by rw [scan_nil,scan_nil]
 | k+1,m+1,c :: r,i,h1,h2=>by
  cases ht:tok1 (c :: r) with
  | err o e=>rw [scan_err (by simp) ht,scan_err (by simp) ht]
  | tok kd tx nm n=>
   obtain ⟨t1,t2⟩:=tok1_len ht;rw [scan_tok ht rfl,scan_tok ht rfl]
   have e:=scan_fuel k m ((c :: r).drop (n+gap false ((c :: r).drop n))) (i+n+gap false ((c :: r).drop n)) (by rw [mM];omega) (by rw [mM];omega)
   rw [e]
theorem body_end {l:L} (i:Nat) (h:l.drop (gap false l)= []):body l i=([],none):=by
 unfold body;rw [h,scan_nil]
theorem body_tok {l l':L} {i kd:Nat} {tx:L} {nm:Int} {n:Nat} (h:l.drop (gap false l)=l') (ht:tok1 l'= .tok kd tx nm n):
  body l i=((⟨kd,tx,nm,i+gap false l⟩:Tok) ::(body (l'.drop n) (i+gap false l+n)).1,(body (l'.drop n) (i+gap false l+n)).2):=by
 obtain ⟨t1,t2⟩:=tok1_len ht;unfold body;rw [h,scan_tok ht rfl]
 have hl:l'.length<=l.length:=by rw [<-h,mM];omega
 have e:scan l.length (l'.drop (n+gap false (l'.drop n))) (i+gap false l+n+gap false (l'.drop n))=scan ((l'.drop n).length+1) ((l'.drop n).drop (gap false (l'.drop n))) (i+gap false l+n+gap false (l'.drop n)):=by
  rw [rO];exact scan_fuel _ _ _ _ (by rw [mM];omega) (by rw [mM,mM];omega)
 rw [e]
theorem textR_err: ∀(k:Nat) (r:L) (o:Nat) (b:L) {p e:Nat},textR k r o b= .err p e->e≠0/\p<=o+r.length
 | 0,r,o,b,p,e,h=>by simp only [textR,Res.err.injEq] at h;omega
 | k+1, [],o,b,p,e,h=>by simp only [textR,Res.err.injEq] at h;omega
 | k+1,c :: r,o,b,p,e,h=>by
  simp only [textR] at h;rw [lF]
  split at h
  ·cases h
  split at h
  ·simp only [Res.err.injEq] at h;omega
  split at h
  ·cases he:esc r with
   | none=>rw [he] at h;simp only [Res.err.injEq] at h;omega
   | some x=>
    obtain ⟨x,m⟩:=x;rw [he] at h;simp only at h;obtain ⟨h1,h2⟩:=esc_le he
    have:=textR_err k _ _ _ h;rw [mM] at this;omega
  have:=textR_err k _ _ _ h;omega
theorem tok1_err {l:L} {o e:Nat} (hl:l≠ []) (h:tok1 l= .err o e):e≠0/\o<=l.length:=by
 cases l with
 | nil=>exact absurd rfl hl
 | cons c r=>
  simp only [tok1] at h;rw [lF]
  split at h
  ·have:=textR_err _ _ _ _ h
   omega
  split at h
  ·cases h
  split at h
  ·unfold numTok at h
   split at h
   ·split at h
    ·cases h
    simp only [Res.err.injEq] at h;omega
   split at h
   ·cases h
   simp only [Res.err.injEq] at h;omega
  split at h
  ·cases h
  split at h
  ·cases h
  simp only [Res.err.injEq] at h;omega
theorem esc_join {r:L} {x:UInt8} {n:Nat} (z:L) (h:esc r=some (x,n)):esc (r ++ z)=some (x,n):=by
 cases r with
 | nil=>cases h
 | cons c r=>
  rw [nG];simp only [esc] at h⊢
  split at h
  ·rename_i h1;rw [lu h1];exact h
  rename_i h1;rw [kU h1]
  split at h
  ·rename_i h2;rw [lu h2];exact h
  rename_i h2;rw [kU h2]
  split at h
  ·rename_i h3;rw [lu h3];exact h
  rename_i h3;rw [kU h3]
  split at h
  ·rename_i h4;rw [lu h4];exact h
  rename_i h4;rw [kU h4]
  split at h
  ·rename_i h5
   rw [lu h5]
   match r,h with
   | a :: b :: r,h=>exact h
  cases h
theorem textR_join (z:L): ∀(k m:Nat) (r:L) (o:Nat) (b:L) {kd:Nat} {tx:L} {nm:Int} {n:Nat},textR k r o b= .tok kd tx nm n->k<=m->textR m (r ++ z) o b= .tok kd tx nm n
 | 0,_,_,_,_,_,_,_,_,h,_=>by simp [textR] at h
 | _+1,0,_,_,_,_,_,_,_,_,h=>by omega
 | _+1,_+1, [],_,_,_,_,_,_,h,_=>by simp [textR] at h
 | k+1,m+1,c :: r,o,b,kd,tx,nm,n,h,hk=>by
  rw [nG];simp only [textR] at h⊢
  split at h
  ·rename_i h1;rw [lu h1];exact h
  rename_i h1;rw [kU h1]
  split at h
  ·cases h
  rename_i h2;rw [kU h2]
  split at h
  ·rename_i h3
   rw [lu h3];cases he:esc r with
   | none=>rw [he] at h;cases h
   | some x=>
    obtain ⟨x,j⟩:=x;rw [he] at h;rw [esc_join z he];simp only at h⊢
    obtain ⟨e1,e2⟩:=esc_le he;have:=textR_join z k m _ _ _ h (by omega)
    rw [uD e2];exact this
  rename_i h3;rw [kU h3];exact textR_join z k m _ _ _ h (by omega)
def q1 (c:UInt8):L:=
 if c=10 then [92,110] else
 if c=13 then [92,114] else
 if c=9 then [92,116] else
 if odd c=true then [92,120,Num.hexd (c.toNat / 16),Num.hexd (c.toNat % 16)] else
 if c=39\/c=92 then [92,c] else [c]
def quote (s:L):L:=39 ::(s.flatMap q1 ++ [39])
theorem q1_len (c:UInt8):1<=(q1 c).length/\(q1 c).length<=4:=by
 unfold q1
 repeat' split
 all_goals simp
theorem odd_92:odd 92=false:=by decide
theorem textR_plain {k:Nat} {c:UInt8} {r:L} {o:Nat} {b:L} (h1:c≠39) (h2:odd c=false) (h3:c≠92):textR (k+1) (c :: r) o b=textR k r (o+1) (b ++ [c]):=by
 simp only [textR];rw [kU h1,kU (by rw [h2];decide),kU h3]
theorem textR_esc {k:Nat} {r:L} {o n:Nat} {x:UInt8} {b:L} (h:esc r=some (x,n)):textR (k+1) (92 :: r) o b=textR k (r.drop n) (o+1+n) (b ++ [x]):=by
 simp only [textR];rw [kU (by decide),kU (by rw [odd_92];decide),rG,h]
theorem hexv_hexd' {d:Nat} (h:d<16):Num.hexv (Num.hexd d)=some d:=Num.hexv_hexd ⟨d,h⟩
theorem textR_q1 (c:UInt8) (z:L) (k o:Nat) (b:L):textR (k+1) (q1 c ++ z) o b=textR k z (o+(q1 c).length) (b ++ [c]):=by
 unfold q1;by_cases h1:c=10
 ·subst h1;rw [lu rfl];exact textR_esc (r:=110 :: z) (n:=1) rfl
 rw [kU h1];by_cases h2:c=13
 ·subst h2;rw [lu rfl];exact textR_esc (r:=114 :: z) (n:=1) rfl
 rw [kU h2];by_cases h3:c=9
 ·subst h3;rw [lu rfl];exact textR_esc (r:=116 :: z) (n:=1) rfl
 rw [kU h3];by_cases h4:odd c=true
 ·rw [lu h4]
  have hc:=pJ c
  have he:esc (120 :: Num.hexd (c.toNat / 16) :: Num.hexd (c.toNat % 16) :: z)=some (c,3):=by
   simp only [esc]
   rw [kU (by decide),kU (by decide),kU (by decide),kU (by decide),rG,hexv_hexd' (by omega),hexv_hexd' (by omega)]
   simp only [nD,nH,rJ];rw [show c.toNat / 16*16+c.toNat % 16=c.toNat by omega]
   simp
  exact textR_esc he
 rw [kU h4]
 have h4':odd c=false:=by cases h:odd c with
  | false=>rfl
  | true=>exact absurd h h4
 by_cases h5:c=39\/c=92
 ·rw [lu h5]
  have he:esc (c :: z)=some (c,1):=by
   simp only [esc];rw [lu h5.symm]
  exact textR_esc he
 rw [kU h5];exact textR_plain (fun h=>h5 (.inl h)) h4' (fun h=>h5 (.inr h))
theorem textR_quote: ∀(s:L) (k o:Nat) (b:L),s.length<k->textR k (s.flatMap q1 ++ [39]) o b= .tok 4 (b ++ s) 0 (o+(s.flatMap q1).length+1)
 | _,0,_,_,h=>by omega
 | [],k+1,o,b,_=>by simp [textR]
 | c :: r,k+1,o,b,h=>by
  rw [ny,lX,textR_q1,textR_quote r k _ _ (by rw [lF] at h;omega),kW]
  simp only [lX,qR]
  congr 1
  omega
theorem flatMap_len (s:L):s.length<=(s.flatMap q1).length:=by
 induction s with
 | nil=>simp
 | cons c r ih=>
  rw [ny,kW,lF];have:=q1_len c;omega
end Go.Proofs.YtanlehkalkafdaaGreatDoor.Lex
