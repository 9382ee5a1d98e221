/- Contracts and plain laws,part 2. -/
import Derived.Test.YtanlehkalkafdaaGreatDoorUR01
import Derived.Shelf.Strings.Builder1
import Derived.Shelf.Strings.Builder2
import Derived.Shelf.Strings.OnBuilder
import Derived.Shelf.Strings.Trim
import Derived.Shelf.Small.Utf8
import Derived.Shelf.Small.Bits
import Derived.Shelf.Small.Strs
import Derived.Shelf.Small.Wraps
import Derived.Shelf.Strings.BuilderF
import Derived.Shelf.Strings.BuilderK
import Derived.Shelf.Strconv.Atoi
import Derived.Shelf.Strconv.Itoa0
import Derived.Shelf.Strconv.Itoa1
import Derived.Shelf.LaysM
import Derived.Shelf.Strconv.Itoa2
import Derived.Shelf.Strconv.Itoa3
import Derived.Shelf.Strconv.Itoa4
import Derived.Shelf.Strconv.AtoiErrFast
import Derived.Shelf.Strconv.ParseIntEmpty
import Derived.Shelf.Strconv.AtoiFail
import Derived.Shelf.Strconv.Clone
import Derived.Shelf.Strconv.SyntaxError
import Derived.Shelf.LaysC
import Derived.Shelf.Strconv.ToError
import Derived.Shelf.Strconv.Lower
import Derived.Shelf.Strconv.ParseUint10
import Derived.Shelf.Strconv.ParseUint10Empty
import Derived.Shelf.Strconv.ParseUint10Any
import Derived.Shelf.Strconv.ParseInt10
import Derived.Shelf.Strconv.AtoiLong
import Derived.Shelf.Strconv.AtoiInnerAll
import Derived.Shelf.Strconv.RangeError
import Derived.Shelf.Strconv.ToErrorRange
import Derived.Shelf.Strconv.AtoiAll
import Derived.Shelf.Strconv.ErrVarAll
import Derived.Shelf.Strconv.ParseUintEmpty
import Derived.Shelf.Strconv.ParseUint10b64
import Derived.Shelf.Strconv.ParseUint10b32
import Derived.Shelf.Strconv.ParseUint10b16
import Derived.Shelf.Strconv.ParseUint10b8
import Derived.Shelf.Strconv.ParseUint10At
import Derived.Shelf.Strconv.ParseInt10At64
import Derived.Shelf.Strconv.ParseInt10At32
import Derived.Shelf.Strconv.ParseInt10At16
import Derived.Shelf.Strconv.ParseInt10At8
import Derived.Shelf.Strconv.ParseInt10All
import Derived.Shelf.Strconv.ParseIntPublic10
import Derived.Shelf.Strconv.ErrVarParseInt
import Derived.Shelf.Strings.Search1
import Derived.Shelf.Strings.Search2
import Derived.Shelf.Strings.Search3
import Derived.Shelf.Strings.Cut
import Derived.Shelf.Strings.Count
import Derived.Shelf.Strings.Shaped
import Derived.Shelf.Sort.Plain
import Derived.Shelf.Strings.Prefix
import Derived.Shelf.Strings.Split
import Derived.Shelf.Strings.Replace
import Derived.Shelf.Strings.SplitShaped
import Derived.Shelf.Unicode.Decode
import Derived.Shelf.Strings.Runes
import Derived.Shelf.Strings.RuneCount
import Derived.Shelf.Strings.IndexAny
import Derived.Shelf.Strings.AsciiSet
import Derived.Shelf.Strings.IndexAnyAll
import Derived.Shelf.Strings.Explode
import Derived.Shelf.Unicode.DecodeSlow
import Derived.Shelf.Slices.Turned
import Derived.Shelf.Slices.Equal
import Derived.Ground.Names2Prog
import Derived.Shelf.Slices.Clone
import Derived.Shelf.Slices.SearchI
import Derived.Shelf.Slices.In.SortNone
import Derived.Shelf.Slices.Empties2
import Derived.Ground.SlgnProg
import Derived.Shelf.SlicesE.Clone
import Derived.Test.YtanlehkalkafdaaGreatDoorProg
import Derived.Test.YtanlehkalkafdaaGreatDoorRows
import Derived.WalkKit
import Derived.WalkSpells
import Derived.WalkLawsBesides
import Derived.Lib.Hide
import Derived.IntWalk
import Derived.Deep.LoopGhost
import Derived.Deep.Cut
import Derived.OwnWalk
import Derived.Lib.SmallJoins
import Derived.Laws.Bits64b
import Derived.Outline
set_option maxHeartbeats 64000000
set_option maxRecDepth 1000000
set_option linter.all false
namespace Go.Proofs.YtanlehkalkafdaaGreatDoor.Cel
open Go
abbrev L:=List UInt8
structure V where
 kind:Int
 num:Int
 text:L
 nums:List Int
 texts:List L
def V0:V:=⟨0,0,[],[],[]⟩
def u64 (n:Int):Nat:=(n % 18446744073709551616).toNat
def s64 (b:Nat):Int:=if b<9223372036854775808 then(b:Int) else(b:Int) - 18446744073709551616
def In64 (n:Int):Prop:= -9223372036854775808<=n/\n<=9223372036854775807
def nanBad (n:Int):Bool:=decide (9218868437227405312<u64 n % 9223372036854775808) && decide (u64 n≠9221120237041090560)
def numWrong (k n:Int):Nat:=if k=1/\n≠0/\n≠1 then 42 else if k=3/\nanBad n=true then 43 else 0
def numsWrong (k:Int):List Int->Nat
 |[]=>0
 |n :: r=>if numWrong k n≠0 then numWrong k n else numsWrong k r
def longs (l:List L):Bool:=l.any fun s=>decide (1000<s.length)
def Unused (v:V):Prop:=(v.num≠0/\3<v.kind)\/(v.text≠ []/\v.kind≠4)\/(v.nums≠ []/\(v.kind<5\/v.kind=8))\/(v.texts≠ []/\v.kind≠8)
instance (v:V):Decidable (Unused v):=by unfold Unused;infer_instance
def check (v:V):Nat:=
 if v.kind<1\/8<v.kind then 40 else
 if Unused v then 41 else
 if 40<v.nums.length\/40<v.texts.length then 45 else
 if 1000<v.text.length\/longs v.texts=true then 44 else
 if v.kind<4 then numWrong v.kind v.num else numsWrong (v.kind - 4) v.nums
def cls (k:Int):UInt8:=if k=1 then 98 else if k=2 then 105 else if k=3 then 102 else 115
def letter (k:Int):L:=if 4<k then[cls (k - 4),91,93] else[cls k]
def TRUE:L:=[116,114,117,101]
def FALSE:L:=[102,97,108,115,101]
def numS (k n:Int):L:=if k=2 then Lib.itoa n else if k=3 then Num.fmt (u64 n) else if n=0 then FALSE else TRUE
def escT:L->L
 |[]=> []
 |c :: r=>if c=92\/c=59 then 92 :: c :: escT r else c :: escT r
def numE (k n:Int):L:=numS k n++[59]
def textE (t:L):L:=escT t++[59]
def print (v:V):L:=letter v.kind++[58] ++(if v.kind<4 then numS v.kind v.num else[])++v.text++v.nums.flatMap (numE (v.kind - 4))++v.texts.flatMap textE
def printR (v:V):L×Nat:=if check v=0 then(print v,0) else([],check v)
def numP (k:Int) (s:L):Int×Nat:=
 if k=1 then(if s=TRUE then(1,0) else if s=FALSE then(0,0) else(0,220)) else
 if k=2 then Num.parseInt s else
 match Num.parse s with
 |some b=>(s64 b,0)
 |none=>(0,52)
def cut59:L->L->Option (L×L)
 |[],_=>none
 |c :: r,b=>if c=59 then some (b,r) else cut59 r (b++[c])
def elem:L->L->Option (L×L)
 |[],_=>none
 |[c],b=>if c=59 then some (b,[]) else none
 |c :: d :: r,b=>
  if c=59 then some (b,d :: r) else
  if c=92 then(if d=92\/d=59 then elem r (b++[d]) else none) else elem (d :: r) (b++[c])
def numsP (k:Int):Nat->L->List Int->List Int×Nat
 |0,_,acc=>(acc,0)
 |f+1,l,acc=>
  if l=[] then(acc,0) else
  match cut59 l [] with
  |none=>([],220)
  |some (s,r)=>if(numP k s).2≠0 then([],(numP k s).2) else numsP k f r (acc++[(numP k s).1])
def textsP:Nat->L->List L->List L×Nat
 |0,_,acc=>(acc,0)
 |f+1,l,acc=>
  if l=[] then(acc,0) else
  match elem l [] with
  |none=>([],220)
  |some (s,r)=>textsP f r (acc++[s])
def kindOf (c:UInt8):Int:=if c=98 then 1 else if c=105 then 2 else if c=102 then 3 else if c=115 then 4 else 0
def headP:L->Option (Int×L)
 |[]=>none
 |c :: r=>
  if Lib.hasPrefix r [91,93]=true then
   (if kindOf c=0\/Lib.hasPrefix (r.drop 2) [58]=false then none else some (kindOf c+4,r.drop 3))
  else
   (if kindOf c=0\/Lib.hasPrefix r [58]=false then none else some (kindOf c,r.drop 1))
def bodyP (k:Int) (r:L):V×Nat:=
 if 4<k then
  (if k=8 then(⟨k,0,[],[],(textsP (r.length+1) r []).1⟩,(textsP (r.length+1) r []).2)
   else(⟨k,0,[],(numsP (k - 4) (r.length+1) r []).1,[]⟩,(numsP (k - 4) (r.length+1) r []).2))
 else if k=4 then(⟨4,0,r,[],[]⟩,0)
 else(⟨k,(numP k r).1,[],[],[]⟩,(numP k r).2)
def parse (s:L):V×Nat:=
 match headP s with
 |none=>(V0,220)
 |some (k,r)=>if(bodyP k r).2≠0 then(V0,(bodyP k r).2) else if check (bodyP k r).1≠0 then(V0,check (bodyP k r).1) else((bodyP k r).1,0)
theorem u64_lt (n:Int):u64 n<18446744073709551616:=by unfold u64;omega
theorem s64_u64 {n:Int} (h:In64 n):s64 (u64 n)=n:=by
 obtain⟨h1,h2⟩:=h;unfold s64 u64
 split<;>omega
theorem u64_s64 {b:Nat} (h:b<18446744073709551616):u64 (s64 b)=b:=by
 unfold s64 u64
 split<;>omega
theorem s64_in {b:Nat} (h:b<18446744073709551616):In64 (s64 b):=by
 unfold s64 In64
 split<;>omega
theorem canon_good {n:Int} (h:nanBad n=false):Num.canon (u64 n)=u64 n:=by
 unfold Num.canon
 split
 ·rename_i h1
  unfold nanBad at h;rw[rQ h1,Bool.true_and,xP,Decidable.not_not]at h;exact h.symm
 rfl
theorem numP_numS {k n:Int} (hk:1<=k) (hk3:k<=3) (hn:In64 n) (h:numWrong k n=0):numP k (numS k n)=(n,0):=by
 unfold numP numS;by_cases h2:k=2
 ·rw[rU (by omega),rY h2,rY h2]
  exact Num.parse_itoa n hn.1 hn.2
 by_cases h3:k=3
 ·rw[rU (by omega),rU h2,rU h2,rY h3,Num.parse_fmt (u64_lt n)]
  have hb:nanBad n=false:=by
   cases hb:nanBad n with
   |false=>rfl
   |true=>unfold numWrong at h;rw[rU (by omega),rY ⟨h3,hb⟩]at h;omega
  simp only;rw[canon_good hb,s64_u64 hn]
 have h1:k=1:=by omega
 rw[rY h1,rU h2,rU h3];by_cases hz:n=0
 ·rw[rY hz,hz];rfl
 have hone:n=1:=by
  unfold numWrong at h;by_cases h9:n=1
  ·exact h9
  rw[rY ⟨h1,hz,h9⟩]at h;omega
 rw[rU hz,hone];rfl
theorem numS_numP {k n:Int} {s:L} (hk:1<=k) (hk3:k<=3) (h:numP k s=(n,0)):numS k n=s/\In64 n:=by
 unfold numP at h;unfold numS;by_cases h2:k=2
 ·rw[rU (by omega),rY h2]at h
  rw[rY h2];refine⟨Num.itoa_of_parse h, ?_⟩;have:=h;unfold Num.parseInt at this
  simp only at this;unfold In64
  repeat' split at this
  all_goals first
   |(simp only[uZ]at this;omega)
   |(obtain⟨rfl,-⟩:=Prod.mk.inj this;omega)
 by_cases h3:k=3
 ·rw[rU (by omega),rU h2]at h
  rw[rU h2,rY h3];cases hp:Num.parse s with
  |none=>rw[hp]at h;simp at h
  |some b=>
   rw[hp]at h;simp only[uZ,yJ]at h;obtain⟨g1,g2,-⟩:=Num.fmt_parse hp;subst h
   exact⟨by rw[u64_s64 g2,g1],s64_in g2⟩
 have h1:k=1:=by omega
 rw[rY h1]at h;rw[rU h2,rU h3]
 split at h
 ·rename_i e
  cases h;exact⟨by rw[e];rfl,by unfold In64;omega⟩
 split at h
 ·rename_i e
  cases h;exact⟨by rw[e];rfl,by unfold In64;omega⟩
 cases h
theorem dig_no {c:UInt8} (h:Num.isDig c=true):c≠59:=by
 rintro rfl;exact absurd h (by decide)
theorem itoa_no (n:Int): ∀x∈Lib.itoa n,x≠59:=by
 obtain⟨neg,r,e,hg,-⟩:=Num.itoa_form n;intro x hx;rw[e]at hx
 rcases tZ.1 hx with h|h
 ·cases neg with
  |true=>rw[ug.1 h];decide
  |false=>cases h
 exact dig_no (wC.1 hg.1 x h)
theorem hexd_no: ∀d:Fin 16,Num.hexd d.val≠59:=by decide
theorem hexN_no: ∀(k n:Nat),∀x∈Num.hexN k n,x≠59
 |0,n,x,h=>by simp[Num.hexN]at h
 |k+1,n,x,h=>by
  unfold Num.hexN at h
  rcases tZ.1 h with h|h
  ·exact hexN_no k _ x h
  rw[ug.1 h];exact hexd_no ⟨n % 16,y7 _ (by decide)⟩
theorem fracS_no (f:Nat): ∀x∈Num.fracS f,x≠59:=by
 intro x hx;unfold Num.fracS at hx
 split at hx
 ·cases hx
 rcases uD.1 hx with rfl|h
 ·decide
 obtain⟨j,e,-⟩:=Num.trim_split _ (Num.hexN 13 f) rfl
 exact hexN_no 13 f x (by rw[e];exact wZ _ h)
theorem expS_no (e:Int): ∀x∈Num.expS e,x≠59:=by
 intro x hx;unfold Num.expS at hx
 split at hx
 ·rcases uD.1 hx with rfl|h
  ·decide
  exact itoa_no _ x h
 rcases uD.1 hx with rfl|h
 ·decide
 exact itoa_no _ x h
theorem const_no: ∀x∈Num.NANS++Num.INFS++Num.ZERO++[45,48,120,49]++TRUE++FALSE,x≠(59:UInt8):=by decide
theorem form_no (f:Nat) (e:Int): ∀x∈Num.form f e,x≠59:=by
 intro x hx;unfold Num.form at hx
 rcases tZ.1 hx with h|h
 ·exact const_no x (by simp at h⊢;rcases h with rfl|rfl|rfl<;>simp)
 rcases tZ.1 h with h|h
 ·exact fracS_no f x h
 exact expS_no e x h
theorem fmt_no (b:Nat): ∀x∈Num.fmt b,x≠59:=by
 intro x hx;unfold Num.fmt at hx
 split at hx
 ·exact const_no x (by simp only[tZ];simp[hx])
 rcases tZ.1 hx with h|h
 ·unfold Num.sg at h
  split at h
  ·rw[ug.1 h];decide
  cases h
 unfold Num.fmtU at h
 split at h
 ·exact const_no x (by simp only[tZ];simp[h])
 split at h
 ·exact const_no x (by simp only[tZ];simp[h])
 exact form_no _ _ x h
theorem numS_no (k n:Int): ∀x∈numS k n,x≠59:=by
 intro x hx;unfold numS at hx
 repeat' split at hx
 ·exact itoa_no _ x hx
 ·exact fmt_no _ x hx
 ·exact const_no x (by simp only[tZ];simp[hx])
 exact const_no x (by simp only[tZ];simp[hx])
theorem cut59_of: ∀(a r b:L),(∀x∈a,x≠59)->cut59 (a++59 :: r) b=some (b++a,r)
 |[],r,b,_=>by simp[cut59]
 |c :: a,r,b,h=>by
  rw[uG,cut59,rU (h c (by simp)),cut59_of a r _ (fun x hx=>h x (by simp[hx]))]
  simp
theorem cut59_some: ∀(l b x r:L),cut59 l b=some (x,r)-> ∃a,x=b++a/\l=a++59 :: r
 |[],b,x,r,h=>by cases h
 |c :: l,b,x,r,h=>by
  unfold cut59 at h
  split at h
  ·rename_i hc
   cases h;exact⟨[],by simp,by rw[hc];rfl⟩
  obtain⟨a,e1,e2⟩:=cut59_some l _ x r h;exact⟨c :: a,by rw[e1];simp,by rw[e2];rfl⟩
theorem elem_cons {c:UInt8} {l b:L} (h1:c≠59) (h2:c≠92):elem (c :: l) b=elem l (b++[c]):=by
 cases l with
 |nil=>simp only[elem];rw[rU h1]
 |cons d r=>rw[elem,rU h1,rU h2]
theorem elem_end (l b:L):elem (59 :: l) b=some (b,l):=by
 cases l with
 |nil=>simp[elem]
 |cons d r=>simp[elem]
theorem elem_esc {d:UInt8} {l b:L} (h:d=92\/d=59):elem (92 :: d :: l) b=elem l (b++[d]):=by
 rw[elem,rU (by decide),rY rfl,rY h]
theorem elem_of: ∀(t r b:L),elem (escT t++59 :: r) b=some (b++t,r)
 |[],r,b=>by rw[escT,tY,elem_end,tC]
 |c :: t,r,b=>by
  unfold escT
  split
  ·rename_i h
   rw[uG,uG,elem_esc h,elem_of t r];simp
  rename_i h;rw[uG,elem_cons (fun e=>h (.inr e)) (fun e=>h (.inl e)),elem_of t r]
  simp
theorem elem_some: ∀(n:Nat) (l b x r:L),l.length<=n->elem l b=some (x,r)-> ∃t,x=b++t/\l=escT t++59 :: r
 |_,[],b,x,r,_,h=>by cases h
 |0,c :: l,b,x,r,hl,h=>by simp at hl
 |n+1,c :: l,b,x,r,hl,h=>by
  rw[sS]at hl;by_cases h1:c=59
  ·subst h1
   rw[elem_end]at h;cases h;exact⟨[],by simp,rfl⟩
  by_cases h2:c=92
  ·subst h2
   cases l with
   |nil=>simp[elem]at h
   |cons d l=>
    by_cases hd:d=92\/d=59
    ·rw[elem_esc hd]at h
     obtain⟨t,e1,e2⟩:=elem_some n l _ x r (by rw[sS]at hl;omega) h
     exact⟨d :: t,by rw[e1];simp,by rw[escT,rY hd,e2];rfl⟩
    rw[elem,rU (by decide),rY rfl,rU hd]at h
    cases h
  rw[elem_cons h1 h2]at h;obtain⟨t,e1,e2⟩:=elem_some n l _ x r (by omega) h
  exact⟨c :: t,by rw[e1];simp,by rw[escT,rU (fun e=>e.elim h2 h1),e2];rfl⟩
theorem numE_len (k n:Int):1<=(numE k n).length:=by unfold numE;simp
theorem textE_len (t:L):1<=(textE t).length:=by unfold textE;simp
theorem numsWrong_cons {k n:Int} {r:List Int} (h:numsWrong k (n :: r)=0):numWrong k n=0/\numsWrong k r=0:=by
 unfold numsWrong at h
 split at h
 ·rename_i h1;exact absurd h h1
 rename_i h1;exact⟨by omega,h⟩
theorem numsP_of {k:Int} (hk:1<=k) (hk3:k<=3): ∀(f:Nat) (ns acc:List Int),(ns.flatMap (numE k)).length<f->(∀n∈ns,In64 n)->numsWrong k ns=0->numsP k f (ns.flatMap (numE k)) acc=(acc++ns,0)
 |0,_,_,h,_,_=>by omega
 |f+1,[],acc,_,_,_=>by simp[numsP]
 |f+1,n :: r,acc,hf,hn,hw=>by
  obtain⟨w1,w2⟩:=numsWrong_cons hw
  have e:(n :: r).flatMap (numE k)=numS k n++59 :: r.flatMap (numE k):=by simp[numE]
  have hl:=numE_len k n;rw[uK,rP]at hf;unfold numsP
  rw[e,rU (by simp),cut59_of _ _ _ (numS_no k n)]
  simp only[tY]
  rw[numP_numS hk hk3 (hn n (by simp)) w1,rU (by simp),numsP_of hk hk3 f r _ (by omega) (fun m hm=>hn m (by simp[hm])) w2]
  simp
theorem textsP_of: ∀(f:Nat) (ts acc:List L),(ts.flatMap textE).length<f->textsP f (ts.flatMap textE) acc=(acc++ts,0)
 |0,_,_,h=>by omega
 |f+1,[],acc,_=>by simp[textsP]
 |f+1,t :: r,acc,hf=>by
  have e:(t :: r).flatMap textE=escT t++59 :: r.flatMap textE:=by simp[textE]
  have hl:=textE_len t;rw[uK,rP]at hf;unfold textsP;rw[e,rU (by simp),elem_of]
  simp only[tY];rw[textsP_of f r _ (by omega)]
  simp
theorem numsP_some {k:Int} (hk:1<=k) (hk3:k<=3): ∀(f:Nat) (l:L) (acc ns:List Int),l.length<f->numsP k f l acc=(ns,0)-> ∃m,ns=acc++m/\l=m.flatMap (numE k)/\ ∀n∈m,In64 n
 |0,l,acc,ns,h,_=>by omega
 |f+1,l,acc,ns,hf,h=>by
  unfold numsP at h
  split at h
  ·rename_i hl
   cases h;exact⟨[],by simp,by rw[hl];rfl,by simp⟩
  cases hc:cut59 l [] with
  |none=>rw[hc]at h;simp at h
  |some x=>
   obtain⟨s,r⟩:=x;rw[hc]at h;simp only at h;obtain⟨a,e1,e2⟩:=cut59_some l [] s r hc
   rw[tY]at e1;subst e1
   split at h
   ·rename_i hne
    simp only[uZ]at h;exact absurd h.2 hne
   rename_i hne
   obtain⟨n,hn⟩: ∃n,numP k s=(n,0):=⟨(numP k s).1,by rw[<-Decidable.not_not.1 hne]⟩
   rw[hn]at h;obtain⟨g1,g2⟩:=numS_numP hk hk3 hn
   obtain⟨m,e3,e4,e5⟩:=numsP_some hk hk3 f r _ ns (by rw[e2]at hf;simp at hf;omega) h
   refine⟨n :: m,by rw[e3];simp, ?_, ?_⟩
   ·rw[e2,e4,uK,numE,g1]
    simp
   intro x hx
   rcases uD.1 hx with rfl|hx
   ·exact g2
   exact e5 x hx
theorem textsP_some: ∀(f:Nat) (l:L) (acc ts:List L),l.length<f->textsP f l acc=(ts,0)-> ∃m,ts=acc++m/\l=m.flatMap textE
 |0,l,acc,ts,h,_=>by omega
 |f+1,l,acc,ts,hf,h=>by
  unfold textsP at h
  split at h
  ·rename_i hl
   cases h;exact⟨[],by simp,by rw[hl];rfl⟩
  cases hc:elem l [] with
  |none=>rw[hc]at h;simp at h
  |some x=>
   obtain⟨s,r⟩:=x;rw[hc]at h;simp only at h
   obtain⟨a,e1,e2⟩:=elem_some _ l [] s r (rM _) hc;rw[tY]at e1;subst e1
   obtain⟨m,e3,e4⟩:=textsP_some f r _ ts (by rw[e2]at hf;simp at hf;omega) h
   refine⟨s :: m,by rw[e3];simp, ?_⟩
   rw[e2,e4,uK,textE];simp
theorem kindOf_cls: ∀k:Fin 5,1<=k.val->kindOf (cls (k.val:Int))=(k.val:Int):=by decide
theorem kindOf_cls' {k:Int} (h1:1<=k) (h2:k<=4):kindOf (cls k)=k:=by
 have:=kindOf_cls ⟨k.toNat,by omega⟩ (by show 1<=k.toNat;omega)
 simp only at this
 rwa [show((k.toNat:Nat):Int)=k by omega]at this
theorem cls_kindOf {c:UInt8} (h:kindOf c≠0):cls (kindOf c)=c/\1<=kindOf c/\kindOf c<=4:=by
 unfold kindOf at h⊢
 repeat' split at h
 all_goals first
  |(rename_i e;subst e;decide)
  |(exfalso;exact h rfl)
  |(rename_i a b c e;subst e;decide)
  |(rename_i a e;subst e;decide)
  |(rename_i a b e;subst e;decide)
theorem hasPrefix_iff (l p:L):Lib.hasPrefix l p=true↔ ∃r,l=p++r:=by
 unfold Lib.hasPrefix;rw[BG]
 constructor
 ·rintro⟨r,hr⟩;exact⟨r,hr.symm⟩
 rintro⟨r,hr⟩;exact⟨r,hr.symm⟩
theorem hasPrefix_one (c:UInt8) (l:L):Lib.hasPrefix (c :: l) [c]=true:=(hasPrefix_iff _ _).2 ⟨l,rfl⟩
theorem headP_of {k:Int} (h1:1<=k) (h2:k<=8) (r:L):headP (letter k++[58]++r)=some (k,r):=by
 unfold letter;by_cases h:4<k
 ·rw[rY h]
  have hk:=kindOf_cls' (k:=k - 4) (by omega) (by omega)
  show headP (cls (k - 4) :: 91 :: 93 :: 58 :: r)=_
  simp only[headP]
  rw[rY ((hasPrefix_iff (91 :: 93 :: 58 :: r) [91,93]).2 ⟨58 :: r,rfl⟩),hk]
  simp only[vF,vX];rw[hasPrefix_one,rU (by rintro(h|h)<;>first|omega|cases h)]
  congr 2
  omega
 rw[rU h];have hk:=kindOf_cls' (k:=k) (by omega) (by omega)
 show headP (cls k :: 58 :: r)=_
 simp only[headP]
 rw[rU (by rw[hasPrefix_iff];rintro⟨t,ht⟩;simp at ht),hk,hasPrefix_one,rU (by rintro(h|h)<;>first|omega|cases h)]
 simp
theorem headP_some {s:L} {k:Int} {r:L} (h:headP s=some (k,r)):s=letter k++[58]++r/\1<=k/\k<=8:=by
 unfold headP at h
 split at h
 ·cases h
 rename_i c l
 split at h
 ·rename_i hp
  split at h
  ·cases h
  rename_i hn;simp only[yS]at hn;obtain⟨hn1,hn2⟩:=hn;obtain⟨g1,g2,g3⟩:=cls_kindOf hn1
  obtain⟨t,rfl⟩:=(hasPrefix_iff _ _).1 hp
  obtain⟨u,hu⟩:=(hasPrefix_iff _ _).1 (by simpa using hn2)
  have hu':t=58 :: u:=hu;subst hu';simp only[uH,uZ]at h;obtain⟨rfl,rfl⟩:=h
  refine⟨?_,by omega,by omega⟩
  unfold letter;rw[rY (by omega),show kindOf c+4 - 4=kindOf c by omega,g1]
  rfl
 split at h
 ·cases h
 rename_i hn;simp only[yS]at hn;obtain⟨hn1,hn2⟩:=hn;obtain⟨g1,g2,g3⟩:=cls_kindOf hn1
 obtain⟨u,rfl⟩:=(hasPrefix_iff _ _).1 (by simpa using hn2)
 simp only[uH,uZ]at h;obtain⟨rfl,rfl⟩:=h;refine⟨?_,by omega,by omega⟩
 unfold letter;rw[rU (by omega),g1]
 rfl
theorem check_range {v:V} (h:check v=0):1<=v.kind/\v.kind<=8:=by
 unfold check at h
 split at h
 ·cases h
 omega
theorem check_parts {v:V} (h:check v=0):1<=v.kind/\v.kind<=8/\ ¬Unused v/\v.nums.length<=40/\v.texts.length<=40/\v.text.length<=1000/\longs v.texts=false/\(if v.kind<4 then numWrong v.kind v.num else numsWrong (v.kind - 4) v.nums)=0:=by
 have hr:=check_range h;unfold check at h;rw[rU (by omega)]at h
 split at h
 ·cases h
 rename_i hu
 split at h
 ·cases h
 rename_i hl
 split at h
 ·cases h
 rename_i ht;simp only[yS]at ht
 exact⟨hr.1,hr.2,hu,by omega,by omega,by omega,Bool.eq_false_iff.2 ht.2,h⟩
theorem there {v:V} (h:check v=0) (hn:In64 v.num) (hns: ∀n∈v.nums,In64 n):parse (print v)=(v,0):=by
 obtain⟨h1,h8,hu,-,-,-,-,hw⟩:=check_parts h
 have hu': ¬(v.num≠0/\3<v.kind)/\ ¬(v.text≠ []/\v.kind≠4)/\ ¬(v.nums≠ []/\(v.kind<5\/v.kind=8))/\ ¬(v.texts≠ []/\v.kind≠8):=by
  unfold Unused at hu;simp only[yS]at hu;exact hu
 obtain⟨u1,u2,u3,u4⟩:=hu'
 have hb:bodyP v.kind ((if v.kind<4 then numS v.kind v.num else[])++v.text++v.nums.flatMap (numE (v.kind - 4))++v.texts.flatMap textE)=(v,0):=by
  obtain⟨k,n,t,ns,ts⟩:=v;simp only at h1 h8 hu hw u1 u2 u3 u4 hn hns⊢;unfold bodyP
  by_cases k4:4<k
  ·have e1:n=0:=by apply Decidable.not_not.1;intro e;exact u1 ⟨e,by omega⟩
   have e2:t=[]:=by apply Decidable.not_not.1;intro e;exact u2 ⟨e,by omega⟩
   subst e1 e2;have e0:(if k<4 then numS k 0 else[])=[]:=rU (by omega)
   rw[rY k4,e0,tY,tY];by_cases k8:k=8
   ·have e3:ns=[]:=by apply Decidable.not_not.1;intro e;exact u3 ⟨e,.inr k8⟩
    subst e3;rw[rY k8,wM,tY,textsP_of _ _ _ (by omega)]
    rfl
   have e4:ts=[]:=by apply Decidable.not_not.1;intro e;exact u4 ⟨e,k8⟩
   subst e4;rw[rU (by omega)]at hw
   rw[rU k8,wM,tC,numsP_of (by omega) (by omega) _ _ _ (by omega) hns hw]
   rfl
  have e3:ns=[]:=by apply Decidable.not_not.1;intro e;exact u3 ⟨e,.inl (by omega)⟩
  have e4:ts=[]:=by apply Decidable.not_not.1;intro e;exact u4 ⟨e,by omega⟩
  subst e3 e4;rw[rU k4,wM,wM,tC,tC];by_cases k44:k=4
  ·have e1:n=0:=by apply Decidable.not_not.1;intro e;exact u1 ⟨e,by omega⟩
   subst e1 k44;have e0:(if(4:Int)<4 then numS 4 0 else[])=[]:=rU (by omega)
   rw[rY rfl,e0,tY]
  have e2:t=[]:=by apply Decidable.not_not.1;intro e;exact u2 ⟨e,k44⟩
  subst e2;have e0:(if k<4 then numS k n else[])=numS k n:=rY (by omega)
  rw[rU k44,e0,tC];rw[rY (by omega)]at hw
  rw[numP_numS (by omega) (by omega) hn hw]
 have hp:print v=letter v.kind++[58] ++((if v.kind<4 then numS v.kind v.num else[])++v.text++v.nums.flatMap (numE (v.kind - 4))++v.texts.flatMap textE):=by
  unfold print;simp only[sV]
 unfold parse;rw[hp,headP_of h1 h8];simp only[hb];rw[rU (by omega),rU (by omega)]
theorem one {s:L} {v:V} (h:parse s=(v,0)):check v=0/\print v=s/\In64 v.num/\ ∀n∈v.nums,In64 n:=by
 unfold parse at h
 split at h
 ·cases h
 rename_i k r hh;obtain⟨hs,h1,h8⟩:=headP_some hh
 split at h
 ·rename_i hne
  simp only[uZ]at h;exact absurd h.2 hne
 rename_i hz
 split at h
 ·rename_i hne
  simp only[uZ]at h;exact absurd h.2 hne
 rename_i hc;simp only[uZ,yJ]at h;have hz':(bodyP k r).2=0:=by omega
 have hc':check v=0:=by rw[<-h];omega
 refine⟨hc', ?_⟩;clear hc hz hh;unfold bodyP at h hz';rw[hs];unfold print
 by_cases k4:4<k
 ·rw[rY k4]at h hz'
  by_cases k8:k=8
  ·rw[rY k8]at h hz'
   simp only at h hz'
   obtain⟨m,e1,e2⟩:=textsP_some (r.length+1) r [] (textsP (r.length+1) r []).1 (by omega) (by rw[<-hz'])
   rw[tY]at e1;rw[<-h];simp only;rw[e1,rU (by omega),<-e2]
   exact⟨by simp,by unfold In64;omega,by simp⟩
  rw[rU k8]at h hz';simp only at h hz'
  obtain⟨m,e1,e2,e3⟩:=numsP_some (k:=k - 4) (by omega) (by omega) (r.length+1) r [] (numsP (k - 4) (r.length+1) r []).1 (by omega) (by rw[<-hz'])
  rw[tY]at e1;rw[<-h];simp only;rw[e1,rU (by omega),<-e2]
  exact⟨by simp,by unfold In64;omega,e3⟩
 rw[rU k4]at h hz';by_cases k44:k=4
 ·rw[rY k44]at h
  rw[<-h];simp only;rw[rU (by omega),k44]
  exact⟨by simp,by unfold In64;omega,by simp⟩
 rw[rU k44]at h hz';simp only at hz'
 obtain⟨g1,g2⟩:=numS_numP (k:=k) (n:=(numP k r).1) (s:=r) (by omega) (by omega) (by rw[<-hz'])
 rw[<-h];simp only;rw[rY (by omega),g1]
 exact⟨by simp,g2,by simp⟩
end Go.Proofs.YtanlehkalkafdaaGreatDoor.Cel
namespace Go.Proofs.YtanlehkalkafdaaGreatDoor.Lex
open Go
abbrev L:=List UInt8
def isLet (c:UInt8):Bool:=(decide (97<=c.toNat) && decide (c.toNat<=122)) ||(decide (65<=c.toNat) && decide (c.toNat<=90)) || decide (c.toNat=95)
def inWord (c:UInt8):Bool:=isLet c || Num.isDig c
structure Tok where
 kind:Nat
 text:L
 num:Int
 pos:Nat
end Go.Proofs.YtanlehkalkafdaaGreatDoor.Lex
namespace Go.Proofs
open Go.Shelf
def Tryz.lays156_ren:Go.Shelf.Ren:=⟨fun|156=>23|165=>53|166=>54|169=>55|240=>100|241=>101|276=>139|277=>140|n=>n,fun|31=>45|9=>9|3=>3|4=>4|0=>0|20=>20|72=>106|76=>110|70=>103|37=>104|75=>109|127=>154|164=>193|5=>5|80=>112|n=>n,fun|n=>n⟩
theorem Tryz.lays156:Go.Proofs.Lays.n156 Tryz.prog Tryz.lays156_ren:=by
 repeat' first|kernel_rfl|exact fun _=>rfl|constructor
theorem Tryz.Builder_Extra_156:Builder.Extra Tryz.prog Tryz.lays156_ren:={
 sizeBuilder:=by kernel_rfl
 liesBuilder:=by kernel_rfl
 t5:=Tryz.underlying5
 a5:=Tryz.isAgg5
 z5:=Tryz.sizeOf5
 v5:=Tryz.zeroValue5
 infoByte:=by kernel_rfl
 cellsByte:=by kernel_rfl
 sizeByte:=by kernel_rfl
 neB5:=by decide}
open Go.RowKit in
theorem Tryz.strings_Join_none (a:Option Addr) (c:Nat) (sep:ByteArray) (w:World):
  Calls Tryz.prog 23 #[.slice a 0 c,.string sep] w fun e w'=>e=.returned (.string ⟨#[]⟩)/\w'=w:=Any.strings_Join_none Tryz.lays156 Tryz.Builder_Extra_156 a c sep w
open Go.RowKit in
theorem Tryz.strings_Join (bk o c:Nat) (xs:List ByteArray) (sep:ByteArray) (w:World) (hcells: ∀(j:Nat) x,xs[j]?=some x->w.cell? ⟨bk,o+j,none⟩=some (.string x)) (hbk:bk<w.heap.size) (hN:xs.length<=140737488355328) (hcap:xs.length<=c) (hlen:(Lib.join (xs.map (·.data.toList)) sep.data.toList).length<=140737488355328):
  Calls Tryz.prog 23 #[.slice (some ⟨bk,o,none⟩) xs.length c,.string sep] w fun e w'=>e=.returned (.string ⟨(Lib.join (xs.map (·.data.toList)) sep.data.toList).toArray⟩)/\Below w.heap.size w w':=Any.strings_Join Tryz.lays156 Tryz.Builder_Extra_156 bk o c xs sep w hcells hbk hN hcap hlen
def Tryz.lays162_ren:Go.Shelf.Ren:=⟨fun|162=>199|232=>235|227=>149|234=>236|236=>237|228=>150|271=>257|151=>258|120=>265|197=>135|152=>147|260=>186|137=>201|119=>202|224=>189|225=>188|217=>187|266=>228|n=>n,fun|9=>9|4=>4|3=>3|5=>5|117=>202|116=>201|0=>0|124=>249|21=>21|105=>190|46=>155|119=>274|139=>277|138=>276|n=>n,fun|3=>1|4=>2|n=>n⟩
theorem Tryz.lays162:Go.Proofs.Lays.n162 Tryz.prog Tryz.lays162_ren:=by
 repeat' first|kernel_rfl|exact fun _=>rfl|constructor
open Go.RowKit in
theorem Tryz.strings_TrimRight_one (s:ByteArray) (c:UInt8) (hc:c.toNat<128) (w:World) (hs:s.size<=9223372036854775807):
  Calls Tryz.prog 199 #[.string s,.string ⟨#[c]⟩] w fun e w'=>e=.returned (.string ⟨(Lib.trimRightB s.data.toList c).toArray⟩)/\w'=w:=Any.strings_TrimRight_one Tryz.lays162 s c hc w hs
def Tryz.lays119_ren:Go.Shelf.Ren:=⟨fun|119=>202|n=>n,fun|21=>21|4=>4|n=>n,fun|n=>n⟩
theorem Tryz.lays119:Go.Proofs.Lays.n119 Tryz.prog Tryz.lays119_ren:=by
 repeat' first|kernel_rfl|exact fun _=>rfl|constructor
theorem Tryz.utf8_ValidRune (r:Int) (w:World):
  Calls Tryz.prog 202 #[.int .i32 r] w fun e w'=>e=.returned (.bool (Lib.validRune r))/\w'=w:=Any.utf8_ValidRune Tryz.lays119 r w
def Tryz.lays134_ren:Go.Shelf.Ren:=⟨fun|134=>197|129=>171|n=>n,fun|53=>161|3=>3|4=>4|46=>155|5=>5|9=>9|n=>n,fun|n=>n⟩
theorem Tryz.lays134:Go.Proofs.Lays.n134 Tryz.prog Tryz.lays134_ren:=by
 repeat' first|kernel_rfl|exact fun _=>rfl|constructor
theorem Tryz.bits_LeadingZeros64 (x:Int) (w:World) (h0:0<=x) (h1:x<=18446744073709551615):
  Calls Tryz.prog 197 #[.int .u64 x] w fun e w'=>e=.returned (.int .i64 (64 -(Lib.bitLen x.toNat:Int)))/\w'=w:=Any.bits_LeadingZeros64 Tryz.lays134 x w h0 h1
def Tryz.lays106_ren:Go.Shelf.Ren:=⟨fun|106=>124|213=>173|265=>219|n=>n,fun|9=>9|3=>3|n=>n,fun|n=>n⟩
theorem Tryz.lays106:Go.Proofs.Lays.n106 Tryz.prog Tryz.lays106_ren:=by
 repeat' first|kernel_rfl|exact fun _=>rfl|constructor
open Go.RowKit in
theorem Tryz.strings_Compare (a b:ByteArray) (w:World):
  Calls Tryz.prog 124 #[.string a,.string b] w fun e w'=>e=.returned (.int .i64 (Lib.compareBytes a.data.toList b.data.toList))/\w'=w:=Any.strings_Compare Tryz.lays106 a b w
def Tryz.lays137_ren:Go.Shelf.Ren:=⟨fun|137=>201|217=>187|266=>228|n=>n,fun|9=>9|5=>5|3=>3|n=>n,fun|n=>n⟩
theorem Tryz.lays137:Go.Proofs.Lays.n137 Tryz.prog Tryz.lays137_ren:=by
 repeat' first|kernel_rfl|exact fun _=>rfl|constructor
open Go.RowKit in
theorem Tryz.strings_IndexByte (s:ByteArray) (c:Int) (w:World):
  Calls Tryz.prog 201 #[.string s,.int .u8 c] w fun e w'=>e=.returned (.int .i64 (Lib.indexByte s.data.toList c.toNat.toUInt8))/\w'=w:=Any.strings_IndexByte Tryz.lays137 s c w
def Tryz.lays103_ren:Go.Shelf.Ren:=⟨fun|103=>208|210=>245|206=>204|n=>n,fun|9=>9|4=>4|24=>251|3=>3|n=>n,fun|n=>n⟩
theorem Tryz.lays103:Go.Proofs.Lays.n103 Tryz.prog Tryz.lays103_ren:=by
 repeat' first|kernel_rfl|exact fun _=>rfl|constructor
open Go.RowKit in
theorem Tryz.strings_CutPrefix (s p:ByteArray) (w:World):
  Calls Tryz.prog 208 #[.string s,.string p] w fun e w'=>e=.returned (.tuple #[.string ⟨(Lib.trimPrefix s.data.toList p.data.toList).toArray⟩,.bool (Lib.hasPrefix s.data.toList p.data.toList)])/\w'=w:=Any.strings_CutPrefix Tryz.lays103 s p w
def Tryz.lays122_ren:Go.Shelf.Ren:=⟨fun|122=>78|215=>126|n=>n,fun|3=>3|4=>4|n=>n,fun|n=>n⟩
theorem Tryz.lays122:Go.Proofs.Lays.n122 Tryz.prog Tryz.lays122_ren:=by
 repeat' first|kernel_rfl|exact fun _=>rfl|constructor
open Go.RowKit in
theorem Tryz.cmp_Compare_int (x y:Int) (w:World):
  Calls Tryz.prog 78 #[.int .i64 x,.int .i64 y] w fun e w'=>e=.returned (.int .i64 (Lib.compareInt x y))/\w'=w:=Any.cmp_Compare_int Tryz.lays122 x y w
def Tryz.laysM171_ren:Go.Shelf.Ren:=⟨fun|171=>200|243=>238|246=>138|283=>191|284=>192|285=>193|286=>194|129=>171|317=>230|318=>231|319=>232|320=>233|337=>256|338=>249|n=>n,fun|3=>3|9=>9|2=>2|4=>4|171=>241|0=>0|53=>161|37=>104|5=>5|173=>243|212=>281|51=>224|20=>20|213=>282|46=>155|232=>303|233=>302|n=>n,fun|17=>3|18=>7|19=>6|n=>n⟩
theorem Tryz.laysM171:Go.Proofs.LaysM.n171 Tryz.prog Tryz.laysM171_ren:=by
 repeat' first|kernel_rfl|exact fun _=>rfl|constructor
open Go.RowKit Go.Sort Go.Lib in
theorem Tryz.strconv_Itoa (n:Int) (h0: -9223372036854775808<=n) (h1:n<=9223372036854775807) (w:World) (htab:Lib.TabIs Tryz.prog w "internal/strconv.uint64pow10" .u64 Lib.pow10Tab):
  Calls Tryz.prog 200 #[.int .i64 n] w fun e w'=>e=.returned (.string ⟨(Lib.itoa n).toArray⟩)/\ ∃k os,w'=grow (w.drewN k) os:=Any.strconv_Itoa Tryz.laysM171 n h0 h1 w htab
def Tryz.laysM173_ren:Go.Shelf.Ren:=⟨fun|173=>99|246=>138|283=>191|284=>192|285=>193|286=>194|129=>171|317=>230|318=>231|319=>232|320=>233|337=>256|338=>249|n=>n,fun|2=>2|3=>3|9=>9|4=>4|171=>241|0=>0|53=>161|37=>104|5=>5|173=>243|212=>281|51=>224|20=>20|213=>282|46=>155|232=>303|233=>302|n=>n,fun|17=>3|18=>7|19=>6|n=>n⟩
theorem Tryz.laysM173:Go.Proofs.LaysM.n173 Tryz.prog Tryz.laysM173_ren:=by
 repeat' first|kernel_rfl|exact fun _=>rfl|constructor
open Go.RowKit Go.Sort Go.Lib in
theorem Tryz.strconv_FormatInt_10 (n:Int) (h0: -9223372036854775808<=n) (h1:n<=9223372036854775807) (w:World) (htab:Lib.TabIs Tryz.prog w "internal/strconv.uint64pow10" .u64 Lib.pow10Tab):
  Calls Tryz.prog 99 #[.int .i64 n,.int .i64 10] w fun e w'=>e=.returned (.string ⟨(Lib.itoa n).toArray⟩)/\ ∃k os,w'=grow (w.drewN k) os:=Any.strconv_FormatInt_10 Tryz.laysM173 n h0 h1 w htab
def Tryz.laysC172_ren:Go.Shelf.Ren:=⟨fun|172=>263|244=>266|245=>207|247=>206|279=>241|280=>242|281=>243|282=>244|287=>240|316=>261|171=>200|205=>262|321=>259|322=>260|243=>238|246=>138|283=>191|284=>192|285=>193|286=>194|129=>171|317=>230|318=>231|319=>232|320=>233|337=>256|338=>249|n=>n,fun|9=>9|3=>3|75=>109|76=>110|4=>4|5=>5|167=>285|37=>104|0=>0|85=>208|2=>2|168=>288|53=>161|175=>286|46=>155|210=>300|127=>154|145=>306|143=>304|21=>21|171=>241|173=>243|212=>281|51=>224|20=>20|213=>282|232=>303|233=>302|80=>112|n=>n,fun|15=>4|16=>5|17=>3|18=>7|19=>6|n=>n⟩
theorem Tryz.laysC172:Go.Proofs.LaysC.n172 Tryz.prog Tryz.laysC172_ren:=by
 repeat' first|kernel_rfl|exact fun _=>rfl|constructor
open Go.RowKit in
theorem Tryz.strconv_Atoi_ok (s:ByteArray) (hmax:s.size<=9223372036854775806) (v:Int) (h:Lib.atoiAll s.data.toList=.ok v) (w:World):
  Calls Tryz.prog 263 #[.string s] w fun e w'=>e=.returned (.tuple #[.int .i64 v,.nilIface])/\(w'=w\/ ∃t,w'=Lib.bytesWorld w 5 t):=Any.strconv_Atoi_ok Tryz.laysC172 s hmax v h w
def Tryz.laysC174_ren:Go.Shelf.Ren:=⟨fun|174=>157|247=>206|245=>207|287=>240|279=>241|280=>242|281=>243|282=>244|321=>259|322=>260|316=>261|171=>200|205=>262|243=>238|246=>138|283=>191|284=>192|285=>193|286=>194|129=>171|317=>230|318=>231|319=>232|320=>233|337=>256|338=>249|n=>n,fun|9=>9|3=>3|2=>2|75=>109|85=>208|4=>4|167=>285|5=>5|53=>161|175=>286|46=>155|168=>288|37=>104|0=>0|210=>300|21=>21|127=>154|145=>306|143=>304|171=>241|173=>243|212=>281|51=>224|20=>20|213=>282|232=>303|233=>302|80=>112|n=>n,fun|15=>4|16=>5|17=>3|18=>7|19=>6|n=>n⟩
theorem Tryz.laysC174:Go.Proofs.LaysC.n174 Tryz.prog Tryz.laysC174_ren:=by
 repeat' first|kernel_rfl|exact fun _=>rfl|constructor
open Go.RowKit in
theorem Tryz.strconv_ParseInt_10_at64_ok (s:ByteArray) (hmax:s.size<=9223372036854775806) (v:Int) (h:Lib.parseIntB 64 s.data.toList=.ok v) (w:World):
  Calls Tryz.prog 157 #[.string s,.int .i64 10,.int .i64 64] w fun e w'=>e=.returned (.tuple #[.int .i64 v,.nilIface])/\(w'=w\/ ∃t,w'=Lib.bytesWorld w 5 t):=Any.strconv_ParseInt_10_at64_ok Tryz.laysC174 s hmax v h w
open Go.RowKit in
theorem Tryz.strconv_ParseInt_10_at64_range_var (s:ByteArray) (hlim:s.size<=281474976710656) (h:Lib.parseIntB 64 s.data.toList=.range) (tp:TypeId) (p:Value) (w:World) (hvar:w.var? Tryz.prog "strconv.ErrRange" =some #[.iface tp p]):
  Calls Tryz.prog 157 #[.string s,.int .i64 10,.int .i64 64] w fun e w'=> ∃N,e=.returned (.tuple #[.int .i64 (Lib.intSat 64 s.data.toList),.iface 288 (.pointer (some ⟨N,0,none⟩))])/\w.heap.size<=N/\w'.heap[N]?=some (.cells #[.string ⟨#[80,97,114,115,101,73,110,116]⟩,.string s,.iface tp p] 300 (0,0))/\Below w.heap.size w w':=Any.strconv_ParseInt_10_at64_range_var Tryz.laysC174 s hlim h tp p w hvar
def Tryz.lays145_ren:Go.Shelf.Ren:=⟨fun|145=>210|220=>246|219=>137|217=>187|225=>188|224=>189|267=>190|266=>228|314=>229|n=>n,fun|9=>9|4=>4|59=>254|3=>3|5=>5|46=>155|146=>278|51=>224|n=>n,fun|1=>0|n=>n⟩
theorem Tryz.lays145:Go.Proofs.Lays.n145 Tryz.prog Tryz.lays145_ren:=by
 repeat' first|kernel_rfl|exact fun _=>rfl|constructor
open Go.RowKit Go.Lib in
theorem Tryz.strings_Cut (s sep:ByteArray) (m:Int) (w:World) (hs:s.size<4294967281) (hm:w.cell? ⟨0,0,none⟩=some (.int .i64 m)):
  Calls Tryz.prog 210 #[.string s,.string sep] w fun e w'=>e=.returned (.tuple #[.string ⟨(Lib.cut s.data.toList sep.data.toList).1.toArray⟩,.string ⟨(Lib.cut s.data.toList sep.data.toList).2.1.toArray⟩,.bool (Lib.cut s.data.toList sep.data.toList).2.2])/\ ∃n,w'=w.drewN n:=Any.strings_Cut Tryz.lays145 s sep m w hs hm
def Tryz.lays190_ren:Go.Shelf.Ren:=⟨fun|190=>74|125=>119|258=>118|128=>170|129=>171|302=>162|303=>163|304=>164|305=>165|306=>166|307=>167|308=>102|309=>168|310=>169|333=>212|329=>213|330=>214|334=>215|335=>216|336=>141|344=>250|n=>n,fun|31=>45|9=>9|3=>3|46=>155|0=>0|51=>224|53=>161|4=>4|183=>218|182=>217|131=>113|5=>5|218=>258|222=>262|228=>294|229=>40|n=>n,fun|n=>n⟩
theorem Tryz.lays190:Go.Proofs.Lays.n190 Tryz.prog Tryz.lays190_ren:=by
 repeat' first|kernel_rfl|exact fun _=>rfl|constructor
open Go.Sort Go.RowKit in
theorem Tryz.slices_Sort_string (blk off cap:Nat) (ss:List (List UInt8)) (w:World) (hH:Holds encStr w blk off ss.toArray) (hblk:blk<w.heap.size) (hsz:ss.length<4611686018427387904):
  Calls Tryz.prog 74 #[.slice (some ⟨blk,off,none⟩) ss.length cap] w fun e w'=>
   e=.returned (.tuple #[])/\ ∃n os,w'=grow (putRow encStr (Sort.ahead w n) blk off (ss.mergeSort fun x y=>decide (x<=y)).toArray) os:=Any.slices_Sort_string Tryz.lays190 blk off cap ss w hH hblk hsz
def Tryz.lays99_ren:Go.Shelf.Ren:=⟨fun|99=>155|206=>204|n=>n,fun|9=>9|4=>4|3=>3|n=>n,fun|n=>n⟩
theorem Tryz.lays99:Go.Proofs.Lays.n99 Tryz.prog Tryz.lays99_ren:=by
 repeat' first|kernel_rfl|exact fun _=>rfl|constructor
open Go.RowKit Go.Lib in
theorem Tryz.strings_HasPrefix (s p:ByteArray) (w:World):
  Calls Tryz.prog 155 #[.string s,.string p] w fun e w'=>e=.returned (.bool (Lib.hasPrefix s.data.toList p.data.toList))/\w'=w:=Any.strings_HasPrefix Tryz.lays99 s p w
def Tryz.lays101_ren:Go.Shelf.Ren:=⟨fun|101=>205|208=>239|206=>204|n=>n,fun|9=>9|4=>4|3=>3|n=>n,fun|n=>n⟩
theorem Tryz.lays101:Go.Proofs.Lays.n101 Tryz.prog Tryz.lays101_ren:=by
 repeat' first|kernel_rfl|exact fun _=>rfl|constructor
open Go.RowKit Go.Lib in
theorem Tryz.strings_TrimPrefix (s p:ByteArray) (w:World):
  Calls Tryz.prog 205 #[.string s,.string p] w fun e w'=>e=.returned (.string ⟨(Lib.trimPrefix s.data.toList p.data.toList).toArray⟩)/\w'=w:=Any.strings_TrimPrefix Tryz.lays101 s p w
def Tryz.lays146_ren:Go.Shelf.Ren:=⟨fun|146=>21|221=>51|268=>96|138=>97|143=>98|195=>134|197=>135|218=>136|219=>137|260=>186|217=>187|225=>188|224=>189|267=>190|266=>228|314=>229|n=>n,fun|9=>9|31=>45|3=>3|4=>4|0=>0|105=>190|21=>21|5=>5|46=>155|119=>274|139=>277|138=>276|146=>278|51=>224|n=>n,fun|1=>0|3=>1|4=>2|n=>n⟩
theorem Tryz.lays146:Go.Proofs.Lays.n146 Tryz.prog Tryz.lays146_ren:=by
 repeat' first|kernel_rfl|exact fun _=>rfl|constructor
open Go.RowKit Go.Lib in
theorem Tryz.strings_Split (s sep:ByteArray) (m:Int) (w:World) (hs:s.size<4294967281) (hm:w.cell? ⟨0,0,none⟩=some (.int .i64 m)) (h1:1<=sep.size):
  Calls Tryz.prog 21 #[.string s,.string sep] w fun e w'=>
   e=.returned (.slice (some ⟨w.heap.size,0,none⟩) (Lib.countB s sep+1) (Lib.countB s sep+1))/\w'=w.alloc (.cells ((Lib.splitB sep 0 (Lib.countB s sep) s).map Value.string).toArray 9):=Any.strings_Split Tryz.lays146 (by kernel_rfl) s sep m w hs hm h1
def Tryz.lays155_ren:Go.Shelf.Ren:=⟨fun|155=>60|154=>108|138=>97|165=>53|143=>98|166=>54|197=>135|169=>55|195=>134|218=>136|240=>100|241=>101|219=>137|260=>186|276=>139|277=>140|217=>187|225=>188|224=>189|267=>190|266=>228|314=>229|n=>n,fun|9=>9|3=>3|4=>4|72=>106|0=>0|76=>110|105=>190|21=>21|5=>5|70=>103|20=>20|37=>104|75=>109|127=>154|164=>193|46=>155|119=>274|139=>277|138=>276|146=>278|51=>224|80=>112|n=>n,fun|1=>0|3=>1|4=>2|n=>n⟩
theorem Tryz.lays155:Go.Proofs.Lays.n155 Tryz.prog Tryz.lays155_ren:=by
 repeat' first|kernel_rfl|exact fun _=>rfl|constructor
theorem Tryz.Builder_Extra_155:Builder.Extra Tryz.prog Tryz.lays155_ren:={
 sizeBuilder:=by kernel_rfl
 liesBuilder:=by kernel_rfl
 t5:=Tryz.underlying5
 a5:=Tryz.isAgg5
 z5:=Tryz.sizeOf5
 v5:=Tryz.zeroValue5
 infoByte:=by kernel_rfl
 cellsByte:=by kernel_rfl
 sizeByte:=by kernel_rfl
 neB5:=by decide}
open Go.RowKit Go.Lib in
theorem Tryz.strings_ReplaceAll (s old new:ByteArray) (m:Int) (w:World) (hs:s.size<4294967281) (hm:w.cell? ⟨0,0,none⟩=some (.int .i64 m)) (h1:1<=old.size) (hlen:s.size+Lib.countB s old*new.size<=140737488355328):
  Calls Tryz.prog 60 #[.string s,.string old,.string new] w fun e w'=>
   e=.returned (.string ⟨(Lib.replaceAll s.data.toList old.data.toList new.data.toList).toArray⟩)/\Below w.heap.size w w':=Any.strings_ReplaceAll Tryz.lays155 Tryz.Builder_Extra_155 s old new m w hs hm h1 hlen
def Tryz.lays152_ren:Go.Shelf.Ren:=⟨fun|152=>147|137=>201|119=>202|224=>189|225=>188|217=>187|266=>228|n=>n,fun|9=>9|21=>21|3=>3|4=>4|5=>5|0=>0|46=>155|n=>n,fun|n=>n⟩
theorem Tryz.lays152:Go.Proofs.Lays.n152 Tryz.prog Tryz.lays152_ren:=by
 repeat' first|kernel_rfl|exact fun _=>rfl|constructor
open Go.RowKit Go.Lib in
theorem Tryz.strings_IndexRune_ascii (s:ByteArray) (r:Int) (w:World) (h0:0<=r) (h1:r<128):
  Calls Tryz.prog 147 #[.string s,.int .i32 r] w fun e w'=>e=.returned (.int .i64 (Lib.indexByte s.data.toList r.toNat.toUInt8))/\w'=w:=Any.strings_IndexRune_ascii Tryz.lays152 s r w h0 h1
def Tryz.lays226_ren:Go.Shelf.Ren:=⟨fun|226=>148|n=>n,fun|3=>3|4=>4|n=>n,fun|n=>n⟩
theorem Tryz.lays226:Go.Proofs.Lays.n226 Tryz.prog Tryz.lays226_ren:=by
 repeat' first|kernel_rfl|exact fun _=>rfl|constructor
open Go.RowKit Go.Lib in
theorem Tryz.strings_shouldUseASCIISet (n:Int) (w:World):
  Calls Tryz.prog 148 #[.int .i64 n] w fun e w'=>e=.returned (.bool (decide (8<n)))/\w'=w:=Any.strings_shouldUseASCIISet Tryz.lays226 n w
def Tryz.lays153_ren:Go.Shelf.Ren:=⟨fun|153=>107|152=>147|226=>148|227=>149|228=>150|137=>201|119=>202|224=>189|225=>188|217=>187|266=>228|n=>n,fun|9=>9|3=>3|4=>4|5=>5|21=>21|117=>202|116=>201|0=>0|46=>155|124=>249|n=>n,fun|n=>n⟩
theorem Tryz.lays153:Go.Proofs.Lays.n153 Tryz.prog Tryz.lays153_ren:=by
 repeat' first|kernel_rfl|exact fun _=>rfl|constructor
open Go.RowKit Go.Lib in
theorem Tryz.strings_IndexAny_long (hv116: ∀w,(zeroValue 201).run Tryz.prog w=.ok (.agg (Array.replicate 256 (.bool false))) w) (s chars:ByteArray) (w:World) (h2:2<=chars.size) (h8:8<s.size) (hs:s.size<4294967281) (hcs:chars.size<4294967281) (hascii: ∀(j:Nat) b,chars.data.toList[j]?=some b->b.toNat<128):
  Calls Tryz.prog 107 #[.string s,.string chars] w fun e w'=>e=.returned (.int .i64 (Lib.indexAny s.data.toList chars.data.toList))/\w'=((w.alloc (.cells (Lib.setCells chars.data.toList) 201)).alloc (.cells (Lib.setCells chars.data.toList) 201)):=Any.strings_IndexAny_long Tryz.lays153 hv116 (by kernel_rfl) s chars w h2 h8 hs hcs hascii
def Tryz.lays110_ren:Go.Shelf.Ren:=⟨fun|110=>116|109=>158|n=>n,fun|31=>45|9=>9|4=>4|3=>3|0=>0|n=>n,fun|n=>n⟩
theorem Tryz.lays110:Go.Proofs.Lays.n110 Tryz.prog Tryz.lays110_ren:=by
 repeat' first|kernel_rfl|exact fun _=>rfl|constructor
open Go.Lib in
theorem Tryz.slices_Contains_string (b off n c:Nat) (zs:List ByteArray) (x:ByteArray) (w:World) (hz:n<=zs.length) (hbig:n<=9223372036854775807) (hc: ∀j,j<zs.length->w.cell? ⟨b,off+j,none⟩=some (.string (zs.getD j ByteArray.empty))):
  Calls Tryz.prog 116 #[.slice (some ⟨b,off,none⟩) n c,.string x] w fun e w'=>e=.returned (.bool (Lib.containsS (zs.take n) x))/\w'=w:=Any.slices_Contains_string Tryz.lays110 b off n c zs x w hz hbig hc
open Go.Lib in
theorem Tryz.slices_Contains_string_empty (a:Option Addr) (c:Nat) (x:ByteArray) (w:World):
  Calls Tryz.prog 116 #[.slice a 0 c,.string x] w fun e w'=>e=.returned (.bool false)/\w'=w:=Any.slices_Contains_string_empty Tryz.lays110 a c x w
def Tryz.lays193_ren:Go.Shelf.Ren:=⟨fun|193=>114|n=>n,fun|31=>45|9=>9|4=>4|3=>3|0=>0|n=>n,fun|n=>n⟩
theorem Tryz.lays193:Go.Proofs.Lays.n193 Tryz.prog Tryz.lays193_ren:=by
 repeat' first|kernel_rfl|exact fun _=>rfl|constructor
open Go.RowKit Go.Lib in
theorem Tryz.slices_Equal_string (b1 o1 n c b2 o2 m d:Nat) (xs ys:List ByteArray) (w:World) (hx:n<=xs.length) (hy:m<=ys.length) (hbig:n<=9223372036854775807) (hbig2:m<=9223372036854775807) (hc1: ∀j,j<xs.length->w.cell? ⟨b1,o1+j,none⟩=some (.string (xs.getD j ByteArray.empty))) (hc2: ∀j,j<ys.length->w.cell? ⟨b2,o2+j,none⟩=some (.string (ys.getD j ByteArray.empty))):
  Calls Tryz.prog 114 #[.slice (some ⟨b1,o1,none⟩) n c,.slice (some ⟨b2,o2,none⟩) m d] w fun e w'=>e=.returned (.bool (decide (xs.take n=ys.take m)))/\ ∃q,w'=w.drewN q:=Any.slices_Equal_string Tryz.lays193 b1 o1 n c b2 o2 m d xs ys w hx hy hbig hbig2 hc1 hc2
open Go.RowKit Go.Sort in
theorem Tryz.slices_Sort_string_none (p:Option Addr) (cap:Nat) (w:World):
  Calls Tryz.prog 74 #[.slice p 0 cap] w fun e w'=>e=.returned (.tuple #[])/\w'=w:=Any.slices_Sort_string_none Tryz.lays190 p cap w
end Go.Proofs
namespace Go.Proofs.YtanlehkalkafdaaGreatDoor
open Go.RowKit
structure Laid (W:World):Prop where
 pow:Lib.TabIs Tryz.prog W "internal/strconv.uint64pow10" .u64 Lib.pow10Tab
 bru: ∃cs,W.var? Tryz.prog "math/bits.deBruijn64tab" =some cs/\ ∀j,j<64->cs[j]?=some (.int .u8 (Lib.deBruijn64tab.getD j 0))
 syn: ∃tp p,W.var? Tryz.prog "strconv.ErrSyntax" =some #[.iface tp p]
 rng: ∃tp p,W.var? Tryz.prog "strconv.ErrRange" =some #[.iface tp p]
 max: ∃m,W.cell? ⟨0,0,none⟩=some (.int .i64 m)
theorem gBru:Tryz.prog.globalNamed "math/bits.deBruijn64tab" =some 6:=by kernel_rfl
theorem gPow:Tryz.prog.globalNamed "internal/strconv.uint64pow10" =some 3:=by kernel_rfl
theorem gSyn:Tryz.prog.globalNamed "strconv.ErrSyntax" =some 4:=by kernel_rfl
theorem gRng:Tryz.prog.globalNamed "strconv.ErrRange" =some 5:=by kernel_rfl
theorem cell_lt' {w:World} {a:Addr} {v:Value} (h:w.cell? a=some v):a.block<w.heap.size:=by
 rcases wW a.block w.heap.size with h0|h0
 ·exact h0
 unfold World.cell? at h;simp[xY h0]at h
theorem Laid.below {W W':World} (h:Laid W) (hb:Below W.heap.size W W'):Laid W':=by
 obtain⟨cs,h1,h2⟩:=h.bru;obtain⟨t1,p1,e1⟩:=h.syn;obtain⟨t2,p2,e2⟩:=h.rng
 obtain⟨m,hm⟩:=h.max
 exact⟨Joins.tab_stays gPow h.pow hb (rM _),⟨cs,Joins.var_stays gBru h1 hb (rM _),h2⟩,⟨t1,p1,Joins.var_stays gSyn e1 hb (rM _)⟩,⟨t2,p2,Joins.var_stays gRng e2 hb (rM _)⟩,⟨m,(hb.cell (cell_lt' hm)).trans hm⟩⟩
theorem below_grow {W:World} (k:Nat) (os:Array Obj):Below W.heap.size W (Sort.grow (W.drewN k) os):=by
 refine⟨rfl,rfl,rfl, ?_,fun j hj=> ?_⟩
 ·simp[Sort.grow,World.drewN]
 simp[Sort.grow,World.drewN,y8 hj]
theorem size_list (l:List UInt8):(⟨l.toArray⟩:ByteArray).size=l.length:=by simp[ByteArray.size]
theorem formatInt_any (n:Int) (w:World) (h0: -9223372036854775808<=n) (h1:n<=9223372036854775807) (hL:Laid w):
  Calls Tryz.prog 99 #[.int .i64 n,.int .i64 10] w fun e w'=>e=.returned (.string ⟨(Lib.itoa n).toArray⟩)/\Below w.heap.size w w':=
 (Tryz.strconv_FormatInt_10 n h0 h1 w hL.pow).mono fun e w' ⟨he,k,os,hw⟩=>⟨he,by rw[hw];exact below_grow k os⟩
theorem itoa_any (n:Int) (w:World) (h0: -9223372036854775808<=n) (h1:n<=9223372036854775807) (hL:Laid w):
  Calls Tryz.prog 200 #[.int .i64 n] w fun e w'=>e=.returned (.string ⟨(Lib.itoa n).toArray⟩)/\Below w.heap.size w w':=
 (Tryz.strconv_Itoa n h0 h1 w hL.pow).mono fun e w' ⟨he,k,os,hw⟩=>⟨he,by rw[hw];exact below_grow k os⟩
theorem below_bytesWorld {w w':World} {T:TypeId} (h:w'=w\/ ∃t,w'=Lib.bytesWorld w T t):Below w.heap.size w w':=by
 rcases h with rfl|⟨t,rfl⟩
 ·exact Below.refl _ _
 exact Lib.bytesWorld_below _ _ _
end Go.Proofs.YtanlehkalkafdaaGreatDoor
