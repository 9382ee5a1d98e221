/- Contracts and plain laws,part 2. -/
import Derived.Test.YtoofbflplhbpbaaGreatDoorUO01
set_option linter.all false
namespace Go.Proofs.YtoofbflplhbpbaaGreatDoor.ak
open Go
abbrev L:=List UInt8
structure V where
 kind:Int
 num:Int
 text:L
 nums:List Int
 texts:List L
def V0:V:=⟨0,0, [], [], []⟩
def u64 (n:Int):Nat:=(n % 18446744073709551616).toNat
def zG (b:Nat):Int:=if b<9223372036854775808 then (b:Int) else (b:Int) - 18446744073709551616
def In64 (n:Int):Prop:= -9223372036854775808<=n/\n<=9223372036854775807
def yT (n:Int):Bool:=decide (9218868437227405312<u64 n % 9223372036854775808) && decide (u64 n≠9221120237041090560)
def eY (k n:Int):Nat:=if k=1/\n≠0/\n≠1 then 42 else if k=3/\yT n=true then 43 else 0
def jd (k:Int):List Int->Nat
 | []=>0
 | n :: r=>if eY k n≠0 then eY k n else jd k r
def jr (l:List L):Bool:=l.any fun s=>decide (1000<s.length)
def Unused (v:V):Prop:=(v.num≠0/\3<v.kind)\/(v.text≠ []/\v.kind≠4)\/(v.nums≠ []/\(v.kind<5\/v.kind=8))\/(v.texts≠ []/\v.kind≠8)
instance (v:V):Decidable (Unused v):=by unfold Unused;infer_instance
def check (v:V):Nat:=
 if v.kind<1\/8<v.kind then 40 else
 if Unused v then 41 else
 if 40<v.nums.length\/40<v.texts.length then 45 else
 if 1000<v.text.length\/jr v.texts=true then 44 else
 if v.kind<4 then eY v.kind v.num else jd (v.kind - 4) v.nums
def cls (k:Int):UInt8:=if k=1 then 98 else if k=2 then 105 else if k=3 then 102 else 115
def letter (k:Int):L:=if 4<k then [cls (k - 4),91,93] else [cls k]
def TRUE:L:= [116,114,117,101]
def FALSE:L:= [102,97,108,115,101]
def vC (k n:Int):L:=if k=2 then Lib.itoa n else if k=3 then Num.fmt (u64 n) else if n=0 then FALSE else TRUE
def Fa:L->L
 | []=> []
 | c :: r=>if c=92\/c=59 then 92 :: c :: Fa r else c :: Fa r
def Qc (k n:Int):L:=vC k n ++ [59]
def textE (t:L):L:=Fa t ++ [59]
def print (v:V):L:=letter v.kind ++ [58] ++(if v.kind<4 then vC v.kind v.num else []) ++ v.text ++ v.nums.flatMap (Qc (v.kind - 4)) ++ v.texts.flatMap textE
def lC (v:V):L×Nat:=if check v=0 then (print v,0) else ([],check v)
def xw (k:Int) (s:L):Int×Nat:=
 if k=1 then (if s=TRUE then (1,0) else if s=FALSE then (0,0) else (0,220)) else
 if k=2 then Num.fQ s else
 match Num.parse s with
 | some b=>(zG b,0)
 | none=>(0,52)
def Jj:L->L->Option (L×L)
 | [],_=>none
 | c :: r,b=>if c=59 then some (b,r) else Jj r (b ++ [c])
def elem:L->L->Option (L×L)
 | [],_=>none
 | [c],b=>if c=59 then some (b, []) else none
 | c :: d :: r,b=>
  if c=59 then some (b,d :: r) else
  if c=92 then (if d=92\/d=59 then elem r (b ++ [d]) else none) else elem (d :: r) (b ++ [c])
def Fb (k:Int):Nat->L->List Int->List Int×Nat
 | 0,_,acc=>(acc,0)
 | f+1,l,acc=>
  if l= [] then (acc,0) else
  match Jj l [] with
  | none=>([],220)
  | some (s,r)=>if (xw k s).2≠0 then ([],(xw k s).2) else Fb k f r (acc ++ [(xw k s).1])
def Fe:Nat->L->List L->List L×Nat
 | 0,_,acc=>(acc,0)
 | f+1,l,acc=>
  if l= [] then (acc,0) else
  match elem l [] with
  | none=>([],220)
  | some (s,r)=>Fe f r (acc ++ [s])
def kindOf (c:UInt8):Int:=if c=98 then 1 else if c=105 then 2 else if c=102 then 3 else if c=115 then 4 else 0
def Qd:L->Option (Int×L)
 | []=>none
 | c :: r=>
  if Lib.hasPrefix r [91,93]=true then
   (if kindOf c=0\/Lib.hasPrefix (r.drop 2) [58]=false then none else some (kindOf c+4,r.drop 3))
  else
   (if kindOf c=0\/Lib.hasPrefix r [58]=false then none else some (kindOf c,r.drop 1))
def Dn (k:Int) (r:L):V×Nat:=
 if 4<k then
  (if k=8 then (⟨k,0, [], [],(Fe (r.length+1) r []).1⟩,(Fe (r.length+1) r []).2)
   else (⟨k,0, [],(Fb (k - 4) (r.length+1) r []).1, []⟩,(Fb (k - 4) (r.length+1) r []).2))
 else if k=4 then (⟨4,0,r, [], []⟩,0)
 else (⟨k,(xw k r).1, [], [], []⟩,(xw k r).2)
def parse (s:L):V×Nat:=
 match Qd s with
 | none=>(V0,220)
 | some (k,r)=>if (Dn k r).2≠0 then (V0,(Dn k r).2) else if check (Dn k r).1≠0 then (V0,check (Dn k r).1) else ((Dn k r).1,0)
theorem AV (n:Int):u64 n<18446744073709551616:=by unfold u64;omega
theorem ae1 {n:Int} (h:In64 n):zG (u64 n)=n:=by
 obtain ⟨h1,h2⟩:=h;unfold zG u64
 split<;> omega
theorem ae2 {b:Nat} (h:b<18446744073709551616):u64 (zG b)=b:=by
 unfold zG u64
 split<;> omega
theorem XO {b:Nat} (h:b<18446744073709551616):In64 (zG b):=by
 unfold zG In64
 split<;> omega
theorem ae3 {n:Int} (h:yT n=false):Num.canon (u64 n)=u64 n:=by
 unfold Num.canon
 split
 ·rename_i h1
  unfold yT at h;rw [abW h1,Bool.true_and,alN,Decidable.not_not] at h;exact h.symm
 rfl
theorem XP {k n:Int} {s:L} (hk:1<=k) (hk3:k<=3) (h:xw k s=(n,0)):vC k n=s/\In64 n:=by
 unfold xw at h;unfold vC;by_cases h2:k=2
 ·rw [ab6 (by omega),ab7 h2] at h
  rw [ab7 h2];refine ⟨Num.aeJ h, ?_⟩;have:=h;unfold Num.fQ at this;simp only at this
  unfold In64
  repeat' split at this
  all_goals first
   |(simp only [adL] at this;omega)
   |(obtain ⟨rfl,-⟩:=Prod.mk.inj this;omega)
 by_cases h3:k=3
 ·rw [ab6 (by omega),ab6 h2] at h
  rw [ab6 h2,ab7 h3];cases hp:Num.parse s with
  | none=>rw [hp] at h;simp at h
  | some b=>
   rw [hp] at h;simp only [adL,al7] at h;obtain ⟨g1,g2,-⟩:=Num.Qb hp;subst h
   exact ⟨by rw [ae2 g2,g1],XO g2⟩
 have h1:k=1:=by omega
 rw [ab7 h1] at h;rw [ab6 h2,ab6 h3]
 split at h
 ·rename_i e
  cases h;exact ⟨by rw [e];rfl,by unfold In64;omega⟩
 split at h
 ·rename_i e
  cases h;exact ⟨by rw [e];rfl,by unfold In64;omega⟩
 cases h
theorem XQ: ∀(l b x r:L),Jj l b=some (x,r)-> ∃a,x=b ++ a/\l=a ++ 59 :: r
 | [],b,x,r,h=>by cases h
 | c :: l,b,x,r,h=>by
  unfold Jj at h
  split at h
  ·rename_i hc
   cases h;exact ⟨[],by simp,by rw [hc];rfl⟩
  obtain ⟨a,e1,e2⟩:=XQ l _ x r h;exact ⟨c :: a,by rw [e1];simp,by rw [e2];rfl⟩
theorem elem_cons {c:UInt8} {l b:L} (h1:c≠59) (h2:c≠92):elem (c :: l) b=elem l (b ++ [c]):=by
 cases l with
 | nil=>simp only [elem];rw [ab6 h1]
 | cons d r=>rw [elem,ab6 h1,ab6 h2]
theorem ae4 (l b:L):elem (59 :: l) b=some (b,l):=by
 cases l with
 | nil=>simp [elem]
 | cons d r=>simp [elem]
theorem ae5 {d:UInt8} {l b:L} (h:d=92\/d=59):elem (92 :: d :: l) b=elem l (b ++ [d]):=by
 rw [elem,ab6 (by decide),ab7 rfl,ab7 h]
theorem Qe: ∀(n:Nat) (l b x r:L),l.length<=n->elem l b=some (x,r)-> ∃t,x=b ++ t/\l=Fa t ++ 59 :: r
 | _, [],b,x,r,_,h=>by cases h
 | 0,c :: l,b,x,r,hl,h=>by simp at hl
 | n+1,c :: l,b,x,r,hl,h=>by
  rw [acd] at hl;by_cases h1:c=59
  ·subst h1
   rw [ae4] at h;cases h;exact ⟨[],by simp,rfl⟩
  by_cases h2:c=92
  ·subst h2
   cases l with
   | nil=>simp [elem] at h
   | cons d l=>
    by_cases hd:d=92\/d=59
    ·rw [ae5 hd] at h
     obtain ⟨t,e1,e2⟩:=Qe n l _ x r (by rw [acd] at hl;omega) h
     exact ⟨d :: t,by rw [e1];simp,by rw [Fa,ab7 hd,e2];rfl⟩
    rw [elem,ab6 (by decide),ab7 rfl,ab6 hd] at h
    cases h
  rw [elem_cons h1 h2] at h;obtain ⟨t,e1,e2⟩:=Qe n l _ x r (by omega) h
  exact ⟨c :: t,by rw [e1];simp,by rw [Fa,ab6 (fun e=>e.elim h2 h1),e2];rfl⟩
theorem XR {k n:Int} {r:List Int} (h:jd k (n :: r)=0):eY k n=0/\jd k r=0:=by
 unfold jd at h
 split at h
 ·rename_i h1;exact absurd h h1
 rename_i h1;exact ⟨by omega,h⟩
theorem XT {k:Int} (hk:1<=k) (hk3:k<=3): ∀(f:Nat) (l:L) (acc ns:List Int),l.length<f->Fb k f l acc=(ns,0)-> ∃m,ns=acc ++ m/\l=m.flatMap (Qc k)/\ ∀n∈m,In64 n
 | 0,l,acc,ns,h,_=>by omega
 | f+1,l,acc,ns,hf,h=>by
  unfold Fb at h
  split at h
  ·rename_i hl
   cases h;exact ⟨[],by simp,by rw [hl];rfl,by simp⟩
  cases hc:Jj l [] with
  | none=>rw [hc] at h;simp at h
  | some x=>
   obtain ⟨s,r⟩:=x;rw [hc] at h;simp only at h;obtain ⟨a,e1,e2⟩:=XQ l [] s r hc
   rw [adI] at e1;subst e1
   split at h
   ·rename_i hne
    simp only [adL] at h;exact absurd h.2 hne
   rename_i hne
   obtain ⟨n,hn⟩: ∃n,xw k s=(n,0):=⟨(xw k s).1,by rw [<-Decidable.not_not.1 hne]⟩
   rw [hn] at h;obtain ⟨g1,g2⟩:=XP hk hk3 hn
   obtain ⟨m,e3,e4,e5⟩:=XT hk hk3 f r _ ns (by rw [e2] at hf;simp at hf;omega) h
   refine ⟨n :: m,by rw [e3];simp, ?_, ?_⟩
   ·rw [e2,e4,adz,Qc,g1]
    simp
   intro x hx
   rcases adK.1 hx with rfl | hx
   ·exact g2
   exact e5 x hx
theorem XU: ∀(f:Nat) (l:L) (acc ts:List L),l.length<f->Fe f l acc=(ts,0)-> ∃m,ts=acc ++ m/\l=m.flatMap textE
 | 0,l,acc,ts,h,_=>by omega
 | f+1,l,acc,ts,hf,h=>by
  unfold Fe at h
  split at h
  ·rename_i hl
   cases h;exact ⟨[],by simp,by rw [hl];rfl⟩
  cases hc:elem l [] with
  | none=>rw [hc] at h;simp at h
  | some x=>
   obtain ⟨s,r⟩:=x;rw [hc] at h;simp only at h;obtain ⟨a,e1,e2⟩:=Qe _ l [] s r (ab1 _) hc
   rw [adI] at e1;subst e1
   obtain ⟨m,e3,e4⟩:=XU f r _ ts (by rw [e2] at hf;simp at hf;omega) h
   refine ⟨s :: m,by rw [e3];simp, ?_⟩
   rw [e2,e4,adz,textE];simp
theorem XV {c:UInt8} (h:kindOf c≠0):cls (kindOf c)=c/\1<=kindOf c/\kindOf c<=4:=by
 unfold kindOf at h⊢
 repeat' split at h
 all_goals first
  |(rename_i e;subst e;decide)
  |(exfalso;exact h rfl)
  |(rename_i a b c e;subst e;decide)
  |(rename_i a e;subst e;decide)
  |(rename_i a b e;subst e;decide)
theorem Hy (l p:L):Lib.hasPrefix l p=true↔ ∃r,l=p ++ r:=by
 unfold Lib.hasPrefix;rw [amE]
 constructor
 ·rintro ⟨r,hr⟩;exact ⟨r,hr.symm⟩
 rintro ⟨r,hr⟩;exact ⟨r,hr.symm⟩
theorem ae6 {s:L} {k:Int} {r:L} (h:Qd s=some (k,r)):s=letter k ++ [58] ++ r/\1<=k/\k<=8:=by
 unfold Qd at h
 split at h
 ·cases h
 rename_i c l
 split at h
 ·rename_i hp
  split at h
  ·cases h
  rename_i hn;simp only [aol] at hn;obtain ⟨hn1,hn2⟩:=hn;obtain ⟨g1,g2,g3⟩:=XV hn1
  obtain ⟨t,rfl⟩:=(Hy _ _).1 hp;obtain ⟨u,hu⟩:=(Hy _ _).1 (by simpa using hn2)
  have hu':t=58 :: u:=hu;subst hu';simp only [ads,adL] at h;obtain ⟨rfl,rfl⟩:=h
  refine ⟨?_,by omega,by omega⟩
  unfold letter;rw [ab7 (by omega),show kindOf c+4 - 4=kindOf c by omega,g1]
  rfl
 split at h
 ·cases h
 rename_i hn;simp only [aol] at hn;obtain ⟨hn1,hn2⟩:=hn;obtain ⟨g1,g2,g3⟩:=XV hn1
 obtain ⟨u,rfl⟩:=(Hy _ _).1 (by simpa using hn2)
 simp only [ads,adL] at h;obtain ⟨rfl,rfl⟩:=h;refine ⟨?_,by omega,by omega⟩
 unfold letter;rw [ab6 (by omega),g1]
 rfl
theorem ae7 {v:V} (h:check v=0):1<=v.kind/\v.kind<=8:=by
 unfold check at h
 split at h
 ·cases h
 omega
theorem yU {v:V} (h:check v=0):1<=v.kind/\v.kind<=8/\ ¬Unused v/\v.nums.length<=40/\v.texts.length<=40/\v.text.length<=1000/\jr v.texts=false/\(if v.kind<4 then eY v.kind v.num else jd (v.kind - 4) v.nums)=0:=by
 have hr:=ae7 h;unfold check at h;rw [ab6 (by omega)] at h
 split at h
 ·cases h
 rename_i hu
 split at h
 ·cases h
 rename_i hl
 split at h
 ·cases h
 rename_i ht;simp only [aol] at ht
 exact ⟨hr.1,hr.2,hu,by omega,by omega,by omega,Bool.eq_false_iff.2 ht.2,h⟩
theorem one {s:L} {v:V} (h:parse s=(v,0)):check v=0/\print v=s/\In64 v.num/\ ∀n∈v.nums,In64 n:=by
 unfold parse at h
 split at h
 ·cases h
 rename_i k r hh;obtain ⟨hs,h1,h8⟩:=ae6 hh
 split at h
 ·rename_i hne
  simp only [adL] at h;exact absurd h.2 hne
 rename_i hz
 split at h
 ·rename_i hne
  simp only [adL] at h;exact absurd h.2 hne
 rename_i hc;simp only [adL,al7] at h;have hz':(Dn k r).2=0:=by omega
 have hc':check v=0:=by rw [<-h];omega
 refine ⟨hc', ?_⟩;clear hc hz hh;unfold Dn at h hz';rw [hs];unfold print;by_cases k4:4<k
 ·rw [ab7 k4] at h hz'
  by_cases k8:k=8
  ·rw [ab7 k8] at h hz'
   simp only at h hz'
   obtain ⟨m,e1,e2⟩:=XU (r.length+1) r [] (Fe (r.length+1) r []).1 (by omega) (by rw [<-hz'])
   rw [adI] at e1;rw [<-h];simp only;rw [e1,ab6 (by omega),<-e2]
   exact ⟨by simp,by unfold In64;omega,by simp⟩
  rw [ab6 k8] at h hz';simp only at h hz'
  obtain ⟨m,e1,e2,e3⟩:=XT (k:=k - 4) (by omega) (by omega) (r.length+1) r [] (Fb (k - 4) (r.length+1) r []).1 (by omega) (by rw [<-hz'])
  rw [adI] at e1;rw [<-h];simp only;rw [e1,ab6 (by omega),<-e2]
  exact ⟨by simp,by unfold In64;omega,e3⟩
 rw [ab6 k4] at h hz';by_cases TR:k=4
 ·rw [ab7 TR] at h
  rw [<-h];simp only;rw [ab6 (by omega),TR]
  exact ⟨by simp,by unfold In64;omega,by simp⟩
 rw [ab6 TR] at h hz';simp only at hz'
 obtain ⟨g1,g2⟩:=XP (k:=k) (n:=(xw k r).1) (s:=r) (by omega) (by omega) (by rw [<-hz'])
 rw [<-h];simp only;rw [ab7 (by omega),g1]
 exact ⟨by simp,g2,by simp⟩
end Go.Proofs.YtoofbflplhbpbaaGreatDoor.ak
namespace Go.Proofs.YtoofbflplhbpbaaGreatDoor.Lex
open Go
abbrev L:=List UInt8
def isLet (c:UInt8):Bool:=(decide (97<=c.toNat) && decide (c.toNat<=122)) ||(decide (65<=c.toNat) && decide (c.toNat<=90)) || decide (c.toNat=95)
def bV (c:UInt8):Bool:=isLet c || Num.aP c
def gW (c:UInt8):Bool:=bV c || c == 46
def blank (c:UInt8):Bool:=c == 32 || c == 9 || c == 13 || c == 10
def run (p:UInt8->Bool) (l:L):Nat:=(l.takeWhile p).length
def gap:Bool->L->Nat
 | _, []=>0
 | true,c :: r=>1+gap (c !=10) r
 | false,c :: r=>if c=47/\r.head?=some 47 then 1+gap true r else if blank c then 1+gap false r else 0
structure Tok where
 kind:Nat
 text:L
 num:Int
 pos:Nat
inductive jQ where
 | tok (kind:Nat) (text:L) (num:Int) (len:Nat)
 | err (off:Nat) (e:Nat)
def int64 (b:Nat):Int:=if b<9223372036854775808 then (b:Int) else (b:Int) - 18446744073709551616
def yV (w:L):L:=if w.head?=some 45 then w.drop 1 else w
def nH (w:L):jQ:=
 if Lib.hasPrefix (yV w) [48,120]=true then
  match Num.parse w with
  | some b=> .tok 3 [] (int64 b) w.length
  | none=> .err 0 52
 else if (Num.fQ w).2=0 then .tok 2 [] (Num.fQ w).1 w.length else .err 0 (Num.fQ w).2
def esc:L->Option (UInt8×Nat)
 | []=>none
 | c :: r=>
  if c=92\/c=39 then some (c,1) else
  if c=110 then some (10,1) else
  if c=114 then some (13,1) else
  if c=116 then some (9,1) else
  if c=120 then
   match r with
   | a :: b :: _=>
    match Num.gB a,Num.gB b with
    | some x,some y=>some (UInt8.ofNat (x*16+y),3)
    | _,_=>none
   | _=>none
  else none
def odd (c:UInt8):Bool:=decide (c.toNat<32) || decide (126<c.toNat)
def dM:Nat->L->Nat->L->jQ
 | 0,_,_,_=> .err 0 241
 | _+1, [],_,_=> .err 0 241
 | k+1,c :: r,o,b=>
  if c=39 then .tok 4 b 0 (o+1) else
  if odd c=true then .err o 240 else
  if c=92 then
   match esc r with
   | none=> .err o 242
   | some (x,n)=>dM k (r.drop n) (o+1+n) (b ++ [x])
  else dM k r (o+1) (b ++ [c])
def MARKS:L:= [40,41,123,125,91,93,58,44,59,45]
def tok1:L->jQ
 | []=> .err 0 0
 | c :: r=>
  if c=39 then dM (r.length+1) r 1 [] else
  if isLet c=true then .tok 1 ((c :: r).take (run bV (c :: r))) 0 (run bV (c :: r)) else
  if Num.aP c=true\/(c=45/\r.head?.any Num.aP=true) then nH ((c :: r).take (1+run gW r)) else
  if c=45/\r.head?=some 62 then .tok 5 [45,62] 0 2 else
  if c∈MARKS then .tok 5 [c] 0 1 else .err 0 240
def scan:Nat->L->Nat->List Tok×Option (Nat×Nat)
 | 0,_,_=>([],none)
 | _+1, [],_=>([],none)
 | k+1,c :: r,i=>
  match tok1 (c :: r) with
  | .err o e=>([],some (i+o,e))
  | .tok kd tx nm n=>
   ((⟨kd,tx,nm,i⟩:Tok) ::(scan k ((c :: r).drop (n+gap false ((c :: r).drop n))) (i+n+gap false ((c :: r).drop n))).1,
    (scan k ((c :: r).drop (n+gap false ((c :: r).drop n))) (i+n+gap false ((c :: r).drop n))).2)
def body (l:L) (i:Nat):List Tok×Option (Nat×Nat):=scan (l.length+1) (l.drop (gap false l)) (i+gap false l)
def read (s:L):List Tok×Option (Nat×Nat):=if 16777216<s.length then ([],some (0,1)) else body s 0
theorem Fg (p:UInt8->Bool) (l:L):run p l<=l.length:=by
 unfold run;exact (List.takeWhile_prefix p).length_le
theorem yX {p:UInt8->Bool} {c:UInt8} (r:L) (h:p c=true):run p (c :: r)=1+run p r:=by
 unfold run;rw [List.takeWhile_cons,ab7 h,acd,ali]
theorem Hz {p:UInt8->Bool} {c:UInt8} (r:L) (h:p c=false):run p (c :: r)=0:=by
 unfold run;rw [List.takeWhile_cons,ab6 (by rw [h];decide)]
 rfl
theorem Ia: ∀(b:Bool) (l:L),gap b l<=l.length
 | _, []=>by simp [gap]
 | true,c :: r=>by
  have:=Ia (c !=10) r;simp only [gap,acd];omega
 | false,c :: r=>by
  have h1:=Ia true r;have h2:=Ia false r;simp only [gap,acd]
  split
  ·omega
  split<;> omega
theorem LX {r:L} {x:UInt8} {n:Nat} (h:esc r=some (x,n)):1<=n/\n<=r.length:=by
 unfold esc at h
 split at h
 ·cases h
 rename_i c r;rw [acd]
 repeat' split at h
 all_goals first
  |(cases h;done)
  |(simp only [ads,adL] at h;obtain ⟨rfl,rfl⟩:=h;(try simp only [acd]);omega)
theorem Qg: ∀(k:Nat) (r:L) (o:Nat) (b:L) {kd:Nat} {tx:L} {nm:Int} {n:Nat},dM k r o b= .tok kd tx nm n->o+1<=n/\n<=o+r.length
 | 0,r,o,b,kd,tx,nm,n,h=>by simp [dM] at h
 | k+1, [],o,b,kd,tx,nm,n,h=>by simp [dM] at h
 | k+1,c :: r,o,b,kd,tx,nm,n,h=>by
  simp only [dM] at h;rw [acd]
  split at h
  ·simp only [jQ.tok.injEq] at h;omega
  split at h
  ·cases h
  split at h
  ·cases he:esc r with
   | none=>rw [he] at h;cases h
   | some x=>
    obtain ⟨x,m⟩:=x;rw [he] at h;simp only at h;obtain ⟨h1,h2⟩:=LX he;have:=Qg k _ _ _ h
    rw [acM] at this;omega
  have:=Qg k _ _ _ h;omega
theorem ae8 {w:L} {kd:Nat} {tx:L} {nm:Int} {n:Nat} (h:nH w= .tok kd tx nm n):n=w.length:=by
 unfold nH at h
 split at h
 ·split at h
  ·simp only [jQ.tok.injEq] at h;omega
  cases h
 split at h
 ·simp only [jQ.tok.injEq] at h;omega
 cases h
theorem Ib {l:L} {kd:Nat} {tx:L} {nm:Int} {n:Nat} (h:tok1 l= .tok kd tx nm n):1<=n/\n<=l.length:=by
 cases l with
 | nil=>simp [tok1] at h
 | cons c r=>
  simp only [tok1] at h
  split at h
  ·have:=Qg _ _ _ _ h
   rw [acd];omega
  split at h
  ·rename_i h1
   simp only [jQ.tok.injEq] at h;have h2:=Fg bV (c :: r)
   have h3:=yX (p:=bV) r (c:=c) (by unfold bV;rw [h1];rfl)
   omega
  split at h
  ·have h1:=ae8 h
   have h2:=Fg gW r;rw [acW,acd] at h1;rw [acd];omega
  split at h
  ·rename_i h1
   simp only [jQ.tok.injEq] at h
   have:1<=r.length:=by
    cases r with
    | nil=>simp at h1
    | cons d r=>simp
   rw [acd];omega
  split at h
  ·simp only [jQ.tok.injEq] at h
   rw [acd];omega
  cases h
theorem LZ (k i:Nat):scan k [] i=([],none):=by cases k<;> rfl
theorem yY {k:Nat} {l:L} {i kd:Nat} {tx:L} {nm:Int} {n g:Nat} (h:tok1 l= .tok kd tx nm n) (hg:gap false (l.drop n)=g):
  scan (k+1) l i=((⟨kd,tx,nm,i⟩:Tok) ::(scan k (l.drop (n+g)) (i+n+g)).1,(scan k (l.drop (n+g)) (i+n+g)).2):=by
 cases l with
 | nil=>simp [tok1] at h
 | cons c r=>
  simp only [scan];rw [h];simp only [hg]
theorem AX {k:Nat} {l:L} {i o e:Nat} (hl:l≠ []) (h:tok1 l= .err o e):scan (k+1) l i=([],some (i+o,e)):=by
 cases l with
 | nil=>exact absurd rfl hl
 | cons c r=>
  simp only [scan];rw [h]
theorem Qh: ∀(k m:Nat) (l:L) (i:Nat),l.length<k->l.length<m->scan k l i=scan m l i
 | 0,_,_,_,h,_=>by omega
 | _,0,_,_,_,h=>by omega
 | k+1,m+1, [],i,_,_=>by rw [LZ,LZ]
 | k+1,m+1,c :: r,i,h1,h2=>by
  cases ht:tok1 (c :: r) with
  | err o e=>rw [AX (by simp) ht,AX (by simp) ht]
  | tok kd tx nm n=>
   obtain ⟨t1,t2⟩:=Ib ht;rw [yY ht rfl,yY ht rfl]
   have e:=Qh k m ((c :: r).drop (n+gap false ((c :: r).drop n))) (i+n+gap false ((c :: r).drop n)) (by rw [acM];omega) (by rw [acM];omega)
   rw [e]
theorem ae9 {l:L} (i:Nat) (h:l.drop (gap false l)= []):body l i=([],none):=by
 unfold body;rw [h,LZ]
theorem afa {l l':L} {i kd:Nat} {tx:L} {nm:Int} {n:Nat} (h:l.drop (gap false l)=l') (ht:tok1 l'= .tok kd tx nm n):
  body l i=((⟨kd,tx,nm,i+gap false l⟩:Tok) ::(body (l'.drop n) (i+gap false l+n)).1,(body (l'.drop n) (i+gap false l+n)).2):=by
 obtain ⟨t1,t2⟩:=Ib ht;unfold body;rw [h,yY ht rfl]
 have hl:l'.length<=l.length:=by rw [<-h,acM];omega
 have e:scan l.length (l'.drop (n+gap false (l'.drop n))) (i+gap false l+n+gap false (l'.drop n))=scan ((l'.drop n).length+1) ((l'.drop n).drop (gap false (l'.drop n))) (i+gap false l+n+gap false (l'.drop n)):=by
  rw [alW];exact Qh _ _ _ _ (by rw [acM];omega) (by rw [acM,acM];omega)
 rw [e]
theorem Qi: ∀(k:Nat) (r:L) (o:Nat) (b:L) {p e:Nat},dM k r o b= .err p e->e≠0/\p<=o+r.length
 | 0,r,o,b,p,e,h=>by simp only [dM,jQ.err.injEq] at h;omega
 | k+1, [],o,b,p,e,h=>by simp only [dM,jQ.err.injEq] at h;omega
 | k+1,c :: r,o,b,p,e,h=>by
  simp only [dM] at h;rw [acd]
  split at h
  ·cases h
  split at h
  ·simp only [jQ.err.injEq] at h;omega
  split at h
  ·cases he:esc r with
   | none=>rw [he] at h;simp only [jQ.err.injEq] at h;omega
   | some x=>
    obtain ⟨x,m⟩:=x;rw [he] at h;simp only at h;obtain ⟨h1,h2⟩:=LX he;have:=Qi k _ _ _ h
    rw [acM] at this;omega
  have:=Qi k _ _ _ h;omega
theorem Qj {l:L} {o e:Nat} (hl:l≠ []) (h:tok1 l= .err o e):e≠0/\o<=l.length:=by
 cases l with
 | nil=>exact absurd rfl hl
 | cons c r=>
  simp only [tok1] at h;rw [acd]
  split at h
  ·have:=Qi _ _ _ _ h
   omega
  split at h
  ·cases h
  split at h
  ·unfold nH at h
   split at h
   ·split at h
    ·cases h
    simp only [jQ.err.injEq] at h;omega
   split at h
   ·cases h
   simp only [jQ.err.injEq] at h;omega
  split at h
  ·cases h
  split at h
  ·cases h
  simp only [jQ.err.injEq] at h;omega
theorem afb {r:L} {x:UInt8} {n:Nat} (z:L) (h:esc r=some (x,n)):esc (r ++ z)=some (x,n):=by
 cases r with
 | nil=>cases h
 | cons c r=>
  rw [adV];simp only [esc] at h⊢
  split at h
  ·rename_i h1;rw [ab7 h1];exact h
  rename_i h1;rw [ab6 h1]
  split at h
  ·rename_i h2;rw [ab7 h2];exact h
  rename_i h2;rw [ab6 h2]
  split at h
  ·rename_i h3;rw [ab7 h3];exact h
  rename_i h3;rw [ab6 h3]
  split at h
  ·rename_i h4;rw [ab7 h4];exact h
  rename_i h4;rw [ab6 h4]
  split at h
  ·rename_i h5
   rw [ab7 h5]
   match r,h with
   | a :: b :: r,h=>exact h
  cases h
theorem Qk (z:L): ∀(k m:Nat) (r:L) (o:Nat) (b:L) {kd:Nat} {tx:L} {nm:Int} {n:Nat},dM k r o b= .tok kd tx nm n->k<=m->dM m (r ++ z) o b= .tok kd tx nm n
 | 0,_,_,_,_,_,_,_,_,h,_=>by simp [dM] at h
 | _+1,0,_,_,_,_,_,_,_,_,h=>by omega
 | _+1,_+1, [],_,_,_,_,_,_,h,_=>by simp [dM] at h
 | k+1,m+1,c :: r,o,b,kd,tx,nm,n,h,hk=>by
  rw [adV];simp only [dM] at h⊢
  split at h
  ·rename_i h1;rw [ab7 h1];exact h
  rename_i h1;rw [ab6 h1]
  split at h
  ·cases h
  rename_i h2;rw [ab6 h2]
  split at h
  ·rename_i h3
   rw [ab7 h3];cases he:esc r with
   | none=>rw [he] at h;cases h
   | some x=>
    obtain ⟨x,j⟩:=x;rw [he] at h;rw [afb z he];simp only at h⊢;obtain ⟨e1,e2⟩:=LX he
    have:=Qk z k m _ _ _ h (by omega)
    rw [anM e2];exact this
  rename_i h3;rw [ab6 h3];exact Qk z k m _ _ _ h (by omega)
def q1 (c:UInt8):L:=
 if c=10 then [92,110] else
 if c=13 then [92,114] else
 if c=9 then [92,116] else
 if odd c=true then [92,120,Num.eX (c.toNat / 16),Num.eX (c.toNat % 16)] else
 if c=39\/c=92 then [92,c] else [c]
def quote (s:L):L:=39 ::(s.flatMap q1 ++ [39])
theorem L6 (c:UInt8):1<=(q1 c).length/\(q1 c).length<=4:=by
 unfold q1
 repeat' split
 all_goals simp
theorem Ql (s:L):(quote s).length<=4*s.length+2:=by
 unfold quote;rw [acd,dA,adX]
 have: ∀s:L,(s.flatMap q1).length<=4*s.length:=by
  intro s
  induction s with
  | nil=>simp
  | cons c r ih=>
   rw [adz,dA,acd];have:=L6 c;omega
 have:=this s;omega
theorem afc:odd 92=false:=by decide
theorem XW {k:Nat} {c:UInt8} {r:L} {o:Nat} {b:L} (h1:c≠39) (h2:odd c=false) (h3:c≠92):dM (k+1) (c :: r) o b=dM k r (o+1) (b ++ [c]):=by
 simp only [dM];rw [ab6 h1,ab6 (by rw [h2];decide),ab6 h3]
theorem Ic {k:Nat} {r:L} {o n:Nat} {x:UInt8} {b:L} (h:esc r=some (x,n)):dM (k+1) (92 :: r) o b=dM k (r.drop n) (o+1+n) (b ++ [x]):=by
 simp only [dM];rw [ab6 (by decide),ab6 (by rw [afc];decide),alQ,h]
theorem XY {d:Nat} (h:d<16):Num.gB (Num.eX d)=some d:=Num.Xy ⟨d,h⟩
theorem afd (c:UInt8) (z:L) (k o:Nat) (b:L):dM (k+1) (q1 c ++ z) o b=dM k z (o+(q1 c).length) (b ++ [c]):=by
 unfold q1;by_cases h1:c=10
 ·subst h1;rw [ab7 rfl];exact Ic (r:=110 :: z) (n:=1) rfl
 rw [ab6 h1];by_cases h2:c=13
 ·subst h2;rw [ab7 rfl];exact Ic (r:=114 :: z) (n:=1) rfl
 rw [ab6 h2];by_cases h3:c=9
 ·subst h3;rw [ab7 rfl];exact Ic (r:=116 :: z) (n:=1) rfl
 rw [ab6 h3];by_cases h4:odd c=true
 ·rw [ab7 h4]
  have hc:=aeE c
  have he:esc (120 :: Num.eX (c.toNat / 16) :: Num.eX (c.toNat % 16) :: z)=some (c,3):=by
   simp only [esc]
   rw [ab6 (by decide),ab6 (by decide),ab6 (by decide),ab6 (by decide),alQ,XY (by omega),XY (by omega)]
   simp only [ads,adL,al7];rw [show c.toNat / 16*16+c.toNat % 16=c.toNat by omega]
   simp
  exact Ic he
 rw [ab6 h4]
 have h4':odd c=false:=by cases h:odd c with
  | false=>rfl
  | true=>exact absurd h h4
 by_cases h5:c=39\/c=92
 ·rw [ab7 h5]
  have he:esc (c :: z)=some (c,1):=by
   simp only [esc];rw [ab7 h5.symm]
  exact Ic he
 rw [ab6 h5];exact XW (fun h=>h5 (.inl h)) h4' (fun h=>h5 (.inr h))
theorem XZ: ∀(s:L) (k o:Nat) (b:L),s.length<k->dM k (s.flatMap q1 ++ [39]) o b= .tok 4 (b ++ s) 0 (o+(s.flatMap q1).length+1)
 | _,0,_,_,h=>by omega
 | [],k+1,o,b,_=>by simp [dM]
 | c :: r,k+1,o,b,h=>by
  rw [adz,acF,afd,XZ r k _ _ (by rw [acd] at h;omega),dA]
  simp only [acF,alY]
  congr 1
  omega
theorem afe (s:L):s.length<=(s.flatMap q1).length:=by
 induction s with
 | nil=>simp
 | cons c r ih=>
  rw [adz,dA,acd];have:=L6 c;omega
end Go.Proofs.YtoofbflplhbpbaaGreatDoor.Lex
