/- Lemmas. -/
import Derived.Test.YtdijgcnlbfgkdaaGreatDoorUP01
import Derived.Shelf.Strings.Builder1
import Derived.Shelf.Strings.Builder2
import Derived.Shelf.Strings.OnBuilder
import Derived.Shelf.Strings.Trim
import Derived.Shelf.Small.Utf8
import Derived.Shelf.Small.Bits
import Derived.Shelf.Small.Strs
import Derived.Shelf.Small.Wraps
import Derived.Shelf.Strings.BuilderF
import Derived.Shelf.Strings.BuilderK
import Derived.Shelf.Strconv.Atoi
import Derived.Shelf.Strconv.Itoa0
import Derived.Shelf.Strconv.Itoa1
import Derived.Shelf.LaysM
import Derived.Shelf.Strconv.Itoa2
import Derived.Shelf.Strconv.Itoa3
import Derived.Shelf.Strconv.Itoa4
import Derived.Shelf.Strconv.AtoiErrFast
import Derived.Shelf.Strconv.ParseIntEmpty
import Derived.Shelf.Strconv.AtoiFail
import Derived.Shelf.Strconv.Clone
import Derived.Shelf.Strconv.SyntaxError
import Derived.Shelf.LaysC
import Derived.Shelf.Strconv.ToError
import Derived.Shelf.Strconv.AtoiErr
import Derived.Shelf.Strconv.Lower
import Derived.Shelf.Strconv.ParseUint10
import Derived.Shelf.Strconv.ParseUint10Empty
import Derived.Shelf.Strconv.ParseUint10Any
import Derived.Shelf.Strconv.ParseInt10
import Derived.Shelf.Strconv.AtoiLong
import Derived.Shelf.Strconv.AtoiInnerAll
import Derived.Shelf.Strconv.RangeError
import Derived.Shelf.Strconv.ToErrorRange
import Derived.Shelf.Strconv.AtoiAll
import Derived.Shelf.Strconv.ErrVarAll
import Derived.Shelf.Strconv.ParseUintEmpty
import Derived.Shelf.Strconv.ParseUint10b64
import Derived.Shelf.Strconv.ParseUint10b32
import Derived.Shelf.Strconv.ParseUint10b16
import Derived.Shelf.Strconv.ParseUint10b8
import Derived.Shelf.Strconv.ParseUint10At
import Derived.Shelf.Strconv.ParseInt10At64
import Derived.Shelf.Strconv.ParseInt10At32
import Derived.Shelf.Strconv.ParseInt10At16
import Derived.Shelf.Strconv.ParseInt10At8
import Derived.Shelf.Strconv.ParseInt10All
import Derived.Shelf.Strconv.ParseIntPublic10
import Derived.Shelf.Strconv.ErrVarParseInt
import Derived.Shelf.Strings.Search1
import Derived.Shelf.Strings.Search2
import Derived.Shelf.Strings.Search3
import Derived.Shelf.Strings.Shaped
import Derived.Shelf.Sort.Plain
import Derived.Shelf.Strings.Prefix
import Derived.Shelf.Unicode.Decode
import Derived.Shelf.Strings.Runes
import Derived.Shelf.Strings.IndexAny
import Derived.Shelf.Strings.AsciiSet
import Derived.Shelf.Strings.IndexAnyAll
import Derived.Shelf.Unicode.DecodeSlow
import Derived.Ground.Names2Prog
import Derived.Shelf.Slices.Clone
import Derived.Shelf.Slices.SearchI
import Derived.Shelf.Slices.In.SortNone
import Derived.Ground.SlgnProg
import Derived.Shelf.SlicesE.Clone
import Derived.Test.YtdijgcnlbfgkdaaGreatDoorProg
import Derived.Test.YtdijgcnlbfgkdaaGreatDoorRows
import Derived.WalkKit
import Derived.WalkSpells
import Derived.WalkLawsBesides
import Derived.Lib.Hide
import Derived.IntWalk
import Derived.Deep.LoopGhost
import Derived.Deep.Cut
import Derived.OwnWalk
import Derived.Lib.SmallJoins
import Derived.Laws.Bits64b
import Derived.Outline
set_option maxHeartbeats 64000000
set_option maxRecDepth 1000000
set_option linter.all false
namespace Go.Proofs.YtdijgcnlbfgkdaaGreatDoor.au
open Go Go.Proofs.Tryz
abbrev L:=List UInt8
structure V where
 kind:Int
 num:Int
 text:L
 nums:List Int
 texts:List L
def u64 (n:Int):Nat:=(n % 18446744073709551616).toNat
def s64 (b:Nat):Int:=if b<9223372036854775808 then(b:Int) else(b:Int) - 18446744073709551616
def In64 (n:Int):Prop:= -9223372036854775808<=n/\n<=9223372036854775807
def KD (n:Int):Bool:=decide (9218868437227405312<u64 n % 9223372036854775808) && decide (u64 n≠9221120237041090560)
def kT (k n:Int):Nat:=if k=1/\n≠0/\n≠1 then 42 else if k=3/\KD n=true then 43 else 0
def uo (k:Int):List Int->Nat
 |[]=>0
 |n :: r=>if kT k n≠0 then kT k n else uo k r
def oZ (l:List L):Bool:=l.any fun s=>decide (1000<s.length)
def Unused (v:V):Prop:=(v.num≠0/\3<v.kind)\/(v.text≠ []/\v.kind≠4)\/(v.nums≠ []/\(v.kind<5\/v.kind=8))\/(v.texts≠ []/\v.kind≠8)
instance (v:V):Decidable (Unused v):=by unfold Unused;infer_instance
def check (v:V):Nat:=
 if v.kind<1\/8<v.kind then 40 else
 if Unused v then 41 else
 if 40<v.nums.length\/40<v.texts.length then 45 else
 if 1000<v.text.length\/oZ v.texts=true then 44 else
 if v.kind<4 then kT v.kind v.num else uo (v.kind - 4) v.nums
def cls (k:Int):UInt8:=if k=1 then 98 else if k=2 then 105 else if k=3 then 102 else 115
def letter (k:Int):L:=if 4<k then[cls (k - 4),91,93] else[cls k]
def TRUE:L:=[116,114,117,101]
def FALSE:L:=[102,97,108,115,101]
def kindOf (c:UInt8):Int:=if c=98 then 1 else if c=105 then 2 else if c=102 then 3 else if c=115 then 4 else 0
def aav:L->Option (Int×L)
 |[]=>none
 |c :: r=>
  if Lib.hasPrefix r [91,93]=true then
   (if kindOf c=0\/Lib.hasPrefix (r.drop 2) [58]=false then none else some (kindOf c+4,r.drop 3))
  else
   (if kindOf c=0\/Lib.hasPrefix r [58]=false then none else some (kindOf c,r.drop 1))
def KE (n:Int):u64 n<18446744073709551616:=by unfold u64;omega
def ahY {b:Nat} (h:b<18446744073709551616):In64 (s64 b):=by
 unfold s64 In64
 split<;>omega
def aaw {c:UInt8} (h:kindOf c≠0):cls (kindOf c)=c/\1<=kindOf c/\kindOf c<=4:=by
 unfold kindOf at h⊢
 repeat' split at h
 all_goals first
  |(rename_i e;subst e;decide)
  |(exfalso;exact h rfl)
  |(rename_i a b c e;subst e;decide)
  |(rename_i a e;subst e;decide)
  |(rename_i a b e;subst e;decide)
def TW (l p:L):Lib.hasPrefix l p=true↔ ∃r,l=p++r:=by
 unfold Lib.hasPrefix;rw[aos]
 constructor
 ·rintro⟨r,hr⟩;exact⟨r,hr.symm⟩
 rintro⟨r,hr⟩;exact⟨r,hr.symm⟩
def aqB {s:L} {k:Int} {r:L} (h:aav s=some (k,r)):s=letter k++[58]++r/\1<=k/\k<=8:=by
 unfold aav at h
 split at h
 ·cases h
 rename_i c l
 split at h
 ·rename_i hp
  split at h
  ·cases h
  rename_i hn;simp only[aq2]at hn;obtain⟨hn1,hn2⟩:=hn;obtain⟨g1,g2,g3⟩:=aaw hn1;obtain⟨t,rfl⟩:=(TW _ _).1 hp;obtain⟨u,hu⟩:=(TW _ _).1 (by simpa using hn2)
  have hu':t=58 :: u:=hu;subst hu';simp only[afs,anM]at h;obtain⟨rfl,rfl⟩:=h;refine⟨?_,by omega,by omega⟩
  unfold letter;rw[aeu (by omega),show kindOf c+4 - 4=kindOf c by omega,g1]
  rfl
 split at h
 ·cases h
 rename_i hn;simp only[aq2]at hn;obtain⟨hn1,hn2⟩:=hn;obtain⟨g1,g2,g3⟩:=aaw hn1;obtain⟨u,rfl⟩:=(TW _ _).1 (by simpa using hn2)
 simp only[afs,anM]at h;obtain⟨rfl,rfl⟩:=h;refine⟨?_,by omega,by omega⟩
 unfold letter;rw[aer (by omega),g1]
 rfl
def ahZ {v:V} (h:check v=0):1<=v.kind/\v.kind<=8:=by
 unfold check at h
 split at h
 ·cases h
 omega
def TY {v:V} (h:check v=0):1<=v.kind/\v.kind<=8/\ ¬Unused v/\v.nums.length<=40/\v.texts.length<=40/\v.text.length<=1000/\oZ v.texts=false/\(if v.kind<4 then kT v.kind v.num else uo (v.kind - 4) v.nums)=0:=by
 have hr:=ahZ h;unfold check at h;rw[aer (by omega)]at h
 split at h
 ·cases h
 rename_i hu
 split at h
 ·cases h
 rename_i hl
 split at h
 ·cases h
 rename_i ht;simp only[aq2]at ht;exact⟨hr.1,hr.2,hu,by omega,by omega,by omega,apA.2 ht.2,h⟩
end Go.Proofs.YtdijgcnlbfgkdaaGreatDoor.au
namespace Go.Proofs.YtdijgcnlbfgkdaaGreatDoor.Lex
open Go Go.Proofs.Tryz
abbrev L:=List UInt8
def isLet (c:UInt8):Bool:=(decide (97<=c.toNat) && decide (c.toNat<=122)) ||(decide (65<=c.toNat) && decide (c.toNat<=90)) || decide (c.toNat=95)
def dh (c:UInt8):Bool:=isLet c || Num.aJ c
def iY (c:UInt8):Bool:=dh c || c == 46
def blank (c:UInt8):Bool:=c == 32 || c == 9 || c == 13 || c == 10
def run (p:UInt8->Bool) (l:L):Nat:=(l.takeWhile p).length
def gap:Bool->L->Nat
 |_,[]=>0
 |true,c :: r=>1+gap (c !=10) r
 |false,c :: r=>if c=47/\r.head?=some 47 then 1+gap true r else if blank c then 1+gap false r else 0
structure Tok where
 kind:Nat
 text:L
 num:Int
 pos:Nat
inductive iG where
 |tok (kind:Nat) (text:L) (num:Int) (len:Nat)
 |err (off:Nat) (e:Nat)
def int64 (b:Nat):Int:=if b<9223372036854775808 then(b:Int) else(b:Int) - 18446744073709551616
def Dv (w:L):L:=if w.head?=some 45 then w.drop 1 else w
def nY (w:L):iG:=
 if Lib.hasPrefix (Dv w) [48,120]=true then
  match Num.parse w with
  |some b=> .tok 3 [] (int64 b) w.length
  |none=> .err 0 52
 else if(Num.dM w).2=0 then .tok 2 [] (Num.dM w).1 w.length else .err 0 (Num.dM w).2
def esc:L->Option (UInt8×Nat)
 |[]=>none
 |c :: r=>
  if c=92\/c=39 then some (c,1) else
  if c=110 then some (10,1) else
  if c=114 then some (13,1) else
  if c=116 then some (9,1) else
  if c=120 then
   match r with
   |a :: b :: _=>
    match Num.fC a,Num.fC b with
    |some x,some y=>some (UInt8.ofNat (x*16+y),3)
    |_,_=>none
   |_=>none
  else none
def odd (c:UInt8):Bool:=decide (c.toNat<32) || decide (126<c.toNat)
def fG:Nat->L->Nat->L->iG
 |0,_,_,_=> .err 0 241
 |_+1,[],_,_=> .err 0 241
 |k+1,c :: r,o,b=>
  if c=39 then .tok 4 b 0 (o+1) else
  if odd c=true then .err o 240 else
  if c=92 then
   match esc r with
   |none=> .err o 242
   |some (x,n)=>fG k (r.drop n) (o+1+n) (b++[x])
  else fG k r (o+1) (b++[c])
def MARKS:L:=[40,41,123,125,91,93,58,44,59,45]
def tok1:L->iG
 |[]=> .err 0 0
 |c :: r=>
  if c=39 then fG (r.length+1) r 1 [] else
  if isLet c=true then .tok 1 ((c :: r).take (run dh (c :: r))) 0 (run dh (c :: r)) else
  if Num.aJ c=true\/(c=45/\r.head?.any Num.aJ=true) then nY ((c :: r).take (1+run iY r)) else
  if c=45/\r.head?=some 62 then .tok 5 [45,62] 0 2 else
  if c∈MARKS then .tok 5 [c] 0 1 else .err 0 240
def scan:Nat->L->Nat->List Tok×Option (Nat×Nat)
 |0,_,_=>([],none)
 |_+1,[],_=>([],none)
 |k+1,c :: r,i=>
  match tok1 (c :: r) with
  |.err o e=>([],some (i+o,e))
  |.tok kd tx nm n=>
   ((⟨kd,tx,nm,i⟩:Tok) ::(scan k ((c :: r).drop (n+gap false ((c :: r).drop n))) (i+n+gap false ((c :: r).drop n))).1,
    (scan k ((c :: r).drop (n+gap false ((c :: r).drop n))) (i+n+gap false ((c :: r).drop n))).2)
def body (l:L) (i:Nat):List Tok×Option (Nat×Nat):=scan (l.length+1) (l.drop (gap false l)) (i+gap false l)
def read (s:L):List Tok×Option (Nat×Nat):=if 16777216<s.length then([],some (0,1)) else body s 0
def Dw (p:UInt8->Bool) (l:L):run p l<=l.length:=by
 unfold run;exact(List.takeWhile_prefix p).length_le
def Dx {p:UInt8->Bool} {c:UInt8} (r:L) (h:p c=true):run p (c :: r)=1+run p r:=by
 unfold run;rw[List.takeWhile_cons,aeu h,ae7,an8]
def Pq {p:UInt8->Bool} {c:UInt8} (r:L) (h:p c=false):run p (c :: r)=0:=by
 unfold run;rw[List.takeWhile_cons,aer (by rw[h];decide)]
 rfl
def Fz: ∀(b:Bool) (l:L),gap b l<=l.length
 |_,[]=>by simp[gap]
 |true,c :: r=>by
  have:=Fz (c !=10) r;simp only[gap,ae7];omega
 |false,c :: r=>by
  have h1:=Fz true r;have h2:=Fz false r;simp only[gap,ae7]
  split
  ·omega
  split<;>omega
def Pv {r:L} {x:UInt8} {n:Nat} (h:esc r=some (x,n)):1<=n/\n<=r.length:=by
 unfold esc at h
 split at h
 ·cases h
 rename_i c r;rw[ae7]
 repeat' split at h
 all_goals first
  |(cases h;done)
  |(simp only[afs,anM]at h;obtain⟨rfl,rfl⟩:=h;(try simp only[ae7]);omega)
def Ua: ∀(k:Nat) (r:L) (o:Nat) (b:L) {kd:Nat} {tx:L} {nm:Int} {n:Nat},fG k r o b=.tok kd tx nm n->o+1<=n/\n<=o+r.length
 |0,r,o,b,kd,tx,nm,n,h=>by simp[fG]at h
 |k+1,[],o,b,kd,tx,nm,n,h=>by simp[fG]at h
 |k+1,c :: r,o,b,kd,tx,nm,n,h=>by
  simp only[fG]at h;rw[ae7]
  split at h
  ·simp only[iG.tok.injEq]at h;omega
  split at h
  ·cases h
  split at h
  ·cases he:esc r with
   |none=>rw[he]at h;cases h
   |some x=>
    obtain⟨x,m⟩:=x;rw[he]at h;simp only at h;obtain⟨h1,h2⟩:=Pv he;have:=Ua k _ _ _ h;rw[ae1]at this;omega
  have:=Ua k _ _ _ h;omega
def ah0 {w:L} {kd:Nat} {tx:L} {nm:Int} {n:Nat} (h:nY w=.tok kd tx nm n):n=w.length:=by
 unfold nY at h
 split at h
 ·split at h
  ·simp only[iG.tok.injEq]at h;omega
  cases h
 split at h
 ·simp only[iG.tok.injEq]at h;omega
 cases h
def Px {l:L} {kd:Nat} {tx:L} {nm:Int} {n:Nat} (h:tok1 l=.tok kd tx nm n):1<=n/\n<=l.length:=by
 cases l with
 |nil=>simp[tok1]at h
 |cons c r=>
  simp only[tok1]at h
  split at h
  ·have:=Ua _ _ _ _ h
   rw[ae7];omega
  split at h
  ·rename_i h1
   simp only[iG.tok.injEq]at h;have h2:=Dw dh (c :: r);have h3:=Dx (p:=dh) r (c:=c) (by unfold dh;rw[h1];rfl)
   omega
  split at h
  ·have h1:=ah0 h
   have h2:=Dw iY r;rw[afo,ae7]at h1;rw[ae7];omega
  split at h
  ·rename_i h1
   simp only[iG.tok.injEq]at h
   have:1<=r.length:=by
    cases r with
    |nil=>simp at h1
    |cons d r=>simp
   rw[ae7];omega
  split at h
  ·simp only[iG.tok.injEq]at h
   rw[ae7];omega
  cases h
def aax (k i:Nat):scan k [] i=([],none):=by cases k<;>rfl
def FB {k:Nat} {l:L} {i kd:Nat} {tx:L} {nm:Int} {n g:Nat} (h:tok1 l=.tok kd tx nm n) (hg:gap false (l.drop n)=g):
  scan (k+1) l i=((⟨kd,tx,nm,i⟩:Tok) ::(scan k (l.drop (n+g)) (i+n+g)).1,(scan k (l.drop (n+g)) (i+n+g)).2):=by
 cases l with
 |nil=>simp[tok1]at h
 |cons c r=>
  simp only[scan];rw[h];simp only[hg]
def FC {k:Nat} {l:L} {i o e:Nat} (hl:l≠ []) (h:tok1 l=.err o e):scan (k+1) l i=([],some (i+o,e)):=by
 cases l with
 |nil=>exact absurd rfl hl
 |cons c r=>
  simp only[scan];rw[h]
def Ub: ∀(k:Nat) (r:L) (o:Nat) (b:L) {p e:Nat},fG k r o b=.err p e->e≠0/\p<=o+r.length
 |0,r,o,b,p,e,h=>by simp only[fG,iG.err.injEq]at h;omega
 |k+1,[],o,b,p,e,h=>by simp only[fG,iG.err.injEq]at h;omega
 |k+1,c :: r,o,b,p,e,h=>by
  simp only[fG]at h;rw[ae7]
  split at h
  ·cases h
  split at h
  ·simp only[iG.err.injEq]at h;omega
  split at h
  ·cases he:esc r with
   |none=>rw[he]at h;simp only[iG.err.injEq]at h;omega
   |some x=>
    obtain⟨x,m⟩:=x;rw[he]at h;simp only at h;obtain⟨h1,h2⟩:=Pv he;have:=Ub k _ _ _ h;rw[ae1]at this;omega
  have:=Ub k _ _ _ h;omega
def Py {l:L} {o e:Nat} (hl:l≠ []) (h:tok1 l=.err o e):e≠0/\o<=l.length:=by
 cases l with
 |nil=>exact absurd rfl hl
 |cons c r=>
  simp only[tok1]at h;rw[ae7]
  split at h
  ·have:=Ub _ _ _ _ h
   omega
  split at h
  ·cases h
  split at h
  ·unfold nY at h
   split at h
   ·split at h
    ·cases h
    simp only[iG.err.injEq]at h;omega
   split at h
   ·cases h
   simp only[iG.err.injEq]at h;omega
  split at h
  ·cases h
  split at h
  ·cases h
  simp only[iG.err.injEq]at h;omega
def q1 (c:UInt8):L:=
 if c=10 then[92,110] else
 if c=13 then[92,114] else
 if c=9 then[92,116] else
 if odd c=true then[92,120,Num.vk (c.toNat / 16),Num.vk (c.toNat % 16)] else
 if c=39\/c=92 then[92,c] else[c]
def quote (s:L):L:=39 ::(s.flatMap q1++[39])
def aay {k:Nat} {c:UInt8} {r:L} {o:Nat} {b:L} (h1:c≠39) (h2:odd c=false) (h3:c≠92):fG (k+1) (c :: r) o b=fG k r (o+1) (b++[c]):=by
 simp only[fG];rw[aer h1,aer (by rw[h2];decide),aer h3]
end Go.Proofs.YtdijgcnlbfgkdaaGreatDoor.Lex
namespace Go.Proofs
open Go.Shelf
def Tryz.lays156_ren:Go.Shelf.Ren:=⟨fun|156=>31|165=>82|166=>23|169=>27|240=>74|241=>128|276=>119|277=>181|n=>n,fun|31=>34|9=>9|3=>3|4=>4|0=>0|20=>20|72=>78|76=>81|70=>75|37=>76|75=>80|127=>146|164=>191|5=>5|80=>86|n=>n,fun|n=>n⟩
def Tryz.lays156:Go.Proofs.Lays.n156 prog Tryz.lays156_ren:=by
 repeat' first|kernel_rfl|exact fun _=>rfl|constructor
def Tryz.Builder_Extra_156:Builder.Extra prog Tryz.lays156_ren:={
 sizeBuilder:=by kernel_rfl
 liesBuilder:=by kernel_rfl
 t5:=asT
 a5:=isAgg5
 z5:=sizeOf5
 v5:=zeroValue5
 infoByte:=by kernel_rfl
 cellsByte:=by kernel_rfl
 sizeByte:=by kernel_rfl
 neB5:=by decide}
open Go.RowKit in
def Tryz.strings_Join_none (a:Option Addr) (c:Nat) (sep:ByteArray) (w:World):
  Calls prog 31 #[.slice a 0 c,.string sep] w fun e w'=>e=.returned (.string ⟨#[]⟩)/\w'=w:=Any.strings_Join_none Tryz.lays156 Tryz.Builder_Extra_156 a c sep w
open Go.RowKit in
def Tryz.strings_Join (bk o c:Nat) (xs:List ByteArray) (sep:ByteArray) (w:World) (hcells: ∀(j:Nat) x,xs[j]?=some x->w.cell? ⟨bk,o+j,none⟩=some (.string x)) (hbk:bk<w.heap.size) (hN:xs.length<=140737488355328) (hcap:xs.length<=c) (hlen:(Lib.join (xs.map (·.data.toList)) sep.data.toList).length<=140737488355328):
  Calls prog 31 #[.slice (some ⟨bk,o,none⟩) xs.length c,.string sep] w fun e w'=>e=.returned (.string ⟨(Lib.join (xs.map (·.data.toList)) sep.data.toList).toArray⟩)/\Below w.heap.size w w':=Any.strings_Join Tryz.lays156 Tryz.Builder_Extra_156 bk o c xs sep w hcells hbk hN hcap hlen
def Tryz.ah1:Go.Shelf.Ren:=⟨fun|119=>263|n=>n,fun|21=>21|4=>4|n=>n,fun|n=>n⟩
def Tryz.lays119:Go.Proofs.Lays.n119 prog Tryz.ah1:=by
 repeat' first|kernel_rfl|exact fun _=>rfl|constructor
def Tryz.utf8_ValidRune (r:Int) (w:World):
  Calls prog 263 #[.int .i32 r] w fun e w'=>e=.returned (.bool (Lib.validRune r))/\w'=w:=Any.utf8_ValidRune Tryz.lays119 r w
def Tryz.ah2:Go.Shelf.Ren:=⟨fun|106=>97|213=>156|265=>200|n=>n,fun|9=>9|3=>3|n=>n,fun|n=>n⟩
def Tryz.lays106:Go.Proofs.Lays.n106 prog Tryz.ah2:=by
 repeat' first|kernel_rfl|exact fun _=>rfl|constructor
open Go.RowKit in
def Tryz.strings_Compare (a b:ByteArray) (w:World):
  Calls prog 97 #[.string a,.string b] w fun e w'=>e=.returned (.int .i64 (Lib.compareBytes a.data.toList b.data.toList))/\w'=w:=Any.strings_Compare Tryz.lays106 a b w
def Tryz.ah3:Go.Shelf.Ren:=⟨fun|137=>228|217=>252|266=>265|n=>n,fun|9=>9|5=>5|3=>3|n=>n,fun|n=>n⟩
def Tryz.lays137:Go.Proofs.Lays.n137 prog Tryz.ah3:=by
 repeat' first|kernel_rfl|exact fun _=>rfl|constructor
open Go.RowKit in
def Tryz.strings_IndexByte (s:ByteArray) (c:Int) (w:World):
  Calls prog 228 #[.string s,.int .u8 c] w fun e w'=>e=.returned (.int .i64 (Lib.indexByte s.data.toList c.toNat.toUInt8))/\w'=w:=Any.strings_IndexByte Tryz.lays137 s c w
def Tryz.ah4:Go.Shelf.Ren:=⟨fun|103=>89|210=>141|206=>182|n=>n,fun|9=>9|4=>4|24=>160|3=>3|n=>n,fun|n=>n⟩
def Tryz.lays103:Go.Proofs.Lays.n103 prog Tryz.ah4:=by
 repeat' first|kernel_rfl|exact fun _=>rfl|constructor
open Go.RowKit in
def Tryz.strings_CutPrefix (s p:ByteArray) (w:World):
  Calls prog 89 #[.string s,.string p] w fun e w'=>e=.returned (.tuple #[.string ⟨(Lib.trimPrefix s.data.toList p.data.toList).toArray⟩,.bool (Lib.hasPrefix s.data.toList p.data.toList)])/\w'=w:=Any.strings_CutPrefix Tryz.lays103 s p w
def Tryz.ah5:Go.Shelf.Ren:=⟨fun|122=>49|215=>99|n=>n,fun|3=>3|4=>4|n=>n,fun|n=>n⟩
def Tryz.lays122:Go.Proofs.Lays.n122 prog Tryz.ah5:=by
 repeat' first|kernel_rfl|exact fun _=>rfl|constructor
open Go.RowKit in
def Tryz.cmp_Compare_int (x y:Int) (w:World):
  Calls prog 49 #[.int .i64 x,.int .i64 y] w fun e w'=>e=.returned (.int .i64 (Lib.compareInt x y))/\w'=w:=Any.cmp_Compare_int Tryz.lays122 x y w
def Tryz.aqC:Go.Shelf.Ren:=⟨fun|171=>126|243=>180|246=>120|283=>171|284=>172|285=>173|286=>174|129=>154|317=>216|318=>217|319=>218|320=>219|337=>246|338=>227|n=>n,fun|3=>3|9=>9|2=>2|4=>4|171=>229|0=>0|53=>151|37=>76|5=>5|173=>231|212=>269|51=>213|20=>20|213=>270|46=>168|232=>297|233=>292|n=>n,fun|17=>1|18=>5|19=>2|n=>n⟩
def Tryz.ah6:Go.Shelf.Ren:=⟨fun|173=>75|246=>120|283=>171|284=>172|285=>173|286=>174|129=>154|317=>216|318=>217|319=>218|320=>219|337=>246|338=>227|n=>n,fun|2=>2|3=>3|9=>9|4=>4|171=>229|0=>0|53=>151|37=>76|5=>5|173=>231|212=>269|51=>213|20=>20|213=>270|46=>168|232=>297|233=>292|n=>n,fun|17=>1|18=>5|19=>2|n=>n⟩
def Tryz.laysM173:Go.Proofs.LaysM.n173 prog Tryz.ah6:=by
 repeat' first|kernel_rfl|exact fun _=>rfl|constructor
open Go.RowKit Go.Sort Go.Lib in
def Tryz.strconv_FormatInt_10 (n:Int) (h0: -9223372036854775808<=n) (h1:n<=9223372036854775807) (w:World) (htab:Lib.TabIs prog w "internal/strconv.uint64pow10" .u64 Lib.pow10Tab):
  Calls prog 75 #[.int .i64 n,.int .i64 10] w fun e w'=>e=.returned (.string ⟨(Lib.itoa n).toArray⟩)/\ ∃k os,w'=grow (w.drewN k) os:=Any.strconv_FormatInt_10 Tryz.laysM173 n h0 h1 w htab
def Tryz.ah7:Go.Shelf.Ren:=⟨fun|172=>251|244=>264|245=>191|247=>190|279=>231|280=>232|281=>233|282=>234|287=>230|316=>258|171=>126|205=>259|321=>256|322=>257|243=>180|246=>120|283=>171|284=>172|285=>173|286=>174|129=>154|317=>216|318=>217|319=>218|320=>219|337=>246|338=>227|n=>n,fun|9=>9|3=>3|75=>80|76=>81|4=>4|5=>5|167=>278|37=>76|0=>0|85=>203|2=>2|168=>281|53=>151|175=>279|46=>168|210=>295|127=>146|145=>303|143=>301|21=>21|171=>229|173=>231|212=>269|51=>213|20=>20|213=>270|232=>297|233=>292|80=>86|n=>n,fun|15=>3|16=>4|17=>1|18=>5|19=>2|n=>n⟩
def Tryz.laysC172:Go.Proofs.LaysC.n172 prog Tryz.ah7:=by
 repeat' first|kernel_rfl|exact fun _=>rfl|constructor
open Go.RowKit in
def Tryz.strconv_Atoi_ok (s:ByteArray) (hmax:s.size<=9223372036854775806) (v:Int) (h:Lib.atoiAll s.data.toList=.ok v) (w:World):
  Calls prog 251 #[.string s] w fun e w'=>e=.returned (.tuple #[.int .i64 v,.nilIface])/\(w'=w\/ ∃t,w'=Lib.bytesWorld w 5 t):=Any.strconv_Atoi_ok Tryz.laysC172 s hmax v h w
def Tryz.ah8:Go.Shelf.Ren:=⟨fun|174=>143|247=>190|245=>191|287=>230|279=>231|280=>232|281=>233|282=>234|321=>256|322=>257|316=>258|171=>126|205=>259|243=>180|246=>120|283=>171|284=>172|285=>173|286=>174|129=>154|317=>216|318=>217|319=>218|320=>219|337=>246|338=>227|n=>n,fun|9=>9|3=>3|2=>2|75=>80|85=>203|4=>4|167=>278|5=>5|53=>151|175=>279|46=>168|168=>281|37=>76|0=>0|210=>295|21=>21|127=>146|145=>303|143=>301|171=>229|173=>231|212=>269|51=>213|20=>20|213=>270|232=>297|233=>292|80=>86|n=>n,fun|15=>3|16=>4|17=>1|18=>5|19=>2|n=>n⟩
def Tryz.laysC174:Go.Proofs.LaysC.n174 prog Tryz.ah8:=by
 repeat' first|kernel_rfl|exact fun _=>rfl|constructor
open Go.RowKit in
def Tryz.strconv_ParseInt_10_at64_ok (s:ByteArray) (hmax:s.size<=9223372036854775806) (v:Int) (h:Lib.parseIntB 64 s.data.toList=.ok v) (w:World):
  Calls prog 143 #[.string s,.int .i64 10,.int .i64 64] w fun e w'=>e=.returned (.tuple #[.int .i64 v,.nilIface])/\(w'=w\/ ∃t,w'=Lib.bytesWorld w 5 t):=Any.strconv_ParseInt_10_at64_ok Tryz.laysC174 s hmax v h w
open Go.RowKit in
def Tryz.strconv_ParseInt_10_at64_range_var (s:ByteArray) (hlim:s.size<=281474976710656) (h:Lib.parseIntB 64 s.data.toList=.range) (tp:TypeId) (p:Value) (w:World) (hvar:w.var? prog "strconv.ErrRange" =some #[.iface tp p]):
  Calls prog 143 #[.string s,.int .i64 10,.int .i64 64] w fun e w'=> ∃N,e=.returned (.tuple #[.int .i64 (Lib.intSat 64 s.data.toList),.iface 281 (.pointer (some ⟨N,0,none⟩))])/\w.heap.size<=N/\w'.heap[N]?=some (.cells #[.string ⟨#[80,97,114,115,101,73,110,116]⟩,.string s,.iface tp p] 295 (0,0))/\Below w.heap.size w w':=Any.strconv_ParseInt_10_at64_range_var Tryz.laysC174 s hlim h tp p w hvar
def Tryz.ah9:Go.Shelf.Ren:=⟨fun|144=>138|143=>188|219=>229|217=>252|225=>253|224=>254|267=>255|266=>265|314=>266|n=>n,fun|9=>9|4=>4|3=>3|5=>5|46=>168|146=>299|51=>213|n=>n,fun|1=>0|n=>n⟩
def Tryz.lays144:Go.Proofs.Lays.n144 prog Tryz.ah9:=by
 repeat' first|kernel_rfl|exact fun _=>rfl|constructor
open Go.RowKit Go.Lib in
def Tryz.strings_Contains (s sub:ByteArray) (m:Int) (w:World) (hs:s.size<4294967281) (hm:w.cell? ⟨0,0,none⟩=some (.int .i64 m)):
  Calls prog 138 #[.string s,.string sub] w fun e w'=>e=.returned (.bool (Lib.contains s.data.toList sub.data.toList))/\w'=w:=Any.strings_Contains Tryz.lays144 s sub m w hs hm
def Tryz.aia:Go.Shelf.Ren:=⟨fun|190=>45|125=>92|258=>91|128=>153|129=>154|302=>144|303=>145|304=>146|305=>147|306=>148|307=>149|308=>150|309=>151|310=>152|333=>192|329=>193|330=>194|334=>195|335=>196|336=>197|344=>235|n=>n,fun|31=>34|9=>9|3=>3|46=>168|0=>0|51=>213|53=>151|4=>4|183=>207|182=>206|131=>104|5=>5|218=>248|222=>252|228=>284|229=>69|n=>n,fun|n=>n⟩
def Tryz.lays190:Go.Proofs.Lays.n190 prog Tryz.aia:=by
 repeat' first|kernel_rfl|exact fun _=>rfl|constructor
open Go.Sort Go.RowKit in
def Tryz.slices_Sort_string (blk off cap:Nat) (ss:List (List UInt8)) (w:World) (hH:Holds encStr w blk off ss.toArray) (hblk:blk<w.heap.size) (hsz:ss.length<4611686018427387904):
  Calls prog 45 #[.slice (some ⟨blk,off,none⟩) ss.length cap] w fun e w'=>
   e=.returned (.tuple #[])/\ ∃n os,w'=grow (putRow encStr (Sort.ahead w n) blk off (ss.mergeSort fun x y=>decide (x<=y)).toArray) os:=Any.slices_Sort_string Tryz.lays190 blk off cap ss w hH hblk hsz
def Tryz.lays99_ren:Go.Shelf.Ren:=⟨fun|99=>131|206=>182|n=>n,fun|9=>9|4=>4|3=>3|n=>n,fun|n=>n⟩
def Tryz.lays99:Go.Proofs.Lays.n99 prog Tryz.lays99_ren:=by
 repeat' first|kernel_rfl|exact fun _=>rfl|constructor
open Go.RowKit Go.Lib in
def Tryz.strings_HasPrefix (s p:ByteArray) (w:World):
  Calls prog 131 #[.string s,.string p] w fun e w'=>e=.returned (.bool (Lib.hasPrefix s.data.toList p.data.toList))/\w'=w:=Any.strings_HasPrefix Tryz.lays99 s p w
def Tryz.lays101_ren:Go.Shelf.Ren:=⟨fun|101=>185|208=>223|206=>182|n=>n,fun|9=>9|4=>4|3=>3|n=>n,fun|n=>n⟩
def Tryz.lays101:Go.Proofs.Lays.n101 prog Tryz.lays101_ren:=by
 repeat' first|kernel_rfl|exact fun _=>rfl|constructor
open Go.RowKit Go.Lib in
def Tryz.strings_TrimPrefix (s p:ByteArray) (w:World):
  Calls prog 185 #[.string s,.string p] w fun e w'=>e=.returned (.string ⟨(Lib.trimPrefix s.data.toList p.data.toList).toArray⟩)/\w'=w:=Any.strings_TrimPrefix Tryz.lays101 s p w
def Tryz.lays152_ren:Go.Shelf.Ren:=⟨fun|152=>249|137=>228|119=>263|224=>254|225=>253|217=>252|266=>265|n=>n,fun|9=>9|21=>21|3=>3|4=>4|5=>5|0=>0|46=>168|n=>n,fun|n=>n⟩
def Tryz.lays152:Go.Proofs.Lays.n152 prog Tryz.lays152_ren:=by
 repeat' first|kernel_rfl|exact fun _=>rfl|constructor
open Go.RowKit Go.Lib in
def Tryz.strings_IndexRune_ascii (s:ByteArray) (r:Int) (w:World) (h0:0<=r) (h1:r<128):
  Calls prog 249 #[.string s,.int .i32 r] w fun e w'=>e=.returned (.int .i64 (Lib.indexByte s.data.toList r.toNat.toUInt8))/\w'=w:=Any.strings_IndexRune_ascii Tryz.lays152 s r w h0 h1
def Tryz.aib:Go.Shelf.Ren:=⟨fun|226=>250|n=>n,fun|3=>3|4=>4|n=>n,fun|n=>n⟩
def Tryz.lays226:Go.Proofs.Lays.n226 prog Tryz.aib:=by
 repeat' first|kernel_rfl|exact fun _=>rfl|constructor
open Go.RowKit Go.Lib in
def Tryz.strings_shouldUseASCIISet (n:Int) (w:World):
  Calls prog 250 #[.int .i64 n] w fun e w'=>e=.returned (.bool (decide (8<n)))/\w'=w:=Any.strings_shouldUseASCIISet Tryz.lays226 n w
def Tryz.lays153_ren:Go.Shelf.Ren:=⟨fun|153=>224|152=>249|226=>250|227=>177|228=>220|137=>228|119=>263|224=>254|225=>253|217=>252|266=>265|n=>n,fun|9=>9|3=>3|4=>4|5=>5|21=>21|117=>236|116=>235|0=>0|46=>168|124=>239|n=>n,fun|n=>n⟩
def Tryz.lays153:Go.Proofs.Lays.n153 prog Tryz.lays153_ren:=by
 repeat' first|kernel_rfl|exact fun _=>rfl|constructor
open Go.RowKit Go.Lib in
def Tryz.strings_IndexAny_long (hv116: ∀w,(zeroValue 235).run prog w=.ok (.agg (Array.replicate 256 (.bool false))) w) (s chars:ByteArray) (w:World) (h2:2<=chars.size) (h8:8<s.size) (hs:s.size<4294967281) (hcs:chars.size<4294967281) (hascii: ∀(j:Nat) b,chars.data.toList[j]?=some b->b.toNat<128):
  Calls prog 224 #[.string s,.string chars] w fun e w'=>e=.returned (.int .i64 (Lib.indexAny s.data.toList chars.data.toList))/\w'=((w.alloc (.cells (Lib.setCells chars.data.toList) 235)).alloc (.cells (Lib.setCells chars.data.toList) 235)):=Any.strings_IndexAny_long Tryz.lays153 hv116 (by kernel_rfl) s chars w h2 h8 hs hcs hascii
open Go.RowKit Go.Sort in
def Tryz.slices_Sort_string_none (p:Option Addr) (cap:Nat) (w:World):
  Calls prog 45 #[.slice p 0 cap] w fun e w'=>e=.returned (.tuple #[])/\w'=w:=Any.slices_Sort_string_none Tryz.lays190 p cap w
end Go.Proofs
namespace Go.Proofs.YtdijgcnlbfgkdaaGreatDoor
open Go.RowKit Go.Proofs.Tryz
structure Laid (W:World):Prop where
 pow:Lib.TabIs prog W "internal/strconv.uint64pow10" .u64 Lib.pow10Tab
 bru: ∃cs,W.var? prog "math/bits.deBruijn64tab" =some cs/\ ∀j,j<64->cs[j]?=some (.int .u8 (Lib.deBruijn64tab.getD j 0))
 syn: ∃tp p,W.var? prog "strconv.ErrSyntax" =some #[.iface tp p]
 rng: ∃tp p,W.var? prog "strconv.ErrRange" =some #[.iface tp p]
 max: ∃m,W.cell? ⟨0,0,none⟩=some (.int .i64 m)
def Uc:prog.globalNamed "math/bits.deBruijn64tab" =some 2:=by kernel_rfl
def aaz:prog.globalNamed "internal/strconv.uint64pow10" =some 1:=by kernel_rfl
def aaA:prog.globalNamed "strconv.ErrSyntax" =some 3:=by kernel_rfl
def aaB:prog.globalNamed "strconv.ErrRange" =some 4:=by kernel_rfl
def KF {w:World} {a:Addr} {v:Value} (h:w.cell? a=some v):a.block<w.heap.size:=by
 rcases ahi a.block w.heap.size with h0|h0
 ·exact h0
 unfold World.cell? at h;simp[apC h0]at h
def Laid.below {W W':World} (h:Laid W) (hb:Below W.heap.size W W'):Laid W':=by
 obtain⟨cs,h1,h2⟩:=h.bru;obtain⟨t1,p1,e1⟩:=h.syn;obtain⟨t2,p2,e2⟩:=h.rng;obtain⟨m,hm⟩:=h.max;exact⟨Joins.tab_stays aaz h.pow hb (aej _),⟨cs,atz Uc h1 hb (aej _),h2⟩,⟨t1,p1,atz aaA e1 hb (aej _)⟩,⟨t2,p2,atz aaB e2 hb (aej _)⟩,⟨m,(hb.cell (KF hm)).trans hm⟩⟩
def below_grow {W:World} (k:Nat) (os:Array Obj):Below W.heap.size W (Sort.grow (W.drewN k) os):=by
 refine⟨rfl,rfl,rfl, ?_,fun j hj=> ?_⟩
 ·simp[Sort.grow,World.drewN]
 simp[Sort.grow,World.drewN,aoW hj]
def dR (l:List UInt8):(⟨l.toArray⟩:ByteArray).size=l.length:=by simp[ByteArray.size]
def aic (n:Int) (w:World) (h0: -9223372036854775808<=n) (h1:n<=9223372036854775807) (hL:Laid w):
  Calls prog 75 #[.int .i64 n,.int .i64 10] w fun e w'=>e=.returned (.string ⟨(Lib.itoa n).toArray⟩)/\Below w.heap.size w w':=
 (Tryz.strconv_FormatInt_10 n h0 h1 w hL.pow).mono fun e w' ⟨he,k,os,hw⟩=>⟨he,by rw[hw];exact below_grow k os⟩
def below_bytesWorld {w w':World} {T:TypeId} (h:w'=w\/ ∃t,w'=Lib.bytesWorld w T t):Below w.heap.size w w':=by
 rcases h with rfl|⟨t,rfl⟩
 ·exact aoa _ _
 exact Lib.bytesWorld_below _ _ _
end Go.Proofs.YtdijgcnlbfgkdaaGreatDoor
