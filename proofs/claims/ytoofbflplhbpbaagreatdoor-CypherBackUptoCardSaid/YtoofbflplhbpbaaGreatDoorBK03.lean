/- Contracts and plain laws,part 3. -/
import Derived.Test.YtoofbflplhbpbaaGreatDoorBK02
set_option linter.all false
namespace Go.Proofs.YtoofbflplhbpbaaGreatDoor.Lex
open Go
abbrev L:=List UInt8
def isLet (c:UInt8):Bool:=(decide (97≤c.toNat) && decide (c.toNat≤122)) ||(decide (65≤c.toNat) && decide (c.toNat≤90)) || decide (c.toNat=95)
def aF (c:UInt8):Bool:=isLet c || Num.au c
def bD (c:UInt8):Bool:=aF c || c == 46
def blank (c:UInt8):Bool:=c == 32 || c == 9 || c == 13 || c == 10
def run (p:UInt8→Bool) (l:L):Nat:=(l.takeWhile p).length
def gap:Bool→L→Nat
 | _, []=>0
 | true,c :: r=>1+gap (c !=10) r
 | false,c :: r=>if c=47∧r.head?=some 47 then 1+gap true r else if blank c then 1+gap false r else 0
structure Tok where
 kind:Nat
 text:L
 num:Int
 pos:Nat
inductive Res where
 | tok (kind:Nat) (text:L) (num:Int) (len:Nat)
 | err (off:Nat) (e:Nat)
def int64 (b:Nat):Int:=if b<9223372036854775808 then (b:Int) else (b:Int) - 18446744073709551616
def jC (w:L):L:=if w.head?=some 45 then w.drop 1 else w
def eH (w:L):Res:=
 if Lib.hasPrefix (jC w) [48,120]=true then
  match Num.parse w with
  | some b=> .tok 3 [] (int64 b) w.length
  | none=> .err 0 52
 else if (Num.aW w).2=0 then .tok 2 [] (Num.aW w).1 w.length else .err 0 (Num.aW w).2
def esc:L→Option (UInt8×Nat)
 | []=>none
 | c :: r=>
  if c=92∨c=39 then some (c,1) else
  if c=110 then some (10,1) else
  if c=114 then some (13,1) else
  if c=116 then some (9,1) else
  if c=120 then
   match r with
   | a :: b :: _=>
    match Num.aX a,Num.aX b with
    | some x,some y=>some (UInt8.ofNat (x*16+y),3)
    | _,_=>none
   | _=>none
  else none
def odd (c:UInt8):Bool:=decide (c.toNat<32) || decide (126<c.toNat)
def aN:Nat→L→Nat→L→Res
 | 0,_,_,_=> .err 0 241
 | _+1, [],_,_=> .err 0 241
 | k+1,c :: r,o,b=>
  if c=39 then .tok 4 b 0 (o+1) else
  if odd c=true then .err o 240 else
  if c=92 then
   match esc r with
   | none=> .err o 242
   | some (x,n)=>aN k (r.drop n) (o+1+n) (b ++ [x])
  else aN k r (o+1) (b ++ [c])
def MARKS:L:= [40,41,123,125,91,93,58,44,59,45]
def tok1:L→Res
 | []=> .err 0 0
 | c :: r=>
  if c=39 then aN (r.length+1) r 1 [] else
  if isLet c=true then .tok 1 ((c :: r).take (run aF (c :: r))) 0 (run aF (c :: r)) else
  if Num.au c=true∨(c=45∧r.head?.any Num.au=true) then eH ((c :: r).take (1+run bD r)) else
  if c=45∧r.head?=some 62 then .tok 5 [45,62] 0 2 else
  if c∈MARKS then .tok 5 [c] 0 1 else .err 0 240
def scan:Nat→L→Nat→List Tok×Option (Nat×Nat)
 | 0,_,_=>([],none)
 | _+1, [],_=>([],none)
 | k+1,c :: r,i=>
  match tok1 (c :: r) with
  | .err o e=>([],some (i+o,e))
  | .tok kd tx nm n=>
   ((⟨kd,tx,nm,i⟩:Tok) ::(scan k ((c :: r).drop (n+gap false ((c :: r).drop n))) (i+n+gap false ((c :: r).drop n))).1,
    (scan k ((c :: r).drop (n+gap false ((c :: r).drop n))) (i+n+gap false ((c :: r).drop n))).2)
def body (l:L) (i:Nat):List Tok×Option (Nat×Nat):=scan (l.length+1) (l.drop (gap false l)) (i+gap false l)
def read (s:L):List Tok×Option (Nat×Nat):=if 16777216<s.length then ([],some (0,1)) else body s 0
theorem lS (p:UInt8→Bool) (l:L):run p l≤l.length:=by
 unfold run
 exact (List.takeWhile_prefix p).length_le
theorem jD {p:UInt8→Bool} {c:UInt8} (r:L) (h:p c=true):run p (c :: r)=1+run p r:=by
 unfold run
 rw [List.takeWhile_cons,if_pos h,List.length_cons,Nat.add_comm]
theorem mQ {p:UInt8→Bool} {c:UInt8} (r:L) (h:p c=false):run p (c :: r)=0:=by
 unfold run
 rw [List.takeWhile_cons,if_neg (by rw [h];decide)]
 rfl
theorem mV: ∀(b:Bool) (l:L),gap b l≤l.length
 | _, []=>by simp [gap]
 | true,c :: r=>by
  have:=mV (c !=10) r
  simp only [gap,List.length_cons]
  omega
 | false,c :: r=>by
  have h1:=mV true r
  have h2:=mV false r
  simp only [gap,List.length_cons]
  split
  ·omega
  ·split<;> omega
theorem oV {r:L} {x:UInt8} {n:Nat} (h:esc r=some (x,n)):1≤n∧n≤r.length:=by
 unfold esc at h
 split at h
 ·cases h
 ·rename_i c r
  rw [List.length_cons]
  repeat' split at h
  all_goals first
   |(cases h;done)
   |(simp only [Option.some.injEq,Prod.mk.injEq] at h;obtain ⟨rfl,rfl⟩:=h;(try simp only [List.length_cons]);omega)
theorem rY: ∀(k:Nat) (r:L) (o:Nat) (b:L) {kd:Nat} {tx:L} {nm:Int} {n:Nat},aN k r o b= .tok kd tx nm n→o+1≤n∧n≤o+r.length
 | 0,r,o,b,kd,tx,nm,n,h=>by simp [aN] at h
 | k+1, [],o,b,kd,tx,nm,n,h=>by simp [aN] at h
 | k+1,c :: r,o,b,kd,tx,nm,n,h=>by
  simp only [aN] at h
  rw [List.length_cons]
  split at h
  ·simp only [Res.tok.injEq] at h;omega
  ·split at h
   ·cases h
   ·split at h
    ·cases he:esc r with
     | none=>rw [he] at h;cases h
     | some x=>
      obtain ⟨x,m⟩:=x
      rw [he] at h
      simp only at h
      obtain ⟨h1,h2⟩:=oV he
      have:=rY k _ _ _ h
      rw [List.length_drop] at this
      omega
    ·have:=rY k _ _ _ h
     omega
theorem Gv {w:L} {kd:Nat} {tx:L} {nm:Int} {n:Nat} (h:eH w= .tok kd tx nm n):n=w.length:=by
 unfold eH at h
 split at h
 ·split at h
  ·simp only [Res.tok.injEq] at h;omega
  ·cases h
 ·split at h
  ·simp only [Res.tok.injEq] at h;omega
  ·cases h
theorem mW {l:L} {kd:Nat} {tx:L} {nm:Int} {n:Nat} (h:tok1 l= .tok kd tx nm n):1≤n∧n≤l.length:=by
 cases l with
 | nil=>simp [tok1] at h
 | cons c r=>
  simp only [tok1] at h
  split at h
  ·have:=rY _ _ _ _ h
   rw [List.length_cons]
   omega
  ·split at h
   ·rename_i h1
    simp only [Res.tok.injEq] at h
    have h2:=lS aF (c :: r)
    have h3:=jD (p:=aF) r (c:=c) (by unfold aF;rw [h1];rfl)
    omega
   ·split at h
    ·have h1:=Gv h
     have h2:=lS bD r
     rw [List.length_take,List.length_cons] at h1
     rw [List.length_cons]
     omega
    ·split at h
     ·rename_i h1
      simp only [Res.tok.injEq] at h
      have:1≤r.length:=by
       cases r with
       | nil=>simp at h1
       | cons d r=>simp
      rw [List.length_cons]
      omega
     ·split at h
      ·simp only [Res.tok.injEq] at h
       rw [List.length_cons]
       omega
      ·cases h
theorem oW (k i:Nat):scan k [] i=([],none):=by cases k<;> rfl
theorem jE {k:Nat} {l:L} {i kd:Nat} {tx:L} {nm:Int} {n g:Nat} (h:tok1 l= .tok kd tx nm n) (hg:gap false (l.drop n)=g):
  scan (k+1) l i=((⟨kd,tx,nm,i⟩:Tok) ::(scan k (l.drop (n+g)) (i+n+g)).1,(scan k (l.drop (n+g)) (i+n+g)).2):=by
 cases l with
 | nil=>simp [tok1] at h
 | cons c r=>
  simp only [scan]
  rw [h]
  simp only [hg]
theorem jU {k:Nat} {l:L} {i o e:Nat} (hl:l≠ []) (h:tok1 l= .err o e):scan (k+1) l i=([],some (i+o,e)):=by
 cases l with
 | nil=>exact absurd rfl hl
 | cons c r=>
  simp only [scan]
  rw [h]
theorem rZ: ∀(k m:Nat) (l:L) (i:Nat),l.length<k→l.length<m→scan k l i=scan m l i
 | 0,_,_,_,h,_=>by omega
 | _,0,_,_,_,h=>by omega
 | k+1,m+1, [],i,_,_=>by rw [oW,oW]
 | k+1,m+1,c :: r,i,h1,h2=>by
  cases ht:tok1 (c :: r) with
  | err o e=>rw [jU (by simp) ht,jU (by simp) ht]
  | tok kd tx nm n=>
   obtain ⟨t1,t2⟩:=mW ht
   rw [jE ht rfl,jE ht rfl]
   have e:=rZ k m ((c :: r).drop (n+gap false ((c :: r).drop n))) (i+n+gap false ((c :: r).drop n)) (by rw [List.length_drop];omega) (by rw [List.length_drop];omega)
   rw [e]
theorem Gw {l:L} (i:Nat) (h:l.drop (gap false l)= []):body l i=([],none):=by
 unfold body
 rw [h,oW]
theorem Gx {l l':L} {i kd:Nat} {tx:L} {nm:Int} {n:Nat} (h:l.drop (gap false l)=l') (ht:tok1 l'= .tok kd tx nm n):
  body l i=((⟨kd,tx,nm,i+gap false l⟩:Tok) ::(body (l'.drop n) (i+gap false l+n)).1,(body (l'.drop n) (i+gap false l+n)).2):=by
 obtain ⟨t1,t2⟩:=mW ht
 unfold body
 rw [h,jE ht rfl]
 have hl:l'.length≤l.length:=by rw [←h,List.length_drop];omega
 have e:scan l.length (l'.drop (n+gap false (l'.drop n))) (i+gap false l+n+gap false (l'.drop n))=scan ((l'.drop n).length+1) ((l'.drop n).drop (gap false (l'.drop n))) (i+gap false l+n+gap false (l'.drop n)):=by
  rw [List.drop_drop]
  exact rZ _ _ _ _ (by rw [List.length_drop];omega) (by rw [List.length_drop,List.length_drop];omega)
 rw [e]
theorem su: ∀(k:Nat) (r:L) (o:Nat) (b:L) {p e:Nat},aN k r o b= .err p e→e≠0∧p≤o+r.length
 | 0,r,o,b,p,e,h=>by simp only [aN,Res.err.injEq] at h;omega
 | k+1, [],o,b,p,e,h=>by simp only [aN,Res.err.injEq] at h;omega
 | k+1,c :: r,o,b,p,e,h=>by
  simp only [aN] at h
  rw [List.length_cons]
  split at h
  ·cases h
  ·split at h
   ·simp only [Res.err.injEq] at h;omega
   ·split at h
    ·cases he:esc r with
     | none=>rw [he] at h;simp only [Res.err.injEq] at h;omega
     | some x=>
      obtain ⟨x,m⟩:=x
      rw [he] at h
      simp only at h
      obtain ⟨h1,h2⟩:=oV he
      have:=su k _ _ _ h
      rw [List.length_drop] at this
      omega
    ·have:=su k _ _ _ h
     omega
theorem sD {l:L} {o e:Nat} (hl:l≠ []) (h:tok1 l= .err o e):e≠0∧o≤l.length:=by
 cases l with
 | nil=>exact absurd rfl hl
 | cons c r=>
  simp only [tok1] at h
  rw [List.length_cons]
  split at h
  ·have:=su _ _ _ _ h
   omega
  ·split at h
   ·cases h
   ·split at h
    ·unfold eH at h
     split at h
     ·split at h
      ·cases h
      ·simp only [Res.err.injEq] at h;omega
     ·split at h
      ·cases h
      ·simp only [Res.err.injEq] at h;omega
    ·split at h
     ·cases h
     ·split at h
      ·cases h
      ·simp only [Res.err.injEq] at h;omega
theorem Gy {r:L} {x:UInt8} {n:Nat} (z:L) (h:esc r=some (x,n)):esc (r ++ z)=some (x,n):=by
 cases r with
 | nil=>cases h
 | cons c r=>
  rw [List.cons_append]
  simp only [esc] at h⊢
  split at h
  ·rename_i h1;rw [if_pos h1];exact h
  ·rename_i h1
   rw [if_neg h1]
   split at h
   ·rename_i h2;rw [if_pos h2];exact h
   ·rename_i h2
    rw [if_neg h2]
    split at h
    ·rename_i h3;rw [if_pos h3];exact h
    ·rename_i h3
     rw [if_neg h3]
     split at h
     ·rename_i h4;rw [if_pos h4];exact h
     ·rename_i h4
      rw [if_neg h4]
      split at h
      ·rename_i h5
       rw [if_pos h5]
       match r,h with
       | a :: b :: r,h=>exact h
      ·cases h
theorem sF (z:L): ∀(k m:Nat) (r:L) (o:Nat) (b:L) {kd:Nat} {tx:L} {nm:Int} {n:Nat},aN k r o b= .tok kd tx nm n→k≤m→aN m (r ++ z) o b= .tok kd tx nm n
 | 0,_,_,_,_,_,_,_,_,h,_=>by simp [aN] at h
 | _+1,0,_,_,_,_,_,_,_,_,h=>by omega
 | _+1,_+1, [],_,_,_,_,_,_,h,_=>by simp [aN] at h
 | k+1,m+1,c :: r,o,b,kd,tx,nm,n,h,hk=>by
  rw [List.cons_append]
  simp only [aN] at h⊢
  split at h
  ·rename_i h1;rw [if_pos h1];exact h
  ·rename_i h1
   rw [if_neg h1]
   split at h
   ·cases h
   ·rename_i h2
    rw [if_neg h2]
    split at h
    ·rename_i h3
     rw [if_pos h3]
     cases he:esc r with
     | none=>rw [he] at h;cases h
     | some x=>
      obtain ⟨x,j⟩:=x
      rw [he] at h
      rw [Gy z he]
      simp only at h⊢
      obtain ⟨e1,e2⟩:=oV he
      have:=sF z k m _ _ _ h (by omega)
      rw [List.drop_append_of_le_length e2]
      exact this
    ·rename_i h3
     rw [if_neg h3]
     exact sF z k m _ _ _ h (by omega)
def q1 (c:UInt8):L:=
 if c=10 then [92,110] else
 if c=13 then [92,114] else
 if c=9 then [92,116] else
 if odd c=true then [92,120,Num.bC (c.toNat / 16),Num.bC (c.toNat % 16)] else
 if c=39∨c=92 then [92,c] else [c]
def quote (s:L):L:=39 ::(s.flatMap q1 ++ [39])
theorem sG (c:UInt8):1≤(q1 c).length∧(q1 c).length≤4:=by
 unfold q1
 repeat' split
 all_goals simp
theorem sH (s:L):(quote s).length≤4*s.length+2:=by
 unfold quote
 rw [List.length_cons,List.length_append,List.length_singleton]
 have: ∀s:L,(s.flatMap q1).length≤4*s.length:=by
  intro s
  induction s with
  | nil=>simp
  | cons c r ih=>
   rw [List.flatMap_cons,List.length_append,List.length_cons]
   have:=sG c
   omega
 have:=this s
 omega
theorem Gz:odd 92=false:=by decide
theorem yC {k:Nat} {c:UInt8} {r:L} {o:Nat} {b:L} (h1:c≠39) (h2:odd c=false) (h3:c≠92):aN (k+1) (c :: r) o b=aN k r (o+1) (b ++ [c]):=by
 simp only [aN]
 rw [if_neg h1,if_neg (by rw [h2];decide),if_neg h3]
theorem mX {k:Nat} {r:L} {o n:Nat} {x:UInt8} {b:L} (h:esc r=some (x,n)):aN (k+1) (92 :: r) o b=aN k (r.drop n) (o+1+n) (b ++ [x]):=by
 simp only [aN]
 rw [if_neg (by decide),if_neg (by rw [Gz];decide),if_true,h]
theorem yD {d:Nat} (h:d<16):Num.aX (Num.bC d)=some d:=Num.xF ⟨d,h⟩
theorem GH (c:UInt8) (z:L) (k o:Nat) (b:L):aN (k+1) (q1 c ++ z) o b=aN k z (o+(q1 c).length) (b ++ [c]):=by
 unfold q1
 by_cases h1:c=10
 ·subst h1;rw [if_pos rfl];exact mX (r:=110 :: z) (n:=1) rfl
 rw [if_neg h1]
 by_cases h2:c=13
 ·subst h2;rw [if_pos rfl];exact mX (r:=114 :: z) (n:=1) rfl
 rw [if_neg h2]
 by_cases h3:c=9
 ·subst h3;rw [if_pos rfl];exact mX (r:=116 :: z) (n:=1) rfl
 rw [if_neg h3]
 by_cases h4:odd c=true
 ·rw [if_pos h4]
  have hc:=UInt8.toNat_lt c
  have he:esc (120 :: Num.bC (c.toNat / 16) :: Num.bC (c.toNat % 16) :: z)=some (c,3):=by
   simp only [esc]
   rw [if_neg (by decide),if_neg (by decide),if_neg (by decide),if_neg (by decide),if_true,yD (by omega),yD (by omega)]
   simp only [Option.some.injEq,Prod.mk.injEq,and_true]
   rw [show c.toNat / 16*16+c.toNat % 16=c.toNat by omega]
   simp
  exact mX he
 rw [if_neg h4]
 have h4':odd c=false:=by cases h:odd c with
  | false=>rfl
  | true=>exact absurd h h4
 by_cases h5:c=39∨c=92
 ·rw [if_pos h5]
  have he:esc (c :: z)=some (c,1):=by
   simp only [esc]
   rw [if_pos h5.symm]
  exact mX he
 ·rw [if_neg h5]
  exact yC (fun h=>h5 (.inl h)) h4' (fun h=>h5 (.inr h))
theorem yE: ∀(s:L) (k o:Nat) (b:L),s.length<k→aN k (s.flatMap q1 ++ [39]) o b= .tok 4 (b ++ s) 0 (o+(s.flatMap q1).length+1)
 | _,0,_,_,h=>by omega
 | [],k+1,o,b,_=>by simp [aN]
 | c :: r,k+1,o,b,h=>by
  rw [List.flatMap_cons,List.append_assoc,GH,yE r k _ _ (by rw [List.length_cons] at h;omega),List.length_append]
  simp only [List.append_assoc,List.singleton_append]
  congr 1
  omega
theorem GI (s:L):s.length≤(s.flatMap q1).length:=by
 induction s with
 | nil=>simp
 | cons c r ih=>
  rw [List.flatMap_cons,List.length_append,List.length_cons]
  have:=sG c
  omega
end Go.Proofs.YtoofbflplhbpbaaGreatDoor.Lex
