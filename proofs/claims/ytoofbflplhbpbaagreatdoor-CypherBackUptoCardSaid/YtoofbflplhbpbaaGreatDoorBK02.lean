/- Contracts and plain laws,part 2. -/
import Derived.Test.YtoofbflplhbpbaaGreatDoorBK01
set_option linter.all false
namespace Go.Proofs.YtoofbflplhbpbaaGreatDoor.Num
open Go
theorem bitLen_spec: ∀(k x:Nat),x<2 ^ k→k≤64→x≠0→2 ^(Lib.bitLen x - 1)≤x∧x<2 ^ Lib.bitLen x∧1≤Lib.bitLen x
 | 0,x,h,_,h0=>by simp at h;exact absurd h h0
 | k+1,x,h,hk,h0=>by
  have h64:x<2 ^ 64:=Nat.lt_of_lt_of_le h (Nat.pow_le_pow_right (by decide) hk)
  rw [Lib.bitLen_half x h0 h64]
  by_cases h1:x / 2=0
  ·have:x=1:=by omega
   subst this
   have:Lib.bitLen (1 / 2)=0:=by decide
   rw [this]
   simp
  ·have ih:=bitLen_spec k (x / 2) (by rw [Nat.pow_succ] at h;omega) (by omega) h1
   obtain ⟨a,b,c⟩:=ih
   obtain ⟨m,hm⟩: ∃m,Lib.bitLen (x / 2)=m+1:=⟨Lib.bitLen (x / 2) - 1,by omega⟩
   rw [hm] at a b⊢
   simp only [Nat.add_sub_cancel] at a
   rw [show 1+(m+1) - 1=m+1 by omega,show 1+(m+1)=(m+1)+1 by omega]
   rw [Nat.pow_succ 2 (m+1)]
   rw [Nat.pow_succ] at b⊢
   omega
def up (a:Nat):Nat:=53 - Lib.bitLen a
theorem rP {a:Nat} (h0:a≠0) (h:a<4503599627370496):1≤up a∧up a≤52∧4503599627370496≤a*2 ^ up a∧a*2 ^ up a<9007199254740992:=by
 obtain ⟨h1,h2,h3⟩:=bitLen_spec 52 a h (by decide) h0
 have h4:Lib.bitLen a≤52:=Lib.bitLen_le a 52 (by decide) h
 unfold up
 obtain ⟨m,hm⟩: ∃m,Lib.bitLen a=m+1:=⟨Lib.bitLen a - 1,by omega⟩
 rw [hm] at h1 h2 h4⊢
 simp only [Nat.add_sub_cancel] at h1
 have e1:2 ^ m*2 ^(53 -(m+1))=4503599627370496:=by rw [←Nat.pow_add,show m+(53 -(m+1))=52 by omega]
 have e2:2 ^(m+1)*2 ^(53 -(m+1))=9007199254740992:=by rw [←Nat.pow_add,show m+1+(53 -(m+1))=53 by omega]
 refine ⟨by omega,by omega, ?_, ?_⟩
 ·rw [←e1];exact Nat.mul_le_mul_right _ h1
 ·rw [←e2];exact Nat.mul_lt_mul_of_pos_right h2 (Nat.pow_pos (by decide))
theorem F8 {a m:Nat} (h1:2 ^ m≤a) (h2:a<2 ^(m+1)) (hm:m<63):Lib.bitLen a=m+1:=by
 have h0:a≠0:=by have:=Nat.pow_pos (n:=m) (show 0<2 by decide);omega
 obtain ⟨c1,c2,c3⟩:=bitLen_spec (m+1) a h2 (by omega) h0
 have l1:=Lib.bitLen_le a (m+1) (by omega) h2
 have l2: ¬Lib.bitLen a≤m:=fun hle=>by
  have:=Nat.pow_le_pow_right (show 0<2 by decide) hle
  omega
 omega
def bP (a:Nat):Int:=if a<4503599627370496 then -1022 -(up a:Int) else (a / 4503599627370496:Nat) - 1023
def bW (a:Nat):Nat:=if a<4503599627370496 then a*2 ^ up a - 4503599627370496 else a % 4503599627370496
def bitsOf (f:Nat) (e:Int):Nat:=if -1022≤e then (e+1023).toNat*4503599627370496+f else (4503599627370496+f) / 2 ^(-1022 - e).toNat
def fits (f:Nat) (e:Int):Prop:= -1022≤e∨(-1022 - e).toNat≤Lib.ctz 64 (4503599627370496+f)
instance (f:Nat) (e:Int):Decidable (fits f e):=by unfold fits;infer_instance
theorem xW {x d:Nat} (h0:x≠0) (h:x<2 ^ 64):d≤Lib.ctz 64 x↔2 ^ d ∣ x:=by
 have e:Lib.ctz 64 x=Lib.ctzFrom 64 x:=by simp [Lib.ctz,h0]
 rw [e]
 obtain ⟨m,hm,_⟩:=Lib.ctzFrom_spec 64 x (by omega) h
 obtain ⟨c,hc⟩: ∃c,Lib.ctzFrom 64 x=c:=⟨_,rfl⟩
 rw [hc] at hm⊢
 constructor
 ·intro hd
  rw [hm,show c=d+(c - d) by omega,Nat.pow_add,Nat.mul_assoc]
  exact Nat.dvd_mul_right _ _
 ·intro hd
  refine Classical.byContradiction fun hn=> ?_
  rw [hm,show d=c+((d - c - 1)+1) by omega,Nat.pow_add] at hd
  have h2:=Nat.dvd_of_mul_dvd_mul_left (Nat.pow_pos (by decide)) hd
  rw [Nat.pow_succ] at h2
  have h3:2 ∣ 2*m+1:=Nat.dvd_trans (Nat.dvd_mul_left 2 _) h2
  omega
theorem xX {a:Nat} (h0:a≠0) (h:a<9218868437227405312):bW a<4503599627370496∧bP a≤1023∧ -1074≤bP a∧bitsOf (bW a) (bP a)=a∧fits (bW a) (bP a):=by
 by_cases hs:a<4503599627370496
 ·obtain ⟨u1,u2,u3,u4⟩:=rP h0 hs
  obtain ⟨u,hu⟩: ∃u,up a=u:=⟨_,rfl⟩
  obtain ⟨x,hx⟩: ∃x,a*2 ^ u=x:=⟨_,rfl⟩
  have e1:bP a= -1022 -(u:Int):=by unfold bP;rw [if_pos hs,hu]
  have e2:bW a=x - 4503599627370496:=by unfold bW;rw [if_pos hs,hu,hx]
  rw [hu] at u1 u2 u3 u4
  rw [hx] at u3 u4
  rw [e1,e2]
  have e3:(-1022 -(-1022 -(u:Int))).toNat=u:=by omega
  have e4:4503599627370496+(x - 4503599627370496)=x:=by omega
  refine ⟨by omega,by omega,by omega, ?_, .inr ?_⟩
  ·unfold bitsOf
   rw [if_neg (by omega),e3,e4,←hx,Nat.mul_div_cancel _ (Nat.pow_pos (by decide))]
  ·rw [e3,e4,xW (by omega) (by omega),←hx]
   exact Nat.dvd_mul_left _ _
 ·have e1:bP a=(a / 4503599627370496:Nat) - 1023:=by unfold bP;rw [if_neg hs]
  have e2:bW a=a % 4503599627370496:=by unfold bW;rw [if_neg hs]
  rw [e1,e2]
  refine ⟨by omega,by omega,by omega, ?_, .inl (by omega)⟩
  unfold bitsOf
  rw [if_pos (by omega)]
  omega
theorem F9 {f:Nat} {e:Int} (hf:f<4503599627370496) (h1:e≤1023) (h2: -1074≤e) (hfit:fits f e):
  bitsOf f e≠0∧bitsOf f e<9218868437227405312∧bW (bitsOf f e)=f∧bP (bitsOf f e)=e:=by
 by_cases he: -1022≤e
 ·have e1:bitsOf f e=(e+1023).toNat*4503599627370496+f:=by unfold bitsOf;rw [if_pos he]
  rw [e1]
  refine ⟨by omega,by omega, ?_, ?_⟩
  ·unfold bW;rw [if_neg (by omega)];omega
  ·unfold bP;rw [if_neg (by omega)];omega
 ·have hd:=hfit.resolve_left he
  obtain ⟨d,hd0⟩: ∃d,(-1022 - e).toNat=d:=⟨_,rfl⟩
  obtain ⟨x,hx⟩: ∃x,4503599627370496+f=x:=⟨_,rfl⟩
  have e1:bitsOf f e=x / 2 ^ d:=by unfold bitsOf;rw [if_neg he,hd0,hx]
  rw [hd0,hx,xW (by omega) (by omega)] at hd
  obtain ⟨a,ha⟩:=hd
  have hp:0<2 ^ d:=Nat.pow_pos (by decide)
  have e2:x / 2 ^ d=a:=by rw [ha,Nat.mul_div_cancel_left _ hp]
  have hd52:1≤d∧d≤52:=by omega
  rw [e1,e2]
  have hxa:a*2 ^ d=x:=by rw [ha,Nat.mul_comm]
  have lo:2 ^(52 - d)≤a:=by
   refine Nat.le_of_mul_le_mul_right ?_ hp
   rw [←Nat.pow_add,show 52 - d+d=52 by omega,hxa]
   omega
  have hi:a<2 ^(52 - d+1):=by
   refine Nat.lt_of_mul_lt_mul_right (a:=2 ^ d) ?_
   rw [←Nat.pow_add,show 52 - d+1+d=53 by omega,hxa]
   omega
  have hb:=F8 lo hi (by omega)
  have hup:up a=d:=by unfold up;omega
  have ha0:a≠0:=by have:=Nat.pow_pos (n:=52 - d) (show 0<2 by decide);omega
  have has:a<4503599627370496:=by
   have:2 ^(52 - d+1)≤2 ^ 52:=Nat.pow_le_pow_right (by decide) (by omega)
   omega
  refine ⟨ha0,by omega, ?_, ?_⟩
  ·unfold bW;rw [if_pos has,hup,hxa];omega
  ·unfold bP;rw [if_pos has,hup];omega
def form (f:Nat) (e:Int):L:= [48,120,49] ++(fV f ++ bI e)
def jd:L:= [48,120,110,97,110]
def jS:L:= [48,120,105,110,102]
def ZERO:L:= [48,120,48]
def aY (a:Nat):L:=if a=9218868437227405312 then jS else if a=0 then ZERO else form (bW a) (bP a)
def fmt (b:Nat):L:=
 if 9218868437227405312<b % 9223372036854775808 then jd else sg (decide (9223372036854775808≤b)) ++ aY (b % 9223372036854775808)
def dB:L→Option (L×L)
 | []=>none
 | c :: r=>if c=112∨c=109 then some ([],c :: r) else (dB r).map fun x=>(c :: x.1,x.2)
theorem oQ: ∀(l u v:L),dB l=some (u,v)→l=u ++ v
 | [],u,v,h=>by simp [dB] at h
 | c :: r,u,v,h=>by
  simp only [dB] at h
  split at h
  ·simp only [Option.some.injEq,Prod.mk.injEq] at h
   obtain ⟨rfl,rfl⟩:=h
   rfl
  ·cases hc:dB r with
   | none=>rw [hc] at h;cases h
   | some x=>
    rw [hc] at h
    simp only [Option.map_some,Option.some.injEq,Prod.mk.injEq] at h
    obtain ⟨rfl,rfl⟩:=h
    rw [oQ r x.1 x.2 hc]
    rfl
theorem xY: ∀(u:L) (c:UInt8) (r:L),(∀x∈u,x≠112∧x≠109)→c=112∨c=109→dB (u ++ c :: r)=some (u,c :: r)
 | [],c,r,_,h=>by simp [dB,h]
 | d :: u,c,r,hu,h=>by
  have hd:=hu d (by simp)
  simp only [List.cons_append,dB]
  rw [if_neg (by simp [hd.1,hd.2]),xY u c r (fun x hx=>hu x (by simp [hx])) h]
  rfl
def pair (t:L):Option (Nat×Int):=
 if Lib.hasPrefix t [48,120,49] then
  match dB (t.drop 3) with
  | none=>none
  | some (u,v)=>match dO u,fJ v with
   | some f,some e=>some (f,e)
   | _,_=>none
 else none
def dK (t:L):Option Nat:=
 if t=jS then some 9218868437227405312 else if t=ZERO then some 0 else
 match pair t with
 | none=>none
 | some (f,e)=>if fits f e then some (bitsOf f e) else none
def parse (s:L):Option Nat:=
 if s=jd then some 9221120237041090560 else
 if s.head?=some 45 then (dK (s.drop 1)).map (9223372036854775808+ ·) else dK s
theorem Gf {t:L} {f:Nat} {e:Int} (h:pair t=some (f,e)):t=form f e∧f<4503599627370496∧e≤1023∧ -1074≤e:=by
 unfold pair at h
 split at h
 ·rename_i hp
  cases hc:dB (t.drop 3) with
  | none=>rw [hc] at h;cases h
  | some x=>
   obtain ⟨u,v⟩:=x
   rw [hc] at h
   simp only at h
   cases hf:dO u with
   | none=>rw [hf] at h;simp at h
   | some f'=>
    cases he:fJ v with
    | none=>rw [hf,he] at h;simp at h
    | some e'=>
     rw [hf,he] at h
     simp only [Option.some.injEq,Prod.mk.injEq] at h
     obtain ⟨rfl,rfl⟩:=h
     obtain ⟨h1,h2⟩:=rF hf
     obtain ⟨h3,h4,h5⟩:=rO he
     refine ⟨?_,h2,h4,h5⟩
     have e1:=oQ _ _ _ hc
     unfold Lib.hasPrefix at hp
     rw [List.isPrefixOf_iff_prefix] at hp
     obtain ⟨q,hq⟩:=hp
     unfold form
     rw [←hq] at e1⊢
     simp at e1
     rw [e1,←h1,←h3]
 ·cases h
theorem Gg: ∀d:Fin 16,bC d.val≠112∧bC d.val≠109:=by decide
theorem xZ: ∀(k n:Nat),∀x∈hexN k n,x≠112∧x≠109
 | 0,_,x,h=>by simp [hexN] at h
 | k+1,n,x,h=>by
  rw [hexN] at h
  rcases List.mem_append.1 h with h | h
  ·exact xZ k _ x h
  ·rw [List.mem_singleton.1 h]
   exact Gg ⟨n % 16,by omega⟩
theorem Gh (f:Nat): ∀x∈fV f,x≠112∧x≠109:=by
 unfold fV
 split
 ·simp
 ·intro x hx
  rcases List.mem_cons.1 hx with rfl | hx
  ·decide
  ·refine xZ 13 f x ?_
   obtain ⟨j,h1,_⟩:=oP _ (hexN 13 f) rfl
   rw [h1]
   exact List.mem_append.2 (.inl hx)
theorem Gi {f:Nat} {e:Int} (hf:f<4503599627370496) (h1:e≤1023) (h2: -1074≤e):pair (form f e)=some (f,e):=by
 have hx: ∃c r,bI e=c :: r∧(c=112∨c=109):=by
  unfold bI
  split
  ·exact ⟨_,_,rfl, .inr rfl⟩
  ·exact ⟨_,_,rfl, .inl rfl⟩
 obtain ⟨c,r,hc,hc2⟩:=hx
 have e1:(form f e).drop 3=fV f ++ bI e:=rfl
 have e2:Lib.hasPrefix (form f e) [48,120,49]=true:=by
  unfold Lib.hasPrefix form
  simp [List.isPrefixOf]
 unfold pair
 rw [if_pos e2,e1,hc,xY _ _ _ (Gh f) hc2,←hc]
 simp only
 rw [F5 hf,F7 h1 h2]
theorem rQ (f:Nat) (e:Int):(form f e).head?≠some 45∧form f e≠jd∧form f e≠jS∧form f e≠ZERO:=by
 unfold form jd jS ZERO
 refine ⟨by simp,by simp,by simp,by simp⟩
theorem x8 {a:Nat} (h:a≤9218868437227405312):dK (aY a)=some a:=by
 unfold aY
 by_cases hi:a=9218868437227405312
 ·rw [if_pos hi,hi];rfl
 ·rw [if_neg hi]
  by_cases h0:a=0
  ·rw [if_pos h0,h0];rfl
  ·rw [if_neg h0]
   obtain ⟨p1,p2,p3,p4,p5⟩:=xX h0 (by omega)
   obtain ⟨_,_,q3,q4⟩:=rQ (bW a) (bP a)
   unfold dK
   rw [if_neg q3,if_neg q4,Gi p1 p2 p3]
   simp only
   rw [if_pos p5,p4]
theorem x9 {t:L} {a:Nat} (h:dK t=some a):t=aY a∧a≤9218868437227405312:=by
 unfold dK at h
 split at h
 ·rename_i hi
  simp only [Option.some.injEq] at h
  subst h
  exact ⟨by rw [hi];rfl,by omega⟩
 ·split at h
  ·rename_i h0
   simp only [Option.some.injEq] at h
   subst h
   exact ⟨by rw [h0];rfl,by omega⟩
  ·cases hp:pair t with
   | none=>rw [hp] at h;cases h
   | some x=>
    obtain ⟨f,e⟩:=x
    rw [hp] at h
    simp only at h
    split at h
    ·rename_i hfit
     simp only [Option.some.injEq] at h
     obtain ⟨r1,r2,r3,r4⟩:=Gf hp
     obtain ⟨s1,s2,s3,s4⟩:=F9 r2 r3 r4 hfit
     rw [h] at s1 s2 s3 s4
     refine ⟨?_,by omega⟩
     unfold aY
     rw [if_neg (by omega),if_neg s1,s3,s4,r1]
    ·cases h
theorem Gj (a:Nat):(aY a).head?≠some 45∧aY a≠jd:=by
 unfold aY
 split
 ·exact ⟨by decide,by decide⟩
 ·split
  ·exact ⟨by decide,by decide⟩
  ·exact ⟨(rQ _ _).1,(rQ _ _).2.1⟩
def canon (b:Nat):Nat:=if 9218868437227405312<b % 9223372036854775808 then 9221120237041090560 else b
theorem Gl {b:Nat} (hb:b<18446744073709551616):parse (fmt b)=some (canon b):=by
 unfold fmt canon
 by_cases hn:9218868437227405312<b % 9223372036854775808
 ·rw [if_pos hn,if_pos hn];rfl
 ·rw [if_neg hn,if_neg hn]
  obtain ⟨h1,h2⟩:=Gj (b % 9223372036854775808)
  unfold parse
  by_cases hs:9223372036854775808≤b
  ·rw [decide_eq_true hs]
   have e:sg true ++ aY (b % 9223372036854775808)=45 :: aY (b % 9223372036854775808):=rfl
   rw [e,if_neg (by simp [jd]),List.head?_cons,if_pos rfl,List.drop_succ_cons,List.drop_zero,x8 (by omega)]
   simp only [Option.map_some,Option.some.injEq]
   omega
  ·rw [decide_eq_false hs]
   have e:sg false ++ aY (b % 9223372036854775808)=aY (b % 9223372036854775808):=rfl
   rw [e,if_neg h2,if_neg h1,x8 (by omega)]
   congr 1
   omega
theorem rU {s:L} {b:Nat} (h:parse s=some b):fmt b=s∧b<18446744073709551616∧canon b=b:=by
 unfold parse at h
 split at h
 ·rename_i hn
  simp only [Option.some.injEq] at h
  subst h
  exact ⟨by rw [hn];rfl,by omega,by decide⟩
 ·split at h
  ·rename_i hd
   obtain ⟨t,rfl⟩: ∃t,s=45 :: t:=by
    cases s with
    | nil=>simp at hd
    | cons c t=>simp at hd;subst hd;exact ⟨t,rfl⟩
   rw [List.drop_succ_cons,List.drop_zero] at h
   cases hp:dK t with
   | none=>rw [hp] at h;cases h
   | some a=>
    rw [hp] at h
    simp only [Option.map_some,Option.some.injEq] at h
    obtain ⟨r1,r2⟩:=x9 hp
    have e1:b % 9223372036854775808=a:=by omega
    refine ⟨?_,by omega,by unfold canon;rw [if_neg (by omega)]⟩
    unfold fmt
    rw [e1,if_neg (by omega),decide_eq_true (by omega),r1]
    rfl
  ·obtain ⟨r1,r2⟩:=x9 h
   have e1:b % 9223372036854775808=b:=by omega
   refine ⟨?_,by omega,by unfold canon;rw [if_neg (by omega)]⟩
   unfold fmt
   rw [e1,if_neg (by omega),decide_eq_false (by omega)]
   exact r1.symm
end Go.Proofs.YtoofbflplhbpbaaGreatDoor.Num
namespace Go.Proofs.YtoofbflplhbpbaaGreatDoor.Cel
open Go
abbrev L:=List UInt8
structure V where
 kind:Int
 num:Int
 text:L
 nums:List Int
 texts:List L
def V0:V:=⟨0,0, [], [], []⟩
def u64 (n:Int):Nat:=(n % 18446744073709551616).toNat
def s64 (b:Nat):Int:=if b<9223372036854775808 then (b:Int) else (b:Int) - 18446744073709551616
def In64 (n:Int):Prop:= -9223372036854775808≤n∧n≤9223372036854775807
def jA (n:Int):Bool:=decide (9218868437227405312<u64 n % 9223372036854775808) && decide (u64 n≠9221120237041090560)
def aV (k n:Int):Nat:=if k=1∧n≠0∧n≠1 then 42 else if k=3∧jA n=true then 43 else 0
def dD (k:Int):List Int→Nat
 | []=>0
 | n :: r=>if aV k n≠0 then aV k n else dD k r
def dP (l:List L):Bool:=l.any fun s=>decide (1000<s.length)
def Unused (v:V):Prop:=(v.num≠0∧3<v.kind)∨(v.text≠ []∧v.kind≠4)∨(v.nums≠ []∧(v.kind<5∨v.kind=8))∨(v.texts≠ []∧v.kind≠8)
instance (v:V):Decidable (Unused v):=by unfold Unused;infer_instance
def check (v:V):Nat:=
 if v.kind<1∨8<v.kind then 40 else
 if Unused v then 41 else
 if 40<v.nums.length∨40<v.texts.length then 45 else
 if 1000<v.text.length∨dP v.texts=true then 44 else
 if v.kind<4 then aV v.kind v.num else dD (v.kind - 4) v.nums
def cls (k:Int):UInt8:=if k=1 then 98 else if k=2 then 105 else if k=3 then 102 else 115
def letter (k:Int):L:=if 4<k then [cls (k - 4),91,93] else [cls k]
def TRUE:L:= [116,114,117,101]
def FALSE:L:= [102,97,108,115,101]
def oU (k n:Int):L:=if k=2 then Lib.itoa n else if k=3 then Num.fmt (u64 n) else if n=0 then FALSE else TRUE
def lM:L→L
 | []=> []
 | c :: r=>if c=92∨c=59 then 92 :: c :: lM r else c :: lM r
def rV (k n:Int):L:=oU k n ++ [59]
def textE (t:L):L:=lM t ++ [59]
def print (v:V):L:=letter v.kind ++ [58] ++(if v.kind<4 then oU v.kind v.num else []) ++ v.text ++ v.nums.flatMap (rV (v.kind - 4)) ++ v.texts.flatMap textE
def jT (v:V):L×Nat:=if check v=0 then (print v,0) else ([],check v)
def je (k:Int) (s:L):Int×Nat:=
 if k=1 then (if s=TRUE then (1,0) else if s=FALSE then (0,0) else (0,220)) else
 if k=2 then Num.aW s else
 match Num.parse s with
 | some b=>(s64 b,0)
 | none=>(0,52)
def cut59:L→L→Option (L×L)
 | [],_=>none
 | c :: r,b=>if c=59 then some (b,r) else cut59 r (b ++ [c])
def elem:L→L→Option (L×L)
 | [],_=>none
 | [c],b=>if c=59 then some (b, []) else none
 | c :: d :: r,b=>
  if c=59 then some (b,d :: r) else
  if c=92 then (if d=92∨d=59 then elem r (b ++ [d]) else none) else elem (d :: r) (b ++ [c])
def lN (k:Int):Nat→L→List Int→List Int×Nat
 | 0,_,acc=>(acc,0)
 | f+1,l,acc=>
  if l= [] then (acc,0) else
  match cut59 l [] with
  | none=>([],220)
  | some (s,r)=>if (je k s).2≠0 then ([],(je k s).2) else lN k f r (acc ++ [(je k s).1])
def lQ:Nat→L→List L→List L×Nat
 | 0,_,acc=>(acc,0)
 | f+1,l,acc=>
  if l= [] then (acc,0) else
  match elem l [] with
  | none=>([],220)
  | some (s,r)=>lQ f r (acc ++ [s])
def kindOf (c:UInt8):Int:=if c=98 then 1 else if c=105 then 2 else if c=102 then 3 else if c=115 then 4 else 0
def rW:L→Option (Int×L)
 | []=>none
 | c :: r=>
  if Lib.hasPrefix r [91,93]=true then
   (if kindOf c=0∨Lib.hasPrefix (r.drop 2) [58]=false then none else some (kindOf c+4,r.drop 3))
  else
   (if kindOf c=0∨Lib.hasPrefix r [58]=false then none else some (kindOf c,r.drop 1))
def kU (k:Int) (r:L):V×Nat:=
 if 4<k then
  (if k=8 then (⟨k,0, [], [],(lQ (r.length+1) r []).1⟩,(lQ (r.length+1) r []).2)
   else (⟨k,0, [],(lN (k - 4) (r.length+1) r []).1, []⟩,(lN (k - 4) (r.length+1) r []).2))
 else if k=4 then (⟨4,0,r, [], []⟩,0)
 else (⟨k,(je k r).1, [], [], []⟩,(je k r).2)
def parse (s:L):V×Nat:=
 match rW s with
 | none=>(V0,220)
 | some (k,r)=>if (kU k r).2≠0 then (V0,(kU k r).2) else if check (kU k r).1≠0 then (V0,check (kU k r).1) else ((kU k r).1,0)
theorem kV (n:Int):u64 n<18446744073709551616:=by unfold u64;omega
theorem Gm {n:Int} (h:In64 n):s64 (u64 n)=n:=by
 obtain ⟨h1,h2⟩:=h
 unfold s64 u64
 split<;> omega
theorem Gn {b:Nat} (h:b<18446744073709551616):u64 (s64 b)=b:=by
 unfold s64 u64
 split<;> omega
theorem yg {b:Nat} (h:b<18446744073709551616):In64 (s64 b):=by
 unfold s64 In64
 split<;> omega
theorem Gp {n:Int} (h:jA n=false):Num.canon (u64 n)=u64 n:=by
 unfold Num.canon
 split
 ·rename_i h1
  unfold jA at h
  rw [decide_eq_true h1,Bool.true_and,decide_eq_false_iff_not,Decidable.not_not] at h
  exact h.symm
 ·rfl
theorem yh {k n:Int} {s:L} (hk:1≤k) (hk3:k≤3) (h:je k s=(n,0)):oU k n=s∧In64 n:=by
 unfold je at h
 unfold oU
 by_cases h2:k=2
 ·rw [if_neg (by omega),if_pos h2] at h
  rw [if_pos h2]
  refine ⟨Num.FN h, ?_⟩
  have:=h
  unfold Num.aW at this
  simp only at this
  unfold In64
  repeat' split at this
  all_goals first
   |(simp only [Prod.mk.injEq] at this;omega)
   |(obtain ⟨rfl,-⟩:=Prod.mk.inj this;omega)
 by_cases h3:k=3
 ·rw [if_neg (by omega),if_neg h2] at h
  rw [if_neg h2,if_pos h3]
  cases hp:Num.parse s with
  | none=>rw [hp] at h;simp at h
  | some b=>
   rw [hp] at h
   simp only [Prod.mk.injEq,and_true] at h
   obtain ⟨g1,g2,-⟩:=Num.rU hp
   subst h
   exact ⟨by rw [Gn g2,g1],yg g2⟩
 ·have h1:k=1:=by omega
  rw [if_pos h1] at h
  rw [if_neg h2,if_neg h3]
  split at h
  ·rename_i e
   cases h
   exact ⟨by rw [e];rfl,by unfold In64;omega⟩
  ·split at h
   ·rename_i e
    cases h
    exact ⟨by rw [e];rfl,by unfold In64;omega⟩
   ·cases h
theorem yu: ∀(l b x r:L),cut59 l b=some (x,r)→ ∃a,x=b ++ a∧l=a ++ 59 :: r
 | [],b,x,r,h=>by cases h
 | c :: l,b,x,r,h=>by
  unfold cut59 at h
  split at h
  ·rename_i hc
   cases h
   exact ⟨[],by simp,by rw [hc];rfl⟩
  ·obtain ⟨a,e1,e2⟩:=yu l _ x r h
   exact ⟨c :: a,by rw [e1];simp,by rw [e2];rfl⟩
theorem elem_cons {c:UInt8} {l b:L} (h1:c≠59) (h2:c≠92):elem (c :: l) b=elem l (b ++ [c]):=by
 cases l with
 | nil=>simp only [elem];rw [if_neg h1]
 | cons d r=>rw [elem,if_neg h1,if_neg h2]
theorem Gq (l b:L):elem (59 :: l) b=some (b,l):=by
 cases l with
 | nil=>simp [elem]
 | cons d r=>simp [elem]
theorem Gs {d:UInt8} {l b:L} (h:d=92∨d=59):elem (92 :: d :: l) b=elem l (b ++ [d]):=by
 rw [elem,if_neg (by decide),if_pos rfl,if_pos h]
theorem rX: ∀(n:Nat) (l b x r:L),l.length≤n→elem l b=some (x,r)→ ∃t,x=b ++ t∧l=lM t ++ 59 :: r
 | _, [],b,x,r,_,h=>by cases h
 | 0,c :: l,b,x,r,hl,h=>by simp at hl
 | n+1,c :: l,b,x,r,hl,h=>by
  rw [List.length_cons] at hl
  by_cases h1:c=59
  ·subst h1
   rw [Gq] at h
   cases h
   exact ⟨[],by simp,rfl⟩
  by_cases h2:c=92
  ·subst h2
   cases l with
   | nil=>simp [elem] at h
   | cons d l=>
    by_cases hd:d=92∨d=59
    ·rw [Gs hd] at h
     obtain ⟨t,e1,e2⟩:=rX n l _ x r (by rw [List.length_cons] at hl;omega) h
     exact ⟨d :: t,by rw [e1];simp,by rw [lM,if_pos hd,e2];rfl⟩
    ·rw [elem,if_neg (by decide),if_pos rfl,if_neg hd] at h
     cases h
  ·rw [elem_cons h1 h2] at h
   obtain ⟨t,e1,e2⟩:=rX n l _ x r (by omega) h
   exact ⟨c :: t,by rw [e1];simp,by rw [lM,if_neg (fun e=>e.elim h2 h1),e2];rfl⟩
theorem yw {k n:Int} {r:List Int} (h:dD k (n :: r)=0):aV k n=0∧dD k r=0:=by
 unfold dD at h
 split at h
 ·rename_i h1;exact absurd h h1
 ·rename_i h1;exact ⟨by omega,h⟩
theorem yx {k:Int} (hk:1≤k) (hk3:k≤3): ∀(f:Nat) (l:L) (acc ns:List Int),l.length<f→lN k f l acc=(ns,0)→ ∃m,ns=acc ++ m∧l=m.flatMap (rV k)∧ ∀n∈m,In64 n
 | 0,l,acc,ns,h,_=>by omega
 | f+1,l,acc,ns,hf,h=>by
  unfold lN at h
  split at h
  ·rename_i hl
   cases h
   exact ⟨[],by simp,by rw [hl];rfl,by simp⟩
  ·cases hc:cut59 l [] with
   | none=>rw [hc] at h;simp at h
   | some x=>
    obtain ⟨s,r⟩:=x
    rw [hc] at h
    simp only at h
    obtain ⟨a,e1,e2⟩:=yu l [] s r hc
    rw [List.nil_append] at e1
    subst e1
    split at h
    ·rename_i hne
     simp only [Prod.mk.injEq] at h
     exact absurd h.2 hne
    ·rename_i hne
     obtain ⟨n,hn⟩: ∃n,je k s=(n,0):=⟨(je k s).1,by rw [←Decidable.not_not.1 hne]⟩
     rw [hn] at h
     obtain ⟨g1,g2⟩:=yh hk hk3 hn
     obtain ⟨m,e3,e4,e5⟩:=yx hk hk3 f r _ ns (by rw [e2] at hf;simp at hf;omega) h
     refine ⟨n :: m,by rw [e3];simp, ?_, ?_⟩
     ·rw [e2,e4,List.flatMap_cons,rV,g1]
      simp
     ·intro x hx
      rcases List.mem_cons.1 hx with rfl | hx
      ·exact g2
      ·exact e5 x hx
theorem yA: ∀(f:Nat) (l:L) (acc ts:List L),l.length<f→lQ f l acc=(ts,0)→ ∃m,ts=acc ++ m∧l=m.flatMap textE
 | 0,l,acc,ts,h,_=>by omega
 | f+1,l,acc,ts,hf,h=>by
  unfold lQ at h
  split at h
  ·rename_i hl
   cases h
   exact ⟨[],by simp,by rw [hl];rfl⟩
  ·cases hc:elem l [] with
   | none=>rw [hc] at h;simp at h
   | some x=>
    obtain ⟨s,r⟩:=x
    rw [hc] at h
    simp only at h
    obtain ⟨a,e1,e2⟩:=rX _ l [] s r (Nat.le_refl _) hc
    rw [List.nil_append] at e1
    subst e1
    obtain ⟨m,e3,e4⟩:=yA f r _ ts (by rw [e2] at hf;simp at hf;omega) h
    refine ⟨s :: m,by rw [e3];simp, ?_⟩
    rw [e2,e4,List.flatMap_cons,textE]
    simp
theorem yB {c:UInt8} (h:kindOf c≠0):cls (kindOf c)=c∧1≤kindOf c∧kindOf c≤4:=by
 unfold kindOf at h⊢
 repeat' split at h
 all_goals first
  |(rename_i e;subst e;decide)
  |(exfalso;exact h rfl)
  |(rename_i a b c e;subst e;decide)
  |(rename_i a e;subst e;decide)
  |(rename_i a b e;subst e;decide)
theorem mP (l p:L):Lib.hasPrefix l p=true↔ ∃r,l=p ++ r:=by
 unfold Lib.hasPrefix
 rw [List.isPrefixOf_iff_prefix]
 constructor
 ·rintro ⟨r,hr⟩;exact ⟨r,hr.symm⟩
 ·rintro ⟨r,hr⟩;exact ⟨r,hr.symm⟩
theorem Gt {s:L} {k:Int} {r:L} (h:rW s=some (k,r)):s=letter k ++ [58] ++ r∧1≤k∧k≤8:=by
 unfold rW at h
 split at h
 ·cases h
 ·rename_i c l
  split at h
  ·rename_i hp
   split at h
   ·cases h
   ·rename_i hn
    simp only [not_or] at hn
    obtain ⟨hn1,hn2⟩:=hn
    obtain ⟨g1,g2,g3⟩:=yB hn1
    obtain ⟨t,rfl⟩:=(mP _ _).1 hp
    obtain ⟨u,hu⟩:=(mP _ _).1 (by simpa using hn2)
    have hu':t=58 :: u:=hu
    subst hu'
    simp only [Option.some.injEq,Prod.mk.injEq] at h
    obtain ⟨rfl,rfl⟩:=h
    refine ⟨?_,by omega,by omega⟩
    unfold letter
    rw [if_pos (by omega),show kindOf c+4 - 4=kindOf c by omega,g1]
    rfl
  ·split at h
   ·cases h
   ·rename_i hn
    simp only [not_or] at hn
    obtain ⟨hn1,hn2⟩:=hn
    obtain ⟨g1,g2,g3⟩:=yB hn1
    obtain ⟨u,rfl⟩:=(mP _ _).1 (by simpa using hn2)
    simp only [Option.some.injEq,Prod.mk.injEq] at h
    obtain ⟨rfl,rfl⟩:=h
    refine ⟨?_,by omega,by omega⟩
    unfold letter
    rw [if_neg (by omega),g1]
    rfl
theorem Gu {v:V} (h:check v=0):1≤v.kind∧v.kind≤8:=by
 unfold check at h
 split at h
 ·cases h
 ·omega
theorem jB {v:V} (h:check v=0):1≤v.kind∧v.kind≤8∧ ¬Unused v∧v.nums.length≤40∧v.texts.length≤40∧v.text.length≤1000∧dP v.texts=false∧(if v.kind<4 then aV v.kind v.num else dD (v.kind - 4) v.nums)=0:=by
 have hr:=Gu h
 unfold check at h
 rw [if_neg (by omega)] at h
 split at h
 ·cases h
 ·rename_i hu
  split at h
  ·cases h
  ·rename_i hl
   split at h
   ·cases h
   ·rename_i ht
    simp only [not_or] at ht
    exact ⟨hr.1,hr.2,hu,by omega,by omega,by omega,Bool.eq_false_iff.2 ht.2,h⟩
theorem one {s:L} {v:V} (h:parse s=(v,0)):check v=0∧print v=s∧In64 v.num∧ ∀n∈v.nums,In64 n:=by
 unfold parse at h
 split at h
 ·cases h
 ·rename_i k r hh
  obtain ⟨hs,h1,h8⟩:=Gt hh
  split at h
  ·rename_i hne
   simp only [Prod.mk.injEq] at h
   exact absurd h.2 hne
  ·rename_i hz
   split at h
   ·rename_i hne
    simp only [Prod.mk.injEq] at h
    exact absurd h.2 hne
   ·rename_i hc
    simp only [Prod.mk.injEq,and_true] at h
    have hz':(kU k r).2=0:=by omega
    have hc':check v=0:=by rw [←h];omega
    refine ⟨hc', ?_⟩
    clear hc hz hh
    unfold kU at h hz'
    rw [hs]
    unfold print
    by_cases k4:4<k
    ·rw [if_pos k4] at h hz'
     by_cases k8:k=8
     ·rw [if_pos k8] at h hz'
      simp only at h hz'
      obtain ⟨m,e1,e2⟩:=yA (r.length+1) r [] (lQ (r.length+1) r []).1 (by omega) (by rw [←hz'])
      rw [List.nil_append] at e1
      rw [←h]
      simp only
      rw [e1,if_neg (by omega),←e2]
      exact ⟨by simp,by unfold In64;omega,by simp⟩
     ·rw [if_neg k8] at h hz'
      simp only at h hz'
      obtain ⟨m,e1,e2,e3⟩:=yx (k:=k - 4) (by omega) (by omega) (r.length+1) r [] (lN (k - 4) (r.length+1) r []).1 (by omega) (by rw [←hz'])
      rw [List.nil_append] at e1
      rw [←h]
      simp only
      rw [e1,if_neg (by omega),←e2]
      exact ⟨by simp,by unfold In64;omega,e3⟩
    ·rw [if_neg k4] at h hz'
     by_cases k44:k=4
     ·rw [if_pos k44] at h
      rw [←h]
      simp only
      rw [if_neg (by omega),k44]
      exact ⟨by simp,by unfold In64;omega,by simp⟩
     ·rw [if_neg k44] at h hz'
      simp only at hz'
      obtain ⟨g1,g2⟩:=yh (k:=k) (n:=(je k r).1) (s:=r) (by omega) (by omega) (by rw [←hz'])
      rw [←h]
      simp only
      rw [if_pos (by omega),g1]
      exact ⟨by simp,g2,by simp⟩
end Go.Proofs.YtoofbflplhbpbaaGreatDoor.Cel
