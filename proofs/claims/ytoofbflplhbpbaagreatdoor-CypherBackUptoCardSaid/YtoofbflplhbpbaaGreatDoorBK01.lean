/- Contracts and plain laws,part 1. -/
import Derived.Test.YtoofbflplhbpbaaGreatDoorBK00
import Derived.Lib.ItoaMem
import Derived.Lib.ParseIntBTie
import Derived.Lib.TrailingZeros
import Derived.Lib.SlTrimSet
import Derived.Lib.BitFns
import Derived.Lib.Strings
set_option linter.all false
namespace Go.Proofs.YtoofbflplhbpbaaGreatDoor.Num
open Go
abbrev L:=List UInt8
def au (c:UInt8):Bool:=decide (48≤c.toNat) && decide (c.toNat≤57)
theorem iM (c:UInt8):au c=true↔48≤c.toNat∧c.toNat≤57:=by simp [au]
def qX:L→Nat→Nat
 | [],acc=>acc
 | c :: r,acc=>qX r (acc*10+(c.toNat - 48))
def aH (acc:Nat) (l:L):Nat:=qX l acc
theorem jR (acc:Nat):aH acc []=acc:=rfl
theorem iq (acc:Nat) (c:UInt8) (r:L):aH acc (c :: r)=aH (acc*10+(c.toNat - 48)) r:=by unfold aH;rw [qX]
theorem qY: ∀(r:L) (acc:Nat) (q:L),aH acc (r ++ q)=aH (aH acc r) q
 | [],acc,q=>by rw [List.nil_append,jR]
 | c :: r,acc,q=>by rw [List.cons_append,iq,iq,qY r]
theorem oI: ∀(r:L) (acc:Nat),acc*10 ^ r.length≤aH acc r
 | [],acc=>by simp [jR]
 | c :: r,acc=>by
  have h:=oI r (acc*10+(c.toNat - 48))
  have h2:acc*10 ^(r.length+1)=(acc*10)*10 ^ r.length:=by rw [Nat.pow_succ,Nat.mul_assoc,Nat.mul_comm 10]
  have h3:(acc*10)*10 ^ r.length≤(acc*10+(c.toNat - 48))*10 ^ r.length:=Nat.mul_le_mul_right _ (Nat.le_add_right _ _)
  rw [List.length_cons,iq,h2]
  exact Nat.le_trans h3 h
theorem qZ: ∀(r:L) (acc:Nat),r.all au=true→aH acc r<(acc+1)*10 ^ r.length
 | [],acc,_=>by simp [jR]
 | c :: r,acc,h=>by
  simp only [List.all_cons,Bool.and_eq_true,iM] at h
  have h1:=qZ r (acc*10+(c.toNat - 48)) h.2
  have h3:(acc*10+(c.toNat - 48)+1)*10 ^ r.length≤((acc+1)*10)*10 ^ r.length:=Nat.mul_le_mul_right _ (by omega)
  have h2:(acc+1)*10 ^(r.length+1)=((acc+1)*10)*10 ^ r.length:=by rw [Nat.pow_succ,Nat.mul_assoc,Nat.mul_comm 10]
  rw [List.length_cons,iq,h2]
  exact Nat.lt_of_lt_of_le h1 h3
theorem xu (r:L) (acc:Nat):acc≤aH acc r:=by
 have h:=oI r acc
 have h1:1≤10 ^ r.length:=Nat.one_le_pow _ _ (by decide)
 have h2:=Nat.le_mul_of_pos_right acc h1
 omega
theorem oJ {u:Nat} (h: ¬u<10):Lib.decDigits u=Lib.decDigits (u / 10) ++ [UInt8.ofNat (48+u % 10)]:=by rw [Lib.decDigits,dif_neg h]
theorem mJ {d:Nat} (h:d<10):(UInt8.ofNat (48+d)).toNat=48+d:=by simp;omega
theorem xw (u:Nat):(Lib.decDigits u).all au=true:=by
 induction u using Nat.strongRecOn with
 | _ u ih=>
  by_cases h:u<10
  ·rw [Lib.decDigits_one h];simp only [List.all_cons,List.all_nil,Bool.and_true,iM];rw [mJ h];omega
  ·rw [oJ h,List.all_append,ih _ (by omega)]
   simp only [List.all_cons,List.all_nil,Bool.and_true,Bool.true_and,iM]
   rw [mJ (by omega)];omega
theorem oK (u:Nat):aH 0 (Lib.decDigits u)=u:=by
 induction u using Nat.strongRecOn with
 | _ u ih=>
  by_cases h:u<10
  ·rw [Lib.decDigits_one h];simp only [jR,iq];rw [mJ h];omega
  ·rw [oJ h,qY,ih _ (by omega)]
   simp only [jR,iq]
   rw [mJ (by omega)];omega
theorem xA (u:Nat) (h0:u≠0): ∃c r,Lib.decDigits u=c :: r∧c.toNat≠48:=by
 induction u using Nat.strongRecOn with
 | _ u ih=>
  by_cases h:u<10
  ·exact ⟨_, [],Lib.decDigits_one h,by rw [mJ h];omega⟩
  ·obtain ⟨c,r,e,hc⟩:=ih (u / 10) (by omega) (by omega)
   exact ⟨c,r ++ [UInt8.ofNat (48+u % 10)],by rw [oJ h,e];rfl,hc⟩
theorem oL:Lib.decDigits 0= [48]:=Lib.decDigits_one (by omega)
theorem mM (u:Nat):(Lib.decDigits u).length=Lib.nDigits u:=Lib.decDigits_length u
theorem toNat_ne {c:UInt8} {n:Nat} (hn:n<256):c≠UInt8.ofNat n↔c.toNat≠n:=by
 constructor
 ·intro h e
  exact h (UInt8.toNat_inj.1 (by simp;omega))
 ·intro h e
  exact h (by rw [e];simp;omega)
theorem byte_back {c:UInt8} (h:48≤c.toNat) (h2:c.toNat≤57):UInt8.ofNat (48+(c.toNat - 48))=c:=by
 rw [show 48+(c.toNat - 48)=c.toNat by omega];exact UInt8.ofNat_toNat
theorem oM (t:L):t= []∨ ∃t' d,t=t' ++ [d]:=by
 induction t with
 | nil=>exact .inl rfl
 | cons c t ih=>
  refine .inr ?_
  rcases ih with rfl |⟨t',d,rfl⟩
  ·exact ⟨[],c,rfl⟩
  ·exact ⟨c :: t',d,rfl⟩
theorem FK: ∀(n:Nat) (r:L),r.length=n→r.all au=true→(∃c t,r=c :: t∧c.toNat≠48)→Lib.decDigits (aH 0 r)=r:=by
 intro n
 induction n with
 | zero=>intro r hr _ ⟨c,t,e,_⟩;rw [e] at hr;simp at hr
 | succ n ih=>
  intro r hr hall ⟨c,t,e,hc⟩
  rcases oM t with ht |⟨t',d,ht⟩
  ·subst ht e
   simp only [List.all_cons,List.all_nil,Bool.and_true,iM] at hall
   simp only [jR,iq]
   rw [show 0*10+(c.toNat - 48)=c.toNat - 48 by omega,Lib.decDigits_one (by omega),byte_back hall.1 hall.2]
  ·subst ht e
   have e2:c ::(t' ++ [d])=(c :: t') ++ [d]:=rfl
   rw [e2] at hr hall⊢
   rw [List.all_append] at hall
   simp only [Bool.and_eq_true,List.all_cons (a:=d),List.all_nil,and_true,iM] at hall
   have h1:=ih (c :: t') (by simpa using hr) hall.1 ⟨c,t',rfl,hc⟩
   have hb:=oI t' (c.toNat - 48)
   have h2:1≤aH 0 (c :: t'):=by
    have hcd:au c=true:=by
     have:=hall.1
     simp only [List.all_cons,Bool.and_eq_true] at this
     exact this.1
    rw [iM] at hcd
    have:=xu t' (0*10+(c.toNat - 48))
    simp only [iq]
    omega
   rw [qY]
   simp only [jR,iq]
   simp only [iq] at h1 h2
   rw [oJ (by omega)]
   rw [show (aH (0*10+(c.toNat - 48)) t'*10+(d.toNat - 48)) / 10=aH (0*10+(c.toNat - 48)) t' by omega,h1,
    show (aH (0*10+(c.toNat - 48)) t'*10+(d.toNat - 48)) % 10=d.toNat - 48 by omega,byte_back hall.2.1 hall.2.2]
theorem xB: ∀(r:L) (acc:Nat),r.all au=true→acc≤18446744073709551615→
  Lib.parseUintM 18446744073709551615 acc r=if aH acc r≤18446744073709551615 then .ok (aH acc r) else .range
 | [],acc,_,ha=>by rw [jR,if_pos ha];rfl
 | c :: r,acc,h,ha=>by
  simp only [List.all_cons,Bool.and_eq_true,iM] at h
  have hm:=xu r (acc*10+(c.toNat - 48))
  simp only [Lib.parseUintM,iq]
  rw [if_pos h.1]
  by_cases h1:1844674407370955162≤acc
  ·rw [if_pos h1,if_neg (by omega)]
  ·rw [if_neg h1]
   by_cases h2:18446744073709551615<acc*10+(c.toNat - 48)
   ·rw [if_pos h2,if_neg (by omega)]
   ·rw [if_neg h2]
    exact xB r _ h.2 (by omega)
def isInt (l:L):Bool:=
 if l= [48] then true else
 match (if l.head?=some 45 then l.drop 1 else l) with
 | []=>false
 | c :: r=> !(c == 48) &&(c :: r).all au
def aW (l:L):Int×Nat:=
 let neg:=l.head?=some 45
 let r:=if neg then l.drop 1 else l
 if r= []∨(r.head?=some 48∧1<l.length) then (0,50) else
 if¬r.all au then (0,50) else
 if 19<r.length then (0,51) else
 if neg then (if 9223372036854775808<aH 0 r then (0,51) else (-(aH 0 r:Int),0)) else
 if 9223372036854775808≤aH 0 r then (0,51) else ((aH 0 r:Int),0)
theorem isInt_iff (l:L):isInt l=true↔ ∃(neg:Bool) (r:L),l=(if neg then [45] else []) ++ r∧r.all au=true∧((∃c t,r=c :: t∧c≠48)∨(r= [48]∧neg=false)):=by
 unfold isInt
 by_cases h48:l= [48]
 ·subst h48
  simp only [if_true,true_iff]
  exact ⟨false, [48],rfl,by decide, .inr ⟨rfl,rfl⟩⟩
 ·rw [if_neg h48]
  by_cases hn:l.head?=some 45
  ·rw [if_pos hn]
   obtain ⟨t,rfl⟩: ∃t,l=45 :: t:=by
    cases l with
    | nil=>simp at hn
    | cons c t=>simp at hn;subst hn;exact ⟨t,rfl⟩
   simp only [List.drop_succ_cons,List.drop_zero]
   constructor
   ·intro h
    cases t with
    | nil=>simp at h
    | cons c t=>
     simp only [Bool.and_eq_true,Bool.not_eq_true',beq_eq_false_iff_ne] at h
     exact ⟨true,c :: t,rfl,h.2, .inl ⟨c,t,rfl,h.1⟩⟩
   ·rintro ⟨neg,r,e,hall,hh⟩
    cases neg with
    | true=>
     simp only [if_true,List.singleton_append,List.cons.injEq,true_and] at e
     subst e
     rcases hh with ⟨c,t',rfl,hc⟩ |⟨_,h⟩
     ·simp only [Bool.and_eq_true,Bool.not_eq_true',beq_eq_false_iff_ne]
      exact ⟨hc,hall⟩
     ·cases h
    | false=>
     simp only [Bool.false_eq_true,if_false,List.nil_append] at e
     subst e
     simp only [List.all_cons,Bool.and_eq_true] at hall
     exact absurd hall.1 (by decide)
  ·rw [if_neg hn]
   constructor
   ·intro h
    cases l with
    | nil=>simp at h
    | cons c t=>
     simp only [Bool.and_eq_true,Bool.not_eq_true',beq_eq_false_iff_ne] at h
     exact ⟨false,c :: t,rfl,h.2, .inl ⟨c,t,rfl,h.1⟩⟩
   ·rintro ⟨neg,r,e,hall,hh⟩
    cases neg with
    | true=>subst e;simp at hn
    | false=>
     simp only [Bool.false_eq_true,if_false,List.nil_append] at e
     subst e
     rcases hh with ⟨c,t',rfl,hc⟩ |⟨h,_⟩
     ·simp only [Bool.and_eq_true,Bool.not_eq_true',beq_eq_false_iff_ne]
      exact ⟨hc,hall⟩
     ·exact absurd h h48
theorem ru {c:UInt8} {t:L} (h:(c :: t).all au=true):c.toNat≠45∧c.toNat≠43:=by
 simp only [List.all_cons,Bool.and_eq_true,iM] at h
 omega
def over (neg:Bool) (v:Nat):Prop:=if neg then 9223372036854775808<v else 9223372036854775808≤v
instance (neg:Bool) (v:Nat):Decidable (over neg v):=by unfold over;cases neg<;> infer_instance
def fU (neg:Bool) (v:Nat):Int:=if neg then -(v:Int) else v
def sg (neg:Bool):L:=if neg then [45] else []
def Good (neg:Bool) (r:L):Prop:=r.all au=true∧((∃c t,r=c :: t∧c≠48)∨(r= [48]∧neg=false))
theorem ne48 {c:UInt8}:c≠48↔c.toNat≠48:=toNat_ne (n:=48) (by decide)
theorem FM {r:L} (h:r.all au=true) {c:UInt8} {t:L} (e:r=c :: t) (hc:c≠48) (hl:19<r.length):10000000000000000000≤aH 0 r:=by
 subst e
 have h1:=h
 simp only [List.all_cons,Bool.and_eq_true,iM] at h1
 have hc':=ne48.1 hc
 rw [iq]
 have h2:=oI t (0*10+(c.toNat - 48))
 have h3:10 ^ 19≤10 ^ t.length:=Nat.pow_le_pow_right (by decide) (by simp at hl;omega)
 have h4:1*10 ^ t.length≤(0*10+(c.toNat - 48))*10 ^ t.length:=Nat.mul_le_mul_right _ (by omega)
 rw [Nat.one_mul] at h4
 exact Nat.le_trans (Nat.le_trans h3 h4) h2
theorem oN {neg:Bool} {r:L} (h:Good neg r):aW (sg neg ++ r)=if over neg (aH 0 r) then (0,51) else (fU neg (aH 0 r),0):=by
 obtain ⟨hall,hh⟩:=h
 have hne:r≠ []:=by rcases hh with ⟨c,t,rfl,_⟩ |⟨rfl,_⟩<;> simp
 have hbig:19<r.length→10000000000000000000≤aH 0 r:=fun hl=>by
  rcases hh with ⟨c,t,e,hc⟩ |⟨rfl,_⟩
  ·exact FM hall e hc hl
  ·simp at hl
 cases neg with
 | true=>
  have h48: ¬(r.head?=some 48∧1<(45 :: r).length):=by
   rcases hh with ⟨c,t,rfl,hc⟩ |⟨_,h⟩
   ·simp [hc]
   ·cases h
  unfold aW sg
  simp only [if_true,List.singleton_append,List.head?_cons,List.drop_succ_cons,List.drop_zero]
  rw [if_neg (by simp only [hne,false_or];exact h48),if_neg (by simp [hall])]
  unfold over fU
  simp only [if_true]
  by_cases hl:19<r.length
  ·have:=hbig hl
   rw [if_pos hl,if_pos (by omega)]
  ·rw [if_neg hl]
 | false=>
  have hhd:r.head?≠some 45:=by
   cases r with
   | nil=>simp
   | cons c t=>have:=(ru hall).1;simp;intro e;subst e;exact this rfl
  have h48: ¬(r.head?=some 48∧1<r.length):=by
   rcases hh with ⟨c,t,rfl,hc⟩ |⟨rfl,_⟩
   ·simp [hc]
   ·simp
  unfold aW sg
  simp only [Bool.false_eq_true,if_false,List.nil_append,if_neg hhd]
  rw [if_neg (by simp only [hne,false_or];exact h48),if_neg (by simp [hall])]
  unfold over fU
  simp only [Bool.false_eq_true,if_false]
  by_cases hl:19<r.length
  ·have:=hbig hl
   rw [if_pos hl,if_pos (by omega)]
  ·rw [if_neg hl]
theorem lK (l:L):isInt l=true↔ ∃neg r,l=sg neg ++ r∧Good neg r:=isInt_iff l
theorem rC {l:L} (h:isInt l=false):aW l=(0,50):=by
 have hn: ¬ ∃neg r,l=sg neg ++ r∧Good neg r:=fun hh=>by rw [(lK l).2 hh] at h;cases h
 have key: ∀(neg:Bool) (r:L),l=sg neg ++ r→(neg=true→l.head?=some 45)→r= []∨(r.head?=some 48∧1<l.length)∨ ¬r.all au=true:=fun neg r e he=>by
  refine Classical.byContradiction fun hc=> ?_
  simp only [not_or,Decidable.not_not] at hc
  obtain ⟨c1,c2,c3⟩:=hc
  refine hn ⟨neg,r,e,c3, ?_⟩
  cases r with
  | nil=>exact absurd rfl c1
  | cons c t=>
   by_cases h48:c=48
   ·subst h48
    have hl: ¬1<l.length:=fun hl=>c2 ⟨rfl,hl⟩
    rw [e] at hl
    cases neg with
    | true=>simp [sg] at hl
    | false=>
     cases t with
     | nil=>exact .inr ⟨rfl,rfl⟩
     | cons d t=>simp [sg] at hl
   ·exact .inl ⟨c,t,rfl,h48⟩
 unfold aW
 by_cases hd:l.head?=some 45
 ·obtain ⟨t,rfl⟩: ∃t,l=45 :: t:=by
   cases l with
   | nil=>simp at hd
   | cons c t=>simp at hd;subst hd;exact ⟨t,rfl⟩
  have:=key true t rfl (fun _=>rfl)
  simp only [List.head?_cons,if_true,List.drop_succ_cons,List.drop_zero]
  rcases this with h1 | h1 | h1
  ·rw [if_pos (.inl h1)]
  ·rw [if_pos (.inr h1)]
  ·by_cases h2:t= []∨(t.head?=some 48∧1<(45 :: t).length)
   ·rw [if_pos h2]
   ·rw [if_neg h2,if_pos h1]
 ·have:=key false l rfl (fun e=>by cases e)
  simp only [if_neg hd]
  rcases this with h1 | h1 | h1
  ·rw [if_pos (.inl h1)]
  ·rw [if_pos (.inr h1)]
  ·by_cases h2:l= []∨(l.head?=some 48∧1<l.length)
   ·rw [if_pos h2]
   ·rw [if_neg h2,if_pos h1]
theorem rD {neg:Bool} {r:L} (h:Good neg r):Lib.parseIntB 64 (sg neg ++ r)=if over neg (aH 0 r) then .range else .ok (fU neg (aH 0 r)):=by
 obtain ⟨hall,hh⟩:=h
 have hne:r≠ []:=by rcases hh with ⟨c,t,rfl,_⟩ |⟨rfl,_⟩<;> simp
 have hu:Lib.parseMag r=if aH 0 r≤18446744073709551615 then .ok (aH 0 r) else .range:=by
  unfold Lib.parseMag
  rw [if_neg hne,←Lib.parseUintM_64,xB r 0 hall (by omega)]
 rw [Lib.parseIntB_64]
 obtain ⟨c,t,rfl⟩: ∃c t,r=c :: t:=by
  cases r with
  | nil=>exact absurd rfl hne
  | cons c t=>exact ⟨c,t,rfl⟩
 obtain ⟨h45,h43⟩:=ru hall
 obtain ⟨v,hv⟩: ∃v,aH 0 (c :: t)=v:=⟨_,rfl⟩
 rw [hv] at hu⊢
 cases neg with
 | true=>
  show Lib.atoiAll (45 :: c :: t)=_
  unfold Lib.atoiAll over fU
  simp only [show (45:UInt8).toNat=45 from rfl,or_true,if_true,hu]
  by_cases hb:v≤18446744073709551615
  ·rw [if_pos hb]
   simp only [not_true,false_and,if_false,true_and]
  ·rw [if_neg hb]
   simp only
   rw [if_pos (by omega)]
 | false=>
  show Lib.atoiAll (c :: t)=_
  unfold Lib.atoiAll over fU
  simp only [h43,h45,or_self,if_false,hu,Bool.false_eq_true]
  by_cases hb:v≤18446744073709551615
  ·rw [if_pos hb]
   simp only [not_false_eq_true,true_and,false_and,if_false]
  ·rw [if_neg hb]
   simp only
   rw [if_pos (by omega)]
theorem oO (n:Int): ∃neg r,Lib.itoa n=sg neg ++ r∧Good neg r∧fU neg (aH 0 r)=n∧aH 0 r=n.natAbs∧(neg=true↔n<0):=by
 unfold Lib.itoa
 by_cases h:n<0
 ·rw [if_pos h]
  obtain ⟨c,r,e,hc⟩:=xA n.natAbs (by omega)
  refine ⟨true,Lib.decDigits n.natAbs,rfl,⟨xw _, .inl ⟨c,r,e,ne48.2 hc⟩⟩, ?_,oK _,by simp [h]⟩
  rw [oK]
  unfold fU
  simp only [if_true]
  omega
 ·rw [if_neg h]
  refine ⟨false,Lib.decDigits n.toNat,rfl,⟨xw _, ?_⟩, ?_,by rw [oK];omega,by simp;omega⟩
  ·by_cases h0:n.toNat=0
   ·exact .inr ⟨by rw [h0,oL],rfl⟩
   ·obtain ⟨c,r,e,hc⟩:=xA n.toNat h0
    exact .inl ⟨c,r,e,ne48.2 hc⟩
  ·rw [oK]
   unfold fU
   simp only [Bool.false_eq_true,if_false]
   omega
theorem xC (n:Int) (h0: -9223372036854775808≤n) (h1:n≤9223372036854775807):aW (Lib.itoa n)=(n,0):=by
 obtain ⟨neg,r,e,hg,hv,ha,hn⟩:=oO n
 rw [e,oN hg,if_neg,hv]
 unfold over
 cases neg with
 | true=>simp at hn⊢;omega
 | false=>simp at hn⊢;omega
theorem xE {neg:Bool} {r:L} (h:Good neg r):Lib.itoa (fU neg (aH 0 r))=sg neg ++ r:=by
 obtain ⟨hall,hh⟩:=h
 rcases hh with ⟨c,t,e,hc⟩ |⟨rfl,rfl⟩
 ·have hb:=FK r.length r rfl hall ⟨c,t,e,ne48.1 hc⟩
  have hpos:aH 0 r≠0:=fun h0=>by
   rw [h0,oL,e] at hb
   simp at hb
   exact hc hb.1.symm
  unfold Lib.itoa fU sg
  cases neg with
  | true=>
   simp only [if_true]
   rw [if_pos (by omega)]
   simp only [Int.natAbs_neg,Int.natAbs_natCast,List.singleton_append,hb]
  | false=>
   simp only [Bool.false_eq_true,if_false,List.nil_append]
   rw [if_neg (by omega)]
   simp only [Int.toNat_natCast,hb]
 ·have:aH 0 [48]=0:=rfl
  rw [this]
  unfold Lib.itoa fU sg
  simp [oL]
theorem FN {l:L} {n:Int} (h:aW l=(n,0)):Lib.itoa n=l:=by
 cases hi:isInt l with
 | false=>rw [rC hi] at h;simp at h
 | true=>
  obtain ⟨neg,r,rfl,hg⟩:=(lK l).1 hi
  rw [oN hg] at h
  split at h
  ·simp at h
  ·simp only [Prod.mk.injEq,and_true] at h
   rw [←h]
   exact xE hg
theorem FP {l:L} (h:isInt l=true):(∃v,Lib.parseIntB 64 l= .ok v∧aW l=(v,0))∨(Lib.parseIntB 64 l= .range∧aW l=(0,51)):=by
 obtain ⟨neg,r,rfl,hg⟩:=(lK l).1 h
 rw [rD hg,oN hg]
 split
 ·exact .inr ⟨rfl,rfl⟩
 ·exact .inl ⟨_,rfl,rfl⟩
def bC (d:Nat):UInt8:=UInt8.ofNat (if d<10 then 48+d else 87+d)
def aX (c:UInt8):Option Nat:=if 48≤c.toNat∧c.toNat≤57 then some (c.toNat - 48) else if 97≤c.toNat∧c.toNat≤102 then some (c.toNat - 87) else none
theorem xF: ∀d:Fin 16,aX (bC d.val)=some d.val:=by decide
theorem FQ: ∀c:Fin 256,∀d:Fin 16,aX (UInt8.ofNat c.val)=some d.val→bC d.val=UInt8.ofNat c.val:=by decide+kernel
theorem kT {c:UInt8} {d:Nat} (h:aX c=some d):d<16:=by
 unfold aX at h
 split at h
 ·simp at h;omega
 ·split at h
  ·simp at h;omega
  ·cases h
theorem FU {c:UInt8} {d:Nat} (h:aX c=some d):bC d=c:=by
 have hd:=kT h
 have:=FQ ⟨c.toNat,UInt8.toNat_lt c⟩ ⟨d,hd⟩ (by simpa using h)
 simpa using this
def hexN:Nat→Nat→L
 | 0,_=> []
 | k+1,n=>hexN k (n / 16) ++ [bC (n % 16)]
theorem jc: ∀(k n:Nat),(hexN k n).length=k
 | 0,_=>rfl
 | k+1,n=>by simp [hexN,jc k]
def hexVal:L→Nat→Option Nat
 | [],acc=>some acc
 | c :: r,acc=>match aX c with
  | some d=>hexVal r (acc*16+d)
  | none=>none
theorem mO: ∀(a b:L) (acc:Nat),hexVal (a ++ b) acc=(hexVal a acc).bind (hexVal b)
 | [],b,acc=>rfl
 | c :: r,b,acc=>by
  simp only [List.cons_append,hexVal]
  cases aX c with
  | none=>rfl
  | some d=>exact mO r b _
theorem xG: ∀(k n acc:Nat),n<16 ^ k→hexVal (hexN k n) acc=some (acc*16 ^ k+n)
 | 0,n,acc,h=>by simp at h;subst h;simp [hexN,hexVal]
 | k+1,n,acc,h=>by
  rw [Nat.pow_succ] at h
  rw [hexN,mO,xG k (n / 16) acc (by omega)]
  have e:=xF ⟨n % 16,by omega⟩
  simp only at e
  simp only [Option.bind_some,hexVal,e]
  congr 1
  rw [Nat.pow_succ,←Nat.mul_assoc]
  have:acc*16 ^ k*16=(acc*16 ^ k)*16:=rfl
  omega
theorem xH: ∀(k:Nat) (r:L) (n:Nat),r.length=k→hexVal r 0=some n→n<16 ^ k∧hexN k n=r
 | 0,r,n,hl,h=>by
  have:r= []:=List.eq_nil_of_length_eq_zero hl
  subst this
  simp [hexVal] at h
  subst h
  exact ⟨by simp,rfl⟩
 | k+1,r,n,hl,h=>by
  rcases oM r with rfl |⟨q,c,rfl⟩
  ·simp at hl
  ·have hq:q.length=k:=by simpa using hl
   rw [mO] at h
   cases hm:hexVal q 0 with
   | none=>rw [hm] at h;simp at h
   | some m=>
    rw [hm] at h
    simp only [Option.bind_some,hexVal] at h
    cases hc:aX c with
    | none=>rw [hc] at h;simp at h
    | some d=>
     rw [hc] at h
     simp only [Option.some.injEq] at h
     obtain ⟨h1,h2⟩:=xH k q m hq hm
     have hd:=kT hc
     subst h
     refine ⟨by rw [Nat.pow_succ];omega, ?_⟩
     rw [hexN,show (m*16+d) / 16=m by omega,show (m*16+d) % 16=d by omega,h2,FU hc]
theorem xJ: ∀(j k n:Nat),hexN (k+j) (n*16 ^ j)=hexN k n ++ List.replicate j 48
 | 0,k,n=>by simp
 | j+1,k,n=>by
  have e:n*16 ^(j+1)=(n*16 ^ j)*16:=by rw [Nat.pow_succ,Nat.mul_assoc]
  rw [←Nat.add_assoc,hexN,e,Nat.mul_div_cancel _ (by decide:0<16),Nat.mul_mod_left,xJ j k n,List.append_assoc]
  congr 1
  have:bC 0=48:=by decide
  rw [this,List.replicate_succ']
theorem rE (l:L) (c:UInt8):Lib.trimRightS (l ++ [c]) [48]=if c=48 then Lib.trimRightS l [48] else l ++ [c]:=by
 unfold Lib.trimRightS
 rw [List.reverse_append,List.reverse_singleton,List.singleton_append,List.dropWhile_cons,Lib.contains_one]
 by_cases h:c=48
 ·subst h;simp
 ·rw [if_neg h]
  have:(c == 48)=false:=by simpa using h
  rw [this]
  simp
theorem FV:Lib.trimRightS [] [48]= []:=rfl
theorem FY {l:L} (h:l.getLast?≠some 48):Lib.trimRightS l [48]=l:=by
 rcases oM l with rfl |⟨q,c,rfl⟩
 ·rfl
 ·rw [rE,if_neg]
  intro e;subst e;simp at h
theorem xK (l:L): ∀j,Lib.trimRightS (l ++ List.replicate j 48) [48]=Lib.trimRightS l [48]
 | 0=>by simp
 | j+1=>by rw [List.replicate_succ',←List.append_assoc,rE,if_pos rfl,xK l j]
theorem oP: ∀(n:Nat) (l:L),l.length=n→ ∃j,l=Lib.trimRightS l [48] ++ List.replicate j 48∧(Lib.trimRightS l [48]).getLast?≠some 48:=by
 intro n
 induction n with
 | zero=>
  intro l hl
  have:l= []:=List.eq_nil_of_length_eq_zero hl
  subst this
  exact ⟨0,rfl,by simp [FV]⟩
 | succ n ih=>
  intro l hl
  rcases oM l with rfl |⟨q,c,rfl⟩
  ·simp at hl
  ·rw [rE]
   by_cases h:c=48
   ·subst h
    rw [if_pos rfl]
    obtain ⟨j,h1,h2⟩:=ih q (by simpa using hl)
    refine ⟨j+1, ?_,h2⟩
    rw [List.replicate_succ',←List.append_assoc,←h1]
   ·rw [if_neg h]
    exact ⟨0,by simp,by simp [h]⟩
def fV (f:Nat):L:=if f=0 then [] else 46 :: Lib.trimRightS (hexN 13 f) [48]
def dO:L→Option Nat
 | []=>some 0
 | c :: h=>if c≠46∨h= []∨13<h.length∨h.getLast?=some 48 then none else (hexVal h 0).map (· *16 ^(13 - h.length))
theorem FZ {k n:Nat} (h:(hexN (k+1) n).getLast?≠some 48):n % 16≠0:=by
 intro h0
 apply h
 rw [hexN,h0]
 simp
 decide
theorem rF {u:L} {f:Nat} (h:dO u=some f):u=fV f∧f<4503599627370496:=by
 cases u with
 | nil=>simp [dO] at h;subst h;exact ⟨rfl,by decide⟩
 | cons c t=>
  simp only [dO] at h
  split at h
  ·cases h
  ·rename_i hc
   simp only [not_or,Decidable.not_not] at hc
   obtain ⟨rfl,h1,h2,h3⟩:=hc
   cases hv:hexVal t 0 with
   | none=>rw [hv] at h;cases h
   | some n=>
    rw [hv] at h
    simp only [Option.map_some,Option.some.injEq] at h
    obtain ⟨k,hk⟩: ∃k,t.length=k+1:=by
     cases t with
     | nil=>exact absurd rfl h1
     | cons a b=>exact ⟨b.length,rfl⟩
    obtain ⟨hlt,hx⟩:=xH (k+1) t n hk hv
    rw [hk] at h h2
    have hj:13=(k+1)+(13 -(k+1)):=by omega
    have hf:f=n*16 ^(13 -(k+1)):=h.symm
    have hl3:(hexN (k+1) n).getLast?≠some 48:=by rw [hx];exact h3
    have hn0:=FZ hl3
    have hp:0<16 ^(13 -(k+1)):=Nat.pow_pos (by decide)
    have hf0:f≠0:=by
     rw [hf]
     exact Nat.mul_ne_zero (by omega) (by omega)
    constructor
    ·unfold fV
     rw [if_neg hf0,hf]
     congr 1
     have e:=xJ (13 -(k+1)) (k+1) n
     rw [←hj] at e
     rw [e,xK,FY hl3,hx]
    ·have e:(16:Nat) ^(k+1)*16 ^(13 -(k+1))=4503599627370496:=by
      rw [←Nat.pow_add,←hj]
     rw [hf,←e]
     exact Nat.mul_lt_mul_of_pos_right hlt hp
theorem xM: ∀(j acc:Nat),hexVal (List.replicate j 48) acc=some (acc*16 ^ j)
 | 0,acc=>by simp [hexVal]
 | j+1,acc=>by
  have e:aX 48=some 0:=by decide
  rw [List.replicate_succ,hexVal,e]
  simp only
  rw [xM j,Nat.pow_succ,Nat.add_zero,Nat.mul_assoc,Nat.mul_comm 16]
theorem F5 {f:Nat} (hf:f<4503599627370496):dO (fV f)=some f:=by
 unfold fV
 by_cases h0:f=0
 ·rw [if_pos h0,h0];rfl
 ·rw [if_neg h0]
  obtain ⟨j,h1,h2⟩:=oP _ (hexN 13 f) rfl
  obtain ⟨h,hh⟩: ∃h,Lib.trimRightS (hexN 13 f) [48]=h:=⟨_,rfl⟩
  rw [hh] at h1 h2⊢
  have hv:=xG 13 f 0 (by simpa using hf)
  rw [h1,mO] at hv
  have hlen:=jc 13 f
  rw [h1,List.length_append,List.length_replicate] at hlen
  cases hm:hexVal h 0 with
  | none=>rw [hm] at hv;simp at hv
  | some m=>
   rw [hm] at hv
   simp only [Option.bind_some,xM,Option.some.injEq,Nat.zero_mul,Nat.zero_add] at hv
   have hne:h≠ []:=by
    intro e
    subst e
    simp [hexVal] at hm
    subst hm
    simp at hv
    exact h0 hv.symm
   simp only [dO]
   rw [if_neg (by simp only [ne_eq,not_true,hne,h2,or_false,false_or];omega),hm]
   simp only [Option.map_some]
   rw [show 13 - h.length=j by omega,hv]
def bI (e:Int):L:=if e<0 then 109 :: Lib.itoa (-e) else 112 :: Lib.itoa e
def iw (c:UInt8) (r:L):Int:=if c=109 then -((aH 0 r:Nat):Int) else (aH 0 r:Nat)
def fJ (s:L):Option Int:=
 match s with
 | []=>none
 | c :: r=>
  if r= []∨4<r.length∨(c≠112∧c≠109)∨isInt r=false∨r.head?=some 45∨(c=109∧r= [48]) then none else
  if iw c r≤1023∧ -1074≤iw c r then some (iw c r) else none
theorem rG (r:L):iw 109 r= -((aH 0 r:Nat):Int):=by unfold iw;rw [if_pos rfl]
theorem rH {c:UInt8} (h:c≠109) (r:L):iw c r=(aH 0 r:Nat):=by unfold iw;rw [if_neg h]
theorem rJ {r:L} (h:isInt r=true) (h2:r.head?≠some 45):Good false r:=by
 obtain ⟨neg,q,e,hg⟩:=(lK r).1 h
 cases neg with
 | true=>subst e;simp [sg] at h2
 | false=>have:r=q:=e;subst this;exact hg
theorem xO {r:L} (h:Good false r):isInt r=true:=(lK r).2 ⟨false,r,rfl,h⟩
theorem xP {r:L} {neg:Bool} (h:Good neg r):r≠ []:=by
 rcases h.2 with ⟨c,t,rfl,_⟩ |⟨rfl,_⟩<;> simp
theorem rM {r:L} {neg:Bool} (h:Good neg r):r.head?≠some 45:=by
 cases r with
 | nil=>simp
 | cons c t=>have:=(ru h.1).1;simp;intro e;subst e;exact this rfl
theorem xQ {r:L} (h:Good false r):Lib.itoa (aH 0 r:Nat)=r:=by
 have:=xE h
 simpa [fU,sg] using this
theorem F6 {r:L} (h:Good false r) (h0:aH 0 r=0):r= [48]:=by
 have:=xQ h
 rw [h0] at this
 rw [←this]
 show Lib.itoa ((0:Nat):Int)=_
 rw [Lib.itoa_nonneg,oL]
theorem rO {v:L} {e:Int} (h:fJ v=some e):v=bI e∧e≤1023∧ -1074≤e:=by
 cases v with
 | nil=>simp [fJ] at h
 | cons c r=>
  simp only [fJ] at h
  split at h
  ·cases h
  ·rename_i hc
   simp only [not_or,Bool.not_eq_false] at hc
   obtain ⟨h1,h2,h3,h4,h5,h6⟩:=hc
   have hg:=rJ h4 h5
   have hi:=xQ hg
   split at h
   ·rename_i hb
    simp only [Option.some.injEq] at h
    subst h
    refine ⟨?_,hb.1,hb.2⟩
    by_cases hc:c=109
    ·rw [hc,rG]
     have hpos:aH 0 r≠0:=fun h0=>h6 ⟨hc,F6 hg h0⟩
     unfold bI
     rw [if_pos (by omega),Int.neg_neg,hi]
    ·rw [rH hc]
     have:c=112:=Classical.byContradiction fun h7=>h3 ⟨h7,hc⟩
     unfold bI
     rw [if_neg (by omega),hi,this]
   ·cases h
theorem xR (n:Nat):Good false (Lib.itoa (n:Int))∧aH 0 (Lib.itoa (n:Int))=n:=by
 obtain ⟨neg,r,e,hg,hv,ha,hn⟩:=oO (n:Int)
 have:neg=false:=by
  cases neg with
  | false=>rfl
  | true=>have:=hn.1 rfl;omega
 subst this
 have e:Lib.itoa (n:Int)=r:=e
 rw [e]
 exact ⟨hg,by omega⟩
theorem xU (n:Nat) (h:n<10000):(Lib.itoa (n:Int)).length≤4:=by
 rw [Lib.itoa_nonneg,mM]
 have: ∀k u:Nat,u<10 ^(k+1)→Lib.nDigits u≤k+1:=by
  intro k
  induction k with
  | zero=>intro u hu;rw [Lib.nDigits_small (by simpa using hu)];omega
  | succ k ih=>
   intro u hu
   by_cases hs:u<10
   ·rw [Lib.nDigits_small hs];omega
   ·rw [Lib.nDigits_big hs]
    have:=ih (u / 10) (by rw [Nat.pow_succ] at hu;omega)
    omega
 exact this 3 n (by simpa using h)
theorem F7 {e:Int} (h1:e≤1023) (h2: -1074≤e):fJ (bI e)=some e:=by
 unfold bI
 by_cases hn:e<0
 ·rw [if_pos hn]
  obtain ⟨n,hN⟩: ∃n:Nat,-e=n:=⟨(-e).toNat,by omega⟩
  rw [hN]
  obtain ⟨hg,hv⟩:=xR n
  have hl:=xU n (by omega)
  simp only [fJ]
  rw [if_neg,rG,hv,if_pos (by omega)]
  ·congr 1;omega
  ·simp only [not_or]
   refine ⟨xP hg,by omega,by simp,by rw [xO hg];simp,rM hg,fun h=> ?_⟩
   have:aH 0 (Lib.itoa (n:Int))=0:=by rw [h.2];rfl
   omega
 ·rw [if_neg hn]
  obtain ⟨n,hN⟩: ∃n:Nat,e=n:=⟨e.toNat,by omega⟩
  subst hN
  obtain ⟨hg,hv⟩:=xR n
  have hl:=xU n (by omega)
  simp only [fJ]
  rw [if_neg,rH (by decide),hv,if_pos (by omega)]
  ·simp only [not_or]
   exact ⟨xP hg,by omega,by simp,by rw [xO hg];simp,rM hg,by simp⟩
end Go.Proofs.YtoofbflplhbpbaaGreatDoor.Num
