/- Contracts and plain laws,part 1. -/
import Derived.Test.YtoofbflplhbpbaaGreatDoorUO00
import Derived.Lib.ItoaMem
import Derived.Lib.ParseIntBTie
import Derived.Lib.TrailingZeros
import Derived.Lib.SlTrimSet
import Derived.Lib.BitFns
import Derived.Lib.Strings
set_option linter.all false
namespace Go.Proofs.YtoofbflplhbpbaaGreatDoor.Num
open Go
abbrev L:=List UInt8
def aP (c:UInt8):Bool:=decide (48<=c.toNat) && decide (c.toNat<=57)
theorem vk (c:UInt8):aP c=true↔48<=c.toNat/\c.toNat<=57:=by simp [aP]
def PI:L->Nat->Nat
 | [],acc=>acc
 | c :: r,acc=>PI r (acc*10+(c.toNat - 48))
def bW (acc:Nat) (l:L):Nat:=PI l acc
theorem AU (acc:Nat):bW acc []=acc:=rfl
theorem tX (acc:Nat) (c:UInt8) (r:L):bW acc (c :: r)=bW (acc*10+(c.toNat - 48)) r:=by unfold bW;rw [PI]
theorem PK: ∀(r:L) (acc:Nat) (q:L),bW acc (r ++ q)=bW (bW acc r) q
 | [],acc,q=>by rw [adI,AU]
 | c :: r,acc,q=>by rw [adV,tX,tX,PK r]
theorem LC: ∀(r:L) (acc:Nat),acc*10 ^ r.length<=bW acc r
 | [],acc=>by simp [AU]
 | c :: r,acc=>by
  have h:=LC r (acc*10+(c.toNat - 48))
  have h2:acc*10 ^(r.length+1)=(acc*10)*10 ^ r.length:=by rw [ake,alD,ald 10]
  have h3:(acc*10)*10 ^ r.length<=(acc*10+(c.toNat - 48))*10 ^ r.length:=akh _ (Nat.le_add_right _ _)
  rw [acd,tX,h2];exact ab5 h3 h
theorem PL: ∀(r:L) (acc:Nat),r.all aP=true->bW acc r<(acc+1)*10 ^ r.length
 | [],acc,_=>by simp [AU]
 | c :: r,acc,h=>by
  simp only [alE,adr,vk] at h;have h1:=PL r (acc*10+(c.toNat - 48)) h.2
  have h3:(acc*10+(c.toNat - 48)+1)*10 ^ r.length<=((acc+1)*10)*10 ^ r.length:=akh _ (by omega)
  have h2:(acc+1)*10 ^(r.length+1)=((acc+1)*10)*10 ^ r.length:=by rw [ake,alD,ald 10]
  rw [acd,tX,h2];exact adf h1 h3
theorem Xr (r:L) (acc:Nat):acc<=bW acc r:=by
 have h:=LC r acc;have h1:1<=10 ^ r.length:=Nat.one_le_pow _ _ (by decide)
 have h2:=Nat.le_mul_of_pos_right acc h1;omega
theorem Ht {u:Nat} (h: ¬u<10):Lib.decDigits u=Lib.decDigits (u / 10) ++ [UInt8.ofNat (48+u % 10)]:=by rw [Lib.decDigits,dif_neg h]
theorem E8 {d:Nat} (h:d<10):(UInt8.ofNat (48+d)).toNat=48+d:=by simp;omega
theorem Xt (u:Nat):(Lib.decDigits u).all aP=true:=by
 induction u using Nat.strongRecOn with
 | _ u ih=>
  by_cases h:u<10
  ·rw [Lib.decDigits_one h];simp only [alE,aoY,anF,vk];rw [E8 h];omega
  rw [Ht h,aoZ,ih _ (by omega)]
  simp only [alE,aoY,anF,Bool.true_and,vk];rw [E8 (by omega)];omega
theorem LD (u:Nat):bW 0 (Lib.decDigits u)=u:=by
 induction u using Nat.strongRecOn with
 | _ u ih=>
  by_cases h:u<10
  ·rw [Lib.decDigits_one h];simp only [AU,tX];rw [E8 h];omega
  rw [Ht h,PK,ih _ (by omega)]
  simp only [AU,tX];rw [E8 (by omega)];omega
theorem Xu (u:Nat) (h0:u≠0): ∃c r,Lib.decDigits u=c :: r/\c.toNat≠48:=by
 induction u using Nat.strongRecOn with
 | _ u ih=>
  by_cases h:u<10
  ·exact ⟨_, [],Lib.decDigits_one h,by rw [E8 h];omega⟩
  obtain ⟨c,r,e,hc⟩:=ih (u / 10) (by omega) (by omega)
  exact ⟨c,r ++ [UInt8.ofNat (48+u % 10)],by rw [Ht h,e];rfl,hc⟩
theorem LG:Lib.decDigits 0= [48]:=Lib.decDigits_one (by omega)
theorem xq (u:Nat):(Lib.decDigits u).length=Lib.nDigits u:=Lib.decDigits_length u
theorem toNat_ne {c:UInt8} {n:Nat} (hn:n<256):c≠UInt8.ofNat n↔c.toNat≠n:=by
 constructor
 ·intro h e
  exact h (ad8.1 (by simp;omega))
 intro h e;exact h (by rw [e];simp;omega)
theorem byte_back {c:UInt8} (h:48<=c.toNat) (h2:c.toNat<=57):UInt8.ofNat (48+(c.toNat - 48))=c:=by
 rw [show 48+(c.toNat - 48)=c.toNat by omega];exact akE
theorem LH (t:L):t= []\/ ∃t' d,t=t' ++ [d]:=by
 induction t with
 | nil=>exact .inl rfl
 | cons c t ih=>
  refine .inr ?_
  rcases ih with rfl |⟨t',d,rfl⟩
  ·exact ⟨[],c,rfl⟩
  exact ⟨c :: t',d,rfl⟩
theorem aeH: ∀(n:Nat) (r:L),r.length=n->r.all aP=true->(∃c t,r=c :: t/\c.toNat≠48)->Lib.decDigits (bW 0 r)=r:=by
 intro n
 induction n with
 | zero=>intro r hr _ ⟨c,t,e,_⟩;rw [e] at hr;simp at hr
 | succ n ih=>
  intro r hr hall ⟨c,t,e,hc⟩
  rcases LH t with ht |⟨t',d,ht⟩
  ·subst ht e
   simp only [alE,aoY,anF,vk] at hall;simp only [AU,tX]
   rw [show 0*10+(c.toNat - 48)=c.toNat - 48 by omega,Lib.decDigits_one (by omega),byte_back hall.1 hall.2]
  subst ht e;have e2:c ::(t' ++ [d])=(c :: t') ++ [d]:=rfl;rw [e2] at hr hall⊢
  rw [aoZ] at hall;simp only [adr,alE (a:=d),aoY,al7,vk] at hall
  have h1:=ih (c :: t') (by simpa using hr) hall.1 ⟨c,t',rfl,hc⟩
  have hb:=LC t' (c.toNat - 48)
  have h2:1<=bW 0 (c :: t'):=by
   have hcd:aP c=true:=by
    have:=hall.1;simp only [alE,adr] at this;exact this.1
   rw [vk] at hcd;have:=Xr t' (0*10+(c.toNat - 48));simp only [tX];omega
  rw [PK];simp only [AU,tX];simp only [tX] at h1 h2;rw [Ht (by omega)]
  rw [show (bW (0*10+(c.toNat - 48)) t'*10+(d.toNat - 48)) / 10=bW (0*10+(c.toNat - 48)) t' by omega,h1,
   show (bW (0*10+(c.toNat - 48)) t'*10+(d.toNat - 48)) % 10=d.toNat - 48 by omega,byte_back hall.2.1 hall.2.2]
theorem Xv: ∀(r:L) (acc:Nat),r.all aP=true->acc<=18446744073709551615->
  Lib.parseUintM 18446744073709551615 acc r=if bW acc r<=18446744073709551615 then .ok (bW acc r) else .range
 | [],acc,_,ha=>by rw [AU,ab7 ha];rfl
 | c :: r,acc,h,ha=>by
  simp only [alE,adr,vk] at h;have hm:=Xr r (acc*10+(c.toNat - 48))
  simp only [Lib.parseUintM,tX];rw [ab7 h.1];by_cases h1:1844674407370955162<=acc
  ·rw [ab7 h1,ab6 (by omega)]
  rw [ab6 h1];by_cases h2:18446744073709551615<acc*10+(c.toNat - 48)
  ·rw [ab7 h2,ab6 (by omega)]
  rw [ab6 h2];exact Xv r _ h.2 (by omega)
def isInt (l:L):Bool:=
 if l= [48] then true else
 match (if l.head?=some 45 then l.drop 1 else l) with
 | []=>false
 | c :: r=> !(c == 48) &&(c :: r).all aP
def fQ (l:L):Int×Nat:=
 let neg:=l.head?=some 45
 let r:=if neg then l.drop 1 else l
 if r= []\/(r.head?=some 48/\1<l.length) then (0,50) else
 if¬r.all aP then (0,50) else
 if 19<r.length then (0,51) else
 if neg then (if 9223372036854775808<bW 0 r then (0,51) else (-(bW 0 r:Int),0)) else
 if 9223372036854775808<=bW 0 r then (0,51) else ((bW 0 r:Int),0)
theorem isInt_iff (l:L):isInt l=true↔ ∃(neg:Bool) (r:L),l=(if neg then [45] else []) ++ r/\r.all aP=true/\((∃c t,r=c :: t/\c≠48)\/(r= [48]/\neg=false)):=by
 unfold isInt;by_cases h48:l= [48]
 ·subst h48
  simp only [alQ,true_iff];exact ⟨false, [48],rfl,by decide, .inr ⟨rfl,rfl⟩⟩
 rw [ab6 h48];by_cases hn:l.head?=some 45
 ·rw [ab7 hn]
  obtain ⟨t,rfl⟩: ∃t,l=45 :: t:=by
   cases l with
   | nil=>simp at hn
   | cons c t=>simp at hn;subst hn;exact ⟨t,rfl⟩
  simp only [adU,aeC]
  constructor
  ·intro h
   cases t with
   | nil=>simp at h
   | cons c t=>
    simp only [adr,ama,ab3] at h;exact ⟨true,c :: t,rfl,h.2, .inl ⟨c,t,rfl,h.1⟩⟩
  rintro ⟨neg,r,e,hall,hh⟩;cases neg with
  | true=>
   simp only [alQ,alY,akq,true_and] at e;subst e
   rcases hh with ⟨c,t',rfl,hc⟩ |⟨_,h⟩
   ·simp only [adr,ama,ab3]
    exact ⟨hc,hall⟩
   cases h
  | false=>
   simp only [ak8,amw,adI] at e;subst e;simp only [alE,adr] at hall
   exact absurd hall.1 (by decide)
 rw [ab6 hn]
 constructor
 ·intro h
  cases l with
  | nil=>simp at h
  | cons c t=>
   simp only [adr,ama,ab3] at h;exact ⟨false,c :: t,rfl,h.2, .inl ⟨c,t,rfl,h.1⟩⟩
 rintro ⟨neg,r,e,hall,hh⟩;cases neg with
 | true=>subst e;simp at hn
 | false=>
  simp only [ak8,amw,adI] at e;subst e
  rcases hh with ⟨c,t',rfl,hc⟩ |⟨h,_⟩
  ·simp only [adr,ama,ab3]
   exact ⟨hc,hall⟩
  exact absurd h h48
theorem PN {c:UInt8} {t:L} (h:(c :: t).all aP=true):c.toNat≠45/\c.toNat≠43:=by
 simp only [alE,adr,vk] at h;omega
def over (neg:Bool) (v:Nat):Prop:=if neg then 9223372036854775808<v else 9223372036854775808<=v
instance (neg:Bool) (v:Nat):Decidable (over neg v):=by unfold over;cases neg<;> infer_instance
def qA (neg:Bool) (v:Nat):Int:=if neg then -(v:Int) else v
def sg (neg:Bool):L:=if neg then [45] else []
def Good (neg:Bool) (r:L):Prop:=r.all aP=true/\((∃c t,r=c :: t/\c≠48)\/(r= [48]/\neg=false))
theorem NY {c:UInt8}:c≠48↔c.toNat≠48:=toNat_ne (n:=48) (by decide)
theorem aeI {r:L} (h:r.all aP=true) {c:UInt8} {t:L} (e:r=c :: t) (hc:c≠48) (hl:19<r.length):10000000000000000000<=bW 0 r:=by
 subst e;have h1:=h;simp only [alE,adr,vk] at h1;have hc':=NY.1 hc;rw [tX]
 have h2:=LC t (0*10+(c.toNat - 48))
 have h3:10 ^ 19<=10 ^ t.length:=akF (by decide) (by simp at hl;omega)
 have h4:1*10 ^ t.length<=(0*10+(c.toNat - 48))*10 ^ t.length:=akh _ (by omega)
 rw [Nat.one_mul] at h4;exact ab5 (ab5 h3 h4) h2
theorem LM {neg:Bool} {r:L} (h:Good neg r):fQ (sg neg ++ r)=if over neg (bW 0 r) then (0,51) else (qA neg (bW 0 r),0):=by
 obtain ⟨hall,hh⟩:=h;have hne:r≠ []:=by rcases hh with ⟨c,t,rfl,_⟩ |⟨rfl,_⟩<;> simp
 have hbig:19<r.length->10000000000000000000<=bW 0 r:=fun hl=>by
  rcases hh with ⟨c,t,e,hc⟩ |⟨rfl,_⟩
  ·exact aeI hall e hc hl
  simp at hl
 cases neg with
 | true=>
  have h48: ¬(r.head?=some 48/\1<(45 :: r).length):=by
   rcases hh with ⟨c,t,rfl,hc⟩ |⟨_,h⟩
   ·simp [hc]
   cases h
  unfold fQ sg;simp only [alQ,alY,al6,adU,aeC]
  rw [ab6 (by simp only [hne,false_or];exact h48),ab6 (by simp [hall])]
  unfold over qA;simp only [alQ];by_cases hl:19<r.length
  ·have:=hbig hl
   rw [ab7 hl,ab7 (by omega)]
  rw [ab6 hl]
 | false=>
  have hhd:r.head?≠some 45:=by
   cases r with
   | nil=>simp
   | cons c t=>have:=(PN hall).1;simp;intro e;subst e;exact this rfl
  have h48: ¬(r.head?=some 48/\1<r.length):=by
   rcases hh with ⟨c,t,rfl,hc⟩ |⟨rfl,_⟩
   ·simp [hc]
   simp
  unfold fQ sg;simp only [ak8,amw,adI,ab6 hhd]
  rw [ab6 (by simp only [hne,false_or];exact h48),ab6 (by simp [hall])]
  unfold over qA;simp only [ak8,amw];by_cases hl:19<r.length
  ·have:=hbig hl
   rw [ab7 hl,ab7 (by omega)]
  rw [ab6 hl]
theorem E9 (l:L):isInt l=true↔ ∃neg r,l=sg neg ++ r/\Good neg r:=isInt_iff l
theorem PO {l:L} (h:isInt l=false):fQ l=(0,50):=by
 have hn: ¬ ∃neg r,l=sg neg ++ r/\Good neg r:=fun hh=>by rw [(E9 l).2 hh] at h;cases h
 have key: ∀(neg:Bool) (r:L),l=sg neg ++ r->(neg=true->l.head?=some 45)->r= []\/(r.head?=some 48/\1<l.length)\/ ¬r.all aP=true:=fun neg r e he=>by
  refine akM fun hc=> ?_
  simp only [aol,Decidable.not_not] at hc;obtain ⟨c1,c2,c3⟩:=hc;refine hn ⟨neg,r,e,c3, ?_⟩
  cases r with
  | nil=>exact absurd rfl c1
  | cons c t=>
   by_cases h48:c=48
   ·subst h48
    have hl: ¬1<l.length:=fun hl=>c2 ⟨rfl,hl⟩
    rw [e] at hl;cases neg with
    | true=>simp [sg] at hl
    | false=>
     cases t with
     | nil=>exact .inr ⟨rfl,rfl⟩
     | cons d t=>simp [sg] at hl
   exact .inl ⟨c,t,rfl,h48⟩
 unfold fQ;by_cases hd:l.head?=some 45
 ·obtain ⟨t,rfl⟩: ∃t,l=45 :: t:=by
   cases l with
   | nil=>simp at hd
   | cons c t=>simp at hd;subst hd;exact ⟨t,rfl⟩
  have:=key true t rfl (fun _=>rfl)
  simp only [al6,alQ,adU,aeC]
  rcases this with h1 | h1 | h1
  ·rw [ab7 (.inl h1)]
  ·rw [ab7 (.inr h1)]
  by_cases h2:t= []\/(t.head?=some 48/\1<(45 :: t).length)
  ·rw [ab7 h2]
  rw [ab6 h2,ab7 h1]
 have:=key false l rfl (fun e=>by cases e)
 simp only [ab6 hd]
 rcases this with h1 | h1 | h1
 ·rw [ab7 (.inl h1)]
 ·rw [ab7 (.inr h1)]
 by_cases h2:l= []\/(l.head?=some 48/\1<l.length)
 ·rw [ab7 h2]
 rw [ab6 h2,ab7 h1]
theorem PS {neg:Bool} {r:L} (h:Good neg r):Lib.parseIntB 64 (sg neg ++ r)=if over neg (bW 0 r) then .range else .ok (qA neg (bW 0 r)):=by
 obtain ⟨hall,hh⟩:=h;have hne:r≠ []:=by rcases hh with ⟨c,t,rfl,_⟩ |⟨rfl,_⟩<;> simp
 have hu:Lib.parseMag r=if bW 0 r<=18446744073709551615 then .ok (bW 0 r) else .range:=by
  unfold Lib.parseMag;rw [ab6 hne,<-Lib.parseUintM_64,Xv r 0 hall (by omega)]
 rw [Lib.parseIntB_64]
 obtain ⟨c,t,rfl⟩: ∃c t,r=c :: t:=by
  cases r with
  | nil=>exact absurd rfl hne
  | cons c t=>exact ⟨c,t,rfl⟩
 obtain ⟨h45,h43⟩:=PN hall;obtain ⟨v,hv⟩: ∃v,bW 0 (c :: t)=v:=⟨_,rfl⟩;rw [hv] at hu⊢
 cases neg with
 | true=>
  show Lib.atoiAll (45 :: c :: t)=_
  unfold Lib.atoiAll over qA;simp only [show (45:UInt8).toNat=45 from rfl,or_true,alQ,hu]
  by_cases hb:v<=18446744073709551615
  ·rw [ab7 hb]
   simp only [not_true,false_and,amw,true_and]
  rw [ab6 hb];simp only;rw [ab7 (by omega)]
 | false=>
  show Lib.atoiAll (c :: t)=_
  unfold Lib.atoiAll over qA;simp only [h43,h45,or_self,amw,hu,ak8]
  by_cases hb:v<=18446744073709551615
  ·rw [ab7 hb]
   simp only [not_false_eq_true,true_and,false_and,amw]
  rw [ab6 hb];simp only;rw [ab7 (by omega)]
theorem LP (n:Int): ∃neg r,Lib.itoa n=sg neg ++ r/\Good neg r/\qA neg (bW 0 r)=n/\bW 0 r=n.natAbs/\(neg=true↔n<0):=by
 unfold Lib.itoa;by_cases h:n<0
 ·rw [ab7 h]
  obtain ⟨c,r,e,hc⟩:=Xu n.natAbs (by omega)
  refine ⟨true,Lib.decDigits n.natAbs,rfl,⟨Xt _, .inl ⟨c,r,e,NY.2 hc⟩⟩, ?_,LD _,by simp [h]⟩
  rw [LD];unfold qA;simp only [alQ];omega
 rw [ab6 h]
 refine ⟨false,Lib.decDigits n.toNat,rfl,⟨Xt _, ?_⟩, ?_,by rw [LD];omega,by simp;omega⟩
 ·by_cases h0:n.toNat=0
  ·exact .inr ⟨by rw [h0,LG],rfl⟩
  obtain ⟨c,r,e,hc⟩:=Xu n.toNat h0;exact .inl ⟨c,r,e,NY.2 hc⟩
 rw [LD];unfold qA;simp only [ak8,amw];omega
theorem Xw (n:Int) (h0: -9223372036854775808<=n) (h1:n<=9223372036854775807):fQ (Lib.itoa n)=(n,0):=by
 obtain ⟨neg,r,e,hg,hv,ha,hn⟩:=LP n;rw [e,LM hg,ab6,hv];unfold over;cases neg with
 | true=>simp at hn⊢;omega
 | false=>simp at hn⊢;omega
theorem Xx {neg:Bool} {r:L} (h:Good neg r):Lib.itoa (qA neg (bW 0 r))=sg neg ++ r:=by
 obtain ⟨hall,hh⟩:=h
 rcases hh with ⟨c,t,e,hc⟩ |⟨rfl,rfl⟩
 ·have hb:=aeH r.length r rfl hall ⟨c,t,e,NY.1 hc⟩
  have hpos:bW 0 r≠0:=fun h0=>by
   rw [h0,LG,e] at hb;simp at hb;exact hc hb.1.symm
  unfold Lib.itoa qA sg;cases neg with
  | true=>
   simp only [alQ];rw [ab7 (by omega)]
   simp only [Int.natAbs_neg,Int.natAbs_natCast,alY,hb]
  | false=>
   simp only [ak8,amw,adI];rw [ab6 (by omega)]
   simp only [am7,hb]
 have:bW 0 [48]=0:=rfl;rw [this];unfold Lib.itoa qA sg;simp [LG]
theorem aeJ {l:L} {n:Int} (h:fQ l=(n,0)):Lib.itoa n=l:=by
 cases hi:isInt l with
 | false=>rw [PO hi] at h;simp at h
 | true=>
  obtain ⟨neg,r,rfl,hg⟩:=(E9 l).1 hi;rw [LM hg] at h
  split at h
  ·simp at h
  simp only [adL,al7] at h;rw [<-h];exact Xx hg
theorem aeK {l:L} (h:isInt l=true):(∃v,Lib.parseIntB 64 l= .ok v/\fQ l=(v,0))\/(Lib.parseIntB 64 l= .range/\fQ l=(0,51)):=by
 obtain ⟨neg,r,rfl,hg⟩:=(E9 l).1 h;rw [PS hg,LM hg]
 split
 ·exact .inr ⟨rfl,rfl⟩
 exact .inl ⟨_,rfl,rfl⟩
def eX (d:Nat):UInt8:=UInt8.ofNat (if d<10 then 48+d else 87+d)
def gB (c:UInt8):Option Nat:=if 48<=c.toNat/\c.toNat<=57 then some (c.toNat - 48) else if 97<=c.toNat/\c.toNat<=102 then some (c.toNat - 87) else none
theorem Xy: ∀d:Fin 16,gB (eX d.val)=some d.val:=by decide
theorem aeL: ∀c:Fin 256,∀d:Fin 16,gB (UInt8.ofNat c.val)=some d.val->eX d.val=UInt8.ofNat c.val:=by decide+kernel
theorem Dl {c:UInt8} {d:Nat} (h:gB c=some d):d<16:=by
 unfold gB at h
 split at h
 ·simp at h;omega
 split at h
 ·simp at h;omega
 cases h
theorem aeM {c:UInt8} {d:Nat} (h:gB c=some d):eX d=c:=by
 have hd:=Dl h;have:=aeL ⟨c.toNat,aeE c⟩ ⟨d,hd⟩ (by simpa using h)
 simpa using this
def hexN:Nat->Nat->L
 | 0,_=> []
 | k+1,n=>hexN k (n / 16) ++ [eX (n % 16)]
theorem vw: ∀(k n:Nat),(hexN k n).length=k
 | 0,_=>rfl
 | k+1,n=>by simp [hexN,vw k]
def hexVal:L->Nat->Option Nat
 | [],acc=>some acc
 | c :: r,acc=>match gB c with
  | some d=>hexVal r (acc*16+d)
  | none=>none
theorem Hu: ∀(a b:L) (acc:Nat),hexVal (a ++ b) acc=(hexVal a acc).bind (hexVal b)
 | [],b,acc=>rfl
 | c :: r,b,acc=>by
  simp only [adV,hexVal];cases gB c with
  | none=>rfl
  | some d=>exact Hu r b _
theorem PU: ∀(k n acc:Nat),n<16 ^ k->hexVal (hexN k n) acc=some (acc*16 ^ k+n)
 | 0,n,acc,h=>by simp at h;subst h;simp [hexN,hexVal]
 | k+1,n,acc,h=>by
  rw [ake] at h;rw [hexN,Hu,PU k (n / 16) acc (by omega)]
  have e:=Xy ⟨n % 16,by omega⟩
  simp only at e;simp only [amS,hexVal,e]
  congr 1
  rw [ake,<-alD];have:acc*16 ^ k*16=(acc*16 ^ k)*16:=rfl;omega
theorem Xz: ∀(k:Nat) (r:L) (n:Nat),r.length=k->hexVal r 0=some n->n<16 ^ k/\hexN k n=r
 | 0,r,n,hl,h=>by
  have:r= []:=acD hl;subst this;simp [hexVal] at h;subst h;exact ⟨by simp,rfl⟩
 | k+1,r,n,hl,h=>by
  rcases LH r with rfl |⟨q,c,rfl⟩
  ·simp at hl
  have hq:q.length=k:=by simpa using hl
  rw [Hu] at h;cases hm:hexVal q 0 with
  | none=>rw [hm] at h;simp at h
  | some m=>
   rw [hm] at h;simp only [amS,hexVal] at h;cases hc:gB c with
   | none=>rw [hc] at h;simp at h
   | some d=>
    rw [hc] at h;simp only [ads] at h;obtain ⟨h1,h2⟩:=Xz k q m hq hm;have hd:=Dl hc
    subst h;refine ⟨by rw [ake];omega, ?_⟩
    rw [hexN,show (m*16+d) / 16=m by omega,show (m*16+d) % 16=d by omega,h2,aeM hc]
theorem XA: ∀(j k n:Nat),hexN (k+j) (n*16 ^ j)=hexN k n ++ List.replicate j 48
 | 0,k,n=>by simp
 | j+1,k,n=>by
  have e:n*16 ^(j+1)=(n*16 ^ j)*16:=by rw [ake,alD]
  rw [<-akR,hexN,e,Nat.mul_div_cancel _ (by decide:0<16),Nat.mul_mod_left,XA j k n,acF]
  congr 1
  have:eX 0=48:=by decide
  rw [this,anK]
theorem LQ (l:L) (c:UInt8):Lib.trimRightS (l ++ [c]) [48]=if c=48 then Lib.trimRightS l [48] else l ++ [c]:=by
 unfold Lib.trimRightS
 rw [List.reverse_append,List.reverse_singleton,alY,List.dropWhile_cons,Lib.contains_one]
 by_cases h:c=48
 ·subst h;simp
 rw [ab6 h];have:(c == 48)=false:=by simpa using h
 rw [this];simp
theorem aeN:Lib.trimRightS [] [48]= []:=rfl
theorem aeO {l:L} (h:l.getLast?≠some 48):Lib.trimRightS l [48]=l:=by
 rcases LH l with rfl |⟨q,c,rfl⟩
 ·rfl
 rw [LQ,ab6];intro e;subst e;simp at h
theorem XB (l:L): ∀j,Lib.trimRightS (l ++ List.replicate j 48) [48]=Lib.trimRightS l [48]
 | 0=>by simp
 | j+1=>by rw [anK,<-acF,LQ,ab7 rfl,XB l j]
theorem Hw: ∀(n:Nat) (l:L),l.length=n-> ∃j,l=Lib.trimRightS l [48] ++ List.replicate j 48/\(Lib.trimRightS l [48]).getLast?≠some 48:=by
 intro n
 induction n with
 | zero=>
  intro l hl;have:l= []:=acD hl;subst this;exact ⟨0,rfl,by simp [aeN]⟩
 | succ n ih=>
  intro l hl
  rcases LH l with rfl |⟨q,c,rfl⟩
  ·simp at hl
  rw [LQ];by_cases h:c=48
  ·subst h
   rw [ab7 rfl];obtain ⟨j,h1,h2⟩:=ih q (by simpa using hl)
   refine ⟨j+1, ?_,h2⟩;rw [anK,<-acF,<-h1]
  rw [ab6 h];exact ⟨0,by simp,by simp [h]⟩
def nG (f:Nat):L:=if f=0 then [] else 46 :: Lib.trimRightS (hexN 13 f) [48]
def kP:L->Option Nat
 | []=>some 0
 | c :: h=>if c≠46\/h= []\/13<h.length\/h.getLast?=some 48 then none else (hexVal h 0).map (· *16 ^(13 - h.length))
theorem aeP {k n:Nat} (h:(hexN (k+1) n).getLast?≠some 48):n % 16≠0:=by
 intro h0
 apply h
 rw [hexN,h0];simp
 decide
theorem PX {u:L} {f:Nat} (h:kP u=some f):u=nG f/\f<4503599627370496:=by
 cases u with
 | nil=>simp [kP] at h;subst h;exact ⟨rfl,by decide⟩
 | cons c t=>
  simp only [kP] at h
  split at h
  ·cases h
  rename_i hc;simp only [aol,Decidable.not_not] at hc;obtain ⟨rfl,h1,h2,h3⟩:=hc
  cases hv:hexVal t 0 with
  | none=>rw [hv] at h;cases h
  | some n=>
   rw [hv] at h;simp only [aej,ads] at h
   obtain ⟨k,hk⟩: ∃k,t.length=k+1:=by
    cases t with
    | nil=>exact absurd rfl h1
    | cons a b=>exact ⟨b.length,rfl⟩
   obtain ⟨hlt,hx⟩:=Xz (k+1) t n hk hv;rw [hk] at h h2
   have hj:13=(k+1)+(13 -(k+1)):=by omega
   have hf:f=n*16 ^(13 -(k+1)):=h.symm
   have hl3:(hexN (k+1) n).getLast?≠some 48:=by rw [hx];exact h3
   have hn0:=aeP hl3;have hp:0<16 ^(13 -(k+1)):=amq (by decide)
   have hf0:f≠0:=by
    rw [hf];exact Nat.mul_ne_zero (by omega) (by omega)
   constructor
   ·unfold nG
    rw [ab6 hf0,hf]
    congr 1
    have e:=XA (13 -(k+1)) (k+1) n;rw [<-hj] at e;rw [e,XB,aeO hl3,hx]
   have e:(16:Nat) ^(k+1)*16 ^(13 -(k+1))=4503599627370496:=by
    rw [<-amD,<-hj]
   rw [hf,<-e];exact amy hlt hp
theorem PY: ∀(j acc:Nat),hexVal (List.replicate j 48) acc=some (acc*16 ^ j)
 | 0,acc=>by simp [hexVal]
 | j+1,acc=>by
  have e:gB 48=some 0:=by decide
  rw [List.replicate_succ,hexVal,e];simp only;rw [PY j,ake,akz,alD,ald 16]
theorem aeQ {f:Nat} (hf:f<4503599627370496):kP (nG f)=some f:=by
 unfold nG;by_cases h0:f=0
 ·rw [ab7 h0,h0];rfl
 rw [ab6 h0];obtain ⟨j,h1,h2⟩:=Hw _ (hexN 13 f) rfl
 obtain ⟨h,hh⟩: ∃h,Lib.trimRightS (hexN 13 f) [48]=h:=⟨_,rfl⟩;rw [hh] at h1 h2⊢
 have hv:=PU 13 f 0 (by simpa using hf)
 rw [h1,Hu] at hv;have hlen:=vw 13 f;rw [h1,dA,List.length_replicate] at hlen
 cases hm:hexVal h 0 with
 | none=>rw [hm] at hv;simp at hv
 | some m=>
  rw [hm] at hv;simp only [amS,PY,ads,am8,akA] at hv
  have hne:h≠ []:=by
   intro e;subst e;simp [hexVal] at hm;subst hm;simp at hv;exact h0 hv.symm
  simp only [kP];rw [ab6 (by simp only [ne_eq,not_true,hne,h2,anL,false_or];omega),hm]
  simp only [aej];rw [show 13 - h.length=j by omega,hv]
def fU (e:Int):L:=if e<0 then 109 :: Lib.itoa (-e) else 112 :: Lib.itoa e
def tY (c:UInt8) (r:L):Int:=if c=109 then -((bW 0 r:Nat):Int) else (bW 0 r:Nat)
def oZ (s:L):Option Int:=
 match s with
 | []=>none
 | c :: r=>
  if r= []\/4<r.length\/(c≠112/\c≠109)\/isInt r=false\/r.head?=some 45\/(c=109/\r= [48]) then none else
  if tY c r<=1023/\ -1074<=tY c r then some (tY c r) else none
theorem PZ (r:L):tY 109 r= -((bW 0 r:Nat):Int):=by unfold tY;rw [ab7 rfl]
theorem P5 {c:UInt8} (h:c≠109) (r:L):tY c r=(bW 0 r:Nat):=by unfold tY;rw [ab6 h]
theorem P6 {r:L} (h:isInt r=true) (h2:r.head?≠some 45):Good false r:=by
 obtain ⟨neg,q,e,hg⟩:=(E9 r).1 h;cases neg with
 | true=>subst e;simp [sg] at h2
 | false=>have:r=q:=e;subst this;exact hg
theorem XC {r:L} (h:Good false r):isInt r=true:=(E9 r).2 ⟨false,r,rfl,h⟩
theorem XD {r:L} {neg:Bool} (h:Good neg r):r≠ []:=by
 rcases h.2 with ⟨c,t,rfl,_⟩ |⟨rfl,_⟩<;> simp
theorem P7 {r:L} {neg:Bool} (h:Good neg r):r.head?≠some 45:=by
 cases r with
 | nil=>simp
 | cons c t=>have:=(PN h.1).1;simp;intro e;subst e;exact this rfl
theorem XE {r:L} (h:Good false r):Lib.itoa (bW 0 r:Nat)=r:=by
 have:=Xx h
 simpa [qA,sg] using this
theorem aeR {r:L} (h:Good false r) (h0:bW 0 r=0):r= [48]:=by
 have:=XE h;rw [h0] at this;rw [<-this]
 show Lib.itoa ((0:Nat):Int)=_
 rw [Lib.itoa_nonneg,LG]
theorem P8 {v:L} {e:Int} (h:oZ v=some e):v=fU e/\e<=1023/\ -1074<=e:=by
 cases v with
 | nil=>simp [oZ] at h
 | cons c r=>
  simp only [oZ] at h
  split at h
  ·cases h
  rename_i hc;simp only [aol,Bool.not_eq_false] at hc;obtain ⟨h1,h2,h3,h4,h5,h6⟩:=hc
  have hg:=P6 h4 h5;have hi:=XE hg
  split at h
  ·rename_i hb
   simp only [ads] at h;subst h;refine ⟨?_,hb.1,hb.2⟩;by_cases hc:c=109
   ·rw [hc,PZ]
    have hpos:bW 0 r≠0:=fun h0=>h6 ⟨hc,aeR hg h0⟩
    unfold fU;rw [ab7 (by omega),Int.neg_neg,hi]
   rw [P5 hc];have:c=112:=akM fun h7=>h3 ⟨h7,hc⟩
   unfold fU;rw [ab6 (by omega),hi,this]
  cases h
theorem XF (n:Nat):Good false (Lib.itoa (n:Int))/\bW 0 (Lib.itoa (n:Int))=n:=by
 obtain ⟨neg,r,e,hg,hv,ha,hn⟩:=LP (n:Int)
 have:neg=false:=by
  cases neg with
  | false=>rfl
  | true=>have:=hn.1 rfl;omega
 subst this;have e:Lib.itoa (n:Int)=r:=e;rw [e];exact ⟨hg,by omega⟩
theorem XH (n:Nat) (h:n<10000):(Lib.itoa (n:Int)).length<=4:=by
 rw [Lib.itoa_nonneg,xq]
 have: ∀k u:Nat,u<10 ^(k+1)->Lib.nDigits u<=k+1:=by
  intro k
  induction k with
  | zero=>intro u hu;rw [Lib.nDigits_small (by simpa using hu)];omega
  | succ k ih=>
   intro u hu;by_cases hs:u<10
   ·rw [Lib.nDigits_small hs];omega
   rw [Lib.nDigits_big hs];have:=ih (u / 10) (by rw [ake] at hu;omega)
   omega
 exact this 3 n (by simpa using h)
theorem aeS {e:Int} (h1:e<=1023) (h2: -1074<=e):oZ (fU e)=some e:=by
 unfold fU;by_cases hn:e<0
 ·rw [ab7 hn]
  obtain ⟨n,hN⟩: ∃n:Nat,-e=n:=⟨(-e).toNat,by omega⟩
  rw [hN];obtain ⟨hg,hv⟩:=XF n;have hl:=XH n (by omega)
  simp only [oZ];rw [ab6,PZ,hv,ab7 (by omega)]
  ·congr 1;omega
  simp only [aol];refine ⟨XD hg,by omega,by simp,by rw [XC hg];simp,P7 hg,fun h=> ?_⟩
  have:bW 0 (Lib.itoa (n:Int))=0:=by rw [h.2];rfl
  omega
 rw [ab6 hn];obtain ⟨n,hN⟩: ∃n:Nat,e=n:=⟨e.toNat,by omega⟩
 subst hN;obtain ⟨hg,hv⟩:=XF n;have hl:=XH n (by omega)
 simp only [oZ];rw [ab6,P5 (by decide),hv,ab7 (by omega)]
 simp only [aol];exact ⟨XD hg,by omega,by simp,by rw [XC hg];simp,P7 hg,by simp⟩
theorem bitLen_spec: ∀(k x:Nat),x<2 ^ k->k<=64->x≠0->2 ^(Lib.bitLen x - 1)<=x/\x<2 ^ Lib.bitLen x/\1<=Lib.bitLen x
 | 0,x,h,_,h0=>by simp at h;exact absurd h h0
 | k+1,x,h,hk,h0=>by
  have h64:x<2 ^ 64:=adf h (akF (by decide) hk)
  rw [Lib.bitLen_half x h0 h64];by_cases h1:x / 2=0
  ·have:x=1:=by omega
   subst this;have:Lib.bitLen (1 / 2)=0:=by decide
   rw [this];simp
  have ih:=bitLen_spec k (x / 2) (by rw [ake] at h;omega) (by omega) h1
  obtain ⟨a,b,c⟩:=ih
  obtain ⟨m,hm⟩: ∃m,Lib.bitLen (x / 2)=m+1:=⟨Lib.bitLen (x / 2) - 1,by omega⟩
  rw [hm] at a b⊢;simp only [alU] at a
  rw [show 1+(m+1) - 1=m+1 by omega,show 1+(m+1)=(m+1)+1 by omega]
  rw [ake 2 (m+1)];rw [ake] at b⊢;omega
def up (a:Nat):Nat:=53 - Lib.bitLen a
theorem LU {a:Nat} (h0:a≠0) (h:a<4503599627370496):1<=up a/\up a<=52/\4503599627370496<=a*2 ^ up a/\a*2 ^ up a<9007199254740992:=by
 obtain ⟨h1,h2,h3⟩:=bitLen_spec 52 a h (by decide) h0
 have h4:Lib.bitLen a<=52:=Lib.bitLen_le a 52 (by decide) h
 unfold up;obtain ⟨m,hm⟩: ∃m,Lib.bitLen a=m+1:=⟨Lib.bitLen a - 1,by omega⟩
 rw [hm] at h1 h2 h4⊢;simp only [alU] at h1
 have e1:2 ^ m*2 ^(53 -(m+1))=4503599627370496:=by rw [<-amD,show m+(53 -(m+1))=52 by omega]
 have e2:2 ^(m+1)*2 ^(53 -(m+1))=9007199254740992:=by rw [<-amD,show m+1+(53 -(m+1))=53 by omega]
 refine ⟨by omega,by omega, ?_, ?_⟩
 ·rw [<-e1];exact akh _ h1
 rw [<-e2];exact amy h2 (amq (by decide))
theorem aeT {a m:Nat} (h1:2 ^ m<=a) (h2:a<2 ^(m+1)) (hm:m<63):Lib.bitLen a=m+1:=by
 have h0:a≠0:=by have:=amq (n:=m) (show 0<2 by decide);omega
 obtain ⟨c1,c2,c3⟩:=bitLen_spec (m+1) a h2 (by omega) h0
 have l1:=Lib.bitLen_le a (m+1) (by omega) h2
 have l2: ¬Lib.bitLen a<=m:=fun hle=>by
  have:=akF (show 0<2 by decide) hle
  omega
 omega
def fV (a:Nat):Int:=if a<4503599627370496 then -1022 -(up a:Int) else (a / 4503599627370496:Nat) - 1023
def gG (a:Nat):Nat:=if a<4503599627370496 then a*2 ^ up a - 4503599627370496 else a % 4503599627370496
def bitsOf (f:Nat) (e:Int):Nat:=if -1022<=e then (e+1023).toNat*4503599627370496+f else (4503599627370496+f) / 2 ^(-1022 - e).toNat
def fits (f:Nat) (e:Int):Prop:= -1022<=e\/(-1022 - e).toNat<=Lib.ctz 64 (4503599627370496+f)
instance (f:Nat) (e:Int):Decidable (fits f e):=by unfold fits;infer_instance
theorem XI {x d:Nat} (h0:x≠0) (h:x<2 ^ 64):d<=Lib.ctz 64 x↔2 ^ d ∣ x:=by
 have e:Lib.ctz 64 x=Lib.ctzFrom 64 x:=by simp [Lib.ctz,h0]
 rw [e];obtain ⟨m,hm,_⟩:=Lib.ctzFrom_spec 64 x (by omega) h
 obtain ⟨c,hc⟩: ∃c,Lib.ctzFrom 64 x=c:=⟨_,rfl⟩;rw [hc] at hm⊢
 constructor
 ·intro hd
  rw [hm,show c=d+(c - d) by omega,amD,alD]
  exact Nat.dvd_mul_right _ _
 intro hd;refine akM fun hn=> ?_
 rw [hm,show d=c+((d - c - 1)+1) by omega,amD] at hd
 have h2:=Nat.dvd_of_mul_dvd_mul_left (amq (by decide)) hd
 rw [ake] at h2;have h3:2 ∣ 2*m+1:=Nat.dvd_trans (Nat.dvd_mul_left 2 _) h2;omega
theorem P9 {a:Nat} (h0:a≠0) (h:a<9218868437227405312):gG a<4503599627370496/\fV a<=1023/\ -1074<=fV a/\bitsOf (gG a) (fV a)=a/\fits (gG a) (fV a):=by
 by_cases hs:a<4503599627370496
 ·obtain ⟨u1,u2,u3,u4⟩:=LU h0 hs
  obtain ⟨u,hu⟩: ∃u,up a=u:=⟨_,rfl⟩;obtain ⟨x,hx⟩: ∃x,a*2 ^ u=x:=⟨_,rfl⟩
  have e1:fV a= -1022 -(u:Int):=by unfold fV;rw [ab7 hs,hu]
  have e2:gG a=x - 4503599627370496:=by unfold gG;rw [ab7 hs,hu,hx]
  rw [hu] at u1 u2 u3 u4;rw [hx] at u3 u4;rw [e1,e2]
  have e3:(-1022 -(-1022 -(u:Int))).toNat=u:=by omega
  have e4:4503599627370496+(x - 4503599627370496)=x:=by omega
  refine ⟨by omega,by omega,by omega, ?_, .inr ?_⟩
  ·unfold bitsOf
   rw [ab6 (by omega),e3,e4,<-hx,Nat.mul_div_cancel _ (amq (by decide))]
  rw [e3,e4,XI (by omega) (by omega),<-hx]
  exact Nat.dvd_mul_left _ _
 have e1:fV a=(a / 4503599627370496:Nat) - 1023:=by unfold fV;rw [ab6 hs]
 have e2:gG a=a % 4503599627370496:=by unfold gG;rw [ab6 hs]
 rw [e1,e2];refine ⟨by omega,by omega,by omega, ?_, .inl (by omega)⟩
 unfold bitsOf;rw [ab7 (by omega)]
 omega
theorem aeU {f:Nat} {e:Int} (hf:f<4503599627370496) (h1:e<=1023) (h2: -1074<=e) (hfit:fits f e):
  bitsOf f e≠0/\bitsOf f e<9218868437227405312/\gG (bitsOf f e)=f/\fV (bitsOf f e)=e:=by
 by_cases he: -1022<=e
 ·have e1:bitsOf f e=(e+1023).toNat*4503599627370496+f:=by unfold bitsOf;rw [ab7 he]
  rw [e1];refine ⟨by omega,by omega, ?_, ?_⟩
  ·unfold gG;rw [ab6 (by omega)];omega
  unfold fV;rw [ab6 (by omega)];omega
 have hd:=hfit.resolve_left he;obtain ⟨d,hd0⟩: ∃d,(-1022 - e).toNat=d:=⟨_,rfl⟩
 obtain ⟨x,hx⟩: ∃x,4503599627370496+f=x:=⟨_,rfl⟩
 have e1:bitsOf f e=x / 2 ^ d:=by unfold bitsOf;rw [ab6 he,hd0,hx]
 rw [hd0,hx,XI (by omega) (by omega)] at hd
 obtain ⟨a,ha⟩:=hd;have hp:0<2 ^ d:=amq (by decide)
 have e2:x / 2 ^ d=a:=by rw [ha,Nat.mul_div_cancel_left _ hp]
 have anc:1<=d/\d<=52:=by omega
 rw [e1,e2];have hxa:a*2 ^ d=x:=by rw [ha,ald]
 have lo:2 ^(52 - d)<=a:=by
  refine Nat.le_of_mul_le_mul_right ?_ hp;rw [<-amD,show 52 - d+d=52 by omega,hxa]
  omega
 have hi:a<2 ^(52 - d+1):=by
  refine Nat.lt_of_mul_lt_mul_right (a:=2 ^ d) ?_
  rw [<-amD,show 52 - d+1+d=53 by omega,hxa]
  omega
 have hb:=aeT lo hi (by omega)
 have hup:up a=d:=by unfold up;omega
 have ha0:a≠0:=by have:=amq (n:=52 - d) (show 0<2 by decide);omega
 have has:a<4503599627370496:=by
  have:2 ^(52 - d+1)<=2 ^ 52:=akF (by decide) (by omega)
  omega
 refine ⟨ha0,by omega, ?_, ?_⟩
 ·unfold gG;rw [ab7 has,hup,hxa];omega
 unfold fV;rw [ab7 has,hup];omega
def form (f:Nat) (e:Int):L:= [48,120,49] ++(nG f ++ fU e)
def tZ:L:= [48,120,110,97,110]
def xu:L:= [48,120,105,110,102]
def ZERO:L:= [48,120,48]
def eu (a:Nat):L:=if a=9218868437227405312 then xu else if a=0 then ZERO else form (gG a) (fV a)
def fmt (b:Nat):L:=
 if 9218868437227405312<b % 9223372036854775808 then tZ else sg (decide (9223372036854775808<=b)) ++ eu (b % 9223372036854775808)
def jJ:L->Option (L×L)
 | []=>none
 | c :: r=>if c=112\/c=109 then some ([],c :: r) else (jJ r).map fun x=>(c :: x.1,x.2)
theorem LW: ∀(l u v:L),jJ l=some (u,v)->l=u ++ v
 | [],u,v,h=>by simp [jJ] at h
 | c :: r,u,v,h=>by
  simp only [jJ] at h
  split at h
  ·simp only [ads,adL] at h
   obtain ⟨rfl,rfl⟩:=h;rfl
  cases hc:jJ r with
  | none=>rw [hc] at h;cases h
  | some x=>
   rw [hc] at h;simp only [aej,ads,adL] at h;obtain ⟨rfl,rfl⟩:=h;rw [LW r x.1 x.2 hc];rfl
theorem XJ: ∀(u:L) (c:UInt8) (r:L),(∀x∈u,x≠112/\x≠109)->c=112\/c=109->jJ (u ++ c :: r)=some (u,c :: r)
 | [],c,r,_,h=>by simp [jJ,h]
 | d :: u,c,r,hu,h=>by
  have hd:=hu d (by simp)
  simp only [adV,jJ]
  rw [ab6 (by simp [hd.1,hd.2]),XJ u c r (fun x hx=>hu x (by simp [hx])) h]
  rfl
def pair (t:L):Option (Nat×Int):=
 if Lib.hasPrefix t [48,120,49] then
  match jJ (t.drop 3) with
  | none=>none
  | some (u,v)=>match kP u,oZ v with
   | some f,some e=>some (f,e)
   | _,_=>none
 else none
def jW (t:L):Option Nat:=
 if t=xu then some 9218868437227405312 else if t=ZERO then some 0 else
 match pair t with
 | none=>none
 | some (f,e)=>if fits f e then some (bitsOf f e) else none
def parse (s:L):Option Nat:=
 if s=tZ then some 9221120237041090560 else
 if s.head?=some 45 then (jW (s.drop 1)).map (9223372036854775808+ ·) else jW s
theorem aeV {t:L} {f:Nat} {e:Int} (h:pair t=some (f,e)):t=form f e/\f<4503599627370496/\e<=1023/\ -1074<=e:=by
 unfold pair at h
 split at h
 ·rename_i hp
  cases hc:jJ (t.drop 3) with
  | none=>rw [hc] at h;cases h
  | some x=>
   obtain ⟨u,v⟩:=x;rw [hc] at h;simp only at h;cases hf:kP u with
   | none=>rw [hf] at h;simp at h
   | some f'=>
    cases he:oZ v with
    | none=>rw [hf,he] at h;simp at h
    | some e'=>
     rw [hf,he] at h;simp only [ads,adL] at h;obtain ⟨rfl,rfl⟩:=h;obtain ⟨h1,h2⟩:=PX hf
     obtain ⟨h3,h4,h5⟩:=P8 he;refine ⟨?_,h2,h4,h5⟩;have e1:=LW _ _ _ hc
     unfold Lib.hasPrefix at hp;rw [amE] at hp;obtain ⟨q,hq⟩:=hp;unfold form
     rw [<-hq] at e1⊢;simp at e1;rw [e1,<-h1,<-h3]
 cases h
theorem aeW: ∀d:Fin 16,eX d.val≠112/\eX d.val≠109:=by decide
theorem XK: ∀(k n:Nat),∀x∈hexN k n,x≠112/\x≠109
 | 0,_,x,h=>by simp [hexN] at h
 | k+1,n,x,h=>by
  rw [hexN] at h
  rcases acU.1 h with h | h
  ·exact XK k _ x h
  rw [adg.1 h];exact aeW ⟨n % 16,by omega⟩
theorem aeX (f:Nat): ∀x∈nG f,x≠112/\x≠109:=by
 unfold nG
 split
 ·simp
 intro x hx
 rcases adK.1 hx with rfl | hx
 ·decide
 refine XK 13 f x ?_;obtain ⟨j,h1,_⟩:=Hw _ (hexN 13 f) rfl;rw [h1];exact acU.2 (.inl hx)
theorem aeY {f:Nat} {e:Int} (hf:f<4503599627370496) (h1:e<=1023) (h2: -1074<=e):pair (form f e)=some (f,e):=by
 have hx: ∃c r,fU e=c :: r/\(c=112\/c=109):=by
  unfold fU
  split
  ·exact ⟨_,_,rfl, .inr rfl⟩
  exact ⟨_,_,rfl, .inl rfl⟩
 obtain ⟨c,r,hc,hc2⟩:=hx;have e1:(form f e).drop 3=nG f ++ fU e:=rfl
 have e2:Lib.hasPrefix (form f e) [48,120,49]=true:=by
  unfold Lib.hasPrefix form;simp [List.isPrefixOf]
 unfold pair;rw [ab7 e2,e1,hc,XJ _ _ _ (aeX f) hc2,<-hc];simp only;rw [aeQ hf,aeS h1 h2]
theorem Qa (f:Nat) (e:Int):(form f e).head?≠some 45/\form f e≠tZ/\form f e≠xu/\form f e≠ZERO:=by
 unfold form tZ xu ZERO;refine ⟨by simp,by simp,by simp,by simp⟩
theorem XL {a:Nat} (h:a<=9218868437227405312):jW (eu a)=some a:=by
 unfold eu;by_cases hi:a=9218868437227405312
 ·rw [ab7 hi,hi];rfl
 rw [ab6 hi];by_cases h0:a=0
 ·rw [ab7 h0,h0];rfl
 rw [ab6 h0];obtain ⟨p1,p2,p3,p4,p5⟩:=P9 h0 (by omega)
 obtain ⟨_,_,q3,q4⟩:=Qa (gG a) (fV a);unfold jW;rw [ab6 q3,ab6 q4,aeY p1 p2 p3];simp only
 rw [ab7 p5,p4]
theorem XM {t:L} {a:Nat} (h:jW t=some a):t=eu a/\a<=9218868437227405312:=by
 unfold jW at h
 split at h
 ·rename_i hi
  simp only [ads] at h;subst h;exact ⟨by rw [hi];rfl,by omega⟩
 split at h
 ·rename_i h0
  simp only [ads] at h;subst h;exact ⟨by rw [h0];rfl,by omega⟩
 cases hp:pair t with
 | none=>rw [hp] at h;cases h
 | some x=>
  obtain ⟨f,e⟩:=x;rw [hp] at h;simp only at h
  split at h
  ·rename_i hfit
   simp only [ads] at h;obtain ⟨r1,r2,r3,r4⟩:=aeV hp
   obtain ⟨s1,s2,s3,s4⟩:=aeU r2 r3 r4 hfit;rw [h] at s1 s2 s3 s4;refine ⟨?_,by omega⟩
   unfold eu;rw [ab6 (by omega),ab6 s1,s3,s4,r1]
  cases h
theorem aeZ (a:Nat):(eu a).head?≠some 45/\eu a≠tZ:=by
 unfold eu
 split
 ·exact ⟨by decide,by decide⟩
 split
 ·exact ⟨by decide,by decide⟩
 exact ⟨(Qa _ _).1,(Qa _ _).2.1⟩
def canon (b:Nat):Nat:=if 9218868437227405312<b % 9223372036854775808 then 9221120237041090560 else b
theorem ae0 {b:Nat} (hb:b<18446744073709551616):parse (fmt b)=some (canon b):=by
 unfold fmt canon;by_cases hn:9218868437227405312<b % 9223372036854775808
 ·rw [ab7 hn,ab7 hn];rfl
 rw [ab6 hn,ab6 hn];obtain ⟨h1,h2⟩:=aeZ (b % 9223372036854775808);unfold parse
 by_cases hs:9223372036854775808<=b
 ·rw [abW hs]
  have e:sg true ++ eu (b % 9223372036854775808)=45 :: eu (b % 9223372036854775808):=rfl
  rw [e,ab6 (by simp [tZ]),al6,ab7 rfl,adU,aeC,XL (by omega)]
  simp only [aej,ads];omega
 rw [abX hs]
 have e:sg false ++ eu (b % 9223372036854775808)=eu (b % 9223372036854775808):=rfl
 rw [e,ab6 h2,ab6 h1,XL (by omega)]
 congr 1
 omega
theorem Qb {s:L} {b:Nat} (h:parse s=some b):fmt b=s/\b<18446744073709551616/\canon b=b:=by
 unfold parse at h
 split at h
 ·rename_i hn
  simp only [ads] at h;subst h;exact ⟨by rw [hn];rfl,by omega,by decide⟩
 split at h
 ·rename_i hd
  obtain ⟨t,rfl⟩: ∃t,s=45 :: t:=by
   cases s with
   | nil=>simp at hd
   | cons c t=>simp at hd;subst hd;exact ⟨t,rfl⟩
  rw [adU,aeC] at h;cases hp:jW t with
  | none=>rw [hp] at h;cases h
  | some a=>
   rw [hp] at h;simp only [aej,ads] at h;obtain ⟨r1,r2⟩:=XM hp
   have e1:b % 9223372036854775808=a:=by omega
   refine ⟨?_,by omega,by unfold canon;rw [ab6 (by omega)]⟩
   unfold fmt;rw [e1,ab6 (by omega),abW (by omega),r1]
   rfl
 obtain ⟨r1,r2⟩:=XM h;have e1:b % 9223372036854775808=b:=by omega
 refine ⟨?_,by omega,by unfold canon;rw [ab6 (by omega)]⟩
 unfold fmt;rw [e1,ab6 (by omega),abX (by omega)]
 exact r1.symm
end Go.Proofs.YtoofbflplhbpbaaGreatDoor.Num
