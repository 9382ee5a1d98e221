/- Contracts and plain laws,part 1. -/
import Derived.Test.YtanlehkalkafdaaGreatDoorUR00
import Derived.Lib.ItoaMem
import Derived.Lib.ParseIntBTie
import Derived.Lib.TrailingZeros
import Derived.Lib.SlTrimSet
import Derived.Lib.BitFns
import Derived.Lib.Strings
set_option linter.all false
namespace Go.Proofs.YtanlehkalkafdaaGreatDoor.Num
open Go
abbrev L:=List UInt8
def isDig (c:UInt8):Bool:=decide (48<=c.toNat) && decide (c.toNat<=57)
theorem isDig_iff (c:UInt8):isDig c=true↔48<=c.toNat/\c.toNat<=57:=by simp[isDig]
def valE:L->Nat->Nat
 |[],acc=>acc
 |c :: r,acc=>valE r (acc*10+(c.toNat - 48))
def valD (acc:Nat) (l:L):Nat:=valE l acc
theorem valD_nil (acc:Nat):valD acc []=acc:=rfl
theorem valD_cons (acc:Nat) (c:UInt8) (r:L):valD acc (c :: r)=valD (acc*10+(c.toNat - 48)) r:=by unfold valD;rw[valE]
theorem valD_app: ∀(r:L) (acc:Nat) (q:L),valD acc (r++q)=valD (valD acc r) q
 |[],acc,q=>by rw[tY,valD_nil]
 |c :: r,acc,q=>by rw[uG,valD_cons,valD_cons,valD_app r]
theorem valD_ge: ∀(r:L) (acc:Nat),acc*10 ^ r.length<=valD acc r
 |[],acc=>by simp[valD_nil]
 |c :: r,acc=>by
  have h:=valD_ge r (acc*10+(c.toNat - 48))
  have h2:acc*10 ^(r.length+1)=(acc*10)*10 ^ r.length:=by rw[vN,xG,xu 10]
  have h3:(acc*10)*10 ^ r.length<=(acc*10+(c.toNat - 48))*10 ^ r.length:=vU _ (Nat.le_add_right _ _)
  rw[sS,valD_cons,h2];exact rV h3 h
theorem valD_lt: ∀(r:L) (acc:Nat),r.all isDig=true->valD acc r<(acc+1)*10 ^ r.length
 |[],acc,_=>by simp[valD_nil]
 |c :: r,acc,h=>by
  simp only[xH,uy,isDig_iff]at h;have h1:=valD_lt r (acc*10+(c.toNat - 48)) h.2
  have h3:(acc*10+(c.toNat - 48)+1)*10 ^ r.length<=((acc+1)*10)*10 ^ r.length:=vU _ (by omega)
  have h2:(acc+1)*10 ^(r.length+1)=((acc+1)*10)*10 ^ r.length:=by rw[vN,xG,xu 10]
  rw[sS,valD_cons,h2];exact sZ h1 h3
theorem valD_mono (r:L) (acc:Nat):acc<=valD acc r:=by
 have h:=valD_ge r acc;have h1:1<=10 ^ r.length:=Nat.one_le_pow _ _ (by decide)
 have h2:=Nat.le_mul_of_pos_right acc h1;omega
theorem dec_step {u:Nat} (h: ¬u<10):Lib.decDigits u=Lib.decDigits (u / 10)++[UInt8.ofNat (48+u % 10)]:=by rw[Lib.decDigits,dif_neg h]
theorem ofNat_dig {d:Nat} (h:d<10):(UInt8.ofNat (48+d)).toNat=48+d:=by simp;omega
theorem dec_all (u:Nat):(Lib.decDigits u).all isDig=true:=by
 induction u using Nat.strongRecOn with
 |_ u ih=>
  by_cases h:u<10
  ·rw[Lib.decDigits_one h];simp only[xH,CB,AU,isDig_iff];rw[ofNat_dig h];omega
  rw[dec_step h,Bj,ih _ (by omega)]
  simp only[xH,CB,AU,Bool.true_and,isDig_iff];rw[ofNat_dig (by omega)];omega
theorem dec_val (u:Nat):valD 0 (Lib.decDigits u)=u:=by
 induction u using Nat.strongRecOn with
 |_ u ih=>
  by_cases h:u<10
  ·rw[Lib.decDigits_one h];simp only[valD_nil,valD_cons];rw[ofNat_dig h];omega
  rw[dec_step h,valD_app,ih _ (by omega)]
  simp only[valD_nil,valD_cons];rw[ofNat_dig (by omega)];omega
theorem dec_head (u:Nat) (h0:u≠0): ∃c r,Lib.decDigits u=c :: r/\c.toNat≠48:=by
 induction u using Nat.strongRecOn with
 |_ u ih=>
  by_cases h:u<10
  ·exact⟨_,[],Lib.decDigits_one h,by rw[ofNat_dig h];omega⟩
  obtain⟨c,r,e,hc⟩:=ih (u / 10) (by omega) (by omega)
  exact⟨c,r++[UInt8.ofNat (48+u % 10)],by rw[dec_step h,e];rfl,hc⟩
theorem dec_zero:Lib.decDigits 0=[48]:=Lib.decDigits_one (by omega)
theorem dec_len (u:Nat):(Lib.decDigits u).length=Lib.nDigits u:=Lib.decDigits_length u
theorem toNat_ne {c:UInt8} {n:Nat} (hn:n<256):c≠UInt8.ofNat n↔c.toNat≠n:=by
 constructor
 ·intro h e
  exact h (vS.1 (by simp;omega))
 intro h e;exact h (by rw[e];simp;omega)
theorem byte_back {c:UInt8} (h:48<=c.toNat) (h2:c.toNat<=57):UInt8.ofNat (48+(c.toNat - 48))=c:=by
 rw[show 48+(c.toNat - 48)=c.toNat by omega];exact BN
theorem nil_or_snoc (t:L):t=[]\/ ∃t' d,t=t' ++ [d]:=by
 induction t with
 |nil=>exact .inl rfl
 |cons c t ih=>
  refine .inr ?_
  rcases ih with rfl|⟨t',d,rfl⟩
  ·exact⟨[],c,rfl⟩
  exact⟨c :: t',d,rfl⟩
theorem dec_back: ∀(n:Nat) (r:L),r.length=n->r.all isDig=true->(∃c t,r=c :: t/\c.toNat≠48)->Lib.decDigits (valD 0 r)=r:=by
 intro n
 induction n with
 |zero=>intro r hr _ ⟨c,t,e,_⟩;rw[e]at hr;simp at hr
 |succ n ih=>
  intro r hr hall ⟨c,t,e,hc⟩
  rcases nil_or_snoc t with ht|⟨t',d,ht⟩
  ·subst ht e
   simp only[xH,CB,AU,isDig_iff]at hall;simp only[valD_nil,valD_cons]
   rw[show 0*10+(c.toNat - 48)=c.toNat - 48 by omega,Lib.decDigits_one (by omega),byte_back hall.1 hall.2]
  subst ht e;have e2:c ::(t' ++ [d])=(c :: t')++[d]:=rfl;rw[e2]at hr hall⊢
  rw[Bj]at hall;simp only[uy,xH (a:=d),CB,yJ,isDig_iff]at hall
  have h1:=ih (c :: t') (by simpa using hr) hall.1 ⟨c,t',rfl,hc⟩
  have hb:=valD_ge t' (c.toNat - 48)
  have h2:1<=valD 0 (c :: t'):=by
   have hcd:isDig c=true:=by
    have:=hall.1;simp only[xH,uy]at this;exact this.1
   rw[isDig_iff]at hcd;have:=valD_mono t' (0*10+(c.toNat - 48));simp only[valD_cons]
   omega
  rw[valD_app];simp only[valD_nil,valD_cons];simp only[valD_cons]at h1 h2
  rw[dec_step (by omega)]
  rw[show(valD (0*10+(c.toNat - 48)) t'*10+(d.toNat - 48)) / 10=valD (0*10+(c.toNat - 48)) t' by omega,h1,
   show(valD (0*10+(c.toNat - 48)) t'*10+(d.toNat - 48)) % 10=d.toNat - 48 by omega,byte_back hall.2.1 hall.2.2]
theorem parseUintM_dig: ∀(r:L) (acc:Nat),r.all isDig=true->acc<=18446744073709551615->
  Lib.parseUintM 18446744073709551615 acc r=if valD acc r<=18446744073709551615 then .ok (valD acc r) else .range
 |[],acc,_,ha=>by rw[valD_nil,rY ha];rfl
 |c :: r,acc,h,ha=>by
  simp only[xH,uy,isDig_iff]at h;have hm:=valD_mono r (acc*10+(c.toNat - 48))
  simp only[Lib.parseUintM,valD_cons];rw[rY h.1];by_cases h1:1844674407370955162<=acc
  ·rw[rY h1,rU (by omega)]
  rw[rU h1];by_cases h2:18446744073709551615<acc*10+(c.toNat - 48)
  ·rw[rY h2,rU (by omega)]
  rw[rU h2];exact parseUintM_dig r _ h.2 (by omega)
def isInt (l:L):Bool:=
 if l=[48] then true else
 match(if l.head?=some 45 then l.drop 1 else l) with
 |[]=>false
 |c :: r=> !(c == 48) &&(c :: r).all isDig
def parseInt (l:L):Int×Nat:=
 let neg:=l.head?=some 45
 let r:=if neg then l.drop 1 else l
 if r=[]\/(r.head?=some 48/\1<l.length) then(0,50) else
 if¬r.all isDig then(0,50) else
 if 19<r.length then(0,51) else
 if neg then(if 9223372036854775808<valD 0 r then(0,51) else(-(valD 0 r:Int),0)) else
 if 9223372036854775808<=valD 0 r then(0,51) else((valD 0 r:Int),0)
theorem isInt_iff (l:L):isInt l=true↔ ∃(neg:Bool) (r:L),l=(if neg then[45] else[])++r/\r.all isDig=true/\((∃c t,r=c :: t/\c≠48)\/(r=[48]/\neg=false)):=by
 unfold isInt;by_cases h48:l=[48]
 ·subst h48
  simp only[yO,true_iff];exact⟨false,[48],rfl,by decide,.inr ⟨rfl,rfl⟩⟩
 rw[rU h48];by_cases hn:l.head?=some 45
 ·rw[rY hn]
  obtain⟨t,rfl⟩: ∃t,l=45 :: t:=by
   cases l with
   |nil=>simp at hn
   |cons c t=>simp at hn;subst hn;exact⟨t,rfl⟩
  simp only[vF,vX]
  constructor
  ·intro h
   cases t with
   |nil=>simp at h
   |cons c t=>
    simp only[uy,yU,rX]at h;exact⟨true,c :: t,rfl,h.2,.inl ⟨c,t,rfl,h.1⟩⟩
  rintro⟨neg,r,e,hall,hh⟩;cases neg with
  |true=>
   simp only[yO,yR,wI,true_and]at e;subst e
   rcases hh with⟨c,t',rfl,hc⟩|⟨_,h⟩
   ·simp only[uy,yU,rX]
    exact⟨hc,hall⟩
   cases h
  |false=>
   simp only[xC,AV,tY]at e;subst e;simp only[xH,uy]at hall
   exact absurd hall.1 (by decide)
 rw[rU hn]
 constructor
 ·intro h
  cases l with
  |nil=>simp at h
  |cons c t=>
   simp only[uy,yU,rX]at h;exact⟨false,c :: t,rfl,h.2,.inl ⟨c,t,rfl,h.1⟩⟩
 rintro⟨neg,r,e,hall,hh⟩;cases neg with
 |true=>subst e;simp at hn
 |false=>
  simp only[xC,AV,tY]at e;subst e
  rcases hh with⟨c,t',rfl,hc⟩|⟨h,_⟩
  ·simp only[uy,yU,rX]
   exact⟨hc,hall⟩
  exact absurd h h48
theorem head_dig {c:UInt8} {t:L} (h:(c :: t).all isDig=true):c.toNat≠45/\c.toNat≠43:=by
 simp only[xH,uy,isDig_iff]at h;omega
def over (neg:Bool) (v:Nat):Prop:=if neg then 9223372036854775808<v else 9223372036854775808<=v
instance (neg:Bool) (v:Nat):Decidable (over neg v):=by unfold over;cases neg<;>infer_instance
def sgnd (neg:Bool) (v:Nat):Int:=if neg then -(v:Int) else v
def sg (neg:Bool):L:=if neg then[45] else[]
def Good (neg:Bool) (r:L):Prop:=r.all isDig=true/\((∃c t,r=c :: t/\c≠48)\/(r=[48]/\neg=false))
theorem ne48 {c:UInt8}:c≠48↔c.toNat≠48:=toNat_ne (n:=48) (by decide)
theorem long_over {r:L} (h:r.all isDig=true) {c:UInt8} {t:L} (e:r=c :: t) (hc:c≠48) (hl:19<r.length):10000000000000000000<=valD 0 r:=by
 subst e;have h1:=h;simp only[xH,uy,isDig_iff]at h1;have hc':=ne48.1 hc;rw[valD_cons]
 have h2:=valD_ge t (0*10+(c.toNat - 48))
 have h3:10 ^ 19<=10 ^ t.length:=vY (by decide) (by simp at hl;omega)
 have h4:1*10 ^ t.length<=(0*10+(c.toNat - 48))*10 ^ t.length:=vU _ (by omega)
 rw[Nat.one_mul]at h4;exact rV (rV h3 h4) h2
theorem parseInt_form {neg:Bool} {r:L} (h:Good neg r):parseInt (sg neg++r)=if over neg (valD 0 r) then(0,51) else(sgnd neg (valD 0 r),0):=by
 obtain⟨hall,hh⟩:=h;have hne:r≠ []:=by rcases hh with⟨c,t,rfl,_⟩|⟨rfl,_⟩<;>simp
 have hbig:19<r.length->10000000000000000000<=valD 0 r:=fun hl=>by
  rcases hh with⟨c,t,e,hc⟩|⟨rfl,_⟩
  ·exact long_over hall e hc hl
  simp at hl
 cases neg with
 |true=>
  have h48: ¬(r.head?=some 48/\1<(45 :: r).length):=by
   rcases hh with⟨c,t,rfl,hc⟩|⟨_,h⟩
   ·simp[hc]
   cases h
  unfold parseInt sg;simp only[yO,yR,zN,vF,vX]
  rw[rU (by simp only[hne,false_or];exact h48),rU (by simp[hall])]
  unfold over sgnd;simp only[yO];by_cases hl:19<r.length
  ·have:=hbig hl
   rw[rY hl,rY (by omega)]
  rw[rU hl]
 |false=>
  have hhd:r.head?≠some 45:=by
   cases r with
   |nil=>simp
   |cons c t=>have:=(head_dig hall).1;simp;intro e;subst e;exact this rfl
  have h48: ¬(r.head?=some 48/\1<r.length):=by
   rcases hh with⟨c,t,rfl,hc⟩|⟨rfl,_⟩
   ·simp[hc]
   simp
  unfold parseInt sg;simp only[xC,AV,tY,rU hhd]
  rw[rU (by simp only[hne,false_or];exact h48),rU (by simp[hall])]
  unfold over sgnd;simp only[xC,AV];by_cases hl:19<r.length
  ·have:=hbig hl
   rw[rY hl,rY (by omega)]
  rw[rU hl]
theorem isInt_good (l:L):isInt l=true↔ ∃neg r,l=sg neg++r/\Good neg r:=isInt_iff l
theorem parseInt_bad {l:L} (h:isInt l=false):parseInt l=(0,50):=by
 have hn: ¬ ∃neg r,l=sg neg++r/\Good neg r:=fun hh=>by rw[(isInt_good l).2 hh]at h;cases h
 have key: ∀(neg:Bool) (r:L),l=sg neg++r->(neg=true->l.head?=some 45)->r=[]\/(r.head?=some 48/\1<l.length)\/ ¬r.all isDig=true:=fun neg r e he=>by
  refine yD fun hc=> ?_
  simp only[yS,Decidable.not_not]at hc;obtain⟨c1,c2,c3⟩:=hc;refine hn ⟨neg,r,e,c3, ?_⟩
  cases r with
  |nil=>exact absurd rfl c1
  |cons c t=>
   by_cases h48:c=48
   ·subst h48
    have hl: ¬1<l.length:=fun hl=>c2 ⟨rfl,hl⟩
    rw[e]at hl;cases neg with
    |true=>simp[sg]at hl
    |false=>
     cases t with
     |nil=>exact .inr ⟨rfl,rfl⟩
     |cons d t=>simp[sg]at hl
   exact .inl ⟨c,t,rfl,h48⟩
 unfold parseInt;by_cases hd:l.head?=some 45
 ·obtain⟨t,rfl⟩: ∃t,l=45 :: t:=by
   cases l with
   |nil=>simp at hd
   |cons c t=>simp at hd;subst hd;exact⟨t,rfl⟩
  have:=key true t rfl (fun _=>rfl)
  simp only[zN,yO,vF,vX]
  rcases this with h1|h1|h1
  ·rw[rY (.inl h1)]
  ·rw[rY (.inr h1)]
  by_cases h2:t=[]\/(t.head?=some 48/\1<(45 :: t).length)
  ·rw[rY h2]
  rw[rU h2,rY h1]
 have:=key false l rfl (fun e=>by cases e)
 simp only[rU hd]
 rcases this with h1|h1|h1
 ·rw[rY (.inl h1)]
 ·rw[rY (.inr h1)]
 by_cases h2:l=[]\/(l.head?=some 48/\1<l.length)
 ·rw[rY h2]
 rw[rU h2,rY h1]
theorem lib_parse {neg:Bool} {r:L} (h:Good neg r):Lib.parseIntB 64 (sg neg++r)=if over neg (valD 0 r) then .range else .ok (sgnd neg (valD 0 r)):=by
 obtain⟨hall,hh⟩:=h;have hne:r≠ []:=by rcases hh with⟨c,t,rfl,_⟩|⟨rfl,_⟩<;>simp
 have hu:Lib.parseMag r=if valD 0 r<=18446744073709551615 then .ok (valD 0 r) else .range:=by
  unfold Lib.parseMag;rw[rU hne,<-Lib.parseUintM_64,parseUintM_dig r 0 hall (by omega)]
 rw[Lib.parseIntB_64]
 obtain⟨c,t,rfl⟩: ∃c t,r=c :: t:=by
  cases r with
  |nil=>exact absurd rfl hne
  |cons c t=>exact⟨c,t,rfl⟩
 obtain⟨h45,h43⟩:=head_dig hall;obtain⟨v,hv⟩:=aj (valD 0 (c :: t));rw[hv]at hu⊢
 cases neg with
 |true=>
  show Lib.atoiAll (45 :: c :: t)=_
  unfold Lib.atoiAll over sgnd;simp only[show(45:UInt8).toNat=45 from rfl,or_true,yO,hu]
  by_cases hb:v<=18446744073709551615
  ·rw[rY hb]
   simp only[not_true,false_and,AV,true_and]
  rw[rU hb];simp only;rw[rY (by omega)]
 |false=>
  show Lib.atoiAll (c :: t)=_
  unfold Lib.atoiAll over sgnd;simp only[h43,h45,or_self,AV,hu,xC]
  by_cases hb:v<=18446744073709551615
  ·rw[rY hb]
   simp only[not_false_eq_true,true_and,false_and,AV]
  rw[rU hb];simp only;rw[rY (by omega)]
theorem itoa_form (n:Int): ∃neg r,Lib.itoa n=sg neg++r/\Good neg r/\sgnd neg (valD 0 r)=n/\valD 0 r=n.natAbs/\(neg=true↔n<0):=by
 unfold Lib.itoa;by_cases h:n<0
 ·rw[rY h]
  obtain⟨c,r,e,hc⟩:=dec_head n.natAbs (by omega)
  refine⟨true,Lib.decDigits n.natAbs,rfl,⟨dec_all _,.inl ⟨c,r,e,ne48.2 hc⟩⟩, ?_,dec_val _,by simp[h]⟩
  rw[dec_val];unfold sgnd;simp only[yO];omega
 rw[rU h]
 refine⟨false,Lib.decDigits n.toNat,rfl,⟨dec_all _, ?_⟩, ?_,by rw[dec_val];omega,by simp;omega⟩
 ·by_cases h0:n.toNat=0
  ·exact .inr ⟨by rw[h0,dec_zero],rfl⟩
  obtain⟨c,r,e,hc⟩:=dec_head n.toNat h0;exact .inl ⟨c,r,e,ne48.2 hc⟩
 rw[dec_val];unfold sgnd;simp only[xC,AV];omega
theorem parse_itoa (n:Int) (h0: -9223372036854775808<=n) (h1:n<=9223372036854775807):parseInt (Lib.itoa n)=(n,0):=by
 obtain⟨neg,r,e,hg,hv,ha,hn⟩:=itoa_form n;rw[e,parseInt_form hg,rU,hv];unfold over
 cases neg with
 |true=>simp at hn⊢;omega
 |false=>simp at hn⊢;omega
theorem good_itoa {neg:Bool} {r:L} (h:Good neg r):Lib.itoa (sgnd neg (valD 0 r))=sg neg++r:=by
 obtain⟨hall,hh⟩:=h
 rcases hh with⟨c,t,e,hc⟩|⟨rfl,rfl⟩
 ·have hb:=dec_back r.length r rfl hall ⟨c,t,e,ne48.1 hc⟩
  have hpos:valD 0 r≠0:=fun h0=>by
   rw[h0,dec_zero,e]at hb;simp at hb;exact hc hb.1.symm
  unfold Lib.itoa sgnd sg;cases neg with
  |true=>
   simp only[yO];rw[rY (by omega)]
   simp only[Int.natAbs_neg,Int.natAbs_natCast,yR,hb]
  |false=>
   simp only[xC,AV,tY];rw[rU (by omega)]
   simp only[zW,hb]
 have:valD 0 [48]=0:=rfl;rw[this];unfold Lib.itoa sgnd sg;simp[dec_zero]
theorem itoa_of_parse {l:L} {n:Int} (h:parseInt l=(n,0)):Lib.itoa n=l:=by
 cases hi:isInt l with
 |false=>rw[parseInt_bad hi]at h;simp at h
 |true=>
  obtain⟨neg,r,rfl,hg⟩:=(isInt_good l).1 hi;rw[parseInt_form hg]at h
  split at h
  ·simp at h
  simp only[uZ,yJ]at h;rw[<-h];exact good_itoa hg
theorem lib_parse_isInt {l:L} (h:isInt l=true):(∃v,Lib.parseIntB 64 l=.ok v/\parseInt l=(v,0))\/(Lib.parseIntB 64 l=.range/\parseInt l=(0,51)):=by
 obtain⟨neg,r,rfl,hg⟩:=(isInt_good l).1 h;rw[lib_parse hg,parseInt_form hg]
 split
 ·exact .inr ⟨rfl,rfl⟩
 exact .inl ⟨_,rfl,rfl⟩
def hexd (d:Nat):UInt8:=UInt8.ofNat (if d<10 then 48+d else 87+d)
def hexv (c:UInt8):Option Nat:=if 48<=c.toNat/\c.toNat<=57 then some (c.toNat - 48) else if 97<=c.toNat/\c.toNat<=102 then some (c.toNat - 87) else none
theorem hexv_hexd: ∀d:Fin 16,hexv (hexd d.val)=some d.val:=by decide
theorem hexd_hexv_fin: ∀c:Fin 256,∀d:Fin 16,hexv (UInt8.ofNat c.val)=some d.val->hexd d.val=UInt8.ofNat c.val:=by decide+kernel
theorem hexv_lt {c:UInt8} {d:Nat} (h:hexv c=some d):d<16:=by
 unfold hexv at h
 split at h
 ·simp at h;omega
 split at h
 ·simp at h;omega
 cases h
theorem hexd_hexv {c:UInt8} {d:Nat} (h:hexv c=some d):hexd d=c:=by
 have hd:=hexv_lt h;have:=hexd_hexv_fin ⟨c.toNat,zX c⟩ ⟨d,hd⟩ (by simpa using h)
 simpa using this
def hexN:Nat->Nat->L
 |0,_=> []
 |k+1,n=>hexN k (n / 16)++[hexd (n % 16)]
theorem hexN_len: ∀(k n:Nat),(hexN k n).length=k
 |0,_=>rfl
 |k+1,n=>by simp[hexN,hexN_len k]
def hexVal:L->Nat->Option Nat
 |[],acc=>some acc
 |c :: r,acc=>match hexv c with
  |some d=>hexVal r (acc*16+d)
  |none=>none
theorem hexVal_app: ∀(a b:L) (acc:Nat),hexVal (a++b) acc=(hexVal a acc).bind (hexVal b)
 |[],b,acc=>rfl
 |c :: r,b,acc=>by
  simp only[uG,hexVal];cases hexv c with
  |none=>rfl
  |some d=>exact hexVal_app r b _
theorem hexVal_hexN: ∀(k n acc:Nat),n<16 ^ k->hexVal (hexN k n) acc=some (acc*16 ^ k+n)
 |0,n,acc,h=>by simp at h;subst h;simp[hexN,hexVal]
 |k+1,n,acc,h=>by
  rw[vN]at h;rw[hexN,hexVal_app,hexVal_hexN k (n / 16) acc (by omega)]
  have e:=hexv_hexd ⟨n % 16,by omega⟩
  simp only at e;simp only[zD,hexVal,e]
  congr 1
  rw[vN,<-xG];have:acc*16 ^ k*16=(acc*16 ^ k)*16:=rfl;omega
theorem hexN_hexVal: ∀(k:Nat) (r:L) (n:Nat),r.length=k->hexVal r 0=some n->n<16 ^ k/\hexN k n=r
 |0,r,n,hl,h=>by
  have:r=[]:=sH hl;subst this;simp[hexVal]at h;subst h;exact⟨by simp,rfl⟩
 |k+1,r,n,hl,h=>by
  rcases nil_or_snoc r with rfl|⟨q,c,rfl⟩
  ·simp at hl
  have hq:q.length=k:=by simpa using hl
  rw[hexVal_app]at h;cases hm:hexVal q 0 with
  |none=>rw[hm]at h;simp at h
  |some m=>
   rw[hm]at h;simp only[zD,hexVal]at h;cases hc:hexv c with
   |none=>rw[hc]at h;simp at h
   |some d=>
    rw[hc]at h;simp only[uH]at h;obtain⟨h1,h2⟩:=hexN_hexVal k q m hq hm
    have hd:=hexv_lt hc;subst h;refine⟨by rw[vN];omega, ?_⟩
    rw[hexN,show(m*16+d) / 16=m by omega,show(m*16+d) % 16=d by omega,h2,hexd_hexv hc]
theorem hexN_shift: ∀(j k n:Nat),hexN (k+j) (n*16 ^ j)=hexN k n++List.replicate j 48
 |0,k,n=>by simp
 |j+1,k,n=>by
  have e:n*16 ^(j+1)=(n*16 ^ j)*16:=by rw[vN,xG]
  rw[<-wV,hexN,e,Nat.mul_div_cancel _ (by decide:0<16),Nat.mul_mod_left,hexN_shift j k n,sV]
  congr 1
  have:hexd 0=48:=by decide
  rw[this,AX]
theorem trim_snoc (l:L) (c:UInt8):Lib.trimRightS (l++[c]) [48]=if c=48 then Lib.trimRightS l [48] else l++[c]:=by
 unfold Lib.trimRightS
 rw[List.reverse_append,List.reverse_singleton,yR,xU,Lib.contains_one];by_cases h:c=48
 ·subst h;simp
 rw[rU h];have:(c == 48)=false:=by simpa using h
 rw[this];simp
theorem trim_nil:Lib.trimRightS [] [48]=[]:=rfl
theorem trim_keep {l:L} (h:l.getLast?≠some 48):Lib.trimRightS l [48]=l:=by
 rcases nil_or_snoc l with rfl|⟨q,c,rfl⟩
 ·rfl
 rw[trim_snoc,rU];intro e;subst e;simp at h
theorem trim_zeros (l:L): ∀j,Lib.trimRightS (l++List.replicate j 48) [48]=Lib.trimRightS l [48]
 |0=>by simp
 |j+1=>by rw[AX,<-sV,trim_snoc,rY rfl,trim_zeros l j]
theorem trim_split: ∀(n:Nat) (l:L),l.length=n-> ∃j,l=Lib.trimRightS l [48]++List.replicate j 48/\(Lib.trimRightS l [48]).getLast?≠some 48:=by
 intro n
 induction n with
 |zero=>
  intro l hl;have:l=[]:=sH hl;subst this;exact⟨0,rfl,by simp[trim_nil]⟩
 |succ n ih=>
  intro l hl
  rcases nil_or_snoc l with rfl|⟨q,c,rfl⟩
  ·simp at hl
  rw[trim_snoc];by_cases h:c=48
  ·subst h
   rw[rY rfl];obtain⟨j,h1,h2⟩:=ih q (by simpa using hl)
   refine⟨j+1, ?_,h2⟩;rw[AX,<-sV,<-h1]
  rw[rU h];exact⟨0,by simp,by simp[h]⟩
def fracS (f:Nat):L:=if f=0 then[] else 46 :: Lib.trimRightS (hexN 13 f) [48]
def fracG:L->Option Nat
 |[]=>some 0
 |c :: h=>if c≠46\/h=[]\/13<h.length\/h.getLast?=some 48 then none else(hexVal h 0).map (· *16 ^(13 - h.length))
theorem last_ne_zero {k n:Nat} (h:(hexN (k+1) n).getLast?≠some 48):n % 16≠0:=by
 intro h0
 apply h
 rw[hexN,h0];simp
 decide
theorem fracG_form {u:L} {f:Nat} (h:fracG u=some f):u=fracS f/\f<4503599627370496:=by
 cases u with
 |nil=>simp[fracG]at h;subst h;exact⟨rfl,by decide⟩
 |cons c t=>
  simp only[fracG]at h
  split at h
  ·cases h
  rename_i hc;simp only[yS,Decidable.not_not]at hc;obtain⟨rfl,h1,h2,h3⟩:=hc
  cases hv:hexVal t 0 with
  |none=>rw[hv]at h;cases h
  |some n=>
   rw[hv]at h;simp only[vg,uH]at h
   obtain⟨k,hk⟩: ∃k,t.length=k+1:=by
    cases t with
    |nil=>exact absurd rfl h1
    |cons a b=>exact⟨b.length,rfl⟩
   obtain⟨hlt,hx⟩:=hexN_hexVal (k+1) t n hk hv;rw[hk]at h h2
   have hj:13=(k+1)+(13 -(k+1)):=by omega
   have hf:f=n*16 ^(13 -(k+1)):=h.symm
   have hl3:(hexN (k+1) n).getLast?≠some 48:=by rw[hx];exact h3
   have hn0:=last_ne_zero hl3;have hp:0<16 ^(13 -(k+1)):=yM (by decide)
   have hf0:f≠0:=by
    rw[hf];exact Nat.mul_ne_zero (by omega) (by omega)
   constructor
   ·unfold fracS
    rw[rU hf0,hf]
    congr 1
    have e:=hexN_shift (13 -(k+1)) (k+1) n;rw[<-hj]at e
    rw[e,trim_zeros,trim_keep hl3,hx]
   have e:(16:Nat) ^(k+1)*16 ^(13 -(k+1))=4503599627370496:=by
    rw[<-y5,<-hj]
   rw[hf,<-e];exact yV hlt hp
theorem hexVal_zeros: ∀(j acc:Nat),hexVal (List.replicate j 48) acc=some (acc*16 ^ j)
 |0,acc=>by simp[hexVal]
 |j+1,acc=>by
  have e:hexv 48=some 0:=by decide
  rw[List.replicate_succ,hexVal,e];simp only;rw[hexVal_zeros j,vN,vw,xG,xu 16]
theorem fracG_fracS {f:Nat} (hf:f<4503599627370496):fracG (fracS f)=some f:=by
 unfold fracS;by_cases h0:f=0
 ·rw[rY h0,h0];rfl
 rw[rU h0];obtain⟨j,h1,h2⟩:=trim_split _ (hexN 13 f) rfl
 obtain⟨h,hh⟩:=aj (Lib.trimRightS (hexN 13 f) [48]);rw[hh]at h1 h2⊢
 have hv:=hexVal_hexN 13 f 0 (by simpa using hf)
 rw[h1,hexVal_app]at hv;have hlen:=hexN_len 13 f
 rw[h1,rP,List.length_replicate]at hlen;cases hm:hexVal h 0 with
 |none=>rw[hm]at hv;simp at hv
 |some m=>
  rw[hm]at hv;simp only[zD,hexVal_zeros,uH,BD,wL]at hv
  have hne:h≠ []:=by
   intro e;subst e;simp[hexVal]at hm;subst hm;simp at hv;exact h0 hv.symm
  simp only[fracG];rw[rU (by simp only[ne_eq,not_true,hne,h2,AY,false_or];omega),hm]
  simp only[vg];rw[show 13 - h.length=j by omega,hv]
def expS (e:Int):L:=if e<0 then 109 :: Lib.itoa (-e) else 112 :: Lib.itoa e
def expR (c:UInt8) (r:L):Int:=if c=109 then -((valD 0 r:Nat):Int) else(valD 0 r:Nat)
def expG (s:L):Option Int:=
 match s with
 |[]=>none
 |c :: r=>
  if r=[]\/4<r.length\/(c≠112/\c≠109)\/isInt r=false\/r.head?=some 45\/(c=109/\r=[48]) then none else
  if expR c r<=1023/\ -1074<=expR c r then some (expR c r) else none
theorem expR_m (r:L):expR 109 r= -((valD 0 r:Nat):Int):=by unfold expR;rw[rY rfl]
theorem expR_p {c:UInt8} (h:c≠109) (r:L):expR c r=(valD 0 r:Nat):=by unfold expR;rw[rU h]
theorem isInt_head {r:L} (h:isInt r=true) (h2:r.head?≠some 45):Good false r:=by
 obtain⟨neg,q,e,hg⟩:=(isInt_good r).1 h;cases neg with
 |true=>subst e;simp[sg]at h2
 |false=>have:r=q:=e;subst this;exact hg
theorem good_isInt {r:L} (h:Good false r):isInt r=true:=(isInt_good r).2 ⟨false,r,rfl,h⟩
theorem good_ne {r:L} {neg:Bool} (h:Good neg r):r≠ []:=by
 rcases h.2 with⟨c,t,rfl,_⟩|⟨rfl,_⟩<;>simp
theorem good_head {r:L} {neg:Bool} (h:Good neg r):r.head?≠some 45:=by
 cases r with
 |nil=>simp
 |cons c t=>have:=(head_dig h.1).1;simp;intro e;subst e;exact this rfl
theorem itoa_good {r:L} (h:Good false r):Lib.itoa (valD 0 r:Nat)=r:=by
 have:=good_itoa h
 simpa[sgnd,sg] using this
theorem good_zero {r:L} (h:Good false r) (h0:valD 0 r=0):r=[48]:=by
 have:=itoa_good h;rw[h0]at this;rw[<-this]
 show Lib.itoa ((0:Nat):Int)=_
 rw[Lib.itoa_nonneg,dec_zero]
theorem expG_form {v:L} {e:Int} (h:expG v=some e):v=expS e/\e<=1023/\ -1074<=e:=by
 cases v with
 |nil=>simp[expG]at h
 |cons c r=>
  simp only[expG]at h
  split at h
  ·cases h
  rename_i hc;simp only[yS,Bool.not_eq_false]at hc;obtain⟨h1,h2,h3,h4,h5,h6⟩:=hc
  have hg:=isInt_head h4 h5;have hi:=itoa_good hg
  split at h
  ·rename_i hb
   simp only[uH]at h;subst h;refine⟨?_,hb.1,hb.2⟩;by_cases hc:c=109
   ·rw[hc,expR_m]
    have hpos:valD 0 r≠0:=fun h0=>h6 ⟨hc,good_zero hg h0⟩
    unfold expS;rw[rY (by omega),Int.neg_neg,hi]
   rw[expR_p hc];have:c=112:=yD fun h7=>h3 ⟨h7,hc⟩
   unfold expS;rw[rU (by omega),hi,this]
  cases h
theorem itoa_nat_good (n:Nat):Good false (Lib.itoa (n:Int))/\valD 0 (Lib.itoa (n:Int))=n:=by
 obtain⟨neg,r,e,hg,hv,ha,hn⟩:=itoa_form (n:Int)
 have:neg=false:=by
  cases neg with
  |false=>rfl
  |true=>have:=hn.1 rfl;omega
 subst this;have e:Lib.itoa (n:Int)=r:=e;rw[e];exact⟨hg,by omega⟩
theorem itoa_len (n:Nat) (h:n<10000):(Lib.itoa (n:Int)).length<=4:=by
 rw[Lib.itoa_nonneg,dec_len]
 have: ∀k u:Nat,u<10 ^(k+1)->Lib.nDigits u<=k+1:=by
  intro k
  induction k with
  |zero=>intro u hu;rw[Lib.nDigits_small (by simpa using hu)];omega
  |succ k ih=>
   intro u hu;by_cases hs:u<10
   ·rw[Lib.nDigits_small hs];omega
   rw[Lib.nDigits_big hs];have:=ih (u / 10) (by rw[vN]at hu;omega)
   omega
 exact this 3 n (by simpa using h)
theorem expG_expS {e:Int} (h1:e<=1023) (h2: -1074<=e):expG (expS e)=some e:=by
 unfold expS;by_cases hn:e<0
 ·rw[rY hn]
  obtain⟨n,hN⟩: ∃n:Nat,-e=n:=⟨(-e).toNat,by omega⟩
  rw[hN];obtain⟨hg,hv⟩:=itoa_nat_good n;have hl:=itoa_len n (by omega)
  simp only[expG];rw[rU,expR_m,hv,rY (by omega)]
  ·congr 1;omega
  simp only[yS]
  refine⟨good_ne hg,by omega,by simp,by rw[good_isInt hg];simp,good_head hg,fun h=> ?_⟩
  have:valD 0 (Lib.itoa (n:Int))=0:=by rw[h.2];rfl
  omega
 rw[rU hn];obtain⟨n,hN⟩: ∃n:Nat,e=n:=⟨e.toNat,by omega⟩
 subst hN;obtain⟨hg,hv⟩:=itoa_nat_good n;have hl:=itoa_len n (by omega)
 simp only[expG];rw[rU,expR_p (by decide),hv,rY (by omega)]
 simp only[yS]
 exact⟨good_ne hg,by omega,by simp,by rw[good_isInt hg];simp,good_head hg,by simp⟩
theorem bitLen_spec: ∀(k x:Nat),x<2 ^ k->k<=64->x≠0->2 ^(Lib.bitLen x - 1)<=x/\x<2 ^ Lib.bitLen x/\1<=Lib.bitLen x
 |0,x,h,_,h0=>by simp at h;exact absurd h h0
 |k+1,x,h,hk,h0=>by
  have h64:x<2 ^ 64:=sZ h (vY (by decide) hk)
  rw[Lib.bitLen_half x h0 h64];by_cases h1:x / 2=0
  ·have:x=1:=by omega
   subst this;have:Lib.bitLen (1 / 2)=0:=by decide
   rw[this];simp
  have ih:=bitLen_spec k (x / 2) (by rw[vN]at h;omega) (by omega) h1
  obtain⟨a,b,c⟩:=ih
  obtain⟨m,hm⟩: ∃m,Lib.bitLen (x / 2)=m+1:=⟨Lib.bitLen (x / 2) - 1,by omega⟩
  rw[hm]at a b⊢;simp only[yP]at a
  rw[show 1+(m+1) - 1=m+1 by omega,show 1+(m+1)=(m+1)+1 by omega]
  rw[vN 2 (m+1)];rw[vN]at b⊢;omega
def up (a:Nat):Nat:=53 - Lib.bitLen a
theorem up_spec {a:Nat} (h0:a≠0) (h:a<4503599627370496):1<=up a/\up a<=52/\4503599627370496<=a*2 ^ up a/\a*2 ^ up a<9007199254740992:=by
 obtain⟨h1,h2,h3⟩:=bitLen_spec 52 a h (by decide) h0
 have h4:Lib.bitLen a<=52:=Lib.bitLen_le a 52 (by decide) h
 unfold up;obtain⟨m,hm⟩: ∃m,Lib.bitLen a=m+1:=⟨Lib.bitLen a - 1,by omega⟩
 rw[hm]at h1 h2 h4⊢;simp only[yP]at h1
 have e1:2 ^ m*2 ^(53 -(m+1))=4503599627370496:=by rw[<-y5,show m+(53 -(m+1))=52 by omega]
 have e2:2 ^(m+1)*2 ^(53 -(m+1))=9007199254740992:=by rw[<-y5,show m+1+(53 -(m+1))=53 by omega]
 refine⟨by omega,by omega, ?_, ?_⟩
 ·rw[<-e1];exact vU _ h1
 rw[<-e2];exact yV h2 (yM (by decide))
theorem bitLen_of {a m:Nat} (h1:2 ^ m<=a) (h2:a<2 ^(m+1)) (hm:m<63):Lib.bitLen a=m+1:=by
 have h0:a≠0:=by have:=yM (n:=m) (show 0<2 by decide);omega
 obtain⟨c1,c2,c3⟩:=bitLen_spec (m+1) a h2 (by omega) h0
 have l1:=Lib.bitLen_le a (m+1) (by omega) h2
 have l2: ¬Lib.bitLen a<=m:=fun hle=>by
  have:=vY (show 0<2 by decide) hle
  omega
 omega
def nexp (a:Nat):Int:=if a<4503599627370496 then -1022 -(up a:Int) else(a / 4503599627370496:Nat) - 1023
def nfrac (a:Nat):Nat:=if a<4503599627370496 then a*2 ^ up a - 4503599627370496 else a % 4503599627370496
def bitsOf (f:Nat) (e:Int):Nat:=if -1022<=e then(e+1023).toNat*4503599627370496+f else(4503599627370496+f) / 2 ^(-1022 - e).toNat
def fits (f:Nat) (e:Int):Prop:= -1022<=e\/(-1022 - e).toNat<=Lib.ctz 64 (4503599627370496+f)
instance (f:Nat) (e:Int):Decidable (fits f e):=by unfold fits;infer_instance
theorem ctz_dvd {x d:Nat} (h0:x≠0) (h:x<2 ^ 64):d<=Lib.ctz 64 x↔2 ^ d ∣ x:=by
 have e:Lib.ctz 64 x=Lib.ctzFrom 64 x:=by simp[Lib.ctz,h0]
 rw[e];obtain⟨m,hm,_⟩:=Lib.ctzFrom_spec 64 x (by omega) h
 obtain⟨c,hc⟩:=aj (Lib.ctzFrom 64 x);rw[hc]at hm⊢
 constructor
 ·intro hd
  rw[hm,show c=d+(c - d) by omega,y5,xG]
  exact Nat.dvd_mul_right _ _
 intro hd;refine yD fun hn=> ?_
 rw[hm,show d=c+((d - c - 1)+1) by omega,y5]at hd
 have h2:=Nat.dvd_of_mul_dvd_mul_left (yM (by decide)) hd
 rw[vN]at h2;have h3:2 ∣ 2*m+1:=Nat.dvd_trans (Nat.dvd_mul_left 2 _) h2;omega
theorem nparts {a:Nat} (h0:a≠0) (h:a<9218868437227405312):nfrac a<4503599627370496/\nexp a<=1023/\ -1074<=nexp a/\bitsOf (nfrac a) (nexp a)=a/\fits (nfrac a) (nexp a):=by
 by_cases hs:a<4503599627370496
 ·obtain⟨u1,u2,u3,u4⟩:=up_spec h0 hs
  obtain⟨u,hu⟩:=aj (up a);obtain⟨x,hx⟩:=aj (a*2 ^ u)
  have e1:nexp a= -1022 -(u:Int):=by unfold nexp;rw[rY hs,hu]
  have e2:nfrac a=x - 4503599627370496:=by unfold nfrac;rw[rY hs,hu,hx]
  rw[hu]at u1 u2 u3 u4;rw[hx]at u3 u4;rw[e1,e2]
  have e3:(-1022 -(-1022 -(u:Int))).toNat=u:=by omega
  have e4:4503599627370496+(x - 4503599627370496)=x:=by omega
  refine⟨by omega,by omega,by omega, ?_,.inr ?_⟩
  ·unfold bitsOf
   rw[rU (by omega),e3,e4,<-hx,Nat.mul_div_cancel _ (yM (by decide))]
  rw[e3,e4,ctz_dvd (by omega) (by omega),<-hx]
  exact Nat.dvd_mul_left _ _
 have e1:nexp a=(a / 4503599627370496:Nat) - 1023:=by unfold nexp;rw[rU hs]
 have e2:nfrac a=a % 4503599627370496:=by unfold nfrac;rw[rU hs]
 rw[e1,e2];refine⟨by omega,by omega,by omega, ?_,.inl (by omega)⟩
 unfold bitsOf;rw[rY (by omega)]
 omega
theorem nback {f:Nat} {e:Int} (hf:f<4503599627370496) (h1:e<=1023) (h2: -1074<=e) (hfit:fits f e):
  bitsOf f e≠0/\bitsOf f e<9218868437227405312/\nfrac (bitsOf f e)=f/\nexp (bitsOf f e)=e:=by
 by_cases he: -1022<=e
 ·have e1:bitsOf f e=(e+1023).toNat*4503599627370496+f:=by unfold bitsOf;rw[rY he]
  rw[e1];refine⟨by omega,by omega, ?_, ?_⟩
  ·unfold nfrac;rw[rU (by omega)];omega
  unfold nexp;rw[rU (by omega)];omega
 have hd:=hfit.resolve_left he;obtain⟨d,hd0⟩:=aj ((-1022 - e).toNat)
 obtain⟨x,hx⟩:=aj (4503599627370496+f)
 have e1:bitsOf f e=x / 2 ^ d:=by unfold bitsOf;rw[rU he,hd0,hx]
 rw[hd0,hx,ctz_dvd (by omega) (by omega)]at hd
 obtain⟨a,ha⟩:=hd;have hp:0<2 ^ d:=yM (by decide)
 have e2:x / 2 ^ d=a:=by rw[ha,Nat.mul_div_cancel_left _ hp]
 have hd52:1<=d/\d<=52:=by omega
 rw[e1,e2];have hxa:a*2 ^ d=x:=by rw[ha,xu]
 have lo:2 ^(52 - d)<=a:=by
  refine Nat.le_of_mul_le_mul_right ?_ hp;rw[<-y5,show 52 - d+d=52 by omega,hxa]
  omega
 have hi:a<2 ^(52 - d+1):=by
  refine Nat.lt_of_mul_lt_mul_right (a:=2 ^ d) ?_;rw[<-y5,show 52 - d+1+d=53 by omega,hxa]
  omega
 have hb:=bitLen_of lo hi (by omega)
 have hup:up a=d:=by unfold up;omega
 have ha0:a≠0:=by have:=yM (n:=52 - d) (show 0<2 by decide);omega
 have has:a<4503599627370496:=by
  have:2 ^(52 - d+1)<=2 ^ 52:=vY (by decide) (by omega)
  omega
 refine⟨ha0,by omega, ?_, ?_⟩
 ·unfold nfrac;rw[rY has,hup,hxa];omega
 unfold nexp;rw[rY has,hup];omega
def form (f:Nat) (e:Int):L:=[48,120,49] ++(fracS f++expS e)
def NANS:L:=[48,120,110,97,110]
def INFS:L:=[48,120,105,110,102]
def ZERO:L:=[48,120,48]
def fmtU (a:Nat):L:=if a=9218868437227405312 then INFS else if a=0 then ZERO else form (nfrac a) (nexp a)
def fmt (b:Nat):L:=
 if 9218868437227405312<b % 9223372036854775808 then NANS else sg (decide (9223372036854775808<=b))++fmtU (b % 9223372036854775808)
def cutPM:L->Option (L×L)
 |[]=>none
 |c :: r=>if c=112\/c=109 then some ([],c :: r) else(cutPM r).map fun x=>(c :: x.1,x.2)
theorem cutPM_some: ∀(l u v:L),cutPM l=some (u,v)->l=u++v
 |[],u,v,h=>by simp[cutPM]at h
 |c :: r,u,v,h=>by
  simp only[cutPM]at h
  split at h
  ·simp only[uH,uZ]at h
   obtain⟨rfl,rfl⟩:=h;rfl
  cases hc:cutPM r with
  |none=>rw[hc]at h;cases h
  |some x=>
   rw[hc]at h;simp only[vg,uH,uZ]at h;obtain⟨rfl,rfl⟩:=h;rw[cutPM_some r x.1 x.2 hc]
   rfl
theorem cutPM_of: ∀(u:L) (c:UInt8) (r:L),(∀x∈u,x≠112/\x≠109)->c=112\/c=109->cutPM (u++c :: r)=some (u,c :: r)
 |[],c,r,_,h=>by simp[cutPM,h]
 |d :: u,c,r,hu,h=>by
  have hd:=hu d (by simp)
  simp only[uG,cutPM]
  rw[rU (by simp[hd.1,hd.2]),cutPM_of u c r (fun x hx=>hu x (by simp[hx])) h]
  rfl
def pair (t:L):Option (Nat×Int):=
 if Lib.hasPrefix t [48,120,49] then
  match cutPM (t.drop 3) with
  |none=>none
  |some (u,v)=>match fracG u,expG v with
   |some f,some e=>some (f,e)
   |_,_=>none
 else none
def parseU (t:L):Option Nat:=
 if t=INFS then some 9218868437227405312 else if t=ZERO then some 0 else
 match pair t with
 |none=>none
 |some (f,e)=>if fits f e then some (bitsOf f e) else none
def parse (s:L):Option Nat:=
 if s=NANS then some 9221120237041090560 else
 if s.head?=some 45 then(parseU (s.drop 1)).map (9223372036854775808+ ·) else parseU s
theorem pair_form {t:L} {f:Nat} {e:Int} (h:pair t=some (f,e)):t=form f e/\f<4503599627370496/\e<=1023/\ -1074<=e:=by
 unfold pair at h
 split at h
 ·rename_i hp
  cases hc:cutPM (t.drop 3) with
  |none=>rw[hc]at h;cases h
  |some x=>
   obtain⟨u,v⟩:=x;rw[hc]at h;simp only at h;cases hf:fracG u with
   |none=>rw[hf]at h;simp at h
   |some f'=>
    cases he:expG v with
    |none=>rw[hf,he]at h;simp at h
    |some e'=>
     rw[hf,he]at h;simp only[uH,uZ]at h;obtain⟨rfl,rfl⟩:=h
     obtain⟨h1,h2⟩:=fracG_form hf;obtain⟨h3,h4,h5⟩:=expG_form he;refine⟨?_,h2,h4,h5⟩
     have e1:=cutPM_some _ _ _ hc;unfold Lib.hasPrefix at hp;rw[BG]at hp
     obtain⟨q,hq⟩:=hp;unfold form;rw[<-hq]at e1⊢;simp at e1;rw[e1,<-h1,<-h3]
 cases h
theorem hexd_not: ∀d:Fin 16,hexd d.val≠112/\hexd d.val≠109:=by decide
theorem hexN_not: ∀(k n:Nat),∀x∈hexN k n,x≠112/\x≠109
 |0,_,x,h=>by simp[hexN]at h
 |k+1,n,x,h=>by
  rw[hexN]at h
  rcases tZ.1 h with h|h
  ·exact hexN_not k _ x h
  rw[ug.1 h];exact hexd_not ⟨n % 16,by omega⟩
theorem fracS_not (f:Nat): ∀x∈fracS f,x≠112/\x≠109:=by
 unfold fracS
 split
 ·simp
 intro x hx
 rcases uD.1 hx with rfl|hx
 ·decide
 refine hexN_not 13 f x ?_;obtain⟨j,h1,_⟩:=trim_split _ (hexN 13 f) rfl;rw[h1]
 exact tZ.2 (.inl hx)
theorem pair_of {f:Nat} {e:Int} (hf:f<4503599627370496) (h1:e<=1023) (h2: -1074<=e):pair (form f e)=some (f,e):=by
 have hx: ∃c r,expS e=c :: r/\(c=112\/c=109):=by
  unfold expS
  split
  ·exact⟨_,_,rfl,.inr rfl⟩
  exact⟨_,_,rfl,.inl rfl⟩
 obtain⟨c,r,hc,hc2⟩:=hx;have e1:(form f e).drop 3=fracS f++expS e:=rfl
 have e2:Lib.hasPrefix (form f e) [48,120,49]=true:=by
  unfold Lib.hasPrefix form;simp[List.isPrefixOf]
 unfold pair;rw[rY e2,e1,hc,cutPM_of _ _ _ (fracS_not f) hc2,<-hc];simp only
 rw[fracG_fracS hf,expG_expS h1 h2]
theorem form_head (f:Nat) (e:Int):(form f e).head?≠some 45/\form f e≠NANS/\form f e≠INFS/\form f e≠ZERO:=by
 unfold form NANS INFS ZERO;refine⟨by simp,by simp,by simp,by simp⟩
theorem parseU_of {a:Nat} (h:a<=9218868437227405312):parseU (fmtU a)=some a:=by
 unfold fmtU;by_cases hi:a=9218868437227405312
 ·rw[rY hi,hi];rfl
 rw[rU hi];by_cases h0:a=0
 ·rw[rY h0,h0];rfl
 rw[rU h0];obtain⟨p1,p2,p3,p4,p5⟩:=nparts h0 (by omega)
 obtain⟨_,_,q3,q4⟩:=form_head (nfrac a) (nexp a);unfold parseU
 rw[rU q3,rU q4,pair_of p1 p2 p3];simp only;rw[rY p5,p4]
theorem parseU_form {t:L} {a:Nat} (h:parseU t=some a):t=fmtU a/\a<=9218868437227405312:=by
 unfold parseU at h
 split at h
 ·rename_i hi
  simp only[uH]at h;subst h;exact⟨by rw[hi];rfl,by omega⟩
 split at h
 ·rename_i h0
  simp only[uH]at h;subst h;exact⟨by rw[h0];rfl,by omega⟩
 cases hp:pair t with
 |none=>rw[hp]at h;cases h
 |some x=>
  obtain⟨f,e⟩:=x;rw[hp]at h;simp only at h
  split at h
  ·rename_i hfit
   simp only[uH]at h;obtain⟨r1,r2,r3,r4⟩:=pair_form hp
   obtain⟨s1,s2,s3,s4⟩:=nback r2 r3 r4 hfit;rw[h]at s1 s2 s3 s4;refine⟨?_,by omega⟩
   unfold fmtU;rw[rU (by omega),rU s1,s3,s4,r1]
  cases h
theorem fmtU_head (a:Nat):(fmtU a).head?≠some 45/\fmtU a≠NANS:=by
 unfold fmtU
 split
 ·exact⟨by decide,by decide⟩
 split
 ·exact⟨by decide,by decide⟩
 exact⟨(form_head _ _).1,(form_head _ _).2.1⟩
def canon (b:Nat):Nat:=if 9218868437227405312<b % 9223372036854775808 then 9221120237041090560 else b
theorem parse_fmt {b:Nat} (hb:b<18446744073709551616):parse (fmt b)=some (canon b):=by
 unfold fmt canon;by_cases hn:9218868437227405312<b % 9223372036854775808
 ·rw[rY hn,rY hn];rfl
 rw[rU hn,rU hn];obtain⟨h1,h2⟩:=fmtU_head (b % 9223372036854775808);unfold parse
 by_cases hs:9223372036854775808<=b
 ·rw[rQ hs]
  have e:sg true++fmtU (b % 9223372036854775808)=45 :: fmtU (b % 9223372036854775808):=rfl
  rw[e,rU (by simp[NANS]),zN,rY rfl,vF,vX,parseU_of (by omega)]
  simp only[vg,uH];omega
 rw[rO hs]
 have e:sg false++fmtU (b % 9223372036854775808)=fmtU (b % 9223372036854775808):=rfl
 rw[e,rU h2,rU h1,parseU_of (by omega)]
 congr 1
 omega
theorem fmt_parse {s:L} {b:Nat} (h:parse s=some b):fmt b=s/\b<18446744073709551616/\canon b=b:=by
 unfold parse at h
 split at h
 ·rename_i hn
  simp only[uH]at h;subst h;exact⟨by rw[hn];rfl,by omega,by decide⟩
 split at h
 ·rename_i hd
  obtain⟨t,rfl⟩: ∃t,s=45 :: t:=by
   cases s with
   |nil=>simp at hd
   |cons c t=>simp at hd;subst hd;exact⟨t,rfl⟩
  rw[vF,vX]at h;cases hp:parseU t with
  |none=>rw[hp]at h;cases h
  |some a=>
   rw[hp]at h;simp only[vg,uH]at h;obtain⟨r1,r2⟩:=parseU_form hp
   have e1:b % 9223372036854775808=a:=by omega
   refine⟨?_,by omega,by unfold canon;rw[rU (by omega)]⟩
   unfold fmt;rw[e1,rU (by omega),rQ (by omega),r1]
   rfl
 obtain⟨r1,r2⟩:=parseU_form h;have e1:b % 9223372036854775808=b:=by omega
 refine⟨?_,by omega,by unfold canon;rw[rU (by omega)]⟩
 unfold fmt;rw[e1,rU (by omega),rO (by omega)]
 exact r1.symm
end Go.Proofs.YtanlehkalkafdaaGreatDoor.Num
