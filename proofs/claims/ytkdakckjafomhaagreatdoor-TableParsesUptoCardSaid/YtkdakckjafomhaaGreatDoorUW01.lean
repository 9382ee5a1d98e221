/- Contracts and plain laws,part 1. -/
import Derived.Test.YtkdakckjafomhaaGreatDoorUW00
import Derived.Lib.ItoaMem
import Derived.Lib.ParseIntBTie
import Derived.Lib.TrailingZeros
import Derived.Lib.SlTrimSet
import Derived.Lib.BitFns
import Derived.Lib.Strings
set_option linter.all false
namespace Go.Proofs.YtkdakckjafomhaaGreatDoor.Num
open Go
abbrev L:=List UInt8
def bn (c:UInt8):Bool:=decide (48<=c.toNat) && decide (c.toNat<=57)
theorem jX (c:UInt8):bn c=true↔48<=c.toNat/\c.toNat<=57:=by simp[bn]
def Sj:L->Nat->Nat
 |[],acc=>acc
 |c :: r,acc=>Sj r (acc*10+(c.toNat - 48))
def aQ (acc:Nat) (l:L):Nat:=Sj l acc
theorem wM (acc:Nat):aQ acc []=acc:=rfl
theorem rQ (acc:Nat) (c:UInt8) (r:L):aQ acc (c :: r)=aQ (acc*10+(c.toNat - 48)) r:=by unfold aQ;rw[Sj]
theorem Ia: ∀(r:L) (acc:Nat) (q:L),aQ acc (r++q)=aQ (aQ acc r) q
 |[],acc,q=>by rw[aex,wM]
 |c :: r,acc,q=>by rw[afq,rQ,rQ,Ia r]
theorem Oe: ∀(r:L) (acc:Nat),acc*10 ^ r.length<=aQ acc r
 |[],acc=>by simp[wM]
 |c :: r,acc=>by
  have h:=Oe r (acc*10+(c.toNat - 48))
  have h2:acc*10 ^(r.length+1)=(acc*10)*10 ^ r.length:=by rw[afk,afY,afV 10]
  have h3:(acc*10)*10 ^ r.length<=(acc*10+(c.toNat - 48))*10 ^ r.length:=af8 _ (Nat.le_add_right _ _)
  rw[adQ,rQ,h2];exact adg h3 h
theorem EI: ∀(r:L) (acc:Nat),r.all bn=true->aQ acc r<(acc+1)*10 ^ r.length
 |[],acc,_=>by simp[wM]
 |c :: r,acc,h=>by
  simp only[am1,aeW,jX]at h;have h1:=EI r (acc*10+(c.toNat - 48)) h.2
  have h3:(acc*10+(c.toNat - 48)+1)*10 ^ r.length<=((acc+1)*10)*10 ^ r.length:=af8 _ (by omega)
  have h2:(acc+1)*10 ^(r.length+1)=((acc+1)*10)*10 ^ r.length:=by rw[afk,afY,afV 10]
  rw[adQ,rQ,h2];exact adW h1 h3
theorem Sm (r:L) (acc:Nat):acc<=aQ acc r:=by
 have h:=Oe r acc;have h1:1<=10 ^ r.length:=Nat.one_le_pow _ _ (by decide)
 have h2:=aoZ acc h1;omega
theorem Jw {u:Nat} (h: ¬u<10):Lib.decDigits u=Lib.decDigits (u / 10)++[UInt8.ofNat (48+u % 10)]:=by rw[Lib.decDigits,dif_neg h]
theorem Ib {d:Nat} (h:d<10):(UInt8.ofNat (48+d)).toNat=48+d:=by simp;omega
theorem Yq (u:Nat):(Lib.decDigits u).all bn=true:=by
 induction u using Nat.strongRecOn with
 |_ u ih=>
  by_cases h:u<10
  ·rw[Lib.decDigits_one h];simp only[am1,arp,apM,jX];rw[Ib h];omega
  rw[Jw h,aqj,ih _ (by omega)]
  simp only[am1,arp,apM,Bool.true_and,jX];rw[Ib (by omega)];omega
theorem Og (u:Nat):aQ 0 (Lib.decDigits u)=u:=by
 induction u using Nat.strongRecOn with
 |_ u ih=>
  by_cases h:u<10
  ·rw[Lib.decDigits_one h];simp only[wM,rQ];rw[Ib h];omega
  rw[Jw h,Ia,ih _ (by omega)]
  simp only[wM,rQ];rw[Ib (by omega)];omega
theorem Yr (u:Nat) (h0:u≠0): ∃c r,Lib.decDigits u=c :: r/\c.toNat≠48:=by
 induction u using Nat.strongRecOn with
 |_ u ih=>
  by_cases h:u<10
  ·exact⟨_,[],Lib.decDigits_one h,by rw[Ib h];omega⟩
  obtain⟨c,r,e,hc⟩:=ih (u / 10) (by omega) (by omega)
  exact⟨c,r++[UInt8.ofNat (48+u % 10)],by rw[Jw h,e];rfl,hc⟩
theorem Oh:Lib.decDigits 0=[48]:=Lib.decDigits_one (by omega)
theorem zX (u:Nat):(Lib.decDigits u).length=Lib.nDigits u:=Lib.decDigits_length u
theorem toNat_ne {c:UInt8} {n:Nat} (hn:n<256):c≠UInt8.ofNat n↔c.toNat≠n:=by
 constructor
 ·intro h e
  exact h (afi.1 (by simp;omega))
 intro h e;exact h (by rw[e];simp;omega)
theorem byte_back {c:UInt8} (h:48<=c.toNat) (h2:c.toNat<=57):UInt8.ofNat (48+(c.toNat - 48))=c:=by
 rw[show 48+(c.toNat - 48)=c.toNat by omega];exact aqP
theorem Oi (t:L):t=[]\/ ∃t' d,t=t' ++ [d]:=by
 induction t with
 |nil=>exact .inl rfl
 |cons c t ih=>
  refine .inr ?_
  rcases ih with rfl|⟨t',d,rfl⟩
  ·exact⟨[],c,rfl⟩
  exact⟨c :: t',d,rfl⟩
theorem agp: ∀(n:Nat) (r:L),r.length=n->r.all bn=true->(∃c t,r=c :: t/\c.toNat≠48)->Lib.decDigits (aQ 0 r)=r:=by
 intro n
 induction n with
 |zero=>intro r hr _ ⟨c,t,e,_⟩;rw[e]at hr;simp at hr
 |succ n ih=>
  intro r hr hall ⟨c,t,e,hc⟩
  rcases Oi t with ht|⟨t',d,ht⟩
  ·subst ht e
   simp only[am1,arp,apM,jX]at hall;simp only[wM,rQ]
   rw[show 0*10+(c.toNat - 48)=c.toNat - 48 by omega,Lib.decDigits_one (by omega),byte_back hall.1 hall.2]
  subst ht e;have e2:c ::(t' ++ [d])=(c :: t')++[d]:=rfl;rw[e2]at hr hall⊢
  rw[aqj]at hall;simp only[aeW,am1 (a:=d),arp,arB,jX]at hall
  have h1:=ih (c :: t') (by simpa using hr) hall.1 ⟨c,t',rfl,hc⟩
  have hb:=Oe t' (c.toNat - 48)
  have h2:1<=aQ 0 (c :: t'):=by
   have hcd:bn c=true:=by
    have:=hall.1;simp only[am1,aeW]at this;exact this.1
   rw[jX]at hcd;have:=Sm t' (0*10+(c.toNat - 48));simp only[rQ];omega
  rw[Ia];simp only[wM,rQ];simp only[rQ]at h1 h2;rw[Jw (by omega)]
  rw[show(aQ (0*10+(c.toNat - 48)) t'*10+(d.toNat - 48)) / 10=aQ (0*10+(c.toNat - 48)) t' by omega,h1,
   show(aQ (0*10+(c.toNat - 48)) t'*10+(d.toNat - 48)) % 10=d.toNat - 48 by omega,byte_back hall.2.1 hall.2.2]
theorem Yt: ∀(r:L) (acc:Nat),r.all bn=true->acc<=18446744073709551615->
  Lib.parseUintM 18446744073709551615 acc r=if aQ acc r<=18446744073709551615 then .ok (aQ acc r) else .range
 |[],acc,_,ha=>by rw[wM,adk ha];rfl
 |c :: r,acc,h,ha=>by
  simp only[am1,aeW,jX]at h;have hm:=Sm r (acc*10+(c.toNat - 48))
  simp only[Lib.parseUintM,rQ];rw[adk h.1];by_cases h1:1844674407370955162<=acc
  ·rw[adk h1,ade (by omega)]
  rw[ade h1];by_cases h2:18446744073709551615<acc*10+(c.toNat - 48)
  ·rw[adk h2,ade (by omega)]
  rw[ade h2];exact Yt r _ h.2 (by omega)
def isInt (l:L):Bool:=
 if l=[48] then true else
 match(if l.head?=some 45 then l.drop 1 else l) with
 |[]=>false
 |c :: r=> !(c == 48) &&(c :: r).all bn
def iK (l:L):Int×Nat:=
 let neg:=l.head?=some 45
 let r:=if neg then l.drop 1 else l
 if r=[]\/(r.head?=some 48/\1<l.length) then(0,50) else
 if¬r.all bn then(0,50) else
 if 19<r.length then(0,51) else
 if neg then(if 9223372036854775808<aQ 0 r then(0,51) else(-(aQ 0 r:Int),0)) else
 if 9223372036854775808<=aQ 0 r then(0,51) else((aQ 0 r:Int),0)
theorem isInt_iff (l:L):isInt l=true↔ ∃(neg:Bool) (r:L),l=(if neg then[45] else[])++r/\r.all bn=true/\((∃c t,r=c :: t/\c≠48)\/(r=[48]/\neg=false)):=by
 unfold isInt;by_cases h48:l=[48]
 ·subst h48
  simp only[aoH,true_iff];exact⟨false,[48],rfl,by decide,.inr ⟨rfl,rfl⟩⟩
 rw[ade h48];by_cases hn:l.head?=some 45
 ·rw[adk hn]
  obtain⟨t,rfl⟩: ∃t,l=45 :: t:=by
   cases l with
   |nil=>simp at hn
   |cons c t=>simp at hn;subst hn;exact⟨t,rfl⟩
  simp only[af9,afA]
  constructor
  ·intro h
   cases t with
   |nil=>simp at h
   |cons c t=>
    simp only[aeW,aoo,adh]at h;exact⟨true,c :: t,rfl,h.2,.inl ⟨c,t,rfl,h.1⟩⟩
  rintro⟨neg,r,e,hall,hh⟩;cases neg with
  |true=>
   simp only[aoH,aok,List.cons.injEq,true_and]at e;subst e
   rcases hh with⟨c,t',rfl,hc⟩|⟨_,h⟩
   ·simp only[aeW,aoo,adh]
    exact⟨hc,hall⟩
   cases h
  |false=>
   simp only[agc,aow,aex]at e;subst e;simp only[am1,aeW]at hall
   exact absurd hall.1 (by decide)
 rw[ade hn]
 constructor
 ·intro h
  cases l with
  |nil=>simp at h
  |cons c t=>
   simp only[aeW,aoo,adh]at h;exact⟨false,c :: t,rfl,h.2,.inl ⟨c,t,rfl,h.1⟩⟩
 rintro⟨neg,r,e,hall,hh⟩;cases neg with
 |true=>subst e;simp at hn
 |false=>
  simp only[agc,aow,aex]at e;subst e
  rcases hh with⟨c,t',rfl,hc⟩|⟨h,_⟩
  ·simp only[aeW,aoo,adh]
   exact⟨hc,hall⟩
  exact absurd h h48
theorem Sr {c:UInt8} {t:L} (h:(c :: t).all bn=true):c.toNat≠45/\c.toNat≠43:=by
 simp only[am1,aeW,jX]at h;omega
def over (neg:Bool) (v:Nat):Prop:=if neg then 9223372036854775808<v else 9223372036854775808<=v
instance (neg:Bool) (v:Nat):Decidable (over neg v):=by unfold over;cases neg<;>infer_instance
def tV (neg:Bool) (v:Nat):Int:=if neg then -(v:Int) else v
def sg (neg:Bool):L:=if neg then[45] else[]
def Good (neg:Bool) (r:L):Prop:=r.all bn=true/\((∃c t,r=c :: t/\c≠48)\/(r=[48]/\neg=false))
theorem Ku {c:UInt8}:c≠48↔c.toNat≠48:=toNat_ne (n:=48) (by decide)
theorem agq {r:L} (h:r.all bn=true) {c:UInt8} {t:L} (e:r=c :: t) (hc:c≠48) (hl:19<r.length):10000000000000000000<=aQ 0 r:=by
 subst e;have h1:=h;simp only[am1,aeW,jX]at h1;have hc':=Ku.1 hc;rw[rQ]
 have h2:=Oe t (0*10+(c.toNat - 48))
 have h3:10 ^ 19<=10 ^ t.length:=afa (by decide) (by simp at hl;omega)
 have h4:1*10 ^ t.length<=(0*10+(c.toNat - 48))*10 ^ t.length:=af8 _ (by omega)
 rw[aqQ]at h4;exact adg (adg h3 h4) h2
theorem Sv {r:L} (h:r.all bn=true) (hl: ¬19<r.length):aQ 0 r<10000000000000000000:=by
 have h1:=EI r 0 h;have h3:10 ^ r.length<=10 ^ 19:=afa (by decide) (by omega)
 have e:(10:Nat) ^ 19=10000000000000000000:=by decide
 rw[e]at h3;have:(0+1)*10 ^ r.length=10 ^ r.length:=by omega
 omega
theorem Sz {neg:Bool} {r:L} (h:Good neg r):iK (sg neg++r)=if over neg (aQ 0 r) then(0,51) else(tV neg (aQ 0 r),0):=by
 obtain⟨hall,hh⟩:=h;have hne:r≠ []:=by rcases hh with⟨c,t,rfl,_⟩|⟨rfl,_⟩<;>simp
 have hbig:19<r.length->10000000000000000000<=aQ 0 r:=fun hl=>by
  rcases hh with⟨c,t,e,hc⟩|⟨rfl,_⟩
  ·exact agq hall e hc hl
  simp at hl
 cases neg with
 |true=>
  have h48: ¬(r.head?=some 48/\1<(45 :: r).length):=by
   rcases hh with⟨c,t,rfl,hc⟩|⟨_,h⟩
   ·simp[hc]
   cases h
  unfold iK sg;simp only[aoH,aok,aoi,af9,afA]
  rw[ade (by simp only[hne,false_or];exact h48),ade (by simp[hall])]
  unfold over tV;simp only[aoH];by_cases hl:19<r.length
  ·have:=hbig hl
   rw[adk hl,adk (by omega)]
  rw[ade hl]
 |false=>
  have hhd:r.head?≠some 45:=by
   cases r with
   |nil=>simp
   |cons c t=>have:=(Sr hall).1;simp;intro e;subst e;exact this rfl
  have h48: ¬(r.head?=some 48/\1<r.length):=by
   rcases hh with⟨c,t,rfl,hc⟩|⟨rfl,_⟩
   ·simp[hc]
   simp
  unfold iK sg;simp only[agc,aow,aex,ade hhd]
  rw[ade (by simp only[hne,false_or];exact h48),ade (by simp[hall])]
  unfold over tV;simp only[agc,aow];by_cases hl:19<r.length
  ·have:=hbig hl
   rw[adk hl,adk (by omega)]
  rw[ade hl]
theorem Jy (l:L):isInt l=true↔ ∃neg r,l=sg neg++r/\Good neg r:=isInt_iff l
theorem Yu {l:L} (h:isInt l=false):iK l=(0,50):=by
 have hn: ¬ ∃neg r,l=sg neg++r/\Good neg r:=fun hh=>by rw[(Jy l).2 hh]at h;cases h
 have key: ∀(neg:Bool) (r:L),l=sg neg++r->(neg=true->l.head?=some 45)->r=[]\/(r.head?=some 48/\1<l.length)\/ ¬r.all bn=true:=fun neg r e he=>by
  refine anR fun hc=> ?_
  simp only[aox,Decidable.not_not]at hc;obtain⟨c1,c2,c3⟩:=hc;refine hn ⟨neg,r,e,c3, ?_⟩
  cases r with
  |nil=>exact absurd rfl c1
  |cons c t=>
   by_cases h48:c=48
   ·subst h48
    have hl: ¬1<l.length:=fun hl=>c2 ⟨rfl,hl⟩
    rw[e]at hl;cases neg with
    |true=>simp[sg]at hl
    |false=>
     cases t with
     |nil=>exact .inr ⟨rfl,rfl⟩
     |cons d t=>simp[sg]at hl
   exact .inl ⟨c,t,rfl,h48⟩
 unfold iK;by_cases hd:l.head?=some 45
 ·obtain⟨t,rfl⟩: ∃t,l=45 :: t:=by
   cases l with
   |nil=>simp at hd
   |cons c t=>simp at hd;subst hd;exact⟨t,rfl⟩
  have:=key true t rfl (fun _=>rfl)
  simp only[aoi,aoH,af9,afA]
  rcases this with h1|h1|h1
  ·rw[adk (.inl h1)]
  ·rw[adk (.inr h1)]
  by_cases h2:t=[]\/(t.head?=some 48/\1<(45 :: t).length)
  ·rw[adk h2]
  rw[ade h2,adk h1]
 have:=key false l rfl (fun e=>by cases e)
 simp only[ade hd]
 rcases this with h1|h1|h1
 ·rw[adk (.inl h1)]
 ·rw[adk (.inr h1)]
 by_cases h2:l=[]\/(l.head?=some 48/\1<l.length)
 ·rw[adk h2]
 rw[ade h2,adk h1]
theorem SA {neg:Bool} {r:L} (h:Good neg r):Lib.parseIntB 64 (sg neg++r)=if over neg (aQ 0 r) then .range else .ok (tV neg (aQ 0 r)):=by
 obtain⟨hall,hh⟩:=h;have hne:r≠ []:=by rcases hh with⟨c,t,rfl,_⟩|⟨rfl,_⟩<;>simp
 have hu:Lib.parseMag r=if aQ 0 r<=18446744073709551615 then .ok (aQ 0 r) else .range:=by
  unfold Lib.parseMag;rw[ade hne,<-Lib.parseUintM_64,Yt r 0 hall (by omega)]
 rw[Lib.parseIntB_64]
 obtain⟨c,t,rfl⟩: ∃c t,r=c :: t:=by
  cases r with
  |nil=>exact absurd rfl hne
  |cons c t=>exact⟨c,t,rfl⟩
 obtain⟨h45,h43⟩:=Sr hall;obtain⟨v,hv⟩:=aj (aQ 0 (c :: t));rw[hv]at hu⊢;cases neg with
 |true=>
  show Lib.atoiAll (45 :: c :: t)=_
  unfold Lib.atoiAll over tV;simp only[show(45:UInt8).toNat=45 from rfl,or_true,aoH,hu]
  by_cases hb:v<=18446744073709551615
  ·rw[adk hb]
   simp only[not_true,false_and,aow,true_and]
  rw[ade hb];simp only;rw[adk (by omega)]
 |false=>
  show Lib.atoiAll (c :: t)=_
  unfold Lib.atoiAll over tV;simp only[h43,h45,or_self,aow,hu,agc]
  by_cases hb:v<=18446744073709551615
  ·rw[adk hb]
   simp only[not_false_eq_true,true_and,false_and,aow]
  rw[ade hb];simp only;rw[adk (by omega)]
theorem SB (n:Int): ∃neg r,Lib.itoa n=sg neg++r/\Good neg r/\tV neg (aQ 0 r)=n/\aQ 0 r=n.natAbs/\(neg=true↔n<0):=by
 unfold Lib.itoa;by_cases h:n<0
 ·rw[adk h]
  obtain⟨c,r,e,hc⟩:=Yr n.natAbs (by omega)
  refine⟨true,Lib.decDigits n.natAbs,rfl,⟨Yq _,.inl ⟨c,r,e,Ku.2 hc⟩⟩, ?_,Og _,by simp[h]⟩
  rw[Og];unfold tV;simp only[aoH];omega
 rw[ade h]
 refine⟨false,Lib.decDigits n.toNat,rfl,⟨Yq _, ?_⟩, ?_,by rw[Og];omega,by simp;omega⟩
 ·by_cases h0:n.toNat=0
  ·exact .inr ⟨by rw[h0,Oh],rfl⟩
  obtain⟨c,r,e,hc⟩:=Yr n.toNat h0;exact .inl ⟨c,r,e,Ku.2 hc⟩
 rw[Og];unfold tV;simp only[agc,aow];omega
theorem Yv (n:Int) (h0: -9223372036854775808<=n) (h1:n<=9223372036854775807):iK (Lib.itoa n)=(n,0):=by
 obtain⟨neg,r,e,hg,hv,ha,hn⟩:=SB n;rw[e,Sz hg,ade,hv];unfold over;cases neg with
 |true=>simp at hn⊢;omega
 |false=>simp at hn⊢;omega
theorem Yw {neg:Bool} {r:L} (h:Good neg r):Lib.itoa (tV neg (aQ 0 r))=sg neg++r:=by
 obtain⟨hall,hh⟩:=h
 rcases hh with⟨c,t,e,hc⟩|⟨rfl,rfl⟩
 ·have hb:=agp r.length r rfl hall ⟨c,t,e,Ku.1 hc⟩
  have hpos:aQ 0 r≠0:=fun h0=>by
   rw[h0,Oh,e]at hb;simp at hb;exact hc hb.1.symm
  unfold Lib.itoa tV sg;cases neg with
  |true=>
   simp only[aoH];rw[adk (by omega)]
   simp only[Int.natAbs_neg,Int.natAbs_natCast,aok,hb]
  |false=>
   simp only[agc,aow,aex];rw[ade (by omega)]
   simp only[ao5,hb]
 have:aQ 0 [48]=0:=rfl;rw[this];unfold Lib.itoa tV sg;simp[Oh]
theorem agr {l:L} {n:Int} (h:iK l=(n,0)):Lib.itoa n=l:=by
 cases hi:isInt l with
 |false=>rw[Yu hi]at h;simp at h
 |true=>
  obtain⟨neg,r,rfl,hg⟩:=(Jy l).1 hi;rw[Sz hg]at h
  split at h
  ·simp at h
  simp only[afu,arB]at h;rw[<-h];exact Yw hg
theorem ags {l:L} (h:isInt l=true):(∃v,Lib.parseIntB 64 l=.ok v/\iK l=(v,0))\/(Lib.parseIntB 64 l=.range/\iK l=(0,51)):=by
 obtain⟨neg,r,rfl,hg⟩:=(Jy l).1 h;rw[SA hg,Sz hg]
 split
 ·exact .inr ⟨rfl,rfl⟩
 exact .inl ⟨_,rfl,rfl⟩
def nR (d:Nat):UInt8:=UInt8.ofNat (if d<10 then 48+d else 87+d)
def jr (c:UInt8):Option Nat:=if 48<=c.toNat/\c.toNat<=57 then some (c.toNat - 48) else if 97<=c.toNat/\c.toNat<=102 then some (c.toNat - 87) else none
theorem agt: ∀d:Fin 16,jr (nR d.val)=some d.val:=by decide
theorem agu: ∀c:Fin 256,∀d:Fin 16,jr (UInt8.ofNat c.val)=some d.val->nR d.val=UInt8.ofNat c.val:=by decide+kernel
theorem Ic {c:UInt8} {d:Nat} (h:jr c=some d):d<16:=by
 unfold jr at h
 split at h
 ·simp at h;omega
 split at h
 ·simp at h;omega
 cases h
theorem Yx {c:UInt8} {d:Nat} (h:jr c=some d):nR d=c:=by
 have hd:=Ic h;have:=agu ⟨c.toNat,anZ c⟩ ⟨d,hd⟩ (by simpa using h)
 simpa using this
def hexN:Nat->Nat->L
 |0,_=> []
 |k+1,n=>hexN k (n / 16)++[nR (n % 16)]
theorem uQ: ∀(k n:Nat),(hexN k n).length=k
 |0,_=>rfl
 |k+1,n=>by simp[hexN,uQ k]
def hexVal:L->Nat->Option Nat
 |[],acc=>some acc
 |c :: r,acc=>match jr c with
  |some d=>hexVal r (acc*16+d)
  |none=>none
theorem Ie: ∀(a b:L) (acc:Nat),hexVal (a++b) acc=(hexVal a acc).bind (hexVal b)
 |[],b,acc=>rfl
 |c :: r,b,acc=>by
  simp only[afq,hexVal];cases jr c with
  |none=>rfl
  |some d=>exact Ie r b _
theorem Oj: ∀(k n acc:Nat),n<16 ^ k->hexVal (hexN k n) acc=some (acc*16 ^ k+n)
 |0,n,acc,h=>by simp at h;subst h;simp[hexN,hexVal]
 |k+1,n,acc,h=>by
  rw[afk]at h;rw[hexN,Ie,Oj k (n / 16) acc (by omega)]
  have e:=agt ⟨n % 16,by omega⟩
  simp only at e;simp only[an0,hexVal,e]
  congr 1
  rw[afk,<-afY];have:acc*16 ^ k*16=(acc*16 ^ k)*16:=rfl;omega
theorem Yy: ∀(k:Nat) (r:L) (n:Nat),r.length=k->hexVal r 0=some n->n<16 ^ k/\hexN k n=r
 |0,r,n,hl,h=>by
  have:r=[]:=adB hl;subst this;simp[hexVal]at h;subst h;exact⟨by simp,rfl⟩
 |k+1,r,n,hl,h=>by
  rcases Oi r with rfl|⟨q,c,rfl⟩
  ·simp at hl
  have hq:q.length=k:=by simpa using hl
  rw[Ie]at h;cases hm:hexVal q 0 with
  |none=>rw[hm]at h;simp at h
  |some m=>
   rw[hm]at h;simp only[an0,hexVal]at h;cases hc:jr c with
   |none=>rw[hc]at h;simp at h
   |some d=>
    rw[hc]at h;simp only[aeK]at h;obtain⟨h1,h2⟩:=Yy k q m hq hm;have hd:=Ic hc
    subst h;refine⟨by rw[afk];omega, ?_⟩
    rw[hexN,show(m*16+d) / 16=m by omega,show(m*16+d) % 16=d by omega,h2,Yx hc]
theorem Yz: ∀(j k n:Nat),hexN (k+j) (n*16 ^ j)=hexN k n++List.replicate j 48
 |0,k,n=>by simp
 |j+1,k,n=>by
  have e:n*16 ^(j+1)=(n*16 ^ j)*16:=by rw[afk,afY]
  rw[<-amQ,hexN,e,Nat.mul_div_cancel _ (by decide:0<16),Nat.mul_mod_left,Yz j k n,aeG]
  congr 1
  have:nR 0=48:=by decide
  rw[this,apW]
theorem Ol (l:L) (c:UInt8):Lib.trimRightS (l++[c]) [48]=if c=48 then Lib.trimRightS l [48] else l++[c]:=by
 unfold Lib.trimRightS
 rw[List.reverse_append,List.reverse_singleton,aok,anD,Lib.contains_one];by_cases h:c=48
 ·subst h;simp
 rw[ade h];have:(c == 48)=false:=by simpa using h
 rw[this];simp
theorem agv:Lib.trimRightS [] [48]=[]:=rfl
theorem agw {l:L} (h:l.getLast?≠some 48):Lib.trimRightS l [48]=l:=by
 rcases Oi l with rfl|⟨q,c,rfl⟩
 ·rfl
 rw[Ol,ade];intro e;subst e;simp at h
theorem YA (l:L): ∀j,Lib.trimRightS (l++List.replicate j 48) [48]=Lib.trimRightS l [48]
 |0=>by simp
 |j+1=>by rw[apW,<-aeG,Ol,adk rfl,YA l j]
theorem Ig: ∀(n:Nat) (l:L),l.length=n-> ∃j,l=Lib.trimRightS l [48]++List.replicate j 48/\(Lib.trimRightS l [48]).getLast?≠some 48:=by
 intro n
 induction n with
 |zero=>
  intro l hl;have:l=[]:=adB hl;subst this;exact⟨0,rfl,by simp[agv]⟩
 |succ n ih=>
  intro l hl
  rcases Oi l with rfl|⟨q,c,rfl⟩
  ·simp at hl
  rw[Ol];by_cases h:c=48
  ·subst h
   rw[adk rfl];obtain⟨j,h1,h2⟩:=ih q (by simpa using hl)
   refine⟨j+1, ?_,h2⟩;rw[apW,<-aeG,<-h1]
  rw[ade h];exact⟨0,by simp,by simp[h]⟩
def lI (f:Nat):L:=if f=0 then[] else 46 :: Lib.trimRightS (hexN 13 f) [48]
def lJ:L->Option Nat
 |[]=>some 0
 |c :: h=>if c≠46\/h=[]\/13<h.length\/h.getLast?=some 48 then none else(hexVal h 0).map (· *16 ^(13 - h.length))
theorem agx {k n:Nat} (h:(hexN (k+1) n).getLast?≠some 48):n % 16≠0:=by
 intro h0
 apply h
 rw[hexN,h0];simp
 decide
theorem SC {u:L} {f:Nat} (h:lJ u=some f):u=lI f/\f<4503599627370496:=by
 cases u with
 |nil=>simp[lJ]at h;subst h;exact⟨rfl,by decide⟩
 |cons c t=>
  simp only[lJ]at h
  split at h
  ·cases h
  rename_i hc;simp only[aox,Decidable.not_not]at hc;obtain⟨rfl,h1,h2,h3⟩:=hc
  cases hv:hexVal t 0 with
  |none=>rw[hv]at h;cases h
  |some n=>
   rw[hv]at h;simp only[afs,aeK]at h
   obtain⟨k,hk⟩: ∃k,t.length=k+1:=by
    cases t with
    |nil=>exact absurd rfl h1
    |cons a b=>exact⟨b.length,rfl⟩
   obtain⟨hlt,hx⟩:=Yy (k+1) t n hk hv;rw[hk]at h h2
   have hj:13=(k+1)+(13 -(k+1)):=by omega
   have hf:f=n*16 ^(13 -(k+1)):=h.symm
   have hl3:(hexN (k+1) n).getLast?≠some 48:=by rw[hx];exact h3
   have hn0:=agx hl3;have hp:0<16 ^(13 -(k+1)):=ano (by decide)
   have hf0:f≠0:=by
    rw[hf];exact Nat.mul_ne_zero (by omega) (by omega)
   constructor
   ·unfold lI
    rw[ade hf0,hf]
    congr 1
    have e:=Yz (13 -(k+1)) (k+1) n;rw[<-hj]at e;rw[e,YA,agw hl3,hx]
   have e:(16:Nat) ^(k+1)*16 ^(13 -(k+1))=4503599627370496:=by
    rw[<-aob,<-hj]
   rw[hf,<-e];exact ana hlt hp
theorem Om: ∀(j acc:Nat),hexVal (List.replicate j 48) acc=some (acc*16 ^ j)
 |0,acc=>by simp[hexVal]
 |j+1,acc=>by
  have e:jr 48=some 0:=by decide
  rw[List.replicate_succ,hexVal,e];simp only;rw[Om j,afk,aft,afY,afV 16]
theorem agy {f:Nat} (hf:f<4503599627370496):lJ (lI f)=some f:=by
 unfold lI;by_cases h0:f=0
 ·rw[adk h0,h0];rfl
 rw[ade h0];obtain⟨j,h1,h2⟩:=Ig _ (hexN 13 f) rfl
 obtain⟨h,hh⟩:=aj (Lib.trimRightS (hexN 13 f) [48]);rw[hh]at h1 h2⊢
 have hv:=Oj 13 f 0 (by simpa using hf)
 rw[h1,Ie]at hv;have hlen:=uQ 13 f;rw[h1,adf,List.length_replicate]at hlen
 cases hm:hexVal h 0 with
 |none=>rw[hm]at hv;simp at hv
 |some m=>
  rw[hm]at hv;simp only[an0,Om,aeK,anv,afW]at hv
  have hne:h≠ []:=by
   intro e;subst e;simp[hexVal]at hm;subst hm;simp at hv;exact h0 hv.symm
  simp only[lJ];rw[ade (by simp only[ne_eq,not_true,hne,h2,apX,false_or];omega),hm]
  simp only[afs];rw[show 13 - h.length=j by omega,hv]
def fV (e:Int):L:=if e<0 then 109 :: Lib.itoa (-e) else 112 :: Lib.itoa e
def uS (c:UInt8) (r:L):Int:=if c=109 then -((aQ 0 r:Nat):Int) else(aQ 0 r:Nat)
def qG (s:L):Option Int:=
 match s with
 |[]=>none
 |c :: r=>
  if r=[]\/4<r.length\/(c≠112/\c≠109)\/isInt r=false\/r.head?=some 45\/(c=109/\r=[48]) then none else
  if uS c r<=1023/\ -1074<=uS c r then some (uS c r) else none
theorem SE (r:L):uS 109 r= -((aQ 0 r:Nat):Int):=by unfold uS;rw[adk rfl]
theorem SH {c:UInt8} (h:c≠109) (r:L):uS c r=(aQ 0 r:Nat):=by unfold uS;rw[ade h]
theorem SI {r:L} (h:isInt r=true) (h2:r.head?≠some 45):Good false r:=by
 obtain⟨neg,q,e,hg⟩:=(Jy r).1 h;cases neg with
 |true=>subst e;simp[sg]at h2
 |false=>have:r=q:=e;subst this;exact hg
theorem YB {r:L} (h:Good false r):isInt r=true:=(Jy r).2 ⟨false,r,rfl,h⟩
theorem Oo {r:L} {neg:Bool} (h:Good neg r):r≠ []:=by
 rcases h.2 with⟨c,t,rfl,_⟩|⟨rfl,_⟩<;>simp
theorem YC {r:L} {neg:Bool} (h:Good neg r):r.head?≠some 45:=by
 cases r with
 |nil=>simp
 |cons c t=>have:=(Sr h.1).1;simp;intro e;subst e;exact this rfl
theorem YD {r:L} (h:Good false r):Lib.itoa (aQ 0 r:Nat)=r:=by
 have:=Yw h
 simpa[tV,sg] using this
theorem agz {r:L} (h:Good false r) (h0:aQ 0 r=0):r=[48]:=by
 have:=YD h;rw[h0]at this;rw[<-this]
 show Lib.itoa ((0:Nat):Int)=_
 rw[Lib.itoa_nonneg,Oh]
theorem SK {v:L} {e:Int} (h:qG v=some e):v=fV e/\e<=1023/\ -1074<=e:=by
 cases v with
 |nil=>simp[qG]at h
 |cons c r=>
  simp only[qG]at h
  split at h
  ·cases h
  rename_i hc;simp only[aox,Bool.not_eq_false]at hc;obtain⟨h1,h2,h3,h4,h5,h6⟩:=hc
  have hg:=SI h4 h5;have hi:=YD hg
  split at h
  ·rename_i hb
   simp only[aeK]at h;subst h;refine⟨?_,hb.1,hb.2⟩;by_cases hc:c=109
   ·rw[hc,SE]
    have hpos:aQ 0 r≠0:=fun h0=>h6 ⟨hc,agz hg h0⟩
    unfold fV;rw[adk (by omega),Int.neg_neg,hi]
   rw[SH hc];have:c=112:=anR fun h7=>h3 ⟨h7,hc⟩
   unfold fV;rw[ade (by omega),hi,this]
  cases h
theorem Oq (n:Nat):Good false (Lib.itoa (n:Int))/\aQ 0 (Lib.itoa (n:Int))=n:=by
 obtain⟨neg,r,e,hg,hv,ha,hn⟩:=SB (n:Int)
 have:neg=false:=by
  cases neg with
  |false=>rfl
  |true=>have:=hn.1 rfl;omega
 subst this;have e:Lib.itoa (n:Int)=r:=e;rw[e];exact⟨hg,by omega⟩
theorem Ot (n:Nat) (h:n<10000):(Lib.itoa (n:Int)).length<=4:=by
 rw[Lib.itoa_nonneg,zX]
 have: ∀k u:Nat,u<10 ^(k+1)->Lib.nDigits u<=k+1:=by
  intro k
  induction k with
  |zero=>intro u hu;rw[Lib.nDigits_small (by simpa using hu)];omega
  |succ k ih=>
   intro u hu;by_cases hs:u<10
   ·rw[Lib.nDigits_small hs];omega
   rw[Lib.nDigits_big hs];have:=ih (u / 10) (by rw[afk]at hu;omega)
   omega
 exact this 3 n (by simpa using h)
theorem agA {e:Int} (h1:e<=1023) (h2: -1074<=e):qG (fV e)=some e:=by
 unfold fV;by_cases hn:e<0
 ·rw[adk hn]
  obtain⟨n,hN⟩: ∃n:Nat,-e=n:=⟨(-e).toNat,by omega⟩
  rw[hN];obtain⟨hg,hv⟩:=Oq n;have hl:=Ot n (by omega)
  simp only[qG];rw[ade,SE,hv,adk (by omega)]
  ·congr 1;omega
  simp only[aox];refine⟨Oo hg,by omega,by simp,by rw[YB hg];simp,YC hg,fun h=> ?_⟩
  have:aQ 0 (Lib.itoa (n:Int))=0:=by rw[h.2];rfl
  omega
 rw[ade hn];obtain⟨n,hN⟩: ∃n:Nat,e=n:=⟨e.toNat,by omega⟩
 subst hN;obtain⟨hg,hv⟩:=Oq n;have hl:=Ot n (by omega)
 simp only[qG];rw[ade,SH (by decide),hv,adk (by omega)]
 simp only[aox];exact⟨Oo hg,by omega,by simp,by rw[YB hg];simp,YC hg,by simp⟩
theorem bitLen_spec: ∀(k x:Nat),x<2 ^ k->k<=64->x≠0->2 ^(Lib.bitLen x - 1)<=x/\x<2 ^ Lib.bitLen x/\1<=Lib.bitLen x
 |0,x,h,_,h0=>by simp at h;exact absurd h h0
 |k+1,x,h,hk,h0=>by
  have h64:x<2 ^ 64:=adW h (afa (by decide) hk)
  rw[Lib.bitLen_half x h0 h64];by_cases h1:x / 2=0
  ·have:x=1:=by omega
   subst this;have:Lib.bitLen (1 / 2)=0:=by decide
   rw[this];simp
  have ih:=bitLen_spec k (x / 2) (by rw[afk]at h;omega) (by omega) h1
  obtain⟨a,b,c⟩:=ih
  obtain⟨m,hm⟩: ∃m,Lib.bitLen (x / 2)=m+1:=⟨Lib.bitLen (x / 2) - 1,by omega⟩
  rw[hm]at a b⊢;simp only[aod]at a
  rw[show 1+(m+1) - 1=m+1 by omega,show 1+(m+1)=(m+1)+1 by omega]
  rw[afk 2 (m+1)];rw[afk]at b⊢;omega
def up (a:Nat):Nat:=53 - Lib.bitLen a
theorem Ou {a:Nat} (h0:a≠0) (h:a<4503599627370496):1<=up a/\up a<=52/\4503599627370496<=a*2 ^ up a/\a*2 ^ up a<9007199254740992:=by
 obtain⟨h1,h2,h3⟩:=bitLen_spec 52 a h (by decide) h0
 have h4:Lib.bitLen a<=52:=Lib.bitLen_le a 52 (by decide) h
 unfold up;obtain⟨m,hm⟩: ∃m,Lib.bitLen a=m+1:=⟨Lib.bitLen a - 1,by omega⟩
 rw[hm]at h1 h2 h4⊢;simp only[aod]at h1
 have e1:2 ^ m*2 ^(53 -(m+1))=4503599627370496:=by rw[<-aob,show m+(53 -(m+1))=52 by omega]
 have e2:2 ^(m+1)*2 ^(53 -(m+1))=9007199254740992:=by rw[<-aob,show m+1+(53 -(m+1))=53 by omega]
 refine⟨by omega,by omega, ?_, ?_⟩
 ·rw[<-e1];exact af8 _ h1
 rw[<-e2];exact ana h2 (ano (by decide))
theorem agB {a m:Nat} (h1:2 ^ m<=a) (h2:a<2 ^(m+1)) (hm:m<63):Lib.bitLen a=m+1:=by
 have h0:a≠0:=by have:=ano (n:=m) (show 0<2 by decide);omega
 obtain⟨c1,c2,c3⟩:=bitLen_spec (m+1) a h2 (by omega) h0
 have l1:=Lib.bitLen_le a (m+1) (by omega) h2
 have l2: ¬Lib.bitLen a<=m:=fun hle=>by
  have:=afa (show 0<2 by decide) hle
  omega
 omega
def gI (a:Nat):Int:=if a<4503599627370496 then -1022 -(up a:Int) else(a / 4503599627370496:Nat) - 1023
def gU (a:Nat):Nat:=if a<4503599627370496 then a*2 ^ up a - 4503599627370496 else a % 4503599627370496
def bitsOf (f:Nat) (e:Int):Nat:=if -1022<=e then(e+1023).toNat*4503599627370496+f else(4503599627370496+f) / 2 ^(-1022 - e).toNat
def fits (f:Nat) (e:Int):Prop:= -1022<=e\/(-1022 - e).toNat<=Lib.ctz 64 (4503599627370496+f)
instance (f:Nat) (e:Int):Decidable (fits f e):=by unfold fits;infer_instance
theorem YE {x d:Nat} (h0:x≠0) (h:x<2 ^ 64):d<=Lib.ctz 64 x↔2 ^ d ∣ x:=by
 have e:Lib.ctz 64 x=Lib.ctzFrom 64 x:=by simp[Lib.ctz,h0]
 rw[e];obtain⟨m,hm,_⟩:=Lib.ctzFrom_spec 64 x (by omega) h
 obtain⟨c,hc⟩:=aj (Lib.ctzFrom 64 x);rw[hc]at hm⊢
 constructor
 ·intro hd
  rw[hm,show c=d+(c - d) by omega,aob,afY]
  exact Nat.dvd_mul_right _ _
 intro hd;refine anR fun hn=> ?_
 rw[hm,show d=c+((d - c - 1)+1) by omega,aob]at hd
 have h2:=Nat.dvd_of_mul_dvd_mul_left (ano (by decide)) hd
 rw[afk]at h2;have h3:2 ∣ 2*m+1:=Nat.dvd_trans (Nat.dvd_mul_left 2 _) h2;omega
theorem Ov {a:Nat} (h0:a≠0) (h:a<9218868437227405312):gU a<4503599627370496/\gI a<=1023/\ -1074<=gI a/\bitsOf (gU a) (gI a)=a/\fits (gU a) (gI a):=by
 by_cases hs:a<4503599627370496
 ·obtain⟨u1,u2,u3,u4⟩:=Ou h0 hs
  obtain⟨u,hu⟩:=aj (up a);obtain⟨x,hx⟩:=aj (a*2 ^ u)
  have e1:gI a= -1022 -(u:Int):=by unfold gI;rw[adk hs,hu]
  have e2:gU a=x - 4503599627370496:=by unfold gU;rw[adk hs,hu,hx]
  rw[hu]at u1 u2 u3 u4;rw[hx]at u3 u4;rw[e1,e2]
  have e3:(-1022 -(-1022 -(u:Int))).toNat=u:=by omega
  have e4:4503599627370496+(x - 4503599627370496)=x:=by omega
  refine⟨by omega,by omega,by omega, ?_,.inr ?_⟩
  ·unfold bitsOf
   rw[ade (by omega),e3,e4,<-hx,Nat.mul_div_cancel _ (ano (by decide))]
  rw[e3,e4,YE (by omega) (by omega),<-hx]
  exact Nat.dvd_mul_left _ _
 have e1:gI a=(a / 4503599627370496:Nat) - 1023:=by unfold gI;rw[ade hs]
 have e2:gU a=a % 4503599627370496:=by unfold gU;rw[ade hs]
 rw[e1,e2];refine⟨by omega,by omega,by omega, ?_,.inl (by omega)⟩
 unfold bitsOf;rw[adk (by omega)]
 omega
theorem agC {f:Nat} {e:Int} (hf:f<4503599627370496) (h1:e<=1023) (h2: -1074<=e) (hfit:fits f e):
  bitsOf f e≠0/\bitsOf f e<9218868437227405312/\gU (bitsOf f e)=f/\gI (bitsOf f e)=e:=by
 by_cases he: -1022<=e
 ·have e1:bitsOf f e=(e+1023).toNat*4503599627370496+f:=by unfold bitsOf;rw[adk he]
  rw[e1];refine⟨by omega,by omega, ?_, ?_⟩
  ·unfold gU;rw[ade (by omega)];omega
  unfold gI;rw[ade (by omega)];omega
 have hd:=hfit.resolve_left he;obtain⟨d,hd0⟩:=aj ((-1022 - e).toNat)
 obtain⟨x,hx⟩:=aj (4503599627370496+f)
 have e1:bitsOf f e=x / 2 ^ d:=by unfold bitsOf;rw[ade he,hd0,hx]
 rw[hd0,hx,YE (by omega) (by omega)]at hd
 obtain⟨a,ha⟩:=hd;have hp:0<2 ^ d:=ano (by decide)
 have e2:x / 2 ^ d=a:=by rw[ha,Nat.mul_div_cancel_left _ hp]
 have ape:1<=d/\d<=52:=by omega
 rw[e1,e2];have hxa:a*2 ^ d=x:=by rw[ha,afV]
 have lo:2 ^(52 - d)<=a:=by
  refine Nat.le_of_mul_le_mul_right ?_ hp;rw[<-aob,show 52 - d+d=52 by omega,hxa]
  omega
 have hi:a<2 ^(52 - d+1):=by
  refine Nat.lt_of_mul_lt_mul_right (a:=2 ^ d) ?_
  rw[<-aob,show 52 - d+1+d=53 by omega,hxa]
  omega
 have hb:=agB lo hi (by omega)
 have hup:up a=d:=by unfold up;omega
 have ha0:a≠0:=by have:=ano (n:=52 - d) (show 0<2 by decide);omega
 have has:a<4503599627370496:=by
  have:2 ^(52 - d+1)<=2 ^ 52:=afa (by decide) (by omega)
  omega
 refine⟨ha0,by omega, ?_, ?_⟩
 ·unfold gU;rw[adk has,hup,hxa];omega
 unfold gI;rw[adk has,hup];omega
def form (f:Nat) (e:Int):L:=[48,120,49] ++(lI f++fV e)
def pO:L:=[48,120,110,97,110]
def rU:L:=[48,120,105,110,102]
def ZERO:L:=[48,120,48]
def dV (a:Nat):L:=if a=9218868437227405312 then rU else if a=0 then ZERO else form (gU a) (gI a)
def fmt (b:Nat):L:=
 if 9218868437227405312<b % 9223372036854775808 then pO else sg (decide (9223372036854775808<=b))++dV (b % 9223372036854775808)
def jY:L->Option (L×L)
 |[]=>none
 |c :: r=>if c=112\/c=109 then some ([],c :: r) else(jY r).map fun x=>(c :: x.1,x.2)
theorem Ox: ∀(l u v:L),jY l=some (u,v)->l=u++v
 |[],u,v,h=>by simp[jY]at h
 |c :: r,u,v,h=>by
  simp only[jY]at h
  split at h
  ·simp only[aeK,afu]at h
   obtain⟨rfl,rfl⟩:=h;rfl
  cases hc:jY r with
  |none=>rw[hc]at h;cases h
  |some x=>
   rw[hc]at h;simp only[afs,aeK,afu]at h;obtain⟨rfl,rfl⟩:=h;rw[Ox r x.1 x.2 hc];rfl
theorem YF: ∀(u:L) (c:UInt8) (r:L),(∀x∈u,x≠112/\x≠109)->c=112\/c=109->jY (u++c :: r)=some (u,c :: r)
 |[],c,r,_,h=>by simp[jY,h]
 |d :: u,c,r,hu,h=>by
  have hd:=hu d (by simp)
  simp only[afq,jY]
  rw[ade (by simp[hd.1,hd.2]),YF u c r (fun x hx=>hu x (by simp[hx])) h]
  rfl
def pair (t:L):Option (Nat×Int):=
 if Lib.hasPrefix t [48,120,49] then
  match jY (t.drop 3) with
  |none=>none
  |some (u,v)=>match lJ u,qG v with
   |some f,some e=>some (f,e)
   |_,_=>none
 else none
def jZ (t:L):Option Nat:=
 if t=rU then some 9218868437227405312 else if t=ZERO then some 0 else
 match pair t with
 |none=>none
 |some (f,e)=>if fits f e then some (bitsOf f e) else none
def parse (s:L):Option Nat:=
 if s=pO then some 9221120237041090560 else
 if s.head?=some 45 then(jZ (s.drop 1)).map (9223372036854775808+ ·) else jZ s
theorem agD {t:L} {f:Nat} {e:Int} (h:pair t=some (f,e)):t=form f e/\f<4503599627370496/\e<=1023/\ -1074<=e:=by
 unfold pair at h
 split at h
 ·rename_i hp
  cases hc:jY (t.drop 3) with
  |none=>rw[hc]at h;cases h
  |some x=>
   obtain⟨u,v⟩:=x;rw[hc]at h;simp only at h;cases hf:lJ u with
   |none=>rw[hf]at h;simp at h
   |some f'=>
    cases he:qG v with
    |none=>rw[hf,he]at h;simp at h
    |some e'=>
     rw[hf,he]at h;simp only[aeK,afu]at h;obtain⟨rfl,rfl⟩:=h;obtain⟨h1,h2⟩:=SC hf
     obtain⟨h3,h4,h5⟩:=SK he;refine⟨?_,h2,h4,h5⟩;have e1:=Ox _ _ _ hc
     unfold Lib.hasPrefix at hp;rw[aqu]at hp;obtain⟨q,hq⟩:=hp;unfold form
     rw[<-hq]at e1⊢;simp at e1;rw[e1,<-h1,<-h3]
 cases h
theorem YG: ∀d:Fin 16,nR d.val≠112/\nR d.val≠109:=by decide
theorem YH: ∀(k n:Nat),∀x∈hexN k n,x≠112/\x≠109
 |0,_,x,h=>by simp[hexN]at h
 |k+1,n,x,h=>by
  rw[hexN]at h
  rcases aem.1 h with h|h
  ·exact YH k _ x h
  rw[ael.1 h];exact YG ⟨n % 16,by omega⟩
theorem agE (f:Nat): ∀x∈lI f,x≠112/\x≠109:=by
 unfold lI
 split
 ·simp
 intro x hx
 rcases aeY.1 hx with rfl|hx
 ·decide
 refine YH 13 f x ?_;obtain⟨j,h1,_⟩:=Ig _ (hexN 13 f) rfl;rw[h1];exact aem.2 (.inl hx)
theorem agF {f:Nat} {e:Int} (hf:f<4503599627370496) (h1:e<=1023) (h2: -1074<=e):pair (form f e)=some (f,e):=by
 have hx: ∃c r,fV e=c :: r/\(c=112\/c=109):=by
  unfold fV
  split
  ·exact⟨_,_,rfl,.inr rfl⟩
  exact⟨_,_,rfl,.inl rfl⟩
 obtain⟨c,r,hc,hc2⟩:=hx;have e1:(form f e).drop 3=lI f++fV e:=rfl
 have e2:Lib.hasPrefix (form f e) [48,120,49]=true:=by
  unfold Lib.hasPrefix form;simp[List.isPrefixOf]
 unfold pair;rw[adk e2,e1,hc,YF _ _ _ (agE f) hc2,<-hc];simp only;rw[agy hf,agA h1 h2]
theorem Oy (f:Nat) (e:Int):(form f e).head?≠some 45/\form f e≠pO/\form f e≠rU/\form f e≠ZERO:=by
 unfold form pO rU ZERO;refine⟨by simp,by simp,by simp,by simp⟩
theorem YI {a:Nat} (h:a<=9218868437227405312):jZ (dV a)=some a:=by
 unfold dV;by_cases hi:a=9218868437227405312
 ·rw[adk hi,hi];rfl
 rw[ade hi];by_cases h0:a=0
 ·rw[adk h0,h0];rfl
 rw[ade h0];obtain⟨p1,p2,p3,p4,p5⟩:=Ov h0 (by omega)
 obtain⟨_,_,q3,q4⟩:=Oy (gU a) (gI a);unfold jZ;rw[ade q3,ade q4,agF p1 p2 p3];simp only
 rw[adk p5,p4]
theorem Oz {t:L} {a:Nat} (h:jZ t=some a):t=dV a/\a<=9218868437227405312:=by
 unfold jZ at h
 split at h
 ·rename_i hi
  simp only[aeK]at h;subst h;exact⟨by rw[hi];rfl,by omega⟩
 split at h
 ·rename_i h0
  simp only[aeK]at h;subst h;exact⟨by rw[h0];rfl,by omega⟩
 cases hp:pair t with
 |none=>rw[hp]at h;cases h
 |some x=>
  obtain⟨f,e⟩:=x;rw[hp]at h;simp only at h
  split at h
  ·rename_i hfit
   simp only[aeK]at h;obtain⟨r1,r2,r3,r4⟩:=agD hp
   obtain⟨s1,s2,s3,s4⟩:=agC r2 r3 r4 hfit;rw[h]at s1 s2 s3 s4;refine⟨?_,by omega⟩
   unfold dV;rw[ade (by omega),ade s1,s3,s4,r1]
  cases h
theorem agG (a:Nat):(dV a).head?≠some 45/\dV a≠pO:=by
 unfold dV
 split
 ·exact⟨by decide,by decide⟩
 split
 ·exact⟨by decide,by decide⟩
 exact⟨(Oy _ _).1,(Oy _ _).2.1⟩
def canon (b:Nat):Nat:=if 9218868437227405312<b % 9223372036854775808 then 9221120237041090560 else b
theorem YJ {b:Nat} (hb:b<18446744073709551616):parse (fmt b)=some (canon b):=by
 unfold fmt canon;by_cases hn:9218868437227405312<b % 9223372036854775808
 ·rw[adk hn,adk hn];rfl
 rw[ade hn,ade hn];obtain⟨h1,h2⟩:=agG (b % 9223372036854775808);unfold parse
 by_cases hs:9223372036854775808<=b
 ·rw[adb hs]
  have e:sg true++dV (b % 9223372036854775808)=45 :: dV (b % 9223372036854775808):=rfl
  rw[e,ade (by simp[pO]),aoi,adk rfl,af9,afA,YI (by omega)]
  simp only[afs,aeK];omega
 rw[ac5 hs]
 have e:sg false++dV (b % 9223372036854775808)=dV (b % 9223372036854775808):=rfl
 rw[e,ade h2,ade h1,YI (by omega)]
 congr 1
 omega
theorem OA {s:L} {b:Nat} (h:parse s=some b):fmt b=s/\b<18446744073709551616/\canon b=b:=by
 unfold parse at h
 split at h
 ·rename_i hn
  simp only[aeK]at h;subst h;exact⟨by rw[hn];rfl,by omega,by decide⟩
 split at h
 ·rename_i hd
  obtain⟨t,rfl⟩: ∃t,s=45 :: t:=by
   cases s with
   |nil=>simp at hd
   |cons c t=>simp at hd;subst hd;exact⟨t,rfl⟩
  rw[af9,afA]at h;cases hp:jZ t with
  |none=>rw[hp]at h;cases h
  |some a=>
   rw[hp]at h;simp only[afs,aeK]at h;obtain⟨r1,r2⟩:=Oz hp
   have e1:b % 9223372036854775808=a:=by omega
   refine⟨?_,by omega,by unfold canon;rw[ade (by omega)]⟩
   unfold fmt;rw[e1,ade (by omega),adb (by omega),r1]
   rfl
 obtain⟨r1,r2⟩:=Oz h;have e1:b % 9223372036854775808=b:=by omega
 refine⟨?_,by omega,by unfold canon;rw[ade (by omega)]⟩
 unfold fmt;rw[e1,ade (by omega),ac5 (by omega)]
 exact r1.symm
end Go.Proofs.YtkdakckjafomhaaGreatDoor.Num
