/- Lemmas. -/
import Derived.Test.YtdijgcnlbfgkdaaGreatDoorUP00
import Derived.Lib.ItoaMem
import Derived.Lib.ParseIntBTie
import Derived.Lib.TrailingZeros
import Derived.Lib.SlTrimSet
import Derived.Lib.BitFns
import Derived.Lib.Strings
set_option linter.all false
namespace Go.Proofs.YtdijgcnlbfgkdaaGreatDoor.Num
open Go
abbrev L:=List UInt8
def aJ (c:UInt8):Bool:=decide (48<=c.toNat) && decide (c.toNat<=57)
def kQ (c:UInt8):aJ c=true↔48<=c.toNat/\c.toNat<=57:=by simp[aJ]
def TF:L->Nat->Nat
 |[],acc=>acc
 |c :: r,acc=>TF r (acc*10+(c.toNat - 48))
def aX (acc:Nat) (l:L):Nat:=TF l acc
def xW (acc:Nat):aX acc []=acc:=rfl
def uh (acc:Nat) (c:UInt8) (r:L):aX acc (c :: r)=aX (acc*10+(c.toNat - 48)) r:=by unfold aX;rw[TF]
def Iw: ∀(r:L) (acc:Nat) (q:L),aX acc (r++q)=aX (aX acc r) q
 |[],acc,q=>by rw[agJ,xW]
 |c :: r,acc,q=>by rw[anr,uh,uh,Iw r]
def OZ: ∀(r:L) (acc:Nat),acc*10 ^ r.length<=aX acc r
 |[],acc=>by simp[xW]
 |c :: r,acc=>by
  have h:=OZ r (acc*10+(c.toNat - 48));have h2:acc*10 ^(r.length+1)=(acc*10)*10 ^ r.length:=by rw[af2,ahm,ahe 10]
  have h3:(acc*10)*10 ^ r.length<=(acc*10+(c.toNat - 48))*10 ^ r.length:=ahg _ (Nat.le_add_right _ _);rw[ae7,uh,h2];exact aep h3 h
def Fp: ∀(r:L) (acc:Nat),r.all aJ=true->aX acc r<(acc+1)*10 ^ r.length
 |[],acc,_=>by simp[xW]
 |c :: r,acc,h=>by
  simp only[anI,afx,kQ]at h;have h1:=Fp r (acc*10+(c.toNat - 48)) h.2;have h3:(acc*10+(c.toNat - 48)+1)*10 ^ r.length<=((acc+1)*10)*10 ^ r.length:=ahg _ (by omega)
  have h2:(acc+1)*10 ^(r.length+1)=((acc+1)*10)*10 ^ r.length:=by rw[af2,ahm,ahe 10]
  rw[ae7,uh,h2];exact afn h1 h3
def TG (r:L) (acc:Nat):acc<=aX acc r:=by
 have h:=OZ r acc;have h1:1<=10 ^ r.length:=Nat.one_le_pow _ _ (by decide)
 have h2:=apt acc h1;omega
def Ky {u:Nat} (h: ¬u<10):Lib.decDigits u=Lib.decDigits (u / 10)++[UInt8.ofNat (48+u % 10)]:=by rw[Lib.decDigits,dif_neg h]
def Iy {d:Nat} (h:d<10):(UInt8.ofNat (48+d)).toNat=48+d:=by simp;omega
def ZY (u:Nat):(Lib.decDigits u).all aJ=true:=by
 induction u using Nat.strongRecOn with
 |_ u ih=>
  by_cases h:u<10
  ·rw[asW h];simp only[anI,arK,ap4,kQ];rw[Iy h];omega
  rw[Ky h,arM,ih _ (by omega)]
  simp only[anI,arK,ap4,aq1,kQ];rw[Iy (by omega)];omega
def O1 (u:Nat):aX 0 (Lib.decDigits u)=u:=by
 induction u using Nat.strongRecOn with
 |_ u ih=>
  by_cases h:u<10
  ·rw[asW h];simp only[xW,uh];rw[Iy h];omega
  rw[Ky h,Iw,ih _ (by omega)]
  simp only[xW,uh];rw[Iy (by omega)];omega
def Z4 (u:Nat) (h0:u≠0): ∃c r,Lib.decDigits u=c :: r/\c.toNat≠48:=by
 induction u using Nat.strongRecOn with
 |_ u ih=>
  by_cases h:u<10
  ·exact⟨_,[],asW h,by rw[Iy h];omega⟩
  obtain⟨c,r,e,hc⟩:=ih (u / 10) (by omega) (by omega)
  exact⟨c,r++[UInt8.ofNat (48+u % 10)],by rw[Ky h,e];rfl,hc⟩
def O4:Lib.decDigits 0=[48]:=asW (by omega)
def Bg (u:Nat):(Lib.decDigits u).length=Lib.nDigits u:=Lib.decDigits_length u
def toNat_ne {c:UInt8} {n:Nat} (hn:n<256):c≠UInt8.ofNat n↔c.toNat≠n:=by
 constructor
 ·intro h e
  exact h (afC.1 (by simp;omega))
 intro h e;exact h (by rw[e];simp;omega)
def byte_back {c:UInt8} (h:48<=c.toNat) (h2:c.toNat<=57):UInt8.ofNat (48+(c.toNat - 48))=c:=by
 rw[show 48+(c.toNat - 48)=c.toNat by omega];exact aoU
def O5 (t:L):t=[]\/ ∃t' d,t=t' ++ [d]:=by
 induction t with
 |nil=>exact .inl rfl
 |cons c t ih=>
  refine .inr ?_
  rcases ih with rfl|⟨t',d,rfl⟩
  ·exact⟨[],c,rfl⟩
  exact⟨c :: t',d,rfl⟩
def ahz: ∀(n:Nat) (r:L),r.length=n->r.all aJ=true->(∃c t,r=c :: t/\c.toNat≠48)->Lib.decDigits (aX 0 r)=r:=by
 intro n
 induction n with
 |zero=>intro r hr _ ⟨c,t,e,_⟩;rw[e]at hr;simp at hr
 |succ n ih=>
  intro r hr hall ⟨c,t,e,hc⟩
  rcases O5 t with ht|⟨t',d,ht⟩
  ·subst ht e
   simp only[anI,arK,ap4,kQ]at hall;simp only[xW,uh];rw[show 0*10+(c.toNat - 48)=c.toNat - 48 by omega,asW (by omega),byte_back hall.1 hall.2]
  subst ht e;have e2:c ::(t' ++ [d])=(c :: t')++[d]:=rfl;rw[e2]at hr hall⊢;rw[arM]at hall;simp only[afx,anI (a:=d),arK,arT,kQ]at hall;have h1:=ih (c :: t') (by simpa using hr) hall.1 ⟨c,t',rfl,hc⟩
  have hb:=OZ t' (c.toNat - 48)
  have h2:1<=aX 0 (c :: t'):=by
   have hcd:aJ c=true:=by
    have:=hall.1;simp only[anI,afx]at this;exact this.1
   rw[kQ]at hcd;have:=TG t' (0*10+(c.toNat - 48));simp only[uh];omega
  rw[Iw];simp only[xW,uh];simp only[uh]at h1 h2;rw[Ky (by omega)]
  rw[show(aX (0*10+(c.toNat - 48)) t'*10+(d.toNat - 48)) / 10=aX (0*10+(c.toNat - 48)) t' by omega,h1,
   show(aX (0*10+(c.toNat - 48)) t'*10+(d.toNat - 48)) % 10=d.toNat - 48 by omega,byte_back hall.2.1 hall.2.2]
def Z5: ∀(r:L) (acc:Nat),r.all aJ=true->acc<=18446744073709551615->
  Lib.parseUintM 18446744073709551615 acc r=if aX acc r<=18446744073709551615 then .ok (aX acc r) else .range
 |[],acc,_,ha=>by rw[xW,aeu ha];rfl
 |c :: r,acc,h,ha=>by
  simp only[anI,afx,kQ]at h;have hm:=TG r (acc*10+(c.toNat - 48));simp only[Lib.parseUintM,uh];rw[aeu h.1];by_cases h1:1844674407370955162<=acc
  ·rw[aeu h1,aer (by omega)]
  rw[aer h1];by_cases h2:18446744073709551615<acc*10+(c.toNat - 48)
  ·rw[aeu h2,aer (by omega)]
  rw[aer h2];exact Z5 r _ h.2 (by omega)
def isInt (l:L):Bool:=
 if l=[48] then true else
 match(if l.head?=some 45 then l.drop 1 else l) with
 |[]=>false
 |c :: r=> !(c == 48) &&(c :: r).all aJ
def dM (l:L):Int×Nat:=
 let neg:=l.head?=some 45
 let r:=if neg then l.drop 1 else l
 if r=[]\/(r.head?=some 48/\1<l.length) then(0,50) else
 if¬r.all aJ then(0,50) else
 if 19<r.length then(0,51) else
 if neg then(if 9223372036854775808<aX 0 r then(0,51) else(-(aX 0 r:Int),0)) else
 if 9223372036854775808<=aX 0 r then(0,51) else((aX 0 r:Int),0)
def isInt_iff (l:L):isInt l=true↔ ∃(neg:Bool) (r:L),l=(if neg then[45] else[])++r/\r.all aJ=true/\((∃c t,r=c :: t/\c≠48)\/(r=[48]/\neg=false)):=by
 unfold isInt;by_cases h48:l=[48]
 ·subst h48
  simp only[anN,true_iff];exact⟨false,[48],rfl,by decide,.inr ⟨rfl,rfl⟩⟩
 rw[aer h48];by_cases hn:l.head?=some 45
 ·rw[aeu hn]
  obtain⟨t,rfl⟩: ∃t,l=45 :: t:=by
   cases l with
   |nil=>simp at hn
   |cons c t=>simp at hn;subst hn;exact⟨t,rfl⟩
  simp only[af9,afW]
  constructor
  ·intro h
   cases t with
   |nil=>simp at h
   |cons c t=>
    simp only[afx,aom,aek]at h;exact⟨true,c :: t,rfl,h.2,.inl ⟨c,t,rfl,h.1⟩⟩
  rintro⟨neg,r,e,hall,hh⟩;cases neg with
  |true=>
   simp only[anN,aox,apg,true_and]at e;subst e
   rcases hh with⟨c,t',rfl,hc⟩|⟨_,h⟩
   ·simp only[afx,aom,aek]
    exact⟨hc,hall⟩
   cases h
  |false=>
   simp only[afO,ahp,agJ]at e;subst e;simp only[anI,afx]at hall;exact absurd hall.1 (by decide)
 rw[aer hn]
 constructor
 ·intro h
  cases l with
  |nil=>simp at h
  |cons c t=>
   simp only[afx,aom,aek]at h;exact⟨false,c :: t,rfl,h.2,.inl ⟨c,t,rfl,h.1⟩⟩
 rintro⟨neg,r,e,hall,hh⟩;cases neg with
 |true=>subst e;simp at hn
 |false=>
  simp only[afO,ahp,agJ]at e;subst e
  rcases hh with⟨c,t',rfl,hc⟩|⟨h,_⟩
  ·simp only[afx,aom,aek]
   exact⟨hc,hall⟩
  exact absurd h h48
def TI {c:UInt8} {t:L} (h:(c :: t).all aJ=true):c.toNat≠45/\c.toNat≠43:=by
 simp only[anI,afx,kQ]at h;omega
def over (neg:Bool) (v:Nat):Prop:=if neg then 9223372036854775808<v else 9223372036854775808<=v
instance (neg:Bool) (v:Nat):Decidable (over neg v):=by unfold over;cases neg<;>infer_instance
def uj (neg:Bool) (v:Nat):Int:=if neg then -(v:Int) else v
def sg (neg:Bool):L:=if neg then[45] else[]
def Good (neg:Bool) (r:L):Prop:=r.all aJ=true/\((∃c t,r=c :: t/\c≠48)\/(r=[48]/\neg=false))
def Lm {c:UInt8}:c≠48↔c.toNat≠48:=toNat_ne (n:=48) (by decide)
def ahA {r:L} (h:r.all aJ=true) {c:UInt8} {t:L} (e:r=c :: t) (hc:c≠48) (hl:19<r.length):10000000000000000000<=aX 0 r:=by
 subst e;have h1:=h;simp only[anI,afx,kQ]at h1;have hc':=Lm.1 hc;rw[uh];have h2:=OZ t (0*10+(c.toNat - 48));have h3:10 ^ 19<=10 ^ t.length:=afT (by decide) (by simp at hl;omega)
 have h4:1*10 ^ t.length<=(0*10+(c.toNat - 48))*10 ^ t.length:=ahg _ (by omega)
 rw[Nat.one_mul]at h4;exact aep (aep h3 h4) h2
def TJ {r:L} (h:r.all aJ=true) (hl: ¬19<r.length):aX 0 r<10000000000000000000:=by
 have h1:=Fp r 0 h;have h3:10 ^ r.length<=10 ^ 19:=afT (by decide) (by omega)
 have e:(10:Nat) ^ 19=10000000000000000000:=by decide
 rw[e]at h3;have:(0+1)*10 ^ r.length=10 ^ r.length:=by omega
 omega
def Z7 {neg:Bool} {r:L} (h:Good neg r):dM (sg neg++r)=if over neg (aX 0 r) then(0,51) else(uj neg (aX 0 r),0):=by
 obtain⟨hall,hh⟩:=h;have hne:r≠ []:=by rcases hh with⟨c,t,rfl,_⟩|⟨rfl,_⟩<;>simp
 have hbig:19<r.length->10000000000000000000<=aX 0 r:=fun hl=>by
  rcases hh with⟨c,t,e,hc⟩|⟨rfl,_⟩
  ·exact ahA hall e hc hl
  simp at hl
 cases neg with
 |true=>
  have h48: ¬(r.head?=some 48/\1<(45 :: r).length):=by
   rcases hh with⟨c,t,rfl,hc⟩|⟨_,h⟩
   ·simp[hc]
   cases h
  unfold dM sg;simp only[anN,aox,aoP,af9,afW];rw[aer (by simp only[hne,false_or];exact h48),aer (by simp[hall])]
  unfold over uj;simp only[anN];by_cases hl:19<r.length
  ·have:=hbig hl
   rw[aeu hl,aeu (by omega)]
  rw[aer hl]
 |false=>
  have hhd:r.head?≠some 45:=by
   cases r with
   |nil=>simp
   |cons c t=>have:=(TI hall).1;simp;intro e;subst e;exact this rfl
  have h48: ¬(r.head?=some 48/\1<r.length):=by
   rcases hh with⟨c,t,rfl,hc⟩|⟨rfl,_⟩
   ·simp[hc]
   simp
  unfold dM sg;simp only[afO,ahp,agJ,aer hhd];rw[aer (by simp only[hne,false_or];exact h48),aer (by simp[hall])]
  unfold over uj;simp only[afO,ahp];by_cases hl:19<r.length
  ·have:=hbig hl
   rw[aeu hl,aeu (by omega)]
  rw[aer hl]
def Kz (l:L):isInt l=true↔ ∃neg r,l=sg neg++r/\Good neg r:=isInt_iff l
def Z8 {l:L} (h:isInt l=false):dM l=(0,50):=by
 have hn: ¬ ∃neg r,l=sg neg++r/\Good neg r:=fun hh=>by rw[(Kz l).2 hh]at h;cases h
 have key: ∀(neg:Bool) (r:L),l=sg neg++r->(neg=true->l.head?=some 45)->r=[]\/(r.head?=some 48/\1<l.length)\/ ¬r.all aJ=true:=fun neg r e he=>by
  refine an3 fun hc=> ?_
  simp only[aq2,asJ]at hc;obtain⟨c1,c2,c3⟩:=hc;refine hn ⟨neg,r,e,c3, ?_⟩;cases r with
  |nil=>exact absurd rfl c1
  |cons c t=>
   by_cases h48:c=48
   ·subst h48
    have hl: ¬1<l.length:=fun hl=>c2 ⟨rfl,hl⟩
    rw[e]at hl;cases neg with
    |true=>simp[sg]at hl
    |false=>
     cases t with
     |nil=>exact .inr ⟨rfl,rfl⟩
     |cons d t=>simp[sg]at hl
   exact .inl ⟨c,t,rfl,h48⟩
 unfold dM;by_cases hd:l.head?=some 45
 ·obtain⟨t,rfl⟩: ∃t,l=45 :: t:=by
   cases l with
   |nil=>simp at hd
   |cons c t=>simp at hd;subst hd;exact⟨t,rfl⟩
  have:=key true t rfl (fun _=>rfl)
  simp only[aoP,anN,af9,afW]
  rcases this with h1|h1|h1
  ·rw[aeu (.inl h1)]
  ·rw[aeu (.inr h1)]
  by_cases h2:t=[]\/(t.head?=some 48/\1<(45 :: t).length)
  ·rw[aeu h2]
  rw[aer h2,aeu h1]
 have:=key false l rfl (fun e=>by cases e)
 simp only[aer hd]
 rcases this with h1|h1|h1
 ·rw[aeu (.inl h1)]
 ·rw[aeu (.inr h1)]
 by_cases h2:l=[]\/(l.head?=some 48/\1<l.length)
 ·rw[aeu h2]
 rw[aer h2,aeu h1]
def TK {neg:Bool} {r:L} (h:Good neg r):Lib.parseIntB 64 (sg neg++r)=if over neg (aX 0 r) then .range else .ok (uj neg (aX 0 r)):=by
 obtain⟨hall,hh⟩:=h;have hne:r≠ []:=by rcases hh with⟨c,t,rfl,_⟩|⟨rfl,_⟩<;>simp
 have hu:Lib.parseMag r=if aX 0 r<=18446744073709551615 then .ok (aX 0 r) else .range:=by
  unfold Lib.parseMag;rw[aer hne,<-Lib.parseUintM_64,Z5 r 0 hall (by omega)]
 rw[atw]
 obtain⟨c,t,rfl⟩: ∃c t,r=c :: t:=by
  cases r with
  |nil=>exact absurd rfl hne
  |cons c t=>exact⟨c,t,rfl⟩
 obtain⟨h45,h43⟩:=TI hall;obtain⟨v,hv⟩:=aj (aX 0 (c :: t));rw[hv]at hu⊢;cases neg with
 |true=>
  show Lib.atoiAll (45 :: c :: t)=_
  unfold Lib.atoiAll over uj;simp only[show(45:UInt8).toNat=45 from rfl,or_true,anN,hu]
  by_cases hb:v<=18446744073709551615
  ·rw[aeu hb]
   simp only[not_true,false_and,ahp,true_and]
  rw[aer hb];simp only;rw[aeu (by omega)]
 |false=>
  show Lib.atoiAll (c :: t)=_
  unfold Lib.atoiAll over uj;simp only[h43,h45,or_self,ahp,hu,afO];by_cases hb:v<=18446744073709551615
  ·rw[aeu hb]
   simp only[aqF,true_and,false_and,ahp]
  rw[aer hb];simp only;rw[aeu (by omega)]
def ahB (n:Int): ∃neg r,Lib.itoa n=sg neg++r/\Good neg r/\uj neg (aX 0 r)=n/\aX 0 r=n.natAbs/\(neg=true↔n<0):=by
 unfold Lib.itoa;by_cases h:n<0
 ·rw[aeu h]
  obtain⟨c,r,e,hc⟩:=Z4 n.natAbs (by omega)
  refine⟨true,Lib.decDigits n.natAbs,rfl,⟨ZY _,.inl ⟨c,r,e,Lm.2 hc⟩⟩, ?_,O1 _,by simp[h]⟩
  rw[O1];unfold uj;simp only[anN];omega
 rw[aer h];refine⟨false,Lib.decDigits n.toNat,rfl,⟨ZY _, ?_⟩, ?_,by rw[O1];omega,by simp;omega⟩
 ·by_cases h0:n.toNat=0
  ·exact .inr ⟨by rw[h0,O4],rfl⟩
  obtain⟨c,r,e,hc⟩:=Z4 n.toNat h0;exact .inl ⟨c,r,e,Lm.2 hc⟩
 rw[O1];unfold uj;simp only[afO,ahp];omega
def ahC {neg:Bool} {r:L} (h:Good neg r):Lib.itoa (uj neg (aX 0 r))=sg neg++r:=by
 obtain⟨hall,hh⟩:=h
 rcases hh with⟨c,t,e,hc⟩|⟨rfl,rfl⟩
 ·have hb:=ahz r.length r rfl hall ⟨c,t,e,Lm.1 hc⟩
  have hpos:aX 0 r≠0:=fun h0=>by
   rw[h0,O4,e]at hb;simp at hb;exact hc hb.1.symm
  unfold Lib.itoa uj sg;cases neg with
  |true=>
   simp only[anN];rw[aeu (by omega)]
   simp only[Int.natAbs_neg,Int.natAbs_natCast,aox,hb]
  |false=>
   simp only[afO,ahp,agJ];rw[aer (by omega)]
   simp only[Int.toNat_natCast,hb]
 have:aX 0 [48]=0:=rfl;rw[this];unfold Lib.itoa uj sg;simp[O4]
def ahD {l:L} (h:isInt l=true):(∃v,Lib.parseIntB 64 l=.ok v/\dM l=(v,0))\/(Lib.parseIntB 64 l=.range/\dM l=(0,51)):=by
 obtain⟨neg,r,rfl,hg⟩:=(Kz l).1 h;rw[TK hg,Z7 hg]
 split
 ·exact .inr ⟨rfl,rfl⟩
 exact .inl ⟨_,rfl,rfl⟩
def vk (d:Nat):UInt8:=UInt8.ofNat (if d<10 then 48+d else 87+d)
def fC (c:UInt8):Option Nat:=if 48<=c.toNat/\c.toNat<=57 then some (c.toNat - 48) else if 97<=c.toNat/\c.toNat<=102 then some (c.toNat - 87) else none
def ahE: ∀d:Fin 16,fC (vk d.val)=some d.val:=by decide
def ahF: ∀c:Fin 256,∀d:Fin 16,fC (UInt8.ofNat c.val)=some d.val->vk d.val=UInt8.ofNat c.val:=by decide+kernel
def zM {c:UInt8} {d:Nat} (h:fC c=some d):d<16:=by
 unfold fC at h
 split at h
 ·simp at h;omega
 split at h
 ·simp at h;omega
 cases h
def Z9 {c:UInt8} {d:Nat} (h:fC c=some d):vk d=c:=by
 have hd:=zM h;have:=ahF ⟨c.toNat,an0 c⟩ ⟨d,hd⟩ (by simpa using h)
 simpa using this
def hexN:Nat->Nat->L
 |0,_=> []
 |k+1,n=>hexN k (n / 16)++[vk (n % 16)]
def KA: ∀(k n:Nat),(hexN k n).length=k
 |0,_=>rfl
 |k+1,n=>by simp[hexN,KA k]
def hexVal:L->Nat->Option Nat
 |[],acc=>some acc
 |c :: r,acc=>match fC c with
  |some d=>hexVal r (acc*16+d)
  |none=>none
def Iz: ∀(a b:L) (acc:Nat),hexVal (a++b) acc=(hexVal a acc).bind (hexVal b)
 |[],b,acc=>rfl
 |c :: r,b,acc=>by
  simp only[anr,hexVal];cases fC c with
  |none=>rfl
  |some d=>exact Iz r b _
def O6: ∀(k n acc:Nat),n<16 ^ k->hexVal (hexN k n) acc=some (acc*16 ^ k+n)
 |0,n,acc,h=>by simp at h;subst h;simp[hexN,hexVal]
 |k+1,n,acc,h=>by
  rw[af2]at h;rw[hexN,Iz,O6 k (n / 16) acc (by omega)]
  have e:=ahE ⟨n % 16,by omega⟩
  simp only at e;simp only[aoH,hexVal,e]
  congr 1
  rw[af2,<-ahm];have:acc*16 ^ k*16=(acc*16 ^ k)*16:=rfl;omega
def aac: ∀(k:Nat) (r:L) (n:Nat),r.length=k->hexVal r 0=some n->n<16 ^ k/\hexN k n=r
 |0,r,n,hl,h=>by
  have:r=[]:=aeI hl;subst this;simp[hexVal]at h;subst h;exact⟨by simp,rfl⟩
 |k+1,r,n,hl,h=>by
  rcases O5 r with rfl|⟨q,c,rfl⟩
  ·simp at hl
  have hq:q.length=k:=by simpa using hl
  rw[Iz]at h;cases hm:hexVal q 0 with
  |none=>rw[hm]at h;simp at h
  |some m=>
   rw[hm]at h;simp only[aoH,hexVal]at h;cases hc:fC c with
   |none=>rw[hc]at h;simp at h
   |some d=>
    rw[hc]at h;simp only[afs]at h;obtain⟨h1,h2⟩:=aac k q m hq hm;have hd:=zM hc;subst h;refine⟨by rw[af2];omega, ?_⟩
    rw[hexN,show(m*16+d) / 16=m by omega,show(m*16+d) % 16=d by omega,h2,Z9 hc]
def aad: ∀(j k n:Nat),hexN (k+j) (n*16 ^ j)=hexN k n++List.replicate j 48
 |0,k,n=>by simp
 |j+1,k,n=>by
  have e:n*16 ^(j+1)=(n*16 ^ j)*16:=by rw[af2,ahm]
  rw[<-anL,hexN,e,Nat.mul_div_cancel _ (by decide:0<16),Nat.mul_mod_left,aad j k n,afu]
  congr 1
  have:vk 0=48:=by decide
  rw[this,ap5]
def O7 (l:L) (c:UInt8):Lib.trimRightS (l++[c]) [48]=if c=48 then Lib.trimRightS l [48] else l++[c]:=by
 unfold Lib.trimRightS;rw[List.reverse_append,List.reverse_singleton,aox,List.dropWhile_cons,Lib.contains_one];by_cases h:c=48
 ·subst h;simp
 rw[aer h];have:(c == 48)=false:=by simpa using h
 rw[this];simp
def ahG:Lib.trimRightS [] [48]=[]:=rfl
def ahH {l:L} (h:l.getLast?≠some 48):Lib.trimRightS l [48]=l:=by
 rcases O5 l with rfl|⟨q,c,rfl⟩
 ·rfl
 rw[O7,aer];intro e;subst e;simp at h
def aae (l:L): ∀j,Lib.trimRightS (l++List.replicate j 48) [48]=Lib.trimRightS l [48]
 |0=>by simp
 |j+1=>by rw[ap5,<-afu,O7,aeu rfl,aae l j]
def KC: ∀(n:Nat) (l:L),l.length=n-> ∃j,l=Lib.trimRightS l [48]++List.replicate j 48/\(Lib.trimRightS l [48]).getLast?≠some 48:=by
 intro n
 induction n with
 |zero=>
  intro l hl;have:l=[]:=aeI hl;subst this;exact⟨0,rfl,by simp[ahG]⟩
 |succ n ih=>
  intro l hl
  rcases O5 l with rfl|⟨q,c,rfl⟩
  ·simp at hl
  rw[O7];by_cases h:c=48
  ·subst h
   rw[aeu rfl];obtain⟨j,h1,h2⟩:=ih q (by simpa using hl)
   refine⟨j+1, ?_,h2⟩;rw[ap5,<-afu,<-h1]
  rw[aer h];exact⟨0,by simp,by simp[h]⟩
def oV (f:Nat):L:=if f=0 then[] else 46 :: Lib.trimRightS (hexN 13 f) [48]
def mV:L->Option Nat
 |[]=>some 0
 |c :: h=>if c≠46\/h=[]\/13<h.length\/h.getLast?=some 48 then none else(hexVal h 0).map (· *16 ^(13 - h.length))
def ahI {k n:Nat} (h:(hexN (k+1) n).getLast?≠some 48):n % 16≠0:=by
 intro h0
 apply h
 rw[hexN,h0];simp
 decide
def TL {u:L} {f:Nat} (h:mV u=some f):u=oV f/\f<4503599627370496:=by
 cases u with
 |nil=>simp[mV]at h;subst h;exact⟨rfl,by decide⟩
 |cons c t=>
  simp only[mV]at h
  split at h
  ·cases h
  rename_i hc;simp only[aq2,asJ]at hc;obtain⟨rfl,h1,h2,h3⟩:=hc;cases hv:hexVal t 0 with
  |none=>rw[hv]at h;cases h
  |some n=>
   rw[hv]at h;simp only[afX,afs]at h
   obtain⟨k,hk⟩: ∃k,t.length=k+1:=by
    cases t with
    |nil=>exact absurd rfl h1
    |cons a b=>exact⟨b.length,rfl⟩
   obtain⟨hlt,hx⟩:=aac (k+1) t n hk hv;rw[hk]at h h2;have hj:13=(k+1)+(13 -(k+1)):=by omega
   have hf:f=n*16 ^(13 -(k+1)):=h.symm;have hl3:(hexN (k+1) n).getLast?≠some 48:=by rw[hx];exact h3
   have hn0:=ahI hl3;have hp:0<16 ^(13 -(k+1)):=aoj (by decide)
   have hf0:f≠0:=by
    rw[hf];exact Nat.mul_ne_zero (by omega) (by omega)
   constructor
   ·unfold oV
    rw[aer hf0,hf]
    congr 1
    have e:=aad (13 -(k+1)) (k+1) n;rw[<-hj]at e;rw[e,aae,ahH hl3,hx]
   have e:(16:Nat) ^(k+1)*16 ^(13 -(k+1))=4503599627370496:=by
    rw[<-aoN,<-hj]
   rw[hf,<-e];exact anY hlt hp
def O8: ∀(j acc:Nat),hexVal (List.replicate j 48) acc=some (acc*16 ^ j)
 |0,acc=>by simp[hexVal]
 |j+1,acc=>by
  have e:fC 48=some 0:=by decide
  rw[List.replicate_succ,hexVal,e];simp only;rw[O8 j,af2,agw,ahm,ahe 16]
def ahJ {f:Nat} (hf:f<4503599627370496):mV (oV f)=some f:=by
 unfold oV;by_cases h0:f=0
 ·rw[aeu h0,h0];rfl
 rw[aer h0];obtain⟨j,h1,h2⟩:=KC _ (hexN 13 f) rfl;obtain⟨h,hh⟩:=aj (Lib.trimRightS (hexN 13 f) [48]);rw[hh]at h1 h2⊢;have hv:=O6 13 f 0 (by simpa using hf)
 rw[h1,Iz]at hv;have hlen:=KA 13 f;rw[h1,aeo,atA]at hlen;cases hm:hexVal h 0 with
 |none=>rw[hm]at hv;simp at hv
 |some m=>
  rw[hm]at hv;simp only[aoH,O8,afs,aop,agO]at hv
  have hne:h≠ []:=by
   intro e;subst e;simp[hexVal]at hm;subst hm;simp at hv;exact h0 hv.symm
  simp only[mV];rw[aer (by simp only[ne_eq,not_true,hne,h2,apz,false_or];omega),hm]
  simp only[afX];rw[show 13 - h.length=j by omega,hv]
def rF (e:Int):L:=if e<0 then 109 :: Lib.itoa (-e) else 112 :: Lib.itoa e
def wG (c:UInt8) (r:L):Int:=if c=109 then -((aX 0 r:Nat):Int) else(aX 0 r:Nat)
def sN (s:L):Option Int:=
 match s with
 |[]=>none
 |c :: r=>
  if r=[]\/4<r.length\/(c≠112/\c≠109)\/isInt r=false\/r.head?=some 45\/(c=109/\r=[48]) then none else
  if wG c r<=1023/\ -1074<=wG c r then some (wG c r) else none
def TM (r:L):wG 109 r= -((aX 0 r:Nat):Int):=by unfold wG;rw[aeu rfl]
def TN {c:UInt8} (h:c≠109) (r:L):wG c r=(aX 0 r:Nat):=by unfold wG;rw[aer h]
def TP {r:L} (h:isInt r=true) (h2:r.head?≠some 45):Good false r:=by
 obtain⟨neg,q,e,hg⟩:=(Kz r).1 h;cases neg with
 |true=>subst e;simp[sg]at h2
 |false=>have:r=q:=e;subst this;exact hg
def aaf {r:L} (h:Good false r):isInt r=true:=(Kz r).2 ⟨false,r,rfl,h⟩
def O9 {r:L} {neg:Bool} (h:Good neg r):r≠ []:=by
 rcases h.2 with⟨c,t,rfl,_⟩|⟨rfl,_⟩<;>simp
def aag {r:L} {neg:Bool} (h:Good neg r):r.head?≠some 45:=by
 cases r with
 |nil=>simp
 |cons c t=>have:=(TI h.1).1;simp;intro e;subst e;exact this rfl
def aah {r:L} (h:Good false r):Lib.itoa (aX 0 r:Nat)=r:=by
 have:=ahC h
 simpa[uj,sg] using this
def ahK {r:L} (h:Good false r) (h0:aX 0 r=0):r=[48]:=by
 have:=aah h;rw[h0]at this;rw[<-this]
 show Lib.itoa ((0:Nat):Int)=_
 rw[atl,O4]
def TQ {v:L} {e:Int} (h:sN v=some e):v=rF e/\e<=1023/\ -1074<=e:=by
 cases v with
 |nil=>simp[sN]at h
 |cons c r=>
  simp only[sN]at h
  split at h
  ·cases h
  rename_i hc;simp only[aq2,Bool.not_eq_false]at hc;obtain⟨h1,h2,h3,h4,h5,h6⟩:=hc;have hg:=TP h4 h5;have hi:=aah hg
  split at h
  ·rename_i hb
   simp only[afs]at h;subst h;refine⟨?_,hb.1,hb.2⟩;by_cases hc:c=109
   ·rw[hc,TM]
    have hpos:aX 0 r≠0:=fun h0=>h6 ⟨hc,ahK hg h0⟩
    unfold rF;rw[aeu (by omega),Int.neg_neg,hi]
   rw[TN hc];have:c=112:=an3 fun h7=>h3 ⟨h7,hc⟩
   unfold rF;rw[aer (by omega),hi,this]
  cases h
def Pe (n:Nat):Good false (Lib.itoa (n:Int))/\aX 0 (Lib.itoa (n:Int))=n:=by
 obtain⟨neg,r,e,hg,hv,ha,hn⟩:=ahB (n:Int)
 have:neg=false:=by
  cases neg with
  |false=>rfl
  |true=>have:=hn.1 rfl;omega
 subst this;have e:Lib.itoa (n:Int)=r:=e;rw[e];exact⟨hg,by omega⟩
def Pg (n:Nat) (h:n<10000):(Lib.itoa (n:Int)).length<=4:=by
 rw[atl,Bg]
 have: ∀k u:Nat,u<10 ^(k+1)->Lib.nDigits u<=k+1:=by
  intro k
  induction k with
  |zero=>intro u hu;rw[atf (by simpa using hu)];omega
  |succ k ih=>
   intro u hu;by_cases hs:u<10
   ·rw[atf hs];omega
   rw[Lib.nDigits_big hs];have:=ih (u / 10) (by rw[af2]at hu;omega)
   omega
 exact this 3 n (by simpa using h)
def ahL {e:Int} (h1:e<=1023) (h2: -1074<=e):sN (rF e)=some e:=by
 unfold rF;by_cases hn:e<0
 ·rw[aeu hn]
  obtain⟨n,hN⟩: ∃n:Nat,-e=n:=⟨(-e).toNat,by omega⟩
  rw[hN];obtain⟨hg,hv⟩:=Pe n;have hl:=Pg n (by omega)
  simp only[sN];rw[aer,TM,hv,aeu (by omega)]
  ·congr 1;omega
  simp only[aq2];refine⟨O9 hg,by omega,by simp,by rw[aaf hg];simp,aag hg,fun h=> ?_⟩
  have:aX 0 (Lib.itoa (n:Int))=0:=by rw[h.2];rfl
  omega
 rw[aer hn];obtain⟨n,hN⟩: ∃n:Nat,e=n:=⟨e.toNat,by omega⟩
 subst hN;obtain⟨hg,hv⟩:=Pe n;have hl:=Pg n (by omega)
 simp only[sN];rw[aer,TN (by decide),hv,aeu (by omega)]
 simp only[aq2];exact⟨O9 hg,by omega,by simp,by rw[aaf hg];simp,aag hg,by simp⟩
def bitLen_spec: ∀(k x:Nat),x<2 ^ k->k<=64->x≠0->2 ^(Lib.bitLen x - 1)<=x/\x<2 ^ Lib.bitLen x/\1<=Lib.bitLen x
 |0,x,h,_,h0=>by simp at h;exact absurd h h0
 |k+1,x,h,hk,h0=>by
  have h64:x<2 ^ 64:=afn h (afT (by decide) hk)
  rw[Lib.bitLen_half x h0 h64];by_cases h1:x / 2=0
  ·have:x=1:=by omega
   subst this;have:Lib.bitLen (1 / 2)=0:=by decide
   rw[this];simp
  have ih:=bitLen_spec k (x / 2) (by rw[af2]at h;omega) (by omega) h1
  obtain⟨a,b,c⟩:=ih;obtain⟨m,hm⟩: ∃m,Lib.bitLen (x / 2)=m+1:=⟨Lib.bitLen (x / 2) - 1,by omega⟩
  rw[hm]at a b⊢;simp only[aoO]at a;rw[show 1+(m+1) - 1=m+1 by omega,show 1+(m+1)=(m+1)+1 by omega]
  rw[af2 2 (m+1)];rw[af2]at b⊢;omega
def up (a:Nat):Nat:=53 - Lib.bitLen a
def aai {a:Nat} (h0:a≠0) (h:a<4503599627370496):1<=up a/\up a<=52/\4503599627370496<=a*2 ^ up a/\a*2 ^ up a<9007199254740992:=by
 obtain⟨h1,h2,h3⟩:=bitLen_spec 52 a h (by decide) h0
 have h4:Lib.bitLen a<=52:=Lib.bitLen_le a 52 (by decide) h
 unfold up;obtain⟨m,hm⟩: ∃m,Lib.bitLen a=m+1:=⟨Lib.bitLen a - 1,by omega⟩
 rw[hm]at h1 h2 h4⊢;simp only[aoO]at h1;have e1:2 ^ m*2 ^(53 -(m+1))=4503599627370496:=by rw[<-aoN,show m+(53 -(m+1))=52 by omega]
 have e2:2 ^(m+1)*2 ^(53 -(m+1))=9007199254740992:=by rw[<-aoN,show m+1+(53 -(m+1))=53 by omega]
 refine⟨by omega,by omega, ?_, ?_⟩
 ·rw[<-e1];exact ahg _ h1
 rw[<-e2];exact anY h2 (aoj (by decide))
def ahM {a m:Nat} (h1:2 ^ m<=a) (h2:a<2 ^(m+1)) (hm:m<63):Lib.bitLen a=m+1:=by
 have h0:a≠0:=by have:=aoj (n:=m) (show 0<2 by decide);omega
 obtain⟨c1,c2,c3⟩:=bitLen_spec (m+1) a h2 (by omega) h0
 have l1:=Lib.bitLen_le a (m+1) (by omega) h2
 have l2: ¬Lib.bitLen a<=m:=fun hle=>by
  have:=afT (show 0<2 by decide) hle
  omega
 omega
def nV (a:Nat):Int:=if a<4503599627370496 then -1022 -(up a:Int) else(a / 4503599627370496:Nat) - 1023
def oW (a:Nat):Nat:=if a<4503599627370496 then a*2 ^ up a - 4503599627370496 else a % 4503599627370496
def bitsOf (f:Nat) (e:Int):Nat:=if -1022<=e then(e+1023).toNat*4503599627370496+f else(4503599627370496+f) / 2 ^(-1022 - e).toNat
def fits (f:Nat) (e:Int):Prop:= -1022<=e\/(-1022 - e).toNat<=Lib.ctz 64 (4503599627370496+f)
instance (f:Nat) (e:Int):Decidable (fits f e):=by unfold fits;infer_instance
def aaj {x d:Nat} (h0:x≠0) (h:x<2 ^ 64):d<=Lib.ctz 64 x↔2 ^ d ∣ x:=by
 have e:Lib.ctz 64 x=Lib.ctzFrom 64 x:=by simp[Lib.ctz,h0]
 rw[e];obtain⟨m,hm,_⟩:=Lib.ctzFrom_spec 64 x (by omega) h
 obtain⟨c,hc⟩:=aj (Lib.ctzFrom 64 x);rw[hc]at hm⊢
 constructor
 ·intro hd
  rw[hm,show c=d+(c - d) by omega,aoN,ahm]
  exact Nat.dvd_mul_right _ _
 intro hd;refine an3 fun hn=> ?_
 rw[hm,show d=c+((d - c - 1)+1) by omega,aoN]at hd
 have h2:=Nat.dvd_of_mul_dvd_mul_left (aoj (by decide)) hd
 rw[af2]at h2;have h3:2 ∣ 2*m+1:=Nat.dvd_trans (Nat.dvd_mul_left 2 _) h2;omega
def Ph {a:Nat} (h0:a≠0) (h:a<9218868437227405312):oW a<4503599627370496/\nV a<=1023/\ -1074<=nV a/\bitsOf (oW a) (nV a)=a/\fits (oW a) (nV a):=by
 by_cases hs:a<4503599627370496
 ·obtain⟨u1,u2,u3,u4⟩:=aai h0 hs
  obtain⟨u,hu⟩:=aj (up a);obtain⟨x,hx⟩:=aj (a*2 ^ u);have e1:nV a= -1022 -(u:Int):=by unfold nV;rw[aeu hs,hu]
  have e2:oW a=x - 4503599627370496:=by unfold oW;rw[aeu hs,hu,hx]
  rw[hu]at u1 u2 u3 u4;rw[hx]at u3 u4;rw[e1,e2];have e3:(-1022 -(-1022 -(u:Int))).toNat=u:=by omega
  have e4:4503599627370496+(x - 4503599627370496)=x:=by omega
  refine⟨by omega,by omega,by omega, ?_,.inr ?_⟩
  ·unfold bitsOf
   rw[aer (by omega),e3,e4,<-hx,Nat.mul_div_cancel _ (aoj (by decide))]
  rw[e3,e4,aaj (by omega) (by omega),<-hx]
  exact Nat.dvd_mul_left _ _
 have e1:nV a=(a / 4503599627370496:Nat) - 1023:=by unfold nV;rw[aer hs]
 have e2:oW a=a % 4503599627370496:=by unfold oW;rw[aer hs]
 rw[e1,e2];refine⟨by omega,by omega,by omega, ?_,.inl (by omega)⟩
 unfold bitsOf;rw[aeu (by omega)]
 omega
def ahN {f:Nat} {e:Int} (hf:f<4503599627370496) (h1:e<=1023) (h2: -1074<=e) (hfit:fits f e):
  bitsOf f e≠0/\bitsOf f e<9218868437227405312/\oW (bitsOf f e)=f/\nV (bitsOf f e)=e:=by
 by_cases he: -1022<=e
 ·have e1:bitsOf f e=(e+1023).toNat*4503599627370496+f:=by unfold bitsOf;rw[aeu he]
  rw[e1];refine⟨by omega,by omega, ?_, ?_⟩
  ·unfold oW;rw[aer (by omega)];omega
  unfold nV;rw[aer (by omega)];omega
 have hd:=hfit.resolve_left he;obtain⟨d,hd0⟩:=aj ((-1022 - e).toNat);obtain⟨x,hx⟩:=aj (4503599627370496+f);have e1:bitsOf f e=x / 2 ^ d:=by unfold bitsOf;rw[aer he,hd0,hx]
 rw[hd0,hx,aaj (by omega) (by omega)]at hd
 obtain⟨a,ha⟩:=hd;have hp:0<2 ^ d:=aoj (by decide)
 have e2:x / 2 ^ d=a:=by rw[ha,Nat.mul_div_cancel_left _ hp]
 have aqD:1<=d/\d<=52:=by omega
 rw[e1,e2];have hxa:a*2 ^ d=x:=by rw[ha,ahe]
 have lo:2 ^(52 - d)<=a:=by
  refine Nat.le_of_mul_le_mul_right ?_ hp;rw[<-aoN,show 52 - d+d=52 by omega,hxa]
  omega
 have hi:a<2 ^(52 - d+1):=by
  refine Nat.lt_of_mul_lt_mul_right (a:=2 ^ d) ?_;rw[<-aoN,show 52 - d+1+d=53 by omega,hxa]
  omega
 have hb:=ahM lo hi (by omega)
 have hup:up a=d:=by unfold up;omega
 have ha0:a≠0:=by have:=aoj (n:=52 - d) (show 0<2 by decide);omega
 have has:a<4503599627370496:=by
  have:2 ^(52 - d+1)<=2 ^ 52:=afT (by decide) (by omega)
  omega
 refine⟨ha0,by omega, ?_, ?_⟩
 ·unfold oW;rw[aeu has,hup,hxa];omega
 unfold nV;rw[aeu has,hup];omega
def form (f:Nat) (e:Int):L:=[48,120,49] ++(oV f++rF e)
def um:L:=[48,120,110,97,110]
def xX:L:=[48,120,105,110,102]
def ZERO:L:=[48,120,48]
def ku (a:Nat):L:=if a=9218868437227405312 then xX else if a=0 then ZERO else form (oW a) (nV a)
def fmt (b:Nat):L:=
 if 9218868437227405312<b % 9223372036854775808 then um else sg (decide (9223372036854775808<=b))++ku (b % 9223372036854775808)
def kR:L->Option (L×L)
 |[]=>none
 |c :: r=>if c=112\/c=109 then some ([],c :: r) else(kR r).map fun x=>(c :: x.1,x.2)
def Pj: ∀(l u v:L),kR l=some (u,v)->l=u++v
 |[],u,v,h=>by simp[kR]at h
 |c :: r,u,v,h=>by
  simp only[kR]at h
  split at h
  ·simp only[afs,anM]at h
   obtain⟨rfl,rfl⟩:=h;rfl
  cases hc:kR r with
  |none=>rw[hc]at h;cases h
  |some x=>
   rw[hc]at h;simp only[afX,afs,anM]at h;obtain⟨rfl,rfl⟩:=h;rw[Pj r x.1 x.2 hc];rfl
def aak: ∀(u:L) (c:UInt8) (r:L),(∀x∈u,x≠112/\x≠109)->c=112\/c=109->kR (u++c :: r)=some (u,c :: r)
 |[],c,r,_,h=>by simp[kR,h]
 |d :: u,c,r,hu,h=>by
  have hd:=hu d (by simp)
  simp only[anr,kR];rw[aer (by simp[hd.1,hd.2]),aak u c r (fun x hx=>hu x (by simp[hx])) h]
  rfl
def pair (t:L):Option (Nat×Int):=
 if Lib.hasPrefix t [48,120,49] then
  match kR (t.drop 3) with
  |none=>none
  |some (u,v)=>match mV u,sN v with
   |some f,some e=>some (f,e)
   |_,_=>none
 else none
def kS (t:L):Option Nat:=
 if t=xX then some 9218868437227405312 else if t=ZERO then some 0 else
 match pair t with
 |none=>none
 |some (f,e)=>if fits f e then some (bitsOf f e) else none
def parse (s:L):Option Nat:=
 if s=um then some 9221120237041090560 else
 if s.head?=some 45 then(kS (s.drop 1)).map (9223372036854775808+ ·) else kS s
def ahO {t:L} {f:Nat} {e:Int} (h:pair t=some (f,e)):t=form f e/\f<4503599627370496/\e<=1023/\ -1074<=e:=by
 unfold pair at h
 split at h
 ·rename_i hp
  cases hc:kR (t.drop 3) with
  |none=>rw[hc]at h;cases h
  |some x=>
   obtain⟨u,v⟩:=x;rw[hc]at h;simp only at h;cases hf:mV u with
   |none=>rw[hf]at h;simp at h
   |some f'=>
    cases he:sN v with
    |none=>rw[hf,he]at h;simp at h
    |some e'=>
     rw[hf,he]at h;simp only[afs,anM]at h;obtain⟨rfl,rfl⟩:=h;obtain⟨h1,h2⟩:=TL hf;obtain⟨h3,h4,h5⟩:=TQ he;refine⟨?_,h2,h4,h5⟩;have e1:=Pj _ _ _ hc;unfold Lib.hasPrefix at hp;rw[aos]at hp;obtain⟨q,hq⟩:=hp;unfold form;rw[<-hq]at e1⊢;simp at e1;rw[e1,<-h1,<-h3]
 cases h
def aal: ∀d:Fin 16,vk d.val≠112/\vk d.val≠109:=by decide
def aam: ∀(k n:Nat),∀x∈hexN k n,x≠112/\x≠109
 |0,_,x,h=>by simp[hexN]at h
 |k+1,n,x,h=>by
  rw[hexN]at h
  rcases afq.1 h with h|h
  ·exact aam k _ x h
  rw[afm.1 h];exact aal ⟨n % 16,by omega⟩
def ahP (f:Nat): ∀x∈oV f,x≠112/\x≠109:=by
 unfold oV
 split
 ·simp
 intro x hx
 rcases aga.1 hx with rfl|hx
 ·decide
 refine aam 13 f x ?_;obtain⟨j,h1,_⟩:=KC _ (hexN 13 f) rfl;rw[h1];exact afq.2 (.inl hx)
def ahQ {f:Nat} {e:Int} (hf:f<4503599627370496) (h1:e<=1023) (h2: -1074<=e):pair (form f e)=some (f,e):=by
 have hx: ∃c r,rF e=c :: r/\(c=112\/c=109):=by
  unfold rF
  split
  ·exact⟨_,_,rfl,.inr rfl⟩
  exact⟨_,_,rfl,.inl rfl⟩
 obtain⟨c,r,hc,hc2⟩:=hx;have e1:(form f e).drop 3=oV f++rF e:=rfl
 have e2:Lib.hasPrefix (form f e) [48,120,49]=true:=by
  unfold Lib.hasPrefix form;simp[List.isPrefixOf]
 unfold pair;rw[aeu e2,e1,hc,aak _ _ _ (ahP f) hc2,<-hc];simp only;rw[ahJ hf,ahL h1 h2]
def Pm (f:Nat) (e:Int):(form f e).head?≠some 45/\form f e≠um/\form f e≠xX/\form f e≠ZERO:=by
 unfold form um xX ZERO;refine⟨by simp,by simp,by simp,by simp⟩
def aan {a:Nat} (h:a<=9218868437227405312):kS (ku a)=some a:=by
 unfold ku;by_cases hi:a=9218868437227405312
 ·rw[aeu hi,hi];rfl
 rw[aer hi];by_cases h0:a=0
 ·rw[aeu h0,h0];rfl
 rw[aer h0];obtain⟨p1,p2,p3,p4,p5⟩:=Ph h0 (by omega)
 obtain⟨_,_,q3,q4⟩:=Pm (oW a) (nV a);unfold kS;rw[aer q3,aer q4,ahQ p1 p2 p3];simp only;rw[aeu p5,p4]
def Pn {t:L} {a:Nat} (h:kS t=some a):t=ku a/\a<=9218868437227405312:=by
 unfold kS at h
 split at h
 ·rename_i hi
  simp only[afs]at h;subst h;exact⟨by rw[hi];rfl,by omega⟩
 split at h
 ·rename_i h0
  simp only[afs]at h;subst h;exact⟨by rw[h0];rfl,by omega⟩
 cases hp:pair t with
 |none=>rw[hp]at h;cases h
 |some x=>
  obtain⟨f,e⟩:=x;rw[hp]at h;simp only at h
  split at h
  ·rename_i hfit
   simp only[afs]at h;obtain⟨r1,r2,r3,r4⟩:=ahO hp;obtain⟨s1,s2,s3,s4⟩:=ahN r2 r3 r4 hfit;rw[h]at s1 s2 s3 s4;refine⟨?_,by omega⟩
   unfold ku;rw[aer (by omega),aer s1,s3,s4,r1]
  cases h
def ahR (a:Nat):(ku a).head?≠some 45/\ku a≠um:=by
 unfold ku
 split
 ·exact⟨by decide,by decide⟩
 split
 ·exact⟨by decide,by decide⟩
 exact⟨(Pm _ _).1,(Pm _ _).2.1⟩
def canon (b:Nat):Nat:=if 9218868437227405312<b % 9223372036854775808 then 9221120237041090560 else b
def ahS {b:Nat} (hb:b<18446744073709551616):parse (fmt b)=some (canon b):=by
 unfold fmt canon;by_cases hn:9218868437227405312<b % 9223372036854775808
 ·rw[aeu hn,aeu hn];rfl
 rw[aer hn,aer hn];obtain⟨h1,h2⟩:=ahR (b % 9223372036854775808);unfold parse;by_cases hs:9223372036854775808<=b
 ·rw[aei hs]
  have e:sg true++ku (b % 9223372036854775808)=45 :: ku (b % 9223372036854775808):=rfl;rw[e,aer (by simp[um]),aoP,aeu rfl,af9,afW,aan (by omega)]
  simp only[afX,afs];omega
 rw[dF hs];have e:sg false++ku (b % 9223372036854775808)=ku (b % 9223372036854775808):=rfl;rw[e,aer h2,aer h1,aan (by omega)]
 congr 1
 omega
def TR {s:L} {b:Nat} (h:parse s=some b):fmt b=s/\b<18446744073709551616/\canon b=b:=by
 unfold parse at h
 split at h
 ·rename_i hn
  simp only[afs]at h;subst h;exact⟨by rw[hn];rfl,by omega,by decide⟩
 split at h
 ·rename_i hd
  obtain⟨t,rfl⟩: ∃t,s=45 :: t:=by
   cases s with
   |nil=>simp at hd
   |cons c t=>simp at hd;subst hd;exact⟨t,rfl⟩
  rw[af9,afW]at h;cases hp:kS t with
  |none=>rw[hp]at h;cases h
  |some a=>
   rw[hp]at h;simp only[afX,afs]at h;obtain⟨r1,r2⟩:=Pn hp;have e1:b % 9223372036854775808=a:=by omega
   refine⟨?_,by omega,by unfold canon;rw[aer (by omega)]⟩
   unfold fmt;rw[e1,aer (by omega),aei (by omega),r1]
   rfl
 obtain⟨r1,r2⟩:=Pn h;have e1:b % 9223372036854775808=b:=by omega
 refine⟨?_,by omega,by unfold canon;rw[aer (by omega)]⟩
 unfold fmt;rw[e1,aer (by omega),dF (by omega)]
 exact r1.symm
def wW (c:UInt8):Nat:=if 97<=c.toNat/\c.toNat<=102 then c.toNat - 87 else c.toNat % 16
def ahT (c:UInt8):wW c<16:=by unfold wW;split<;>omega
def ahU {c:UInt8} {d:Nat} (h:fC c=some d):wW c=d:=by
 unfold fC at h;unfold wW
 split at h
 ·rw[aer (by omega)];simp at h;omega
 split at h
 ·rename_i h2;rw[aeu h2];simpa using h
 cases h
def Bh (c:UInt8):Bool:=c == 112 || c == 109
def iW:Nat->L->Nat->Nat×L×Nat
 |0,l,sig=>(sig,l,0)
 |k+1,[],sig=>(sig,[],k+1)
 |k+1,c :: r,sig=>if Bh c then(sig,c :: r,k+1) else iW k r (sig*16+wW c)
def nX:Nat->L->Nat->Nat
 |0,_,e=>e
 |_+1,[],e=>e
 |k+1,c :: r,e=>nX k r (e*10+c.toNat % 16)
def qo:Nat->Nat->Int->Nat×Int
 |0,s,e=>(s,e)
 |k+1,s,e=>if e< -1022/\0<s then qo k (s / 2) (e+1) else(s,e)
def Du (x:Nat×Int):Nat:=if x.1<4503599627370496\/1023<x.2 then x.1 % 4503599627370496 else(x.2+1022).toNat*4503599627370496+x.1
def vw (c:UInt8) (n:Nat):Int:=if c=109 then -(n:Int) else n
def Fq (y:Nat×L×Nat):Nat:=
 match y.2.1 with
 |[]=>0
 |c :: r=>Du (qo 64 (y.1*16 ^ y.2.2) (vw c (nX 4 r 0)))
def guess (t:L):Nat:=if t.length<5 then 0 else Fq (iW 13 (if t[3]?=some 46 then t.drop 4 else t.drop 3) 1)
def TS: ∀(k:Nat) (l:L) (sig M:Nat),sig<M->(iW k l sig).1*16 ^(iW k l sig).2.2<M*16 ^ k
 |0,l,sig,M,h=>by simpa[iW] using h
 |k+1,[],sig,M,h=>by
  simp only[iW];exact anY h (aoj (by decide))
 |k+1,c :: r,sig,M,h=>by
  simp only[iW]
  split
  ·exact anY h (aoj (by decide))
  have:=TS k r (sig*16+wW c) (M*16) (by have:=ahT c;omega)
  have e:M*16 ^(k+1)=M*16*16 ^ k:=by rw[af2,ahm,ahe 16]
  rw[e];exact this
def aao: ∀(k:Nat) (l:L) (e:Nat),nX k l e<=(e+2)*10 ^ k
 |0,l,e=>by simp[nX]
 |k+1,[],e=>by
  simp only[nX];have h1:1<=10 ^(k+1):=Nat.one_le_pow _ _ (by decide)
  have:=apt (e+2) h1;omega
 |k+1,c :: r,e=>by
  simp only[nX];have h:=aao k r (e*10+c.toNat % 16);have h2:(e*10+c.toNat % 16+2)*10 ^ k<=((e+2)*10)*10 ^ k:=ahg _ (by omega)
  have e2:(e+2)*10 ^(k+1)=(e+2)*10*10 ^ k:=by rw[af2,ahm,ahe 10]
  rw[e2];exact aep h h2
def aap: ∀(k s:Nat) (e:Int),(qo k s e).1<=s
 |0,s,e=>aej _
 |k+1,s,e=>by
  simp only[qo]
  split
  ·have:=aap k (s / 2) (e+1);omega
  exact aej _
def TT {k s:Nat} {e:Int} (h: ¬(e< -1022/\0<s)):qo k s e=(s,e):=by
 cases k with
 |zero=>rfl
 |succ k=>simp only[qo];rw[aer h]
def aaq: ∀(d k s:Nat) (e:Int),d<=k->e+d= -1022->2 ^ d<=s->qo k s e=(s / 2 ^ d,-1022)
 |0,k,s,e,_,he,_=>by
  have:e= -1022:=by omega
  subst this;rw[TT (by omega)]
  simp
 |d+1,k,s,e,hk,he,hs=>by
  obtain⟨k',rfl⟩: ∃k',k=k'+1:=⟨k - 1,by omega⟩
  have h1:0<2 ^(d+1):=aoj (by decide)
  simp only[qo];rw[aeu (by omega),aaq d k' (s / 2) (e+1) (by omega) (by omega) (by rw[af2]at hs;omega),Nat.div_div_eq_div_mul,af2,ahe 2]
def aar: ∀(h:L) (k:Nat) (rest:L) (sig n:Nat),hexVal h sig=some n->h.length<=k->(∃c r,rest=c :: r/\Bh c=true)->iW k (h++rest) sig=(n,rest,k - h.length)
 |[],k,rest,sig,n,hv,_,⟨c,r,e,hc⟩=>by
  simp[hexVal]at hv;subst hv e;cases k with
  |zero=>simp[iW]
  |succ k=>simp[iW,hc]
 |d :: h,k,rest,sig,n,hv,hl,hr=>by
  obtain⟨k',rfl⟩: ∃k',k=k'+1:=⟨k - 1,by simp at hl;omega⟩
  simp only[hexVal]at hv;cases hd:fC d with
  |none=>rw[hd]at hv;cases hv
  |some v=>
   rw[hd]at hv;simp only at hv
   have hp:Bh d=false:=by
    have h1:=Z9 hd;have h2:=zM hd;have h3:=aal ⟨v,h2⟩;rw[h1]at h3;simp[Bh,h3.1,h3.2]
   simp only[anr,iW,hp,afO,ahp];rw[ahU hd,aar h k' rest _ n hv (by simpa using hl) hr]
   simp
def TU: ∀(r:L) (k e:Nat),r.all aJ=true->r.length<=k->nX k r e=aX e r
 |[],0,e,_,_=>rfl
 |[],k+1,e,_,_=>rfl
 |c :: r,k,e,h,hl=>by
  obtain⟨k',rfl⟩: ∃k',k=k'+1:=⟨k - 1,by simp at hl;omega⟩
  simp only[anI,afx,kQ]at h;simp only[nX];rw[uh,TU r k' _ h.2 (by simpa using hl)]
  congr 1
  omega
def ahV {e:Int} (h1:e<=1023) (h2: -1074<=e): ∃c r,rF e=c :: r/\Bh c=true/\vw c (nX 4 r 0)=e/\1<=r.length:=by
 unfold rF;by_cases hn:e<0
 ·rw[aeu hn]
  obtain⟨n,hN⟩: ∃n:Nat,-e=n:=⟨(-e).toNat,by omega⟩
  rw[hN];obtain⟨hg,hv⟩:=Pe n;refine⟨109,_,rfl,rfl, ?_, ?_⟩
  ·rw[TU _ 4 0 hg.1 (Pg n (by omega)),hv]
   unfold vw;rw[aeu rfl];omega
  exact afB.2 (O9 hg)
 rw[aer hn];obtain⟨n,hN⟩: ∃n:Nat,e=n:=⟨e.toNat,by omega⟩
 subst hN;obtain⟨hg,hv⟩:=Pe n;refine⟨112,_,rfl,rfl, ?_, ?_⟩
 ·rw[TU _ 4 0 hg.1 (Pg n (by omega)),hv]
  unfold vw;rw[aer (by decide)]
 exact afB.2 (O9 hg)
def TV: ∀(h:L) (acc n:Nat),hexVal h 0=some n->hexVal h acc=some (acc*16 ^ h.length+n)
 |[],acc,n,hv=>by simp[hexVal]at hv;subst hv;simp[hexVal]
 |c :: r,acc,n,hv=>by
  simp only[hexVal]at hv⊢;cases hc:fC c with
  |none=>rw[hc]at hv;cases hv
  |some d=>
   rw[hc]at hv;simp only at hv⊢
   obtain⟨m,hm⟩: ∃m,hexVal r 0=some m:=by
    cases hr:hexVal r 0 with
    |some m=>exact⟨m,rfl⟩
    |none=>
     exfalso
     have key: ∀(r:L) (a b:Nat),hexVal r a=none->hexVal r b=none:=by
      intro r
      induction r with
      |nil=>intro a b h;simp[hexVal]at h
      |cons x r ih=>
       intro a b h;simp only[hexVal]at h⊢;cases hx:fC x with
       |none=>rfl
       |some y=>rw[hx]at h;exact ih _ _ h
     rw[key r 0 _ hr]at hv;cases hv
   rw[TV r (0*16+d) m hm]at hv;rw[TV r (acc*16+d) m hm];simp only[afs]at hv⊢;rw[ae7,af2]
   have e1:(acc*16+d)*16 ^ r.length=acc*(16 ^ r.length*16)+d*16 ^ r.length:=by
    rw[aqG,ahm,ahe 16]
   have e2:(0*16+d)*16 ^ r.length=d*16 ^ r.length:=by rw[aop,agO]
   rw[e1];rw[e2]at hv;rw[<-hv,anL]
def aas {sig j:Nat} {c:UInt8} {r:L}:Fq (sig,c :: r,j)=Du (qo 64 (sig*16 ^ j) (vw c (nX 4 r 0))):=rfl
def aat {f:Nat} {e:Int} (hf:f<4503599627370496) (h1:e<=1023) (h2: -1074<=e):Du (qo 64 (4503599627370496+f) e)=bitsOf f e:=by
 by_cases he: -1022<=e
 ·rw[TT (by omega)]
  unfold Du bitsOf;simp only;rw[aer (by omega),aeu he]
  omega
 obtain⟨d,hd⟩:=aj ((-1022 - e).toNat:Nat);have hp:2 ^ d<=2 ^ 52:=afT (by decide) (by omega)
 have hp1:2 ^ 1<=2 ^ d:=afT (by decide) (by omega)
 rw[aaq d 64 _ e (by omega) (by omega) (by omega)]
 unfold Du bitsOf;simp only
 have hs:(4503599627370496+f) / 2 ^ d<4503599627370496:=by
  rw[Nat.div_lt_iff_lt_mul (by omega)]
  have:4503599627370496*2<=4503599627370496*2 ^ d:=ag6 _ (by omega)
  omega
 rw[aeu (.inl hs),aer he,hd,ap1 hs]
def ahW {f:Nat} {e:Int} (hf:f<4503599627370496) (h1:e<=1023) (h2: -1074<=e):guess (form f e)=bitsOf f e:=by
 obtain⟨c,r,hx,hc,hs,hl⟩:=ahV h1 h2
 have hlen: ¬(form f e).length<5:=by
  unfold form;rw[aeo,aeo,hx];simp;omega
 unfold guess;rw[aer hlen];by_cases h0:f=0
 ·have e1:oV f=[]:=by unfold oV;rw[aeu h0]
  have e2:form f e=48 :: 120 :: 49 :: c :: r:=by unfold form;rw[e1,hx];rfl
  have hne: ¬(48 :: 120 :: 49 :: c :: r:L)[3]?=some 46:=by
   simp;intro h;subst h;cases hc
  rw[e2,aer hne]
  show Fq (iW 13 (c :: r) 1)=_
  have e3:iW 13 (c :: r) 1=(1,c :: r,13):=by simp[iW,hc]
  rw[e3,aas,hs,<-aat hf h1 h2,h0]
 obtain⟨j,t1,t2⟩:=KC _ (hexN 13 f) rfl;have e1:oV f=46 :: Lib.trimRightS (hexN 13 f) [48]:=by unfold oV;rw[aer h0]
 obtain⟨h,hh⟩:=aj (Lib.trimRightS (hexN 13 f) [48]);rw[hh]at t1 t2 e1;have hv:=O6 13 f 0 (by simpa using hf)
 have hlen:=KA 13 f;rw[t1,aeo,atA]at hlen;rw[t1,Iz]at hv;cases hm:hexVal h 0 with
 |none=>rw[hm]at hv;simp at hv
 |some m=>
  rw[hm]at hv;simp only[aoH,O8,afs,aop,agO]at hv;have e2:form f e=48 :: 120 :: 49 :: 46 ::(h++c :: r):=by unfold form;rw[e1,hx];rfl
  have anm:(48 :: 120 :: 49 :: 46 ::(h++c :: r):L)[3]?=some 46:=rfl;rw[e2,aeu anm]
  show Fq (iW 13 (h++c :: r) 1)=_
  have e5:(1*16 ^ h.length+m)*16 ^(13 - h.length)=4503599627370496+f:=by
   rw[show 13 - h.length=j by omega,aqG,hv,Nat.one_mul,<-aoN,show h.length+j=13 by omega]
  rw[aar h 13 (c :: r) 1 _ (TV h 1 m hm) (by omega) ⟨c,r,rfl,hc⟩,aas,hs,e5,aat hf h1 h2]
def Fv (t:L):Nat:=if t=ZERO then 0 else if t=xX then 9218868437227405312 else guess t
def Po (neg:Bool) (t s:L):Option Nat:=
 let b:=Fv t
 let x:=(if neg then 9223372036854775808 else 0)+b
 if b<=9218868437227405312/\fmt x=s then some x else none
def zN (s:L):Option Nat:=
 if s=um then some 9221120237041090560 else
 if s.head?=some 45 then Po true (s.drop 1) s else Po false s s
def aau {a:Nat} (h:a<=9218868437227405312):Fv (ku a)=a:=by
 unfold Fv ku;by_cases hi:a=9218868437227405312
 ·rw[aeu hi,aer (by decide),aeu rfl,hi]
 rw[aer hi];by_cases h0:a=0
 ·rw[aeu h0,aeu rfl,h0]
 rw[aer h0];obtain⟨p1,p2,p3,p4,p5⟩:=Ph h0 (by omega)
 obtain⟨_,_,q3,q4⟩:=Pm (oW a) (nV a);rw[aer q4,aer q3,ahW p1 p2 p3,p4]
def ahX (s:L):zN s=parse s:=by
 by_cases hn:s=um
 ·unfold zN parse;rw[aeu hn,aeu hn]
 cases hp:parse s with
 |none=>
  have hno: ∀x,x<18446744073709551616->fmt x≠s:=fun x hx e=>by
   rw[<-e,ahS hx]at hp;cases hp
  unfold zN Po;rw[aer hn]
  split
  ·simp only[anN]
   rw[aer];rintro⟨h1,h2⟩;exact hno _ (by omega) h2
  simp only[afO,ahp];rw[aer];rintro⟨h1,h2⟩;exact hno _ (by omega) h2
 |some b=>
  obtain⟨g1,g2,g3⟩:=TR hp;unfold parse at hp;rw[aer hn]at hp;unfold zN Po;rw[aer hn]
  split at hp
  ·rename_i hd
   rw[aeu hd];cases hq:kS (s.drop 1) with
   |none=>rw[hq]at hp;cases hp
   |some a=>
    rw[hq]at hp;simp only[afX,afs]at hp;obtain⟨r1,r2⟩:=Pn hq;have e:=aau r2;rw[<-r1]at e;simp only[anN];rw[e,aeu ⟨r2,by rw[hp];exact g1⟩,hp]
  rename_i hd;rw[aer hd];obtain⟨r1,r2⟩:=Pn hp;have e:=aau r2;rw[<-r1]at e;simp only[afO,ahp,agO];rw[e,aeu ⟨r2,g1⟩]
end Go.Proofs.YtdijgcnlbfgkdaaGreatDoor.Num
