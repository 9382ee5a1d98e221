/- Lemmas. -/
import Derived.Test.YtdijgcnlbfgkdaaGreatDoorUP05
import Derived.Deep.DeepCutAuto
import Derived.Deep.CutBlock
import Derived.Shelf.Lay
set_option maxHeartbeats 64000000
set_option maxRecDepth 1000000
set_option linter.all false
namespace Go.Proofs.YtdijgcnlbfgkdaaGreatDoor
open Go.RowKit Go.Proofs.Tryz
namespace Lex
def iL (c:UInt8):Bool:=c !=10
def IC (p:UInt8->Bool) (l:L):run p l=match l with|[]=>0|c :: r=>if p c=true then 1+run p r else 0:=by
 cases l with
 |nil=>rfl
 |cons c r=>
  simp only;cases h:p c with
  |true=>rw[Dx r h];rfl
  |false=>rw[Pq r h];rfl
def aaR: ∀l:L,gap true l=run iL l+gap false (l.drop (run iL l))
 |[]=>rfl
 |c :: r=>by
  by_cases h:c=10
  ·subst h
   have e1:run iL (10 :: r)=0:=Pq r (by decide)
   have e2:gap false (10 :: r)=1+gap false r:=by
    simp only[gap];rw[aer (by rintro⟨h,_⟩;exact absurd h (by decide)),aeu (by decide)]
   rw[e1,afW,e2]
   show 1+gap ((10:UInt8) !=10) r=_
   have e3:((10:UInt8) !=10)=false:=by decide
   rw[e3];omega
  have hp:iL c=true:=by unfold iL;rw[afd];exact h
  rw[Dx r hp,show 1+run iL r=run iL r+1 by omega,af9]
  show 1+gap (c !=10) r=_
  have e3:(c !=10)=true:=hp;rw[e3,aaR r];omega
def aiC {c:UInt8} (h:blank c=true):c≠47:=by
 intro e;subst e;exact absurd h (by decide)
def Uk: ∀l:L,gap false l=run blank l+gap false (l.drop (run blank l))
 |[]=>rfl
 |c :: r=>by
  cases h:blank c with
  |true=>
   rw[Dx r h,show 1+run blank r=run blank r+1 by omega,af9]
   simp only[gap];rw[aer (fun g=>aiC h g.1),aeu h,Uk r]
   omega
  |false=>
   rw[Pq r h,afW];omega
def aaS {p:UInt8->Bool}: ∀(l:L) {c:UInt8} {r:L},l.drop (run p l)=c :: r->p c=false
 |[],c,r,h=>by simp at h
 |d :: t,c,r,h=>by
  cases hd:p d with
  |true=>
   rw[Dx t hd,show 1+run p t=run p t+1 by omega,af9]at h
   exact aaS t h
  |false=>
   rw[Pq t hd,afW]at h;obtain⟨rfl,rfl⟩:=aq3 h;exact hd
def aaT (l:L):Lib.hasPrefix l [47,47]=true↔ ∃r,l=47 :: 47 :: r:=by
 unfold Lib.hasPrefix;rw[aos]
 constructor
 ·rintro⟨r,hr⟩;exact⟨r,hr.symm⟩
 rintro⟨r,hr⟩;exact⟨r,hr.symm⟩
def aiD {l:L} (h:Lib.hasPrefix (l.drop (run blank l)) [47,47]=false):gap false l=run blank l:=by
 rw[Uk l];obtain⟨l',hl⟩:=aj (l.drop (run blank l));rw[hl]at h⊢;cases l' with
 |nil=>rfl
 |cons c r=>
  have hc:=aaS l hl;simp only[gap];rw[aer,aer (by rw[hc];decide)]
  ·omega
  rintro⟨rfl,h2⟩;cases r with
  |nil=>simp at h2
  |cons d r=>
   simp at h2;subst h2;have:=(aaT (47 :: 47 :: r)).2 ⟨r,rfl⟩;rw[this]at h;cases h
def aiE {l l':L} (hl:l.drop (run blank l)=l') (h:Lib.hasPrefix l' [47,47]=true):
  gap false l=run blank l+run iL l'+gap false (l'.drop (run iL l'))/\2<=run iL l':=by
 obtain⟨r,rfl⟩:=(aaT l').1 h;rw[Uk l,hl]
 have e1:run iL (47 :: 47 :: r)=2+run iL r:=by
  rw[Dx _ (by decide),Dx _ (by decide)];omega
 refine⟨?_,by omega⟩
 have e2:gap false (47 :: 47 :: r)=1+gap true (47 :: r):=by
  simp only[gap];rw[aeu (by simp)]
 have e3:gap true (47 :: r)=1+gap true r:=rfl;rw[e2,e3,aaR r,e1,show 2+run iL r=run iL r+2 by omega]
 simp only[af9];omega
end Lex
def byte_le (c:UInt8):(c.toNat:Int)<=255:=by have:=an0 c;omega
def jm {s:ByteArray} {k:Nat} (h:k<s.size):s.data.toList.drop k=s[k] :: s.data.toList.drop (k+1):=by
 have h1:k<s.data.toList.length:=by rw[<-aof];exact h
 rw[afk h1];rfl
def sO {s:ByteArray} {k:Nat} (h:s.size<=k):s.data.toList.drop k=[]:=af8 (by rw[<-aof];exact h)
def Ul (c:UInt8) (w:World):
  Calls prog 135 #[.int .u8 c.toNat] w fun e w'=>e=.returned (.bool (Num.aJ c))/\w=w':=by
 have hb:=byte_le c;obtain⟨n,hn⟩:=aj c.toNat;obtain⟨v,hv⟩:=aj (Num.aJ c);rw[hv,hn];rw[hn]at hb;by_cases h47:n<=47
 ·have hr:v=false:=by
   rw[<-hv];simp[Num.aJ,hn];try omega
  subst hr;have t0:decide (48<=(n:Int))=false:=dF (by omega)
  have t1:decide ((n:Int)<=57)=true:=aei (by omega)
  clear hn hv h47;go_enter func135,ntmps135;go_wp2;go_ret;exact⟨rfl,rfl⟩
 by_cases h57:n<=57
 ·have hr:v=true:=by
   rw[<-hv];simp[Num.aJ,hn];try omega
  subst hr;have t0:decide (48<=(n:Int))=true:=aei (by omega)
  have t1:decide ((n:Int)<=57)=true:=aei (by omega)
  clear hn hv h47 h57;go_enter func135,ntmps135;go_wp2;go_ret;exact⟨rfl,rfl⟩
 have hr:v=false:=by
  rw[<-hv];simp[Num.aJ,hn];try omega
 subst hr;have t0:decide (48<=(n:Int))=true:=aei (by omega)
 have t1:decide ((n:Int)<=57)=false:=dF (by omega)
 clear hn hv h47 h57;go_enter func135,ntmps135;go_wp2;go_ret;exact⟨rfl,rfl⟩
def aaU (c:UInt8) (w:World):
  Calls prog 133 #[.int .u8 c.toNat] w fun e w'=>e=.returned (.bool (Lex.isLet c))/\w=w':=by
 have hb:=byte_le c;obtain⟨n,hn⟩:=aj c.toNat;obtain⟨v,hv⟩:=aj (Lex.isLet c);rw[hv,hn];rw[hn]at hb;by_cases h64:n<=64
 ·have hr:v=false:=by
   rw[<-hv];simp[Lex.isLet,hn];try omega
  subst hr;have t0:decide (97<=(n:Int))=false:=dF (by omega)
  have t1:decide ((n:Int)<=122)=true:=aei (by omega)
  have t2:decide (65<=(n:Int))=false:=dF (by omega)
  have t3:decide ((n:Int)<=90)=true:=aei (by omega)
  have t4:((n:Int) == 95)=false:=by rw[aek];omega
  clear hn hv h64;go_enter func133,ntmps133;go_wp2;go_ret;exact⟨rfl,rfl⟩
 by_cases vP:n<=90
 ·have hr:v=true:=by
   rw[<-hv];simp[Lex.isLet,hn];try omega
  subst hr;have t0:decide (97<=(n:Int))=false:=dF (by omega)
  have t1:decide ((n:Int)<=122)=true:=aei (by omega)
  have t2:decide (65<=(n:Int))=true:=aei (by omega)
  have t3:decide ((n:Int)<=90)=true:=aei (by omega)
  have t4:((n:Int) == 95)=false:=by rw[aek];omega
  clear hn hv h64 vP;go_enter func133,ntmps133;go_wp2;go_ret;exact⟨rfl,rfl⟩
 by_cases yE:n<=94
 ·have hr:v=false:=by
   rw[<-hv];simp[Lex.isLet,hn];try omega
  subst hr;have t0:decide (97<=(n:Int))=false:=dF (by omega)
  have t1:decide ((n:Int)<=122)=true:=aei (by omega)
  have t2:decide (65<=(n:Int))=true:=aei (by omega)
  have t3:decide ((n:Int)<=90)=false:=dF (by omega)
  have t4:((n:Int) == 95)=false:=by rw[aek];omega
  clear hn hv h64 vP yE;go_enter func133,ntmps133;go_wp2;go_ret;exact⟨rfl,rfl⟩
 by_cases h95:n<=95
 ·have hr:v=true:=by
   rw[<-hv];simp[Lex.isLet,hn];try omega
  subst hr;have t0:decide (97<=(n:Int))=false:=dF (by omega)
  have t1:decide ((n:Int)<=122)=true:=aei (by omega)
  have t2:decide (65<=(n:Int))=true:=aei (by omega)
  have t3:decide ((n:Int)<=90)=false:=dF (by omega)
  have t4:((n:Int) == 95)=true:=by rw[show(n:Int)=95 by omega];rfl
  clear hn hv h64 vP yE h95;go_enter func133,ntmps133;go_wp2;go_ret;exact⟨rfl,rfl⟩
 by_cases Gi:n<=96
 ·have hr:v=false:=by
   rw[<-hv];simp[Lex.isLet,hn];try omega
  subst hr;have t0:decide (97<=(n:Int))=false:=dF (by omega)
  have t1:decide ((n:Int)<=122)=true:=aei (by omega)
  have t2:decide (65<=(n:Int))=true:=aei (by omega)
  have t3:decide ((n:Int)<=90)=false:=dF (by omega)
  have t4:((n:Int) == 95)=false:=by rw[aek];omega
  clear hn hv h64 vP yE h95 Gi;go_enter func133,ntmps133;go_wp2;go_ret;exact⟨rfl,rfl⟩
 by_cases h122:n<=122
 ·have hr:v=true:=by
   rw[<-hv];simp[Lex.isLet,hn];try omega
  subst hr;have t0:decide (97<=(n:Int))=true:=aei (by omega)
  have t1:decide ((n:Int)<=122)=true:=aei (by omega)
  have t2:decide (65<=(n:Int))=true:=aei (by omega)
  have t3:decide ((n:Int)<=90)=false:=dF (by omega)
  have t4:((n:Int) == 95)=false:=by rw[aek];omega
  clear hn hv h64 vP yE h95 Gi h122;go_enter func133,ntmps133;go_wp2;go_ret;exact⟨rfl,rfl⟩
 have hr:v=false:=by
  rw[<-hv];simp[Lex.isLet,hn];try omega
 subst hr;have t0:decide (97<=(n:Int))=true:=aei (by omega)
 have t1:decide ((n:Int)<=122)=false:=dF (by omega)
 have t2:decide (65<=(n:Int))=true:=aei (by omega)
 have t3:decide ((n:Int)<=90)=false:=dF (by omega)
 have t4:((n:Int) == 95)=false:=by rw[aek];omega
 clear hn hv h64 vP yE h95 Gi h122;go_enter func133,ntmps133;go_wp2;go_ret;exact⟨rfl,rfl⟩
def aiF (c:UInt8) (w:World):
  Calls prog 130 #[.int .u8 c.toNat] w fun e w'=>e=.returned (.bool (Lex.blank c))/\w=w':=by
 have hb:=byte_le c;obtain⟨n,hn⟩:=aj c.toNat;obtain⟨v,hv⟩:=aj (Lex.blank c);rw[hv,hn];rw[hn]at hb;by_cases h8:n<=8
 ·have hr:v=false:=by
   rw[<-hv];simp[Lex.blank,<-afC,hn];try omega
  subst hr;have t0:((n:Int) == 32)=false:=by rw[aek];omega
  have t1:((n:Int) == 9)=false:=by rw[aek];omega
  have t2:((n:Int) == 13)=false:=by rw[aek];omega
  have t3:((n:Int) == 10)=false:=by rw[aek];omega
  clear hn hv h8;go_enter func130,ntmps130;go_wp2;go_ret;exact⟨rfl,rfl⟩
 by_cases h9:n<=9
 ·have hr:v=true:=by
   rw[<-hv];simp[Lex.blank,<-afC,hn];try omega
  subst hr;have t0:((n:Int) == 32)=false:=by rw[aek];omega
  have t1:((n:Int) == 9)=true:=by rw[show(n:Int)=9 by omega];rfl
  have t2:((n:Int) == 13)=false:=by rw[aek];omega
  have t3:((n:Int) == 10)=false:=by rw[aek];omega
  clear hn hv h8 h9;go_enter func130,ntmps130;go_wp2;go_ret;exact⟨rfl,rfl⟩
 by_cases h10:n<=10
 ·have hr:v=true:=by
   rw[<-hv];simp[Lex.blank,<-afC,hn];try omega
  subst hr;have t0:((n:Int) == 32)=false:=by rw[aek];omega
  have t1:((n:Int) == 9)=false:=by rw[aek];omega
  have t2:((n:Int) == 13)=false:=by rw[aek];omega
  have t3:((n:Int) == 10)=true:=by rw[show(n:Int)=10 by omega];rfl
  clear hn hv h8 h9 h10;go_enter func130,ntmps130;go_wp2;go_ret;exact⟨rfl,rfl⟩
 by_cases h12:n<=12
 ·have hr:v=false:=by
   rw[<-hv];simp[Lex.blank,<-afC,hn];try omega
  subst hr;have t0:((n:Int) == 32)=false:=by rw[aek];omega
  have t1:((n:Int) == 9)=false:=by rw[aek];omega
  have t2:((n:Int) == 13)=false:=by rw[aek];omega
  have t3:((n:Int) == 10)=false:=by rw[aek];omega
  clear hn hv h8 h9 h10 h12;go_enter func130,ntmps130;go_wp2;go_ret;exact⟨rfl,rfl⟩
 by_cases h13:n<=13
 ·have hr:v=true:=by
   rw[<-hv];simp[Lex.blank,<-afC,hn];try omega
  subst hr;have t0:((n:Int) == 32)=false:=by rw[aek];omega
  have t1:((n:Int) == 9)=false:=by rw[aek];omega
  have t2:((n:Int) == 13)=true:=by rw[show(n:Int)=13 by omega];rfl
  have t3:((n:Int) == 10)=false:=by rw[aek];omega
  clear hn hv h8 h9 h10 h12 h13;go_enter func130,ntmps130;go_wp2;go_ret;exact⟨rfl,rfl⟩
 by_cases h31:n<=31
 ·have hr:v=false:=by
   rw[<-hv];simp[Lex.blank,<-afC,hn];try omega
  subst hr;have t0:((n:Int) == 32)=false:=by rw[aek];omega
  have t1:((n:Int) == 9)=false:=by rw[aek];omega
  have t2:((n:Int) == 13)=false:=by rw[aek];omega
  have t3:((n:Int) == 10)=false:=by rw[aek];omega
  clear hn hv h8 h9 h10 h12 h13 h31;go_enter func130,ntmps130;go_wp2;go_ret;exact⟨rfl,rfl⟩
 by_cases h32:n<=32
 ·have hr:v=true:=by
   rw[<-hv];simp[Lex.blank,<-afC,hn];try omega
  subst hr;have t0:((n:Int) == 32)=true:=by rw[show(n:Int)=32 by omega];rfl
  have t1:((n:Int) == 9)=false:=by rw[aek];omega
  have t2:((n:Int) == 13)=false:=by rw[aek];omega
  have t3:((n:Int) == 10)=false:=by rw[aek];omega
  clear hn hv h8 h9 h10 h12 h13 h31 h32;go_enter func130,ntmps130;go_wp2;go_ret;exact⟨rfl,rfl⟩
 have hr:v=false:=by
  rw[<-hv];simp[Lex.blank,<-afC,hn];try omega
 subst hr;have t0:((n:Int) == 32)=false:=by rw[aek];omega
 have t1:((n:Int) == 9)=false:=by rw[aek];omega
 have t2:((n:Int) == 13)=false:=by rw[aek];omega
 have t3:((n:Int) == 10)=false:=by rw[aek];omega
 clear hn hv h8 h9 h10 h12 h13 h31 h32;go_enter func130,ntmps130;go_wp2;go_ret;exact⟨rfl,rfl⟩
def aiG (c:UInt8) (w:World):
  Calls prog 132 #[.int .u8 c.toNat] w fun e w'=>e=.returned (.bool (Lex.iL c))/\w=w':=by
 have hb:=byte_le c;obtain⟨n,hn⟩:=aj c.toNat;obtain⟨v,hv⟩:=aj (Lex.iL c);rw[hv,hn];rw[hn]at hb;by_cases h9:n<=9
 ·have hr:v=true:=by
   rw[<-hv];simp[Lex.iL,<-afC,hn];try omega
  subst hr;have t0:((n:Int) !=10)=true:=by rw[afd];omega
  clear hn hv h9;go_enter func132,ntmps132;go_wp2;go_ret;exact⟨rfl,rfl⟩
 by_cases h10:n<=10
 ·have hr:v=false:=by
   rw[<-hv];simp[Lex.iL,<-afC,hn];try omega
  subst hr;have t0:((n:Int) !=10)=false:=by rw[show(n:Int)=10 by omega];rfl
  clear hn hv h9 h10;go_enter func132,ntmps132;go_wp2;go_ret;exact⟨rfl,rfl⟩
 have hr:v=true:=by
  rw[<-hv];simp[Lex.iL,<-afC,hn];try omega
 subst hr;have t0:((n:Int) !=10)=true:=by rw[afd];omega
 clear hn hv h9 h10;go_enter func132,ntmps132;go_wp2;go_ret;exact⟨rfl,rfl⟩
def aaV (c:UInt8) (w:World):
  Calls prog 183 #[.int .u8 c.toNat] w fun e w'=>e=.returned (.bool (Lex.dh c))/\w=w':=by
 have h1:=fun(W:World)=>aaU c W
 have h2:=fun(W:World)=>Ul c W
 have hv:Lex.dh c=(Lex.isLet c || Num.aJ c):=rfl
 rw[hv];obtain⟨a,ha⟩:=aj (Lex.isLet c);obtain⟨b,hb⟩:=aj (Num.aJ c);rw[ha]at h1⊢;rw[hb]at h2⊢;have H1:=ah h1;have H2:=ah h2;clear h1 h2 ha hb hv;cases a with
 |true=>
  go_enter func183,ntmps183;go_wp2_with fail;refine iq7 (H1.out _) ?_;go_wp2;go_ret;exact⟨rfl,rfl⟩
 |false=>
  go_enter func183,ntmps183;go_wp2_with fail;refine iq7 (H1.out _) ?_;go_wp2_with fail;refine iq7 (H2.out _) ?_;go_wp2;go_ret;exact⟨by simp,rfl⟩
def aiH (c:UInt8) (w:World):
  Calls prog 184 #[.int .u8 c.toNat] w fun e w'=>e=.returned (.bool (Lex.iY c))/\w=w':=by
 have h1:=fun(W:World)=>aaV c W
 have hv:Lex.iY c=(Lex.dh c || c == 46):=rfl
 rw[hv];obtain⟨a,ha⟩:=aj (Lex.dh c);rw[ha]at h1⊢;have H1:=ah h1;clear h1 ha hv;cases a with
 |true=>
  go_enter func184,ntmps184;go_wp2_with fail;refine iq7 (H1.out _) ?_;go_wp2;go_ret;exact⟨rfl,rfl⟩
 |false=>
  have t1:((c.toNat:Int) == 46)=(c == 46):=by
   rw[afN,afc,afc,<-afC]
   show(c.toNat:Int)=46↔c.toNat=46
   omega
  go_enter func184,ntmps184;go_wp2_with fail;refine iq7 (H1.out _) ?_;go_wp2;go_ret;exact⟨by simp,rfl⟩
def aiI (s:ByteArray) (i:Nat) (w:World) (hs:s.size<=1073741824) (hi:i<=s.size):
  Calls prog 129 #[.string s,.int .i64 i,.func (.func 183) #[] #[]] w fun e w'=>e=.returned (.int .i64 ((i+Lex.run Lex.dh (s.data.toList.drop i):Nat):Int))/\w=w':=by
 obtain⟨R,hR⟩:=aj (i+Lex.run Lex.dh (s.data.toList.drop i));rw[hR];have HR:=ah hR;clear hR;go_enter func129,ntmps129;go_wp2_with fail
 go_loopg [1] (s.size - i) (fun g x wr=> ∃k:Nat,k+g=s.size/\k+Lex.run Lex.dh (s.data.toList.drop k)=R/\x=.int .i64 (k:Int)/\w=wr)
 case atStart=>exact⟨i,by omega,HR.out,rfl,rfl⟩
 obtain⟨k,hk,hr,rfl,rfl⟩:=hrel;have HK:=ah hk;have HRR:=ah hr;have ki:(k:Int)<=1073741824:=by omega
 clear hk hr;cases gk with
 |zero=>
  have hend:s.size<=k:=by have:=HK.out;omega
  have t1:decide (k<s.size)=false:=dF (by omega)
  have hv:R=k:=by
   have:=HRR.out;rw[sO hend]at this;exact this.symm
  have HV:=ah hv;clear hend hv;go_wp2;go_ret;exact⟨by rw[HV.out];rfl,rfl⟩
 |succ g=>
  have hlt:k<s.size:=by have:=HK.out;omega
  have yF:(k:Int)<s.size:=by omega
  have t1:decide (k<s.size)=true:=aei hlt;have hdrop:=jm hlt;have hst:=Lex.IC Lex.dh (s.data.toList.drop k);rw[hdrop]at hst;simp only at hst;rw[<-hdrop]at hst;have hc:=fun(W:World)=>aaV (s[k]'hlt) W
  obtain⟨v,hv⟩:=aj (Lex.dh (s[k]'hlt));rw[hv]at hst hc;have HC:=ah hc;cases v with
  |true=>
   have hn:k+1+Lex.run Lex.dh (s.data.toList.drop (k+1))=R:=by
    have:=HRR.out;rw[hst,aeu rfl]at this;omega
   have HN:=ah hn;clear hdrop hst hc hv hn;go_wp2_with fail;refine iq7 (HC.out _) ?_;go_wp2
   go_roundg g
   case measure=>omega
   exact⟨k+1,by have:=HK.out;omega,HN.out,int_eq' (by omega),rfl⟩
  |false=>
   have hn:R=k:=by
    have:=HRR.out;rw[hst,aer (by decide)]at this
    omega
   have HN:=ah hn;clear hdrop hst hc hv hn;go_wp2_with fail;refine iq7 (HC.out _) ?_;go_wp2;go_ret;exact⟨by rw[HN.out];rfl,rfl⟩
def aiJ (s:ByteArray) (i:Nat) (w:World) (hs:s.size<=1073741824) (hi:i<=s.size):
  Calls prog 129 #[.string s,.int .i64 i,.func (.func 184) #[] #[]] w fun e w'=>e=.returned (.int .i64 ((i+Lex.run Lex.iY (s.data.toList.drop i):Nat):Int))/\w=w':=by
 obtain⟨R,hR⟩:=aj (i+Lex.run Lex.iY (s.data.toList.drop i));rw[hR];have HR:=ah hR;clear hR;go_enter func129,ntmps129;go_wp2_with fail
 go_loopg [1] (s.size - i) (fun g x wr=> ∃k:Nat,k+g=s.size/\k+Lex.run Lex.iY (s.data.toList.drop k)=R/\x=.int .i64 (k:Int)/\w=wr)
 case atStart=>exact⟨i,by omega,HR.out,rfl,rfl⟩
 obtain⟨k,hk,hr,rfl,rfl⟩:=hrel;have HK:=ah hk;have HRR:=ah hr;have ki:(k:Int)<=1073741824:=by omega
 clear hk hr;cases gk with
 |zero=>
  have hend:s.size<=k:=by have:=HK.out;omega
  have t1:decide (k<s.size)=false:=dF (by omega)
  have hv:R=k:=by
   have:=HRR.out;rw[sO hend]at this;exact this.symm
  have HV:=ah hv;clear hend hv;go_wp2;go_ret;exact⟨by rw[HV.out];rfl,rfl⟩
 |succ g=>
  have hlt:k<s.size:=by have:=HK.out;omega
  have yF:(k:Int)<s.size:=by omega
  have t1:decide (k<s.size)=true:=aei hlt;have hdrop:=jm hlt;have hst:=Lex.IC Lex.iY (s.data.toList.drop k);rw[hdrop]at hst;simp only at hst;rw[<-hdrop]at hst;have hc:=fun(W:World)=>aiH (s[k]'hlt) W
  obtain⟨v,hv⟩:=aj (Lex.iY (s[k]'hlt));rw[hv]at hst hc;have HC:=ah hc;cases v with
  |true=>
   have hn:k+1+Lex.run Lex.iY (s.data.toList.drop (k+1))=R:=by
    have:=HRR.out;rw[hst,aeu rfl]at this;omega
   have HN:=ah hn;clear hdrop hst hc hv hn;go_wp2_with fail;refine iq7 (HC.out _) ?_;go_wp2
   go_roundg g
   case measure=>omega
   exact⟨k+1,by have:=HK.out;omega,HN.out,int_eq' (by omega),rfl⟩
  |false=>
   have hn:R=k:=by
    have:=HRR.out;rw[hst,aer (by decide)]at this
    omega
   have HN:=ah hn;clear hdrop hst hc hv hn;go_wp2_with fail;refine iq7 (HC.out _) ?_;go_wp2;go_ret;exact⟨by rw[HN.out];rfl,rfl⟩
def aiK (s:ByteArray) (i:Nat) (w:World) (hs:s.size<=1073741824) (hi:i<=s.size):
  Calls prog 129 #[.string s,.int .i64 i,.func (.func 130) #[] #[]] w fun e w'=>e=.returned (.int .i64 ((i+Lex.run Lex.blank (s.data.toList.drop i):Nat):Int))/\w=w':=by
 obtain⟨R,hR⟩:=aj (i+Lex.run Lex.blank (s.data.toList.drop i));rw[hR];have HR:=ah hR;clear hR;go_enter func129,ntmps129;go_wp2_with fail
 go_loopg [1] (s.size - i) (fun g x wr=> ∃k:Nat,k+g=s.size/\k+Lex.run Lex.blank (s.data.toList.drop k)=R/\x=.int .i64 (k:Int)/\w=wr)
 case atStart=>exact⟨i,by omega,HR.out,rfl,rfl⟩
 obtain⟨k,hk,hr,rfl,rfl⟩:=hrel;have HK:=ah hk;have HRR:=ah hr;have ki:(k:Int)<=1073741824:=by omega
 clear hk hr;cases gk with
 |zero=>
  have hend:s.size<=k:=by have:=HK.out;omega
  have t1:decide (k<s.size)=false:=dF (by omega)
  have hv:R=k:=by
   have:=HRR.out;rw[sO hend]at this;exact this.symm
  have HV:=ah hv;clear hend hv;go_wp2;go_ret;exact⟨by rw[HV.out];rfl,rfl⟩
 |succ g=>
  have hlt:k<s.size:=by have:=HK.out;omega
  have yF:(k:Int)<s.size:=by omega
  have t1:decide (k<s.size)=true:=aei hlt;have hdrop:=jm hlt;have hst:=Lex.IC Lex.blank (s.data.toList.drop k);rw[hdrop]at hst;simp only at hst;rw[<-hdrop]at hst;have hc:=fun(W:World)=>aiF (s[k]'hlt) W
  obtain⟨v,hv⟩:=aj (Lex.blank (s[k]'hlt));rw[hv]at hst hc;have HC:=ah hc;cases v with
  |true=>
   have hn:k+1+Lex.run Lex.blank (s.data.toList.drop (k+1))=R:=by
    have:=HRR.out;rw[hst,aeu rfl]at this;omega
   have HN:=ah hn;clear hdrop hst hc hv hn;go_wp2_with fail;refine iq7 (HC.out _) ?_;go_wp2
   go_roundg g
   case measure=>omega
   exact⟨k+1,by have:=HK.out;omega,HN.out,int_eq' (by omega),rfl⟩
  |false=>
   have hn:R=k:=by
    have:=HRR.out;rw[hst,aer (by decide)]at this
    omega
   have HN:=ah hn;clear hdrop hst hc hv hn;go_wp2_with fail;refine iq7 (HC.out _) ?_;go_wp2;go_ret;exact⟨by rw[HN.out];rfl,rfl⟩
def aiL (s:ByteArray) (i:Nat) (w:World) (hs:s.size<=1073741824) (hi:i<=s.size):
  Calls prog 129 #[.string s,.int .i64 i,.func (.func 132) #[] #[]] w fun e w'=>e=.returned (.int .i64 ((i+Lex.run Lex.iL (s.data.toList.drop i):Nat):Int))/\w=w':=by
 obtain⟨R,hR⟩:=aj (i+Lex.run Lex.iL (s.data.toList.drop i));rw[hR];have HR:=ah hR;clear hR;go_enter func129,ntmps129;go_wp2_with fail
 go_loopg [1] (s.size - i) (fun g x wr=> ∃k:Nat,k+g=s.size/\k+Lex.run Lex.iL (s.data.toList.drop k)=R/\x=.int .i64 (k:Int)/\w=wr)
 case atStart=>exact⟨i,by omega,HR.out,rfl,rfl⟩
 obtain⟨k,hk,hr,rfl,rfl⟩:=hrel;have HK:=ah hk;have HRR:=ah hr;have ki:(k:Int)<=1073741824:=by omega
 clear hk hr;cases gk with
 |zero=>
  have hend:s.size<=k:=by have:=HK.out;omega
  have t1:decide (k<s.size)=false:=dF (by omega)
  have hv:R=k:=by
   have:=HRR.out;rw[sO hend]at this;exact this.symm
  have HV:=ah hv;clear hend hv;go_wp2;go_ret;exact⟨by rw[HV.out];rfl,rfl⟩
 |succ g=>
  have hlt:k<s.size:=by have:=HK.out;omega
  have yF:(k:Int)<s.size:=by omega
  have t1:decide (k<s.size)=true:=aei hlt;have hdrop:=jm hlt;have hst:=Lex.IC Lex.iL (s.data.toList.drop k);rw[hdrop]at hst;simp only at hst;rw[<-hdrop]at hst;have hc:=fun(W:World)=>aiG (s[k]'hlt) W
  obtain⟨v,hv⟩:=aj (Lex.iL (s[k]'hlt));rw[hv]at hst hc;have HC:=ah hc;cases v with
  |true=>
   have hn:k+1+Lex.run Lex.iL (s.data.toList.drop (k+1))=R:=by
    have:=HRR.out;rw[hst,aeu rfl]at this;omega
   have HN:=ah hn;clear hdrop hst hc hv hn;go_wp2_with fail;refine iq7 (HC.out _) ?_;go_wp2
   go_roundg g
   case measure=>omega
   exact⟨k+1,by have:=HK.out;omega,HN.out,int_eq' (by omega),rfl⟩
  |false=>
   have hn:R=k:=by
    have:=HRR.out;rw[hst,aer (by decide)]at this
    omega
   have HN:=ah hn;clear hdrop hst hc hv hn;go_wp2_with fail;refine iq7 (HC.out _) ?_;go_wp2;go_ret;exact⟨by rw[HN.out];rfl,rfl⟩
def aiM (s:ByteArray) (i:Nat) (w:World) (hs:s.size<=1073741824) (hi:i<=s.size):
  Calls prog 84 #[.string s,.int .i64 i] w fun e w'=>e=.returned (.int .i64 ((i+Lex.gap false (s.data.toList.drop i):Nat):Int))/\w=w':=by
 obtain⟨R,hR⟩:=aj (i+Lex.gap false (s.data.toList.drop i));rw[hR];have HR:=ah hR;clear hR;go_enter func84,ntmps84;go_wp2_with fail
 go_loopg [1] (s.size - i) (fun g x wr=> ∃k:Nat,k<=s.size/\s.size<=k+g/\k+Lex.gap false (s.data.toList.drop k)=R/\x=.int .i64 (k:Int)/\w=wr)
 case atStart=>exact⟨i,hi,by omega,HR.out,rfl,rfl⟩
 obtain⟨k,hk,hkg,hr,rfl,rfl⟩:=hrel;have hb:=fun(W:World)=>aiK s k W hs hk
 have hrl:=Lex.Dw Lex.blank (s.data.toList.drop k);rw[ae1,<-aof]at hrl;obtain⟨m,hm⟩:=aj (k+Lex.run Lex.blank (s.data.toList.drop k));rw[hm]at hb;have hml:m<=s.size:=by omega
 obtain⟨l',hl'⟩:=aj (s.data.toList.drop m);have hdr:(s.data.toList.drop k).drop (Lex.run Lex.blank (s.data.toList.drop k))=l':=by rw[ahu,hm,hl']
 have hpf:=fun(W:World)=>(Tryz.strings_HasPrefix (s.extract m s.size) ⟨#[47,47]⟩ W).mono fun e w' (h:_/\w'=W)=>(⟨h.1,h.2.symm⟩:_/\W=w')
 have hex:(s.extract m s.size).data.toList=l':=by
  rw[aso,<-hl'];exact aeG (by rw[ae1,<-aof];exact aej _)
 have e2:(⟨#[47,47]⟩:ByteArray).data.toList=[47,47]:=rfl;rw[hex,e2]at hpf;have mi:(m:Int)<=1073741824:=by omega
 have ki:(k:Int)<=1073741824:=by omega
 obtain⟨v,hv⟩:=aj (Lib.hasPrefix l' [47,47]);rw[hv]at hpf;have HB:=ah hb;have jy:=ah hpf;cases v with
 |false=>
  have hres:R=m:=by
   rw[<-hr,Lex.aiD (by rw[hdr];exact hv)]
   exact hm
  have jQ:=ah hres;clear hb hpf hres hv hex hdr hl' hm hr hkg hrl;go_wp2_with fail;refine iq7 (HB.out _) ?_;go_wp2_with fail;refine iq7 (jy.out _) ?_;go_wp2;go_ret;exact⟨by rw[jQ.out];rfl,rfl⟩
 |true=>
  obtain⟨g1,g2⟩:=Lex.aiE hdr hv;have hn:=fun(W:World)=>aiL s m W hs hml
  have hnl:=Lex.Dw Lex.iL l';rw[<-hl',ae1,<-aof,hl']at hnl;rw[hl']at hn;obtain⟨q,hq⟩:=aj (m+Lex.run Lex.iL l');rw[hq]at hn;have Ej:q<=s.size:=by omega
  have hres:q+Lex.gap false (s.data.toList.drop q)=R:=by
   rw[<-hr,g1];have:l'.drop (Lex.run Lex.iL l')=s.data.toList.drop q:=by rw[<-hl',ahu,hl',hq]
   rw[this];omega
  have hgk:0<gk:=by omega
  have BP:s.size<=q+(gk - 1):=by omega
  have HN:=ah hn;have jQ:=ah hres;have qi:(q:Int)<=1073741824:=by omega
  clear hb hpf hres hv hex hdr hl' hm hr hkg hrl g1 g2 hn hnl hq;go_wp2_with fail;refine iq7 (HB.out _) ?_;go_wp2_with fail;refine iq7 (jy.out _) ?_;go_wp2_with fail;refine iq7 (HN.out _) ?_;go_wp2
  go_roundg (gk - 1)
  case measure=>omega
  exact⟨q,Ej,BP,jQ.out,rfl,rfl⟩
end Go.Proofs.YtdijgcnlbfgkdaaGreatDoor
namespace Go.Proofs
open Go.Shelf
def Tryz.PU:Go.Shelf.Ren:=⟨fun|166=>23|167=>127|240=>74|276=>119|169=>27|n=>n,fun|0=>0|3=>3|4=>4|5=>5|9=>9|20=>20|37=>76|70=>75|72=>78|75=>80|80=>86|164=>191|127=>146|n=>n,fun|n=>n⟩
def Tryz.bld166:Go.Proofs.Lays.n166 prog Tryz.PU:=by
 repeat' first|kernel_rfl|exact fun _=>rfl|constructor
def Tryz.bld167:Go.Proofs.Lays.n167 prog Tryz.PU:=by
 repeat' first|kernel_rfl|exact fun _=>rfl|constructor
def Tryz.bld169:Go.Proofs.Lays.n169 prog Tryz.PU:=by
 repeat' first|kernel_rfl|exact fun _=>rfl|constructor
def Tryz.Um:Builder.Extra prog Tryz.PU:={
 sizeBuilder:=by kernel_rfl
 liesBuilder:=by kernel_rfl
 t5:=asT
 a5:=isAgg5
 z5:=sizeOf5
 v5:=zeroValue5
 infoByte:=by kernel_rfl
 cellsByte:=by kernel_rfl
 sizeByte:=by kernel_rfl
 neB5:=by decide}
end Go.Proofs
namespace Go.Proofs.YtdijgcnlbfgkdaaGreatDoor
open Go.RowKit Go.Proofs.Tryz
def oG (B b:Nat) (l:List UInt8) (w:World):Prop:=Lib.IsBuilderF 78 5 B b (Lib.byteCells l) w
def oG.fresh (w:World):oG w.heap.size w.heap.size [] (w.alloc (.cells #[.pointer none,.slice none 0 0] 78)):=
 Lib.IsBuilderF.of (Lib.fresh_isBuilder _ _ w)
def aiN (s:ByteArray):Lib.strCells s=Lib.byteCells s.data.toList:=by
 rfl
def aaW (a b:List UInt8):Lib.byteCells (a++b)=Lib.byteCells a++Lib.byteCells b:=by
 simp[Lib.byteCells]
def aaX {T e B b g:Nat} {q:Value} {bs:List Value} {w w':World} (h:Lib.BuilderAtF T e B b q bs w) (hg:w.grownBy w' (some g)) (h1:b≠g) (h2: ∀v,w.ownsRowF B e 1 v bs.length bs->v.ownBlock≠some g):Lib.BuilderAtF T e B b q bs w':=by
 obtain⟨hB,v,hb,hown,hne⟩:=h;have hlt:b<w.heap.size:=(afb.1 hb).1;exact⟨hB,v,(hg.block b hlt (by simpa using h1)).trans hb,hown.kept hg (.inr (h2 v hown)),hne⟩
def oG.below {B b:Nat} {l:List UInt8} {w w':World} (h:oG B b l w) (hb:Below w.heap.size w w'):oG B b l w':=by
 have hg:w.grownBy w' (some w.heap.size):=⟨hb.os,hb.tape,hb.output,hb.size,fun i hi _=>hb.block i hi⟩
 have hlt: ∀{T e q bs},Lib.BuilderAtF T e B b q bs w->b≠w.heap.size:=fun h=>by
  obtain⟨_,v,hb,_⟩:=h;have:=(afb.1 hb).1;omega
 have key: ∀v,w.ownsRowF B 5 1 v (Lib.byteCells l).length (Lib.byteCells l)->v.ownBlock≠some w.heap.size:=fun v hv e=>by have:=(hv.lt _ e).2;omega
 exact h.imp (fun x=>aaX x hg (hlt x) key) (fun x=>aaX x hg (hlt x) key)
def grownBy_set (w:World) (p:Addr) (v:Value):w.grownBy (w.setCell p v) (some p.block):=
 ⟨rfl,rfl,rfl,by simp[World.setCell],fun k _ hne=>asP w p v k (fun e=>hne (by rw[e]))⟩
def aaY (B b:Nat) (l:List UInt8) (c:Int) (w:World) (h:oG B b l w) (h0:0<=c) (h1:c<256) (hlen:l.length<1073741824) (hB:B<=w.heap.size):
  Calls prog 127 #[.pointer (some ⟨b,0,none⟩),.int .u8 c] w fun e w'=>e=.returned .nilIface/\oG B b (l++[c.toNat.toUInt8]) w'/\Below B w w'/\Lib.OthersKept 5 (some b) w w':=by
 refine(Any.Builder_WriteByte_k Tryz.bld167 Tryz.Um B b _ c w h (by rw[Lib.byteCells_length];omega) hB).mono fun e w' ⟨he,hb,h2,h3⟩=>⟨he, ?_,h2,h3⟩
 unfold oG;rw[aaW]
 have e:Lib.byteCells [c.toNat.toUInt8]=[.int .u8 c]:=by
  have:c.toNat % 256=c.toNat:=ap1 (by omega)
  simp[Lib.byteCells,this,Int.toNat_of_nonneg h0]
 rw[e];exact .inr hb
def KG (B b:Nat) (l:List UInt8) (s:ByteArray) (w:World) (h:oG B b l w) (hs:s.size<1073741824) (hlen:l.length<1073741824) (hB:B<=w.heap.size):
  Calls prog 23 #[.pointer (some ⟨b,0,none⟩),.string s] w fun e w'=>e=.returned (.tuple #[.int .i64 s.size,.nilIface])/\oG B b (l++s.data.toList) w'/\Below B w w'/\Lib.OthersKept 5 (some b) w w':=by
 refine(Any.Builder_WriteString_k Tryz.bld166 Tryz.Um B b _ s w h (by rw[Lib.byteCells_length];omega) hB).mono fun e w' ⟨he,hb,h2,h3⟩=>⟨he, ?_,h2,h3⟩
 unfold oG;rw[aaW,<-aiN];exact .inr hb
def aaZ (B b:Nat) (l:List UInt8) (w:World) (h:oG B b l w) (hB:B<=w.heap.size):
  Calls prog 27 #[.pointer (some ⟨b,0,none⟩)] w fun e w'=>e=.returned (.string ⟨l.toArray⟩)/\oG B b l w'/\Below B w w'/\Lib.OthersKept 5 (some b) w w':=
 Any.Builder_String_any_k Tryz.bld169 Tryz.Um B b l w h hB
def Bl (r:Option (UInt8×Nat)) (w:World) (e:Ending) (w':World):Prop:=
 Below w.heap.size w w'/\match r with
  |some (x,n)=>e=.returned (.tuple #[.int .u8 x.toNat,.int .i64 n,.bool true])
  |none=> ∃c n:Int,e=.returned (.tuple #[.int .u8 c,.int .i64 n,.bool false])
def sZ {P:Program} {fn:Func} {R:Ending->World->Prop} {tmps:Array Value} {W:World} {a b c:Tmp} (h:fn.results= #[.tmp a,.tmp b,.tmp c]) (hR:R (.returned (.tuple #[tmps.getD a undef,tmps.getD b undef,tmps.getD c undef])) W):
  bodyPost P fn R .ret {tmps:=tmps,defers:=[]} W:=
 arW (v:=.tuple #[tmps.getD a undef,tmps.getD b undef,tmps.getD c undef]) (by simp[results,h,go_sem]) rfl hR
def byte_back (c:UInt8):((c.toNat:Int)).toNat.toUInt8=c:=by simp
def vF (a:Option Nat):Int:=match a with|some d=>(d:Int)|none=> -1
def aiO: ∀c:Fin 256,Lib.indexByte [48,49,50,51,52,53,54,55,56,57,97,98,99,100,101,102] (UInt8.ofNat c.val)=vF (Num.fC (UInt8.ofNat c.val)):=by decide+kernel
def aa0 (c:UInt8):Lib.indexByte [48,49,50,51,52,53,54,55,56,57,97,98,99,100,101,102] c=vF (Num.fC c):=by
 have:=aiO ⟨c.toNat,an0 c⟩
 simpa using this
def aiP: ∀c:Fin 256,∀d∈Num.fC (UInt8.ofNat c.val),d<16:=by decide+kernel
def zM {c:UInt8} {d:Nat} (h:Num.fC c=some d):d<16:=
 aiP ⟨c.toNat,an0 c⟩ d (by simpa using h)
def bq {c:UInt8} {k:UInt8} {n:Int} (hn:(k.toNat:Int)=n) {b:Bool} (h:(c == k)=b):((c.toNat:Int) == n)=b:=by
 rw[<-h,<-hn,afN,afc,afc,<-afC];omega
def aiQ {s:ByteArray} {k:Nat} (h:k<s.size):s.data.toList[k]?=some (s[k]'h):=by
 have h1:k<s.data.toList.length:=by rw[<-aof];exact h
 rw[aen h1];rfl
def aiR (s:ByteArray) (w:World) (hs:s.size<=1073741824):
  Calls prog 187 #[.string s] w (Bl (Lex.esc s.data.toList) w):=by
 have hlen:=aof s
 rcases afY s.size with h0|hpos
 ·have hl:s.data.toList=[]:=aeI (by omega)
  have hsn:s.toList.isEmpty=true:=by rw[aod,hl];rfl
  rw[hl];have HE:Bl (Lex.esc []) w (.returned (.tuple #[.int .u8 0,.int .i64 0,.bool false])) w:=⟨aoa _ _,0,0,rfl⟩;have HH:=ah HE;clear HE hl hlen;go_enter func187,ntmps187;go_wp2;refine sZ rfl ?_;exact HH.out
 have hl:s.data.toList=s[0]'hpos :: s.data.toList.drop 1:=by have:=jm hpos;rwa [afW]at this
 have hsn:s.toList.isEmpty=false:=by rw[aod,hl];rfl
 have hp:(0:Int)<s.size:=by omega
 by_cases eX:s[0]'hpos=92
 ·have Gj:((((s[0]'hpos).toNat:Nat):Int) == 92)=true:=bq (k:=92) rfl (by rw[eX];decide)
  have t39:((((s[0]'hpos).toNat:Nat):Int) == 39)=false:=bq (k:=39) rfl (by rw[eX];decide)
  have Jg:((((s[0]'hpos).toNat:Nat):Int) == 110)=false:=bq (k:=110) rfl (by rw[eX];decide)
  have Jh:((((s[0]'hpos).toNat:Nat):Int) == 114)=false:=bq (k:=114) rfl (by rw[eX];decide)
  have t116:((((s[0]'hpos).toNat:Nat):Int) == 116)=false:=bq (k:=116) rfl (by rw[eX];decide)
  have Ji:((((s[0]'hpos).toNat:Nat):Int) == 120)=false:=bq (k:=120) rfl (by rw[eX];decide)
  have he:Lex.esc s.data.toList=some (92,1):=by rw[hl,eX];rfl
  rw[he];have HE:Bl (some (92,1)) w (.returned (.tuple #[.int .u8 (s[0]'hpos).toNat,.int .i64 1,.bool true])) w:=⟨aoa _ _,by first|rfl|(simp only[eX];rfl)⟩
  have HH:=ah HE;clear HE he hl hlen eX;go_enter func187,ntmps187;go_wp2;refine sZ rfl ?_;exact HH.out
 by_cases bQ:s[0]'hpos=39
 ·have Gj:((((s[0]'hpos).toNat:Nat):Int) == 92)=false:=bq (k:=92) rfl (by rw[bQ];decide)
  have t39:((((s[0]'hpos).toNat:Nat):Int) == 39)=true:=bq (k:=39) rfl (by rw[bQ];decide)
  have Jg:((((s[0]'hpos).toNat:Nat):Int) == 110)=false:=bq (k:=110) rfl (by rw[bQ];decide)
  have Jh:((((s[0]'hpos).toNat:Nat):Int) == 114)=false:=bq (k:=114) rfl (by rw[bQ];decide)
  have t116:((((s[0]'hpos).toNat:Nat):Int) == 116)=false:=bq (k:=116) rfl (by rw[bQ];decide)
  have Ji:((((s[0]'hpos).toNat:Nat):Int) == 120)=false:=bq (k:=120) rfl (by rw[bQ];decide)
  have he:Lex.esc s.data.toList=some (39,1):=by rw[hl,bQ];rfl
  rw[he];have HE:Bl (some (39,1)) w (.returned (.tuple #[.int .u8 (s[0]'hpos).toNat,.int .i64 1,.bool true])) w:=⟨aoa _ _,by first|rfl|(simp only[bQ];rfl)⟩
  have HH:=ah HE;clear HE he hl hlen eX bQ;go_enter func187,ntmps187;go_wp2;refine sZ rfl ?_;exact HH.out
 by_cases jR:s[0]'hpos=110
 ·have Gj:((((s[0]'hpos).toNat:Nat):Int) == 92)=false:=bq (k:=92) rfl (by rw[jR];decide)
  have t39:((((s[0]'hpos).toNat:Nat):Int) == 39)=false:=bq (k:=39) rfl (by rw[jR];decide)
  have Jg:((((s[0]'hpos).toNat:Nat):Int) == 110)=true:=bq (k:=110) rfl (by rw[jR];decide)
  have Jh:((((s[0]'hpos).toNat:Nat):Int) == 114)=false:=bq (k:=114) rfl (by rw[jR];decide)
  have t116:((((s[0]'hpos).toNat:Nat):Int) == 116)=false:=bq (k:=116) rfl (by rw[jR];decide)
  have Ji:((((s[0]'hpos).toNat:Nat):Int) == 120)=false:=bq (k:=120) rfl (by rw[jR];decide)
  have he:Lex.esc s.data.toList=some (10,1):=by rw[hl,jR];rfl
  rw[he];have HE:Bl (some (10,1)) w (.returned (.tuple #[.int .u8 10,.int .i64 1,.bool true])) w:=⟨aoa _ _,by first|rfl|(simp only[jR];rfl)⟩
  have HH:=ah HE;clear HE he hl hlen eX bQ jR;go_enter func187,ntmps187;go_wp2;refine sZ rfl ?_;exact HH.out
 by_cases kZ:s[0]'hpos=114
 ·have Gj:((((s[0]'hpos).toNat:Nat):Int) == 92)=false:=bq (k:=92) rfl (by rw[kZ];decide)
  have t39:((((s[0]'hpos).toNat:Nat):Int) == 39)=false:=bq (k:=39) rfl (by rw[kZ];decide)
  have Jg:((((s[0]'hpos).toNat:Nat):Int) == 110)=false:=bq (k:=110) rfl (by rw[kZ];decide)
  have Jh:((((s[0]'hpos).toNat:Nat):Int) == 114)=true:=bq (k:=114) rfl (by rw[kZ];decide)
  have t116:((((s[0]'hpos).toNat:Nat):Int) == 116)=false:=bq (k:=116) rfl (by rw[kZ];decide)
  have Ji:((((s[0]'hpos).toNat:Nat):Int) == 120)=false:=bq (k:=120) rfl (by rw[kZ];decide)
  have he:Lex.esc s.data.toList=some (13,1):=by rw[hl,kZ];rfl
  rw[he];have HE:Bl (some (13,1)) w (.returned (.tuple #[.int .u8 13,.int .i64 1,.bool true])) w:=⟨aoa _ _,by first|rfl|(simp only[kZ];rfl)⟩
  have HH:=ah HE;clear HE he hl hlen eX bQ jR kZ;go_enter func187,ntmps187;go_wp2;refine sZ rfl ?_;exact HH.out
 by_cases h116:s[0]'hpos=116
 ·have Gj:((((s[0]'hpos).toNat:Nat):Int) == 92)=false:=bq (k:=92) rfl (by rw[h116];decide)
  have t39:((((s[0]'hpos).toNat:Nat):Int) == 39)=false:=bq (k:=39) rfl (by rw[h116];decide)
  have Jg:((((s[0]'hpos).toNat:Nat):Int) == 110)=false:=bq (k:=110) rfl (by rw[h116];decide)
  have Jh:((((s[0]'hpos).toNat:Nat):Int) == 114)=false:=bq (k:=114) rfl (by rw[h116];decide)
  have t116:((((s[0]'hpos).toNat:Nat):Int) == 116)=true:=bq (k:=116) rfl (by rw[h116];decide)
  have Ji:((((s[0]'hpos).toNat:Nat):Int) == 120)=false:=bq (k:=120) rfl (by rw[h116];decide)
  have he:Lex.esc s.data.toList=some (9,1):=by rw[hl,h116];rfl
  rw[he];have HE:Bl (some (9,1)) w (.returned (.tuple #[.int .u8 9,.int .i64 1,.bool true])) w:=⟨aoa _ _,by first|rfl|(simp only[h116];rfl)⟩
  have HH:=ah HE;clear HE he hl hlen eX bQ jR kZ h116;go_enter func187,ntmps187;go_wp2;refine sZ rfl ?_;exact HH.out
 by_cases pU:s[0]'hpos=120
 ·have Gj:((((s[0]'hpos).toNat:Nat):Int) == 92)=false:=bq (k:=92) rfl (by rw[pU];decide)
  have t39:((((s[0]'hpos).toNat:Nat):Int) == 39)=false:=bq (k:=39) rfl (by rw[pU];decide)
  have Jg:((((s[0]'hpos).toNat:Nat):Int) == 110)=false:=bq (k:=110) rfl (by rw[pU];decide)
  have Jh:((((s[0]'hpos).toNat:Nat):Int) == 114)=false:=bq (k:=114) rfl (by rw[pU];decide)
  have t116:((((s[0]'hpos).toNat:Nat):Int) == 116)=false:=bq (k:=116) rfl (by rw[pU];decide)
  have Ji:((((s[0]'hpos).toNat:Nat):Int) == 120)=true:=bq (k:=120) rfl (by rw[pU];decide)
  by_cases h3:s.size<3
  ·have he:Lex.esc s.data.toList=none:=by
    rw[hl,pU];obtain⟨r,hr⟩:=aj (s.data.toList.drop 1);have hrl:r.length<2:=by rw[<-hr,ae1];omega
    rw[hr]
    match r,hrl with
    |[],_=>rfl
    |[a],_=>rfl
   rw[he];have HE:Bl none w (.returned (.tuple #[.int .u8 0,.int .i64 0,.bool false])) w:=⟨aoa _ _,0,0,rfl⟩;have HH:=ah HE;have hd3:decide (s.size<3)=true:=aei h3;have anC:decide ((s.size:Int)<3)=true:=aei (by omega)
   clear HE he hl hlen eX bQ jR kZ h116 pU;go_enter func187,ntmps187;go_wp2;refine sZ rfl ?_;exact HH.out
  have q1:1<s.size:=by omega
  have q2:2<s.size:=by omega
  have i1:(1:Int)<s.size:=by omega
  have i2:(2:Int)<s.size:=by omega
  have he:Lex.esc s.data.toList=match Num.fC (s[1]'q1),Num.fC (s[2]'q2) with
    |some x,some y=>some (UInt8.ofNat (x*16+y),3)
    |_,_=>none:=by
   rw[hl,pU,jm q1,jm q2];rfl
  rw[he];have hd3:decide (s.size<3)=false:=dF h3;have anC:decide ((s.size:Int)<3)=false:=dF (by omega)
  obtain⟨a,ha⟩:=aj (Num.fC (s[1]'q1));obtain⟨b,hb⟩:=aj (Num.fC (s[2]'q2));have ca:=aa0 (s[1]'q1);have cb:=aa0 (s[2]'q2);rw[ha]at ca;rw[hb]at cb
  have hi1: ∀wx:World,Calls prog 228 #[.string ⟨#[48,49,50,51,52,53,54,55,56,57,97,98,99,100,101,102]⟩,.int .u8 ((s[1]'q1).toNat:Int)] wx fun e w'=>e=.returned (.int .i64 (vF a))/\w'=wx:=fun wx=>
   (Tryz.strings_IndexByte _ _ wx).mono fun e w' ⟨he,hw⟩=>⟨by rw[he];exact aaI (int_eq (by rw[byte_back];exact ca)),hw⟩
  have hi2: ∀wx:World,Calls prog 228 #[.string ⟨#[48,49,50,51,52,53,54,55,56,57,97,98,99,100,101,102]⟩,.int .u8 ((s[2]'q2).toNat:Int)] wx fun e w'=>e=.returned (.int .i64 (vF b))/\w'=wx:=fun wx=>
   (Tryz.strings_IndexByte _ _ wx).mono fun e w' ⟨he,hw⟩=>⟨by rw[he];exact aaI (int_eq (by rw[byte_back];exact cb)),hw⟩
  have HI1:=ah hi1;have HI2:=ah hi2;have la: ∀d,a=some d->d<16:=fun d h=>zM (ha.trans h)
  have lb: ∀d,b=some d->d<16:=fun d h=>zM (hb.trans h)
  have LA:=ah la;have LB:=ah lb;rw[ha,hb];clear hi1 hi2 he hl hlen ha hb ca cb la lb eX bQ jR kZ h116 pU;cases a with
  |none=>
   have ea:vF none= -1:=rfl;rw[ea]at HI1;cases b with
   |none=>
    have eb:vF none= -1:=rfl;rw[eb]at HI2;go_enter func187,ntmps187;go_wp2
    go_quiet ((go_at_call 228;first|exact ash (HI1.out _)|exact ash (HI2.out _)|exact xY (HI1.out _)|exact xY (HI2.out _)))
    go_wp2;refine sZ rfl ?_;exact⟨below_drewN (aoa _ _) _,_,_,rfl⟩
   |some y=>
    have hy:=LB.out y rfl;have eb:vF (some y)=(y:Int):=rfl;rw[eb]at HI2;clear LA LB;go_enter func187,ntmps187;go_wp2
    go_quiet ((go_at_call 228;first|exact ash (HI1.out _)|exact ash (HI2.out _)|exact xY (HI1.out _)|exact xY (HI2.out _)))
    go_wp2;refine sZ rfl ?_;exact⟨below_drewN (aoa _ _) _,_,_,rfl⟩
  |some x=>
   have hx:=LA.out x rfl;have ea:vF (some x)=(x:Int):=rfl;rw[ea]at HI1;cases b with
   |none=>
    have eb:vF none= -1:=rfl;rw[eb]at HI2;clear LA LB;go_enter func187,ntmps187;go_wp2
    go_quiet ((go_at_call 228;first|exact ash (HI1.out _)|exact ash (HI2.out _)|exact xY (HI1.out _)|exact xY (HI2.out _)))
    go_wp2;refine sZ rfl ?_;exact⟨below_drewN (aoa _ _) _,_,_,rfl⟩
   |some y=>
    have hy:=LB.out y rfl;have eb:vF (some y)=(y:Int):=rfl;rw[eb]at HI2
    have ev:((UInt8.ofNat (x*16+y)).toNat:Int)=16*x+y:=by
     rw[UInt8.toNat_ofNat',ap1 (by omega)]
     omega
    have HV:=ah ev;clear LA LB ev;go_enter func187,ntmps187;go_wp2
    go_quiet ((go_at_call 228;first|exact ash (HI1.out _)|exact ash (HI2.out _)|exact xY (HI1.out _)|exact xY (HI2.out _)))
    go_wp2;refine sZ rfl ?_;refine⟨below_drewN (aoa _ _) _, ?_⟩
    show _=Ending.returned (.tuple #[.int .u8 ((UInt8.ofNat (x*16+y)).toNat:Int),_,_])
    rw[HV.out];rfl
 have Gj:((((s[0]'hpos).toNat:Nat):Int) == 92)=false:=bq (k:=92) rfl (aek.2 eX);have t39:((((s[0]'hpos).toNat:Nat):Int) == 39)=false:=bq (k:=39) rfl (aek.2 bQ);have Jg:((((s[0]'hpos).toNat:Nat):Int) == 110)=false:=bq (k:=110) rfl (aek.2 jR);have Jh:((((s[0]'hpos).toNat:Nat):Int) == 114)=false:=bq (k:=114) rfl (aek.2 kZ);have t116:((((s[0]'hpos).toNat:Nat):Int) == 116)=false:=bq (k:=116) rfl (aek.2 h116);have Ji:((((s[0]'hpos).toNat:Nat):Int) == 120)=false:=bq (k:=120) rfl (aek.2 pU)
 have he:Lex.esc s.data.toList=none:=by
  rw[hl];simp only[Lex.esc];rw[aer (fun h=>h.elim eX bQ),aer jR,aer kZ,aer h116,aer pU]
 rw[he];have HE:Bl none w (.returned (.tuple #[.int .u8 0,.int .i64 0,.bool false])) w:=⟨aoa _ _,0,0,rfl⟩;have HH:=ah HE;clear HE he hl hlen eX bQ jR kZ h116 pU;go_enter func187,ntmps187;go_wp2;refine sZ rfl ?_;exact HH.out
def aiS (s:ByteArray) (w:World) (hs:s.size<=1073741824) (hL:Laid w):
  Calls prog 186 #[.string s] w (iE (Num.parse s.data.toList) w):=by
 by_cases hn:s.data.toList=Num.um
 ·have t1:(s.toList ==[48,120,110,97,110])=true:=by rw[aod,hn];rfl
  have hp:Num.parse s.data.toList=some 9221120237041090560:=by unfold Num.parse;rw[aeu hn]
  rw[hp];clear hp hn hL;go_enter func186,ntmps186;go_wp2
  go_ret2
  exact⟨rfl,aoa _ _⟩
 by_cases hh:s.data.toList.head?=some 45
 ·exact anx s w hs hL hn hh
 exact anB s w hs hL hn hh
def kC:Lex.iG->Nat->Value
 |.tok kd tx nm n,i=> .agg #[.int .i64 (kd:Int),.string ⟨tx.toArray⟩,.int .i64 nm,.int .i64 (i:Int),.int .i64 ((i+n:Nat):Int),.int .i64 0]
 |.err o e,i=> .agg #[.int .i64 0,.string ⟨#[]⟩,.int .i64 0,.int .i64 ((i+o:Nat):Int),.int .i64 0,.int .i64 (e:Int)]
def xZ (r:Lex.iG) (i:Nat) (w:World) (e:Ending) (w':World):Prop:=e=.returned (kC r i)/\Below w.heap.size w w'
def PX {fn:Func} {R:Ending->World->Prop} {tmps:Array Value} {W:World} {b:Nat} {v0 v1 v2 v3 v4 v5:Value} (hfn:fn.results= #[.cell 4 156])
  (ht:tmps.getD 4 undef=.pointer (some ⟨b,0,none⟩)) (hB:ak W b 156 #[v0,v1,v2,v3,v4,v5]) (hR:R (.returned (.agg #[v0,v1,v2,v3,v4,v5])) W):
  bodyPost prog fn R .ret {tmps:=tmps,defers:=[]} W:=by
 have c0:=hB.cell 0;have c1:=hB.cell 1;have c2:=hB.cell 2;have c3:=hB.cell 3;have c4:=hB.cell 4;have c5:=hB.cell 5;simp at c0 c1 c2 c3 c4 c5;refine arW (v:=.agg #[v0,v1,v2,v3,v4,v5]) ?_ rfl hR;simp at ht;simp[results,hfn,go_sem,ht,c0,c1,c2,c3,c4,c5]
def ak.cast {W:World} {g:Nat} {T:TypeId} {cs cs':Array Value} (h:ak W g T cs) (e:cs=cs'):ak W g T cs':=e▸h
def IE (i e0:Int) (w:World):
  Calls prog 139 #[.int .i64 i,.int .i64 e0] w fun e w'=>e=.returned (.agg #[.int .i64 0,.string ⟨#[]⟩,.int .i64 0,.int .i64 i,.int .i64 0,.int .i64 e0])/\Below w.heap.size w w':=by
 go_enter func139,ntmps139;go_wp2;exact arW (v:=.agg #[.int .i64 0,.string ⟨#[]⟩,.int .i64 0,.int .i64 i,.int .i64 0,.int .i64 e0]) (by simp[results,results139,go_sem]) rfl ⟨rfl,(aoa _ _).alloc (aej _) _⟩
def kU {W:World} {b:Nat} {v0 v1 v2 v3 v4 v5:Value} (h:ak W b 156 #[v0,v1,v2,v3,v4,v5]):
  W.cell? ⟨b,0,none⟩=some v0/\W.cell? ⟨b,1,none⟩=some v1/\W.cell? ⟨b,2,none⟩=some v2/\W.cell? ⟨b,3,none⟩=some v3/\W.cell? ⟨b,4,none⟩=some v4/\W.cell? ⟨b,5,none⟩=some v5/\
  W.frozen? ⟨b,0,none⟩=false/\W.frozen? ⟨b,1,none⟩=false/\W.frozen? ⟨b,2,none⟩=false/\W.frozen? ⟨b,3,none⟩=false/\W.frozen? ⟨b,4,none⟩=false/\W.frozen? ⟨b,5,none⟩=false:=
 ⟨h.cell 0,h.cell 1,h.cell 2,h.cell 3,h.cell 4,h.cell 5,h.frozen 0,h.frozen 1,h.frozen 2,h.frozen 3,h.frozen 4,h.frozen 5⟩
def uq {fn:Func} {r:Lex.iG} {i:Nat} {w W:World} {tmps:Array Value} {u0 u1 u2 u3 u4 u5 v0 v1 v2 v3 v4 v5:Value} (hfn:fn.results= #[.cell 4 156])
  (ht:tmps.getD 4 undef=.pointer (some ⟨w.heap.size,0,none⟩)) (hB:ak W w.heap.size 156 #[u0,u1,u2,u3,u4,u5]) (hb:Below w.heap.size w W) (hv:kC r i=.agg #[v0,v1,v2,v3,v4,v5]):
  bodyPost prog fn (xZ r i w) .ret {tmps:=tmps,defers:=[]} ((((((W.setCell ⟨w.heap.size,0,none⟩ v0).setCell ⟨w.heap.size,1,none⟩ v1).setCell ⟨w.heap.size,2,none⟩ v2).setCell ⟨w.heap.size,3,none⟩ v3).setCell ⟨w.heap.size,4,none⟩ v4).setCell ⟨w.heap.size,5,none⟩ v5):=by
 have hb0:Below w.heap.size w (W.setCell ⟨w.heap.size,0,none⟩ v0):=hb.setCell (aej _) _;have hb1:=hb0.setCell (p:=⟨w.heap.size,1,none⟩) (aej _) v1;have hb2:=hb1.setCell (p:=⟨w.heap.size,2,none⟩) (aej _) v2;have hb3:=hb2.setCell (p:=⟨w.heap.size,3,none⟩) (aej _) v3;have hb4:=hb3.setCell (p:=⟨w.heap.size,4,none⟩) (aej _) v4;have hb5:=hb4.setCell (p:=⟨w.heap.size,5,none⟩) (aej _) v5;refine PX (b:=w.heap.size) (v0:=v0) (v1:=v1) (v2:=v2) (v3:=v3) (v4:=v4) (v5:=v5) hfn ht ?_ ⟨by rw[hv],hb5⟩
 exact ak.cast ((((((hB.aG 0 v0).aG 1 v1).aG 2 v2).aG 3 v3).aG 4 v4).aG 5 v5) (by simp)
def DC (s:ByteArray) (i n:Nat):(s.extract i (i+n)).data.toList=(s.data.toList.drop i).take n:=by
 rw[aso,apu]
def aiT (s:ByteArray) (i:Nat) (w:World) (hs:s.size<=1073741824) (hi:i<=s.size):
  Calls prog 134 #[.string s,.int .i64 i] w (xZ (.tok 1 ((s.data.toList.drop i).take (Lex.run Lex.dh (s.data.toList.drop i))) 0 (Lex.run Lex.dh (s.data.toList.drop i))) i w):=by
 have hr:=fun(W:World)=>aiI s i W hs hi
 have hl:=Lex.Dw Lex.dh (s.data.toList.drop i);rw[ae1,<-aof]at hl;obtain⟨n,hn⟩:=aj (Lex.run Lex.dh (s.data.toList.drop i));rw[hn]at hr hl⊢;obtain⟨z,hz⟩:=aj (s.extract i (i+n));have hzl:(⟨((s.data.toList.drop i).take n).toArray⟩:ByteArray)=z:=by rw[<-hz,<-DC]
 obtain⟨j,hj⟩:=aj (i+n);rw[hj]at hr hz
 have htok:kC (.tok 1 ((s.data.toList.drop i).take n) 0 n) i=.agg #[.int .i64 1,.string z,.int .i64 0,.int .i64 i,.int .i64 j,.int .i64 0]:=by
  simp only[kC];rw[hzl,hj];rfl
 have HT:=ah htok;have hjs:j<=s.size:=by omega
 have hij:i<=j:=by omega
 have ji:(j:Int)<=1073741824:=by omega
 have HR:=ah hr;clear hr hj hn hl hzl htok;go_enter func134,ntmps134;go_wp2_with fail;refine iq7 (HR.out _) ?_;go_wp2;exact arW (v:=.agg #[.int .i64 1,.string z,.int .i64 0,.int .i64 i,.int .i64 j,.int .i64 0]) (by simp[results,results134,go_sem]) rfl ⟨by rw[HT.out],(aoa _ _).alloc (aej _) _⟩
end Go.Proofs.YtdijgcnlbfgkdaaGreatDoor
