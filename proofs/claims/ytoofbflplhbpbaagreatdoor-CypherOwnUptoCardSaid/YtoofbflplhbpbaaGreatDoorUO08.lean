/- Contracts and plain laws,part 8. -/
import Derived.Test.YtoofbflplhbpbaaGreatDoorUO02
import Derived.Test.YtoofbflplhbpbaaGreatDoorUO07
import Derived.Deep.DeepCutAuto
import Derived.Deep.CutBlock
import Derived.Shelf.Lay
set_option maxHeartbeats 64000000
set_option maxRecDepth 1000000
set_option linter.all false
namespace Go.Proofs.YtoofbflplhbpbaaGreatDoor
open Go.RowKit
namespace Lex
def gI (c:UInt8):Bool:=c !=10
theorem MJ (p:UInt8->Bool) (l:L):run p l=match l with | []=>0 | c :: r=>if p c=true then 1+run p r else 0:=by
 cases l with
 | nil=>rfl
 | cons c r=>
  simp only;cases h:p c with
  | true=>rw [yX r h];rfl
  | false=>rw [Hz r h];rfl
theorem Yj: ∀l:L,gap true l=run gI l+gap false (l.drop (run gI l))
 | []=>rfl
 | c :: r=>by
  by_cases h:c=10
  ·subst h
   have e1:run gI (10 :: r)=0:=Hz r (by decide)
   have e2:gap false (10 :: r)=1+gap false r:=by
    simp only [gap];rw [ab6 (by rintro ⟨h,_⟩;exact absurd h (by decide)),ab7 (by decide)]
   rw [e1,aeC,e2]
   show 1+gap ((10:UInt8) !=10) r=_
   have e3:((10:UInt8) !=10)=false:=by decide
   rw [e3];omega
  have hp:gI c=true:=by unfold gI;rw [acV];exact h
  rw [yX r hp,show 1+run gI r=run gI r+1 by omega,adU]
  show 1+gap (c !=10) r=_
  have e3:(c !=10)=true:=hp;rw [e3,Yj r];omega
theorem afU {c:UInt8} (h:blank c=true):c≠47:=by
 intro e;subst e;exact absurd h (by decide)
theorem Qw: ∀l:L,gap false l=run blank l+gap false (l.drop (run blank l))
 | []=>rfl
 | c :: r=>by
  cases h:blank c with
  | true=>
   rw [yX r h,show 1+run blank r=run blank r+1 by omega,adU]
   simp only [gap];rw [ab6 (fun g=>afU h g.1),ab7 h,Qw r]
   omega
  | false=>
   rw [Hz r h,aeC];omega
theorem Yk {p:UInt8->Bool}: ∀(l:L) {c:UInt8} {r:L},l.drop (run p l)=c :: r->p c=false
 | [],c,r,h=>by simp at h
 | d :: t,c,r,h=>by
  cases hd:p d with
  | true=>
   rw [yX t hd,show 1+run p t=run p t+1 by omega,adU] at h
   exact Yk t h
  | false=>
   rw [Hz t hd,aeC] at h;obtain ⟨rfl,rfl⟩:=anH h;exact hd
theorem Yl (l:L):Lib.hasPrefix l [47,47]=true↔ ∃r,l=47 :: 47 :: r:=by
 unfold Lib.hasPrefix;rw [amE]
 constructor
 ·rintro ⟨r,hr⟩;exact ⟨r,hr.symm⟩
 rintro ⟨r,hr⟩;exact ⟨r,hr.symm⟩
theorem afV {l:L} (h:Lib.hasPrefix (l.drop (run blank l)) [47,47]=false):gap false l=run blank l:=by
 rw [Qw l];obtain ⟨l',hl⟩: ∃l',l.drop (run blank l)=l':=⟨_,rfl⟩;rw [hl] at h⊢
 cases l' with
 | nil=>rfl
 | cons c r=>
  have hc:=Yk l hl;simp only [gap];rw [ab6,ab6 (by rw [hc];decide)]
  ·omega
  rintro ⟨rfl,h2⟩;cases r with
  | nil=>simp at h2
  | cons d r=>
   simp at h2;subst h2;have:=(Yl (47 :: 47 :: r)).2 ⟨r,rfl⟩;rw [this] at h;cases h
theorem afW {l l':L} (hl:l.drop (run blank l)=l') (h:Lib.hasPrefix l' [47,47]=true):
  gap false l=run blank l+run gI l'+gap false (l'.drop (run gI l'))/\2<=run gI l':=by
 obtain ⟨r,rfl⟩:=(Yl l').1 h;rw [Qw l,hl]
 have e1:run gI (47 :: 47 :: r)=2+run gI r:=by
  rw [yX _ (by decide),yX _ (by decide)];omega
 refine ⟨?_,by omega⟩
 have e2:gap false (47 :: 47 :: r)=1+gap true (47 :: r):=by
  simp only [gap];rw [ab7 (by simp)]
 have e3:gap true (47 :: r)=1+gap true r:=rfl
 rw [e2,e3,Yj r,e1,show 2+run gI r=run gI r+2 by omega]
 simp only [adU];omega
end Lex
theorem byte_le (c:UInt8):(c.toNat:Int)<=255:=by have:=aeE c;omega
theorem vI {s:ByteArray} {k:Nat} (h:k<s.size):s.data.toList.drop k=s[k] :: s.data.toList.drop (k+1):=by
 have h1:k<s.data.toList.length:=by rw [<-Lib.size_eq];exact h
 rw [adC h1];rfl
theorem Dq {s:ByteArray} {k:Nat} (h:s.size<=k):s.data.toList.drop k= []:=ams (by rw [<-Lib.size_eq];exact h)
theorem Qx (c:UInt8) (w:World):
  Calls Tryz.prog 200 #[.int .u8 c.toNat] w fun e w'=>e= .returned (.bool (Num.aP c))/\w=w':=by
 have hb:=byte_le c;obtain ⟨n,hn⟩: ∃n,c.toNat=n:=⟨_,rfl⟩
 obtain ⟨v,hv⟩: ∃v,Num.aP c=v:=⟨_,rfl⟩;rw [hv,hn];rw [hn] at hb;by_cases h47:n<=47
 ·have hr:v=false:=by
   rw [<-hv];simp [Num.aP,hn];try omega
  subst hr;have t0:decide (48<=(n:Int))=false:=abX (by omega)
  have t1:decide ((n:Int)<=57)=true:=abW (by omega)
  clear hn hv h47;go_enter Tryz.func200,Tryz.ntmps200;go_wp2;go_ret;exact ⟨rfl,rfl⟩
 by_cases h57:n<=57
 ·have hr:v=true:=by
   rw [<-hv];simp [Num.aP,hn];try omega
  subst hr;have t0:decide (48<=(n:Int))=true:=abW (by omega)
  have t1:decide ((n:Int)<=57)=true:=abW (by omega)
  clear hn hv h47 h57;go_enter Tryz.func200,Tryz.ntmps200;go_wp2;go_ret;exact ⟨rfl,rfl⟩
 have hr:v=false:=by
  rw [<-hv];simp [Num.aP,hn];try omega
 subst hr;have t0:decide (48<=(n:Int))=true:=abW (by omega)
 have t1:decide ((n:Int)<=57)=false:=abX (by omega)
 clear hn hv h47 h57;go_enter Tryz.func200,Tryz.ntmps200;go_wp2;go_ret;exact ⟨rfl,rfl⟩
theorem Ym (c:UInt8) (w:World):
  Calls Tryz.prog 198 #[.int .u8 c.toNat] w fun e w'=>e= .returned (.bool (Lex.isLet c))/\w=w':=by
 have hb:=byte_le c;obtain ⟨n,hn⟩: ∃n,c.toNat=n:=⟨_,rfl⟩
 obtain ⟨v,hv⟩: ∃v,Lex.isLet c=v:=⟨_,rfl⟩;rw [hv,hn];rw [hn] at hb;by_cases h64:n<=64
 ·have hr:v=false:=by
   rw [<-hv];simp [Lex.isLet,hn];try omega
  subst hr;have t0:decide (97<=(n:Int))=false:=abX (by omega)
  have t1:decide ((n:Int)<=122)=true:=abW (by omega)
  have t2:decide (65<=(n:Int))=false:=abX (by omega)
  have t3:decide ((n:Int)<=90)=true:=abW (by omega)
  have t4:((n:Int) == 95)=false:=by rw [ab3];omega
  clear hn hv h64;go_enter Tryz.func198,Tryz.ntmps198;go_wp2;go_ret;exact ⟨rfl,rfl⟩
 by_cases F9:n<=90
 ·have hr:v=true:=by
   rw [<-hv];simp [Lex.isLet,hn];try omega
  subst hr;have t0:decide (97<=(n:Int))=false:=abX (by omega)
  have t1:decide ((n:Int)<=122)=true:=abW (by omega)
  have t2:decide (65<=(n:Int))=true:=abW (by omega)
  have t3:decide ((n:Int)<=90)=true:=abW (by omega)
  have t4:((n:Int) == 95)=false:=by rw [ab3];omega
  clear hn hv h64 F9;go_enter Tryz.func198,Tryz.ntmps198;go_wp2;go_ret;exact ⟨rfl,rfl⟩
 by_cases Jv:n<=94
 ·have hr:v=false:=by
   rw [<-hv];simp [Lex.isLet,hn];try omega
  subst hr;have t0:decide (97<=(n:Int))=false:=abX (by omega)
  have t1:decide ((n:Int)<=122)=true:=abW (by omega)
  have t2:decide (65<=(n:Int))=true:=abW (by omega)
  have t3:decide ((n:Int)<=90)=false:=abX (by omega)
  have t4:((n:Int) == 95)=false:=by rw [ab3];omega
  clear hn hv h64 F9 Jv;go_enter Tryz.func198,Tryz.ntmps198;go_wp2;go_ret;exact ⟨rfl,rfl⟩
 by_cases h95:n<=95
 ·have hr:v=true:=by
   rw [<-hv];simp [Lex.isLet,hn];try omega
  subst hr;have t0:decide (97<=(n:Int))=false:=abX (by omega)
  have t1:decide ((n:Int)<=122)=true:=abW (by omega)
  have t2:decide (65<=(n:Int))=true:=abW (by omega)
  have t3:decide ((n:Int)<=90)=false:=abX (by omega)
  have t4:((n:Int) == 95)=true:=by rw [show (n:Int)=95 by omega];rfl
  clear hn hv h64 F9 Jv h95;go_enter Tryz.func198,Tryz.ntmps198;go_wp2;go_ret
  exact ⟨rfl,rfl⟩
 by_cases TY:n<=96
 ·have hr:v=false:=by
   rw [<-hv];simp [Lex.isLet,hn];try omega
  subst hr;have t0:decide (97<=(n:Int))=false:=abX (by omega)
  have t1:decide ((n:Int)<=122)=true:=abW (by omega)
  have t2:decide (65<=(n:Int))=true:=abW (by omega)
  have t3:decide ((n:Int)<=90)=false:=abX (by omega)
  have t4:((n:Int) == 95)=false:=by rw [ab3];omega
  clear hn hv h64 F9 Jv h95 TY;go_enter Tryz.func198,Tryz.ntmps198;go_wp2;go_ret
  exact ⟨rfl,rfl⟩
 by_cases h122:n<=122
 ·have hr:v=true:=by
   rw [<-hv];simp [Lex.isLet,hn];try omega
  subst hr;have t0:decide (97<=(n:Int))=true:=abW (by omega)
  have t1:decide ((n:Int)<=122)=true:=abW (by omega)
  have t2:decide (65<=(n:Int))=true:=abW (by omega)
  have t3:decide ((n:Int)<=90)=false:=abX (by omega)
  have t4:((n:Int) == 95)=false:=by rw [ab3];omega
  clear hn hv h64 F9 Jv h95 TY h122;go_enter Tryz.func198,Tryz.ntmps198;go_wp2;go_ret
  exact ⟨rfl,rfl⟩
 have hr:v=false:=by
  rw [<-hv];simp [Lex.isLet,hn];try omega
 subst hr;have t0:decide (97<=(n:Int))=true:=abW (by omega)
 have t1:decide ((n:Int)<=122)=false:=abX (by omega)
 have t2:decide (65<=(n:Int))=true:=abW (by omega)
 have t3:decide ((n:Int)<=90)=false:=abX (by omega)
 have t4:((n:Int) == 95)=false:=by rw [ab3];omega
 clear hn hv h64 F9 Jv h95 TY h122;go_enter Tryz.func198,Tryz.ntmps198;go_wp2;go_ret
 exact ⟨rfl,rfl⟩
theorem afX (c:UInt8) (w:World):
  Calls Tryz.prog 195 #[.int .u8 c.toNat] w fun e w'=>e= .returned (.bool (Lex.blank c))/\w=w':=by
 have hb:=byte_le c;obtain ⟨n,hn⟩: ∃n,c.toNat=n:=⟨_,rfl⟩
 obtain ⟨v,hv⟩: ∃v,Lex.blank c=v:=⟨_,rfl⟩;rw [hv,hn];rw [hn] at hb;by_cases h8:n<=8
 ·have hr:v=false:=by
   rw [<-hv];simp [Lex.blank,<-ad8,hn];try omega
  subst hr;have t0:((n:Int) == 32)=false:=by rw [ab3];omega
  have t1:((n:Int) == 9)=false:=by rw [ab3];omega
  have t2:((n:Int) == 13)=false:=by rw [ab3];omega
  have t3:((n:Int) == 10)=false:=by rw [ab3];omega
  clear hn hv h8;go_enter Tryz.func195,Tryz.ntmps195;go_wp2;go_ret;exact ⟨rfl,rfl⟩
 by_cases h9:n<=9
 ·have hr:v=true:=by
   rw [<-hv];simp [Lex.blank,<-ad8,hn];try omega
  subst hr;have t0:((n:Int) == 32)=false:=by rw [ab3];omega
  have t1:((n:Int) == 9)=true:=by rw [show (n:Int)=9 by omega];rfl
  have t2:((n:Int) == 13)=false:=by rw [ab3];omega
  have t3:((n:Int) == 10)=false:=by rw [ab3];omega
  clear hn hv h8 h9;go_enter Tryz.func195,Tryz.ntmps195;go_wp2;go_ret;exact ⟨rfl,rfl⟩
 by_cases h10:n<=10
 ·have hr:v=true:=by
   rw [<-hv];simp [Lex.blank,<-ad8,hn];try omega
  subst hr;have t0:((n:Int) == 32)=false:=by rw [ab3];omega
  have t1:((n:Int) == 9)=false:=by rw [ab3];omega
  have t2:((n:Int) == 13)=false:=by rw [ab3];omega
  have t3:((n:Int) == 10)=true:=by rw [show (n:Int)=10 by omega];rfl
  clear hn hv h8 h9 h10;go_enter Tryz.func195,Tryz.ntmps195;go_wp2;go_ret;exact ⟨rfl,rfl⟩
 by_cases h12:n<=12
 ·have hr:v=false:=by
   rw [<-hv];simp [Lex.blank,<-ad8,hn];try omega
  subst hr;have t0:((n:Int) == 32)=false:=by rw [ab3];omega
  have t1:((n:Int) == 9)=false:=by rw [ab3];omega
  have t2:((n:Int) == 13)=false:=by rw [ab3];omega
  have t3:((n:Int) == 10)=false:=by rw [ab3];omega
  clear hn hv h8 h9 h10 h12;go_enter Tryz.func195,Tryz.ntmps195;go_wp2;go_ret
  exact ⟨rfl,rfl⟩
 by_cases h13:n<=13
 ·have hr:v=true:=by
   rw [<-hv];simp [Lex.blank,<-ad8,hn];try omega
  subst hr;have t0:((n:Int) == 32)=false:=by rw [ab3];omega
  have t1:((n:Int) == 9)=false:=by rw [ab3];omega
  have t2:((n:Int) == 13)=true:=by rw [show (n:Int)=13 by omega];rfl
  have t3:((n:Int) == 10)=false:=by rw [ab3];omega
  clear hn hv h8 h9 h10 h12 h13;go_enter Tryz.func195,Tryz.ntmps195;go_wp2;go_ret
  exact ⟨rfl,rfl⟩
 by_cases h31:n<=31
 ·have hr:v=false:=by
   rw [<-hv];simp [Lex.blank,<-ad8,hn];try omega
  subst hr;have t0:((n:Int) == 32)=false:=by rw [ab3];omega
  have t1:((n:Int) == 9)=false:=by rw [ab3];omega
  have t2:((n:Int) == 13)=false:=by rw [ab3];omega
  have t3:((n:Int) == 10)=false:=by rw [ab3];omega
  clear hn hv h8 h9 h10 h12 h13 h31;go_enter Tryz.func195,Tryz.ntmps195;go_wp2;go_ret
  exact ⟨rfl,rfl⟩
 by_cases h32:n<=32
 ·have hr:v=true:=by
   rw [<-hv];simp [Lex.blank,<-ad8,hn];try omega
  subst hr;have t0:((n:Int) == 32)=true:=by rw [show (n:Int)=32 by omega];rfl
  have t1:((n:Int) == 9)=false:=by rw [ab3];omega
  have t2:((n:Int) == 13)=false:=by rw [ab3];omega
  have t3:((n:Int) == 10)=false:=by rw [ab3];omega
  clear hn hv h8 h9 h10 h12 h13 h31 h32;go_enter Tryz.func195,Tryz.ntmps195;go_wp2;go_ret
  exact ⟨rfl,rfl⟩
 have hr:v=false:=by
  rw [<-hv];simp [Lex.blank,<-ad8,hn];try omega
 subst hr;have t0:((n:Int) == 32)=false:=by rw [ab3];omega
 have t1:((n:Int) == 9)=false:=by rw [ab3];omega
 have t2:((n:Int) == 13)=false:=by rw [ab3];omega
 have t3:((n:Int) == 10)=false:=by rw [ab3];omega
 clear hn hv h8 h9 h10 h12 h13 h31 h32;go_enter Tryz.func195,Tryz.ntmps195;go_wp2;go_ret
 exact ⟨rfl,rfl⟩
theorem afY (c:UInt8) (w:World):
  Calls Tryz.prog 197 #[.int .u8 c.toNat] w fun e w'=>e= .returned (.bool (Lex.gI c))/\w=w':=by
 have hb:=byte_le c;obtain ⟨n,hn⟩: ∃n,c.toNat=n:=⟨_,rfl⟩
 obtain ⟨v,hv⟩: ∃v,Lex.gI c=v:=⟨_,rfl⟩;rw [hv,hn];rw [hn] at hb;by_cases h9:n<=9
 ·have hr:v=true:=by
   rw [<-hv];simp [Lex.gI,<-ad8,hn];try omega
  subst hr;have t0:((n:Int) !=10)=true:=by rw [acV];omega
  clear hn hv h9;go_enter Tryz.func197,Tryz.ntmps197;go_wp2;go_ret;exact ⟨rfl,rfl⟩
 by_cases h10:n<=10
 ·have hr:v=false:=by
   rw [<-hv];simp [Lex.gI,<-ad8,hn];try omega
  subst hr;have t0:((n:Int) !=10)=false:=by rw [show (n:Int)=10 by omega];rfl
  clear hn hv h9 h10;go_enter Tryz.func197,Tryz.ntmps197;go_wp2;go_ret;exact ⟨rfl,rfl⟩
 have hr:v=true:=by
  rw [<-hv];simp [Lex.gI,<-ad8,hn];try omega
 subst hr;have t0:((n:Int) !=10)=true:=by rw [acV];omega
 clear hn hv h9 h10;go_enter Tryz.func197,Tryz.ntmps197;go_wp2;go_ret;exact ⟨rfl,rfl⟩
theorem Yn (c:UInt8) (w:World):
  Calls Tryz.prog 252 #[.int .u8 c.toNat] w fun e w'=>e= .returned (.bool (Lex.bV c))/\w=w':=by
 have h1:=fun (W:World)=>Ym c W
 have h2:=fun (W:World)=>Qx c W
 have hv:Lex.bV c=(Lex.isLet c || Num.aP c):=rfl
 rw [hv];obtain ⟨a,ha⟩: ∃a,Lex.isLet c=a:=⟨_,rfl⟩;obtain ⟨b,hb⟩: ∃b,Num.aP c=b:=⟨_,rfl⟩
 rw [ha] at h1⊢;rw [hb] at h2⊢;have H1:=ah h1;have H2:=ah h2;clear h1 h2 ha hb hv
 cases a with
 | true=>
  go_enter Tryz.func252,Tryz.ntmps252;go_wp2_with fail;refine (H1.out _).mono ?_
  rintro e w' ⟨rfl,rfl⟩;go_wp2;go_ret;exact ⟨rfl,rfl⟩
 | false=>
  go_enter Tryz.func252,Tryz.ntmps252;go_wp2_with fail;refine (H1.out _).mono ?_
  rintro e w' ⟨rfl,rfl⟩;go_wp2_with fail;refine (H2.out _).mono ?_;rintro e w' ⟨rfl,rfl⟩
  go_wp2;go_ret;exact ⟨by simp,rfl⟩
theorem afZ (c:UInt8) (w:World):
  Calls Tryz.prog 253 #[.int .u8 c.toNat] w fun e w'=>e= .returned (.bool (Lex.gW c))/\w=w':=by
 have h1:=fun (W:World)=>Yn c W
 have hv:Lex.gW c=(Lex.bV c || c == 46):=rfl
 rw [hv];obtain ⟨a,ha⟩: ∃a,Lex.bV c=a:=⟨_,rfl⟩;rw [ha] at h1⊢;have H1:=ah h1
 clear h1 ha hv;cases a with
 | true=>
  go_enter Tryz.func253,Tryz.ntmps253;go_wp2_with fail;refine (H1.out _).mono ?_
  rintro e w' ⟨rfl,rfl⟩;go_wp2;go_ret;exact ⟨rfl,rfl⟩
 | false=>
  have t1:((c.toNat:Int) == 46)=(c == 46):=by
   rw [alp,adp,adp,<-ad8]
   show (c.toNat:Int)=46↔c.toNat=46
   omega
  go_enter Tryz.func253,Tryz.ntmps253;go_wp2_with fail;refine (H1.out _).mono ?_
  rintro e w' ⟨rfl,rfl⟩;go_wp2;go_ret;exact ⟨by simp,rfl⟩
theorem af0 (s:ByteArray) (i:Nat) (w:World) (hs:s.size<=1073741824) (hi:i<=s.size):
  Calls Tryz.prog 194 #[.string s, .int .i64 i, .func (.func 252) #[] #[]] w fun e w'=>e= .returned (.int .i64 ((i+Lex.run Lex.bV (s.data.toList.drop i):Nat):Int))/\w=w':=by
 obtain ⟨R,hR⟩: ∃R,i+Lex.run Lex.bV (s.data.toList.drop i)=R:=⟨_,rfl⟩;rw [hR]
 have HR:=ah hR;clear hR;go_enter Tryz.func194,Tryz.ntmps194;go_wp2_with fail
 go_loopg [1] (s.size - i) (fun g x wr=> ∃k:Nat,k+g=s.size/\k+Lex.run Lex.bV (s.data.toList.drop k)=R/\x= .int .i64 (k:Int)/\w=wr)
 case atStart=>exact ⟨i,by omega,HR.out,rfl,rfl⟩
 obtain ⟨k,hk,hr,rfl,rfl⟩:=hrel;have HK:=ah hk;have HRR:=ah hr
 have ki:(k:Int)<=1073741824:=by omega
 clear hk hr;cases gk with
 | zero=>
  have hend:s.size<=k:=by have:=HK.out;omega
  have t1:decide (k<s.size)=false:=abX (by omega)
  have hv:R=k:=by
   have:=HRR.out;rw [Dq hend] at this;exact this.symm
  have HV:=ah hv;clear hend hv;go_wp2;go_ret;exact ⟨by rw [HV.out];rfl,rfl⟩
 | succ g=>
  have hlt:k<s.size:=by have:=HK.out;omega
  have zK:(k:Int)<s.size:=by omega
  have t1:decide (k<s.size)=true:=abW hlt;have hdrop:=vI hlt
  have hst:=Lex.MJ Lex.bV (s.data.toList.drop k);rw [hdrop] at hst;simp only at hst
  rw [<-hdrop] at hst;have hc:=fun (W:World)=>Yn (s[k]'hlt) W
  obtain ⟨v,hv⟩: ∃v,Lex.bV (s[k]'hlt)=v:=⟨_,rfl⟩;rw [hv] at hst hc;have HC:=ah hc
  cases v with
  | true=>
   have hn:k+1+Lex.run Lex.bV (s.data.toList.drop (k+1))=R:=by
    have:=HRR.out;rw [hst,ab7 rfl] at this;omega
   have HN:=ah hn;clear hdrop hst hc hv hn;go_wp2_with fail;refine (HC.out _).mono ?_
   rintro e w' ⟨rfl,rfl⟩;go_wp2
   go_roundg g
   case measure=>omega
   exact ⟨k+1,by have:=HK.out;omega,HN.out,int_eq' (by omega),rfl⟩
  | false=>
   have hn:R=k:=by
    have:=HRR.out;rw [hst,ab6 (by decide)] at this
    omega
   have HN:=ah hn;clear hdrop hst hc hv hn;go_wp2_with fail;refine (HC.out _).mono ?_
   rintro e w' ⟨rfl,rfl⟩;go_wp2;go_ret;exact ⟨by rw [HN.out];rfl,rfl⟩
theorem af2 (s:ByteArray) (i:Nat) (w:World) (hs:s.size<=1073741824) (hi:i<=s.size):
  Calls Tryz.prog 194 #[.string s, .int .i64 i, .func (.func 253) #[] #[]] w fun e w'=>e= .returned (.int .i64 ((i+Lex.run Lex.gW (s.data.toList.drop i):Nat):Int))/\w=w':=by
 obtain ⟨R,hR⟩: ∃R,i+Lex.run Lex.gW (s.data.toList.drop i)=R:=⟨_,rfl⟩;rw [hR]
 have HR:=ah hR;clear hR;go_enter Tryz.func194,Tryz.ntmps194;go_wp2_with fail
 go_loopg [1] (s.size - i) (fun g x wr=> ∃k:Nat,k+g=s.size/\k+Lex.run Lex.gW (s.data.toList.drop k)=R/\x= .int .i64 (k:Int)/\w=wr)
 case atStart=>exact ⟨i,by omega,HR.out,rfl,rfl⟩
 obtain ⟨k,hk,hr,rfl,rfl⟩:=hrel;have HK:=ah hk;have HRR:=ah hr
 have ki:(k:Int)<=1073741824:=by omega
 clear hk hr;cases gk with
 | zero=>
  have hend:s.size<=k:=by have:=HK.out;omega
  have t1:decide (k<s.size)=false:=abX (by omega)
  have hv:R=k:=by
   have:=HRR.out;rw [Dq hend] at this;exact this.symm
  have HV:=ah hv;clear hend hv;go_wp2;go_ret;exact ⟨by rw [HV.out];rfl,rfl⟩
 | succ g=>
  have hlt:k<s.size:=by have:=HK.out;omega
  have zK:(k:Int)<s.size:=by omega
  have t1:decide (k<s.size)=true:=abW hlt;have hdrop:=vI hlt
  have hst:=Lex.MJ Lex.gW (s.data.toList.drop k);rw [hdrop] at hst;simp only at hst
  rw [<-hdrop] at hst;have hc:=fun (W:World)=>afZ (s[k]'hlt) W
  obtain ⟨v,hv⟩: ∃v,Lex.gW (s[k]'hlt)=v:=⟨_,rfl⟩;rw [hv] at hst hc;have HC:=ah hc
  cases v with
  | true=>
   have hn:k+1+Lex.run Lex.gW (s.data.toList.drop (k+1))=R:=by
    have:=HRR.out;rw [hst,ab7 rfl] at this;omega
   have HN:=ah hn;clear hdrop hst hc hv hn;go_wp2_with fail;refine (HC.out _).mono ?_
   rintro e w' ⟨rfl,rfl⟩;go_wp2
   go_roundg g
   case measure=>omega
   exact ⟨k+1,by have:=HK.out;omega,HN.out,int_eq' (by omega),rfl⟩
  | false=>
   have hn:R=k:=by
    have:=HRR.out;rw [hst,ab6 (by decide)] at this
    omega
   have HN:=ah hn;clear hdrop hst hc hv hn;go_wp2_with fail;refine (HC.out _).mono ?_
   rintro e w' ⟨rfl,rfl⟩;go_wp2;go_ret;exact ⟨by rw [HN.out];rfl,rfl⟩
theorem af4 (s:ByteArray) (i:Nat) (w:World) (hs:s.size<=1073741824) (hi:i<=s.size):
  Calls Tryz.prog 194 #[.string s, .int .i64 i, .func (.func 195) #[] #[]] w fun e w'=>e= .returned (.int .i64 ((i+Lex.run Lex.blank (s.data.toList.drop i):Nat):Int))/\w=w':=by
 obtain ⟨R,hR⟩: ∃R,i+Lex.run Lex.blank (s.data.toList.drop i)=R:=⟨_,rfl⟩;rw [hR]
 have HR:=ah hR;clear hR;go_enter Tryz.func194,Tryz.ntmps194;go_wp2_with fail
 go_loopg [1] (s.size - i) (fun g x wr=> ∃k:Nat,k+g=s.size/\k+Lex.run Lex.blank (s.data.toList.drop k)=R/\x= .int .i64 (k:Int)/\w=wr)
 case atStart=>exact ⟨i,by omega,HR.out,rfl,rfl⟩
 obtain ⟨k,hk,hr,rfl,rfl⟩:=hrel;have HK:=ah hk;have HRR:=ah hr
 have ki:(k:Int)<=1073741824:=by omega
 clear hk hr;cases gk with
 | zero=>
  have hend:s.size<=k:=by have:=HK.out;omega
  have t1:decide (k<s.size)=false:=abX (by omega)
  have hv:R=k:=by
   have:=HRR.out;rw [Dq hend] at this;exact this.symm
  have HV:=ah hv;clear hend hv;go_wp2;go_ret;exact ⟨by rw [HV.out];rfl,rfl⟩
 | succ g=>
  have hlt:k<s.size:=by have:=HK.out;omega
  have zK:(k:Int)<s.size:=by omega
  have t1:decide (k<s.size)=true:=abW hlt;have hdrop:=vI hlt
  have hst:=Lex.MJ Lex.blank (s.data.toList.drop k);rw [hdrop] at hst;simp only at hst
  rw [<-hdrop] at hst;have hc:=fun (W:World)=>afX (s[k]'hlt) W
  obtain ⟨v,hv⟩: ∃v,Lex.blank (s[k]'hlt)=v:=⟨_,rfl⟩;rw [hv] at hst hc;have HC:=ah hc
  cases v with
  | true=>
   have hn:k+1+Lex.run Lex.blank (s.data.toList.drop (k+1))=R:=by
    have:=HRR.out;rw [hst,ab7 rfl] at this;omega
   have HN:=ah hn;clear hdrop hst hc hv hn;go_wp2_with fail;refine (HC.out _).mono ?_
   rintro e w' ⟨rfl,rfl⟩;go_wp2
   go_roundg g
   case measure=>omega
   exact ⟨k+1,by have:=HK.out;omega,HN.out,int_eq' (by omega),rfl⟩
  | false=>
   have hn:R=k:=by
    have:=HRR.out;rw [hst,ab6 (by decide)] at this
    omega
   have HN:=ah hn;clear hdrop hst hc hv hn;go_wp2_with fail;refine (HC.out _).mono ?_
   rintro e w' ⟨rfl,rfl⟩;go_wp2;go_ret;exact ⟨by rw [HN.out];rfl,rfl⟩
theorem af5 (s:ByteArray) (i:Nat) (w:World) (hs:s.size<=1073741824) (hi:i<=s.size):
  Calls Tryz.prog 194 #[.string s, .int .i64 i, .func (.func 197) #[] #[]] w fun e w'=>e= .returned (.int .i64 ((i+Lex.run Lex.gI (s.data.toList.drop i):Nat):Int))/\w=w':=by
 obtain ⟨R,hR⟩: ∃R,i+Lex.run Lex.gI (s.data.toList.drop i)=R:=⟨_,rfl⟩;rw [hR]
 have HR:=ah hR;clear hR;go_enter Tryz.func194,Tryz.ntmps194;go_wp2_with fail
 go_loopg [1] (s.size - i) (fun g x wr=> ∃k:Nat,k+g=s.size/\k+Lex.run Lex.gI (s.data.toList.drop k)=R/\x= .int .i64 (k:Int)/\w=wr)
 case atStart=>exact ⟨i,by omega,HR.out,rfl,rfl⟩
 obtain ⟨k,hk,hr,rfl,rfl⟩:=hrel;have HK:=ah hk;have HRR:=ah hr
 have ki:(k:Int)<=1073741824:=by omega
 clear hk hr;cases gk with
 | zero=>
  have hend:s.size<=k:=by have:=HK.out;omega
  have t1:decide (k<s.size)=false:=abX (by omega)
  have hv:R=k:=by
   have:=HRR.out;rw [Dq hend] at this;exact this.symm
  have HV:=ah hv;clear hend hv;go_wp2;go_ret;exact ⟨by rw [HV.out];rfl,rfl⟩
 | succ g=>
  have hlt:k<s.size:=by have:=HK.out;omega
  have zK:(k:Int)<s.size:=by omega
  have t1:decide (k<s.size)=true:=abW hlt;have hdrop:=vI hlt
  have hst:=Lex.MJ Lex.gI (s.data.toList.drop k);rw [hdrop] at hst;simp only at hst
  rw [<-hdrop] at hst;have hc:=fun (W:World)=>afY (s[k]'hlt) W
  obtain ⟨v,hv⟩: ∃v,Lex.gI (s[k]'hlt)=v:=⟨_,rfl⟩;rw [hv] at hst hc;have HC:=ah hc
  cases v with
  | true=>
   have hn:k+1+Lex.run Lex.gI (s.data.toList.drop (k+1))=R:=by
    have:=HRR.out;rw [hst,ab7 rfl] at this;omega
   have HN:=ah hn;clear hdrop hst hc hv hn;go_wp2_with fail;refine (HC.out _).mono ?_
   rintro e w' ⟨rfl,rfl⟩;go_wp2
   go_roundg g
   case measure=>omega
   exact ⟨k+1,by have:=HK.out;omega,HN.out,int_eq' (by omega),rfl⟩
  | false=>
   have hn:R=k:=by
    have:=HRR.out;rw [hst,ab6 (by decide)] at this
    omega
   have HN:=ah hn;clear hdrop hst hc hv hn;go_wp2_with fail;refine (HC.out _).mono ?_
   rintro e w' ⟨rfl,rfl⟩;go_wp2;go_ret;exact ⟨by rw [HN.out];rfl,rfl⟩
theorem af6 (s:ByteArray) (i:Nat) (w:World) (hs:s.size<=1073741824) (hi:i<=s.size):
  Calls Tryz.prog 142 #[.string s, .int .i64 i] w fun e w'=>e= .returned (.int .i64 ((i+Lex.gap false (s.data.toList.drop i):Nat):Int))/\w=w':=by
 obtain ⟨R,hR⟩: ∃R,i+Lex.gap false (s.data.toList.drop i)=R:=⟨_,rfl⟩;rw [hR]
 have HR:=ah hR;clear hR;go_enter Tryz.func142,Tryz.ntmps142;go_wp2_with fail
 go_loopg [1] (s.size - i) (fun g x wr=> ∃k:Nat,k<=s.size/\s.size<=k+g/\k+Lex.gap false (s.data.toList.drop k)=R/\x= .int .i64 (k:Int)/\w=wr)
 case atStart=>exact ⟨i,hi,by omega,HR.out,rfl,rfl⟩
 obtain ⟨k,hk,hkg,hr,rfl,rfl⟩:=hrel;have hb:=fun (W:World)=>af4 s k W hs hk
 have hrl:=Lex.Fg Lex.blank (s.data.toList.drop k);rw [acM,<-Lib.size_eq] at hrl
 obtain ⟨m,hm⟩: ∃m,k+Lex.run Lex.blank (s.data.toList.drop k)=m:=⟨_,rfl⟩;rw [hm] at hb
 have hml:m<=s.size:=by omega
 obtain ⟨l',hl'⟩: ∃l',s.data.toList.drop m=l':=⟨_,rfl⟩
 have hdr:(s.data.toList.drop k).drop (Lex.run Lex.blank (s.data.toList.drop k))=l':=by rw [alW,hm,hl']
 have hpf:=fun (W:World)=>(Tryz.strings_HasPrefix (s.extract m s.size) ⟨#[47,47]⟩ W).mono fun e w' (h:_/\w'=W)=>(⟨h.1,h.2.symm⟩:_/\W=w')
 have hex:(s.extract m s.size).data.toList=l':=by
  rw [Lib.extract_data,<-hl'];exact acg (by rw [acM,<-Lib.size_eq];exact ab1 _)
 have e2:(⟨#[47,47]⟩:ByteArray).data.toList= [47,47]:=rfl;rw [hex,e2] at hpf
 have mi:(m:Int)<=1073741824:=by omega
 have ki:(k:Int)<=1073741824:=by omega
 obtain ⟨v,hv⟩: ∃v,Lib.hasPrefix l' [47,47]=v:=⟨_,rfl⟩;rw [hv] at hpf;have HB:=ah hb
 have mV:=ah hpf;cases v with
 | false=>
  have hres:R=m:=by
   rw [<-hr,Lex.afV (by rw [hdr];exact hv)]
   exact hm
  have pO:=ah hres;clear hb hpf hres hv hex hdr hl' hm hr hkg hrl;go_wp2_with fail
  refine (HB.out _).mono ?_;rintro e w' ⟨rfl,rfl⟩;go_wp2_with fail
  refine (mV.out _).mono ?_;rintro e w' ⟨rfl,rfl⟩;go_wp2;go_ret
  exact ⟨by rw [pO.out];rfl,rfl⟩
 | true=>
  obtain ⟨g1,g2⟩:=Lex.afW hdr hv;have hn:=fun (W:World)=>af5 s m W hs hml
  have hnl:=Lex.Fg Lex.gI l';rw [<-hl',acM,<-Lib.size_eq,hl'] at hnl;rw [hl'] at hn
  obtain ⟨q,hq⟩: ∃q,m+Lex.run Lex.gI l'=q:=⟨_,rfl⟩;rw [hq] at hn
  have DJ:q<=s.size:=by omega
  have hres:q+Lex.gap false (s.data.toList.drop q)=R:=by
   rw [<-hr,g1]
   have:l'.drop (Lex.run Lex.gI l')=s.data.toList.drop q:=by rw [<-hl',alW,hl',hq]
   rw [this];omega
  have hgk:0<gk:=by omega
  have zJ:s.size<=q+(gk - 1):=by omega
  have HN:=ah hn;have pO:=ah hres;have qi:(q:Int)<=1073741824:=by omega
  clear hb hpf hres hv hex hdr hl' hm hr hkg hrl g1 g2 hn hnl hq;go_wp2_with fail
  refine (HB.out _).mono ?_;rintro e w' ⟨rfl,rfl⟩;go_wp2_with fail
  refine (mV.out _).mono ?_;rintro e w' ⟨rfl,rfl⟩;go_wp2_with fail
  refine (HN.out _).mono ?_;rintro e w' ⟨rfl,rfl⟩;go_wp2
  go_roundg (gk - 1)
  case measure=>omega
  exact ⟨q,DJ,zJ,pO.out,rfl,rfl⟩
end Go.Proofs.YtoofbflplhbpbaaGreatDoor
namespace Go.Proofs
open Go.Shelf
def Tryz.MK:Go.Shelf.Ren:=⟨fun | 166=>31 | 167=>30 | 240=>70 | 276=>125 | 169=>34 | n=>n,fun | 0=>0 | 3=>3 | 4=>4 | 5=>5 | 9=>9 | 20=>20 | 37=>55 | 70=>68 | 72=>70 | 75=>72 | 80=>78 | 164=>190 | 127=>128 | n=>n,fun | n=>n⟩
theorem Tryz.bld166:Go.Proofs.Lays.n166 Tryz.prog Tryz.MK:={
 mixed:=by kernel_rfl
 f166:=Tryz.func31.trans (ab8 some (by kernel_rfl))
 f240:=Tryz.func70.trans (ab8 some (by kernel_rfl))
 f276:=Tryz.func125.trans (ab8 some (by kernel_rfl))
 t0:=Tryz.underlying0
 a0:=Tryz.isAgg0
 z0:=Tryz.sizeOf0
 v0:=Tryz.zeroValue0
 t3:=Tryz.underlying3
 a3:=Tryz.isAgg3
 z3:=Tryz.sizeOf3
 v3:=Tryz.zeroValue3
 t4:=Tryz.underlying4
 a4:=Tryz.isAgg4
 z4:=Tryz.sizeOf4
 v4:=Tryz.zeroValue4
 t9:=Tryz.underlying9
 a9:=Tryz.isAgg9
 z9:=Tryz.sizeOf9
 v9:=Tryz.zeroValue9
 t20:=Tryz.underlying20
 a20:=Tryz.isAgg20
 z20:=Tryz.sizeOf20
 v20:=Tryz.zeroValue20
 t37:=Tryz.underlying55
 a37:=Tryz.isAgg55
 z37:=Tryz.sizeOf55
 v37:=Tryz.zeroValue55
 t70:=Tryz.underlying68
 a70:=Tryz.isAgg68
 z70:=Tryz.sizeOf68
 v70:=Tryz.zeroValue68
 t72:=Tryz.underlying70
 a72:=Tryz.isAgg70
 z72:=Tryz.sizeOf70
 v72:=Tryz.zeroValue70
 t75:=Tryz.underlying72
 a75:=Tryz.isAgg72
 z75:=Tryz.sizeOf72
 v75:=Tryz.zeroValue72
 t164:=Tryz.underlying190
 a164:=Tryz.isAgg190
 z164:=Tryz.sizeOf190
 v164:=Tryz.zeroValue190}
theorem Tryz.bld167:Go.Proofs.Lays.n167 Tryz.prog Tryz.MK:={
 mixed:=by kernel_rfl
 f167:=Tryz.func30.trans (ab8 some (by kernel_rfl))
 f240:=Tryz.func70.trans (ab8 some (by kernel_rfl))
 f276:=Tryz.func125.trans (ab8 some (by kernel_rfl))
 t0:=Tryz.underlying0
 a0:=Tryz.isAgg0
 z0:=Tryz.sizeOf0
 v0:=Tryz.zeroValue0
 t4:=Tryz.underlying4
 a4:=Tryz.isAgg4
 z4:=Tryz.sizeOf4
 v4:=Tryz.zeroValue4
 t5:=Tryz.underlying5
 a5:=Tryz.isAgg5
 z5:=Tryz.sizeOf5
 v5:=Tryz.zeroValue5
 t9:=Tryz.underlying9
 a9:=Tryz.isAgg9
 z9:=Tryz.sizeOf9
 v9:=Tryz.zeroValue9
 t20:=Tryz.underlying20
 a20:=Tryz.isAgg20
 z20:=Tryz.sizeOf20
 v20:=Tryz.zeroValue20
 t37:=Tryz.underlying55
 a37:=Tryz.isAgg55
 z37:=Tryz.sizeOf55
 v37:=Tryz.zeroValue55
 t70:=Tryz.underlying68
 a70:=Tryz.isAgg68
 z70:=Tryz.sizeOf68
 v70:=Tryz.zeroValue68
 t72:=Tryz.underlying70
 a72:=Tryz.isAgg70
 z72:=Tryz.sizeOf70
 v72:=Tryz.zeroValue70
 t75:=Tryz.underlying72
 a75:=Tryz.isAgg72
 z75:=Tryz.sizeOf72
 v75:=Tryz.zeroValue72
 t164:=Tryz.underlying190
 a164:=Tryz.isAgg190
 z164:=Tryz.sizeOf190
 v164:=Tryz.zeroValue190}
theorem Tryz.bld169:Go.Proofs.Lays.n169 Tryz.prog Tryz.MK:={
 mixed:=by kernel_rfl
 f169:=Tryz.func34.trans (ab8 some (by kernel_rfl))
 t0:=Tryz.underlying0
 a0:=Tryz.isAgg0
 z0:=Tryz.sizeOf0
 v0:=Tryz.zeroValue0
 t3:=Tryz.underlying3
 a3:=Tryz.isAgg3
 z3:=Tryz.sizeOf3
 v3:=Tryz.zeroValue3
 t9:=Tryz.underlying9
 a9:=Tryz.isAgg9
 z9:=Tryz.sizeOf9
 v9:=Tryz.zeroValue9
 t37:=Tryz.underlying55
 a37:=Tryz.isAgg55
 z37:=Tryz.sizeOf55
 v37:=Tryz.zeroValue55
 t70:=Tryz.underlying68
 a70:=Tryz.isAgg68
 z70:=Tryz.sizeOf68
 v70:=Tryz.zeroValue68
 t72:=Tryz.underlying70
 a72:=Tryz.isAgg70
 z72:=Tryz.sizeOf70
 v72:=Tryz.zeroValue70
 t127:=Tryz.underlying128
 a127:=Tryz.isAgg128
 z127:=Tryz.sizeOf128
 v127:=Tryz.zeroValue128}
theorem Tryz.Qy:Builder.Extra Tryz.prog Tryz.MK:={
 sizeBuilder:=by kernel_rfl
 liesBuilder:=by kernel_rfl
 t5:=Tryz.underlying5
 a5:=Tryz.isAgg5
 z5:=Tryz.sizeOf5
 v5:=Tryz.zeroValue5
 infoByte:=by kernel_rfl
 cellsByte:=by kernel_rfl
 sizeByte:=by kernel_rfl
 neB5:=by decide}
end Go.Proofs
namespace Go.Proofs.YtoofbflplhbpbaaGreatDoor
open Go.RowKit
def gQ (B b:Nat) (l:List UInt8) (w:World):Prop:=Lib.IsBuilderF 70 5 B b (Lib.byteCells l) w
theorem gQ.fresh (w:World):gQ w.heap.size w.heap.size [] (w.alloc (.cells #[.pointer none, .slice none 0 0] 70)):=
 Lib.IsBuilderF.of (Lib.fresh_isBuilder _ _ w)
theorem af7 (s:ByteArray):Lib.strCells s=Lib.byteCells s.data.toList:=by
 rfl
theorem Yo (a b:List UInt8):Lib.byteCells (a ++ b)=Lib.byteCells a ++ Lib.byteCells b:=by
 simp [Lib.byteCells]
theorem Yp {T e B b g:Nat} {q:Value} {bs:List Value} {w w':World} (h:Lib.BuilderAtF T e B b q bs w) (hg:w.grownBy w' (some g)) (h1:b≠g) (h2: ∀v,w.ownsRowF B e 1 v bs.length bs->v.ownBlock≠some g):Lib.BuilderAtF T e B b q bs w':=by
 obtain ⟨hB,v,hb,hown,hne⟩:=h;have hlt:b<w.heap.size:=(acI.1 hb).1
 exact ⟨hB,v,(hg.block b hlt (by simpa using h1)).trans hb,hown.kept hg (.inr (h2 v hown)),hne⟩
theorem gQ.below {B b:Nat} {l:List UInt8} {w w':World} (h:gQ B b l w) (hb:Below w.heap.size w w'):gQ B b l w':=by
 have hg:w.grownBy w' (some w.heap.size):=⟨hb.os,hb.tape,hb.output,hb.size,fun i hi _=>hb.block i hi⟩
 have hlt: ∀{T e q bs},Lib.BuilderAtF T e B b q bs w->b≠w.heap.size:=fun h=>by
  obtain ⟨_,v,hb,_⟩:=h;have:=(acI.1 hb).1;omega
 have key: ∀v,w.ownsRowF B 5 1 v (Lib.byteCells l).length (Lib.byteCells l)->v.ownBlock≠some w.heap.size:=fun v hv e=>by have:=(hv.lt _ e).2;omega
 exact h.imp (fun x=>Yp x hg (hlt x) key) (fun x=>Yp x hg (hlt x) key)
theorem gQ.alloc {B b:Nat} {l:List UInt8} {w:World} (h:gQ B b l w) (o:Obj):gQ B b l (w.alloc o):=Lib.IsBuilderF.alloc h o
theorem gQ.le {B b:Nat} {l:List UInt8} {w:World} (h:gQ B b l w):B<=b:=h.elim (fun x=>x.1) (fun x=>x.1)
theorem grownBy_set (w:World) (p:Addr) (v:Value):w.grownBy (w.setCell p v) (some p.block):=
 ⟨rfl,rfl,rfl,by simp [World.setCell],fun k _ hne=>Below.heap_setCell w p v k (fun e=>hne (by rw [e]))⟩
theorem rO (B b:Nat) (l:List UInt8) (c:Int) (w:World) (h:gQ B b l w) (h0:0<=c) (h1:c<256) (hlen:l.length<1073741824) (hB:B<=w.heap.size):
  Calls Tryz.prog 30 #[.pointer (some ⟨b,0,none⟩), .int .u8 c] w fun e w'=>e= .returned .nilIface/\gQ B b (l ++ [c.toNat.toUInt8]) w'/\Below B w w'/\Lib.OthersKept 5 (some b) w w':=by
 refine (Any.Builder_WriteByte_k Tryz.bld167 Tryz.Qy B b _ c w h (by rw [Lib.byteCells_length];omega) hB).mono fun e w' ⟨he,hb,h2,h3⟩=>⟨he, ?_,h2,h3⟩
 unfold gQ;rw [Yo]
 have e:Lib.byteCells [c.toNat.toUInt8]= [.int .u8 c]:=by
  have:c.toNat % 256=c.toNat:=Nat.mod_eq_of_lt (by omega)
  simp [Lib.byteCells,this,Int.toNat_of_nonneg h0]
 rw [e];exact .inr hb
theorem xB (B b:Nat) (l:List UInt8) (s:ByteArray) (w:World) (h:gQ B b l w) (hs:s.size<1073741824) (hlen:l.length<1073741824) (hB:B<=w.heap.size):
  Calls Tryz.prog 31 #[.pointer (some ⟨b,0,none⟩), .string s] w fun e w'=>e= .returned (.tuple #[.int .i64 s.size, .nilIface])/\gQ B b (l ++ s.data.toList) w'/\Below B w w'/\Lib.OthersKept 5 (some b) w w':=by
 refine (Any.Builder_WriteString_k Tryz.bld166 Tryz.Qy B b _ s w h (by rw [Lib.byteCells_length];omega) hB).mono fun e w' ⟨he,hb,h2,h3⟩=>⟨he, ?_,h2,h3⟩
 unfold gQ;rw [Yo,<-af7];exact .inr hb
theorem Qz (B b:Nat) (l:List UInt8) (w:World) (h:gQ B b l w) (hB:B<=w.heap.size):
  Calls Tryz.prog 34 #[.pointer (some ⟨b,0,none⟩)] w fun e w'=>e= .returned (.string ⟨l.toArray⟩)/\gQ B b l w'/\Below B w w'/\Lib.OthersKept 5 (some b) w w':=
 Any.Builder_String_any_k Tryz.bld169 Tryz.Qy B b l w h hB
end Go.Proofs.YtoofbflplhbpbaaGreatDoor
