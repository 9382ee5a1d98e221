/- Lemmas. -/
import Derived.Test.YtdijgcnlbfgkdaaGreatDoorUP10
set_option maxHeartbeats 64000000
set_option maxRecDepth 1000000
set_option linter.all false
namespace Go.Proofs.YtdijgcnlbfgkdaaGreatDoor
open Go.RowKit Go.Proofs.Tryz
def bn {c:UInt8} {k:UInt8} {n:Int} (hn:(k.toNat:Int)=n) (h:c≠k):((c.toNat:Int) !=n)=true:=by
 rw[afd,<-hn];intro e;exact h (afC.1 (by omega))
def bn' {c:UInt8} {k:UInt8} {n:Int} (hn:(k.toNat:Int)=n) {b:Bool} (h:(c !=k)=b):((c.toNat:Int) !=n)=b:=by
 rw[<-h];by_cases e:c=k
 ·rw[e,hn];simp
 rw[bn hn e];exact(afd.2 e).symm
def aeb (c:UInt8) (w:World):
  Calls prog 109 #[.int .u8 c.toNat] w fun e w'=>e=.returned (.bool (Num.aJ c))/\w=w':=by
 have hb:=byte_le c;obtain⟨n,hn⟩:=aj c.toNat;obtain⟨v,hv⟩:=aj (Num.aJ c);rw[hv,hn];rw[hn]at hb;by_cases h47:n<=47
 ·have hr:v=false:=by
   rw[<-hv];simp[Num.aJ,hn];try omega
  subst hr;have t0:decide (48<=(n:Int))=false:=dF (by omega)
  have t1:decide ((n:Int)<=57)=true:=aei (by omega)
  clear hn hv h47;go_enter func109,ntmps109;go_wp2;go_ret;exact⟨rfl,rfl⟩
 by_cases h57:n<=57
 ·have hr:v=true:=by
   rw[<-hv];simp[Num.aJ,hn];try omega
  subst hr;have t0:decide (48<=(n:Int))=true:=aei (by omega)
  have t1:decide ((n:Int)<=57)=true:=aei (by omega)
  clear hn hv h47 h57;go_enter func109,ntmps109;go_wp2;go_ret;exact⟨rfl,rfl⟩
 have hr:v=false:=by
  rw[<-hv];simp[Num.aJ,hn];try omega
 subst hr;have t0:decide (48<=(n:Int))=true:=aei (by omega)
 have t1:decide ((n:Int)<=57)=false:=dF (by omega)
 clear hn hv h47 h57;go_enter func109,ntmps109;go_wp2;go_ret;exact⟨rfl,rfl⟩
def amK (c:UInt8) (w:World):
  Calls prog 108 #[.int .u8 c.toNat] w fun e w'=>e=.returned (.bool (Lex.isLet c))/\w=w':=by
 have hb:=byte_le c;obtain⟨n,hn⟩:=aj c.toNat;obtain⟨v,hv⟩:=aj (Lex.isLet c);rw[hv,hn];rw[hn]at hb;by_cases h64:n<=64
 ·have hr:v=false:=by
   rw[<-hv];simp[Lex.isLet,hn];try omega
  subst hr;have t0:decide (97<=(n:Int))=false:=dF (by omega)
  have t1:decide ((n:Int)<=122)=true:=aei (by omega)
  have t2:decide (65<=(n:Int))=false:=dF (by omega)
  have t3:decide ((n:Int)<=90)=true:=aei (by omega)
  have t4:((n:Int) == 95)=false:=by rw[aek];omega
  clear hn hv h64;go_enter func108,ntmps108;go_wp2;go_ret;exact⟨rfl,rfl⟩
 by_cases vP:n<=90
 ·have hr:v=true:=by
   rw[<-hv];simp[Lex.isLet,hn];try omega
  subst hr;have t0:decide (97<=(n:Int))=false:=dF (by omega)
  have t1:decide ((n:Int)<=122)=true:=aei (by omega)
  have t2:decide (65<=(n:Int))=true:=aei (by omega)
  have t3:decide ((n:Int)<=90)=true:=aei (by omega)
  have t4:((n:Int) == 95)=false:=by rw[aek];omega
  clear hn hv h64 vP;go_enter func108,ntmps108;go_wp2;go_ret;exact⟨rfl,rfl⟩
 by_cases yE:n<=94
 ·have hr:v=false:=by
   rw[<-hv];simp[Lex.isLet,hn];try omega
  subst hr;have t0:decide (97<=(n:Int))=false:=dF (by omega)
  have t1:decide ((n:Int)<=122)=true:=aei (by omega)
  have t2:decide (65<=(n:Int))=true:=aei (by omega)
  have t3:decide ((n:Int)<=90)=false:=dF (by omega)
  have t4:((n:Int) == 95)=false:=by rw[aek];omega
  clear hn hv h64 vP yE;go_enter func108,ntmps108;go_wp2;go_ret;exact⟨rfl,rfl⟩
 by_cases h95:n<=95
 ·have hr:v=true:=by
   rw[<-hv];simp[Lex.isLet,hn];try omega
  subst hr;have t0:decide (97<=(n:Int))=false:=dF (by omega)
  have t1:decide ((n:Int)<=122)=true:=aei (by omega)
  have t2:decide (65<=(n:Int))=true:=aei (by omega)
  have t3:decide ((n:Int)<=90)=false:=dF (by omega)
  have t4:((n:Int) == 95)=true:=by rw[show(n:Int)=95 by omega];rfl
  clear hn hv h64 vP yE h95;go_enter func108,ntmps108;go_wp2;go_ret;exact⟨rfl,rfl⟩
 by_cases Gi:n<=96
 ·have hr:v=false:=by
   rw[<-hv];simp[Lex.isLet,hn];try omega
  subst hr;have t0:decide (97<=(n:Int))=false:=dF (by omega)
  have t1:decide ((n:Int)<=122)=true:=aei (by omega)
  have t2:decide (65<=(n:Int))=true:=aei (by omega)
  have t3:decide ((n:Int)<=90)=false:=dF (by omega)
  have t4:((n:Int) == 95)=false:=by rw[aek];omega
  clear hn hv h64 vP yE h95 Gi;go_enter func108,ntmps108;go_wp2;go_ret;exact⟨rfl,rfl⟩
 by_cases h122:n<=122
 ·have hr:v=true:=by
   rw[<-hv];simp[Lex.isLet,hn];try omega
  subst hr;have t0:decide (97<=(n:Int))=true:=aei (by omega)
  have t1:decide ((n:Int)<=122)=true:=aei (by omega)
  have t2:decide (65<=(n:Int))=true:=aei (by omega)
  have t3:decide ((n:Int)<=90)=false:=dF (by omega)
  have t4:((n:Int) == 95)=false:=by rw[aek];omega
  clear hn hv h64 vP yE h95 Gi h122;go_enter func108,ntmps108;go_wp2;go_ret;exact⟨rfl,rfl⟩
 have hr:v=false:=by
  rw[<-hv];simp[Lex.isLet,hn];try omega
 subst hr;have t0:decide (97<=(n:Int))=true:=aei (by omega)
 have t1:decide ((n:Int)<=122)=false:=dF (by omega)
 have t2:decide (65<=(n:Int))=true:=aei (by omega)
 have t3:decide ((n:Int)<=90)=false:=dF (by omega)
 have t4:((n:Int) == 95)=false:=by rw[aek];omega
 clear hn hv h64 vP yE h95 Gi h122;go_enter func108,ntmps108;go_wp2;go_ret;exact⟨rfl,rfl⟩
def aec (c:UInt8) (w:World):
  Calls prog 209 #[.int .u8 c.toNat] w fun e w'=>e=.returned (.int .i64 (vF (Num.fC c)))/\w=w':=by
 have hb:=byte_le c;have hd:=fun(W:World)=>aeb c W
 obtain⟨n,hn⟩:=aj c.toNat;obtain⟨v,hv⟩:=aj (vF (Num.fC c));obtain⟨d,hdv⟩:=aj (Num.aJ c);rw[hdv]at hd;rw[hn]at hd hb⊢;rw[hv];unfold Num.fC at hv;unfold Num.aJ at hdv;rw[hn]at hv hdv;have HD:=ah hd;clear hd hn;by_cases h1:48<=n/\n<=57
 ·obtain⟨a1,a2⟩:=h1
  rw[aeu ⟨a1,a2⟩]at hv;have e1:d=true:=by rw[<-hdv];simp[a1,a2]
  subst e1;have e2:(48:Int)<=n:=by omega
  have e3:(n:Int)<=57:=by omega
  have HV:Hid (v=(n:Int) - 48):=by rw[<-hv];refine ah ?_;show((n - 48:Nat):Int)=_;omega
  clear hv hdv a1 a2;go_enter func209,ntmps209;go_wp2_with fail;refine iq7 (HD.out _) ?_;go_wp2;go_ret;exact⟨by rw[HV.out];rfl,rfl⟩
 rw[aer h1]at hv;have e1:d=false:=by rw[<-hdv,apA];intro h;simp at h;exact h1 h
 subst e1;by_cases h2:97<=n/\n<=102
 ·obtain⟨a1,a2⟩:=h2
  rw[aeu ⟨a1,a2⟩]at hv;have e2:(97:Int)<=n:=by omega
  have e3:(n:Int)<=102:=by omega
  have t1:decide (97<=(n:Int))=true:=aei e2;have t2:decide ((n:Int)<=102)=true:=aei e3;have HV:Hid (v=(n:Int) - 97+10):=by rw[<-hv];refine ah ?_;show((n - 87:Nat):Int)=_;omega
  clear hv hdv a1 a2 h1;go_enter func209,ntmps209;go_wp2_with fail;refine iq7 (HD.out _) ?_;go_wp2;go_ret;exact⟨by rw[HV.out];rfl,rfl⟩
 rw[aer h2]at hv;have HV:Hid (v= -1):=by rw[<-hv];exact ah rfl
 by_cases h3:n<97
 ·have t1:decide (97<=(n:Int))=false:=dF (by omega)
  clear hv hdv h1 h2 h3;go_enter func209,ntmps209;go_wp2_with fail;refine iq7 (HD.out _) ?_;go_wp2;go_ret;exact⟨by rw[HV.out];rfl,rfl⟩
 have t1:decide (97<=(n:Int))=true:=aei (by omega)
 have t2:decide ((n:Int)<=102)=false:=dF (by omega)
 clear hv hdv h1 h2 h3;go_enter func209,ntmps209;go_wp2_with fail;refine iq7 (HD.out _) ?_;go_wp2;go_ret;exact⟨by rw[HV.out];rfl,rfl⟩
def amL (s:ByteArray) (i:Nat) (w:World) (hs:s.size<=1073741824) (hi:i<=s.size):
  Calls prog 56 #[.string s,.int .i64 i] w fun e w'=>e=.returned (.int .i64 ((i+Lex.gap false (s.data.toList.drop i):Nat):Int))/\w=w':=by
 obtain⟨R,hR⟩:=aj (i+Lex.gap false (s.data.toList.drop i));rw[hR];have HR:=ah hR;clear hR;go_enter func56,ntmps56;go_wp2_with fail
 go_loopg [1,5] (s.size - i) (fun g x st wx=> ∃(k:Nat) (b:Bool),k+g=s.size/\x=.int .i64 k/\st=.bool b/\k+Lex.gap b (s.data.toList.drop k)=R/\w=wx)
 case atStart=>exact⟨i,false,by omega,rfl,rfl,HR.out,rfl⟩
 obtain⟨k,b,hk,rfl,rfl,hg,rfl⟩:=hrel;have HG:=ah hg;have HK:=ah hk;have hkb:(k:Int)<=1073741824:=by omega
 clear hg HR;cases gk with
 |zero=>
  obtain rfl:k=s.size:=by omega
  have hr:s.size=R:=by have:=HG.out;rw[sO (aej _)]at this;cases b<;>simpa[Lex.gap] using this
  have HRR:=ah hr;clear hr hk;go_wp2;go_ret;exact⟨by rw[<-HRR.out];rfl,rfl⟩
 |succ g=>
  have hlt:k<s.size:=by omega
  have yF:(k:Int)<s.size:=by omega
  have hd:=jm hlt;obtain⟨c,hc⟩:=aj (s[k]'hlt);rw[hc]at hd;have hg:=HG.out;rw[hd]at hg;clear hk;cases b with
  |true=>
   obtain⟨b',hb'⟩:=aj (c !=10);have t1:(((s[k]'hlt).toNat:Int) !=10)=b':=by rw[hc];exact bn' (k:=10) rfl hb'
   have hn:k+1+Lex.gap b' (s.data.toList.drop (k+1))=R:=by
    simp only[Lex.gap,hb']at hg;omega
   have HN:=ah hn;clear hn hg hd hc hb' HG;go_wp2
   go_roundg g
   case measure=>omega
   exact⟨k+1,b',by have:=HK.out;omega,int_eq' (by omega),rfl,HN.out,rfl⟩
  |false=>
   by_cases h47:c=47
   ·subst h47
    have aqe:(((s[k]'hlt).toNat:Int) == 47)=true:=by rw[hc];rfl
    have OO:(((s[k]'hlt).toNat:Int) !=32)=true:=by rw[hc];rfl
    have OQ:(((s[k]'hlt).toNat:Int) !=9)=true:=by rw[hc];rfl
    have OT:(((s[k]'hlt).toNat:Int) !=10)=true:=by rw[hc];rfl
    have OU:(((s[k]'hlt).toNat:Int) !=13)=true:=by rw[hc];rfl
    by_cases hl2:k+1<s.size
    ·have aqf:(k:Int)+1<s.size:=by omega
     have u1:decide ((k:Int)+1<s.size)=true:=aei aqf;have hd2:=jm hl2;obtain⟨d,hdd⟩:=aj (s[k+1]'hl2);rw[hdd]at hd2;by_cases Tn:d=47
     ·subst Tn
      have u2:(((s[k+1]'hl2).toNat:Int) == 47)=true:=by rw[hdd];rfl
      have hn:k+1+Lex.gap true (s.data.toList.drop (k+1))=R:=by
       simp only[Lex.gap]at hg;rw[aeu ⟨trivial,by rw[hd2];rfl⟩]at hg
       omega
      have HN:=ah hn;clear hn hg hd hc HG hd2 hdd;go_wp2
      go_roundg g
      case measure=>omega
      exact⟨k+1,true,by have:=HK.out;omega,int_eq' (by omega),rfl,HN.out,rfl⟩
     have u2:(((s[k+1]'hl2).toNat:Int) == 47)=false:=by rw[hdd];exact bq (k:=47) rfl (aek.2 Tn)
     have hr:k=R:=by
      simp only[Lex.gap]at hg;rw[aer (fun h=>Tn (by have:=h.2;rw[hd2]at this;simpa using this)),aer (by decide)]at hg
      omega
     have HRR:=ah hr;clear hr hg hd hc HG hd2 hdd Tn;go_wp2;go_ret;exact⟨by rw[<-HRR.out];rfl,rfl⟩
    have u1:decide ((k:Int)+1<s.size)=false:=dF (by omega)
    have hr:k=R:=by
     simp only[Lex.gap]at hg;rw[aer (fun h=>by have:=h.2;rw[sO (by omega)]at this;cases this),aer (by decide)]at hg
     omega
    have HRR:=ah hr;clear hr hg hd hc HG hl2;go_wp2;go_ret;exact⟨by rw[<-HRR.out];rfl,rfl⟩
   have aqe:(((s[k]'hlt).toNat:Int) == 47)=false:=by rw[hc];exact bq (k:=47) rfl (aek.2 h47)
   by_cases h32:c=32
   ·subst h32
    have OO:(((s[k]'hlt).toNat:Int) !=32)=false:=by rw[hc];rfl
    have OQ:(((s[k]'hlt).toNat:Int) !=9)=true:=by rw[hc];rfl
    have OT:(((s[k]'hlt).toNat:Int) !=10)=true:=by rw[hc];rfl
    have OU:(((s[k]'hlt).toNat:Int) !=13)=true:=by rw[hc];rfl
    have hn:k+1+Lex.gap false (s.data.toList.drop (k+1))=R:=by
     simp only[Lex.gap]at hg;rw[aer (fun h=>h47 h.1),aeu (by decide)]at hg
     omega
    have HN:=ah hn;clear hn hg hd hc HG h47;go_wp2
    go_roundg g
    case measure=>omega
    exact⟨k+1,false,by have:=HK.out;omega,int_eq' (by omega),rfl,HN.out,rfl⟩
   by_cases h9:c=9
   ·subst h9
    have OO:(((s[k]'hlt).toNat:Int) !=32)=true:=by rw[hc];rfl
    have OQ:(((s[k]'hlt).toNat:Int) !=9)=false:=by rw[hc];rfl
    have OT:(((s[k]'hlt).toNat:Int) !=10)=true:=by rw[hc];rfl
    have OU:(((s[k]'hlt).toNat:Int) !=13)=true:=by rw[hc];rfl
    have hn:k+1+Lex.gap false (s.data.toList.drop (k+1))=R:=by
     simp only[Lex.gap]at hg;rw[aer (fun h=>h47 h.1),aeu (by decide)]at hg
     omega
    have HN:=ah hn;clear hn hg hd hc HG h47 h32;go_wp2
    go_roundg g
    case measure=>omega
    exact⟨k+1,false,by have:=HK.out;omega,int_eq' (by omega),rfl,HN.out,rfl⟩
   by_cases h10:c=10
   ·subst h10
    have OO:(((s[k]'hlt).toNat:Int) !=32)=true:=by rw[hc];rfl
    have OQ:(((s[k]'hlt).toNat:Int) !=9)=true:=by rw[hc];rfl
    have OT:(((s[k]'hlt).toNat:Int) !=10)=false:=by rw[hc];rfl
    have OU:(((s[k]'hlt).toNat:Int) !=13)=true:=by rw[hc];rfl
    have hn:k+1+Lex.gap false (s.data.toList.drop (k+1))=R:=by
     simp only[Lex.gap]at hg;rw[aer (fun h=>h47 h.1),aeu (by decide)]at hg
     omega
    have HN:=ah hn;clear hn hg hd hc HG h47 h32 h9;go_wp2
    go_roundg g
    case measure=>omega
    exact⟨k+1,false,by have:=HK.out;omega,int_eq' (by omega),rfl,HN.out,rfl⟩
   by_cases h13:c=13
   ·subst h13
    have OO:(((s[k]'hlt).toNat:Int) !=32)=true:=by rw[hc];rfl
    have OQ:(((s[k]'hlt).toNat:Int) !=9)=true:=by rw[hc];rfl
    have OT:(((s[k]'hlt).toNat:Int) !=10)=true:=by rw[hc];rfl
    have OU:(((s[k]'hlt).toNat:Int) !=13)=false:=by rw[hc];rfl
    have hn:k+1+Lex.gap false (s.data.toList.drop (k+1))=R:=by
     simp only[Lex.gap]at hg;rw[aer (fun h=>h47 h.1),aeu (by decide)]at hg
     omega
    have HN:=ah hn;clear hn hg hd hc HG h47 h32 h9 h10;go_wp2
    go_roundg g
    case measure=>omega
    exact⟨k+1,false,by have:=HK.out;omega,int_eq' (by omega),rfl,HN.out,rfl⟩
   have OO:(((s[k]'hlt).toNat:Int) !=32)=true:=by rw[hc];exact bn (k:=32) rfl h32
   have OQ:(((s[k]'hlt).toNat:Int) !=9)=true:=by rw[hc];exact bn (k:=9) rfl h9
   have OT:(((s[k]'hlt).toNat:Int) !=10)=true:=by rw[hc];exact bn (k:=10) rfl h10
   have OU:(((s[k]'hlt).toNat:Int) !=13)=true:=by rw[hc];exact bn (k:=13) rfl h13
   have hr:k=R:=by
    simp only[Lex.gap]at hg;rw[aer (fun h=>h47 h.1),aer (by simp[Lex.blank,h32,h9,h10,h13])]at hg
    omega
   have HRR:=ah hr;clear hr hg hd hc HG h47 h32 h9 h10 h13;go_wp2;go_ret;exact⟨by rw[<-HRR.out];rfl,rfl⟩
def wV (r:Option (UInt8×Nat)):Value:=
 match r with
 |some (x,n)=> .tuple #[.int .u8 (x.toNat:Int),.int .i64 (n:Int)]
 |none=> .tuple #[.int .u8 0,.int .i64 0]
def yx {P:Program} {fn:Func} {R:Ending->World->Prop} {tmps:Array Value} {W:World} {a b:Tmp} (h:fn.results= #[.tmp a,.tmp b]) (hR:R (.returned (.tuple #[tmps.getD a undef,tmps.getD b undef])) W):
  bodyPost P fn R .ret {tmps:=tmps,defers:=[]} W:=
 arW (v:=.tuple #[tmps.getD a undef,tmps.getD b undef]) (by simp[results,h,go_sem]) rfl hR
def amM (s:ByteArray) (k:Nat) (w:World) (hs:s.size<=1073741824) (hk:k<=s.size):
  Calls prog 165 #[.string s,.int .i64 k] w fun e w'=>e=.returned (wV (Lex.esc (s.data.toList.drop k)))/\Below w.heap.size w w':=by
 obtain⟨R,hR⟩:=aj (Lex.esc (s.data.toList.drop k));rw[hR];have hki:(k:Int)<=1073741824:=by omega
 by_cases hlt:k<s.size
 case neg=>
  have hle:(s.size:Int)<=k:=by omega
  rw[sO (by omega)]at hR
  have hr:wV R=.tuple #[.int .u8 0,.int .i64 0]:=by rw[<-hR];rfl
  have HH:=ah hr;clear hR hr hlt;go_enter func165,ntmps165;go_wp2;refine yx rfl ?_;exact⟨by rw[HH.out];rfl,aoa _ _⟩
 case pos=>
 have yF:(k:Int)<s.size:=by omega
 rw[jm hlt]at hR;obtain⟨c,hc⟩:=aj (s[k]'hlt);rw[hc]at hR;unfold Lex.esc at hR;simp only at hR;by_cases eX:c=92
 ·subst eX
  have Fe:(((s[k]'hlt).toNat:Int) == 92)=true:=by rw[hc];rfl
  have Fg:(((s[k]'hlt).toNat:Int) == 39)=false:=by rw[hc];rfl
  have J9:(((s[k]'hlt).toNat:Int) == 110)=false:=by rw[hc];rfl
  have Ko:(((s[k]'hlt).toNat:Int) == 114)=false:=by rw[hc];rfl
  have Kq:(((s[k]'hlt).toNat:Int) == 116)=false:=by rw[hc];rfl
  have Kr:(((s[k]'hlt).toNat:Int) == 120)=false:=by rw[hc];rfl
  have hr:wV R=.tuple #[.int .u8 ((s[k]'hlt).toNat:Int),.int .i64 1]:=by rw[<-hR,hc];rfl
  have HH:=ah hr;clear hR hr hc;go_enter func165,ntmps165;go_wp2;refine yx rfl ?_;exact⟨by rw[HH.out];rfl,aoa _ _⟩
 by_cases bQ:c=39
 ·subst bQ
  have Fe:(((s[k]'hlt).toNat:Int) == 92)=false:=by rw[hc];rfl
  have Fg:(((s[k]'hlt).toNat:Int) == 39)=true:=by rw[hc];rfl
  have J9:(((s[k]'hlt).toNat:Int) == 110)=false:=by rw[hc];rfl
  have Ko:(((s[k]'hlt).toNat:Int) == 114)=false:=by rw[hc];rfl
  have Kq:(((s[k]'hlt).toNat:Int) == 116)=false:=by rw[hc];rfl
  have Kr:(((s[k]'hlt).toNat:Int) == 120)=false:=by rw[hc];rfl
  have hr:wV R=.tuple #[.int .u8 ((s[k]'hlt).toNat:Int),.int .i64 1]:=by rw[<-hR,hc];rfl
  have HH:=ah hr;clear hR hr hc eX;go_enter func165,ntmps165;go_wp2;refine yx rfl ?_;exact⟨by rw[HH.out];rfl,aoa _ _⟩
 by_cases jR:c=110
 ·subst jR
  have Fe:(((s[k]'hlt).toNat:Int) == 92)=false:=by rw[hc];rfl
  have Fg:(((s[k]'hlt).toNat:Int) == 39)=false:=by rw[hc];rfl
  have J9:(((s[k]'hlt).toNat:Int) == 110)=true:=by rw[hc];rfl
  have Ko:(((s[k]'hlt).toNat:Int) == 114)=false:=by rw[hc];rfl
  have Kq:(((s[k]'hlt).toNat:Int) == 116)=false:=by rw[hc];rfl
  have Kr:(((s[k]'hlt).toNat:Int) == 120)=false:=by rw[hc];rfl
  have hr:wV R=.tuple #[.int .u8 10,.int .i64 1]:=by rw[<-hR];rfl
  have HH:=ah hr;clear hR hr hc eX bQ;go_enter func165,ntmps165;go_wp2;refine yx rfl ?_;exact⟨by rw[HH.out];rfl,aoa _ _⟩
 by_cases kZ:c=114
 ·subst kZ
  have Fe:(((s[k]'hlt).toNat:Int) == 92)=false:=by rw[hc];rfl
  have Fg:(((s[k]'hlt).toNat:Int) == 39)=false:=by rw[hc];rfl
  have J9:(((s[k]'hlt).toNat:Int) == 110)=false:=by rw[hc];rfl
  have Ko:(((s[k]'hlt).toNat:Int) == 114)=true:=by rw[hc];rfl
  have Kq:(((s[k]'hlt).toNat:Int) == 116)=false:=by rw[hc];rfl
  have Kr:(((s[k]'hlt).toNat:Int) == 120)=false:=by rw[hc];rfl
  have hr:wV R=.tuple #[.int .u8 13,.int .i64 1]:=by rw[<-hR];rfl
  have HH:=ah hr;clear hR hr hc eX bQ jR;go_enter func165,ntmps165;go_wp2;refine yx rfl ?_;exact⟨by rw[HH.out];rfl,aoa _ _⟩
 by_cases h116:c=116
 ·subst h116
  have Fe:(((s[k]'hlt).toNat:Int) == 92)=false:=by rw[hc];rfl
  have Fg:(((s[k]'hlt).toNat:Int) == 39)=false:=by rw[hc];rfl
  have J9:(((s[k]'hlt).toNat:Int) == 110)=false:=by rw[hc];rfl
  have Ko:(((s[k]'hlt).toNat:Int) == 114)=false:=by rw[hc];rfl
  have Kq:(((s[k]'hlt).toNat:Int) == 116)=true:=by rw[hc];rfl
  have Kr:(((s[k]'hlt).toNat:Int) == 120)=false:=by rw[hc];rfl
  have hr:wV R=.tuple #[.int .u8 9,.int .i64 1]:=by rw[<-hR];rfl
  have HH:=ah hr;clear hR hr hc eX bQ jR kZ;go_enter func165,ntmps165;go_wp2;refine yx rfl ?_;exact⟨by rw[HH.out];rfl,aoa _ _⟩
 rw[aer (by rintro(h|h);exact eX h;exact bQ h),aer jR,aer kZ,aer h116]at hR
 by_cases pU:c=120
 case neg=>
  have Fe:(((s[k]'hlt).toNat:Int) == 92)=false:=by rw[hc];exact bq (k:=92) rfl (aek.2 eX)
  have Fg:(((s[k]'hlt).toNat:Int) == 39)=false:=by rw[hc];exact bq (k:=39) rfl (aek.2 bQ)
  have J9:(((s[k]'hlt).toNat:Int) == 110)=false:=by rw[hc];exact bq (k:=110) rfl (aek.2 jR)
  have Ko:(((s[k]'hlt).toNat:Int) == 114)=false:=by rw[hc];exact bq (k:=114) rfl (aek.2 kZ)
  have Kq:(((s[k]'hlt).toNat:Int) == 116)=false:=by rw[hc];exact bq (k:=116) rfl (aek.2 h116)
  have Kr:(((s[k]'hlt).toNat:Int) == 120)=false:=by rw[hc];exact bq (k:=120) rfl (aek.2 pU)
  rw[aer pU]at hR;have hr:wV R=.tuple #[.int .u8 0,.int .i64 0]:=by rw[<-hR];rfl
  have HH:=ah hr;clear hR hr hc eX bQ jR kZ h116 pU;go_enter func165,ntmps165;go_wp2;refine yx rfl ?_;exact⟨by rw[HH.out];rfl,aoa _ _⟩
 case pos=>
 subst pU;have Fe:(((s[k]'hlt).toNat:Int) == 92)=false:=by rw[hc];rfl
 have Fg:(((s[k]'hlt).toNat:Int) == 39)=false:=by rw[hc];rfl
 have J9:(((s[k]'hlt).toNat:Int) == 110)=false:=by rw[hc];rfl
 have Ko:(((s[k]'hlt).toNat:Int) == 114)=false:=by rw[hc];rfl
 have Kq:(((s[k]'hlt).toNat:Int) == 116)=false:=by rw[hc];rfl
 have Kr:(((s[k]'hlt).toNat:Int) == 120)=true:=by rw[hc];rfl
 rw[aeu rfl]at hR;clear eX bQ jR kZ h116;by_cases h2:k+2<s.size
 case neg=>
  have u1:decide ((k:Int)+2<s.size)=false:=dF (by omega)
  have hr:wV R=.tuple #[.int .u8 0,.int .i64 0]:=by
   rw[<-hR];have hlen:(s.data.toList.drop (k+1)).length<=1:=by rw[ae1,<-aof];omega
   match hm:s.data.toList.drop (k+1),hlen with
   |[],_=>rfl
   |[a],_=>rfl
   |a :: b :: r,h=>simp at h
  have HH:=ah hr;clear hR hr hc h2;go_enter func165,ntmps165;go_wp2;refine yx rfl ?_;exact⟨by rw[HH.out];rfl,aoa _ _⟩
 case pos=>
 have h2i:(k:Int)+2<s.size:=by omega
 have h1:k+1<s.size:=by omega
 have h1i:(k:Int)+1<s.size:=by omega
 have u1:decide ((k:Int)+2<s.size)=true:=aei h2i;rw[jm h1,jm h2]at hR;simp only at hR;obtain⟨p,hp⟩:=aj (s[k+1]'h1);obtain⟨q,hq0⟩:=aj (s[k+1+1]'h2);rw[hp,hq0]at hR;have hq:s[k+2]'h2=q:=hq0;clear hq0;have hA:=fun(W:World)=>aec p W
 have hB:=fun(W:World)=>aec q W
 obtain⟨x,hx⟩:=aj (Num.fC p);obtain⟨y,hy⟩:=aj (Num.fC q);rw[hx]at hA hR;rw[hy]at hB hR;have hxl:=fun d (e:x=some d)=>Num.zM (hx.trans e)
 have hyl:=fun d (e:y=some d)=>Num.zM (hy.trans e)
 have HA:=ah hA;have HB:=ah (show∀W:World,Calls prog 209 #[.int .u8 (q.toNat:Int)] W fun e w'=>e=.returned (.int .i64 (vF y))/\W=w' from hB)
 clear hA hB hx hy hc;cases x with
 |none=>
  have hr:wV R=.tuple #[.int .u8 0,.int .i64 0]:=by rw[<-hR];rfl
  have HH:=ah hr;have HA2:=ah (show∀W:World,Calls prog 209 #[.int .u8 (p.toNat:Int)] W fun e w'=>e=.returned (.int .i64 (-1))/\W=w' from HA.out)
  clear hR hr hxl hyl HA;go_enter func165,ntmps165;go_wp2_with fail;refine iq7 (HA2.out _) ?_;go_wp2;refine yx rfl ?_;exact⟨by rw[HH.out];rfl,aoa _ _⟩
 |some x=>
  have hx16:=hxl x rfl;have hx0:(0:Int)<=x:=by omega
  have asq:(x:Int)<=15:=by omega
  have HA2:=ah (show∀W:World,Calls prog 209 #[.int .u8 (p.toNat:Int)] W fun e w'=>e=.returned (.int .i64 (x:Int))/\W=w' from HA.out)
  clear HA hxl;cases y with
  |none=>
   have hr:wV R=.tuple #[.int .u8 0,.int .i64 0]:=by rw[<-hR];rfl
   have HH:=ah hr;have HB2:=ah (show∀W:World,Calls prog 209 #[.int .u8 (q.toNat:Int)] W fun e w'=>e=.returned (.int .i64 (-1))/\W=w' from HB.out)
   clear hR hr hyl HB;go_enter func165,ntmps165;go_wp2_with fail;refine iq7 (HA2.out _) ?_;go_wp2_with fail;refine iq7 (HB2.out _) ?_;go_wp2;refine yx rfl ?_;exact⟨by rw[HH.out];rfl,aoa _ _⟩
  |some y=>
   have asr:=hyl y rfl;have hy0:(0:Int)<=y:=by omega
   have asu:(y:Int)<=15:=by omega
   have HB2:=ah (show∀W:World,Calls prog 209 #[.int .u8 (q.toNat:Int)] W fun e w'=>e=.returned (.int .i64 (y:Int))/\W=w' from HB.out)
   have hr:wV R=.tuple #[.int .u8 ((x:Int)*16+y),.int .i64 3]:=by
    rw[<-hR]
    have:((UInt8.ofNat (x*16+y)).toNat:Int)=(x:Int)*16+y:=by
     rw[UInt8.toNat_ofNat',ap1 (by omega)]
     omega
    show Value.tuple #[.int .u8 ((UInt8.ofNat (x*16+y)).toNat:Int),.int .i64 ((3:Nat):Int)]=_
    rw[this];rfl
   have HH:=ah hr;clear hR hr hyl HB;go_enter func165,ntmps165;go_wp2_with fail;refine iq7 (HA2.out _) ?_;go_wp2_with fail;refine iq7 (HB2.out _) ?_;go_wp2_with fail;have Il:=ah (fun W:World=>(HA2.out W).mono fun e w' (h:_/\W=w')=>(⟨h.1,h.2.symm⟩:e=.returned (.int .i64 (x:Int))/\w'=W))
   have HB3:=ah (fun W:World=>(HB2.out W).mono fun e w' (h:_/\W=w')=>(⟨h.1,h.2.symm⟩:e=.returned (.int .i64 (y:Int))/\w'=W))
   have r1:IntKind.i64.wrap ((k:Int)+1)=(k:Int)+1:=as1 _ (by omega)
   have r2:IntKind.i64.wrap ((k:Int)+2)=(k:Int)+2:=as1 _ (by omega)
   have r3:IntKind.i64.wrap ((x:Int)*16)=(x:Int)*16:=as1 _ (by omega)
   have r4:IntKind.i64.wrap ((x:Int)*16+y)=(x:Int)*16+y:=as1 _ (by omega)
   have r5:IntKind.u8.wrap ((x:Int)*16+y)=(x:Int)*16+y:=IntWalk.u8_in _ (by omega)
   have s1:((k:Int)+1).toNat=k+1:=by omega
   have s2:((k:Int)+2).toNat=k+2:=by omega
   have p1:(0:Int)<=(k:Int)+1:=by omega
   have p2:(0:Int)<=(k:Int)+2:=by omega
   refine wp_region_quiet_lit (by kernel_rfl) (by kernel_rfl) ?_
   iterate 5 (quiet_step (exact ash (Il.out _)))
   iterate 10 (quiet_step (exact ash (HB3.out _)))
   refine atj ?_;intro _ hw';obtain⟨nq,hw''⟩:=hw';subst hw'';go_wp2;refine yx rfl ?_;exact⟨by rw[HH.out];rfl,below_drewN (aoa _ _) _⟩
def kH:Lex.iG->Nat->Value
 |.tok kd tx nm n,i=> .tuple #[.agg #[.int .i64 (kd:Int),.string ⟨tx.toArray⟩,.int .i64 nm,.int .i64 (i:Int)],.int .i64 ((i+n:Nat):Int),.int .i64 0]
 |.err o e,i=> .tuple #[.agg #[.int .i64 0,.string ⟨#[]⟩,.int .i64 0,.int .i64 ((i+o:Nat):Int)],.int .i64 0,.int .i64 (e:Int)]
def Je (r:Lex.iG) (i:Nat) (w:World) (e:Ending) (w':World):Prop:=e=.returned (kH r i)/\Below w.heap.size w w'
def qI {fn:Func} {r:Lex.iG} {i:Nat} {w W:World} {tmps:Array Value} {p a b:Tmp} {u0 u1 u2 u3 v0 v1 v2 v3 v4 v5:Value} (hfn:fn.results= #[.cell p 94,.tmp a,.tmp b])
  (ht:tmps.getD p undef=.pointer (some ⟨w.heap.size,0,none⟩)) (ha:tmps.getD a undef=v4) (hb':tmps.getD b undef=v5) (hB:ak W w.heap.size 94 #[u0,u1,u2,u3]) (hb:Below w.heap.size w W)
  (hv:kH r i=.tuple #[.agg #[v0,v1,v2,v3],v4,v5]):
  bodyPost prog fn (Je r i w) .ret {tmps:=tmps,defers:=[]} ((((W.setCell ⟨w.heap.size,0,none⟩ v0).setCell ⟨w.heap.size,1,none⟩ v1).setCell ⟨w.heap.size,2,none⟩ v2).setCell ⟨w.heap.size,3,none⟩ v3):=by
 have hb0:Below w.heap.size w (W.setCell ⟨w.heap.size,0,none⟩ v0):=hb.setCell (aej _) _;have hb1:=hb0.setCell (p:=⟨w.heap.size,1,none⟩) (aej _) v1;have hb2:=hb1.setCell (p:=⟨w.heap.size,2,none⟩) (aej _) v2;have hb3:=hb2.setCell (p:=⟨w.heap.size,3,none⟩) (aej _) v3
 have hB':ak ((((W.setCell ⟨w.heap.size,0,none⟩ v0).setCell ⟨w.heap.size,1,none⟩ v1).setCell ⟨w.heap.size,2,none⟩ v2).setCell ⟨w.heap.size,3,none⟩ v3) w.heap.size 94 #[v0,v1,v2,v3]:=
  ak.cast ((((hB.aG 0 v0).aG 1 v1).aG 2 v2).aG 3 v3) (by simp)
 obtain⟨WW,RZ⟩:=aj ((((W.setCell ⟨w.heap.size,0,none⟩ v0).setCell ⟨w.heap.size,1,none⟩ v1).setCell ⟨w.heap.size,2,none⟩ v2).setCell ⟨w.heap.size,3,none⟩ v3);rw[RZ]at hB' hb3⊢;have c0:=hB'.cell 0;have c1:=hB'.cell 1;have c2:=hB'.cell 2;have c3:=hB'.cell 3;simp at c0 c1 c2 c3;refine arW (v:=.tuple #[.agg #[v0,v1,v2,v3],v4,v5]) ?_ rfl ⟨by rw[hv],hb3⟩
 subst ha hb';simp at ht;simp[results,hfn,go_sem,ht,c0,c1,c2,c3]
structure F9 (s:ByteArray) (i:Nat) (R:Lex.iG) (w:World) (g k o:Nat) (acc:List UInt8) (v:Value) (wx:World):Prop where
 off:i+o=k
 meas:s.size - k<=g
 len:acc.length<=k
 le:k<=s.size
 text:Lex.fG (g+1) (s.data.toList.drop k) o acc=R
 bel:Below w.heap.size w wx
 blk:ak wx w.heap.size 94 #[.int .i64 0,.string ⟨#[]⟩,.int .i64 0,.int .i64 0]
 own:OwnB (w.heap.size+1) v acc wx
 big:w.heap.size+1<=wx.heap.size
def vO {W:World} {b:Nat} {v0 v1 v2 v3:Value} (h:ak W b 94 #[v0,v1,v2,v3]):
  W.cell? ⟨b,0,none⟩=some v0/\W.cell? ⟨b,1,none⟩=some v1/\W.cell? ⟨b,2,none⟩=some v2/\W.cell? ⟨b,3,none⟩=some v3/\
  W.frozen? ⟨b,0,none⟩=false/\W.frozen? ⟨b,1,none⟩=false/\W.frozen? ⟨b,2,none⟩=false/\W.frozen? ⟨b,3,none⟩=false:=
 ⟨h.cell 0,h.cell 1,h.cell 2,h.cell 3,h.frozen 0,h.frozen 1,h.frozen 2,h.frozen 3⟩
def F9.below {s:ByteArray} {i:Nat} {R:Lex.iG} {w:World} {g k o:Nat} {acc:List UInt8} {v:Value} {wx wy:World} (h:F9 s i R w g k o acc v wx) (hb:Below wx.heap.size wx wy):F9 s i R w g k o acc v wy:=
 ⟨h.off,h.meas,h.len,h.le,h.text,h.bel.trans (hb.mono (by have:=h.big;omega)),h.blk.below hb h.blk.lt,eu h.own (bV hb none) (fun g c t fz hr=>by cases hr),aep h.big hb.size⟩
def F9.next {s:ByteArray} {i:Nat} {R:Lex.iG} {w:World} {g g' k k' o o':Nat} {acc:List UInt8} {x:UInt8} {v v':Value} {wx wy:World} (h:F9 s i R w g k o acc v wx)
  (e1:i+o'=k') (e2:s.size - k'<=g') (e3:k<k') (e4:k'<=s.size) (e5:Lex.fG (g'+1) (s.data.toList.drop k') o' (acc++[x])=R)
  (hown:OwnB (w.heap.size+1) v' (acc++[x]) wy) (hg:wx.grownBy wy v.ownBlock) (hb:Below (w.heap.size+1) wx wy):F9 s i R w g' k' o' (acc++[x]) v' wy:=by
 have hlen:=h.len;refine⟨e1,e2,by rw[aeo,afP];omega,e4,e5,h.bel.trans (hb.mono (ahy _)),h.blk.below hb (aeX _),hown,aep h.big hb.size⟩
def amN (s:ByteArray) (i:Nat) (w:World) (hs:s.size<=1073741823) (hi:i<s.size):
  Calls prog 107 #[.string s,.int .i64 i] w (Je (Lex.fG (s.size - i) (s.data.toList.drop (i+1)) 1 []) i w):=by
 obtain⟨R,hR⟩:=aj (Lex.fG (s.size - i) (s.data.toList.drop (i+1)) 1 []);rw[hR];have HR:=ah hR;clear hR;have hii:(i:Int)<s.size:=by omega
 go_enter func107,ntmps107;go_wp2
 go_loopg [7,8] (s.size -(i+1)) (fun g v x wx=> ∃(k o:Nat) (acc:List UInt8),x=.int .i64 k/\F9 s i R w g k o acc v wx)
 case atStart=>
  refine⟨i+1,1,[],int_eq' (by omega),⟨by omega,by omega,by simp,by omega, ?_, ?_, ?_, ?_, ?_⟩⟩
  ·rw[show s.size -(i+1)+1=s.size - i by omega];exact HR.out
  ·exact((aoa _ w).alloc (aej _) _).alloc (by simp) _
  ·exact(ak.new _ _ _).alloc _
  ·have:=aiZ (w.alloc (.cells #[.int .i64 0,.string ⟨#[]⟩,.int .i64 0,.int .i64 0] 94)) (w.heap.size+1) 5 0 #[] (by simp) rfl
   simpa[OwnB,Lib.byteCells] using this
  simp
 obtain⟨k,o,acc,rfl,hrel⟩:=hrel;have HQ:=ah hrel;have hsz:=hrel.big;have hkle:=hrel.le;have hki:(k:Int)<=1073741823:=by omega
 have hal:acc.length<1073741824:=by have:=hrel.len;omega
 obtain⟨b0,b1,b2,b3,f0,f1,f2,f3⟩:=vO hrel.blk;obtain⟨A7,c7,rfl⟩:=aH hrel.own;have hcv:=hrel.own.conv;clear hrel HR;by_cases hlt:k<s.size
 case neg=>
  obtain rfl:k=s.size:=by omega
  have hr:R=.err 0 241:=by
   have:=HQ.text;rw[sO (aej _)]at this;exact this.symm
  have HRR:Hid (kH R i=.tuple #[.agg #[.int .i64 0,.string ⟨#[]⟩,.int .i64 0,.int .i64 i],.int .i64 0,.int .i64 241]):=by rw[hr];exact ah rfl
  clear hr hlt hcv;go_wp2;exact qI results107 rfl rfl rfl HQ.blk HQ.bel HRR.out
 case pos=>
 have yF:(k:Int)<s.size:=by omega
 cases gk with
 |zero=>have:=HQ.meas;omega
 |succ g=>
 have hst:=HQ.text;rw[jm hlt]at hst;obtain⟨c,hc⟩:=aj (s[k]'hlt);rw[hc]at hst;by_cases bQ:c=39
 ·subst bQ
  have Fg:(((s[k]'hlt).toNat:Int) == 39)=true:=by rw[hc];rfl
  have HRR:Hid (kH R i=.tuple #[.agg #[.int .i64 4,.string ⟨acc.toArray⟩,.int .i64 0,.int .i64 i],.int .i64 ((k:Int)+1),.int .i64 0]):=by
   refine ah ?_;rw[<-hst];simp only[Lex.fG,anN,kH];rw[show((i+(o+1):Nat):Int)=(k:Int)+1 by have:=HQ.off;omega]
   rfl
  clear hst hc;go_wp2;exact qI results107 rfl rfl rfl HQ.blk HQ.bel HRR.out
 have Fg:(((s[k]'hlt).toNat:Int) == 39)=false:=by rw[hc];exact bq (k:=39) rfl (aek.2 bQ)
 have hcn:(s[k]'hlt).toNat=c.toNat:=by rw[hc]
 by_cases hodd:Lex.odd c=true
 ·have HRR:Hid (kH R i=.tuple #[.agg #[.int .i64 0,.string ⟨#[]⟩,.int .i64 0,.int .i64 (k:Int)],.int .i64 0,.int .i64 240]):=by
   refine ah ?_;rw[<-hst];simp only[Lex.fG];rw[aer bQ,aeu hodd];simp only[kH,HQ.off];rfl
  by_cases h32:c.toNat<32
  ·have u1:decide (((s[k]'hlt).toNat:Int)<32)=true:=aei (by omega)
   clear hst hc hodd bQ h32 hcn hcv;go_wp2;exact qI results107 rfl rfl rfl HQ.blk HQ.bel HRR.out
  have u1:decide (((s[k]'hlt).toNat:Int)<32)=false:=dF (by omega)
  have u2:decide (126<((s[k]'hlt).toNat:Int))=true:=aei (by
   unfold Lex.odd at hodd;rw[dF h32,aoQ,aeU]at hodd
   omega)
  clear hst hc hodd bQ h32 hcn hcv;go_wp2;exact qI results107 rfl rfl rfl HQ.blk HQ.bel HRR.out
 have u1:decide (((s[k]'hlt).toNat:Int)<32)=false:=dF (by
  intro h
  apply hodd
  unfold Lex.odd;rw[aei (show c.toNat<32 by omega)]
  rfl)
 have u2:decide (126<((s[k]'hlt).toNat:Int))=false:=dF (by
  intro h
  apply hodd
  unfold Lex.odd
  rw[aei (show 126<c.toNat by omega),atE])
 by_cases eX:c=92
 case neg=>
  have Fe:(((s[k]'hlt).toNat:Int) == 92)=false:=by rw[hc];exact bq (k:=92) rfl (aek.2 eX)
  have hn:Lex.fG (g+1) (s.data.toList.drop (k+1)) (o+1) (acc++[c])=R:=by rw[<-hst,Lex.aay bQ (apA.2 hodd) eX]
  have HN:=ah hn;have HC:=ah hc;clear hst hn hc hodd bQ eX hcn hcv;go_wp2_with (at_builtin;refine FH rfl (.tmp 57) (.tmp 59) rfl (w.heap.size+1) (.slice A7 acc.length c7) acc wr rfl HQ.own [s[k]'hlt] [.int .u8 ((s[k]'hlt).toNat:Int)] (byteCells_one _).symm 1 rfl rfl hal (by decide) hsz ?_)
  intro v1 w1 hown1 yH yJ;refine gq3 hown1 yH yJ fun HO HG HB=>?_;clear hown1 yH yJ;go_wp2
  go_roundg g
  case measure=>omega
  exact⟨k+1,o+1,_,int_eq' (by omega),HQ.next (by have:=HQ.off;omega) (by have:=HQ.meas;omega) (by omega) (by omega) (by rw[HC.out];exact HN.out) HO.out HG.out HB.out⟩
 subst eX;have Fe:(((s[k]'hlt).toNat:Int) == 92)=true:=by rw[hc];rfl
 rw[Lex.abE]at hst;have hcall:=fun(W:World)=>amM s (k+1) W (by omega) (by omega)
 obtain⟨x,hx⟩:=aj (Lex.esc (s.data.toList.drop (k+1)));rw[hx]at hcall hst;have HX:=ah hx;clear hodd bQ hcn hc hx;cases x with
 |none=>
  have HC:=ah (show∀W:World,Calls prog 165 #[.string s,.int .i64 ((k:Int)+1)] W fun e w'=>e=.returned (.tuple #[.int .u8 0,.int .i64 0])/\Below W.heap.size W w' from fun W=>hcall W)
  have HRR:Hid (kH R i=.tuple #[.agg #[.int .i64 0,.string ⟨#[]⟩,.int .i64 0,.int .i64 (k:Int)],.int .i64 0,.int .i64 242]):=by
   refine ah ?_;rw[<-hst];simp only[Lex.UM,kH,HQ.off];rfl
  clear hst hcall hcv;clear b0 b1 b2 b3 f0 f1 f2 f3;go_wp2_with fail;refine mq7 (HC.out _) fun w' hbl=>?_;have qh:=ah (HQ.below hbl);clear hbl;obtain⟨b0,b1,b2,b3,f0,f1,f2,f3⟩:=vO qh.blk;go_wp2;exact qI results107 rfl rfl rfl qh.blk qh.bel HRR.out
 |some x=>
  obtain⟨y,n⟩:=x;have hnl:=Lex.Pv HX.out;rw[ae1,<-aof]at hnl;have HC:=ah (show∀W:World,Calls prog 165 #[.string s,.int .i64 ((k:Int)+1)] W fun e w'=>e=.returned (.tuple #[.int .u8 (y.toNat:Int),.int .i64 (n:Int)])/\Below W.heap.size W w' from fun W=>hcall W)
  have hn0:((n:Int) == 0)=false:=by rw[aek];omega
  have hn1:(n:Int)<=1073741823:=by omega
  have hn:Lex.fG (g+1) (s.data.toList.drop (k+1+n)) (o+1+n) (acc++[y])=R:=by rw[<-hst];simp only[Lex.UM,ahu]
  have HN:=ah hn;have jf:=ah hnl;clear hst hcall hcv hn hnl;clear b0 b1 b2 b3 f0 f1 f2 f3;go_wp2_with fail;refine mq7 (HC.out _) fun w' hbl=>?_;have qh:=ah (HQ.below hbl);have hsz2:=qh.big;clear hbl hsz;go_wp2_with (at_builtin;refine FH rfl (.tmp 57) (.tmp 59) rfl (w.heap.size+1) (.slice A7 acc.length c7) acc w' rfl qh.own [y] [.int .u8 (y.toNat:Int)] (byteCells_one _).symm 1 rfl rfl hal (by decide) hsz2 ?_)
  intro v1 w1 hown1 yH yJ;refine gq3 hown1 yH yJ fun HO HG HB=>?_;clear hown1 yH yJ;go_wp2
  go_roundg g
  case measure=>omega
  exact⟨k+1+n,o+1+n,_,int_eq' (by omega),qh.next (by have:=qh.off;omega) (by have:=qh.meas;have:=jf.out;omega) (by omega) (by have:=jf.out;omega) HN.out HO.out HG.out HB.out⟩
def amO (l:List UInt8) (n:Nat) (h:n<l.length):Lib.trimRightS (l.take (n+1)) [48]=if l[n]'h=48 then Lib.trimRightS (l.take n) [48] else l.take (n+1):=by
 have e:l.take (n+1)=l.take n++[l[n]'h]:=by simp
 rw[e];exact Num.O7 _ _
def amP:Lib.trimRightS (Num.hexN 13 0) [48]=[]:=by decide
def amQ {f:Nat} (hf:f<4503599627370496) (h:Lib.trimRightS (Num.hexN 13 f) [48]=[]):f=0:=by
 obtain⟨j,h1,_⟩:=Num.KC _ (Num.hexN 13 f) rfl;rw[h,agJ]at h1;have h2:=Num.O6 13 f 0 (by have e:(16:Nat) ^ 13=4503599627370496:=(by decide);omega)
 rw[h1,Num.O8]at h2;have h3:=aeM h2;omega
def amR {f:Nat} (hf:f<4503599627370496) {tl:List UInt8} (h:Lib.trimRightS (Num.hexN 13 f) [48]=tl):Num.oV f=if tl=[] then[] else 46 :: tl:=by
 unfold Num.oV;by_cases h0:f=0
 ·subst h0
  rw[amP]at h;subst h;rfl
 rw[aer h0,h,aer (fun e=>h0 (amQ hf (h.trans e)))]
def amS (b:Nat) (w:World) (hb:b<18446744073709551616):
  Calls prog 211 #[.int .u64 b] w fun e w'=>e=.returned (.string ⟨(Num.fmt b).toArray⟩)/\Below w.heap.size w w':=by
 obtain⟨a,ha⟩:=aj (b % 9223372036854775808);obtain⟨neg,hneg⟩:=aj (decide (9223372036854775808<=b));have hf:Num.fmt b=if 9218868437227405312<a then Num.um else Num.sg neg++Num.ku a:=by unfold Num.fmt;rw[ha,hneg]
 obtain⟨SG,ZJ⟩:=aj (⟨(Num.sg neg).toArray⟩:ByteArray);have asv:SG.size<=1:=by rw[<-ZJ,dR];cases neg<;>simp[Num.sg]
 have hai:(a:Int)<=9223372036854775807:=by omega
 have aqg:(0:Int)<=a:=by omega
 refine gq3 ha hneg ZJ fun HA Fh Ku=>?_;obtain⟨RES,OV⟩:=aj (Num.fmt b);rw[OV]at hf⊢;have jQ:=ah hf;clear ha hneg ZJ hf OV;go_enter func211,ntmps211
 go_upto_if 9 with fail
 go_cut [0,3] (fun s0 s3 wx=>s0=.int .u64 a/\s3=.string SG/\w=wx)
 case first=>
  by_cases hs:9223372036854775808<=b
  ·have bs:decide (9223372036854775808<=(b:Int))=true:=aei (by omega)
   have hbi:(9223372036854775808:Int)<=b:=by omega
   have asw:(b:Int)<=18446744073709551615:=by omega
   have hsg:SG=⟨#[45]⟩:=by rw[<-Ku.out,<-Fh.out,aei hs];rfl
   have hv:(b:Int) - 9223372036854775808=a:=by have:=HA.out;omega
   have HV:=ah hv;have HS:=ah hsg;clear hv hsg hs hb;go_simp;go_wp2_with fail;go_meet;exact⟨int_eq' HV.out,by rw[HS.out],rfl⟩
  have bs:decide (9223372036854775808<=(b:Int))=false:=dF (by omega)
  have hsg:SG=⟨#[]⟩:=by rw[<-Ku.out,<-Fh.out,dF hs];rfl
  have hv:(b:Int)=a:=by have:=HA.out;omega
  have HV:=ah hv;have HS:=ah hsg;clear hv hsg hs hb;go_simp;go_wp2_with fail;go_meet;exact⟨int_eq' HV.out,by rw[HS.out],rfl⟩
 obtain⟨rfl,rfl,rfl⟩:=hcut;clear Fh HA;by_cases qL:9218868437227405312<a
 ·have hr:RES=Num.um:=by rw[jQ.out,aeu qL]
  have HR:=ah hr;clear hr;have b2:decide (9218868437227405312<(a:Int))=true:=aei (by omega)
  clear qL hb;go_wp2;go_ret;exact⟨by rw[HR.out];rfl,aoa _ _⟩
 have b2:decide (9218868437227405312<(a:Int))=false:=dF (by omega)
 by_cases jF:a=9218868437227405312
 ·have e1:Num.ku a=Num.xX:=by unfold Num.ku;rw[aeu jF]
  have hr:RES=Num.sg neg++Num.xX:=by rw[jQ.out,aer qL,e1]
  have HR:=ah hr;have b3:((a:Int) == 9218868437227405312)=true:=by rw[afc];omega
  clear qL jF e1 hb hr;go_wp2;go_ret;exact⟨by rw[HR.out,<-Ku.out,IB];rfl,aoa _ _⟩
 have b3:((a:Int) == 9218868437227405312)=false:=by rw[aek];omega
 by_cases h0:a=0
 ·have e1:Num.ku a=Num.ZERO:=by unfold Num.ku;rw[aer jF,aeu h0]
  have hr:RES=Num.sg neg++Num.ZERO:=by rw[jQ.out,aer qL,e1]
  have HR:=ah hr;have b4:((a:Int) == 0)=true:=by rw[afc];omega
  clear qL jF h0 e1 hb hr;go_wp2;go_ret;exact⟨by rw[HR.out,<-Ku.out,IB];rfl,aoa _ _⟩
 have b4:((a:Int) == 0)=false:=by rw[aek];omega
 have e1:Num.ku a=Num.form (Num.oW a) (Num.nV a):=by unfold Num.ku;rw[aer jF,aer h0]
 have hr:RES=Num.sg neg++Num.form (Num.oW a) (Num.nV a):=by rw[jQ.out,aer qL,e1]
 obtain⟨p1,p2,p3,-,-⟩:=Num.Ph h0 (by omega)
 obtain⟨E,hE⟩:=aj (Num.nV a);obtain⟨f,hf⟩:=aj (Num.oW a);rw[hE,hf]at hr;have HR:=ah hr;rw[hE]at p2 p3;rw[hf]at p1;obtain⟨X,hX⟩:=aj (E+1023);obtain⟨G,hG⟩:=aj (f+4503599627370496);have hx1:X<=2046:=by omega
 have hx2: -51<=X:=by omega
 have hg1:(G:Int)<9007199254740992:=by omega
 have hg2:(4503599627370496:Int)<=G:=by omega
 refine gq7 hE hf hX hG h0 qL jF fun HE HF HX HG H0 HN HI=>?_;have hai2:(a:Int)<=9218868437227405312:=by omega
 clear hE hf hX hG e1 h0 qL jF hb hr jQ
 go_upto_if 29 with fail
 go_cut [4,5] (fun s4 s5 wx=>s4=.int .i64 X/\s5=.int .u64 G/\w=wx)
 case first=>
  clear hx1 hx2 hg1 hg2 p1 p2 p3;by_cases hx:a<4503599627370496
  ·obtain⟨u1,u2,u3,u4⟩:=Num.aai H0.out hx
   have en:X=1 -(Num.up a:Int):=by rw[<-HX.out,<-HE.out];unfold Num.nV;rw[aeu hx];omega
   have fn:G=a*2 ^ Num.up a:=by rw[<-HG.out,<-HF.out];unfold Num.oW;rw[aeu hx];omega
   obtain⟨U,hU⟩:=aj (Num.up a);rw[hU]at u1 u2 u3 u4 en fn;have k1:(a:Int) / 4503599627370496=0:=by omega
   have ha1:(a:Int)<4503599627370496:=by omega
   have hU1:(1:Int)<=U:=by omega
   have hU2:(U:Int)<=52:=by omega
   refine gq5 en fn u2 u3 u4 fun xK ZK bU HU3 HU4=>?_;clear en fn hU u1 u2 u3 u4 hx;refine aty (by simp only[k1];rfl) ?_
   go_wp2_with fail
   go_loopg [4,5] U (fun g x y wr=> ∃j:Nat,j+g=U/\x=.int .i64 (1 -(j:Int))/\y=.int .u64 ((a*2 ^ j:Nat):Int)/\w=wr)
   case atStart=>exact⟨0,by omega,rfl,by simp,rfl⟩
   obtain⟨j,hj,rfl,rfl,rfl⟩:=hrel;have HJ:=ah hj;clear hj;cases gk with
   |succ g=>
    have hj1:j+1<=U:=by have:=HJ.out;omega
    obtain⟨y,hy⟩:=aj (a*2 ^ j)
    have hyb:y<4503599627370496:=by
     have e1:a*2 ^(j+1)<=a*2 ^ U:=ag6 _ (afT (by decide) hj1)
     rw[af2,<-ahm,hy]at e1;have:=HU4.out;omega
    have hy2:a*2 ^(j+1)=y*2:=by rw[af2,<-ahm,hy]
    rw[hy];have HY:=ah hy2;have yi:(y:Int)<4503599627370496:=by omega
    have ji:(j:Int)<=52:=by have:=bU.out;omega
    clear hy hy2;go_wp2
    go_roundg g
    case measure=>omega
    exact⟨j+1,by have:=HJ.out;omega,int_eq' (by omega),by rw[HY.out];exact int_eq' (by omega),rfl⟩
   |zero=>
    obtain rfl:j=U:=by have:=HJ.out;omega
    obtain⟨y,hy⟩:=aj (a*2 ^ j);rw[hy];have yi:(4503599627370496:Int)<=y:=by have:=HU3.out;omega
    have dy:decide ((y:Int)<4503599627370496)=false:=dF (by omega)
    have HY:=ah hy;clear hy hai hai2 ha1 b2 b3 b4 k1;go_wp2_with fail;go_meet;exact⟨int_eq' xK.symm,int_eq' (by rw[ZK.out,HY.out]),rfl⟩
  have en:X=((a / 4503599627370496:Nat):Int):=by rw[<-HX.out,<-HE.out];unfold Num.nV;rw[aer hx];omega
  have fn:G=a % 4503599627370496+4503599627370496:=by rw[<-HG.out,<-HF.out];unfold Num.oW;rw[aer hx]
  have t1:((a:Int) / 4503599627370496 == 0)=false:=by rw[aek];omega
  have xK:=ah en;have ZK:=ah fn;have ha1:(4503599627370496:Int)<=a:=by omega
  clear en fn hx;refine atv (by simp only[t1];rfl) ?_
  go_wp2_with fail;go_meet;exact⟨int_eq' (by rw[xK.out];omega),int_eq' (by rw[ZK.out];omega),rfl⟩
 obtain⟨rfl,rfl,rfl⟩:=hcut;have kE:X - 1023=E:=by have:=HX.out;omega
 have kG:(G:Int) - 4503599627370496=f:=by have:=HG.out;omega
 obtain⟨Dt,h13⟩:=aj (Num.hexN 13 f);have ZM:Dt.length=13:=by rw[<-h13];exact Num.KA 13 f
 obtain⟨z,hz⟩:=aj (⟨Dt.toArray⟩:ByteArray);have hzl:z.size=13:=by rw[<-hz,dR,ZM]
 have hzd:z.data.toList=Dt:=by rw[<-hz]
 obtain⟨tl,htl⟩:=aj (Lib.trimRightS Dt [48]);have hfr:=amR (tl:=tl) p1 (by rw[h13];exact htl)
 have ZN:=fun(W:World)=>aik f 13 W (by omega) (by omega)
 rw[h13,hz]at ZN;refine gq5 ZN hfr hzd ZM htl fun aqj pR HZD AX kJ=>?_;clear hfr ZN h13 hz hzd ZM htl HE HF HX HG H0 HN HI b2 b3 b4 hai hai2 aqg;go_wp2_with fail;refine mq7 (aqj.out _) fun w1 hb1=>?_;have HB1:=ah hb1;clear hb1;clear hg1 hg2 p1 kG
 go_upto_block 2 with fail
 go_cut [7] (fun s7 wx=>s7=.int .i64 (tl.length:Int)/\tl=Dt.take tl.length/\w1=wx)
 case first=>
  go_wp2_with fail
  go_loopg [7] 13 (fun g x wr=>g<=13/\x=.int .i64 (g:Int)/\Lib.trimRightS (Dt.take g) [48]=tl/\w1=wr)
  case atStart=>exact⟨by omega,rfl,by rw[aeG (by rw[AX.out];exact aej _)];exact kJ.out,rfl⟩
  obtain⟨hg,rfl,htk,rfl⟩:=hrel;have nK:=ah htk;clear htk;cases gk with
  |zero=>
   have ahf: []=tl:=nK.out;have HT:=ah ahf;clear ahf nK;go_wp2_with fail;go_meet;exact⟨by rw[<-HT.out];rfl,by rw[<-HT.out];rfl,rfl⟩
  |succ g=>
   have hlt:g<z.size:=by omega
   have gi:(g:Int)<=12:=by omega
   have OW:g<Dt.length:=by rw[AX.out];omega
   have hz0:z[g]'hlt=Dt[g]'OW:=by
    have h1:=ar8 z g hlt;rw[HZD.out,aen OW]at h1;exact(aeM h1).symm
   have hstep:=amO Dt g OW;rw[nK.out]at hstep;obtain⟨c,hc⟩:=aj (z[g]'hlt);rw[<-hz0,hc]at hstep;by_cases h48:c=48
   ·have t5:(((z[g]'hlt).toNat:Int) == 48)=true:=by rw[hc,h48];rfl
    rw[aeu h48]at hstep;have HS:=ah hstep;clear hstep hz0 hc h48 OW;go_wp2
    go_roundg g
    case measure=>omega
    exact⟨by omega,int_eq' (by omega),HS.symm,rfl⟩
   have t5:(((z[g]'hlt).toNat:Int) == 48)=false:=by
    rw[hc,aek];intro e;exact h48 (afC.1 (by show c.toNat=48;omega))
   rw[aer h48]at hstep
   have hlen:tl.length=g+1:=by
    rw[hstep,afo,AX.out];omega
   have HS:=ah hstep;have HLEN:=ah hlen;clear hstep hz0 hc h48 OW hlen;go_wp2_with fail;go_meet;exact⟨int_eq' (by rw[HLEN.out];omega),by rw[HLEN.out];exact HS.out,rfl⟩
 obtain⟨rfl,htk,rfl⟩:=hcut;have nK:=ah htk
 have aqk:tl.length<=13:=by
  have h1:=afL List.length htk;rw[afo,AX.out]at h1;omega
 obtain⟨n,hn⟩:=aj tl.length;rw[hn];rw[hn]at aqk;have HN:=ah hn;clear htk hn;obtain⟨fs,hfs⟩:=aj (Num.oV f);have ZO:fs=if tl=[] then[] else 46 :: tl:=by rw[<-hfs];exact pR.out
 have aql:fs.length<=14:=by
  rw[ZO]
  split
  ·simp
  rw[ae7,HN.out];omega
 obtain⟨S3,hS3⟩:=aj (SG ++⟨#[48,120,49]⟩ ++⟨fs.toArray⟩:ByteArray);have asz:S3.size<=20:=by rw[<-hS3,afU,afU];have e:(⟨#[48,120,49]⟩:ByteArray).size=3:=rfl;have e2:(⟨fs.toArray⟩:ByteArray).size=fs.length:=dR fs;omega
 refine gq3 hS3 hfs ZO fun bK HFS ahh=>?_;clear hS3 hfs ZO aql pR
 go_upto_if 56 with fail
 go_cut [3] (fun s3 wx=>s3=.string S3/\w1=wx)
 case first=>
  by_cases ht0:tl=[]
  ·have hn0:n=0:=by rw[<-HN.out,ht0];rfl
   have hs:SG ++⟨#[48,120,49]⟩=S3:=by
    rw[<-bK.out,ahh.out,aeu ht0]
    apply aho
    simp
   have HS:=ah hs;subst hn0;clear hs ht0;go_wp2_with fail;go_meet;exact⟨by rw[HS.out],rfl⟩
  have hn1:0<n:=by
   have:tl.length≠0:=fun e=>ht0 (aeI e)
   rw[HN.out]at this;omega
  have hn2:(1:Int)<=n:=by omega
  have hext:z.extract 0 n=⟨tl.toArray⟩:=by
   apply aho
   apply Array.toList_inj.1
   rw[aso,HZD.out];have:=nK.out;rw[HN.out]at this;rw[this];simp
  have hs:SG ++⟨#[48,120,49]⟩ ++⟨#[46]⟩++z.extract 0 n=S3:=by
   rw[<-bK.out,ahh.out,aer ht0,hext]
   apply aho
   simp
  have HS:=ah hs;clear hs ht0 hext;have asA:n<=z.size:=by omega
  go_wp2_with fail;go_meet;exact⟨by rw[HS.out],rfl⟩
 obtain⟨rfl,rfl⟩:=hcut;by_cases hneg:E<0
 ·obtain⟨m,hm⟩: ∃m:Nat,-E=(m:Int):=⟨(-E).toNat,by omega⟩
  obtain⟨r,hr⟩:=aj (Lib.decDigits m);have hrl:r.length<=20:=by rw[<-hr,Num.Bg];exact Dy 19 m (by omega)
  have hex:Num.rF E=109 :: r:=by
   unfold Num.rF;rw[aeu hneg,hm,atl,hr]
  have ZP:=ah hex;have xq:=ah (fun(W:World)=>hr▸aaE m W (by omega))
  have te4:(m:Int)<=2000:=by omega
  have te0:(0:Int)<=m:=by omega
  have te1:E<= -1:=by omega
  clear hr hex;go_wp2_with fail;refine mq7 (xq.out _) fun w2 hb2=>?_;have HB2:=ah hb2;clear hb2 hm;go_wp2;go_ret;refine⟨?_,HB1.trans (HB2.mono HB1.size)⟩;rw[HR.out,<-bK.out,<-Ku.out];unfold Num.form;rw[ZP.out,HFS.out];exact afL (fun q=>Ending.returned (Value.string q)) (by apply aho;simp)
 obtain⟨m,hm⟩: ∃m:Nat,E=(m:Int):=⟨E.toNat,by omega⟩
 subst hm;obtain⟨r,hr⟩:=aj (Lib.decDigits m);have hrl:r.length<=20:=by rw[<-hr,Num.Bg];exact Dy 19 m (by omega)
 have hex:Num.rF (m:Int)=112 :: r:=by
  unfold Num.rF;rw[aer hneg,atl,hr]
 have ZP:=ah hex;have xq:=ah (fun(W:World)=>hr▸aaE m W (by omega))
 have te0:(0:Int)<=m:=by omega
 clear hr hex hneg;go_wp2_with fail;refine mq7 (xq.out _) fun w2 hb2=>?_;have HB2:=ah hb2;clear hb2;go_wp2;go_ret;refine⟨?_,HB1.trans (HB2.mono HB1.size)⟩;rw[HR.out,<-bK.out,<-Ku.out];unfold Num.form;rw[ZP.out,HFS.out];exact afL (fun q=>Ending.returned (Value.string q)) (by apply aho;simp)
end Go.Proofs.YtdijgcnlbfgkdaaGreatDoor
