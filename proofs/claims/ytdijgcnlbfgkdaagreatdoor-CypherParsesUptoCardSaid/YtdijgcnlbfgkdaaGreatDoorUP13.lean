/- Lemmas. -/
import Derived.Test.YtdijgcnlbfgkdaaGreatDoorUP10
set_option maxHeartbeats 64000000
set_option maxRecDepth 1000000
set_option linter.all false
namespace Go.Proofs.YtdijgcnlbfgkdaaGreatDoor
open Go.RowKit Go.Proofs.Tryz
def ajY (c:UInt8):Lex.dh c=((decide ((97:Int)<=(c.toNat:Int)) && decide ((c.toNat:Int)<=122)) ||(decide ((65:Int)<=(c.toNat:Int)) && decide ((c.toNat:Int)<=90)) ||(decide ((48:Int)<=(c.toNat:Int)) && decide ((c.toNat:Int)<=57)) ||((c.toNat:Int) == 95)):=by
 rw[afN];simp only[Lex.dh,Lex.isLet,Num.aJ,anO,afx,aeU,afc];omega
def ab1:Gr.fD []=false:=by decide
def ab2 {l:List UInt8} (h:40<l.length):Gr.fD l=false:=by
 unfold Gr.fD;rw[dF (by omega: ¬l.length<=40)]
 simp
def ab3 {l:List UInt8} {c:UInt8} (h:l[0]?=some c) (hc:Num.aJ c=true):Gr.fD l=false:=by
 cases l with
 |nil=>simp at h
 |cons a r=>
  simp only[aev,afs]at h;subst h;unfold Gr.fD;simp[hc]
def ab4 {l:List UInt8} {c:UInt8} {k:Nat} (h:l[k]?=some c) (hc:Lex.dh c=false):Gr.fD l=false:=by
 unfold Gr.fD;rw[List.all_eq_false.2 ⟨c,aew h,by rw[hc];decide⟩]
 simp
def ab5 {l:List UInt8} {c:UInt8} (h0:l[0]?=some c) (hc:Num.aJ c=false) (hl:l.length<=40) (h: ∀(j:Nat) d,l[j]?=some d->Lex.dh d=true):Gr.fD l=true:=by
 cases l with
 |nil=>simp at h0
 |cons a r=>
  simp only[aev,afs]at h0;subst h0;unfold Gr.fD
  rw[ahx.2 (fun d hd=>by
   obtain⟨j,hj,e⟩:=agM hd
   exact h j d (by rw[aen hj,e]))]
  rw[aei hl];simp[hc]
def IL (s:ByteArray) (w:World) (hs:s.size<=1073741824):
  Calls prog 39 #[.string s] w fun e w'=>e=.returned (.bool (Gr.fD s.data.toList))/\w=w':=by
 obtain⟨R,hR⟩:=aj (Gr.fD s.data.toList);rw[hR];have HR:=ah hR;clear hR;have hl:=aof s;have hg:=fun(k:Nat) (h:k<s.size)=>Dz s k h
 have hd:=aod s;obtain⟨n,hn⟩:=aj s.size;rw[hn]at hl hs;have hu:=rG;by_cases h0:n=0
 ·subst h0
  have hs0:s.toList.isEmpty=true:=by rw[hd,an6];exact aeI hl.symm
  have hr:R=false:=by rw[<-HR.out,aeI hl.symm];exact ab1
  have HRR:=ah hr;clear hr hl hg hd hs;go_enter func39,ntmps39;go_wp2;go_ret;exact⟨by rw[HRR.out];rfl,rfl⟩
 have hs0:s.toList.isEmpty=false:=by rw[hd,ahc];intro e;rw[e]at hl;simp at hl;omega
 by_cases lC:40<n
 ·have MF:(40:Int)<n:=by omega
  have t40:decide ((40:Int)<n)=true:=aei MF;have hr:R=false:=by rw[<-HR.out];exact ab2 (by omega)
  have HRR:=ah hr;clear hr hl hg hd h0 lC hs;go_enter func39,ntmps39;go_wp2;go_ret;exact⟨by rw[HRR.out];rfl,rfl⟩
 have MF:(n:Int)<=40:=by omega
 have t40:decide ((40:Int)<n)=false:=dF (by omega)
 have hp:0<s.size:=by omega
 obtain⟨c,hc⟩:=aj (s[0]'hp);have hc0:s.data.toList[0]?=some c:=by rw[hg 0 hp,hc]
 refine gq5 hc0 hg hn hl hu fun yL HG HN bY HU=>?_;clear hg hd hc0 hl;obtain⟨x1,hx1⟩:=aj (decide ((48:Int)<=(c.toNat:Int)));obtain⟨x2,hx2⟩:=aj (decide ((c.toNat:Int)<=57))
 have hdig:Num.aJ c=(x1 && x2):=by
  rw[<-hx1,<-hx2,afN];simp only[Num.aJ,afx,aeU];omega
 have xq:=ah hdig;clear hdig hs;have hni:(n:Int)<=1073741824:=by omega
 by_cases hxx:x1=true/\x2=true
 ·obtain⟨rfl,rfl⟩:=hxx
  have hr:R=false:=by rw[<-HR.out];exact ab3 yL.out xq.out
  have HRR:=ah hr;have aqS:=aeL hx1;have aqT:=aeL hx2;clear hr h0 lC;go_enter func39,ntmps39;go_wp2;go_ret;exact⟨by rw[HRR.out];rfl,rfl⟩
 have hnd:Num.aJ c=false:=by rw[xq.out];cases x1<;>cases x2<;>simp_all
 have iR:=ah hnd;have hor:x1=false\/(x1=true/\x2=false):=by cases x1<;>cases x2<;>simp_all
 clear hnd hxx h0 lC;go_enter func39,ntmps39
 go_upto_region 1 with fail
 go_cut [21] (fun WT wx=>WT=.bool false/\w=wx)
 case first=>
  rcases hor with rfl|⟨rfl,rfl⟩
  ·have hxi:=aex hx1
   go_wp2;go_meet;exact⟨rfl,rfl⟩
  have hxi:=aeL hx1;have hxj:=aex hx2;go_wp2;go_meet;exact⟨rfl,rfl⟩
 obtain⟨rfl,rfl⟩:=hcut;clear hx1 hx2 hor;go_wp2_with fail
 go_loopg [24] n (fun g x wr=> ∃k:Nat,x=.int .i64 k/\k+g=n/\w=wr/\ ∀(j:Nat) d,j<k->s.data.toList[j]?=some d->Lex.dh d=true)
 case atStart=>exact⟨0,rfl,by omega,rfl,fun j d h=>by omega⟩
 obtain⟨k,rfl,hk,rfl,hz⟩:=hrel;have HK:=ah hk;have HZ:=ah hz;clear hz;cases gk with
 |zero=>
  obtain rfl:k=n:=by omega
  have hr:R=true:=by
   rw[<-HR.out];exact ab5 yL.out iR.out (by have:=bY.out;omega) (fun j d hj=>HZ.out j d (by have:=(aeK.1 hj).1;have:=bY.out;omega) hj)
  have HRR:=ah hr;clear hk hr;go_wp2;go_ret;exact⟨by rw[HRR.out];rfl,rfl⟩
 |succ g=>
  have hkn:k<n:=by omega
  have dW:(k:Int)<n:=by omega
  have hks:k<s.size:=by rw[HN.out];exact hkn
  obtain⟨d,hd⟩:=aj (s[k]'hks);have HD:=ah (show s.data.toList[k]?=some d by rw[HG.out k hks,hd])
  obtain⟨a1,ha1⟩:=aj (decide ((97:Int)<=(d.toNat:Int)));obtain⟨a2,ha2⟩:=aj (decide ((d.toNat:Int)<=122));obtain⟨b1,hb1⟩:=aj (decide ((65:Int)<=(d.toNat:Int)));obtain⟨b2,hb2⟩:=aj (decide ((d.toNat:Int)<=90));obtain⟨c1,hc1⟩:=aj (decide ((48:Int)<=(d.toNat:Int)));obtain⟨c2,hc2⟩:=aj (decide ((d.toNat:Int)<=57));obtain⟨e1,he1⟩:=aj ((d.toNat:Int) == 95);have xu:=ah (show Lex.dh d=(a1 && a2 || b1 && b2 || c1 && c2 || e1) by rw[ajY,ha1,ha2,hb1,hb2,hc1,hc2,he1])
  have hn1:(d.toNat:Int)<=255:=by have:=d.toNat_lt;omega
  have HB:=ah (show R=false\/(a1 && a2 || b1 && b2 || c1 && c2 || e1)=true by
   cases hq:(a1 && a2 || b1 && b2 || c1 && c2 || e1) with
   |true=>exact .inr rfl
   |false=>exact .inl (by rw[<-HR.out];exact ab4 HD.out (xu.trans hq)))
  have jA:=ah (show(a1 && a2 || b1 && b2 || c1 && c2 || e1)=true-> ∀(j:Nat) q,j<k+1->s.data.toList[j]?=some q->Lex.dh q=true from fun h j q hj hq=>by
   by_cases e:j=k
   ·subst e
    rw[HD.out]at hq;cases hq;rw[xu.out];exact h
   exact HZ.out j q (by omega) hq)
  clear hk;cases a1 with
  |true=>
   cases a2 with
   |true=>
    have lF:=aeL ha1;have yM:=aeL ha2;have hz:=jA.out rfl;have HZ2:=ah hz;clear hz;go_wp2
    go_roundg g
    case measure=>omega
    exact⟨k+1,int_eq (by omega),by have:=HK.out;omega,rfl,HZ2.out⟩
   |false=>
    cases b1 with
    |true=>
     cases b2 with
     |true=>
      have lF:=aeL ha1;have yM:=aex ha2;have mD:=aeL hb1;have yN:=aeL hb2;have hz:=jA.out rfl;have HZ2:=ah hz;clear hz;go_wp2
      go_roundg g
      case measure=>omega
      exact⟨k+1,int_eq (by omega),by have:=HK.out;omega,rfl,HZ2.out⟩
     |false=>
      cases c1 with
      |true=>
       cases c2 with
       |true=>
        have lF:=aeL ha1;have yM:=aex ha2;have mD:=aeL hb1;have yN:=aex hb2;have oI:=aeL hc1;have yO:=aeL hc2;have hz:=jA.out rfl;have HZ2:=ah hz;clear hz;go_wp2
        go_roundg g
        case measure=>omega
        exact⟨k+1,int_eq (by omega),by have:=HK.out;omega,rfl,HZ2.out⟩
       |false=>
        cases e1 with
        |true=>
         have lF:=aeL ha1;have yM:=aex ha2;have mD:=aeL hb1;have yN:=aex hb2;have oI:=aeL hc1;have yO:=aex hc2;have tu:=afc.1 he1;have hz:=jA.out rfl;have HZ2:=ah hz;clear hz;go_wp2
         go_roundg g
         case measure=>omega
         exact⟨k+1,int_eq (by omega),by have:=HK.out;omega,rfl,HZ2.out⟩
        |false=>
         have lF:=aeL ha1;have yM:=aex ha2;have mD:=aeL hb1;have yN:=aex hb2;have oI:=aeL hc1;have yO:=aex hc2;have tu:=aek.1 he1;have hr:R=false:=HB.elim id (fun h=>by cases h)
         have HRR:=ah hr;clear hr;go_wp2;go_ret;exact⟨by rw[HRR.out];rfl,rfl⟩
      |false=>
       cases e1 with
       |true=>
        have lF:=aeL ha1;have yM:=aex ha2;have mD:=aeL hb1;have yN:=aex hb2;have oI:=aex hc1;have tu:=afc.1 he1;have hz:=jA.out rfl;have HZ2:=ah hz;clear hz;go_wp2
        go_roundg g
        case measure=>omega
        exact⟨k+1,int_eq (by omega),by have:=HK.out;omega,rfl,HZ2.out⟩
       |false=>
        have lF:=aeL ha1;have yM:=aex ha2;have mD:=aeL hb1;have yN:=aex hb2;have oI:=aex hc1;have tu:=aek.1 he1;have hr:R=false:=HB.elim id (fun h=>by cases h)
        have HRR:=ah hr;clear hr;go_wp2;go_ret;exact⟨by rw[HRR.out];rfl,rfl⟩
    |false=>
     cases c1 with
     |true=>
      cases c2 with
      |true=>
       have lF:=aeL ha1;have yM:=aex ha2;have mD:=aex hb1;have oI:=aeL hc1;have yO:=aeL hc2;have hz:=jA.out rfl;have HZ2:=ah hz;clear hz;go_wp2
       go_roundg g
       case measure=>omega
       exact⟨k+1,int_eq (by omega),by have:=HK.out;omega,rfl,HZ2.out⟩
      |false=>
       cases e1 with
       |true=>
        have lF:=aeL ha1;have yM:=aex ha2;have mD:=aex hb1;have oI:=aeL hc1;have yO:=aex hc2;have tu:=afc.1 he1;have hz:=jA.out rfl;have HZ2:=ah hz;clear hz;go_wp2
        go_roundg g
        case measure=>omega
        exact⟨k+1,int_eq (by omega),by have:=HK.out;omega,rfl,HZ2.out⟩
       |false=>
        have lF:=aeL ha1;have yM:=aex ha2;have mD:=aex hb1;have oI:=aeL hc1;have yO:=aex hc2;have tu:=aek.1 he1;have hr:R=false:=HB.elim id (fun h=>by cases h)
        have HRR:=ah hr;clear hr;go_wp2;go_ret;exact⟨by rw[HRR.out];rfl,rfl⟩
     |false=>
      cases e1 with
      |true=>
       have lF:=aeL ha1;have yM:=aex ha2;have mD:=aex hb1;have oI:=aex hc1;have tu:=afc.1 he1;have hz:=jA.out rfl;have HZ2:=ah hz;clear hz;go_wp2
       go_roundg g
       case measure=>omega
       exact⟨k+1,int_eq (by omega),by have:=HK.out;omega,rfl,HZ2.out⟩
      |false=>
       have lF:=aeL ha1;have yM:=aex ha2;have mD:=aex hb1;have oI:=aex hc1;have tu:=aek.1 he1;have hr:R=false:=HB.elim id (fun h=>by cases h)
       have HRR:=ah hr;clear hr;go_wp2;go_ret;exact⟨by rw[HRR.out];rfl,rfl⟩
  |false=>
   cases b1 with
   |true=>
    cases b2 with
    |true=>
     have lF:=aex ha1;have mD:=aeL hb1;have yN:=aeL hb2;have hz:=jA.out rfl;have HZ2:=ah hz;clear hz;go_wp2
     go_roundg g
     case measure=>omega
     exact⟨k+1,int_eq (by omega),by have:=HK.out;omega,rfl,HZ2.out⟩
    |false=>
     cases c1 with
     |true=>
      cases c2 with
      |true=>
       have lF:=aex ha1;have mD:=aeL hb1;have yN:=aex hb2;have oI:=aeL hc1;have yO:=aeL hc2;have hz:=jA.out rfl;have HZ2:=ah hz;clear hz;go_wp2
       go_roundg g
       case measure=>omega
       exact⟨k+1,int_eq (by omega),by have:=HK.out;omega,rfl,HZ2.out⟩
      |false=>
       cases e1 with
       |true=>
        have lF:=aex ha1;have mD:=aeL hb1;have yN:=aex hb2;have oI:=aeL hc1;have yO:=aex hc2;have tu:=afc.1 he1;have hz:=jA.out rfl;have HZ2:=ah hz;clear hz;go_wp2
        go_roundg g
        case measure=>omega
        exact⟨k+1,int_eq (by omega),by have:=HK.out;omega,rfl,HZ2.out⟩
       |false=>
        have lF:=aex ha1;have mD:=aeL hb1;have yN:=aex hb2;have oI:=aeL hc1;have yO:=aex hc2;have tu:=aek.1 he1;have hr:R=false:=HB.elim id (fun h=>by cases h)
        have HRR:=ah hr;clear hr;go_wp2;go_ret;exact⟨by rw[HRR.out];rfl,rfl⟩
     |false=>
      cases e1 with
      |true=>
       have lF:=aex ha1;have mD:=aeL hb1;have yN:=aex hb2;have oI:=aex hc1;have tu:=afc.1 he1;have hz:=jA.out rfl;have HZ2:=ah hz;clear hz;go_wp2
       go_roundg g
       case measure=>omega
       exact⟨k+1,int_eq (by omega),by have:=HK.out;omega,rfl,HZ2.out⟩
      |false=>
       have lF:=aex ha1;have mD:=aeL hb1;have yN:=aex hb2;have oI:=aex hc1;have tu:=aek.1 he1;have hr:R=false:=HB.elim id (fun h=>by cases h)
       have HRR:=ah hr;clear hr;go_wp2;go_ret;exact⟨by rw[HRR.out];rfl,rfl⟩
   |false=>
    cases c1 with
    |true=>
     cases c2 with
     |true=>
      have lF:=aex ha1;have mD:=aex hb1;have oI:=aeL hc1;have yO:=aeL hc2;have hz:=jA.out rfl;have HZ2:=ah hz;clear hz;go_wp2
      go_roundg g
      case measure=>omega
      exact⟨k+1,int_eq (by omega),by have:=HK.out;omega,rfl,HZ2.out⟩
     |false=>
      cases e1 with
      |true=>
       have lF:=aex ha1;have mD:=aex hb1;have oI:=aeL hc1;have yO:=aex hc2;have tu:=afc.1 he1;have hz:=jA.out rfl;have HZ2:=ah hz;clear hz;go_wp2
       go_roundg g
       case measure=>omega
       exact⟨k+1,int_eq (by omega),by have:=HK.out;omega,rfl,HZ2.out⟩
      |false=>
       have lF:=aex ha1;have mD:=aex hb1;have oI:=aeL hc1;have yO:=aex hc2;have tu:=aek.1 he1;have hr:R=false:=HB.elim id (fun h=>by cases h)
       have HRR:=ah hr;clear hr;go_wp2;go_ret;exact⟨by rw[HRR.out];rfl,rfl⟩
    |false=>
     cases e1 with
     |true=>
      have lF:=aex ha1;have mD:=aex hb1;have oI:=aex hc1;have tu:=afc.1 he1;have hz:=jA.out rfl;have HZ2:=ah hz;clear hz;go_wp2
      go_roundg g
      case measure=>omega
      exact⟨k+1,int_eq (by omega),by have:=HK.out;omega,rfl,HZ2.out⟩
     |false=>
      have lF:=aex ha1;have mD:=aex hb1;have oI:=aex hc1;have tu:=aek.1 he1;have hr:R=false:=HB.elim id (fun h=>by cases h)
      have HRR:=ah hr;clear hr;go_wp2;go_ret;exact⟨by rw[HRR.out];rfl,rfl⟩
def U1 (k:Int) (w:World) (hk:au.In64 k):
  Calls prog 30 #[.int .i64 k] w fun e w'=>e=.returned (.string ⟨(Cy.word k).toArray⟩)/\w=w':=by
 obtain⟨hk1,hk2⟩:=hk;obtain⟨R,hR⟩:=aj (Cy.word k);rw[hR];unfold Cy.word at hR;by_cases h1:k=1
 ·subst h1
  rw[aeu rfl]at hR;subst hR;go_enter func30,ntmps30;go_wp2;go_ret;exact⟨rfl,rfl⟩
 rw[aer h1]at hR;have t1:(k == 1)=false:=aek.2 h1;by_cases h2:k=2
 ·subst h2
  rw[aeu rfl]at hR;subst hR;go_enter func30,ntmps30;go_wp2;go_ret;exact⟨rfl,rfl⟩
 rw[aer h2]at hR;have t2:(k == 2)=false:=aek.2 h2;by_cases h3:k=3
 ·subst h3
  rw[aeu rfl]at hR;subst hR;go_enter func30,ntmps30;go_wp2;go_ret;exact⟨rfl,rfl⟩
 rw[aer h3]at hR;have t3:(k == 3)=false:=aek.2 h3;subst hR;clear h1 h2 h3;go_enter func30,ntmps30;go_wp2;go_ret;exact⟨rfl,rfl⟩
def ajZ (n:Int) (w:World) (hn:au.In64 n) (hL:Laid w):
  Calls prog 29 #[.int .i64 2,.int .i64 n,.string ⟨#[]⟩] w fun e w'=>e=.returned (.string ⟨(Cy.scalar 2 n []).toArray⟩)/\Below w.heap.size w w':=by
 have HC:=ah (Ud n w hn.1 hn.2 hL);rw[show Cy.scalar 2 n []=Lib.itoa n from rfl]
 clear hL hn;go_enter func29,ntmps29;go_wp2_with fail;refine mq8 HC fun w' hb=>?_;have HB:=ah hb;clear hb;go_wp2;go_ret;exact⟨rfl,HB.out⟩
def U2 (sep:List UInt8): ∀l:List (List UInt8),Lib.join l sep=Cy.join sep l
 |[]=>rfl
 |[a]=>Lib.join_one a sep
 |a :: b :: r=>by
  rw[Cy.join,<-U2 sep (b :: r),Lib.join_cons,Lib.join_cons];simp[Lib.joinTail]
def ab6 (base T:Nat) (A:Option Addr) (c:Nat) (l:List (List UInt8)) (w:World) (n:Nat) (hn:l.length=n) (hn2:n<=1073741824) (h:w.ownsRow base T 1 (.slice A n c) n (l.map ST)) (hl:(Cy.join [44,32] l).length<=140737488355328):
  Calls prog 31 #[.slice A n c,.string ⟨#[44,32]⟩] w fun e w'=>e=.returned (.string ⟨(Cy.join [44,32] l).toArray⟩)/\Below w.heap.size w w':=by
 have hr:=h
 rcases h.2 with⟨he,h0⟩|⟨g,cap,cur,he,h1,h2,h3,h4,h5,h6⟩
 ·subst h0
  obtain rfl:l=[]:=arA.1 hn
  injection he with e1 e2 e3
  subst e1 e3;refine(Tryz.strings_Join_none none 0 ⟨#[44,32]⟩ w).mono ?_;rintro e w' ⟨rfl,rfl⟩;exact⟨rfl,aoa _ _⟩
 injection he with e1 e2 e3
 subst e1 e3
 have hm:(l.map fun x=>(⟨x.toArray⟩:ByteArray)).map (·.data.toList)=l:=by
  rw[ahs]
  conv=>rhs;rw[<-List.map_id l]
  apply List.map_congr_left
  intro x _;rfl
 obtain⟨hi,hxx⟩:=afb.1 h2
 have key:=Tryz.strings_Join g 0 c (l.map fun x=>(⟨x.toArray⟩:ByteArray)) ⟨#[44,32]⟩ w (fun j x hx=>by
  rw[aeY]at hx;obtain⟨y,hy,rfl⟩:=afr.1 hx;obtain⟨hj,-⟩:=aeK.1 hy;obtain⟨p,o,u,he,-,hu,hp⟩:=(Reads.dZ hr).cell (k:=j) (by omega)
  injection he with he
  injection he with he1 he2
  subst he1 he2;rw[aeY,hy]at hu;obtain rfl:=(aeM hu).symm
  exact hp) hi (by rw[aeP];omega) (by rw[aeP];omega) (by rw[hm,U2];exact hl)
 rw[aeP,hn,hm,U2]at key;exact key
def ab7: ∀(x y:List UInt8),Op.bytesLess x y=decide (x<y)
 |[],[]=>by simp[Op.bytesLess]
 |[],b :: y=>by simp[Op.bytesLess]
 |a :: x,[]=>by simp[Op.bytesLess]
 |a :: x,b :: y=>by
  rw[Op.bytesLess,ab7 x y,afN];simp only[aoT,aeU,anO,afx,afc]
def IQ (a b:List UInt8):(Op.bytesLess a b || a == b)=decide (a<=b):=by
 rw[ab7,afN];simp only[anO,aeU,afc];exact Iff.symm List.le_iff_lt_or_eq
def zV (l:List UInt8):(⟨l.toArray⟩:ByteArray).toList=l:=by rw[aod]
def Qk {κ α:Type} {f:Option κ->α->Nat} {key:α->κ} {l:List α} {n:Nat} (hn:l.length=n) {R:Nat} (hR:(Gr.first f key none l 0).1=R) (h: ∀j a,j<n->l[j]?=some a->f (Gr.aQ key l j) a=0):R=0:=by
 rw[<-hR,Gr.DR f key (fun j a hj=>h j a (by have:=(aeK.1 hj).1;omega) hj)]
def DU {κ α:Type} {f:Option κ->α->Nat} {key:α->κ} {l:List α} {k:Nat} {a:α} {R e:Nat} (hR:(Gr.first f key none l 0).1=R) (ha:l[k]?=some a) (h: ∀j a,j<k->l[j]?=some a->f (Gr.aQ key l j) a=0) (he:f (Gr.aQ key l k) a=e) (hne:e≠0):R=e:=by
 rw[<-hR,Gr.Uy f key ha he hne h]
def zW {κ α:Type} {f:Option κ->α->Nat} {key:α->κ} {l:List α} {k:Nat} {a:α} (ha:l[k]?=some a) (h: ∀j a,j<k->l[j]?=some a->f (Gr.aQ key l j) a=0) (he:f (Gr.aQ key l k) a=0): ∀j a,j<k+1->l[j]?=some a->f (Gr.aQ key l j) a=0:=fun j b hj hb=>by
 by_cases e:j=k
 ·subst e
  rw[ha]at hb;cases hb;exact he
 exact h j b (by omega) hb
def aj0 (B:Nat) (A:Option Addr) (c:Nat) (ls:List (List UInt8)) (w:World) (h:Reads w B 1 A ls.length (ls.map ST)) (hl:ls.length<=1073741824) (hs: ∀l∈ls,l.length<=1073741824):
  Calls prog 101 #[.slice A ls.length c] w fun e w'=>e=.returned (.int .i64 (Gr.wJ ls:Nat))/\w=w':=by
 obtain⟨R,hR⟩:=aj (Gr.wJ ls);rw[hR];unfold Gr.wJ at hR;obtain⟨n,hn⟩:=aj ls.length;rw[hn]at h hl hR⊢;refine gq4 h hs hn rG fun HH HS HN HU=>?_;by_cases h8:8<n
 ·rw[aeu h8]at hR
  subst hR;have yP:(8:Int)<n:=by omega
  have t8:decide ((8:Int)<n)=true:=aei yP;clear h h8 hs hl;go_enter func101,ntmps101;go_wp2;go_ret;exact⟨rfl,rfl⟩
 rw[aer h8]at hR;have HR:=ah hR;have yP:(n:Int)<=8:=by omega
 have t8:decide ((8:Int)<n)=false:=dF (by omega)
 clear h h8 hs hl hR;go_enter func101,ntmps101;go_wp2_with fail
 go_loopg [10] n (fun g x wr=> ∃k:Nat,x=.int .i64 k/\k+g=n/\w=wr/\ ∀j a,j<k->ls[j]?=some a->Gr.labelWrong (Gr.aQ id ls j) a=0)
 case atStart=>exact⟨0,rfl,by omega,rfl,fun j a h=>by omega⟩
 obtain⟨k,rfl,hk,rfl,hz⟩:=hrel;have HK:=ah hk;have HZ:=ah hz;clear hz;cases gk with
 |zero=>
  obtain rfl:k=n:=by omega
  have hr:=Qk HN.out HR.out HZ.out;have HRR:=ah hr;clear hk hr;go_wp2;go_ret;exact⟨by rw[HRR.out];rfl,rfl⟩
 |succ g=>
  have hkn:k<n:=by omega
  have dW:(k:Int)<n:=by omega
  obtain⟨p,o,x,rfl,-,hx,hp⟩:=HH.cell hkn;rw[aeY]at hx;obtain⟨y,hy,rfl⟩:=afr.1 hx;unfold ST at hp;obtain⟨z,hz⟩:=aj (⟨y.toArray⟩:ByteArray);rw[hz]at hp;have hzd:z.data.toList=y:=by rw[<-hz]
  have hzl:z.size<=1073741824:=by rw[aof,hzd];exact HS.out y (aew hy)
  have hcall:=IL z w hzl;rw[hzd]at hcall;have HY:=ah hy;have HZD:=ah hzd;cases hg:Gr.fD y with
  |false=>
   rw[hg]at hcall;have HC:=ah hcall;have hr:=DU HR.out HY.out HZ.out (e:=60) (by unfold Gr.labelWrong;rw[hg,aeu rfl]) (by decide)
   have HRR:=ah hr;clear hx hk hkn hy hz hzd hzl hcall hg hr;go_wp2_with fail;refine iq8 HC ?_;go_wp2;go_ret;exact⟨by rw[HRR.out];rfl,rfl⟩
  |true=>
   rw[hg]at hcall;have HC:=ah hcall;have gW:=ah hg;by_cases h0:k=0
   ·subst h0
    rw[agw]at hp;have hmore:=zW HY.out HZ.out (by unfold Gr.labelWrong;rw[hg,aer (by decide)];rfl)
    have HM:=ah hmore;clear hx hk hkn hy hz hzd hzl hcall hg hmore;go_wp2_with fail;refine iq8 HC ?_;go_wp2
    go_roundg g
    case measure=>omega
    exact⟨1,rfl,by have:=HK.out;omega,rfl,HM.out⟩
   obtain⟨m,rfl⟩: ∃m,k=m+1:=⟨k - 1,by omega⟩
   obtain⟨p',o',x',he,-,hx',hp'⟩:=HH.cell (k:=m) (by omega)
   injection he with he
   injection he with he1 he2
   subst he1;subst he2;rw[aeY]at hx';obtain⟨q,hq,rfl⟩:=afr.1 hx';unfold ST at hp';obtain⟨zq,nO⟩:=aj (⟨q.toArray⟩:ByteArray);have yQ:zq.toList=q:=by rw[<-nO,zV]
   rw[nO]at hp';obtain⟨b1,hb1⟩:=aj (Op.bytesLess z.toList zq.toList);obtain⟨b2,hb2⟩:=aj (z.toList == zq.toList);have hb:decide (y<=q)=(b1 || b2):=by rw[<-hb1,<-hb2,IQ,yQ,aod,hzd]
   have MG:(1:Int)<=((m+1:Nat):Int):=by omega
   have hm0:decide ((0:Int)<((m+1:Nat):Int))=true:=aei (by omega)
   have hsub:((m+1:Nat):Int) - 1=(m:Int):=by omega
   have MH:Gr.labelWrong (Gr.aQ id ls (m+1)) y=if(b1 || b2)=true then 6 else 0:=by
    have hpv:Gr.aQ id ls (m+1)=some q:=by show ls[m]?.map id=_;rw[hq];rfl
    unfold Gr.labelWrong;rw[hg,hpv,aer (by decide),<-hb]
    rfl
   have MI:=ah MH;clear hx hx' hq hk hkn hy hz hzd hzl hcall hg MH hb h0 nO yQ;go_wp2_with fail;refine iq8 HC ?_;have qR:=ah (show(b1 || b2)=true->R=6 from fun h=>DU HR.out HY.out HZ.out (e:=6) (by rw[MI.out,h];rfl) (by decide))
   cases b1 with
   |true=>
    have hr:=qR.out rfl;have HRR:=ah hr;clear hr;go_wp2;go_ret;exact⟨by rw[HRR.out];rfl,rfl⟩
   |false=>
    cases b2 with
    |true=>
     have hr:=qR.out rfl;have HRR:=ah hr;clear hr;go_wp2;go_ret;exact⟨by rw[HRR.out];rfl,rfl⟩
    |false=>
     have hmore:=zW HY.out HZ.out (by rw[MI.out];rfl)
     have HM:=ah hmore;clear hmore;go_wp2
     go_roundg g
     case measure=>omega
     exact⟨m+1+1,int_eq (by omega),by have:=HK.out;omega,rfl,HM.out⟩
def dD.prop {W:World} {B:Nat} {A:Option Addr} {l:List Gr.P} (h:dD W B 6 (bg W B) A l) {k:Nat} {p:Gr.P} (hk:l[k]?=some p): ∃b o An cn At ct,A=some ⟨b,o,none⟩/\b<B/\
  (W.cell? ⟨b,o+k*6,none⟩=some (ST p.key)/\W.cell? ⟨b,o+k*6+1,none⟩=some (.int .i64 p.val.kind)/\W.cell? ⟨b,o+k*6+2,none⟩=some (.int .i64 p.val.num)/\W.cell? ⟨b,o+k*6+3,none⟩=some (ST p.val.text)/\
  W.cell? ⟨b,o+k*6+4,none⟩=some (.slice An p.val.nums.length cn)/\W.cell? ⟨b,o+k*6+5,none⟩=some (.slice At p.val.texts.length ct))/\Reads W B 1 An p.val.nums.length (p.val.nums.map I64)/\Reads W B 1 At p.val.texts.length (p.val.texts.map ST):=by
 obtain⟨b,o,cs,hA,hb,⟨An,cn,At,ct,rfl,h1,h2⟩,-,hc⟩:=h k p hk;exact⟨b,o,An,cn,At,ct,hA,hb,⟨hc 0 _ rfl,hc 1 _ rfl,hc 2 _ rfl,hc 3 _ rfl,hc 4 _ rfl,hc 5 _ rfl⟩,h1,h2⟩
def zX {W:World} {B:Nat} {v:au.V} {An At:Option Addr} {cn ct:Nat} (hv:QM v) (h1:Reads W B 1 An v.nums.length (v.nums.map I64)) (h2:Reads W B 1 At v.texts.length (v.texts.map ST)):
  qM W B (.agg #[.int .i64 v.kind,.int .i64 v.num,ST v.text,.slice An v.nums.length cn,.slice At v.texts.length ct]) v:=
 ⟨⟨An,cn,At,ct,rfl,h1,h2⟩,hv.kin,hv.num,hv.nums,hv.tl,hv.nl,hv.sl,hv.sz⟩
def rJ {a b w:World} (h:Below a.heap.size a b) (k:Below b.heap.size b w):Below a.heap.size a w:=h.trans (k.mono h.size)
def Ah {W:World} {b:Nat} {T:TypeId} {v0 v1 v2 v3 v4 v5:Value} (h:ak W b T #[v0,v1,v2,v3,v4,v5]):
  W.cell? ⟨b,0,none⟩=some v0/\W.cell? ⟨b,1,none⟩=some v1/\W.cell? ⟨b,2,none⟩=some v2/\W.cell? ⟨b,3,none⟩=some v3/\W.cell? ⟨b,4,none⟩=some v4/\W.cell? ⟨b,5,none⟩=some v5:=
 ⟨h.cell 0,h.cell 1,h.cell 2,h.cell 3,h.cell 4,h.cell 5⟩
def cells5 {W:World} {b:Nat} {T:TypeId} {v0 v1 v2 v3 v4:Value} (h:ak W b T #[v0,v1,v2,v3,v4]):
  W.cell? ⟨b,0,none⟩=some v0/\W.cell? ⟨b,1,none⟩=some v1/\W.cell? ⟨b,2,none⟩=some v2/\W.cell? ⟨b,3,none⟩=some v3/\W.cell? ⟨b,4,none⟩=some v4:=
 ⟨h.cell 0,h.cell 1,h.cell 2,h.cell 3,h.cell 4⟩
def cells3 {W:World} {b:Nat} {T:TypeId} {v0 v1 v2:Value} (h:ak W b T #[v0,v1,v2]):W.cell? ⟨b,0,none⟩=some v0/\W.cell? ⟨b,1,none⟩=some v1/\W.cell? ⟨b,2,none⟩=some v2:=
 ⟨h.cell 0,h.cell 1,h.cell 2⟩
def cells2 {W:World} {b:Nat} {T:TypeId} {v0 v1:Value} (h:ak W b T #[v0,v1]):W.cell? ⟨b,0,none⟩=some v0/\W.cell? ⟨b,1,none⟩=some v1:=
 ⟨h.cell 0,h.cell 1⟩
def ab8 (B:Nat) (A:Option Addr) (c:Nat) (ps:List Gr.P) (w:World) (h:dD w B 6 (bg w B) A ps) (hB:B<=w.heap.size) (hl:ps.length<=1073741824) (hs: ∀p∈ps,vT p):
  Calls prog 102 #[.slice A ps.length c] w fun e w'=>e=.returned (.int .i64 (Gr.dJ ps:Nat))/\Below w.heap.size w w':=by
 obtain⟨R,hR⟩:=aj (Gr.dJ ps);rw[hR];unfold Gr.dJ at hR;obtain⟨n,hn⟩:=aj ps.length;rw[hn]at hl hR⊢;refine gq4 h hs hn rG fun HH HS HN HU=>?_;by_cases h8:16<n
 ·rw[aeu h8]at hR
  subst hR;have yP:(16:Int)<n:=by omega
  have t8:decide ((16:Int)<n)=true:=aei yP;clear h h8 hs hl;go_enter func102,ntmps102;go_wp2;go_ret;exact⟨rfl,aoa _ _⟩
 rw[aer h8]at hR;have HR:=ah hR;have yP:(n:Int)<=16:=by omega
 have t8:decide ((16:Int)<n)=false:=dF (by omega)
 clear h h8 hs hl hR;go_enter func102,ntmps102;go_wp2_with fail
 go_loopg [11] n (fun g x wr=> ∃k:Nat,x=.int .i64 k/\k+g=n/\Below w.heap.size w wr/\ ∀j a,j<k->ps[j]?=some a->Gr.lQ (Gr.aQ Gr.P.key ps j) a=0)
 case atStart=>exact⟨0,rfl,by omega,aoa _ _,fun j a h=>by omega⟩
 obtain⟨k,rfl,hk,hb,hz⟩:=hrel;refine gq3 hk hz hb fun HK HZ HB=>?_;clear hz hb;cases gk with
 |zero=>
  obtain rfl:k=n:=by omega
  have hr:=Qk HN.out HR.out HZ.out;have HRR:=ah hr;clear hk hr;go_wp2;go_ret;exact⟨by rw[HRR.out];rfl,HB.out⟩
 |succ g=>
  have hkn:k<n:=by omega
  have dW:(k:Int)<n:=by omega
  obtain⟨p,hp⟩: ∃p,ps[k]?=some p:=⟨_,aen (by rw[HN.out];exact hkn)⟩
  have HP:=ah hp;have Ai:=HH.below (HB.mono hB) (bg.below (HB.mono hB));obtain⟨b,o,An,cn,At,ct,rfl,hbB,⟨c0,c1,c2,c3,c4,c5⟩,r1,r2⟩:=Ai.prop hp;obtain⟨z,hz⟩:=aj (⟨p.key.toArray⟩:ByteArray);obtain⟨zt,aK⟩:=aj (⟨p.val.text.toArray⟩:ByteArray);unfold ST at c0 c3;rw[hz]at c0;rw[aK]at c3;clear hp hk hkn;have vV:=HS.out p (aew HP.out);obtain⟨W1,hW1⟩:=aj (wr.alloc (.cells #[.string z,.int .i64 p.val.kind,.int .i64 p.val.num,.string zt,.slice An p.val.nums.length cn,.slice At p.val.texts.length ct] 143));have hb1:Below wr.heap.size wr W1:=by rw[<-hW1];exact(aoa _ wr).alloc (aej _) _
  have k1:ak W1 wr.heap.size 143 #[.string z,.int .i64 p.val.kind,.int .i64 p.val.num,.string zt,.slice An p.val.nums.length cn,.slice At p.val.texts.length ct]:=by rw[<-hW1];exact ak.new _ _ _
  have hBW:Below w.heap.size w W1:=HB.trans (hb1.mono HB.size);have hBr:B<=wr.heap.size:=aep hB HB.size;have xA:=fun(m:Nat)=>((zX (cn:=cn) (ct:=ct) vV.val r1 r2).below (hb1.mono hBr)).below (below_drewN (aoa B W1) m)
  unfold ST at xA;rw[aK]at xA;have aeB:=fun(m:Nat)=>check_any B _ p.val (W1.drewN m) (xA m) (aep hBr hb1.size)
  have bH:=ah aeB;have hzd:z.data.toList=p.key:=by rw[<-hz]
  have hcall:=IL z W1 (by rw[aof,hzd];exact vV.key)
  rw[hzd]at hcall;have HW1:=ah hW1;have dG:=ah hBW;have hd:=Ah k1;have HD:=ah hd
  have yG:Hid (∀q:Gr.P,∀m:Nat,m<n->ps[m]?=some q->W1.cell? ⟨b,o+m*6,none⟩=some (ST q.key)):=fun q m hm hq=>by
   obtain⟨b',o',_,_,_,_,he,hlt,⟨e0,-⟩,-⟩:=Ai.prop hq
   injection he with he
   injection he with he1 he2
   subst he1;subst he2;exact((hb1.mono hBr).cell (by exact hlt)).trans e0
  obtain⟨Nm,Gt⟩:=aj (Gr.fD p.key);rw[Gt]at hcall;refine gq3 hcall Gt hzd fun HC qU HZD=>?_;obtain⟨CV,Js⟩:=aj (au.check p.val);rw[Js]at bH;have Jt:=ah Js;clear hW1 hb1 k1 hBW xA aeB hcall Gt Js hz aK hzd Ai r1 r2 hBr vV hbB hd
  go_upto_region 6 with fail
  rw[HW1.out];clear c0 c1 c2 c3 c4 c5 HW1;obtain⟨d0,d1,d2,d3,d4,d5⟩:=HD.out;go_wp2_with fail;refine iq8 HC ?_;cases Nm with
  |false=>
   have hr:=DU HR.out HP.out HZ.out (e:=60) (by unfold Gr.lQ;rw[qU.out,aeu rfl]) (by decide)
   have HRR:=ah hr;clear hr;go_wp2;go_ret;exact⟨by rw[HRR.out];rfl,dG.out⟩
  |true=>
   have MJ:=ah (fun(h:Gr.lQ (Gr.aQ Gr.P.key ps k) p=0)=>zW HP.out HZ.out h)
   have qR:=ah (fun(e:Nat) (h:Gr.lQ (Gr.aQ Gr.P.key ps k) p=e) (hne:e≠0)=>DU HR.out HP.out HZ.out h hne)
   by_cases h0:k=0
   ·have hk0:(k:Int)<=0:=by omega
    have tk:decide (0<k)=false:=dF (by omega)
    have hpw:Gr.lQ (Gr.aQ Gr.P.key ps k) p=CV:=by
     subst h0;unfold Gr.lQ;rw[qU.out,aer (by decide),aer (by simp[Gr.aQ]),Jt.out]
    have iT:=ah hpw;clear h0 hpw
    go_upto_region 8 with fail
    go_quiet (fail)
    go_wp2_with fail;refine mq7 (bH.out _) fun w4 hb4=>?_;have HB4:=ah (rJ (below_drewN dG.out nq) hb4);clear hb4;cases CV with
    |zero=>
     have HM:=ah (MJ.out iT.out);go_wp2
     go_roundg g
     case measure=>omega
     exact⟨k+1,int_eq (by omega),by have:=HK.out;omega,HB4.out,HM.out⟩
    |succ e=>
     have hr:=qR.out (e+1) iT.out (by omega)
     have HRR:=ah hr;have hne:(((e+1:Nat):Int) !=0)=true:=by rw[afd];omega
     clear hr;go_wp2;go_ret;exact⟨by rw[HRR.out];rfl,HB4.out⟩
   obtain⟨m,hm⟩: ∃m,k=m+1:=⟨k - 1,by omega⟩
   have tk:decide (0<k)=true:=aei (by omega)
   have hkp:(0:Int)<k:=by omega
   have hsub:(k:Int) - 1=(m:Int):=by omega
   have hmn:(m:Int)<n:=by omega
   have MK:m<n:=by omega
   obtain⟨q,hq⟩: ∃q,ps[m]?=some q:=⟨_,aen (by omega)⟩
   have e0:=yG.out q m MK hq;unfold ST at e0;obtain⟨zq,nO⟩:=aj (⟨q.key.toArray⟩:ByteArray);have yQ:zq.toList=q.key:=by rw[<-nO,zV]
   rw[nO]at e0;obtain⟨b1,hb1⟩:=aj (Op.bytesLess z.toList zq.toList);obtain⟨b2,hb2⟩:=aj (z.toList == zq.toList);have hb:decide (p.key<=q.key)=(b1 || b2):=by rw[<-hb1,<-hb2,IQ,yQ,aod,HZD.out]
   have hpw:Gr.lQ (Gr.aQ Gr.P.key ps k) p=if(b1 || b2)=true then 6 else CV:=by
    have hpv:Gr.aQ Gr.P.key ps k=some q.key:=by rw[hm];show ps[m]?.map Gr.P.key=_;rw[hq];rfl
    unfold Gr.lQ;rw[qU.out,hpv,aer (by decide),<-hb,Jt.out]
    rfl
   have iT:=ah hpw;clear h0 hpw hq nO yQ hb hm MK;have kJ:=ah (show(b1 || b2)=true->R=6 from fun h=>qR.out 6 (by rw[iT.out,h];rfl) (by decide))
   cases b1 with
   |true=>
    have hr:=kJ.out rfl;have HRR:=ah hr;clear hr
    go_upto_region 8 with fail
    go_quiet (fail)
    go_wp2;go_ret;exact⟨by rw[HRR.out];rfl,below_drewN dG.out _⟩
   |false=>
    cases b2 with
    |true=>
     have hr:=kJ.out rfl;have HRR:=ah hr;clear hr
     go_upto_region 8 with fail
     go_quiet (fail)
     go_wp2;go_ret;exact⟨by rw[HRR.out];rfl,below_drewN dG.out _⟩
    |false=>
     go_upto_region 8 with fail
     go_quiet (fail)
     go_wp2_with fail;refine mq7 (bH.out _) fun w4 hb4=>?_;have HB4:=ah (rJ (below_drewN dG.out nq) hb4);clear hb4;cases CV with
     |zero=>
      have HM:=ah (MJ.out iT.out);go_wp2
      go_roundg g
      case measure=>omega
      exact⟨k+1,int_eq (by omega),by have:=HK.out;omega,HB4.out,HM.out⟩
     |succ e=>
      have hr:=qR.out (e+1) iT.out (by omega)
      have HRR:=ah hr;have hne:(((e+1:Nat):Int) !=0)=true:=by rw[afd];omega
      clear hr;go_wp2;go_ret;exact⟨by rw[HRR.out];rfl,HB4.out⟩
end Go.Proofs.YtdijgcnlbfgkdaaGreatDoor
