/- Contracts and plain laws,part 18. -/
import Derived.Test.YtkdakckjafomhaaGreatDoorUW17
import Derived.RegionDies
import Derived.Defers
import Derived.Recover
import Derived.Laws.Pointers
set_option maxHeartbeats 64000000
set_option maxRecDepth 1000000
set_option linter.all false
namespace Go.Proofs.YtkdakckjafomhaaGreatDoor
open Go.RowKit
theorem ajp (c:UInt8):Lex.oG c=((decide ((97:Int)<=(c.toNat:Int)) && decide ((c.toNat:Int)<=122)) ||(decide ((65:Int)<=(c.toNat:Int)) && decide ((c.toNat:Int)<=90)) ||(decide ((48:Int)<=(c.toNat:Int)) && decide ((c.toNat:Int)<=57)) ||((c.toNat:Int) == 95)):=by
 rw[agn];simp only[Lex.oG,Lex.isLet,Num.bn,af7,aeW,aei,aeI];omega
theorem aaG:Gr.bC []=false:=by decide
theorem aaH {l:List UInt8} (h:40<l.length):Gr.bC l=false:=by
 unfold Gr.bC;rw[ac5 (by omega: ¬l.length<=40)]
 simp
theorem aaI {l:List UInt8} {c:UInt8} (h:l[0]?=some c) (hc:Num.bn c=true):Gr.bC l=false:=by
 cases l with
 |nil=>simp at h
 |cons a r=>
  simp only[adn,aeK]at h;subst h;unfold Gr.bC;simp[hc]
theorem aaJ {l:List UInt8} {c:UInt8} {k:Nat} (h:l[k]?=some c) (hc:Lex.oG c=false):Gr.bC l=false:=by
 unfold Gr.bC;rw[List.all_eq_false.2 ⟨c,adI h,by rw[hc];decide⟩]
 simp
theorem aaK {l:List UInt8} {c:UInt8} (h0:l[0]?=some c) (hc:Num.bn c=false) (hl:l.length<=40) (h: ∀(j:Nat) d,l[j]?=some d->Lex.oG d=true):Gr.bC l=true:=by
 cases l with
 |nil=>simp at h0
 |cons a r=>
  simp only[adn,aeK]at h0;subst h0;unfold Gr.bC
  rw[afF.2 (fun d hd=>by
   obtain⟨j,hj,e⟩:=afj hd
   exact h j d (by rw[dF hj,e]))]
  rw[adb hl];simp[hc]
theorem Iu (s:ByteArray) (w:World) (hs:s.size<=1073741824):
  Calls Tryz.prog 32 #[.string s] w fun e w'=>e=.returned (.bool (Gr.bC s.data.toList))/\w=w':=by
 obtain⟨R,hR⟩:=aj (Gr.bC s.data.toList);rw[hR];have HR:=ah hR;clear hR
 have hl:=Lib.size_eq s;have hg:=fun(k:Nat) (h:k<s.size)=>yZ s k h
 have hd:=Lib.toList_data s;obtain⟨n,hn⟩:=aj s.size;rw[hn]at hl hs;have hu:=CX
 by_cases h0:n=0
 ·subst h0
  have hs0:s.toList.isEmpty=true:=by rw[hd,ant];exact adB hl.symm
  have hr:R=false:=by rw[<-HR.out,adB hl.symm];exact aaG
  have HRR:=ah hr;clear hr hl hg hd hs;go_enter Tryz.func32,Tryz.ntmps32;go_wp2;go_ret
  exact⟨by rw[HRR.out];rfl,rfl⟩
 have hs0:s.toList.isEmpty=false:=by rw[hd,af4];intro e;rw[e]at hl;simp at hl;omega
 by_cases kH:40<n
 ·have Lp:(40:Int)<n:=by omega
  have t40:decide ((40:Int)<n)=true:=adb Lp
  have hr:R=false:=by rw[<-HR.out];exact aaH (by omega)
  have HRR:=ah hr;clear hr hl hg hd h0 kH hs;go_enter Tryz.func32,Tryz.ntmps32;go_wp2
  go_ret;exact⟨by rw[HRR.out];rfl,rfl⟩
 have Lp:(n:Int)<=40:=by omega
 have t40:decide ((40:Int)<n)=false:=ac5 (by omega)
 have hp:0<s.size:=by omega
 obtain⟨c,hc⟩:=aj (s[0]'hp);have hc0:s.data.toList[0]?=some c:=by rw[hg 0 hp,hc]
 have qJ:=ah hc0;have HG:=ah hg;have HN:=ah hn;have dJ:=ah hl;have HU:=ah hu
 clear hg hd hc0 hl;obtain⟨x1,hx1⟩:=aj (decide ((48:Int)<=(c.toNat:Int)))
 obtain⟨x2,hx2⟩:=aj (decide ((c.toNat:Int)<=57))
 have hdig:Num.bn c=(x1 && x2):=by
  rw[<-hx1,<-hx2,agn];simp only[Num.bn,aeW,aei];omega
 have I9:=ah hdig;clear hdig hs;have hni:(n:Int)<=1073741824:=by omega
 by_cases hxx:x1=true/\x2=true
 ·obtain⟨rfl,rfl⟩:=hxx
  have hr:R=false:=by rw[<-HR.out];exact aaI qJ.out I9.out
  have HRR:=ah hr;have apD:=adN hx1;have apE:=adN hx2;clear hr h0 kH
  go_enter Tryz.func32,Tryz.ntmps32;go_wp2;go_ret;exact⟨by rw[HRR.out];rfl,rfl⟩
 have hnd:Num.bn c=false:=by rw[I9.out];cases x1<;>cases x2<;>simp_all
 have kZ:=ah hnd;have hor:x1=false\/(x1=true/\x2=false):=by cases x1<;>cases x2<;>simp_all
 clear hnd hxx h0 kH;go_enter Tryz.func32,Tryz.ntmps32
 go_upto_region 1 with fail
 go_cut [21] (fun VT wx=>VT=.bool false/\w=wx)
 case first=>
  rcases hor with rfl|⟨rfl,rfl⟩
  ·have hxi:=adM hx1
   go_wp2;go_meet;exact⟨rfl,rfl⟩
  have hxi:=adN hx1;have hxj:=adM hx2;go_wp2;go_meet;exact⟨rfl,rfl⟩
 obtain⟨rfl,rfl⟩:=hcut;clear hx1 hx2 hor;go_wp2_with fail
 go_loopg [24] n (fun g x wr=> ∃k:Nat,x=.int .i64 k/\k+g=n/\w=wr/\ ∀(j:Nat) d,j<k->s.data.toList[j]?=some d->Lex.oG d=true)
 case atStart=>exact⟨0,rfl,by omega,rfl,fun j d h=>by omega⟩
 obtain⟨k,rfl,hk,rfl,hz⟩:=hrel;have HK:=ah hk;have HZ:=ah hz;clear hz;cases gk with
 |zero=>
  obtain rfl:k=n:=by omega
  have hr:R=true:=by
   rw[<-HR.out]
   exact aaK qJ.out kZ.out (by have:=dJ.out;omega) (fun j d hj=>HZ.out j d (by have:=(adw.1 hj).1;have:=dJ.out;omega) hj)
  have HRR:=ah hr;clear hk hr;go_wp2;go_ret;exact⟨by rw[HRR.out];rfl,rfl⟩
 |succ g=>
  have hkn:k<n:=by omega
  have dH:(k:Int)<n:=by omega
  have hks:k<s.size:=by rw[HN.out];exact hkn
  obtain⟨d,hd⟩:=aj (s[k]'hks)
  have HD:=ah (show s.data.toList[k]?=some d by rw[HG.out k hks,hd])
  obtain⟨a1,ha1⟩:=aj (decide ((97:Int)<=(d.toNat:Int)))
  obtain⟨a2,ha2⟩:=aj (decide ((d.toNat:Int)<=122))
  obtain⟨b1,hb1⟩:=aj (decide ((65:Int)<=(d.toNat:Int)))
  obtain⟨b2,hb2⟩:=aj (decide ((d.toNat:Int)<=90))
  obtain⟨c1,hc1⟩:=aj (decide ((48:Int)<=(d.toNat:Int)))
  obtain⟨c2,hc2⟩:=aj (decide ((d.toNat:Int)<=57))
  obtain⟨e1,he1⟩:=aj ((d.toNat:Int) == 95)
  have sV:=ah (show Lex.oG d=(a1 && a2 || b1 && b2 || c1 && c2 || e1) by rw[ajp,ha1,ha2,hb1,hb2,hc1,hc2,he1])
  have hn1:(d.toNat:Int)<=255:=by have:=d.toNat_lt;omega
  have HB:=ah (show R=false\/(a1 && a2 || b1 && b2 || c1 && c2 || e1)=true by
   cases hq:(a1 && a2 || b1 && b2 || c1 && c2 || e1) with
   |true=>exact .inr rfl
   |false=>exact .inl (by rw[<-HR.out];exact aaJ HD.out (sV.trans hq)))
  have gy:=ah (show(a1 && a2 || b1 && b2 || c1 && c2 || e1)=true-> ∀(j:Nat) q,j<k+1->s.data.toList[j]?=some q->Lex.oG q=true from fun h j q hj hq=>by
   by_cases e:j=k
   ·subst e
    rw[HD.out]at hq;cases hq;rw[sV.out];exact h
   exact HZ.out j q (by omega) hq)
  clear hk;cases a1 with
  |true=>
   cases a2 with
   |true=>
    have kJ:=adN ha1;have xW:=adN ha2;have hz:=gy.out rfl;have HZ2:=ah hz;clear hz;go_wp2
    go_roundg g
    case measure=>omega
    exact⟨k+1,int_eq (by omega),by have:=HK.out;omega,rfl,HZ2.out⟩
   |false=>
    cases b1 with
    |true=>
     cases b2 with
     |true=>
      have kJ:=adN ha1;have xW:=adM ha2;have lg:=adN hb1;have xX:=adN hb2
      have hz:=gy.out rfl;have HZ2:=ah hz;clear hz;go_wp2
      go_roundg g
      case measure=>omega
      exact⟨k+1,int_eq (by omega),by have:=HK.out;omega,rfl,HZ2.out⟩
     |false=>
      cases c1 with
      |true=>
       cases c2 with
       |true=>
        have kJ:=adN ha1;have xW:=adM ha2;have lg:=adN hb1;have xX:=adM hb2
        have nD:=adN hc1;have xY:=adN hc2;have hz:=gy.out rfl;have HZ2:=ah hz;clear hz
        go_wp2
        go_roundg g
        case measure=>omega
        exact⟨k+1,int_eq (by omega),by have:=HK.out;omega,rfl,HZ2.out⟩
       |false=>
        cases e1 with
        |true=>
         have kJ:=adN ha1;have xW:=adM ha2;have lg:=adN hb1;have xX:=adM hb2
         have nD:=adN hc1;have xY:=adM hc2;have qR:=aeI.1 he1;have hz:=gy.out rfl
         have HZ2:=ah hz;clear hz;go_wp2
         go_roundg g
         case measure=>omega
         exact⟨k+1,int_eq (by omega),by have:=HK.out;omega,rfl,HZ2.out⟩
        |false=>
         have kJ:=adN ha1;have xW:=adM ha2;have lg:=adN hb1;have xX:=adM hb2
         have nD:=adN hc1;have xY:=adM hc2;have qR:=adh.1 he1
         have hr:R=false:=HB.elim id (fun h=>by cases h)
         have HRR:=ah hr;clear hr;go_wp2;go_ret;exact⟨by rw[HRR.out];rfl,rfl⟩
      |false=>
       cases e1 with
       |true=>
        have kJ:=adN ha1;have xW:=adM ha2;have lg:=adN hb1;have xX:=adM hb2
        have nD:=adM hc1;have qR:=aeI.1 he1;have hz:=gy.out rfl;have HZ2:=ah hz;clear hz
        go_wp2
        go_roundg g
        case measure=>omega
        exact⟨k+1,int_eq (by omega),by have:=HK.out;omega,rfl,HZ2.out⟩
       |false=>
        have kJ:=adN ha1;have xW:=adM ha2;have lg:=adN hb1;have xX:=adM hb2
        have nD:=adM hc1;have qR:=adh.1 he1
        have hr:R=false:=HB.elim id (fun h=>by cases h)
        have HRR:=ah hr;clear hr;go_wp2;go_ret;exact⟨by rw[HRR.out];rfl,rfl⟩
    |false=>
     cases c1 with
     |true=>
      cases c2 with
      |true=>
       have kJ:=adN ha1;have xW:=adM ha2;have lg:=adM hb1;have nD:=adN hc1
       have xY:=adN hc2;have hz:=gy.out rfl;have HZ2:=ah hz;clear hz;go_wp2
       go_roundg g
       case measure=>omega
       exact⟨k+1,int_eq (by omega),by have:=HK.out;omega,rfl,HZ2.out⟩
      |false=>
       cases e1 with
       |true=>
        have kJ:=adN ha1;have xW:=adM ha2;have lg:=adM hb1;have nD:=adN hc1
        have xY:=adM hc2;have qR:=aeI.1 he1;have hz:=gy.out rfl;have HZ2:=ah hz;clear hz
        go_wp2
        go_roundg g
        case measure=>omega
        exact⟨k+1,int_eq (by omega),by have:=HK.out;omega,rfl,HZ2.out⟩
       |false=>
        have kJ:=adN ha1;have xW:=adM ha2;have lg:=adM hb1;have nD:=adN hc1
        have xY:=adM hc2;have qR:=adh.1 he1
        have hr:R=false:=HB.elim id (fun h=>by cases h)
        have HRR:=ah hr;clear hr;go_wp2;go_ret;exact⟨by rw[HRR.out];rfl,rfl⟩
     |false=>
      cases e1 with
      |true=>
       have kJ:=adN ha1;have xW:=adM ha2;have lg:=adM hb1;have nD:=adM hc1
       have qR:=aeI.1 he1;have hz:=gy.out rfl;have HZ2:=ah hz;clear hz;go_wp2
       go_roundg g
       case measure=>omega
       exact⟨k+1,int_eq (by omega),by have:=HK.out;omega,rfl,HZ2.out⟩
      |false=>
       have kJ:=adN ha1;have xW:=adM ha2;have lg:=adM hb1;have nD:=adM hc1
       have qR:=adh.1 he1;have hr:R=false:=HB.elim id (fun h=>by cases h)
       have HRR:=ah hr;clear hr;go_wp2;go_ret;exact⟨by rw[HRR.out];rfl,rfl⟩
  |false=>
   cases b1 with
   |true=>
    cases b2 with
    |true=>
     have kJ:=adM ha1;have lg:=adN hb1;have xX:=adN hb2;have hz:=gy.out rfl
     have HZ2:=ah hz;clear hz;go_wp2
     go_roundg g
     case measure=>omega
     exact⟨k+1,int_eq (by omega),by have:=HK.out;omega,rfl,HZ2.out⟩
    |false=>
     cases c1 with
     |true=>
      cases c2 with
      |true=>
       have kJ:=adM ha1;have lg:=adN hb1;have xX:=adM hb2;have nD:=adN hc1
       have xY:=adN hc2;have hz:=gy.out rfl;have HZ2:=ah hz;clear hz;go_wp2
       go_roundg g
       case measure=>omega
       exact⟨k+1,int_eq (by omega),by have:=HK.out;omega,rfl,HZ2.out⟩
      |false=>
       cases e1 with
       |true=>
        have kJ:=adM ha1;have lg:=adN hb1;have xX:=adM hb2;have nD:=adN hc1
        have xY:=adM hc2;have qR:=aeI.1 he1;have hz:=gy.out rfl;have HZ2:=ah hz;clear hz
        go_wp2
        go_roundg g
        case measure=>omega
        exact⟨k+1,int_eq (by omega),by have:=HK.out;omega,rfl,HZ2.out⟩
       |false=>
        have kJ:=adM ha1;have lg:=adN hb1;have xX:=adM hb2;have nD:=adN hc1
        have xY:=adM hc2;have qR:=adh.1 he1
        have hr:R=false:=HB.elim id (fun h=>by cases h)
        have HRR:=ah hr;clear hr;go_wp2;go_ret;exact⟨by rw[HRR.out];rfl,rfl⟩
     |false=>
      cases e1 with
      |true=>
       have kJ:=adM ha1;have lg:=adN hb1;have xX:=adM hb2;have nD:=adM hc1
       have qR:=aeI.1 he1;have hz:=gy.out rfl;have HZ2:=ah hz;clear hz;go_wp2
       go_roundg g
       case measure=>omega
       exact⟨k+1,int_eq (by omega),by have:=HK.out;omega,rfl,HZ2.out⟩
      |false=>
       have kJ:=adM ha1;have lg:=adN hb1;have xX:=adM hb2;have nD:=adM hc1
       have qR:=adh.1 he1;have hr:R=false:=HB.elim id (fun h=>by cases h)
       have HRR:=ah hr;clear hr;go_wp2;go_ret;exact⟨by rw[HRR.out];rfl,rfl⟩
   |false=>
    cases c1 with
    |true=>
     cases c2 with
     |true=>
      have kJ:=adM ha1;have lg:=adM hb1;have nD:=adN hc1;have xY:=adN hc2
      have hz:=gy.out rfl;have HZ2:=ah hz;clear hz;go_wp2
      go_roundg g
      case measure=>omega
      exact⟨k+1,int_eq (by omega),by have:=HK.out;omega,rfl,HZ2.out⟩
     |false=>
      cases e1 with
      |true=>
       have kJ:=adM ha1;have lg:=adM hb1;have nD:=adN hc1;have xY:=adM hc2
       have qR:=aeI.1 he1;have hz:=gy.out rfl;have HZ2:=ah hz;clear hz;go_wp2
       go_roundg g
       case measure=>omega
       exact⟨k+1,int_eq (by omega),by have:=HK.out;omega,rfl,HZ2.out⟩
      |false=>
       have kJ:=adM ha1;have lg:=adM hb1;have nD:=adN hc1;have xY:=adM hc2
       have qR:=adh.1 he1;have hr:R=false:=HB.elim id (fun h=>by cases h)
       have HRR:=ah hr;clear hr;go_wp2;go_ret;exact⟨by rw[HRR.out];rfl,rfl⟩
    |false=>
     cases e1 with
     |true=>
      have kJ:=adM ha1;have lg:=adM hb1;have nD:=adM hc1;have qR:=aeI.1 he1
      have hz:=gy.out rfl;have HZ2:=ah hz;clear hz;go_wp2
      go_roundg g
      case measure=>omega
      exact⟨k+1,int_eq (by omega),by have:=HK.out;omega,rfl,HZ2.out⟩
     |false=>
      have kJ:=adM ha1;have lg:=adM hb1;have nD:=adM hc1;have qR:=adh.1 he1
      have hr:R=false:=HB.elim id (fun h=>by cases h)
      have HRR:=ah hr;clear hr;go_wp2;go_ret;exact⟨by rw[HRR.out];rfl,rfl⟩
theorem PG: ∀(x y:List UInt8),Op.bytesLess x y=decide (x<y)
 |[],[]=>by simp[Op.bytesLess]
 |[],b :: y=>by simp[Op.bytesLess]
 |a :: x,[]=>by simp[Op.bytesLess]
 |a :: x,b :: y=>by
  rw[Op.bytesLess,PG x y,agn];simp only[aon,aei,af7,aeW,aeI]
theorem Iw (a b:List UInt8):(Op.bytesLess a b || a == b)=decide (a<=b):=by
 rw[PG,agn];simp only[af7,aei,aeI];exact Iff.symm ap5
theorem rZ (l:List UInt8):(⟨l.toArray⟩:ByteArray).toList=l:=by rw[Lib.toList_data]
theorem PI {κ α:Type} {f:Option κ->α->Nat} {key:α->κ} {l:List α} {n:Nat} (hn:l.length=n) {R:Nat} (hR:(Gr.first f key none l 0).1=R) (h: ∀j a,j<n->l[j]?=some a->f (Gr.aH key l j) a=0):R=0:=by
 rw[<-hR,Gr.C9 f key (fun j a hj=>h j a (by have:=(adw.1 hj).1;omega) hj)]
theorem Dc {κ α:Type} {f:Option κ->α->Nat} {key:α->κ} {l:List α} {k:Nat} {a:α} {R e:Nat} (hR:(Gr.first f key none l 0).1=R) (ha:l[k]?=some a) (h: ∀j a,j<k->l[j]?=some a->f (Gr.aH key l j) a=0) (he:f (Gr.aH key l k) a=e) (hne:e≠0):R=e:=by
 rw[<-hR,Gr.TT f key ha he hne h]
theorem zf {κ α:Type} {f:Option κ->α->Nat} {key:α->κ} {l:List α} {k:Nat} {a:α} (ha:l[k]?=some a) (h: ∀j a,j<k->l[j]?=some a->f (Gr.aH key l j) a=0) (he:f (Gr.aH key l k) a=0): ∀j a,j<k+1->l[j]?=some a->f (Gr.aH key l j) a=0:=fun j b hj hb=>by
 by_cases e:j=k
 ·subst e
  rw[ha]at hb;cases hb;exact he
 exact h j b (by omega) hb
theorem ajq (B:Nat) (A:Option Addr) (c:Nat) (ls:List (List UInt8)) (w:World) (h:Reads w B 1 A ls.length (ls.map ST)) (hl:ls.length<=1073741824) (hs: ∀l∈ls,l.length<=1073741824):
  Calls Tryz.prog 88 #[.slice A ls.length c] w fun e w'=>e=.returned (.int .i64 (Gr.uY ls:Nat))/\w=w':=by
 obtain⟨R,hR⟩:=aj (Gr.uY ls);rw[hR];unfold Gr.uY at hR;obtain⟨n,hn⟩:=aj ls.length
 rw[hn]at h hl hR⊢;have HH:=ah h;have HS:=ah hs;have HN:=ah hn;have HU:=ah CX
 by_cases h8:8<n
 ·rw[adk h8]at hR
  subst hR;have xZ:(8:Int)<n:=by omega
  have t8:decide ((8:Int)<n)=true:=adb xZ;clear h h8 hs hl
  go_enter Tryz.func88,Tryz.ntmps88;go_wp2;go_ret;exact⟨rfl,rfl⟩
 rw[ade h8]at hR;have HR:=ah hR;have xZ:(n:Int)<=8:=by omega
 have t8:decide ((8:Int)<n)=false:=ac5 (by omega)
 clear h h8 hs hl hR;go_enter Tryz.func88,Tryz.ntmps88;go_wp2_with fail
 go_loopg [10] n (fun g x wr=> ∃k:Nat,x=.int .i64 k/\k+g=n/\w=wr/\ ∀j a,j<k->ls[j]?=some a->Gr.labelWrong (Gr.aH id ls j) a=0)
 case atStart=>exact⟨0,rfl,by omega,rfl,fun j a h=>by omega⟩
 obtain⟨k,rfl,hk,rfl,hz⟩:=hrel;have HK:=ah hk;have HZ:=ah hz;clear hz;cases gk with
 |zero=>
  obtain rfl:k=n:=by omega
  have hr:=PI HN.out HR.out HZ.out;have HRR:=ah hr;clear hk hr;go_wp2;go_ret
  exact⟨by rw[HRR.out];rfl,rfl⟩
 |succ g=>
  have hkn:k<n:=by omega
  have dH:(k:Int)<n:=by omega
  obtain⟨p,o,x,rfl,-,hx,hp⟩:=HH.cell hkn;rw[adX]at hx;obtain⟨y,hy,rfl⟩:=ae4.1 hx
  unfold ST at hp;obtain⟨z,hz⟩:=aj (⟨y.toArray⟩:ByteArray);rw[hz]at hp
  have hzd:z.data.toList=y:=by rw[<-hz]
  have hzl:z.size<=1073741824:=by rw[Lib.size_eq,hzd];exact HS.out y (adI hy)
  have hcall:=Iu z w hzl;rw[hzd]at hcall;have HY:=ah hy;have HZD:=ah hzd
  cases hg:Gr.bC y with
  |false=>
   rw[hg]at hcall;have HC:=ah hcall
   have hr:=Dc HR.out HY.out HZ.out (e:=60) (by unfold Gr.labelWrong;rw[hg,adk rfl]) (by decide)
   have HRR:=ah hr;clear hx hk hkn hy hz hzd hzl hcall hg hr;go_wp2_with fail
   refine HC.mono ?_;rintro e w' ⟨rfl,rfl⟩;go_wp2;go_ret;exact⟨by rw[HRR.out];rfl,rfl⟩
  |true=>
   rw[hg]at hcall;have HC:=ah hcall;have dQ:=ah hg;by_cases h0:k=0
   ·subst h0
    rw[aft]at hp
    have hmore:=zf HY.out HZ.out (by unfold Gr.labelWrong;rw[hg,ade (by decide)];rfl)
    have HM:=ah hmore;clear hx hk hkn hy hz hzd hzl hcall hg hmore;go_wp2_with fail
    refine HC.mono ?_;rintro e w' ⟨rfl,rfl⟩;go_wp2
    go_roundg g
    case measure=>omega
    exact⟨1,rfl,by have:=HK.out;omega,rfl,HM.out⟩
   obtain⟨m,rfl⟩: ∃m,k=m+1:=⟨k - 1,by omega⟩
   obtain⟨p',o',x',he,-,hx',hp'⟩:=HH.cell (k:=m) (by omega)
   injection he with he
   injection he with he1 he2
   subst he1;subst he2;rw[adX]at hx';obtain⟨q,hq,rfl⟩:=ae4.1 hx';unfold ST at hp'
   obtain⟨zq,qU⟩:=aj (⟨q.toArray⟩:ByteArray);have x8:zq.toList=q:=by rw[<-qU,rZ]
   rw[qU]at hp';obtain⟨b1,hb1⟩:=aj (Op.bytesLess z.toList zq.toList)
   obtain⟨b2,hb2⟩:=aj (z.toList == zq.toList)
   have hb:decide (y<=q)=(b1 || b2):=by rw[<-hb1,<-hb2,Iw,x8,Lib.toList_data,hzd]
   have Ja:(1:Int)<=((m+1:Nat):Int):=by omega
   have hm0:decide ((0:Int)<((m+1:Nat):Int))=true:=adb (by omega)
   have hsub:((m+1:Nat):Int) - 1=(m:Int):=by omega
   have lq:Gr.labelWrong (Gr.aH id ls (m+1)) y=if(b1 || b2)=true then 6 else 0:=by
    have hpv:Gr.aH id ls (m+1)=some q:=by show ls[m]?.map id=_;rw[hq];rfl
    unfold Gr.labelWrong;rw[hg,hpv,ade (by decide),<-hb]
    rfl
   have nY:=ah lq;clear hx hx' hq hk hkn hy hz hzd hzl hcall hg lq hb h0 qU x8
   go_wp2_with fail;refine HC.mono ?_;rintro e w' ⟨rfl,rfl⟩
   have uG:=ah (show(b1 || b2)=true->R=6 from fun h=>Dc HR.out HY.out HZ.out (e:=6) (by rw[nY.out,h];rfl) (by decide))
   cases b1 with
   |true=>
    have hr:=uG.out rfl;have HRR:=ah hr;clear hr;go_wp2;go_ret
    exact⟨by rw[HRR.out];rfl,rfl⟩
   |false=>
    cases b2 with
    |true=>
     have hr:=uG.out rfl;have HRR:=ah hr;clear hr;go_wp2;go_ret
     exact⟨by rw[HRR.out];rfl,rfl⟩
    |false=>
     have hmore:=zf HY.out HZ.out (by rw[nY.out];rfl)
     have HM:=ah hmore;clear hmore;go_wp2
     go_roundg g
     case measure=>omega
     exact⟨m+1+1,int_eq (by omega),by have:=HK.out;omega,rfl,HM.out⟩
theorem bY.prop {W:World} {B:Nat} {A:Option Addr} {l:List Gr.P} (h:bY W B 6 (aX W B) A l) {k:Nat} {p:Gr.P} (hk:l[k]?=some p): ∃b o An cn At ct,A=some ⟨b,o,none⟩/\b<B/\
  (W.cell? ⟨b,o+k*6,none⟩=some (ST p.key)/\W.cell? ⟨b,o+k*6+1,none⟩=some (.int .i64 p.val.kind)/\W.cell? ⟨b,o+k*6+2,none⟩=some (.int .i64 p.val.num)/\W.cell? ⟨b,o+k*6+3,none⟩=some (ST p.val.text)/\
  W.cell? ⟨b,o+k*6+4,none⟩=some (.slice An p.val.nums.length cn)/\W.cell? ⟨b,o+k*6+5,none⟩=some (.slice At p.val.texts.length ct))/\Reads W B 1 An p.val.nums.length (p.val.nums.map I64)/\Reads W B 1 At p.val.texts.length (p.val.texts.map ST):=by
 obtain⟨b,o,cs,hA,hb,⟨An,cn,At,ct,rfl,h1,h2⟩,-,hc⟩:=h k p hk
 exact⟨b,o,An,cn,At,ct,hA,hb,⟨hc 0 _ rfl,hc 1 _ rfl,hc 2 _ rfl,hc 3 _ rfl,hc 4 _ rfl,hc 5 _ rfl⟩,h1,h2⟩
theorem Df {W:World} {B:Nat} {v:ak.V} {An At:Option Addr} {cn ct:Nat} (hv:IX v) (h1:Reads W B 1 An v.nums.length (v.nums.map I64)) (h2:Reads W B 1 At v.texts.length (v.texts.map ST)):
  oV W B (.agg #[.int .i64 v.kind,.int .i64 v.num,ST v.text,.slice An v.nums.length cn,.slice At v.texts.length ct]) v:=
 ⟨⟨An,cn,At,ct,rfl,h1,h2⟩,hv.kin,hv.num,hv.nums,hv.tl,hv.nl,hv.sl,hv.sz⟩
theorem pV {a b w:World} (h:Below a.heap.size a b) (k:Below b.heap.size b w):Below a.heap.size a w:=h.trans (k.mono h.size)
theorem FV {W:World} {b:Nat} {T:TypeId} {v0 v1 v2 v3 v4 v5:Value} (h:au W b T #[v0,v1,v2,v3,v4,v5]):
  W.cell? ⟨b,0,none⟩=some v0/\W.cell? ⟨b,1,none⟩=some v1/\W.cell? ⟨b,2,none⟩=some v2/\W.cell? ⟨b,3,none⟩=some v3/\W.cell? ⟨b,4,none⟩=some v4/\W.cell? ⟨b,5,none⟩=some v5:=
 ⟨h.cell 0,h.cell 1,h.cell 2,h.cell 3,h.cell 4,h.cell 5⟩
theorem cells5 {W:World} {b:Nat} {T:TypeId} {v0 v1 v2 v3 v4:Value} (h:au W b T #[v0,v1,v2,v3,v4]):
  W.cell? ⟨b,0,none⟩=some v0/\W.cell? ⟨b,1,none⟩=some v1/\W.cell? ⟨b,2,none⟩=some v2/\W.cell? ⟨b,3,none⟩=some v3/\W.cell? ⟨b,4,none⟩=some v4:=
 ⟨h.cell 0,h.cell 1,h.cell 2,h.cell 3,h.cell 4⟩
theorem cells3 {W:World} {b:Nat} {T:TypeId} {v0 v1 v2:Value} (h:au W b T #[v0,v1,v2]):W.cell? ⟨b,0,none⟩=some v0/\W.cell? ⟨b,1,none⟩=some v1/\W.cell? ⟨b,2,none⟩=some v2:=
 ⟨h.cell 0,h.cell 1,h.cell 2⟩
theorem cells2 {W:World} {b:Nat} {T:TypeId} {v0 v1:Value} (h:au W b T #[v0,v1]):W.cell? ⟨b,0,none⟩=some v0/\W.cell? ⟨b,1,none⟩=some v1:=
 ⟨h.cell 0,h.cell 1⟩
theorem aaL (B:Nat) (A:Option Addr) (c:Nat) (ps:List Gr.P) (w:World) (h:bY w B 6 (aX w B) A ps) (hB:B<=w.heap.size) (hl:ps.length<=1073741824) (hs: ∀p∈ps,uF p):
  Calls Tryz.prog 89 #[.slice A ps.length c] w fun e w'=>e=.returned (.int .i64 (Gr.lQ ps:Nat))/\Below w.heap.size w w':=by
 obtain⟨R,hR⟩:=aj (Gr.lQ ps);rw[hR];unfold Gr.lQ at hR;obtain⟨n,hn⟩:=aj ps.length
 rw[hn]at hl hR⊢;have HH:=ah h;have HS:=ah hs;have HN:=ah hn;have HU:=ah CX
 by_cases h8:16<n
 ·rw[adk h8]at hR
  subst hR;have xZ:(16:Int)<n:=by omega
  have t8:decide ((16:Int)<n)=true:=adb xZ;clear h h8 hs hl
  go_enter Tryz.func89,Tryz.ntmps89;go_wp2;go_ret;exact⟨rfl,Below.refl _ _⟩
 rw[ade h8]at hR;have HR:=ah hR;have xZ:(n:Int)<=16:=by omega
 have t8:decide ((16:Int)<n)=false:=ac5 (by omega)
 clear h h8 hs hl hR;go_enter Tryz.func89,Tryz.ntmps89;go_wp2_with fail
 go_loopg [11] n (fun g x wr=> ∃k:Nat,x=.int .i64 k/\k+g=n/\Below w.heap.size w wr/\ ∀j a,j<k->ps[j]?=some a->Gr.kS (Gr.aH Gr.P.key ps j) a=0)
 case atStart=>exact⟨0,rfl,by omega,Below.refl _ _,fun j a h=>by omega⟩
 obtain⟨k,rfl,hk,hb,hz⟩:=hrel;have HK:=ah hk;have HZ:=ah hz;have HB:=ah hb;clear hz hb
 cases gk with
 |zero=>
  obtain rfl:k=n:=by omega
  have hr:=PI HN.out HR.out HZ.out;have HRR:=ah hr;clear hk hr;go_wp2;go_ret
  exact⟨by rw[HRR.out];rfl,HB.out⟩
 |succ g=>
  have hkn:k<n:=by omega
  have dH:(k:Int)<n:=by omega
  obtain⟨p,hp⟩: ∃p,ps[k]?=some p:=⟨_,dF (by rw[HN.out];exact hkn)⟩
  have HP:=ah hp;have FY:=HH.below (HB.mono hB) (aX.below (HB.mono hB))
  obtain⟨b,o,An,cn,At,ct,rfl,hbB,⟨c0,c1,c2,c3,c4,c5⟩,r1,r2⟩:=FY.prop hp
  obtain⟨z,hz⟩:=aj (⟨p.key.toArray⟩:ByteArray)
  obtain⟨zt,dU⟩:=aj (⟨p.val.text.toArray⟩:ByteArray);unfold ST at c0 c3;rw[hz]at c0
  rw[dU]at c3;clear hp hk hkn;have qo:=HS.out p (adI HP.out)
  obtain⟨W1,hW1⟩:=aj (wr.alloc (.cells #[.string z,.int .i64 p.val.kind,.int .i64 p.val.num,.string zt,.slice An p.val.nums.length cn,.slice At p.val.texts.length ct] 39))
  have hb1:Below wr.heap.size wr W1:=by rw[<-hW1];exact(Below.refl _ wr).alloc (ac4 _) _
  have k1:au W1 wr.heap.size 39 #[.string z,.int .i64 p.val.kind,.int .i64 p.val.num,.string zt,.slice An p.val.nums.length cn,.slice At p.val.texts.length ct]:=by rw[<-hW1];exact au.new _ _ _
  have hBW:Below w.heap.size w W1:=HB.trans (hb1.mono HB.size)
  have hBr:B<=wr.heap.size:=adg hB HB.size
  have FZ:=fun(m:Nat)=>((Df (cn:=cn) (ct:=ct) qo.val r1 r2).below (hb1.mono hBr)).below (below_drewN (Below.refl B W1) m)
  unfold ST at FZ;rw[dU]at FZ
  have adJ:=fun(m:Nat)=>check_any B _ p.val (W1.drewN m) (FZ m) (adg hBr hb1.size)
  have bf:=ah adJ;have hzd:z.data.toList=p.key:=by rw[<-hz]
  have hcall:=Iu z W1 (by rw[Lib.size_eq,hzd];exact qo.key)
  rw[hzd]at hcall;have HW1:=ah hW1;have dZ:=ah hBW;have hd:=FV k1;have HD:=ah hd
  have vO:Hid (∀q:Gr.P,∀m:Nat,m<n->ps[m]?=some q->W1.cell? ⟨b,o+m*6,none⟩=some (ST q.key)):=fun q m hm hq=>by
   obtain⟨b',o',_,_,_,_,he,hlt,⟨e0,-⟩,-⟩:=FY.prop hq
   injection he with he
   injection he with he1 he2
   subst he1;subst he2;exact((hb1.mono hBr).cell (by exact hlt)).trans e0
  obtain⟨Nm,F5⟩:=aj (Gr.bC p.key);rw[F5]at hcall;have HC:=ah hcall;have F6:=ah F5
  have HZD:=ah hzd;obtain⟨CV,Jb⟩:=aj (ak.check p.val);rw[Jb]at bf;have Jc:=ah Jb
  clear hW1 hb1 k1 hBW FZ adJ hcall F5 Jb hz dU hzd FY r1 r2 hBr qo hbB hd
  go_upto_region 6 with fail
  rw[HW1.out];clear c0 c1 c2 c3 c4 c5 HW1;obtain⟨d0,d1,d2,d3,d4,d5⟩:=HD.out
  go_wp2_with fail;refine HC.mono ?_;rintro e w' ⟨rfl,rfl⟩;cases Nm with
  |false=>
   have hr:=Dc HR.out HP.out HZ.out (e:=60) (by unfold Gr.kS;rw[F6.out,adk rfl]) (by decide)
   have HRR:=ah hr;clear hr;go_wp2;go_ret;exact⟨by rw[HRR.out];rfl,dZ.out⟩
  |true=>
   have Lr:=ah (fun(h:Gr.kS (Gr.aH Gr.P.key ps k) p=0)=>zf HP.out HZ.out h)
   have uG:=ah (fun(e:Nat) (h:Gr.kS (Gr.aH Gr.P.key ps k) p=e) (hne:e≠0)=>Dc HR.out HP.out HZ.out h hne)
   by_cases h0:k=0
   ·have hk0:(k:Int)<=0:=by omega
    have tk:decide (0<k)=false:=ac5 (by omega)
    have hpw:Gr.kS (Gr.aH Gr.P.key ps k) p=CV:=by
     subst h0;unfold Gr.kS;rw[F6.out,ade (by decide),ade (by simp[Gr.aH]),Jc.out]
    have qp:=ah hpw;clear h0 hpw
    go_upto_region 8 with fail
    go_quiet (fail)
    go_wp2_with fail;refine(bf.out _).mono ?_;rintro e w4 ⟨rfl,hb4⟩
    have HB4:=ah (pV (below_drewN dZ.out nq) hb4);clear hb4;cases CV with
    |zero=>
     have HM:=ah (Lr.out qp.out);go_wp2
     go_roundg g
     case measure=>omega
     exact⟨k+1,int_eq (by omega),by have:=HK.out;omega,HB4.out,HM.out⟩
    |succ e=>
     have hr:=uG.out (e+1) qp.out (by omega)
     have HRR:=ah hr;have hne:(((e+1:Nat):Int) !=0)=true:=by rw[adY];omega
     clear hr;go_wp2;go_ret;exact⟨by rw[HRR.out];rfl,HB4.out⟩
   obtain⟨m,hm⟩: ∃m,k=m+1:=⟨k - 1,by omega⟩
   have tk:decide (0<k)=true:=adb (by omega)
   have hkp:(0:Int)<k:=by omega
   have hsub:(k:Int) - 1=(m:Int):=by omega
   have hmn:(m:Int)<n:=by omega
   have Ls:m<n:=by omega
   obtain⟨q,hq⟩: ∃q,ps[m]?=some q:=⟨_,dF (by omega)⟩
   have e0:=vO.out q m Ls hq;unfold ST at e0
   obtain⟨zq,qU⟩:=aj (⟨q.key.toArray⟩:ByteArray);have x8:zq.toList=q.key:=by rw[<-qU,rZ]
   rw[qU]at e0;obtain⟨b1,hb1⟩:=aj (Op.bytesLess z.toList zq.toList)
   obtain⟨b2,hb2⟩:=aj (z.toList == zq.toList)
   have hb:decide (p.key<=q.key)=(b1 || b2):=by rw[<-hb1,<-hb2,Iw,x8,Lib.toList_data,HZD.out]
   have hpw:Gr.kS (Gr.aH Gr.P.key ps k) p=if(b1 || b2)=true then 6 else CV:=by
    have hpv:Gr.aH Gr.P.key ps k=some q.key:=by rw[hm];show ps[m]?.map Gr.P.key=_;rw[hq];rfl
    unfold Gr.kS;rw[F6.out,hpv,ade (by decide),<-hb,Jc.out]
    rfl
   have qp:=ah hpw;clear h0 hpw hq qU x8 hb hm Ls
   have oU:=ah (show(b1 || b2)=true->R=6 from fun h=>uG.out 6 (by rw[qp.out,h];rfl) (by decide))
   cases b1 with
   |true=>
    have hr:=oU.out rfl;have HRR:=ah hr;clear hr
    go_upto_region 8 with fail
    go_quiet (fail)
    go_wp2;go_ret;exact⟨by rw[HRR.out];rfl,below_drewN dZ.out _⟩
   |false=>
    cases b2 with
    |true=>
     have hr:=oU.out rfl;have HRR:=ah hr;clear hr
     go_upto_region 8 with fail
     go_quiet (fail)
     go_wp2;go_ret;exact⟨by rw[HRR.out];rfl,below_drewN dZ.out _⟩
    |false=>
     go_upto_region 8 with fail
     go_quiet (fail)
     go_wp2_with fail;refine(bf.out _).mono ?_;rintro e w4 ⟨rfl,hb4⟩
     have HB4:=ah (pV (below_drewN dZ.out nq) hb4);clear hb4;cases CV with
     |zero=>
      have HM:=ah (Lr.out qp.out);go_wp2
      go_roundg g
      case measure=>omega
      exact⟨k+1,int_eq (by omega),by have:=HK.out;omega,HB4.out,HM.out⟩
     |succ e=>
      have hr:=uG.out (e+1) qp.out (by omega)
      have HRR:=ah hr;have hne:(((e+1:Nat):Int) !=0)=true:=by rw[adY];omega
      clear hr;go_wp2;go_ret;exact⟨by rw[HRR.out];rfl,HB4.out⟩
def fB (W:World) (B:Nat) (x:Gr.P×List Value):Prop:=
 ∃s t,x.2=[ST x.1.key,.int .i64 x.1.val.kind,.int .i64 x.1.val.num,ST x.1.val.text,s,t]/\W.ownsRow B 2 1 s x.1.val.nums.length (x.1.val.nums.map I64)/\W.ownsRow B 9 1 t x.1.val.texts.length (x.1.val.texts.map ST)
theorem fB.row {w w':World} {B:Nat} {row:Option Nat} {x:Gr.P×List Value} (h:fB w B x) (hg:w.grownBy w' row) (hty: ∀g c t fz,row=some g->w.heap[g]?=some (.cells c t fz)->t≠2/\t≠9):fB w' B x:=by
 obtain⟨s,t,e,h1,h2⟩:=h
 exact⟨s,t,e,aW h1 hg fun g c t' fz hr hc=>(hty g c t' fz hr hc).1,aW h2 hg fun g c t' fz hr hc=>(hty g c t' fz hr hc).2⟩
theorem fB.base {w:World} {B B':Nat} {x:Gr.P×List Value} (h:fB w B x) (hb:B'<=B):fB w B' x:=by
 obtain⟨s,t,e,h1,h2⟩:=h;exact⟨s,t,e,own_base h1 hb,own_base h2 hb⟩
def cu (T:TypeId) (W:World) (B:Nat) (v:Value) (ps:List Gr.P):Prop:=
 ∃l:List (Gr.P×List Value),l.map Prod.fst=ps/\(∀x∈l,fB W B x)/\W.ownsRow B T 6 v ps.length (l.flatMap Prod.snd)
theorem cu.nil (T:TypeId) (W:World) (B:Nat):cu T W B (.slice none 0 0) []:=⟨[],rfl,by simp,World.ownsRow_nil _ _ _ _⟩
theorem cu.base {T:TypeId} {w:World} {B B':Nat} {v:Value} {ps:List Gr.P} (h:cu T w B v ps) (hb:B'<=B):cu T w B' v ps:=by
 obtain⟨l,e,h1,h2⟩:=h;exact⟨l,e,fun x hx=>(h1 x hx).base hb,own_base h2 hb⟩
theorem cu.put {T:TypeId} {w w':World} {B:Nat} {v v':Value} {ps:List Gr.P} {p:Gr.P} {cs:List Value} {l:List (Gr.P×List Value)} (hT:T≠2/\T≠9) (hl:l.map Prod.fst=ps) (h1: ∀x∈l,fB w B x) (hp:fB w B (p,cs))
  (hv:w.ownsRow B T 6 v ps.length (l.flatMap Prod.snd)) (hg:w.grownBy w' v.ownBlock) (hown:w'.ownsRow B T 6 v' (ps.length+1) (l.flatMap Prod.snd++cs)):cu T w' B v' (ps++[p]):=by
 have hty: ∀g c t fz,v.ownBlock=some g->w.heap[g]?=some (.cells c t fz)->t≠2/\t≠9:=fun g c t fz hr hc=>by
  obtain⟨-,c',hc'⟩:=tY hv g hr;rw[hc']at hc;cases hc;exact hT
 refine⟨l++[(p,cs)],by rw[ad8,hl];rfl,fun x hx=> ?_, ?_⟩
 ·rcases aem.1 hx with hx|hx
  ·exact(h1 x hx).row hg hty
  rw[ael.1 hx];exact hp.row hg hty
 rw[adf,afG]
 simpa using hown
theorem Ub {ops:Array Oper} {o:Oper} {a:Act} {K:Act->World->Prop} {Q:Exit->Act->World->Prop} {E:Prop} (f:FuncId) {args:Array Value} {W:World} {R:Value->World->Prop} (hgd:o.guard=none)
  (he:(execOp a.eval o).run Tryz.prog W=.ok (.enter f args) W) (hc:Calls Tryz.prog f args W fun e w'=> ∃v,e=.returned v/\R v w') (k: ∀v w',R v w'->K (a.put o.dst v) w'):
  if Region.wanted o (yielded ops a.tmps)=true then Oper.wp Tryz.prog o a W K Q else E:=by
 have hw:Region.wanted o (yielded ops a.tmps)=true:=by simp[Region.wanted,hgd]
 rw[adk hw];unfold Oper.wp;rw[he];refine hc.mono ?_;rintro e w' ⟨v,rfl,h⟩;exact k v w' h
theorem JX {ops:Array Oper} {o:Oper} {a:Act} {K:Act->World->Prop} {Q:Exit->Act->World->Prop} {E:Prop} (hgd:o.guard=none) (s x:Operand) (T e:TypeId) (z:Value) (sz bytes:Nat)
  (hT:Tryz.prog.underlying T=some (.slice e)) (hinfo:(Tryz.prog.info? e).map (fun i=>(i.zero,i.size,i.bytes))=some (some z,sz,bytes)) (hz:z.cells.size=sz) (hsz:0<sz) (hby:bytes<=200)
  (ho:o.op=.call {callee:=.builtin .append,args:= #[s,x],argTypes:= #[T,T]})
  (B:Nat) (v:Value) (n:Nat) (xs:List Value) (W:World) (hs:a.eval s=v) (h:W.ownsRow B e sz v n xs) (news:List Value) (cs:Array Value) (hcs:cs=news.toArray) (hnl:news.length=sz) (hu: ∀u∈news,u.oneCell'=true)
  (hx:a.eval x=.slice (some ⟨W.heap.size,0,none⟩) 1 1) (hl:n<536870912) (hB:B<=W.heap.size)
  (k: ∀v' w',w'.ownsRow B e sz v' (n+1) (xs++news)->W.grownBy w' v.ownBlock->(v'.ownBlock=v.ownBlock\/ ∃g,v'.ownBlock=some g/\W.heap.size<=g)->Below B W w'->K (a.put o.dst v') w'):
  if Region.wanted o (yielded ops a.tmps)=true then Oper.wp Tryz.prog o a (W.alloc (.cells cs e)) K Q else E:=by
 subst hcs;have hw:Region.wanted o (yielded ops a.tmps)=true:=by simp[Region.wanted,hgd]
 rw[adk hw];obtain⟨i0,hi,hz0,hz1,hz2⟩:=info_parts hinfo
 have hnews: ∀j u',news[j]?=some u'->(W.alloc (.cells news.toArray e)).cell? ((⟨W.heap.size,0,none⟩:Addr).add j)=some u':=Zr _ _ _
 obtain⟨v',w',hrun,h2,h3,h4,h5⟩:=run_append_own_at (P:=Tryz.prog) (W.alloc (.cells news.toArray e)) B T o.type e i0 z sz bytes hT hi hz0 hz1 hz2 hz hsz v n xs (World.ownsRow.alloc h _) ⟨W.heap.size,0,none⟩ 1 1 news (by omega) hnews hu (by unfold maxLen;omega) (by
  have:(n+1)*bytes<=536870912*200:=anL (by omega) hby
  omega) (by simp;omega)
 unfold Oper.wp execOp
 simp only[ho,resolve,invoke,builtin,Sem.run_bind,Sem.run_pure,Result.andThen_ok,ard,aeR,afX,hs,hx,hrun]
 refine k v' w' h2 (tZ (wO (mO W _) _) h3) (h5.imp id (fun h=>⟨_,h,by simp⟩)) ?_
 exact((Below.refl B W).alloc hB _).grown h3 (by simp;omega) (fun j e=>(World.ownsRow.lt h j e).1)
theorem cu.form {T:TypeId} {W:World} {B:Nat} {v:Value} {ps:List Gr.P} (h:cu T W B v ps): ∃A c,v=.slice A ps.length c:=by
 obtain⟨l,-,-,h3⟩:=h;exact aF h3
theorem cu.row {T:TypeId} {w w':World} {B:Nat} {row:Option Nat} {v:Value} {ps:List Gr.P} (h:cu T w B v ps) (hg:w.grownBy w' row) (hty: ∀g c t fz,row=some g->w.heap[g]?=some (.cells c t fz)->t≠2/\t≠9/\t≠T):cu T w' B v ps:=by
 obtain⟨l,e,h1,h2⟩:=h
 exact⟨l,e,fun x hx=>(h1 x hx).row hg fun g c t fz hr hc=>⟨(hty g c t fz hr hc).1,(hty g c t fz hr hc).2.1⟩,aW h2 hg fun g c t fz hr hc=>(hty g c t fz hr hc).2.2⟩
theorem cu.below {T:TypeId} {w w':World} {B:Nat} {v:Value} {ps:List Gr.P} (h:cu T w B v ps) (hb:Below w.heap.size w w'):cu T w' B v ps:=h.row (dL hb none) (fun g c t fz hr=>by cases hr)
end Go.Proofs.YtkdakckjafomhaaGreatDoor
