/- Contracts and plain laws,part 19. -/
import Derived.Test.YtoofbflplhbpbaaGreatDoorUO13
import Derived.Test.YtoofbflplhbpbaaGreatDoorUO17
set_option maxHeartbeats 64000000
set_option maxRecDepth 1000000
set_option linter.all false
namespace Go.Proofs.YtoofbflplhbpbaaGreatDoor
open Go.RowKit
theorem ahP (c:UInt8):Lex.bV c=((decide ((97:Int)<=(c.toNat:Int)) && decide ((c.toNat:Int)<=122)) ||(decide ((65:Int)<=(c.toNat:Int)) && decide ((c.toNat:Int)<=90)) ||(decide ((48:Int)<=(c.toNat:Int)) && decide ((c.toNat:Int)<=57)) ||((c.toNat:Int) == 95)):=by
 rw [alp];simp only [Lex.bV,Lex.isLet,Num.aP,ak6,adr,acZ,adp];omega
theorem Z4:Gr.dw []=false:=by decide
theorem Z5 {l:List UInt8} (h:40<l.length):Gr.dw l=false:=by
 unfold Gr.dw;rw [abX (by omega: ¬l.length<=40)]
 simp
theorem Z7 {l:List UInt8} {c:UInt8} (h:l[0]?=some c) (hc:Num.aP c=true):Gr.dw l=false:=by
 cases l with
 | nil=>simp at h
 | cons a r=>
  simp only [ab9,ads] at h;subst h;unfold Gr.dw;simp [hc]
theorem Z8 {l:List UInt8} {c:UInt8} {k:Nat} (h:l[k]?=some c) (hc:Lex.bV c=false):Gr.dw l=false:=by
 unfold Gr.dw;rw [List.all_eq_false.2 ⟨c,acf h,by rw [hc];decide⟩]
 simp
theorem Z9 {l:List UInt8} {c:UInt8} (h0:l[0]?=some c) (hc:Num.aP c=false) (hl:l.length<=40) (h: ∀(j:Nat) d,l[j]?=some d->Lex.bV d=true):Gr.dw l=true:=by
 cases l with
 | nil=>simp at h0
 | cons a r=>
  simp only [ab9,ads] at h0;subst h0;unfold Gr.dw
  rw [akC.2 (fun d hd=>by
   obtain ⟨j,hj,e⟩:=ad2 hd
   exact h j d (by rw [ab2 hj,e]))]
  rw [abW hl];simp [hc]
theorem FM (s:ByteArray) (w:World) (hs:s.size<=1073741824):
  Calls Tryz.prog 90 #[.string s] w fun e w'=>e= .returned (.bool (Gr.dw s.data.toList))/\w=w':=by
 obtain ⟨R,hR⟩: ∃R,Gr.dw s.data.toList=R:=⟨_,rfl⟩;rw [hR];have HR:=ah hR;clear hR
 have hl:=Lib.size_eq s;have hg:=fun (k:Nat) (h:k<s.size)=>AZ s k h
 have hd:=Lib.toList_data s;obtain ⟨n,hn⟩: ∃n,s.size=n:=⟨_,rfl⟩;rw [hn] at hl hs
 have hu:=ug;by_cases h0:n=0
 ·subst h0
  have hs0:s.toList.isEmpty=true:=by rw [hd,alx];exact acD hl.symm
  have hr:R=false:=by rw [<-HR.out,acD hl.symm];exact Z4
  have HRR:=ah hr;clear hr hl hg hd hs;go_enter Tryz.func90,Tryz.ntmps90;go_wp2;go_ret
  exact ⟨by rw [HRR.out];rfl,rfl⟩
 have hs0:s.toList.isEmpty=false:=by rw [hd,akv];intro e;rw [e] at hl;simp at hl;omega
 by_cases jT:40<n
 ·have JI:(40:Int)<n:=by omega
  have t40:decide ((40:Int)<n)=true:=abW JI
  have hr:R=false:=by rw [<-HR.out];exact Z5 (by omega)
  have HRR:=ah hr;clear hr hl hg hd h0 jT hs;go_enter Tryz.func90,Tryz.ntmps90;go_wp2
  go_ret;exact ⟨by rw [HRR.out];rfl,rfl⟩
 have JI:(n:Int)<=40:=by omega
 have t40:decide ((40:Int)<n)=false:=abX (by omega)
 have hp:0<s.size:=by omega
 obtain ⟨c,hc⟩: ∃c,s[0]'hp=c:=⟨_,rfl⟩
 have hc0:s.data.toList[0]?=some c:=by rw [hg 0 hp,hc]
 have xW:=ah hc0;have HG:=ah hg;have HN:=ah hn;have dR:=ah hl;have HU:=ah hu
 clear hg hd hc0 hl;obtain ⟨x1,hx1⟩: ∃x,decide ((48:Int)<=(c.toNat:Int))=x:=⟨_,rfl⟩
 obtain ⟨x2,hx2⟩: ∃x,decide ((c.toNat:Int)<=57)=x:=⟨_,rfl⟩
 have hdig:Num.aP c=(x1 && x2):=by
  rw [<-hx1,<-hx2,alp];simp only [Num.aP,adr,acZ];omega
 have Gv:=ah hdig;clear hdig hs;have hni:(n:Int)<=1073741824:=by omega
 by_cases hxx:x1=true/\x2=true
 ·obtain ⟨rfl,rfl⟩:=hxx
  have hr:R=false:=by rw [<-HR.out];exact Z7 xW.out Gv.out
  have HRR:=ah hr;have anz:=aci hx1;have anA:=aci hx2;clear hr h0 jT
  go_enter Tryz.func90,Tryz.ntmps90;go_wp2;go_ret;exact ⟨by rw [HRR.out];rfl,rfl⟩
 have hnd:Num.aP c=false:=by rw [Gv.out];cases x1<;> cases x2<;> simp_all
 have kW:=ah hnd;have hor:x1=false\/(x1=true/\x2=false):=by cases x1<;> cases x2<;> simp_all
 clear hnd hxx h0 jT;go_enter Tryz.func90,Tryz.ntmps90
 go_upto_region 1 with fail
 go_cut [21] (fun Uo wx=>Uo= .bool false/\w=wx)
 case first=>
  rcases hor with rfl |⟨rfl,rfl⟩
  ·have hxi:=ach hx1
   go_wp2;go_meet;exact ⟨rfl,rfl⟩
  have hxi:=aci hx1;have hxj:=ach hx2;go_wp2;go_meet;exact ⟨rfl,rfl⟩
 obtain ⟨rfl,rfl⟩:=hcut;clear hx1 hx2 hor;go_wp2_with fail
 go_loopg [24] n (fun g x wr=> ∃k:Nat,x= .int .i64 k/\k+g=n/\w=wr/\ ∀(j:Nat) d,j<k->s.data.toList[j]?=some d->Lex.bV d=true)
 case atStart=>exact ⟨0,rfl,by omega,rfl,fun j d h=>by omega⟩
 obtain ⟨k,rfl,hk,rfl,hz⟩:=hrel;have HK:=ah hk;have HZ:=ah hz;clear hz;cases gk with
 | zero=>
  obtain rfl:k=n:=by omega
  have hr:R=true:=by
   rw [<-HR.out]
   exact Z9 xW.out kW.out (by have:=dR.out;omega) (fun j d hj=>HZ.out j d (by have:=(acy.1 hj).1;have:=dR.out;omega) hj)
  have HRR:=ah hr;clear hk hr;go_wp2;go_ret;exact ⟨by rw [HRR.out];rfl,rfl⟩
 | succ g=>
  have hkn:k<n:=by omega
  have dD:(k:Int)<n:=by omega
  have hks:k<s.size:=by rw [HN.out];exact hkn
  obtain ⟨d,hd⟩: ∃d,s[k]'hks=d:=⟨_,rfl⟩
  have HD:=ah (show s.data.toList[k]?=some d by rw [HG.out k hks,hd])
  obtain ⟨a1,ha1⟩: ∃a,decide ((97:Int)<=(d.toNat:Int))=a:=⟨_,rfl⟩
  obtain ⟨a2,ha2⟩: ∃a,decide ((d.toNat:Int)<=122)=a:=⟨_,rfl⟩
  obtain ⟨b1,hb1⟩: ∃a,decide ((65:Int)<=(d.toNat:Int))=a:=⟨_,rfl⟩
  obtain ⟨b2,hb2⟩: ∃a,decide ((d.toNat:Int)<=90)=a:=⟨_,rfl⟩
  obtain ⟨c1,hc1⟩: ∃a,decide ((48:Int)<=(d.toNat:Int))=a:=⟨_,rfl⟩
  obtain ⟨c2,hc2⟩: ∃a,decide ((d.toNat:Int)<=57)=a:=⟨_,rfl⟩
  obtain ⟨e1,he1⟩: ∃a,((d.toNat:Int) == 95)=a:=⟨_,rfl⟩
  have uJ:=ah (show Lex.bV d=(a1 && a2 || b1 && b2 || c1 && c2 || e1) by rw [ahP,ha1,ha2,hb1,hb2,hc1,hc2,he1])
  have hn1:(d.toNat:Int)<=255:=by have:=d.toNat_lt;omega
  have HB:=ah (show R=false\/(a1 && a2 || b1 && b2 || c1 && c2 || e1)=true by
   cases hq:(a1 && a2 || b1 && b2 || c1 && c2 || e1) with
   | true=>exact .inr rfl
   | false=>exact .inl (by rw [<-HR.out];exact Z8 HD.out (uJ.out.trans hq)))
  have jD:=ah (show (a1 && a2 || b1 && b2 || c1 && c2 || e1)=true-> ∀(j:Nat) q,j<k+1->s.data.toList[j]?=some q->Lex.bV q=true from fun h j q hj hq=>by
   by_cases e:j=k
   ·subst e
    rw [HD.out] at hq;cases hq;rw [uJ.out];exact h
   exact HZ.out j q (by omega) hq)
  clear hk;cases a1 with
  | true=>
   cases a2 with
   | true=>
    have jU:=aci ha1;have wG:=aci ha2;have hz:=jD.out rfl;have HZ2:=ah hz;clear hz;go_wp2
    go_roundg g
    case measure=>omega
    exact ⟨k+1,int_eq (by omega),by have:=HK.out;omega,rfl,HZ2.out⟩
   | false=>
    cases b1 with
    | true=>
     cases b2 with
     | true=>
      have jU:=aci ha1;have wG:=ach ha2;have kF:=aci hb1;have wH:=aci hb2
      have hz:=jD.out rfl;have HZ2:=ah hz;clear hz;go_wp2
      go_roundg g
      case measure=>omega
      exact ⟨k+1,int_eq (by omega),by have:=HK.out;omega,rfl,HZ2.out⟩
     | false=>
      cases c1 with
      | true=>
       cases c2 with
       | true=>
        have jU:=aci ha1;have wG:=ach ha2;have kF:=aci hb1;have wH:=ach hb2
        have lV:=aci hc1;have wI:=aci hc2;have hz:=jD.out rfl;have HZ2:=ah hz;clear hz
        go_wp2
        go_roundg g
        case measure=>omega
        exact ⟨k+1,int_eq (by omega),by have:=HK.out;omega,rfl,HZ2.out⟩
       | false=>
        cases e1 with
        | true=>
         have jU:=aci ha1;have wG:=ach ha2;have kF:=aci hb1;have wH:=ach hb2
         have lV:=aci hc1;have wI:=ach hc2;have pX:=adp.1 he1;have hz:=jD.out rfl
         have HZ2:=ah hz;clear hz;go_wp2
         go_roundg g
         case measure=>omega
         exact ⟨k+1,int_eq (by omega),by have:=HK.out;omega,rfl,HZ2.out⟩
        | false=>
         have jU:=aci ha1;have wG:=ach ha2;have kF:=aci hb1;have wH:=ach hb2
         have lV:=aci hc1;have wI:=ach hc2;have pX:=ab3.1 he1
         have hr:R=false:=HB.out.elim id (fun h=>by cases h)
         have HRR:=ah hr;clear hr;go_wp2;go_ret;exact ⟨by rw [HRR.out];rfl,rfl⟩
      | false=>
       cases e1 with
       | true=>
        have jU:=aci ha1;have wG:=ach ha2;have kF:=aci hb1;have wH:=ach hb2
        have lV:=ach hc1;have pX:=adp.1 he1;have hz:=jD.out rfl;have HZ2:=ah hz;clear hz
        go_wp2
        go_roundg g
        case measure=>omega
        exact ⟨k+1,int_eq (by omega),by have:=HK.out;omega,rfl,HZ2.out⟩
       | false=>
        have jU:=aci ha1;have wG:=ach ha2;have kF:=aci hb1;have wH:=ach hb2
        have lV:=ach hc1;have pX:=ab3.1 he1
        have hr:R=false:=HB.out.elim id (fun h=>by cases h)
        have HRR:=ah hr;clear hr;go_wp2;go_ret;exact ⟨by rw [HRR.out];rfl,rfl⟩
    | false=>
     cases c1 with
     | true=>
      cases c2 with
      | true=>
       have jU:=aci ha1;have wG:=ach ha2;have kF:=ach hb1;have lV:=aci hc1
       have wI:=aci hc2;have hz:=jD.out rfl;have HZ2:=ah hz;clear hz;go_wp2
       go_roundg g
       case measure=>omega
       exact ⟨k+1,int_eq (by omega),by have:=HK.out;omega,rfl,HZ2.out⟩
      | false=>
       cases e1 with
       | true=>
        have jU:=aci ha1;have wG:=ach ha2;have kF:=ach hb1;have lV:=aci hc1
        have wI:=ach hc2;have pX:=adp.1 he1;have hz:=jD.out rfl;have HZ2:=ah hz;clear hz
        go_wp2
        go_roundg g
        case measure=>omega
        exact ⟨k+1,int_eq (by omega),by have:=HK.out;omega,rfl,HZ2.out⟩
       | false=>
        have jU:=aci ha1;have wG:=ach ha2;have kF:=ach hb1;have lV:=aci hc1
        have wI:=ach hc2;have pX:=ab3.1 he1
        have hr:R=false:=HB.out.elim id (fun h=>by cases h)
        have HRR:=ah hr;clear hr;go_wp2;go_ret;exact ⟨by rw [HRR.out];rfl,rfl⟩
     | false=>
      cases e1 with
      | true=>
       have jU:=aci ha1;have wG:=ach ha2;have kF:=ach hb1;have lV:=ach hc1
       have pX:=adp.1 he1;have hz:=jD.out rfl;have HZ2:=ah hz;clear hz;go_wp2
       go_roundg g
       case measure=>omega
       exact ⟨k+1,int_eq (by omega),by have:=HK.out;omega,rfl,HZ2.out⟩
      | false=>
       have jU:=aci ha1;have wG:=ach ha2;have kF:=ach hb1;have lV:=ach hc1
       have pX:=ab3.1 he1;have hr:R=false:=HB.out.elim id (fun h=>by cases h)
       have HRR:=ah hr;clear hr;go_wp2;go_ret;exact ⟨by rw [HRR.out];rfl,rfl⟩
  | false=>
   cases b1 with
   | true=>
    cases b2 with
    | true=>
     have jU:=ach ha1;have kF:=aci hb1;have wH:=aci hb2;have hz:=jD.out rfl
     have HZ2:=ah hz;clear hz;go_wp2
     go_roundg g
     case measure=>omega
     exact ⟨k+1,int_eq (by omega),by have:=HK.out;omega,rfl,HZ2.out⟩
    | false=>
     cases c1 with
     | true=>
      cases c2 with
      | true=>
       have jU:=ach ha1;have kF:=aci hb1;have wH:=ach hb2;have lV:=aci hc1
       have wI:=aci hc2;have hz:=jD.out rfl;have HZ2:=ah hz;clear hz;go_wp2
       go_roundg g
       case measure=>omega
       exact ⟨k+1,int_eq (by omega),by have:=HK.out;omega,rfl,HZ2.out⟩
      | false=>
       cases e1 with
       | true=>
        have jU:=ach ha1;have kF:=aci hb1;have wH:=ach hb2;have lV:=aci hc1
        have wI:=ach hc2;have pX:=adp.1 he1;have hz:=jD.out rfl;have HZ2:=ah hz;clear hz
        go_wp2
        go_roundg g
        case measure=>omega
        exact ⟨k+1,int_eq (by omega),by have:=HK.out;omega,rfl,HZ2.out⟩
       | false=>
        have jU:=ach ha1;have kF:=aci hb1;have wH:=ach hb2;have lV:=aci hc1
        have wI:=ach hc2;have pX:=ab3.1 he1
        have hr:R=false:=HB.out.elim id (fun h=>by cases h)
        have HRR:=ah hr;clear hr;go_wp2;go_ret;exact ⟨by rw [HRR.out];rfl,rfl⟩
     | false=>
      cases e1 with
      | true=>
       have jU:=ach ha1;have kF:=aci hb1;have wH:=ach hb2;have lV:=ach hc1
       have pX:=adp.1 he1;have hz:=jD.out rfl;have HZ2:=ah hz;clear hz;go_wp2
       go_roundg g
       case measure=>omega
       exact ⟨k+1,int_eq (by omega),by have:=HK.out;omega,rfl,HZ2.out⟩
      | false=>
       have jU:=ach ha1;have kF:=aci hb1;have wH:=ach hb2;have lV:=ach hc1
       have pX:=ab3.1 he1;have hr:R=false:=HB.out.elim id (fun h=>by cases h)
       have HRR:=ah hr;clear hr;go_wp2;go_ret;exact ⟨by rw [HRR.out];rfl,rfl⟩
   | false=>
    cases c1 with
    | true=>
     cases c2 with
     | true=>
      have jU:=ach ha1;have kF:=ach hb1;have lV:=aci hc1;have wI:=aci hc2
      have hz:=jD.out rfl;have HZ2:=ah hz;clear hz;go_wp2
      go_roundg g
      case measure=>omega
      exact ⟨k+1,int_eq (by omega),by have:=HK.out;omega,rfl,HZ2.out⟩
     | false=>
      cases e1 with
      | true=>
       have jU:=ach ha1;have kF:=ach hb1;have lV:=aci hc1;have wI:=ach hc2
       have pX:=adp.1 he1;have hz:=jD.out rfl;have HZ2:=ah hz;clear hz;go_wp2
       go_roundg g
       case measure=>omega
       exact ⟨k+1,int_eq (by omega),by have:=HK.out;omega,rfl,HZ2.out⟩
      | false=>
       have jU:=ach ha1;have kF:=ach hb1;have lV:=aci hc1;have wI:=ach hc2
       have pX:=ab3.1 he1;have hr:R=false:=HB.out.elim id (fun h=>by cases h)
       have HRR:=ah hr;clear hr;go_wp2;go_ret;exact ⟨by rw [HRR.out];rfl,rfl⟩
    | false=>
     cases e1 with
     | true=>
      have jU:=ach ha1;have kF:=ach hb1;have lV:=ach hc1;have pX:=adp.1 he1
      have hz:=jD.out rfl;have HZ2:=ah hz;clear hz;go_wp2
      go_roundg g
      case measure=>omega
      exact ⟨k+1,int_eq (by omega),by have:=HK.out;omega,rfl,HZ2.out⟩
     | false=>
      have jU:=ach ha1;have kF:=ach hb1;have lV:=ach hc1;have pX:=ab3.1 he1
      have hr:R=false:=HB.out.elim id (fun h=>by cases h)
      have HRR:=ah hr;clear hr;go_wp2;go_ret;exact ⟨by rw [HRR.out];rfl,rfl⟩
theorem RJ (k:Int) (w:World) (hk:ak.In64 k):
  Calls Tryz.prog 36 #[.int .i64 k] w fun e w'=>e= .returned (.string ⟨(Cy.word k).toArray⟩)/\w=w':=by
 obtain ⟨hk1,hk2⟩:=hk;obtain ⟨R,hR⟩: ∃R,Cy.word k=R:=⟨_,rfl⟩;rw [hR];unfold Cy.word at hR
 by_cases h1:k=1
 ·subst h1
  rw [ab7 rfl] at hR;subst hR;go_enter Tryz.func36,Tryz.ntmps36;go_wp2;go_ret
  exact ⟨rfl,rfl⟩
 rw [ab6 h1] at hR;have t1:(k == 1)=false:=ab3.2 h1;by_cases h2:k=2
 ·subst h2
  rw [ab7 rfl] at hR;subst hR;go_enter Tryz.func36,Tryz.ntmps36;go_wp2;go_ret
  exact ⟨rfl,rfl⟩
 rw [ab6 h2] at hR;have t2:(k == 2)=false:=ab3.2 h2;by_cases h3:k=3
 ·subst h3
  rw [ab7 rfl] at hR;subst hR;go_enter Tryz.func36,Tryz.ntmps36;go_wp2;go_ret
  exact ⟨rfl,rfl⟩
 rw [ab6 h3] at hR;have t3:(k == 3)=false:=ab3.2 h3;subst hR;clear h1 h2 h3
 go_enter Tryz.func36,Tryz.ntmps36;go_wp2;go_ret;exact ⟨rfl,rfl⟩
theorem RN (k n:Int) (z:ByteArray) (w:World) (hk:ak.In64 k) (hn:ak.In64 n) (hz:z.size<=67108864) (hL:Laid w):
  Calls Tryz.prog 35 #[.int .i64 k, .int .i64 n, .string z] w fun e w'=>e= .returned (.string ⟨(Cy.scalar k n z.data.toList).toArray⟩)/\Below w.heap.size w w':=by
 obtain ⟨hk1,hk2⟩:=hk;obtain ⟨R,hR⟩: ∃R,Cy.scalar k n z.data.toList=R:=⟨_,rfl⟩;rw [hR]
 unfold Cy.scalar at hR;have HL:=ah hL;have HN:=ah hn;clear hL;by_cases h1:k=1
 ·subst h1
  rw [ab7 rfl] at hR;by_cases hn1:n=1
  ·subst hn1
   rw [ab7 rfl] at hR;subst hR;go_enter Tryz.func35,Tryz.ntmps35;go_wp2;go_ret
   exact ⟨rfl,Below.refl _ _⟩
  rw [ab6 hn1] at hR;subst hR;have t1:(n == 1)=false:=ab3.2 hn1
  go_enter Tryz.func35,Tryz.ntmps35;go_wp2;go_ret;exact ⟨rfl,Below.refl _ _⟩
 rw [ab6 h1] at hR;have t1:(k == 1)=false:=ab3.2 h1;by_cases h2:k=2
 ·subst h2
  rw [ab7 rfl] at hR;subst hR;go_enter Tryz.func35,Tryz.ntmps35;go_wp2_with fail
  refine (Qn n w HN.out.1 HN.out.2 HL.out).mono ?_;rintro e w' ⟨rfl,hb⟩;have HB:=ah hb
  clear hb;go_wp2;go_ret;exact ⟨rfl,HB.out⟩
 rw [ab6 h2] at hR;have t2:(k == 2)=false:=ab3.2 h2;by_cases h3:k=3
 ·subst h3
  rw [ab7 rfl] at hR;subst hR;have hu:=Ik n;have hlt:=ak.AV n
  obtain ⟨b,hb⟩: ∃b,ak.u64 n=b:=⟨_,rfl⟩;rw [hb] at hu hlt⊢;have aB:=ah hlt;clear hlt hb
  go_enter Tryz.func35,Tryz.ntmps35;go_wp2_with fail
  refine (afH b w aB.out HL.out).mono ?_;rintro e w' ⟨rfl,hb⟩;have HB:=ah hb;clear hb
  go_wp2;go_ret;exact ⟨rfl,HB.out⟩
 rw [ab6 h3] at hR;have t3:(k == 3)=false:=ab3.2 h3;subst hR;clear h1 h2 h3
 go_enter Tryz.func35,Tryz.ntmps35;go_wp2_with fail;refine (ahL z w hz).mono ?_
 rintro e w' ⟨rfl,hb⟩;have HB:=ah hb;clear hb;go_wp2;go_ret;exact ⟨rfl,HB.out⟩
theorem RP (sep:List UInt8): ∀l:List (List UInt8),Lib.join l sep=Cy.join sep l
 | []=>rfl
 | [a]=>Lib.join_one a sep
 | a :: b :: r=>by
  rw [Cy.join,<-RP sep (b :: r),Lib.join_cons,Lib.join_cons];simp [Lib.joinTail]
theorem aac (base T:Nat) (A:Option Addr) (c:Nat) (l:List (List UInt8)) (w:World) (n:Nat) (hn:l.length=n) (hn2:n<=1073741824) (h:w.ownsRow base T 1 (.slice A n c) n (l.map ST)) (hl:(Cy.join [44,32] l).length<=140737488355328):
  Calls Tryz.prog 37 #[.slice A n c, .string ⟨#[44,32]⟩] w fun e w'=>e= .returned (.string ⟨(Cy.join [44,32] l).toArray⟩)/\Below w.heap.size w w':=by
 have hr:=h
 rcases h.2 with ⟨he,h0⟩ |⟨g,cap,cur,he,h1,h2,h3,h4,h5,h6⟩
 ·subst h0
  obtain rfl:l= []:=aoU.1 hn
  injection he with e1 e2 e3
  subst e1 e3;refine (Tryz.strings_Join_none none 0 ⟨#[44,32]⟩ w).mono ?_
  rintro e w' ⟨rfl,rfl⟩;exact ⟨rfl,Below.refl _ _⟩
 injection he with e1 e2 e3
 subst e1 e3
 have hm:(l.map fun x=>(⟨x.toArray⟩:ByteArray)).map (·.data.toList)=l:=by
  rw [aez]
  conv=>rhs;rw [<-aoN l]
  apply amZ
  intro x _;rfl
 obtain ⟨hi,hxx⟩:=acI.1 h2
 have key:=Tryz.strings_Join g 0 c (l.map fun x=>(⟨x.toArray⟩:ByteArray)) ⟨#[44,32]⟩ w (fun j x hx=>by
  rw [acJ] at hx;obtain ⟨y,hy,rfl⟩:=ac7.1 hx;obtain ⟨hj,-⟩:=acy.1 hy
  obtain ⟨p,o,u,he,-,hu,hp⟩:=(Reads.je hr).cell (k:=j) (by omega)
  injection he with he
  injection he with he1 he2
  subst he1 he2;rw [acJ,hy] at hu;obtain rfl:=(acE hu).symm
  exact hp) hi (by rw [ace];omega) (by rw [ace];omega) (by rw [hm,RP];exact hl)
 rw [ace,hn,hm,RP] at key;exact key
theorem aad: ∀(x y:List UInt8),Op.bytesLess x y=decide (x<y)
 | [], []=>by simp [Op.bytesLess]
 | [],b :: y=>by simp [Op.bytesLess]
 | a :: x, []=>by simp [Op.bytesLess]
 | a :: x,b :: y=>by
  rw [Op.bytesLess,aad x y,alp];simp only [amx,acZ,ak6,adr,adp]
theorem IV (a b:List UInt8):(Op.bytesLess a b || a == b)=decide (a<=b):=by
 rw [aad,alp];simp only [ak6,acZ,adp];exact Iff.symm List.le_iff_lt_or_eq
theorem xM (l:List UInt8):(⟨l.toArray⟩:ByteArray).toList=l:=by rw [Lib.toList_data]
theorem Nr {κ α:Type} {f:Option κ->α->Nat} {key:α->κ} {l:List α} {n:Nat} (hn:l.length=n) {R:Nat} (hR:(Gr.first f key none l 0).1=R) (h: ∀j a,j<n->l[j]?=some a->f (Gr.aG key l j) a=0):R=0:=by
 rw [<-hR,Gr.Bh f key (fun j a hj=>h j a (by have:=(acy.1 hj).1;omega) hj)]
theorem BA {κ α:Type} {f:Option κ->α->Nat} {key:α->κ} {l:List α} {k:Nat} {a:α} {R e:Nat} (hR:(Gr.first f key none l 0).1=R) (ha:l[k]?=some a) (h: ∀j a,j<k->l[j]?=some a->f (Gr.aG key l j) a=0) (he:f (Gr.aG key l k) a=e) (hne:e≠0):R=e:=by
 rw [<-hR,Gr.QM f key ha he hne h]
theorem xO {κ α:Type} {f:Option κ->α->Nat} {key:α->κ} {l:List α} {k:Nat} {a:α} (ha:l[k]?=some a) (h: ∀j a,j<k->l[j]?=some a->f (Gr.aG key l j) a=0) (he:f (Gr.aG key l k) a=0): ∀j a,j<k+1->l[j]?=some a->f (Gr.aG key l j) a=0:=fun j b hj hb=>by
 by_cases e:j=k
 ·subst e
  rw [ha] at hb;cases hb;exact he
 exact h j b (by omega) hb
theorem ahQ (B:Nat) (A:Option Addr) (c:Nat) (ls:List (List UInt8)) (w:World) (h:Reads w B 1 A ls.length (ls.map ST)) (hl:ls.length<=1073741824) (hs: ∀l∈ls,l.length<=1073741824):
  Calls Tryz.prog 134 #[.slice A ls.length c] w fun e w'=>e= .returned (.int .i64 (Gr.uj ls:Nat))/\w=w':=by
 obtain ⟨R,hR⟩: ∃R,Gr.uj ls=R:=⟨_,rfl⟩;rw [hR];unfold Gr.uj at hR
 obtain ⟨n,hn⟩: ∃n,ls.length=n:=⟨_,rfl⟩;rw [hn] at h hl hR⊢;have HH:=ah h;have HS:=ah hs
 have HN:=ah hn;have HU:=ah ug;by_cases h8:8<n
 ·rw [ab7 h8] at hR
  subst hR;have wJ:(8:Int)<n:=by omega
  have t8:decide ((8:Int)<n)=true:=abW wJ;clear h h8 hs hl
  go_enter Tryz.func134,Tryz.ntmps134;go_wp2;go_ret;exact ⟨rfl,rfl⟩
 rw [ab6 h8] at hR;have HR:=ah hR;have wJ:(n:Int)<=8:=by omega
 have t8:decide ((8:Int)<n)=false:=abX (by omega)
 clear h h8 hs hl hR;go_enter Tryz.func134,Tryz.ntmps134;go_wp2_with fail
 go_loopg [10] n (fun g x wr=> ∃k:Nat,x= .int .i64 k/\k+g=n/\w=wr/\ ∀j a,j<k->ls[j]?=some a->Gr.labelWrong (Gr.aG id ls j) a=0)
 case atStart=>exact ⟨0,rfl,by omega,rfl,fun j a h=>by omega⟩
 obtain ⟨k,rfl,hk,rfl,hz⟩:=hrel;have HK:=ah hk;have HZ:=ah hz;clear hz;cases gk with
 | zero=>
  obtain rfl:k=n:=by omega
  have hr:=Nr HN.out HR.out HZ.out;have HRR:=ah hr;clear hk hr;go_wp2;go_ret
  exact ⟨by rw [HRR.out];rfl,rfl⟩
 | succ g=>
  have hkn:k<n:=by omega
  have dD:(k:Int)<n:=by omega
  obtain ⟨p,o,x,rfl,-,hx,hp⟩:=HH.out.cell hkn;rw [acJ] at hx;obtain ⟨y,hy,rfl⟩:=ac7.1 hx
  unfold ST at hp;obtain ⟨z,hz⟩: ∃z:ByteArray,(⟨y.toArray⟩:ByteArray)=z:=⟨_,rfl⟩
  rw [hz] at hp;have hzd:z.data.toList=y:=by rw [<-hz]
  have hzl:z.size<=1073741824:=by rw [Lib.size_eq,hzd];exact HS.out y (acf hy)
  have hcall:=FM z w hzl;rw [hzd] at hcall;have HY:=ah hy;have HZD:=ah hzd
  cases hg:Gr.dw y with
  | false=>
   rw [hg] at hcall;have HC:=ah hcall
   have hr:=BA HR.out HY.out HZ.out (e:=60) (by unfold Gr.labelWrong;rw [hg,ab7 rfl]) (by decide)
   have HRR:=ah hr;clear hx hk hkn hy hz hzd hzl hcall hg hr;go_wp2_with fail
   refine HC.out.mono ?_;rintro e w' ⟨rfl,rfl⟩;go_wp2;go_ret
   exact ⟨by rw [HRR.out];rfl,rfl⟩
  | true=>
   rw [hg] at hcall;have HC:=ah hcall;have jE:=ah hg;by_cases h0:k=0
   ·subst h0
    rw [akz] at hp
    have hmore:=xO HY.out HZ.out (by unfold Gr.labelWrong;rw [hg,ab6 (by decide)];rfl)
    have HM:=ah hmore;clear hx hk hkn hy hz hzd hzl hcall hg hmore;go_wp2_with fail
    refine HC.out.mono ?_;rintro e w' ⟨rfl,rfl⟩;go_wp2
    go_roundg g
    case measure=>omega
    exact ⟨1,rfl,by have:=HK.out;omega,rfl,HM.out⟩
   obtain ⟨m,rfl⟩: ∃m,k=m+1:=⟨k - 1,by omega⟩
   obtain ⟨p',o',x',he,-,hx',hp'⟩:=HH.out.cell (k:=m) (by omega)
   injection he with he
   injection he with he1 he2
   subst he1;subst he2;rw [acJ] at hx';obtain ⟨q,hq,rfl⟩:=ac7.1 hx';unfold ST at hp'
   obtain ⟨zq,kX⟩: ∃z:ByteArray,(⟨q.toArray⟩:ByteArray)=z:=⟨_,rfl⟩
   have wK:zq.toList=q:=by rw [<-kX,xM]
   rw [kX] at hp';obtain ⟨b1,hb1⟩: ∃b,Op.bytesLess z.toList zq.toList=b:=⟨_,rfl⟩
   obtain ⟨b2,hb2⟩: ∃b,(z.toList == zq.toList)=b:=⟨_,rfl⟩
   have hb:decide (y<=q)=(b1 || b2):=by rw [<-hb1,<-hb2,IV,wK,Lib.toList_data,hzd]
   have BQ:(1:Int)<=((m+1:Nat):Int):=by omega
   have hm0:decide ((0:Int)<((m+1:Nat):Int))=true:=abW (by omega)
   have hsub:((m+1:Nat):Int) - 1=(m:Int):=by omega
   have JJ:Gr.labelWrong (Gr.aG id ls (m+1)) y=if (b1 || b2)=true then 6 else 0:=by
    have hpv:Gr.aG id ls (m+1)=some q:=by show ls[m]?.map id=_;rw [hq];rfl
    unfold Gr.labelWrong;rw [hg,hpv,ab6 (by decide),<-hb]
    rfl
   have JK:=ah JJ;clear hx hx' hq hk hkn hy hz hzd hzl hcall hg JJ hb h0 kX wK
   go_wp2_with fail;refine HC.out.mono ?_;rintro e w' ⟨rfl,rfl⟩
   have sS:=ah (show (b1 || b2)=true->R=6 from fun h=>BA HR.out HY.out HZ.out (e:=6) (by rw [JK.out,h];rfl) (by decide))
   cases b1 with
   | true=>
    have hr:=sS.out rfl;have HRR:=ah hr;clear hr;go_wp2;go_ret
    exact ⟨by rw [HRR.out];rfl,rfl⟩
   | false=>
    cases b2 with
    | true=>
     have hr:=sS.out rfl;have HRR:=ah hr;clear hr;go_wp2;go_ret
     exact ⟨by rw [HRR.out];rfl,rfl⟩
    | false=>
     have hmore:=xO HY.out HZ.out (by rw [JK.out];rfl)
     have HM:=ah hmore;clear hmore;go_wp2
     go_roundg g
     case measure=>omega
     exact ⟨m+1+1,int_eq (by omega),by have:=HK.out;omega,rfl,HM.out⟩
theorem cZ.prop {W:World} {B:Nat} {A:Option Addr} {l:List Gr.P} (h:cZ W B 6 (aQ W B) A l) {k:Nat} {p:Gr.P} (hk:l[k]?=some p): ∃b o An cn At ct,A=some ⟨b,o,none⟩/\b<B/\
  (W.cell? ⟨b,o+k*6,none⟩=some (ST p.key)/\W.cell? ⟨b,o+k*6+1,none⟩=some (.int .i64 p.val.kind)/\W.cell? ⟨b,o+k*6+2,none⟩=some (.int .i64 p.val.num)/\W.cell? ⟨b,o+k*6+3,none⟩=some (ST p.val.text)/\
  W.cell? ⟨b,o+k*6+4,none⟩=some (.slice An p.val.nums.length cn)/\W.cell? ⟨b,o+k*6+5,none⟩=some (.slice At p.val.texts.length ct))/\Reads W B 1 An p.val.nums.length (p.val.nums.map I64)/\Reads W B 1 At p.val.texts.length (p.val.texts.map ST):=by
 obtain ⟨b,o,cs,hA,hb,⟨An,cn,At,ct,rfl,h1,h2⟩,-,hc⟩:=h k p hk
 exact ⟨b,o,An,cn,At,ct,hA,hb,⟨hc 0 _ rfl,hc 1 _ rfl,hc 2 _ rfl,hc 3 _ rfl,hc 4 _ rfl,hc 5 _ rfl⟩,h1,h2⟩
theorem xP {W:World} {B:Nat} {v:ak.V} {An At:Option Addr} {cn ct:Nat} (hv:BN v) (h1:Reads W B 1 An v.nums.length (v.nums.map I64)) (h2:Reads W B 1 At v.texts.length (v.texts.map ST)):
  jR W B (.agg #[.int .i64 v.kind, .int .i64 v.num,ST v.text, .slice An v.nums.length cn, .slice At v.texts.length ct]) v:=
 ⟨⟨An,cn,At,ct,rfl,h1,h2⟩,hv.kin,hv.num,hv.nums,hv.tl,hv.nl,hv.sl,hv.sz⟩
theorem oG {a b w:World} (h:Below a.heap.size a b) (k:Below b.heap.size b w):Below a.heap.size a w:=h.trans (k.mono h.size)
theorem yg {W:World} {b:Nat} {T:TypeId} {v0 v1 v2 v3 v4 v5:Value} (h:aj W b T #[v0,v1,v2,v3,v4,v5]):
  W.cell? ⟨b,0,none⟩=some v0/\W.cell? ⟨b,1,none⟩=some v1/\W.cell? ⟨b,2,none⟩=some v2/\W.cell? ⟨b,3,none⟩=some v3/\W.cell? ⟨b,4,none⟩=some v4/\W.cell? ⟨b,5,none⟩=some v5:=
 ⟨h.cell 0,h.cell 1,h.cell 2,h.cell 3,h.cell 4,h.cell 5⟩
theorem cells5 {W:World} {b:Nat} {T:TypeId} {v0 v1 v2 v3 v4:Value} (h:aj W b T #[v0,v1,v2,v3,v4]):
  W.cell? ⟨b,0,none⟩=some v0/\W.cell? ⟨b,1,none⟩=some v1/\W.cell? ⟨b,2,none⟩=some v2/\W.cell? ⟨b,3,none⟩=some v3/\W.cell? ⟨b,4,none⟩=some v4:=
 ⟨h.cell 0,h.cell 1,h.cell 2,h.cell 3,h.cell 4⟩
theorem cells3 {W:World} {b:Nat} {T:TypeId} {v0 v1 v2:Value} (h:aj W b T #[v0,v1,v2]):W.cell? ⟨b,0,none⟩=some v0/\W.cell? ⟨b,1,none⟩=some v1/\W.cell? ⟨b,2,none⟩=some v2:=
 ⟨h.cell 0,h.cell 1,h.cell 2⟩
theorem cells2 {W:World} {b:Nat} {T:TypeId} {v0 v1:Value} (h:aj W b T #[v0,v1]):W.cell? ⟨b,0,none⟩=some v0/\W.cell? ⟨b,1,none⟩=some v1:=
 ⟨h.cell 0,h.cell 1⟩
theorem aae (B:Nat) (A:Option Addr) (c:Nat) (ps:List Gr.P) (w:World) (h:cZ w B 6 (aQ w B) A ps) (hB:B<=w.heap.size) (hl:ps.length<=1073741824) (hs: ∀p∈ps,pV p):
  Calls Tryz.prog 135 #[.slice A ps.length c] w fun e w'=>e= .returned (.int .i64 (Gr.dV ps:Nat))/\Below w.heap.size w w':=by
 obtain ⟨R,hR⟩: ∃R,Gr.dV ps=R:=⟨_,rfl⟩;rw [hR];unfold Gr.dV at hR
 obtain ⟨n,hn⟩: ∃n,ps.length=n:=⟨_,rfl⟩;rw [hn] at hl hR⊢;have HH:=ah h;have HS:=ah hs
 have HN:=ah hn;have HU:=ah ug;by_cases h8:16<n
 ·rw [ab7 h8] at hR
  subst hR;have wJ:(16:Int)<n:=by omega
  have t8:decide ((16:Int)<n)=true:=abW wJ;clear h h8 hs hl
  go_enter Tryz.func135,Tryz.ntmps135;go_wp2;go_ret;exact ⟨rfl,Below.refl _ _⟩
 rw [ab6 h8] at hR;have HR:=ah hR;have wJ:(n:Int)<=16:=by omega
 have t8:decide ((16:Int)<n)=false:=abX (by omega)
 clear h h8 hs hl hR;go_enter Tryz.func135,Tryz.ntmps135;go_wp2_with fail
 go_loopg [11] n (fun g x wr=> ∃k:Nat,x= .int .i64 k/\k+g=n/\Below w.heap.size w wr/\ ∀j a,j<k->ps[j]?=some a->Gr.jY (Gr.aG Gr.P.key ps j) a=0)
 case atStart=>exact ⟨0,rfl,by omega,Below.refl _ _,fun j a h=>by omega⟩
 obtain ⟨k,rfl,hk,hb,hz⟩:=hrel;have HK:=ah hk;have HZ:=ah hz;have HB:=ah hb;clear hz hb
 cases gk with
 | zero=>
  obtain rfl:k=n:=by omega
  have hr:=Nr HN.out HR.out HZ.out;have HRR:=ah hr;clear hk hr;go_wp2;go_ret
  exact ⟨by rw [HRR.out];rfl,HB.out⟩
 | succ g=>
  have hkn:k<n:=by omega
  have dD:(k:Int)<n:=by omega
  obtain ⟨p,hp⟩: ∃p,ps[k]?=some p:=⟨_,ab2 (by rw [HN.out];exact hkn)⟩
  have HP:=ah hp;have yh:=HH.out.below (HB.out.mono hB) (aQ.below (HB.out.mono hB))
  obtain ⟨b,o,An,cn,At,ct,rfl,hbB,⟨c0,c1,c2,c3,c4,c5⟩,r1,r2⟩:=yh.prop hp
  obtain ⟨z,hz⟩: ∃z:ByteArray,(⟨p.key.toArray⟩:ByteArray)=z:=⟨_,rfl⟩
  obtain ⟨zt,aO⟩: ∃z:ByteArray,(⟨p.val.text.toArray⟩:ByteArray)=z:=⟨_,rfl⟩
  unfold ST at c0 c3;rw [hz] at c0;rw [aO] at c3;clear hp hk hkn
  have sU:=HS.out p (acf HP.out)
  obtain ⟨W1,hW1⟩: ∃W1,wr.alloc (.cells #[.string z, .int .i64 p.val.kind, .int .i64 p.val.num, .string zt, .slice An p.val.nums.length cn, .slice At p.val.texts.length ct] 61)=W1:=⟨_,rfl⟩
  have hb1:Below wr.heap.size wr W1:=by rw [<-hW1];exact (Below.refl _ wr).alloc (ab1 _) _
  have k1:aj W1 wr.heap.size 61 #[.string z, .int .i64 p.val.kind, .int .i64 p.val.num, .string zt, .slice An p.val.nums.length cn, .slice At p.val.texts.length ct]:=by rw [<-hW1];exact aj.new _ _ _
  have hBW:Below w.heap.size w W1:=HB.out.trans (hb1.mono HB.out.size)
  have hBr:B<=wr.heap.size:=ab5 hB HB.out.size
  have uK:=fun (m:Nat)=>((xP (cn:=cn) (ct:=ct) sU.val r1 r2).below (hb1.mono hBr)).below (below_drewN (Below.refl B W1) m)
  unfold ST at uK;rw [aO] at uK
  have acv:=fun (m:Nat)=>check_any B _ p.val (W1.drewN m) (uK m) (ab5 hBr hb1.size)
  have aU:=ah acv;have hzd:z.data.toList=p.key:=by rw [<-hz]
  have hcall:=FM z W1 (by rw [Lib.size_eq,hzd];exact sU.key)
  rw [hzd] at hcall;have HW1:=ah hW1;have eP:=ah hBW;have hd:=yg k1;have HD:=ah hd
  have wo:Hid (∀q:Gr.P,∀m:Nat,m<n->ps[m]?=some q->W1.cell? ⟨b,o+m*6,none⟩=some (ST q.key)):=fun q m hm hq=>by
   obtain ⟨b',o',_,_,_,_,he,hlt,⟨e0,-⟩,-⟩:=yh.prop hq
   injection he with he
   injection he with he1 he2
   subst he1;subst he2;exact ((hb1.mono hBr).cell (by exact hlt)).trans e0
  obtain ⟨Nm,DZ⟩: ∃b,Gr.dw p.key=b:=⟨_,rfl⟩;rw [DZ] at hcall;have HC:=ah hcall
  have sV:=ah DZ;have HZD:=ah hzd;obtain ⟨CV,Gw⟩: ∃CV,ak.check p.val=CV:=⟨_,rfl⟩
  rw [Gw] at aU;have Gx:=ah Gw
  clear hW1 hb1 k1 hBW uK acv hcall DZ Gw hz aO hzd yh r1 r2 hBr sU hbB hd
  go_upto_region 6 with fail
  rw [HW1.out];clear c0 c1 c2 c3 c4 c5 HW1;obtain ⟨d0,d1,d2,d3,d4,d5⟩:=HD.out
  go_wp2_with fail;refine HC.out.mono ?_;rintro e w' ⟨rfl,rfl⟩;cases Nm with
  | false=>
   have hr:=BA HR.out HP.out HZ.out (e:=60) (by unfold Gr.jY;rw [sV.out,ab7 rfl]) (by decide)
   have HRR:=ah hr;clear hr;go_wp2;go_ret;exact ⟨by rw [HRR.out];rfl,eP.out⟩
  | true=>
   have JL:=ah (fun (h:Gr.jY (Gr.aG Gr.P.key ps k) p=0)=>xO HP.out HZ.out h)
   have sS:=ah (fun (e:Nat) (h:Gr.jY (Gr.aG Gr.P.key ps k) p=e) (hne:e≠0)=>BA HR.out HP.out HZ.out h hne)
   by_cases h0:k=0
   ·have hk0:(k:Int)<=0:=by omega
    have tk:decide (0<k)=false:=abX (by omega)
    have hpw:Gr.jY (Gr.aG Gr.P.key ps k) p=CV:=by
     subst h0;unfold Gr.jY;rw [sV.out,ab6 (by decide),ab6 (by simp [Gr.aG]),Gx.out]
    have oO:=ah hpw;clear h0 hpw
    go_upto_region 8 with fail
    go_quiet (fail)
    go_wp2_with fail;refine (aU.out _).mono ?_;rintro e w4 ⟨rfl,hb4⟩
    have HB4:=ah (oG (below_drewN eP.out nq) hb4);clear hb4;cases CV with
    | zero=>
     have HM:=ah (JL.out oO.out);go_wp2
     go_roundg g
     case measure=>omega
     exact ⟨k+1,int_eq (by omega),by have:=HK.out;omega,HB4.out,HM.out⟩
    | succ e=>
     have hr:=sS.out (e+1) oO.out (by omega)
     have HRR:=ah hr;have hne:(((e+1:Nat):Int) !=0)=true:=by rw [acV];omega
     clear hr;go_wp2;go_ret;exact ⟨by rw [HRR.out];rfl,HB4.out⟩
   obtain ⟨m,hm⟩: ∃m,k=m+1:=⟨k - 1,by omega⟩
   have tk:decide (0<k)=true:=abW (by omega)
   have hkp:(0:Int)<k:=by omega
   have hsub:(k:Int) - 1=(m:Int):=by omega
   have hmn:(m:Int)<n:=by omega
   have JM:m<n:=by omega
   obtain ⟨q,hq⟩: ∃q,ps[m]?=some q:=⟨_,ab2 (by omega)⟩
   have e0:=wo.out q m JM hq;unfold ST at e0
   obtain ⟨zq,kX⟩: ∃z:ByteArray,(⟨q.key.toArray⟩:ByteArray)=z:=⟨_,rfl⟩
   have wK:zq.toList=q.key:=by rw [<-kX,xM]
   rw [kX] at e0;obtain ⟨b1,hb1⟩: ∃b,Op.bytesLess z.toList zq.toList=b:=⟨_,rfl⟩
   obtain ⟨b2,hb2⟩: ∃b,(z.toList == zq.toList)=b:=⟨_,rfl⟩
   have hb:decide (p.key<=q.key)=(b1 || b2):=by rw [<-hb1,<-hb2,IV,wK,Lib.toList_data,HZD.out]
   have hpw:Gr.jY (Gr.aG Gr.P.key ps k) p=if (b1 || b2)=true then 6 else CV:=by
    have hpv:Gr.aG Gr.P.key ps k=some q.key:=by rw [hm];show ps[m]?.map Gr.P.key=_;rw [hq];rfl
    unfold Gr.jY;rw [sV.out,hpv,ab6 (by decide),<-hb,Gx.out]
    rfl
   have oO:=ah hpw;clear h0 hpw hq kX wK hb hm JM
   have jh:=ah (show (b1 || b2)=true->R=6 from fun h=>sS.out 6 (by rw [oO.out,h];rfl) (by decide))
   cases b1 with
   | true=>
    have hr:=jh.out rfl;have HRR:=ah hr;clear hr
    go_upto_region 8 with fail
    go_quiet (fail)
    go_wp2;go_ret;exact ⟨by rw [HRR.out];rfl,below_drewN eP.out _⟩
   | false=>
    cases b2 with
    | true=>
     have hr:=jh.out rfl;have HRR:=ah hr;clear hr
     go_upto_region 8 with fail
     go_quiet (fail)
     go_wp2;go_ret;exact ⟨by rw [HRR.out];rfl,below_drewN eP.out _⟩
    | false=>
     go_upto_region 8 with fail
     go_quiet (fail)
     go_wp2_with fail;refine (aU.out _).mono ?_;rintro e w4 ⟨rfl,hb4⟩
     have HB4:=ah (oG (below_drewN eP.out nq) hb4);clear hb4;cases CV with
     | zero=>
      have HM:=ah (JL.out oO.out);go_wp2
      go_roundg g
      case measure=>omega
      exact ⟨k+1,int_eq (by omega),by have:=HK.out;omega,HB4.out,HM.out⟩
     | succ e=>
      have hr:=sS.out (e+1) oO.out (by omega)
      have HRR:=ah hr;have hne:(((e+1:Nat):Int) !=0)=true:=by rw [acV];omega
      clear hr;go_wp2;go_ret;exact ⟨by rw [HRR.out];rfl,HB4.out⟩
end Go.Proofs.YtoofbflplhbpbaaGreatDoor
