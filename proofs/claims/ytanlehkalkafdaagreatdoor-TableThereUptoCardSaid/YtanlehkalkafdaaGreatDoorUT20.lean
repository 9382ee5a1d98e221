/- Contracts and plain laws,part 20. -/
import Derived.Test.YtanlehkalkafdaaGreatDoorUT19
import Derived.RegionDies
import Derived.Defers
import Derived.Recover
import Derived.Laws.Pointers
set_option maxHeartbeats 64000000
set_option maxRecDepth 1000000
set_option linter.all false
namespace Go.Proofs.YtanlehkalkafdaaGreatDoor
open Go.RowKit
theorem name_leaf (c:UInt8):Lex.inWord c=((decide ((97:Int)<=(c.toNat:Int)) && decide ((c.toNat:Int)<=122)) ||(decide ((65:Int)<=(c.toNat:Int)) && decide ((c.toNat:Int)<=90)) ||(decide ((48:Int)<=(c.toNat:Int)) && decide ((c.toNat:Int)<=57)) ||((c.toNat:Int) == 95)):=by
 rw [ql];simp only [Lex.inWord,Lex.isLet,Num.isDig,o9,mY,mD,nI];omega
theorem name_empty:Gr.goodName []=false:=by decide
theorem name_long {l:List UInt8} (h:40<l.length):Gr.goodName l=false:=by
 unfold Gr.goodName;rw [kX (by omega: ¬l.length<=40)]
 simp
theorem name_digit {l:List UInt8} {c:UInt8} (h:l[0]?=some c) (hc:Num.isDig c=true):Gr.goodName l=false:=by
 cases l with
 | nil=>simp at h
 | cons a r=>
  simp only [lC,nD] at h;subst h;unfold Gr.goodName;simp [hc]
theorem name_bad {l:List UInt8} {c:UInt8} {k:Nat} (h:l[k]?=some c) (hc:Lex.inWord c=false):Gr.goodName l=false:=by
 unfold Gr.goodName;rw [List.all_eq_false.2 ⟨c,lS h,by rw [hc];decide⟩]
 simp
theorem name_good {l:List UInt8} {c:UInt8} (h0:l[0]?=some c) (hc:Num.isDig c=false) (hl:l.length<=40) (h: ∀(j:Nat) d,l[j]?=some d->Lex.inWord d=true):Gr.goodName l=true:=by
 cases l with
 | nil=>simp at h0
 | cons a r=>
  simp only [lC,nD] at h0;subst h0;unfold Gr.goodName
  rw [og.2 (fun d hd=>by
   obtain ⟨j,hj,e⟩:=nS hd
   exact h j d (by rw [ak hj,e]))]
  rw [kY hl];simp [hc]
theorem goodName_any (s:ByteArray) (w:World) (hs:s.size<=1073741824):
  Calls Tryz.prog 70 #[.string s] w fun e w'=>e= .returned (.bool (Gr.goodName s.data.toList))/\w=w':=by
 obtain ⟨R,hR⟩:=aj (Gr.goodName s.data.toList);rw [hR];have HR:=ah hR;clear hR
 have hl:=Lib.size_eq s;have hg:=fun (k:Nat) (h:k<s.size)=>get_list s k h
 have hd:=Lib.toList_data s;obtain ⟨n,hn⟩:=aj s.size;rw [hn] at hl hs;have hu:=undef_nil
 by_cases h0:n=0
 ·subst h0
  have hs0:s.toList.isEmpty=true:=by rw [hd,qB];exact lI hl.symm
  have hr:R=false:=by rw [<-HR.out,lI hl.symm];exact name_empty
  have HRR:=ah hr;clear hr hl hg hd hs;go_enter Tryz.func70,Tryz.ntmps70;go_wp2;go_ret
  exact ⟨by rw [HRR.out];rfl,rfl⟩
 have hs0:s.toList.isEmpty=false:=by rw [hd,oK];intro e;rw [e] at hl;simp at hl;omega
 by_cases h40:40<n
 ·have h40i:(40:Int)<n:=by omega
  have t40:decide ((40:Int)<n)=true:=kY h40i
  have hr:R=false:=by rw [<-HR.out];exact name_long (by omega)
  have HRR:=ah hr;clear hr hl hg hd h0 h40 hs;go_enter Tryz.func70,Tryz.ntmps70;go_wp2
  go_ret;exact ⟨by rw [HRR.out];rfl,rfl⟩
 have h40i:(n:Int)<=40:=by omega
 have t40:decide ((40:Int)<n)=false:=kX (by omega)
 have hp:0<s.size:=by omega
 obtain ⟨c,hc⟩:=aj (s[0]'hp);have hc0:s.data.toList[0]?=some c:=by rw [hg 0 hp,hc]
 have HC0:=ah hc0;have HG:=ah hg;have HN:=ah hn;have HLL:=ah hl;have HU:=ah hu
 clear hg hd hc0 hl;obtain ⟨x1,hx1⟩:=aj (decide ((48:Int)<=(c.toNat:Int)))
 obtain ⟨x2,hx2⟩:=aj (decide ((c.toNat:Int)<=57))
 have hdig:Num.isDig c=(x1 && x2):=by
  rw [<-hx1,<-hx2,ql];simp only [Num.isDig,mY,mD];omega
 have HDIG:=ah hdig;clear hdig hs;have hni:(n:Int)<=1073741824:=by omega
 by_cases hxx:x1=true/\x2=true
 ·obtain ⟨rfl,rfl⟩:=hxx
  have hr:R=false:=by rw [<-HR.out];exact name_digit HC0.out HDIG.out
  have HRR:=ah hr;have hx1i:=lN hx1;have hx2i:=lN hx2;clear hr h0 h40
  go_enter Tryz.func70,Tryz.ntmps70;go_wp2;go_ret;exact ⟨by rw [HRR.out];rfl,rfl⟩
 have hnd:Num.isDig c=false:=by rw [HDIG.out];cases x1<;> cases x2<;> simp_all
 have HND:=ah hnd
 have hor:x1=false\/(x1=true/\x2=false):=by cases x1<;> cases x2<;> simp_all
 clear hnd hxx h0 h40;go_enter Tryz.func70,Tryz.ntmps70
 go_upto_region 1 with fail
 go_cut [21] (fun s21 wx=>s21= .bool false/\w=wx)
 case first=>
  rcases hor with rfl |⟨rfl,rfl⟩
  ·have hxi:=lJ hx1
   go_wp2;go_meet;exact ⟨rfl,rfl⟩
  have hxi:=lN hx1;have hxj:=lJ hx2;go_wp2;go_meet;exact ⟨rfl,rfl⟩
 obtain ⟨rfl,rfl⟩:=hcut;clear hx1 hx2 hor;go_wp2_with fail
 go_loopg [24] n (fun g x wr=> ∃k:Nat,x= .int .i64 k/\k+g=n/\w=wr/\ ∀(j:Nat) d,j<k->s.data.toList[j]?=some d->Lex.inWord d=true)
 case atStart=>exact ⟨0,rfl,by omega,rfl,fun j d h=>by omega⟩
 obtain ⟨k,rfl,hk,rfl,hz⟩:=hrel;have HK:=ah hk;have HZ:=ah hz;clear hz;cases gk with
 | zero=>
  obtain rfl:k=n:=by omega
  have hr:R=true:=by
   rw [<-HR.out]
   exact name_good HC0.out HND.out (by have:=HLL.out;omega) (fun j d hj=>HZ.out j d (by have:=(lK.1 hj).1;have:=HLL.out;omega) hj)
  have HRR:=ah hr;clear hk hr;go_wp2;go_ret;exact ⟨by rw [HRR.out];rfl,rfl⟩
 | succ g=>
  have hkn:k<n:=by omega
  have hknI:(k:Int)<n:=by omega
  have hks:k<s.size:=by rw [HN.out];exact hkn
  obtain ⟨d,hd⟩:=aj (s[k]'hks)
  have HD:=ah (show s.data.toList[k]?=some d by rw [HG.out k hks,hd])
  obtain ⟨a1,ha1⟩:=aj (decide ((97:Int)<=(d.toNat:Int)))
  obtain ⟨a2,ha2⟩:=aj (decide ((d.toNat:Int)<=122))
  obtain ⟨b1,hb1⟩:=aj (decide ((65:Int)<=(d.toNat:Int)))
  obtain ⟨b2,hb2⟩:=aj (decide ((d.toNat:Int)<=90))
  obtain ⟨c1,hc1⟩:=aj (decide ((48:Int)<=(d.toNat:Int)))
  obtain ⟨c2,hc2⟩:=aj (decide ((d.toNat:Int)<=57))
  obtain ⟨e1,he1⟩:=aj ((d.toNat:Int) == 95)
  have HIN:=ah (show Lex.inWord d=(a1 && a2 || b1 && b2 || c1 && c2 || e1) by rw [name_leaf,ha1,ha2,hb1,hb2,hc1,hc2,he1])
  have hn1:(d.toNat:Int)<=255:=by have:=d.toNat_lt;omega
  have HB:=ah (show R=false\/(a1 && a2 || b1 && b2 || c1 && c2 || e1)=true by
   cases hq:(a1 && a2 || b1 && b2 || c1 && c2 || e1) with
   | true=>exact .inr rfl
   | false=>exact .inl (by rw [<-HR.out];exact name_bad HD.out (HIN.trans hq)))
  have HZN:=ah (show (a1 && a2 || b1 && b2 || c1 && c2 || e1)=true-> ∀(j:Nat) q,j<k+1->s.data.toList[j]?=some q->Lex.inWord q=true from fun h j q hj hq=>by
   by_cases e:j=k
   ·subst e
    rw [HD.out] at hq;cases hq;rw [HIN.out];exact h
   exact HZ.out j q (by omega) hq)
  clear hk;cases a1 with
  | true=>
   cases a2 with
   | true=>
    have ha1i:=lN ha1;have ha2i:=lN ha2;have hz:=HZN.out rfl;have HZ2:=ah hz;clear hz
    go_wp2
    go_roundg g
    case measure=>omega
    exact ⟨k+1,int_eq (by omega),by have:=HK.out;omega,rfl,HZ2.out⟩
   | false=>
    cases b1 with
    | true=>
     cases b2 with
     | true=>
      have ha1i:=lN ha1;have ha2i:=lJ ha2;have hb1i:=lN hb1;have hb2i:=lN hb2
      have hz:=HZN.out rfl;have HZ2:=ah hz;clear hz;go_wp2
      go_roundg g
      case measure=>omega
      exact ⟨k+1,int_eq (by omega),by have:=HK.out;omega,rfl,HZ2.out⟩
     | false=>
      cases c1 with
      | true=>
       cases c2 with
       | true=>
        have ha1i:=lN ha1;have ha2i:=lJ ha2;have hb1i:=lN hb1;have hb2i:=lJ hb2
        have hc1i:=lN hc1;have hc2i:=lN hc2;have hz:=HZN.out rfl;have HZ2:=ah hz;clear hz
        go_wp2
        go_roundg g
        case measure=>omega
        exact ⟨k+1,int_eq (by omega),by have:=HK.out;omega,rfl,HZ2.out⟩
       | false=>
        cases e1 with
        | true=>
         have ha1i:=lN ha1;have ha2i:=lJ ha2;have hb1i:=lN hb1;have hb2i:=lJ hb2
         have hc1i:=lN hc1;have hc2i:=lJ hc2;have he1i:=nI.1 he1;have hz:=HZN.out rfl
         have HZ2:=ah hz;clear hz;go_wp2
         go_roundg g
         case measure=>omega
         exact ⟨k+1,int_eq (by omega),by have:=HK.out;omega,rfl,HZ2.out⟩
        | false=>
         have ha1i:=lN ha1;have ha2i:=lJ ha2;have hb1i:=lN hb1;have hb2i:=lJ hb2
         have hc1i:=lN hc1;have hc2i:=lJ hc2;have he1i:=lH.1 he1
         have hr:R=false:=HB.elim id (fun h=>by cases h)
         have HRR:=ah hr;clear hr;go_wp2;go_ret;exact ⟨by rw [HRR.out];rfl,rfl⟩
      | false=>
       cases e1 with
       | true=>
        have ha1i:=lN ha1;have ha2i:=lJ ha2;have hb1i:=lN hb1;have hb2i:=lJ hb2
        have hc1i:=lJ hc1;have he1i:=nI.1 he1;have hz:=HZN.out rfl;have HZ2:=ah hz
        clear hz;go_wp2
        go_roundg g
        case measure=>omega
        exact ⟨k+1,int_eq (by omega),by have:=HK.out;omega,rfl,HZ2.out⟩
       | false=>
        have ha1i:=lN ha1;have ha2i:=lJ ha2;have hb1i:=lN hb1;have hb2i:=lJ hb2
        have hc1i:=lJ hc1;have he1i:=lH.1 he1
        have hr:R=false:=HB.elim id (fun h=>by cases h)
        have HRR:=ah hr;clear hr;go_wp2;go_ret;exact ⟨by rw [HRR.out];rfl,rfl⟩
    | false=>
     cases c1 with
     | true=>
      cases c2 with
      | true=>
       have ha1i:=lN ha1;have ha2i:=lJ ha2;have hb1i:=lJ hb1;have hc1i:=lN hc1
       have hc2i:=lN hc2;have hz:=HZN.out rfl;have HZ2:=ah hz;clear hz;go_wp2
       go_roundg g
       case measure=>omega
       exact ⟨k+1,int_eq (by omega),by have:=HK.out;omega,rfl,HZ2.out⟩
      | false=>
       cases e1 with
       | true=>
        have ha1i:=lN ha1;have ha2i:=lJ ha2;have hb1i:=lJ hb1;have hc1i:=lN hc1
        have hc2i:=lJ hc2;have he1i:=nI.1 he1;have hz:=HZN.out rfl;have HZ2:=ah hz
        clear hz;go_wp2
        go_roundg g
        case measure=>omega
        exact ⟨k+1,int_eq (by omega),by have:=HK.out;omega,rfl,HZ2.out⟩
       | false=>
        have ha1i:=lN ha1;have ha2i:=lJ ha2;have hb1i:=lJ hb1;have hc1i:=lN hc1
        have hc2i:=lJ hc2;have he1i:=lH.1 he1
        have hr:R=false:=HB.elim id (fun h=>by cases h)
        have HRR:=ah hr;clear hr;go_wp2;go_ret;exact ⟨by rw [HRR.out];rfl,rfl⟩
     | false=>
      cases e1 with
      | true=>
       have ha1i:=lN ha1;have ha2i:=lJ ha2;have hb1i:=lJ hb1;have hc1i:=lJ hc1
       have he1i:=nI.1 he1;have hz:=HZN.out rfl;have HZ2:=ah hz;clear hz;go_wp2
       go_roundg g
       case measure=>omega
       exact ⟨k+1,int_eq (by omega),by have:=HK.out;omega,rfl,HZ2.out⟩
      | false=>
       have ha1i:=lN ha1;have ha2i:=lJ ha2;have hb1i:=lJ hb1;have hc1i:=lJ hc1
       have he1i:=lH.1 he1;have hr:R=false:=HB.elim id (fun h=>by cases h)
       have HRR:=ah hr;clear hr;go_wp2;go_ret;exact ⟨by rw [HRR.out];rfl,rfl⟩
  | false=>
   cases b1 with
   | true=>
    cases b2 with
    | true=>
     have ha1i:=lJ ha1;have hb1i:=lN hb1;have hb2i:=lN hb2;have hz:=HZN.out rfl
     have HZ2:=ah hz;clear hz;go_wp2
     go_roundg g
     case measure=>omega
     exact ⟨k+1,int_eq (by omega),by have:=HK.out;omega,rfl,HZ2.out⟩
    | false=>
     cases c1 with
     | true=>
      cases c2 with
      | true=>
       have ha1i:=lJ ha1;have hb1i:=lN hb1;have hb2i:=lJ hb2;have hc1i:=lN hc1
       have hc2i:=lN hc2;have hz:=HZN.out rfl;have HZ2:=ah hz;clear hz;go_wp2
       go_roundg g
       case measure=>omega
       exact ⟨k+1,int_eq (by omega),by have:=HK.out;omega,rfl,HZ2.out⟩
      | false=>
       cases e1 with
       | true=>
        have ha1i:=lJ ha1;have hb1i:=lN hb1;have hb2i:=lJ hb2;have hc1i:=lN hc1
        have hc2i:=lJ hc2;have he1i:=nI.1 he1;have hz:=HZN.out rfl;have HZ2:=ah hz
        clear hz;go_wp2
        go_roundg g
        case measure=>omega
        exact ⟨k+1,int_eq (by omega),by have:=HK.out;omega,rfl,HZ2.out⟩
       | false=>
        have ha1i:=lJ ha1;have hb1i:=lN hb1;have hb2i:=lJ hb2;have hc1i:=lN hc1
        have hc2i:=lJ hc2;have he1i:=lH.1 he1
        have hr:R=false:=HB.elim id (fun h=>by cases h)
        have HRR:=ah hr;clear hr;go_wp2;go_ret;exact ⟨by rw [HRR.out];rfl,rfl⟩
     | false=>
      cases e1 with
      | true=>
       have ha1i:=lJ ha1;have hb1i:=lN hb1;have hb2i:=lJ hb2;have hc1i:=lJ hc1
       have he1i:=nI.1 he1;have hz:=HZN.out rfl;have HZ2:=ah hz;clear hz;go_wp2
       go_roundg g
       case measure=>omega
       exact ⟨k+1,int_eq (by omega),by have:=HK.out;omega,rfl,HZ2.out⟩
      | false=>
       have ha1i:=lJ ha1;have hb1i:=lN hb1;have hb2i:=lJ hb2;have hc1i:=lJ hc1
       have he1i:=lH.1 he1;have hr:R=false:=HB.elim id (fun h=>by cases h)
       have HRR:=ah hr;clear hr;go_wp2;go_ret;exact ⟨by rw [HRR.out];rfl,rfl⟩
   | false=>
    cases c1 with
    | true=>
     cases c2 with
     | true=>
      have ha1i:=lJ ha1;have hb1i:=lJ hb1;have hc1i:=lN hc1;have hc2i:=lN hc2
      have hz:=HZN.out rfl;have HZ2:=ah hz;clear hz;go_wp2
      go_roundg g
      case measure=>omega
      exact ⟨k+1,int_eq (by omega),by have:=HK.out;omega,rfl,HZ2.out⟩
     | false=>
      cases e1 with
      | true=>
       have ha1i:=lJ ha1;have hb1i:=lJ hb1;have hc1i:=lN hc1;have hc2i:=lJ hc2
       have he1i:=nI.1 he1;have hz:=HZN.out rfl;have HZ2:=ah hz;clear hz;go_wp2
       go_roundg g
       case measure=>omega
       exact ⟨k+1,int_eq (by omega),by have:=HK.out;omega,rfl,HZ2.out⟩
      | false=>
       have ha1i:=lJ ha1;have hb1i:=lJ hb1;have hc1i:=lN hc1;have hc2i:=lJ hc2
       have he1i:=lH.1 he1;have hr:R=false:=HB.elim id (fun h=>by cases h)
       have HRR:=ah hr;clear hr;go_wp2;go_ret;exact ⟨by rw [HRR.out];rfl,rfl⟩
    | false=>
     cases e1 with
     | true=>
      have ha1i:=lJ ha1;have hb1i:=lJ hb1;have hc1i:=lJ hc1;have he1i:=nI.1 he1
      have hz:=HZN.out rfl;have HZ2:=ah hz;clear hz;go_wp2
      go_roundg g
      case measure=>omega
      exact ⟨k+1,int_eq (by omega),by have:=HK.out;omega,rfl,HZ2.out⟩
     | false=>
      have ha1i:=lJ ha1;have hb1i:=lJ hb1;have hc1i:=lJ hc1;have he1i:=lH.1 he1
      have hr:R=false:=HB.elim id (fun h=>by cases h)
      have HRR:=ah hr;clear hr;go_wp2;go_ret;exact ⟨by rw [HRR.out];rfl,rfl⟩
theorem bytesLess_lt: ∀(x y:List UInt8),Op.bytesLess x y=decide (x<y)
 | [], []=>by simp [Op.bytesLess]
 | [],b :: y=>by simp [Op.bytesLess]
 | a :: x, []=>by simp [Op.bytesLess]
 | a :: x,b :: y=>by
  rw [Op.bytesLess,bytesLess_lt x y,ql];simp only [rZ,mD,o9,mY,nI]
theorem leq_bytes (a b:List UInt8):(Op.bytesLess a b || a == b)=decide (a<=b):=by
 rw [bytesLess_lt,ql];simp only [o9,mD,nI];exact Iff.symm uI
theorem st_toList (l:List UInt8):(⟨l.toArray⟩:ByteArray).toList=l:=by rw [Lib.toList_data]
theorem first_done {κ α:Type} {f:Option κ->α->Nat} {key:α->κ} {l:List α} {n:Nat} (hn:l.length=n) {R:Nat} (hR:(Gr.first f key none l 0).1=R) (h: ∀j a,j<n->l[j]?=some a->f (Gr.prevAt key l j) a=0):R=0:=by
 rw [<-hR,Gr.first_zero f key (fun j a hj=>h j a (by have:=(lK.1 hj).1;omega) hj)]
theorem first_stop {κ α:Type} {f:Option κ->α->Nat} {key:α->κ} {l:List α} {k:Nat} {a:α} {R e:Nat} (hR:(Gr.first f key none l 0).1=R) (ha:l[k]?=some a) (h: ∀j a,j<k->l[j]?=some a->f (Gr.prevAt key l j) a=0) (he:f (Gr.prevAt key l k) a=e) (hne:e≠0):R=e:=by
 rw [<-hR,Gr.first_bad f key ha he hne h]
theorem first_more {κ α:Type} {f:Option κ->α->Nat} {key:α->κ} {l:List α} {k:Nat} {a:α} (ha:l[k]?=some a) (h: ∀j a,j<k->l[j]?=some a->f (Gr.prevAt key l j) a=0) (he:f (Gr.prevAt key l k) a=0): ∀j a,j<k+1->l[j]?=some a->f (Gr.prevAt key l j) a=0:=fun j b hj hb=>by
 by_cases e:j=k
 ·subst e
  rw [ha] at hb;cases hb;exact he
 exact h j b (by omega) hb
theorem checkLabels_any (B:Nat) (A:Option Addr) (c:Nat) (ls:List (List UInt8)) (w:World) (h:Reads w B 1 A ls.length (ls.map ST)) (hl:ls.length<=1073741824) (hs: ∀l∈ls,l.length<=1073741824):
  Calls Tryz.prog 90 #[.slice A ls.length c] w fun e w'=>e= .returned (.int .i64 (Gr.labelsWrong ls:Nat))/\w=w':=by
 obtain ⟨R,hR⟩:=aj (Gr.labelsWrong ls);rw [hR];unfold Gr.labelsWrong at hR
 obtain ⟨n,hn⟩:=aj ls.length;rw [hn] at h hl hR⊢;have HH:=ah h;have HS:=ah hs
 have HN:=ah hn;have HU:=ah undef_nil;by_cases h8:8<n
 ·rw [lu h8] at hR
  subst hR;have h8i:(8:Int)<n:=by omega
  have t8:decide ((8:Int)<n)=true:=kY h8i;clear h h8 hs hl
  go_enter Tryz.func90,Tryz.ntmps90;go_wp2;go_ret;exact ⟨rfl,rfl⟩
 rw [kU h8] at hR;have HR:=ah hR;have h8i:(n:Int)<=8:=by omega
 have t8:decide ((8:Int)<n)=false:=kX (by omega)
 clear h h8 hs hl hR;go_enter Tryz.func90,Tryz.ntmps90;go_wp2_with fail
 go_loopg [10] n (fun g x wr=> ∃k:Nat,x= .int .i64 k/\k+g=n/\w=wr/\ ∀j a,j<k->ls[j]?=some a->Gr.labelWrong (Gr.prevAt id ls j) a=0)
 case atStart=>exact ⟨0,rfl,by omega,rfl,fun j a h=>by omega⟩
 obtain ⟨k,rfl,hk,rfl,hz⟩:=hrel;have HK:=ah hk;have HZ:=ah hz;clear hz;cases gk with
 | zero=>
  obtain rfl:k=n:=by omega
  have hr:=first_done HN.out HR.out HZ.out;have HRR:=ah hr;clear hk hr;go_wp2;go_ret
  exact ⟨by rw [HRR.out];rfl,rfl⟩
 | succ g=>
  have hkn:k<n:=by omega
  have hknI:(k:Int)<n:=by omega
  obtain ⟨p,o,x,rfl,-,hx,hp⟩:=HH.cell hkn;rw [mW] at hx;obtain ⟨y,hy,rfl⟩:=nP.1 hx
  unfold ST at hp;obtain ⟨z,hz⟩:=aj (⟨y.toArray⟩:ByteArray);rw [hz] at hp
  have hzd:z.data.toList=y:=by rw [<-hz]
  have hzl:z.size<=1073741824:=by rw [Lib.size_eq,hzd];exact HS.out y (lS hy)
  have hcall:=goodName_any z w hzl;rw [hzd] at hcall;have HY:=ah hy;have HZD:=ah hzd
  cases hg:Gr.goodName y with
  | false=>
   rw [hg] at hcall;have HC:=ah hcall
   have hr:=first_stop HR.out HY.out HZ.out (e:=60) (by unfold Gr.labelWrong;rw [hg,lu rfl]) (by decide)
   have HRR:=ah hr;clear hx hk hkn hy hz hzd hzl hcall hg hr;go_wp2_with fail
   refine HC.mono ?_;rintro e w' ⟨rfl,rfl⟩;go_wp2;go_ret;exact ⟨by rw [HRR.out];rfl,rfl⟩
  | true=>
   rw [hg] at hcall;have HC:=ah hcall;have HGN:=ah hg;by_cases h0:k=0
   ·subst h0
    rw [oO] at hp
    have hmore:=first_more HY.out HZ.out (by unfold Gr.labelWrong;rw [hg,kU (by decide)];rfl)
    have HM:=ah hmore;clear hx hk hkn hy hz hzd hzl hcall hg hmore;go_wp2_with fail
    refine HC.mono ?_;rintro e w' ⟨rfl,rfl⟩;go_wp2
    go_roundg g
    case measure=>omega
    exact ⟨1,rfl,by have:=HK.out;omega,rfl,HM.out⟩
   obtain ⟨m,rfl⟩: ∃m,k=m+1:=⟨k - 1,by omega⟩
   obtain ⟨p',o',x',he,-,hx',hp'⟩:=HH.cell (k:=m) (by omega)
   injection he with he
   injection he with he1 he2
   subst he1;subst he2;rw [mW] at hx';obtain ⟨q,hq,rfl⟩:=nP.1 hx';unfold ST at hp'
   obtain ⟨zq,hzq⟩:=aj (⟨q.toArray⟩:ByteArray)
   have hzqd:zq.toList=q:=by rw [<-hzq,st_toList]
   rw [hzq] at hp';obtain ⟨b1,hb1⟩:=aj (Op.bytesLess z.toList zq.toList)
   obtain ⟨b2,hb2⟩:=aj (z.toList == zq.toList)
   have hb:decide (y<=q)=(b1 || b2):=by rw [<-hb1,<-hb2,leq_bytes,hzqd,Lib.toList_data,hzd]
   have hmI:(1:Int)<=((m+1:Nat):Int):=by omega
   have hm0:decide ((0:Int)<((m+1:Nat):Int))=true:=kY (by omega)
   have hsub:((m+1:Nat):Int) - 1=(m:Int):=by omega
   have hlw:Gr.labelWrong (Gr.prevAt id ls (m+1)) y=if (b1 || b2)=true then 6 else 0:=by
    have hpv:Gr.prevAt id ls (m+1)=some q:=by show ls[m]?.map id=_;rw [hq];rfl
    unfold Gr.labelWrong;rw [hg,hpv,kU (by decide),<-hb]
    rfl
   have HLW:=ah hlw;clear hx hx' hq hk hkn hy hz hzd hzl hcall hg hlw hb h0 hzq hzqd
   go_wp2_with fail;refine HC.mono ?_;rintro e w' ⟨rfl,rfl⟩
   have HSTOP:=ah (show (b1 || b2)=true->R=6 from fun h=>first_stop HR.out HY.out HZ.out (e:=6) (by rw [HLW.out,h];rfl) (by decide))
   cases b1 with
   | true=>
    have hr:=HSTOP.out rfl;have HRR:=ah hr;clear hr;go_wp2;go_ret
    exact ⟨by rw [HRR.out];rfl,rfl⟩
   | false=>
    cases b2 with
    | true=>
     have hr:=HSTOP.out rfl;have HRR:=ah hr;clear hr;go_wp2;go_ret
     exact ⟨by rw [HRR.out];rfl,rfl⟩
    | false=>
     have hmore:=first_more HY.out HZ.out (by rw [HLW.out];rfl)
     have HM:=ah hmore;clear hmore;go_wp2
     go_roundg g
     case measure=>omega
     exact ⟨m+1+1,int_eq (by omega),by have:=HK.out;omega,rfl,HM.out⟩
theorem Lst.prop {W:World} {B:Nat} {A:Option Addr} {l:List Gr.P} (h:Lst W B 6 (PropC W B) A l) {k:Nat} {p:Gr.P} (hk:l[k]?=some p): ∃b o An cn At ct,A=some ⟨b,o,none⟩/\b<B/\
  (W.cell? ⟨b,o+k*6,none⟩=some (ST p.key)/\W.cell? ⟨b,o+k*6+1,none⟩=some (.int .i64 p.val.kind)/\W.cell? ⟨b,o+k*6+2,none⟩=some (.int .i64 p.val.num)/\W.cell? ⟨b,o+k*6+3,none⟩=some (ST p.val.text)/\
  W.cell? ⟨b,o+k*6+4,none⟩=some (.slice An p.val.nums.length cn)/\W.cell? ⟨b,o+k*6+5,none⟩=some (.slice At p.val.texts.length ct))/\Reads W B 1 An p.val.nums.length (p.val.nums.map I64)/\Reads W B 1 At p.val.texts.length (p.val.texts.map ST):=by
 obtain ⟨b,o,cs,hA,hb,⟨An,cn,At,ct,rfl,h1,h2⟩,-,hc⟩:=h k p hk
 exact ⟨b,o,An,cn,At,ct,hA,hb,⟨hc 0 _ rfl,hc 1 _ rfl,hc 2 _ rfl,hc 3 _ rfl,hc 4 _ rfl,hc 5 _ rfl⟩,h1,h2⟩
theorem vin_of {W:World} {B:Nat} {v:Cel.V} {An At:Option Addr} {cn ct:Nat} (hv:VOk v) (h1:Reads W B 1 An v.nums.length (v.nums.map I64)) (h2:Reads W B 1 At v.texts.length (v.texts.map ST)):
  VIn W B (.agg #[.int .i64 v.kind, .int .i64 v.num,ST v.text, .slice An v.nums.length cn, .slice At v.texts.length ct]) v:=
 ⟨⟨An,cn,At,ct,rfl,h1,h2⟩,hv.kin,hv.num,hv.nums,hv.tl,hv.nl,hv.sl,hv.sz⟩
theorem bel_next {a b w:World} (h:Below a.heap.size a b) (k:Below b.heap.size b w):Below a.heap.size a w:=h.trans (k.mono h.size)
theorem cells6 {W:World} {b:Nat} {T:TypeId} {v0 v1 v2 v3 v4 v5:Value} (h:Blk W b T #[v0,v1,v2,v3,v4,v5]):
  W.cell? ⟨b,0,none⟩=some v0/\W.cell? ⟨b,1,none⟩=some v1/\W.cell? ⟨b,2,none⟩=some v2/\W.cell? ⟨b,3,none⟩=some v3/\W.cell? ⟨b,4,none⟩=some v4/\W.cell? ⟨b,5,none⟩=some v5:=
 ⟨h.cell 0,h.cell 1,h.cell 2,h.cell 3,h.cell 4,h.cell 5⟩
theorem cells5 {W:World} {b:Nat} {T:TypeId} {v0 v1 v2 v3 v4:Value} (h:Blk W b T #[v0,v1,v2,v3,v4]):
  W.cell? ⟨b,0,none⟩=some v0/\W.cell? ⟨b,1,none⟩=some v1/\W.cell? ⟨b,2,none⟩=some v2/\W.cell? ⟨b,3,none⟩=some v3/\W.cell? ⟨b,4,none⟩=some v4:=
 ⟨h.cell 0,h.cell 1,h.cell 2,h.cell 3,h.cell 4⟩
theorem cells3 {W:World} {b:Nat} {T:TypeId} {v0 v1 v2:Value} (h:Blk W b T #[v0,v1,v2]):W.cell? ⟨b,0,none⟩=some v0/\W.cell? ⟨b,1,none⟩=some v1/\W.cell? ⟨b,2,none⟩=some v2:=
 ⟨h.cell 0,h.cell 1,h.cell 2⟩
theorem cells2 {W:World} {b:Nat} {T:TypeId} {v0 v1:Value} (h:Blk W b T #[v0,v1]):W.cell? ⟨b,0,none⟩=some v0/\W.cell? ⟨b,1,none⟩=some v1:=
 ⟨h.cell 0,h.cell 1⟩
theorem checkProps_any (B:Nat) (A:Option Addr) (c:Nat) (ps:List Gr.P) (w:World) (h:Lst w B 6 (PropC w B) A ps) (hB:B<=w.heap.size) (hl:ps.length<=1073741824) (hs: ∀p∈ps,POk p):
  Calls Tryz.prog 91 #[.slice A ps.length c] w fun e w'=>e= .returned (.int .i64 (Gr.propsWrong ps:Nat))/\Below w.heap.size w w':=by
 obtain ⟨R,hR⟩:=aj (Gr.propsWrong ps);rw [hR];unfold Gr.propsWrong at hR
 obtain ⟨n,hn⟩:=aj ps.length;rw [hn] at hl hR⊢;have HH:=ah h;have HS:=ah hs;have HN:=ah hn
 have HU:=ah undef_nil;by_cases h8:16<n
 ·rw [lu h8] at hR
  subst hR;have h8i:(16:Int)<n:=by omega
  have t8:decide ((16:Int)<n)=true:=kY h8i;clear h h8 hs hl
  go_enter Tryz.func91,Tryz.ntmps91;go_wp2;go_ret;exact ⟨rfl,Below.refl _ _⟩
 rw [kU h8] at hR;have HR:=ah hR;have h8i:(n:Int)<=16:=by omega
 have t8:decide ((16:Int)<n)=false:=kX (by omega)
 clear h h8 hs hl hR;go_enter Tryz.func91,Tryz.ntmps91;go_wp2_with fail
 go_loopg [11] n (fun g x wr=> ∃k:Nat,x= .int .i64 k/\k+g=n/\Below w.heap.size w wr/\ ∀j a,j<k->ps[j]?=some a->Gr.propWrong (Gr.prevAt Gr.P.key ps j) a=0)
 case atStart=>exact ⟨0,rfl,by omega,Below.refl _ _,fun j a h=>by omega⟩
 obtain ⟨k,rfl,hk,hb,hz⟩:=hrel;have HK:=ah hk;have HZ:=ah hz;have HB:=ah hb;clear hz hb
 cases gk with
 | zero=>
  obtain rfl:k=n:=by omega
  have hr:=first_done HN.out HR.out HZ.out;have HRR:=ah hr;clear hk hr;go_wp2;go_ret
  exact ⟨by rw [HRR.out];rfl,HB.out⟩
 | succ g=>
  have hkn:k<n:=by omega
  have hknI:(k:Int)<n:=by omega
  obtain ⟨p,hp⟩: ∃p,ps[k]?=some p:=⟨_,ak (by rw [HN.out];exact hkn)⟩
  have HP:=ah hp;have hLB:=HH.below (HB.mono hB) (PropC.below (HB.mono hB))
  obtain ⟨b,o,An,cn,At,ct,rfl,hbB,⟨c0,c1,c2,c3,c4,c5⟩,r1,r2⟩:=hLB.prop hp
  obtain ⟨z,hz⟩:=aj (⟨p.key.toArray⟩:ByteArray)
  obtain ⟨zt,hzt⟩:=aj (⟨p.val.text.toArray⟩:ByteArray);unfold ST at c0 c3;rw [hz] at c0
  rw [hzt] at c3;clear hp hk hkn;have hpok:=HS.out p (lS HP.out)
  obtain ⟨W1,hW1⟩:=aj (wr.alloc (.cells #[.string z, .int .i64 p.val.kind, .int .i64 p.val.num, .string zt, .slice An p.val.nums.length cn, .slice At p.val.texts.length ct] 53))
  have hb1:Below wr.heap.size wr W1:=by rw [<-hW1];exact (Below.refl _ wr).alloc (kV _) _
  have k1:Blk W1 wr.heap.size 53 #[.string z, .int .i64 p.val.kind, .int .i64 p.val.num, .string zt, .slice An p.val.nums.length cn, .slice At p.val.texts.length ct]:=by rw [<-hW1];exact Blk.new _ _ _
  have hBW:Below w.heap.size w W1:=HB.trans (hb1.mono HB.size)
  have hBr:B<=wr.heap.size:=kZ hB HB.size
  have hvin:=fun (m:Nat)=>((vin_of (cn:=cn) (ct:=ct) hpok.val r1 r2).below (hb1.mono hBr)).below (below_drewN (Below.refl B W1) m)
  unfold ST at hvin;rw [hzt] at hvin
  have hcheck:=fun (m:Nat)=>check_any B _ p.val (W1.drewN m) (hvin m) (kZ hBr hb1.size)
  have HCK:=ah hcheck;have hzd:z.data.toList=p.key:=by rw [<-hz]
  have hcall:=goodName_any z W1 (by rw [Lib.size_eq,hzd];exact hpok.key)
  rw [hzd] at hcall;have HW1:=ah hW1;have HBW:=ah hBW;have hd:=cells6 k1;have HD:=ah hd
  have HHP:Hid (∀q:Gr.P,∀m:Nat,m<n->ps[m]?=some q->W1.cell? ⟨b,o+m*6,none⟩=some (ST q.key)):=fun q m hm hq=>by
   obtain ⟨b',o',_,_,_,_,he,hlt,⟨e0,-⟩,-⟩:=hLB.prop hq
   injection he with he
   injection he with he1 he2
   subst he1;subst he2;exact ((hb1.mono hBr).cell (by exact hlt)).trans e0
  obtain ⟨Nm,hNm⟩:=aj (Gr.goodName p.key);rw [hNm] at hcall;have HC:=ah hcall
  have HNM:=ah hNm;have HZD:=ah hzd;obtain ⟨CV,hCV⟩:=aj (Cel.check p.val);rw [hCV] at HCK
  have HCV:=ah hCV
  clear hW1 hb1 k1 hBW hvin hcheck hcall hNm hCV hz hzt hzd hLB r1 r2 hBr hpok hbB hd
  go_upto_region 6 with fail
  rw [HW1.out];clear c0 c1 c2 c3 c4 c5 HW1;obtain ⟨d0,d1,d2,d3,d4,d5⟩:=HD.out
  go_wp2_with fail;refine HC.mono ?_;rintro e w' ⟨rfl,rfl⟩;cases Nm with
  | false=>
   have hr:=first_stop HR.out HP.out HZ.out (e:=60) (by unfold Gr.propWrong;rw [HNM.out,lu rfl]) (by decide)
   have HRR:=ah hr;clear hr;go_wp2;go_ret;exact ⟨by rw [HRR.out];rfl,HBW.out⟩
  | true=>
   have HCONT:=ah (fun (h:Gr.propWrong (Gr.prevAt Gr.P.key ps k) p=0)=>first_more HP.out HZ.out h)
   have HSTOP:=ah (fun (e:Nat) (h:Gr.propWrong (Gr.prevAt Gr.P.key ps k) p=e) (hne:e≠0)=>first_stop HR.out HP.out HZ.out h hne)
   by_cases h0:k=0
   ·have hk0:(k:Int)<=0:=by omega
    have tk:decide (0<k)=false:=kX (by omega)
    have hpw:Gr.propWrong (Gr.prevAt Gr.P.key ps k) p=CV:=by
     subst h0;unfold Gr.propWrong
     rw [HNM.out,kU (by decide),kU (by simp [Gr.prevAt]),HCV.out]
    have HPW:=ah hpw;clear h0 hpw
    go_upto_region 8 with fail
    go_quiet (fail)
    go_wp2_with fail;refine (HCK.out _).mono ?_;rintro e w4 ⟨rfl,hb4⟩
    have HB4:=ah (bel_next (below_drewN HBW.out nq) hb4);clear hb4;cases CV with
    | zero=>
     have HM:=ah (HCONT.out HPW.out);go_wp2
     go_roundg g
     case measure=>omega
     exact ⟨k+1,int_eq (by omega),by have:=HK.out;omega,HB4.out,HM.out⟩
    | succ e=>
     have hr:=HSTOP.out (e+1) HPW.out (by omega)
     have HRR:=ah hr;have hne:(((e+1:Nat):Int) !=0)=true:=by rw [mF];omega
     clear hr;go_wp2;go_ret;exact ⟨by rw [HRR.out];rfl,HB4.out⟩
   obtain ⟨m,hm⟩: ∃m,k=m+1:=⟨k - 1,by omega⟩
   have tk:decide (0<k)=true:=kY (by omega)
   have hkp:(0:Int)<k:=by omega
   have hsub:(k:Int) - 1=(m:Int):=by omega
   have hmn:(m:Int)<n:=by omega
   have hmn':m<n:=by omega
   obtain ⟨q,hq⟩: ∃q,ps[m]?=some q:=⟨_,ak (by omega)⟩
   have e0:=HHP.out q m hmn' hq;unfold ST at e0
   obtain ⟨zq,hzq⟩:=aj (⟨q.key.toArray⟩:ByteArray)
   have hzqd:zq.toList=q.key:=by rw [<-hzq,st_toList]
   rw [hzq] at e0;obtain ⟨b1,hb1⟩:=aj (Op.bytesLess z.toList zq.toList)
   obtain ⟨b2,hb2⟩:=aj (z.toList == zq.toList)
   have hb:decide (p.key<=q.key)=(b1 || b2):=by rw [<-hb1,<-hb2,leq_bytes,hzqd,Lib.toList_data,HZD.out]
   have hpw:Gr.propWrong (Gr.prevAt Gr.P.key ps k) p=if (b1 || b2)=true then 6 else CV:=by
    have hpv:Gr.prevAt Gr.P.key ps k=some q.key:=by rw [hm];show ps[m]?.map Gr.P.key=_;rw [hq];rfl
    unfold Gr.propWrong;rw [HNM.out,hpv,kU (by decide),<-hb,HCV.out]
    rfl
   have HPW:=ah hpw;clear h0 hpw hq hzq hzqd hb hm hmn'
   have HTL:=ah (show (b1 || b2)=true->R=6 from fun h=>HSTOP.out 6 (by rw [HPW.out,h];rfl) (by decide))
   cases b1 with
   | true=>
    have hr:=HTL.out rfl;have HRR:=ah hr;clear hr
    go_upto_region 8 with fail
    go_quiet (fail)
    go_wp2;go_ret;exact ⟨by rw [HRR.out];rfl,below_drewN HBW.out _⟩
   | false=>
    cases b2 with
    | true=>
     have hr:=HTL.out rfl;have HRR:=ah hr;clear hr
     go_upto_region 8 with fail
     go_quiet (fail)
     go_wp2;go_ret;exact ⟨by rw [HRR.out];rfl,below_drewN HBW.out _⟩
    | false=>
     go_upto_region 8 with fail
     go_quiet (fail)
     go_wp2_with fail;refine (HCK.out _).mono ?_;rintro e w4 ⟨rfl,hb4⟩
     have HB4:=ah (bel_next (below_drewN HBW.out nq) hb4);clear hb4;cases CV with
     | zero=>
      have HM:=ah (HCONT.out HPW.out);go_wp2
      go_roundg g
      case measure=>omega
      exact ⟨k+1,int_eq (by omega),by have:=HK.out;omega,HB4.out,HM.out⟩
     | succ e=>
      have hr:=HSTOP.out (e+1) HPW.out (by omega)
      have HRR:=ah hr;have hne:(((e+1:Nat):Int) !=0)=true:=by rw [mF];omega
      clear hr;go_wp2;go_ret;exact ⟨by rw [HRR.out];rfl,HB4.out⟩
theorem own_step {w w':World} {B e k n b:Nat} {v:Value} {xs:List Value} (h:w.ownsRow B e k v n xs) (hg:w.grownBy w' (some b)) (hb:b<B):w'.ownsRow B e k v n xs:=
 h.kept hg (.inr fun e=>by have:=(own_blocks h b e).1;omega)
theorem VOwn.step {w w':World} {B b:Nat} {u:Value} {v:Cel.V} (h:VOwn w B u v) (hg:w.grownBy w' (some b)) (hb:b<B):VOwn w' B u v:=by
 obtain ⟨s,t,e,h1,h2⟩:=h.ex;exact ⟨s,t,e,own_step h1 hg hb,own_step h2 hg hb⟩
def PairOwn (W:World) (B:Nat) (x:Gr.P×List Value):Prop:=
 ∃s t,x.2= [ST x.1.key, .int .i64 x.1.val.kind, .int .i64 x.1.val.num,ST x.1.val.text,s,t]/\W.ownsRow B 2 1 s x.1.val.nums.length (x.1.val.nums.map I64)/\W.ownsRow B 9 1 t x.1.val.texts.length (x.1.val.texts.map ST)
theorem PairOwn.of {W:World} {B:Nat} {u:Value} {v:Cel.V} (h:VOwn W B u v) (key:List UInt8): ∃cs,u= .agg cs.toArray/\PairOwn W B (⟨key,v⟩,ST key :: cs):=by
 obtain ⟨s,t,e,h1,h2⟩:=h.ex
 exact ⟨[.int .i64 v.kind, .int .i64 v.num, .string ⟨v.text.toArray⟩,s,t],e,s,t,rfl,h1,h2⟩
theorem PairOwn.step {w w':World} {B b:Nat} {x:Gr.P×List Value} (h:PairOwn w B x) (hg:w.grownBy w' (some b)) (hb:b<B):PairOwn w' B x:=by
 obtain ⟨s,t,e,h1,h2⟩:=h;exact ⟨s,t,e,own_step h1 hg hb,own_step h2 hg hb⟩
theorem PairOwn.row {w w':World} {B:Nat} {row:Option Nat} {x:Gr.P×List Value} (h:PairOwn w B x) (hg:w.grownBy w' row) (hty: ∀g c t fz,row=some g->w.heap[g]?=some (.cells c t fz)->t≠2/\t≠9):PairOwn w' B x:=by
 obtain ⟨s,t,e,h1,h2⟩:=h
 exact ⟨s,t,e,own_kept_ty h1 hg fun g c t' fz hr hc=>(hty g c t' fz hr hc).1,own_kept_ty h2 hg fun g c t' fz hr hc=>(hty g c t' fz hr hc).2⟩
theorem PairOwn.base {w:World} {B B':Nat} {x:Gr.P×List Value} (h:PairOwn w B x) (hb:B'<=B):PairOwn w B' x:=by
 obtain ⟨s,t,e,h1,h2⟩:=h;exact ⟨s,t,e,own_base h1 hb,own_base h2 hb⟩
def PropsOwn (T:TypeId) (W:World) (B:Nat) (v:Value) (ps:List Gr.P):Prop:=
 ∃l:List (Gr.P×List Value),l.map Prod.fst=ps/\(∀x∈l,PairOwn W B x)/\W.ownsRow B T 6 v ps.length (l.flatMap Prod.snd)
theorem PropsOwn.nil (T:TypeId) (W:World) (B:Nat):PropsOwn T W B (.slice none 0 0) []:=⟨[],rfl,by simp,World.ownsRow_nil _ _ _ _⟩
theorem PropsOwn.step {T:TypeId} {w w':World} {B b:Nat} {v:Value} {ps:List Gr.P} (h:PropsOwn T w B v ps) (hg:w.grownBy w' (some b)) (hb:b<B):PropsOwn T w' B v ps:=by
 obtain ⟨l,e,h1,h2⟩:=h;exact ⟨l,e,fun x hx=>(h1 x hx).step hg hb,own_step h2 hg hb⟩
theorem PropsOwn.base {T:TypeId} {w:World} {B B':Nat} {v:Value} {ps:List Gr.P} (h:PropsOwn T w B v ps) (hb:B'<=B):PropsOwn T w B' v ps:=by
 obtain ⟨l,e,h1,h2⟩:=h;exact ⟨l,e,fun x hx=>(h1 x hx).base hb,own_base h2 hb⟩
theorem PropsOwn.put {T:TypeId} {w w':World} {B:Nat} {v v':Value} {ps:List Gr.P} {p:Gr.P} {cs:List Value} {l:List (Gr.P×List Value)} (hT:T≠2/\T≠9) (hl:l.map Prod.fst=ps) (h1: ∀x∈l,PairOwn w B x) (hp:PairOwn w B (p,cs))
  (hv:w.ownsRow B T 6 v ps.length (l.flatMap Prod.snd)) (hg:w.grownBy w' v.ownBlock) (hown:w'.ownsRow B T 6 v' (ps.length+1) (l.flatMap Prod.snd ++ cs)):PropsOwn T w' B v' (ps ++ [p]):=by
 have hty: ∀g c t fz,v.ownBlock=some g->w.heap[g]?=some (.cells c t fz)->t≠2/\t≠9:=fun g c t fz hr hc=>by
  obtain ⟨-,c',hc'⟩:=own_blocks hv g hr;rw [hc'] at hc;cases hc;exact hT
 refine ⟨l ++ [(p,cs)],by rw [mV,hl];rfl,fun x hx=> ?_, ?_⟩
 ·rcases lW.1 hx with hx | hx
  ·exact (h1 x hx).row hg hty
  rw [lY.1 hx];exact hp.row hg hty
 rw [kW,oC]
 simpa using hown
theorem step_call {ops:Array Oper} {o:Oper} {a:Act} {K:Act->World->Prop} {Q:Exit->Act->World->Prop} {E:Prop} (f:FuncId) {args:Array Value} {W:World} {R:Value->World->Prop} (hgd:o.guard=none)
  (he:(execOp a.eval o).run Tryz.prog W= .ok (.enter f args) W) (hc:Calls Tryz.prog f args W fun e w'=> ∃v,e= .returned v/\R v w') (k: ∀v w',R v w'->K (a.put o.dst v) w'):
  if Region.wanted o (yielded ops a.tmps)=true then Oper.wp Tryz.prog o a W K Q else E:=by
 have hw:Region.wanted o (yielded ops a.tmps)=true:=by simp [Region.wanted,hgd]
 rw [lu hw];unfold Oper.wp;rw [he];refine hc.mono ?_;rintro e w' ⟨v,rfl,h⟩;exact k v w' h
theorem step_append_struct {ops:Array Oper} {o:Oper} {a:Act} {K:Act->World->Prop} {Q:Exit->Act->World->Prop} {E:Prop} (hgd:o.guard=none) (s x:Operand) (T e:TypeId) (z:Value) (sz bytes:Nat)
  (hT:Tryz.prog.underlying T=some (.slice e)) (hinfo:(Tryz.prog.info? e).map (fun i=>(i.zero,i.size,i.bytes))=some (some z,sz,bytes)) (hz:z.cells.size=sz) (hsz:0<sz) (hby:bytes<=200)
  (ho:o.op= .call {callee:= .builtin .append,args:= #[s,x],argTypes:= #[T,T]})
  (B:Nat) (v:Value) (n:Nat) (xs:List Value) (W:World) (hs:a.eval s=v) (h:W.ownsRow B e sz v n xs) (news:List Value) (cs:Array Value) (hcs:cs=news.toArray) (hnl:news.length=sz) (hu: ∀u∈news,u.oneCell'=true)
  (hx:a.eval x= .slice (some ⟨W.heap.size,0,none⟩) 1 1) (hl:n<536870912) (hB:B<=W.heap.size)
  (k: ∀v' w',w'.ownsRow B e sz v' (n+1) (xs ++ news)->W.grownBy w' v.ownBlock->(v'.ownBlock=v.ownBlock\/ ∃g,v'.ownBlock=some g/\W.heap.size<=g)->Below B W w'->K (a.put o.dst v') w'):
  if Region.wanted o (yielded ops a.tmps)=true then Oper.wp Tryz.prog o a (W.alloc (.cells cs e)) K Q else E:=by
 subst hcs;have hw:Region.wanted o (yielded ops a.tmps)=true:=by simp [Region.wanted,hgd]
 rw [lu hw];obtain ⟨i0,hi,hz0,hz1,hz2⟩:=info_parts hinfo
 have hnews: ∀j u',news[j]?=some u'->(W.alloc (.cells news.toArray e)).cell? ((⟨W.heap.size,0,none⟩:Addr).add j)=some u':=cells_new _ _ _
 obtain ⟨v',w',hrun,h2,h3,h4,h5⟩:=run_append_own_at (P:=Tryz.prog) (W.alloc (.cells news.toArray e)) B T o.type e i0 z sz bytes hT hi hz0 hz1 hz2 hz hsz v n xs (World.ownsRow.alloc h _) ⟨W.heap.size,0,none⟩ 1 1 news (by omega) hnews hu (by unfold maxLen;omega) (by
  have:(n+1)*bytes<=536870912*200:=qQ (by omega) hby
  omega) (by simp;omega)
 unfold Oper.wp execOp
 simp only [ho,resolve,invoke,builtin,Sem.run_bind,Sem.run_pure,Result.andThen_ok,vS,mJ,oh,hs,hx,hrun]
 refine k v' w' h2 (only_trans (only_alloc (only_refl W _) _) h3) (h5.imp id (fun h=>⟨_,h,by simp⟩)) ?_
 exact ((Below.refl B W).alloc hB _).grown h3 (by simp;omega) (fun j e=>(World.ownsRow.lt h j e).1)
theorem PropsOwn.form {T:TypeId} {W:World} {B:Nat} {v:Value} {ps:List Gr.P} (h:PropsOwn T W B v ps): ∃A c,v= .slice A ps.length c:=by
 obtain ⟨l,-,-,h3⟩:=h;exact own_form h3
theorem PropsOwn.row {T:TypeId} {w w':World} {B:Nat} {row:Option Nat} {v:Value} {ps:List Gr.P} (h:PropsOwn T w B v ps) (hg:w.grownBy w' row) (hty: ∀g c t fz,row=some g->w.heap[g]?=some (.cells c t fz)->t≠2/\t≠9/\t≠T):PropsOwn T w' B v ps:=by
 obtain ⟨l,e,h1,h2⟩:=h
 exact ⟨l,e,fun x hx=>(h1 x hx).row hg fun g c t fz hr hc=>⟨(hty g c t fz hr hc).1,(hty g c t fz hr hc).2.1⟩,own_kept_ty h2 hg fun g c t fz hr hc=>(hty g c t fz hr hc).2.2⟩
theorem PropsOwn.below {T:TypeId} {w w':World} {B:Nat} {v:Value} {ps:List Gr.P} (h:PropsOwn T w B v ps) (hb:Below w.heap.size w w'):PropsOwn T w' B v ps:=h.row (only_of_below hb none) (fun g c t fz hr=>by cases hr)
end Go.Proofs.YtanlehkalkafdaaGreatDoor
