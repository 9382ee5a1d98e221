/- Contracts and plain laws,part 5. -/
import Derived.Test.YtoofbflplhbpbaaGreatDoorUO04
set_option maxHeartbeats 64000000
set_option maxRecDepth 1000000
set_option linter.all false
namespace Go.Proofs.YtoofbflplhbpbaaGreatDoor
open Go.RowKit
theorem afG (b:Nat) (hb:b<18446744073709551616):bits BinOp.and IntKind.u64 (b:Int) 9223372036854775808=if 9223372036854775808<=b then 9223372036854775808 else 0:=by
 rw [show (9223372036854775808:Int)=((9223372036854775808:Nat):Int) from rfl,bits_and_u64_nat b _ hb (by omega)]
 have key:b &&& 9223372036854775808=if 9223372036854775808<=b then 9223372036854775808 else 0:=by
  apply Nat.eq_of_testBit_eq
  intro i;rw [Nat.testBit_and,show (9223372036854775808:Nat)=2 ^ 63 from rfl,aoz]
  by_cases hi:63=i
  ·subst hi
   rw [Nat.testBit_eq_decide_div_mod_eq];by_cases h:2 ^ 63<=b
   ·rw [ab7 h,aoz,abW (by omega)];rfl
   rw [ab6 h,abX (by omega)];simp
  rw [abX hi,Bool.and_false]
  split
  ·rw [aoz,abX hi]
  simp
 rw [key]
 split<;> rfl
theorem Yb (b:Nat) (hb:b<18446744073709551616):bits BinOp.and IntKind.u64 ((b:Int) / 4503599627370496) 2047=((b % 9223372036854775808 / 4503599627370496:Nat):Int):=by
 rw [show ((b:Int) / 4503599627370496)=((b / 4503599627370496:Nat):Int) by omega,show (2047:Int)=((2047:Nat):Int) from rfl,bits_and_u64_nat _ _ (by omega) (by omega),show (2047:Nat)=2 ^ 11 - 1 from rfl,aml]
 omega
theorem Qr (b:Nat) (hb:b<18446744073709551616):bits BinOp.and IntKind.u64 (b:Int) 4503599627370495=((b % 9223372036854775808 % 4503599627370496:Nat):Int):=by
 rw [show (4503599627370495:Int)=((4503599627370495:Nat):Int) from rfl,bits_and_u64_nat _ _ hb (by omega),show (4503599627370495:Nat)=2 ^ 52 - 1 from rfl,aml]
 omega
theorem or_one (f:Nat) (hf:f<4503599627370496):bits BinOp.or IntKind.u64 (f:Int) 4503599627370496=((f+4503599627370496:Nat):Int):=by
 rw [show (4503599627370496:Int)=((4503599627370496:Nat):Int) from rfl,bits_or_u64_nat f _ (by omega) (by omega)]
 congr 1
 have h:=alR (i:=52) (b:=f) hf 1;rw [Nat.or_comm]
 rw [show (4503599627370496:Nat)=2 ^ 52*1 from rfl,<-h]
 omega
theorem MB {f:Nat} (hf:f<4503599627370496):Num.hexN 14 (f+4503599627370496)=49 :: Num.hexN 13 f:=by
 rw [Qq];have e:(16:Nat) ^ 13=4503599627370496:=by decide
 rw [e,show (f+4503599627370496) / 4503599627370496 % 16=1 by omega]
 have key: ∀(k q n:Nat),Num.hexN k (n+q*16 ^ k)=Num.hexN k n:=by
  intro k
  induction k with
  | zero=>intro q n;rfl
  | succ k ih=>
   intro q n;have e2:q*16 ^(k+1)=(q*16 ^ k)*16:=by rw [ake,alD]
   rw [Num.hexN,Num.hexN,e2,Nat.add_mul_div_right _ _ (by decide:0<16),Nat.add_mul_mod_self_right,ih]
 have h:=key 13 1 f;rw [e,Nat.one_mul] at h;rw [h];rfl
theorem Ig {f:Nat} (h:f≠0):Num.nG f=46 :: Lib.trimRightS (Num.hexN 13 f) [48]:=by unfold Num.nG;rw [ab6 h]
theorem Ih (f:Nat):(Lib.trimRightS (Num.hexN 13 f) [48]).length<=13:=by
 obtain ⟨j,h1,_⟩:=Num.Hw _ (Num.hexN 13 f) rfl;have h2:=Num.vw 13 f;rw [h1,dA] at h2;omega
theorem MC (z:ByteArray) (f:Nat) (tl:List UInt8) (hz:z.data.toList=Num.hexN 13 f) (htl:Lib.trimRightS (Num.hexN 13 f) [48]=tl) (w:World):
  Calls Tryz.prog 128 #[.string z, .string ⟨#[48]⟩] w fun e w'=>e= .returned (.string ⟨tl.toArray⟩)/\w=w':=by
 have hs:z.size<=9223372036854775807:=by rw [Lib.size_eq,hz,Num.vw];omega
 refine (Tryz.strings_TrimRight_one z 48 (by decide) w hs).mono fun e w' ⟨h1,h2⟩=>⟨?_,h2.symm⟩
 rw [h1,hz,<-Lib.trimRightS_one,htl]
theorem qB {n:Int} (h0: -2000<=n) (h1:n<=2000):(Lib.itoa n).length<=5:=by
 unfold Lib.itoa
 split
 ·rw [acd,Num.xq]
  have:=yZ 3 n.natAbs (by omega)
  omega
 rw [Num.xq];have:=yZ 3 n.toNat (by omega)
 omega
theorem afH (b:Nat) (w:World) (hb:b<18446744073709551616) (hL:Laid w):
  Calls Tryz.prog 71 #[.int .u64 b] w fun e w'=>e= .returned (.string ⟨(Num.fmt b).toArray⟩)/\Below w.heap.size w w':=by
 obtain ⟨a,ha⟩: ∃a,b % 9223372036854775808=a:=⟨_,rfl⟩;have h1:=afG b hb;have h2:=Yb b hb
 have h3:=Qr b hb
 have hf:Num.fmt b=if 9218868437227405312<a then Num.tZ else Num.sg (decide (9223372036854775808<=b)) ++ Num.eu a:=by unfold Num.fmt;rw [ha]
 rw [ha] at h2 h3;obtain ⟨x,hx⟩: ∃x,a / 4503599627370496=x:=⟨_,rfl⟩
 obtain ⟨f,qM⟩: ∃f,a % 4503599627370496=f:=⟨_,rfl⟩;have hfb:f<4503599627370496:=by omega
 have hxb:x<=2047:=by omega
 have hfi:(f:Int)<=4503599627370495:=by omega
 have hxi:(x:Int)<=2047:=by omega
 have hbi:(b:Int)<=18446744073709551615:=by omega
 rw [hx] at h2;rw [qM] at h3;rw [hf];have jC:=ah hL;have HX:=ah hx;have HF:=ah qM
 clear hf hL;by_cases hs:9223372036854775808<=b
 ·rw [ab7 hs] at h1
  rw [abW hs];by_cases fB:9218868437227405312<a
  ·rw [ab7 fB]
   have t1:((x:Int) == 2047)=true:=by rw [adp];omega
   have t2:((f:Int) !=0)=true:=by rw [acV];omega
   clear hx qM ha fB hs;go_enter Tryz.func71,Tryz.ntmps71;go_wp2;go_ret
   exact ⟨rfl,Below.refl _ _⟩
  rw [ab6 fB];by_cases dK:a=9218868437227405312
  ·have e1:Num.eu a=Num.xu:=by unfold Num.eu;rw [ab7 dK]
   rw [e1];have t1:((x:Int) == 2047)=true:=by rw [adp];omega
   have t2:((f:Int) !=0)=false:=by rw [aeo];omega
   clear hx qM ha fB hs dK e1;go_enter Tryz.func71,Tryz.ntmps71;go_wp2;go_ret
   exact ⟨rfl,Below.refl _ _⟩
  have t1:((x:Int) == 2047)=false:=by rw [ab3];omega
  by_cases h0:a=0
  ·have e1:Num.eu a=Num.ZERO:=by unfold Num.eu;rw [ab6 dK,ab7 h0]
   rw [e1];have t2:((x:Int) == 0)=true:=by rw [adp];omega
   have t3:((f:Int) == 0)=true:=by rw [adp];omega
   clear hx qM ha fB hs dK h0 e1;go_enter Tryz.func71,Tryz.ntmps71;go_wp2;go_ret
   exact ⟨rfl,Below.refl _ _⟩
  have e1:Num.eu a=Num.form (Num.gG a) (Num.fV a):=by unfold Num.eu;rw [ab6 dK,ab6 h0]
  rw [e1];clear e1;by_cases hx0:x=0
  ·have DI:a=f:=by omega
   obtain ⟨u1,u2,u3,u4⟩:=Num.LU h0 (by omega)
   have en:Num.fV a= -1022 -(Num.up a:Int):=by unfold Num.fV;rw [ab7 (by omega)]
   have fn:Num.gG a=a*2 ^ Num.up a - 4503599627370496:=by unfold Num.gG;rw [ab7 (by omega)]
   have hbl:Lib.bitLen f+Num.up a=53:=by have:=u1;unfold Num.up at this⊢;rw [DI] at this⊢;omega
   have hlz:=(Tryz.bits_LeadingZeros64 (f:Int) w (by omega) (by omega)).mono fun e w' (h:_/\w'=w)=>(⟨h.1,h.2.symm⟩:_/\w=w')
   rw [am7,show (64:Int) -(Lib.bitLen f:Int)=(Num.up a:Int)+11 by omega] at hlz
   rw [en,fn];obtain ⟨U,hU⟩: ∃U,Num.up a=U:=⟨_,rfl⟩;rw [hU] at u1 u2 u3 u4 hlz⊢
   obtain ⟨G,hG⟩: ∃G,a*2 ^ U=G:=⟨_,rfl⟩;rw [hG] at u3 u4⊢
   have t2:((x:Int) == 0)=true:=by rw [adp];omega
   have t3:((f:Int) == 0)=false:=by rw [ab3];omega
   have hU1:(1:Int)<=U:=by omega
   have hU2:(U:Int)<=52:=by omega
   obtain ⟨g,hg⟩: ∃g,G - 4503599627370496=g:=⟨_,rfl⟩;have hgb:g<4503599627370496:=by omega
   have hsh:IntKind.u64.wrap ((f:Int)*2 ^ U)=(G:Int):=by
    rw [show (f:Int)*2 ^ U=(G:Int) by rw [<-hG,DI];simp,IntKind.wrap_u64]
    omega
   have hmk:bits BinOp.and IntKind.u64 (G:Int) 4503599627370495=(g:Int):=by
    rw [Qr G (by omega)]
    omega
   rw [hg,show -1022 -(U:Int)=1 -(U:Int) - 1023 by omega]
   have Jl:=ah hlz;clear hlz hG DI hbl en fn hU hx qM ha fB hs dK h0 hx0 hg u3 u4
   by_cases hf0:g=0
   ·subst hf0
    have hd:decide (1 -(U:Int) - 1023<0)=true:=abW (by omega)
    have vV:(1:Int)<=U:=by omega
    obtain ⟨r,hr⟩: ∃r,Lib.itoa (-(1 -(U:Int) - 1023))=r:=⟨_,rfl⟩
    have hrl:r.length<=5:=by rw [<-hr];exact qB (by omega) (by omega)
    have hfin:Num.form 0 (1 -(U:Int) - 1023)= [48,120,49] ++([] ++(109 :: r)):=by
     unfold Num.form Num.fU;rw [ab7 (by omega),hr]
     rfl
    have iW:=ah hfin
    have HIT:=ah (fun (W:World) (hb:Below w.heap.size w W)=>hr▸uf (-(1 -(U:Int) - 1023)) W (by omega) (by omega) (jC.out.below hb))
    clear hr hfin;go_enter Tryz.func71,Tryz.ntmps71;go_wp2_with fail;refine Jl.out.mono ?_
    rintro e w' ⟨rfl,rfl⟩;have HB1:Hid (Below w.heap.size w w):=Below.refl _ _
    obtain ⟨w1,hw1⟩: ∃x:World,x=w:=⟨_,rfl⟩;go_wp2_with fail
    refine (HIT.out _ (Below.refl _ _)).mono ?_;rintro e w2 ⟨rfl,hb2⟩;have HB2:=ah hb2
    clear hb2;go_wp2;go_ret;refine ⟨?_,HB2.out⟩;rw [iW.out]
    exact ab8 (fun q=>Ending.returned (Value.string q)) (by apply adW;simp [Num.sg])
   have oI:=ah (Ig hf0);have t4:((g:Int) !=0)=true:=by rw [acV];omega
   have hor:=or_one g hgb;have pI:=MB hgb;obtain ⟨F,hF⟩: ∃F,g+4503599627370496=F:=⟨_,rfl⟩
   rw [hF] at hor pI
   have sD:=ah (fun (W:World) (hb:Below w.heap.size w W)=>pI▸Me F W (jC.out.below hb) (by omega) (by omega))
   obtain ⟨iY,h13⟩: ∃h,Num.hexN 13 g=h:=⟨_,rfl⟩
   have lK:iY.length=13:=by rw [<-h13];exact Num.vw 13 f
   obtain ⟨pJ,lM⟩: ∃z:ByteArray,(⟨(49 :: iY).toArray⟩:ByteArray)=z:=⟨_,rfl⟩
   have vW:pJ.size=14:=by rw [<-lM,bf];simp [lK]
   have hzd:pJ.data.toList=49 :: iY:=by rw [<-lM]
   have HZD:=ah hzd;rw [h13,lM] at sD;have qN:=ah lK;have lN:=ah vW
   have hz1:(1:Int)<=pJ.size:=by omega
   obtain ⟨tl,htl⟩: ∃t,Lib.trimRightS (Num.hexN 13 g) [48]=t:=⟨_,rfl⟩
   have Jm:tl.length<=13:=by rw [<-htl];exact Ih g
   have mP:=ah (fun (z:ByteArray) (hz:z.data.toList=Num.hexN 13 g) (W:World)=>MC z g tl hz htl W)
   rw [h13] at mP;rw [htl] at oI;clear htl hf0 hF pI h13 lK lM vW hzd
   have hd:decide (1 -(U:Int) - 1023<0)=true:=abW (by omega)
   have vV:(1:Int)<=U:=by omega
   obtain ⟨r,hr⟩: ∃r,Lib.itoa (-(1 -(U:Int) - 1023))=r:=⟨_,rfl⟩
   have hrl:r.length<=5:=by rw [<-hr];exact qB (by omega) (by omega)
   have hfin:Num.form g (1 -(U:Int) - 1023)= [48,120,49] ++(46 :: tl ++(109 :: r)):=by
    unfold Num.form Num.fU;rw [ab7 (by omega),hr,oI.out]
    skip
   have iW:=ah hfin
   have HIT:=ah (fun (W:World) (hb:Below w.heap.size w W)=>hr▸uf (-(1 -(U:Int) - 1023)) W (by omega) (by omega) (jC.out.below hb))
   clear hr hfin;go_enter Tryz.func71,Tryz.ntmps71;go_wp2_with fail;refine Jl.out.mono ?_
   rintro e w' ⟨rfl,rfl⟩;go_wp2_with fail;refine (sD.out _ (Below.refl _ _)).mono ?_
   rintro e w1 ⟨rfl,hb1⟩;have HB1:=ah hb1;clear hb1;go_wp2_with fail
   refine (mP.out _ (by rw [Lib.extract_data,lN.out,HZD.out];simp;exact acg (by rw [qN.out];exact ab1 _)) w1).mono ?_
   rintro e w1' ⟨rfl,rfl⟩;go_wp2_with fail;refine (HIT.out _ HB1.out).mono ?_
   rintro e w2 ⟨rfl,hb2⟩;have HB2:=ah hb2;clear hb2;go_wp2;go_ret
   refine ⟨?_,HB1.out.trans (HB2.out.mono HB1.out.size)⟩;rw [iW.out]
   exact ab8 (fun q=>Ending.returned (Value.string q)) (by apply adW;simp [Num.sg])
  have t2:((x:Int) == 0)=false:=by rw [ab3];omega
  have en:Num.fV a=(x:Int) - 1023:=by unfold Num.fV;rw [ab6 (by omega),hx]
  have fn:Num.gG a=f:=by unfold Num.gG;rw [ab6 (by omega),qM]
  rw [en,fn];clear en fn hx qM ha fB hs dK h0;have hx1:(1:Int)<=x:=by omega
  clear hx0;by_cases hf0:f=0
  ·subst hf0
   by_cases hneg:x<1023
   ·have hd:decide ((x:Int) - 1023<0)=true:=abW (by omega)
    have vV:(x:Int)<1023:=by omega
    obtain ⟨r,hr⟩: ∃r,Lib.itoa (-((x:Int) - 1023))=r:=⟨_,rfl⟩
    have hrl:r.length<=5:=by rw [<-hr];exact qB (by omega) (by omega)
    have hfin:Num.form 0 ((x:Int) - 1023)= [48,120,49] ++([] ++(109 :: r)):=by
     unfold Num.form Num.fU;rw [ab7 (by omega),hr]
     rfl
    have iW:=ah hfin
    have HIT:=ah (fun (W:World) (hb:Below w.heap.size w W)=>hr▸uf (-((x:Int) - 1023)) W (by omega) (by omega) (jC.out.below hb))
    clear hr hfin hneg;go_enter Tryz.func71,Tryz.ntmps71
    have HB1:Hid (Below w.heap.size w w):=Below.refl _ _
    obtain ⟨w1,hw1⟩: ∃x:World,x=w:=⟨_,rfl⟩;go_wp2_with fail
    refine (HIT.out _ (Below.refl _ _)).mono ?_;rintro e w2 ⟨rfl,hb2⟩;have HB2:=ah hb2
    clear hb2;go_wp2;go_ret;refine ⟨?_,HB2.out⟩;rw [iW.out]
    exact ab8 (fun q=>Ending.returned (Value.string q)) (by apply adW;simp [Num.sg])
   have hd:decide ((x:Int) - 1023<0)=false:=abX (by omega)
   have vV:(1023:Int)<=x:=by omega
   obtain ⟨r,hr⟩: ∃r,Lib.itoa ((x:Int) - 1023)=r:=⟨_,rfl⟩
   have hrl:r.length<=5:=by rw [<-hr];exact qB (by omega) (by omega)
   have hfin:Num.form 0 ((x:Int) - 1023)= [48,120,49] ++([] ++(112 :: r)):=by
    unfold Num.form Num.fU;rw [ab6 (by omega),hr]
    rfl
   have iW:=ah hfin
   have HIT:=ah (fun (W:World) (hb:Below w.heap.size w W)=>hr▸uf ((x:Int) - 1023) W (by omega) (by omega) (jC.out.below hb))
   clear hr hfin hneg;go_enter Tryz.func71,Tryz.ntmps71
   have HB1:Hid (Below w.heap.size w w):=Below.refl _ _
   obtain ⟨w1,hw1⟩: ∃x:World,x=w:=⟨_,rfl⟩;go_wp2_with fail
   refine (HIT.out _ (Below.refl _ _)).mono ?_;rintro e w2 ⟨rfl,hb2⟩;have HB2:=ah hb2
   clear hb2;go_wp2;go_ret;refine ⟨?_,HB2.out⟩;rw [iW.out]
   exact ab8 (fun q=>Ending.returned (Value.string q)) (by apply adW;simp [Num.sg])
  have oI:=ah (Ig hf0);have t4:((f:Int) !=0)=true:=by rw [acV];omega
  have hor:=or_one f hfb;have pI:=MB hfb;obtain ⟨F,hF⟩: ∃F,f+4503599627370496=F:=⟨_,rfl⟩
  rw [hF] at hor pI
  have sD:=ah (fun (W:World) (hb:Below w.heap.size w W)=>pI▸Me F W (jC.out.below hb) (by omega) (by omega))
  obtain ⟨iY,h13⟩: ∃h,Num.hexN 13 f=h:=⟨_,rfl⟩
  have lK:iY.length=13:=by rw [<-h13];exact Num.vw 13 f
  obtain ⟨pJ,lM⟩: ∃z:ByteArray,(⟨(49 :: iY).toArray⟩:ByteArray)=z:=⟨_,rfl⟩
  have vW:pJ.size=14:=by rw [<-lM,bf];simp [lK]
  have hzd:pJ.data.toList=49 :: iY:=by rw [<-lM]
  have HZD:=ah hzd;rw [h13,lM] at sD;have qN:=ah lK;have lN:=ah vW
  have hz1:(1:Int)<=pJ.size:=by omega
  obtain ⟨tl,htl⟩: ∃t,Lib.trimRightS (Num.hexN 13 f) [48]=t:=⟨_,rfl⟩
  have Jm:tl.length<=13:=by rw [<-htl];exact Ih f
  have mP:=ah (fun (z:ByteArray) (hz:z.data.toList=Num.hexN 13 f) (W:World)=>MC z f tl hz htl W)
  rw [h13] at mP;rw [htl] at oI;clear htl hf0 hF pI h13 lK lM vW hzd;by_cases hneg:x<1023
  ·have hd:decide ((x:Int) - 1023<0)=true:=abW (by omega)
   have vV:(x:Int)<1023:=by omega
   obtain ⟨r,hr⟩: ∃r,Lib.itoa (-((x:Int) - 1023))=r:=⟨_,rfl⟩
   have hrl:r.length<=5:=by rw [<-hr];exact qB (by omega) (by omega)
   have hfin:Num.form f ((x:Int) - 1023)= [48,120,49] ++(46 :: tl ++(109 :: r)):=by
    unfold Num.form Num.fU;rw [ab7 (by omega),hr,oI.out]
    skip
   have iW:=ah hfin
   have HIT:=ah (fun (W:World) (hb:Below w.heap.size w W)=>hr▸uf (-((x:Int) - 1023)) W (by omega) (by omega) (jC.out.below hb))
   clear hr hfin hneg;go_enter Tryz.func71,Tryz.ntmps71;go_wp2_with fail
   refine (sD.out _ (Below.refl _ _)).mono ?_;rintro e w1 ⟨rfl,hb1⟩;have HB1:=ah hb1
   clear hb1;go_wp2_with fail
   refine (mP.out _ (by rw [Lib.extract_data,lN.out,HZD.out];simp;exact acg (by rw [qN.out];exact ab1 _)) w1).mono ?_
   rintro e w1' ⟨rfl,rfl⟩;go_wp2_with fail;refine (HIT.out _ HB1.out).mono ?_
   rintro e w2 ⟨rfl,hb2⟩;have HB2:=ah hb2;clear hb2;go_wp2;go_ret
   refine ⟨?_,HB1.out.trans (HB2.out.mono HB1.out.size)⟩;rw [iW.out]
   exact ab8 (fun q=>Ending.returned (Value.string q)) (by apply adW;simp [Num.sg])
  have hd:decide ((x:Int) - 1023<0)=false:=abX (by omega)
  have vV:(1023:Int)<=x:=by omega
  obtain ⟨r,hr⟩: ∃r,Lib.itoa ((x:Int) - 1023)=r:=⟨_,rfl⟩
  have hrl:r.length<=5:=by rw [<-hr];exact qB (by omega) (by omega)
  have hfin:Num.form f ((x:Int) - 1023)= [48,120,49] ++(46 :: tl ++(112 :: r)):=by
   unfold Num.form Num.fU;rw [ab6 (by omega),hr,oI.out]
   skip
  have iW:=ah hfin
  have HIT:=ah (fun (W:World) (hb:Below w.heap.size w W)=>hr▸uf ((x:Int) - 1023) W (by omega) (by omega) (jC.out.below hb))
  clear hr hfin hneg;go_enter Tryz.func71,Tryz.ntmps71;go_wp2_with fail
  refine (sD.out _ (Below.refl _ _)).mono ?_;rintro e w1 ⟨rfl,hb1⟩;have HB1:=ah hb1
  clear hb1;go_wp2_with fail
  refine (mP.out _ (by rw [Lib.extract_data,lN.out,HZD.out];simp;exact acg (by rw [qN.out];exact ab1 _)) w1).mono ?_
  rintro e w1' ⟨rfl,rfl⟩;go_wp2_with fail;refine (HIT.out _ HB1.out).mono ?_
  rintro e w2 ⟨rfl,hb2⟩;have HB2:=ah hb2;clear hb2;go_wp2;go_ret
  refine ⟨?_,HB1.out.trans (HB2.out.mono HB1.out.size)⟩;rw [iW.out]
  exact ab8 (fun q=>Ending.returned (Value.string q)) (by apply adW;simp [Num.sg])
 rw [ab6 hs] at h1;rw [abX hs];by_cases fB:9218868437227405312<a
 ·rw [ab7 fB]
  have t1:((x:Int) == 2047)=true:=by rw [adp];omega
  have t2:((f:Int) !=0)=true:=by rw [acV];omega
  clear hx qM ha fB hs;go_enter Tryz.func71,Tryz.ntmps71;go_wp2;go_ret
  exact ⟨rfl,Below.refl _ _⟩
 rw [ab6 fB];by_cases dK:a=9218868437227405312
 ·have e1:Num.eu a=Num.xu:=by unfold Num.eu;rw [ab7 dK]
  rw [e1];have t1:((x:Int) == 2047)=true:=by rw [adp];omega
  have t2:((f:Int) !=0)=false:=by rw [aeo];omega
  clear hx qM ha fB hs dK e1;go_enter Tryz.func71,Tryz.ntmps71;go_wp2;go_ret
  exact ⟨rfl,Below.refl _ _⟩
 have t1:((x:Int) == 2047)=false:=by rw [ab3];omega
 by_cases h0:a=0
 ·have e1:Num.eu a=Num.ZERO:=by unfold Num.eu;rw [ab6 dK,ab7 h0]
  rw [e1];have t2:((x:Int) == 0)=true:=by rw [adp];omega
  have t3:((f:Int) == 0)=true:=by rw [adp];omega
  clear hx qM ha fB hs dK h0 e1;go_enter Tryz.func71,Tryz.ntmps71;go_wp2;go_ret
  exact ⟨rfl,Below.refl _ _⟩
 have e1:Num.eu a=Num.form (Num.gG a) (Num.fV a):=by unfold Num.eu;rw [ab6 dK,ab6 h0]
 rw [e1];clear e1;by_cases hx0:x=0
 ·have DI:a=f:=by omega
  obtain ⟨u1,u2,u3,u4⟩:=Num.LU h0 (by omega)
  have en:Num.fV a= -1022 -(Num.up a:Int):=by unfold Num.fV;rw [ab7 (by omega)]
  have fn:Num.gG a=a*2 ^ Num.up a - 4503599627370496:=by unfold Num.gG;rw [ab7 (by omega)]
  have hbl:Lib.bitLen f+Num.up a=53:=by have:=u1;unfold Num.up at this⊢;rw [DI] at this⊢;omega
  have hlz:=(Tryz.bits_LeadingZeros64 (f:Int) w (by omega) (by omega)).mono fun e w' (h:_/\w'=w)=>(⟨h.1,h.2.symm⟩:_/\w=w')
  rw [am7,show (64:Int) -(Lib.bitLen f:Int)=(Num.up a:Int)+11 by omega] at hlz
  rw [en,fn];obtain ⟨U,hU⟩: ∃U,Num.up a=U:=⟨_,rfl⟩;rw [hU] at u1 u2 u3 u4 hlz⊢
  obtain ⟨G,hG⟩: ∃G,a*2 ^ U=G:=⟨_,rfl⟩;rw [hG] at u3 u4⊢
  have t2:((x:Int) == 0)=true:=by rw [adp];omega
  have t3:((f:Int) == 0)=false:=by rw [ab3];omega
  have hU1:(1:Int)<=U:=by omega
  have hU2:(U:Int)<=52:=by omega
  obtain ⟨g,hg⟩: ∃g,G - 4503599627370496=g:=⟨_,rfl⟩;have hgb:g<4503599627370496:=by omega
  have hsh:IntKind.u64.wrap ((f:Int)*2 ^ U)=(G:Int):=by
   rw [show (f:Int)*2 ^ U=(G:Int) by rw [<-hG,DI];simp,IntKind.wrap_u64]
   omega
  have hmk:bits BinOp.and IntKind.u64 (G:Int) 4503599627370495=(g:Int):=by
   rw [Qr G (by omega)]
   omega
  rw [hg,show -1022 -(U:Int)=1 -(U:Int) - 1023 by omega]
  have Jl:=ah hlz;clear hlz hG DI hbl en fn hU hx qM ha fB hs dK h0 hx0 hg u3 u4
  by_cases hf0:g=0
  ·subst hf0
   have hd:decide (1 -(U:Int) - 1023<0)=true:=abW (by omega)
   have vV:(1:Int)<=U:=by omega
   obtain ⟨r,hr⟩: ∃r,Lib.itoa (-(1 -(U:Int) - 1023))=r:=⟨_,rfl⟩
   have hrl:r.length<=5:=by rw [<-hr];exact qB (by omega) (by omega)
   have hfin:Num.form 0 (1 -(U:Int) - 1023)= [48,120,49] ++([] ++(109 :: r)):=by
    unfold Num.form Num.fU;rw [ab7 (by omega),hr]
    rfl
   have iW:=ah hfin
   have HIT:=ah (fun (W:World) (hb:Below w.heap.size w W)=>hr▸uf (-(1 -(U:Int) - 1023)) W (by omega) (by omega) (jC.out.below hb))
   clear hr hfin;go_enter Tryz.func71,Tryz.ntmps71;go_wp2_with fail;refine Jl.out.mono ?_
   rintro e w' ⟨rfl,rfl⟩;have HB1:Hid (Below w.heap.size w w):=Below.refl _ _
   obtain ⟨w1,hw1⟩: ∃x:World,x=w:=⟨_,rfl⟩;go_wp2_with fail
   refine (HIT.out _ (Below.refl _ _)).mono ?_;rintro e w2 ⟨rfl,hb2⟩;have HB2:=ah hb2
   clear hb2;go_wp2;go_ret;refine ⟨?_,HB2.out⟩;rw [iW.out]
   exact ab8 (fun q=>Ending.returned (Value.string q)) (by apply adW;simp [Num.sg])
  have oI:=ah (Ig hf0);have t4:((g:Int) !=0)=true:=by rw [acV];omega
  have hor:=or_one g hgb;have pI:=MB hgb;obtain ⟨F,hF⟩: ∃F,g+4503599627370496=F:=⟨_,rfl⟩
  rw [hF] at hor pI
  have sD:=ah (fun (W:World) (hb:Below w.heap.size w W)=>pI▸Me F W (jC.out.below hb) (by omega) (by omega))
  obtain ⟨iY,h13⟩: ∃h,Num.hexN 13 g=h:=⟨_,rfl⟩
  have lK:iY.length=13:=by rw [<-h13];exact Num.vw 13 f
  obtain ⟨pJ,lM⟩: ∃z:ByteArray,(⟨(49 :: iY).toArray⟩:ByteArray)=z:=⟨_,rfl⟩
  have vW:pJ.size=14:=by rw [<-lM,bf];simp [lK]
  have hzd:pJ.data.toList=49 :: iY:=by rw [<-lM]
  have HZD:=ah hzd;rw [h13,lM] at sD;have qN:=ah lK;have lN:=ah vW
  have hz1:(1:Int)<=pJ.size:=by omega
  obtain ⟨tl,htl⟩: ∃t,Lib.trimRightS (Num.hexN 13 g) [48]=t:=⟨_,rfl⟩
  have Jm:tl.length<=13:=by rw [<-htl];exact Ih g
  have mP:=ah (fun (z:ByteArray) (hz:z.data.toList=Num.hexN 13 g) (W:World)=>MC z g tl hz htl W)
  rw [h13] at mP;rw [htl] at oI;clear htl hf0 hF pI h13 lK lM vW hzd
  have hd:decide (1 -(U:Int) - 1023<0)=true:=abW (by omega)
  have vV:(1:Int)<=U:=by omega
  obtain ⟨r,hr⟩: ∃r,Lib.itoa (-(1 -(U:Int) - 1023))=r:=⟨_,rfl⟩
  have hrl:r.length<=5:=by rw [<-hr];exact qB (by omega) (by omega)
  have hfin:Num.form g (1 -(U:Int) - 1023)= [48,120,49] ++(46 :: tl ++(109 :: r)):=by
   unfold Num.form Num.fU;rw [ab7 (by omega),hr,oI.out]
   skip
  have iW:=ah hfin
  have HIT:=ah (fun (W:World) (hb:Below w.heap.size w W)=>hr▸uf (-(1 -(U:Int) - 1023)) W (by omega) (by omega) (jC.out.below hb))
  clear hr hfin;go_enter Tryz.func71,Tryz.ntmps71;go_wp2_with fail;refine Jl.out.mono ?_
  rintro e w' ⟨rfl,rfl⟩;go_wp2_with fail;refine (sD.out _ (Below.refl _ _)).mono ?_
  rintro e w1 ⟨rfl,hb1⟩;have HB1:=ah hb1;clear hb1;go_wp2_with fail
  refine (mP.out _ (by rw [Lib.extract_data,lN.out,HZD.out];simp;exact acg (by rw [qN.out];exact ab1 _)) w1).mono ?_
  rintro e w1' ⟨rfl,rfl⟩;go_wp2_with fail;refine (HIT.out _ HB1.out).mono ?_
  rintro e w2 ⟨rfl,hb2⟩;have HB2:=ah hb2;clear hb2;go_wp2;go_ret
  refine ⟨?_,HB1.out.trans (HB2.out.mono HB1.out.size)⟩;rw [iW.out]
  exact ab8 (fun q=>Ending.returned (Value.string q)) (by apply adW;simp [Num.sg])
 have t2:((x:Int) == 0)=false:=by rw [ab3];omega
 have en:Num.fV a=(x:Int) - 1023:=by unfold Num.fV;rw [ab6 (by omega),hx]
 have fn:Num.gG a=f:=by unfold Num.gG;rw [ab6 (by omega),qM]
 rw [en,fn];clear en fn hx qM ha fB hs dK h0;have hx1:(1:Int)<=x:=by omega
 clear hx0;by_cases hf0:f=0
 ·subst hf0
  by_cases hneg:x<1023
  ·have hd:decide ((x:Int) - 1023<0)=true:=abW (by omega)
   have vV:(x:Int)<1023:=by omega
   obtain ⟨r,hr⟩: ∃r,Lib.itoa (-((x:Int) - 1023))=r:=⟨_,rfl⟩
   have hrl:r.length<=5:=by rw [<-hr];exact qB (by omega) (by omega)
   have hfin:Num.form 0 ((x:Int) - 1023)= [48,120,49] ++([] ++(109 :: r)):=by
    unfold Num.form Num.fU;rw [ab7 (by omega),hr]
    rfl
   have iW:=ah hfin
   have HIT:=ah (fun (W:World) (hb:Below w.heap.size w W)=>hr▸uf (-((x:Int) - 1023)) W (by omega) (by omega) (jC.out.below hb))
   clear hr hfin hneg;go_enter Tryz.func71,Tryz.ntmps71
   have HB1:Hid (Below w.heap.size w w):=Below.refl _ _
   obtain ⟨w1,hw1⟩: ∃x:World,x=w:=⟨_,rfl⟩;go_wp2_with fail
   refine (HIT.out _ (Below.refl _ _)).mono ?_;rintro e w2 ⟨rfl,hb2⟩;have HB2:=ah hb2
   clear hb2;go_wp2;go_ret;refine ⟨?_,HB2.out⟩;rw [iW.out]
   exact ab8 (fun q=>Ending.returned (Value.string q)) (by apply adW;simp [Num.sg])
  have hd:decide ((x:Int) - 1023<0)=false:=abX (by omega)
  have vV:(1023:Int)<=x:=by omega
  obtain ⟨r,hr⟩: ∃r,Lib.itoa ((x:Int) - 1023)=r:=⟨_,rfl⟩
  have hrl:r.length<=5:=by rw [<-hr];exact qB (by omega) (by omega)
  have hfin:Num.form 0 ((x:Int) - 1023)= [48,120,49] ++([] ++(112 :: r)):=by
   unfold Num.form Num.fU;rw [ab6 (by omega),hr]
   rfl
  have iW:=ah hfin
  have HIT:=ah (fun (W:World) (hb:Below w.heap.size w W)=>hr▸uf ((x:Int) - 1023) W (by omega) (by omega) (jC.out.below hb))
  clear hr hfin hneg;go_enter Tryz.func71,Tryz.ntmps71
  have HB1:Hid (Below w.heap.size w w):=Below.refl _ _
  obtain ⟨w1,hw1⟩: ∃x:World,x=w:=⟨_,rfl⟩;go_wp2_with fail
  refine (HIT.out _ (Below.refl _ _)).mono ?_;rintro e w2 ⟨rfl,hb2⟩;have HB2:=ah hb2
  clear hb2;go_wp2;go_ret;refine ⟨?_,HB2.out⟩;rw [iW.out]
  exact ab8 (fun q=>Ending.returned (Value.string q)) (by apply adW;simp [Num.sg])
 have oI:=ah (Ig hf0);have t4:((f:Int) !=0)=true:=by rw [acV];omega
 have hor:=or_one f hfb;have pI:=MB hfb;obtain ⟨F,hF⟩: ∃F,f+4503599627370496=F:=⟨_,rfl⟩
 rw [hF] at hor pI
 have sD:=ah (fun (W:World) (hb:Below w.heap.size w W)=>pI▸Me F W (jC.out.below hb) (by omega) (by omega))
 obtain ⟨iY,h13⟩: ∃h,Num.hexN 13 f=h:=⟨_,rfl⟩
 have lK:iY.length=13:=by rw [<-h13];exact Num.vw 13 f
 obtain ⟨pJ,lM⟩: ∃z:ByteArray,(⟨(49 :: iY).toArray⟩:ByteArray)=z:=⟨_,rfl⟩
 have vW:pJ.size=14:=by rw [<-lM,bf];simp [lK]
 have hzd:pJ.data.toList=49 :: iY:=by rw [<-lM]
 have HZD:=ah hzd;rw [h13,lM] at sD;have qN:=ah lK;have lN:=ah vW
 have hz1:(1:Int)<=pJ.size:=by omega
 obtain ⟨tl,htl⟩: ∃t,Lib.trimRightS (Num.hexN 13 f) [48]=t:=⟨_,rfl⟩
 have Jm:tl.length<=13:=by rw [<-htl];exact Ih f
 have mP:=ah (fun (z:ByteArray) (hz:z.data.toList=Num.hexN 13 f) (W:World)=>MC z f tl hz htl W)
 rw [h13] at mP;rw [htl] at oI;clear htl hf0 hF pI h13 lK lM vW hzd;by_cases hneg:x<1023
 ·have hd:decide ((x:Int) - 1023<0)=true:=abW (by omega)
  have vV:(x:Int)<1023:=by omega
  obtain ⟨r,hr⟩: ∃r,Lib.itoa (-((x:Int) - 1023))=r:=⟨_,rfl⟩
  have hrl:r.length<=5:=by rw [<-hr];exact qB (by omega) (by omega)
  have hfin:Num.form f ((x:Int) - 1023)= [48,120,49] ++(46 :: tl ++(109 :: r)):=by
   unfold Num.form Num.fU;rw [ab7 (by omega),hr,oI.out]
   skip
  have iW:=ah hfin
  have HIT:=ah (fun (W:World) (hb:Below w.heap.size w W)=>hr▸uf (-((x:Int) - 1023)) W (by omega) (by omega) (jC.out.below hb))
  clear hr hfin hneg;go_enter Tryz.func71,Tryz.ntmps71;go_wp2_with fail
  refine (sD.out _ (Below.refl _ _)).mono ?_;rintro e w1 ⟨rfl,hb1⟩;have HB1:=ah hb1
  clear hb1;go_wp2_with fail
  refine (mP.out _ (by rw [Lib.extract_data,lN.out,HZD.out];simp;exact acg (by rw [qN.out];exact ab1 _)) w1).mono ?_
  rintro e w1' ⟨rfl,rfl⟩;go_wp2_with fail;refine (HIT.out _ HB1.out).mono ?_
  rintro e w2 ⟨rfl,hb2⟩;have HB2:=ah hb2;clear hb2;go_wp2;go_ret
  refine ⟨?_,HB1.out.trans (HB2.out.mono HB1.out.size)⟩;rw [iW.out]
  exact ab8 (fun q=>Ending.returned (Value.string q)) (by apply adW;simp [Num.sg])
 have hd:decide ((x:Int) - 1023<0)=false:=abX (by omega)
 have vV:(1023:Int)<=x:=by omega
 obtain ⟨r,hr⟩: ∃r,Lib.itoa ((x:Int) - 1023)=r:=⟨_,rfl⟩
 have hrl:r.length<=5:=by rw [<-hr];exact qB (by omega) (by omega)
 have hfin:Num.form f ((x:Int) - 1023)= [48,120,49] ++(46 :: tl ++(112 :: r)):=by
  unfold Num.form Num.fU;rw [ab6 (by omega),hr,oI.out]
  skip
 have iW:=ah hfin
 have HIT:=ah (fun (W:World) (hb:Below w.heap.size w W)=>hr▸uf ((x:Int) - 1023) W (by omega) (by omega) (jC.out.below hb))
 clear hr hfin hneg;go_enter Tryz.func71,Tryz.ntmps71;go_wp2_with fail
 refine (sD.out _ (Below.refl _ _)).mono ?_;rintro e w1 ⟨rfl,hb1⟩;have HB1:=ah hb1
 clear hb1;go_wp2_with fail
 refine (mP.out _ (by rw [Lib.extract_data,lN.out,HZD.out];simp;exact acg (by rw [qN.out];exact ab1 _)) w1).mono ?_
 rintro e w1' ⟨rfl,rfl⟩;go_wp2_with fail;refine (HIT.out _ HB1.out).mono ?_
 rintro e w2 ⟨rfl,hb2⟩;have HB2:=ah hb2;clear hb2;go_wp2;go_ret
 refine ⟨?_,HB1.out.trans (HB2.out.mono HB1.out.size)⟩;rw [iW.out]
 exact ab8 (fun q=>Ending.returned (Value.string q)) (by apply adW;simp [Num.sg])
theorem afI: ∀c:Fin 256,Lib.indexByte [48,49,50,51,52,53,54,55,56,57,97,98,99,100,101,102] (UInt8.ofNat c.val)=match Num.gB (UInt8.ofNat c.val) with | some d=>(d:Int) | none=> -1:=by decide+kernel
theorem afJ (c:UInt8):Lib.indexByte [48,49,50,51,52,53,54,55,56,57,97,98,99,100,101,102] c=match Num.gB c with | some d=>(d:Int) | none=> -1:=by
 have:=afI ⟨c.toNat,aeE c⟩
 simpa using this
theorem afK (n d:Nat) (hn:n<1152921504606846976) (hd:d<16):bits BinOp.or IntKind.u64 ((n:Int)*16) (d:Int)=((n*16+d:Nat):Int):=by
 rw [show (n:Int)*16=((n*16:Nat):Int) by omega,bits_or_u64_nat _ _ (by omega) (by omega)]
 congr 1
 have h:=alR (i:=4) (b:=d) hd n;rw [ald,show (16:Nat)=2 ^ 4 from rfl,<-h]
theorem MF (c:UInt8) (h:List UInt8):Num.kP (c :: h)=if c≠46\/h= []\/13<h.length\/h.getLast?=some 48 then none else (Num.hexVal h 0).map (· *16 ^(13 - h.length)):=rfl
def afL (r:Option Nat) (w:World) (e:Ending) (w':World):Prop:=e= .returned (.tuple #[.int .u64 (r.getD 0:Nat), .bool r.isSome])/\w=w'
theorem afM {t:List UInt8} {k n:Nat} {c:UInt8} (h:Num.hexVal (t.take k) 0=some n) (hc:t[k]?=some c):Num.hexVal (t.take (k+1)) 0=(Num.gB c).map (n*16+ ·):=by
 obtain ⟨hk,e⟩:=acy.1 hc;rw [aer hk,Num.Hu,h,e];simp only [amS,Num.hexVal]
 cases Num.gB c<;> rfl
theorem Qs: ∀(t:List UInt8) (a n:Nat),Num.hexVal t a=some n->n<(a+1)*16 ^ t.length
 | [],a,n,h=>by simp [Num.hexVal] at h;subst h;simp
 | c :: r,a,n,h=>by
  simp only [Num.hexVal] at h;cases hc:Num.gB c with
  | none=>rw [hc] at h;cases h
  | some d=>
   rw [hc] at h;have h1:=Qs r _ n h;have hd:=Num.Dl hc
   have h2:(a*16+d+1)*16 ^ r.length<=((a+1)*16)*16 ^ r.length:=akh _ (by omega)
   rw [acd,ake,ald (16 ^ r.length) 16,<-alD];exact adf h1 h2
theorem Yc: ∀(t:List UInt8) (k a:Nat) (c:UInt8),t[k]?=some c->Num.gB c=none->Num.hexVal t a=none
 | [],k,a,c,h,_=>by simp at h
 | x :: r,0,a,c,h,hn=>by
  simp at h;subst h;simp only [Num.hexVal];rw [hn]
 | x :: r,k+1,a,c,h,hn=>by
  simp only [acB] at h;simp only [Num.hexVal];cases Num.gB x with
  | none=>rfl
  | some d=>exact Yc r k _ c h hn
theorem Yd (s:ByteArray) (w:World) (hs:s.size<=1073741824):
  Calls Tryz.prog 172 #[.string s] w (afL (Num.kP s.data.toList) w):=by
 obtain ⟨l,hl⟩: ∃l,s.data.toList=l:=⟨_,rfl⟩;rw [hl];cases l with
 | nil=>
  have h0:s.size=0:=by rw [Lib.size_eq,hl];rfl
  have hsn:s.toList.isEmpty=true:=by rw [Lib.toList_data,hl];rfl
  have hse:(s.toList == [])=true:=by rw [Lib.toList_data,hl];rfl
  clear hl h0;go_enter Tryz.func172,Tryz.ntmps172;go_wp2
  go_ret2
  exact ⟨rfl,rfl⟩
 | cons c t=>
  have hsz:s.size=t.length+1:=by rw [Lib.size_eq,hl];rfl
  have hpos:0<s.size:=by omega
  have hp1:(1:Int)<=s.size:=by omega
  have hp0:(0:Int)<s.size:=by omega
  have hsn:s.toList.isEmpty=false:=by rw [Lib.toList_data,hl];rfl
  have hse:(s.toList == [])=false:=by rw [Lib.toList_data,hl];rfl
  have h0:s[0]'hpos=c:=by
   have h1:=Lib.data_getElem? s 0 hpos;rw [hl] at h1
   simpa using h1.symm
  obtain ⟨z,hz⟩: ∃z,s.extract 1 s.size=z:=⟨_,rfl⟩
  have hzl:z.data.toList=t:=by
   rw [<-hz,Lib.extract_data,hl];simp;exact acg (by omega)
  have hzs:z.size=t.length:=by rw [Lib.size_eq,hzl]
  have hzb:z.size<=1073741824:=by omega
  have lN:=ah hzl;have lJ:=ah hzs;clear hl hsz;by_cases h46:c=46
  ·have t1:(((s[0]'hpos).toNat:Int) !=46)=false:=by rw [h0,h46];rfl
   cases t with
   | nil=>
    have hzn:z.toList.isEmpty=true:=by rw [Lib.toList_data,hzl];rfl
    have hze:(z.toList == [])=true:=by rw [Lib.toList_data,hzl];rfl
    have hr:Num.kP [c]=none:=by unfold Num.kP;simp
    rw [hr];clear h0 hzl hzs hr h46;go_enter Tryz.func172,Tryz.ntmps172;go_wp2
    go_ret2
    exact ⟨rfl,rfl⟩
   | cons x y=>
    have hzn:z.toList.isEmpty=false:=by rw [Lib.toList_data,hzl];rfl
    have hze:(z.toList == [])=false:=by rw [Lib.toList_data,hzl];rfl
    by_cases h13:13<(x :: y).length
    ·have hr:Num.kP (c :: x :: y)=none:=by
      rw [MF,ab7 (.inr (.inr (.inl h13)))]
     rw [hr];have t2:(13:Int)<z.size:=by omega
     clear h0 hzl hzs hr h46 h13;go_enter Tryz.func172,Tryz.ntmps172;go_wp2
     go_ret2
     exact ⟨rfl,rfl⟩
    obtain ⟨t,ht⟩: ∃t,x :: y=t:=⟨_,rfl⟩;rw [ht] at hzl hzs h13 lN lJ⊢
    have htn:t≠ []:=by rw [<-ht];simp
    have hzp:0<z.size:=by rw [hzs,<-ht];simp
    have anj:(1:Int)<=z.size:=by omega
    have t2:(z.size:Int)<=13:=by omega
    have hzm:z.size - 1<z.size:=by omega
    have hlast:t.getLast?=some (z[z.size - 1]'hzm):=by
     have h1:=Lib.data_getElem? z (z.size - 1) hzm;rw [hzl] at h1;rw [aoK,<-hzs,h1]
    have ez:((z.size:Int) - 1).toNat=z.size - 1:=by omega
    by_cases h48:(z[z.size - 1]'hzm)=48
    ·have hr:Num.kP (c :: t)=none:=by
      rw [MF,ab7 (.inr (.inr (.inr (by rw [hlast,h48]))))]
     rw [hr];have t3:(((z[z.size - 1]'hzm).toNat:Int) == 48)=true:=by rw [h48];rfl
     have EZ:=ah ez;clear h0 hzl hzs hr h46 h13 hlast h48 ht htn ez
     go_enter Tryz.func172,Tryz.ntmps172;go_wp2
     go_ret2
     exact ⟨rfl,rfl⟩
    have t3:(((z[z.size - 1]'hzm).toNat:Int) == 48)=false:=by
     rw [ab3];intro e;exact h48 (ad8.1 (by show (z[z.size - 1]'hzm).toNat=48;omega))
    have hr:Num.kP (c :: t)=(Num.hexVal t 0).map (· *16 ^(13 - t.length)):=by
     rw [MF,ab6];rintro (h | h | h | h)
     ·exact h h46
     ·exact htn h
     ·exact h13 h
     rw [hlast] at h;exact h48 (acE h)
    obtain ⟨R,hR⟩: ∃R,Num.kP (c :: t)=R:=⟨_,rfl⟩;rw [hR];rw [hR] at hr;have HR:=ah hr
    have hzg: ∀(k:Nat) (h:k<z.size),t[k]?=some (z[k]'h):=fun k h=>by rw [<-hzl];exact Lib.data_getElem? z k h
    have HZG:=ah hzg;clear h0 hzl hzs hr h46 h13 hlast h48 ht htn ez hR hzg
    go_enter Tryz.func172,Tryz.ntmps172;go_wp2;clear t3
    go_loopg [5,34] z.size (fun g a i wr=> ∃(k n:Nat),k+g=z.size/\i= .int .i64 k/\a= .int .u64 n/\Num.hexVal (t.take k) 0=some n/\w=wr)
    case atStart=>exact ⟨0,0,by omega,rfl,rfl,rfl,rfl⟩
    obtain ⟨k,n,hk,rfl,rfl,hv,rfl⟩:=hrel;have HK:=ah hk;have HV:=ah hv
    have hnl:=Qs _ _ _ hv;have htl:(t.take k).length<=k:=List.length_take_le _ _
    clear hk hv;cases gk with
    | zero=>
     have hkz:k=z.size:=by have:=HK.out;omega
     have hfin:Num.hexVal t 0=some n:=by
      have:=HV.out
      rwa [acg (by rw [hkz,lJ.out];exact ab1 _)] at this
     have hr:=HR.out;rw [hfin] at hr;have htz:t.length=z.size:=lJ.out.symm
     rw [aej,htz] at hr;obtain ⟨m,hm⟩: ∃m,z.size=m:=⟨_,rfl⟩
     have hnm:n<16 ^ m:=by
      have h1:=Qs _ _ _ hfin;rw [htz,hm] at h1;omega
     have hpw:16 ^ m*16 ^(13 - m)=4503599627370496:=by
      rw [<-amD,show m+(13 - m)=13 by omega]
     have hsh:IntKind.u64.wrap ((n:Int)*2 ^(52 - 4*m))=((n*16 ^(13 - m):Nat):Int):=by
      have e1:(2:Nat) ^(52 - 4*m)=16 ^(13 - m):=by rw [show 52 - 4*m=4*(13 - m) by omega,Nat.pow_mul]
      have e2:(n:Int)*2 ^(52 - 4*m)=((n*16 ^(13 - m):Nat):Int):=by rw [<-e1];simp
      have h3:n*16 ^(13 - m)<16 ^ m*16 ^(13 - m):=amy hnm (amq (by decide))
      rw [hpw] at h3;rw [e2,IntKind.wrap_u64];omega
     rw [hm] at hr;have HR2:=ah hr;have hkd:decide (k<z.size)=false:=abX (by omega)
     have em:(52 - 4*(z.size:Int)).toNat=52 - 4*m:=by omega
     have e0:(0:Int)<=52 - 4*(z.size:Int):=by omega
     have HM:=ah hm;clear hkz hfin hr htz hm hnm hpw;go_wp2
     go_ret2
     refine ⟨?_,rfl⟩;rw [HR2.out]
     have e9:((n*16 ^(13 - m):Nat):Int)=(n:Int)*16 ^(13 - m):=by simp
     show Ending.returned (.tuple #[.int .u64 ((n:Int)*16 ^(13 - m)), .bool true])= .returned (.tuple #[.int .u64 ((n*16 ^(13 - m):Nat):Int), .bool true])
     rw [e9]
    | succ g=>
     have hlt:k<z.size:=by have:=HK.out;omega
     have hlt':(k:Int)<z.size:=by omega
     obtain ⟨x,hx⟩: ∃x,z[k]'hlt=x:=⟨_,rfl⟩;have hget:=HZG.out k hlt;rw [hx] at hget
     have hix:=afJ x
     have hci:=Tryz.strings_IndexByte ⟨#[48,49,50,51,52,53,54,55,56,57,97,98,99,100,101,102]⟩ ((z[k]'hlt).toNat:Int) w
     have TU:((((z[k]'hlt).toNat:Int)).toNat.toUInt8)=x:=by rw [hx];simp
     rw [TU] at hci;cases hv:Num.gB x with
     | none=>
      rw [hv] at hix
      have Jo:Calls Tryz.prog 117 #[.string ⟨#[48,49,50,51,52,53,54,55,56,57,97,98,99,100,101,102]⟩, .int .u8 ((z[k]'hlt).toNat:Int)] w fun e w'=>e= .returned (.int .i64 (-1))/\w=w':=hci.mono fun e w' ⟨h1,h2⟩=>⟨by rw [h1];exact ab8 (fun q=>Ending.returned (Value.int .i64 q)) hix,h2.symm⟩
      have TV:=ah Jo;have hr:=HR.out;rw [Yc t k 0 x hget hv] at hr;rw [hr]
      clear hx hget hix hci TU hv Jo hr hnl htl;go_wp2_with fail;refine TV.out.mono ?_
      rintro e w' ⟨rfl,rfl⟩;go_wp2
      go_ret2
      exact ⟨rfl,rfl⟩
     | some d=>
      rw [hv] at hix;have hd:=Num.Dl hv
      have Jo:Calls Tryz.prog 117 #[.string ⟨#[48,49,50,51,52,53,54,55,56,57,97,98,99,100,101,102]⟩, .int .u8 ((z[k]'hlt).toNat:Int)] w fun e w'=>e= .returned (.int .i64 d)/\w=w':=hci.mono fun e w' ⟨h1,h2⟩=>⟨by rw [h1];exact ab8 (fun q=>Ending.returned (Value.int .i64 q)) hix,h2.symm⟩
      have TV:=ah Jo;have hnx:=afM HV.out hget;rw [hv,aej] at hnx;have iC:=ah hnx
      have aki:16 ^(t.take k).length<=16 ^ 12:=akF (by decide) (by omega)
      have e12:(16:Nat) ^ 12=281474976710656:=by decide
      have hnb:n<281474976710656:=by omega
      have hor:=afK n d (by omega) hd
      have hdi:(0:Int)<=d:=by omega
      have ank:(d:Int)<=15:=by omega
      have hni:(n:Int)<=281474976710656:=by omega
      clear hx hget hix hci TU hv Jo hnl htl hnx aki e12;go_wp2_with fail
      refine TV.out.mono ?_;rintro e w' ⟨rfl,rfl⟩;go_wp2
      go_roundg g
      case measure=>omega
      exact ⟨k+1,_,by have:=HK.out;omega,by go_num,rfl,iC.out,rfl⟩
  have t1:(((s[0]'hpos).toNat:Int) !=46)=true:=by
   rw [h0,acV];intro e;exact h46 (ad8.1 (by show c.toNat=46;omega))
  have hr:Num.kP (c :: t)=none:=by rw [MF,ab7 (.inl h46)]
  rw [hr];clear h0 hzl hzs hr h46;go_enter Tryz.func172,Tryz.ntmps172;go_wp2
  go_ret2
  exact ⟨rfl,rfl⟩
end Go.Proofs.YtoofbflplhbpbaaGreatDoor
