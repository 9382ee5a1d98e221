/- Contracts and plain laws,part 6. -/
import Derived.Test.YtkdakckjafomhaaGreatDoorUW05
set_option maxHeartbeats 64000000
set_option maxRecDepth 1000000
set_option linter.all false
namespace Go.Proofs.YtkdakckjafomhaaGreatDoor
open Go.RowKit
theorem ahr (b:Nat) (hb:b<18446744073709551616):bits BinOp.and IntKind.u64 (b:Int) 9223372036854775808=if 9223372036854775808<=b then 9223372036854775808 else 0:=by
 rw[show(9223372036854775808:Int)=((9223372036854775808:Nat):Int) from rfl,bits_and_u64_nat b _ hb (by omega)]
 have key:b &&& 9223372036854775808=if 9223372036854775808<=b then 9223372036854775808 else 0:=by
  apply Nat.eq_of_testBit_eq
  intro i;rw[Nat.testBit_and,show(9223372036854775808:Nat)=2 ^ 63 from rfl,aqr]
  by_cases hi:63=i
  ·subst hi
   rw[Nat.testBit_eq_decide_div_mod_eq];by_cases h:2 ^ 63<=b
   ·rw[adk h,aqr,adb (by omega)];rfl
   rw[ade h,ac5 (by omega)];simp
  rw[ac5 hi,Bool.and_false]
  split
  ·rw[aqr,ac5 hi]
  simp
 rw[key]
 split<;>rfl
theorem Ze (b:Nat) (hb:b<18446744073709551616):bits BinOp.and IntKind.u64 ((b:Int) / 4503599627370496) 2047=((b % 9223372036854775808 / 4503599627370496:Nat):Int):=by
 rw[show((b:Int) / 4503599627370496)=((b / 4503599627370496:Nat):Int) by omega,show(2047:Int)=((2047:Nat):Int) from rfl,bits_and_u64_nat _ _ (by omega) (by omega),show(2047:Nat)=2 ^ 11 - 1 from rfl,an3]
 omega
theorem Tz (b:Nat) (hb:b<18446744073709551616):bits BinOp.and IntKind.u64 (b:Int) 4503599627370495=((b % 9223372036854775808 % 4503599627370496:Nat):Int):=by
 rw[show(4503599627370495:Int)=((4503599627370495:Nat):Int) from rfl,bits_and_u64_nat _ _ hb (by omega),show(4503599627370495:Nat)=2 ^ 52 - 1 from rfl,an3]
 omega
theorem or_one (f:Nat) (hf:f<4503599627370496):bits BinOp.or IntKind.u64 (f:Int) 4503599627370496=((f+4503599627370496:Nat):Int):=by
 rw[show(4503599627370496:Int)=((4503599627370496:Nat):Int) from rfl,bits_or_u64_nat f _ (by omega) (by omega)]
 congr 1
 have h:=anJ (i:=52) (b:=f) hf 1;rw[Nat.or_comm]
 rw[show(4503599627370496:Nat)=2 ^ 52*1 from rfl,<-h]
 omega
theorem OQ {f:Nat} (hf:f<4503599627370496):Num.hexN 14 (f+4503599627370496)=49 :: Num.hexN 13 f:=by
 rw[Tv];have e:(16:Nat) ^ 13=4503599627370496:=by decide
 rw[e,show(f+4503599627370496) / 4503599627370496 % 16=1 by omega]
 have key: ∀(k q n:Nat),Num.hexN k (n+q*16 ^ k)=Num.hexN k n:=by
  intro k
  induction k with
  |zero=>intro q n;rfl
  |succ k ih=>
   intro q n;have e2:q*16 ^(k+1)=(q*16 ^ k)*16:=by rw[afk,afY]
   rw[Num.hexN,Num.hexN,e2,Nat.add_mul_div_right _ _ (by decide:0<16),Nat.add_mul_mod_self_right,ih]
 have h:=key 13 1 f;rw[e,aqQ]at h;rw[h];rfl
theorem JD {f:Nat} (h:f≠0):Num.lI f=46 :: Lib.trimRightS (Num.hexN 13 f) [48]:=by unfold Num.lI;rw[ade h]
theorem JE (f:Nat):(Lib.trimRightS (Num.hexN 13 f) [48]).length<=13:=by
 obtain⟨j,h1,_⟩:=Num.Ig _ (Num.hexN 13 f) rfl;have h2:=Num.uQ 13 f;rw[h1,adf]at h2
 omega
theorem OT (z:ByteArray) (f:Nat) (tl:List UInt8) (hz:z.data.toList=Num.hexN 13 f) (htl:Lib.trimRightS (Num.hexN 13 f) [48]=tl) (w:World):
  Calls Tryz.prog 203 #[.string z,.string ⟨#[48]⟩] w fun e w'=>e=.returned (.string ⟨tl.toArray⟩)/\w=w':=by
 have hs:z.size<=9223372036854775807:=by rw[Lib.size_eq,hz,Num.uQ];omega
 refine(Tryz.strings_TrimRight_one z 48 (by decide) w hs).mono fun e w' ⟨h1,h2⟩=>⟨?_,h2.symm⟩
 rw[h1,hz,<-Lib.trimRightS_one,htl]
theorem rW {n:Int} (h0: -2000<=n) (h1:n<=2000):(Lib.itoa n).length<=5:=by
 unfold Lib.itoa
 split
 ·rw[adQ,Num.zX]
  have:=CW 3 n.natAbs (by omega)
  omega
 rw[Num.zX];have:=CW 3 n.toNat (by omega)
 omega
theorem ahs (b:Nat) (w:World) (hb:b<18446744073709551616) (hL:Laid w):
  Calls Tryz.prog 158 #[.int .u64 b] w fun e w'=>e=.returned (.string ⟨(Num.fmt b).toArray⟩)/\Below w.heap.size w w':=by
 obtain⟨a,ha⟩:=aj (b % 9223372036854775808);have h1:=ahr b hb;have h2:=Ze b hb
 have h3:=Tz b hb
 have hf:Num.fmt b=if 9218868437227405312<a then Num.pO else Num.sg (decide (9223372036854775808<=b))++Num.dV a:=by unfold Num.fmt;rw[ha]
 rw[ha]at h2 h3;obtain⟨x,hx⟩:=aj (a / 4503599627370496)
 obtain⟨f,sH⟩:=aj (a % 4503599627370496);have hfb:f<4503599627370496:=by omega
 have hxb:x<=2047:=by omega
 have hfi:(f:Int)<=4503599627370495:=by omega
 have hxi:(x:Int)<=2047:=by omega
 have hbi:(b:Int)<=18446744073709551615:=by omega
 rw[hx]at h2;rw[sH]at h3;rw[hf];have lY:=ah hL;have HX:=ah hx;have HF:=ah sH
 clear hf hL;by_cases hs:9223372036854775808<=b
 ·rw[adk hs]at h1
  rw[adb hs];by_cases fE:9218868437227405312<a
  ·rw[adk fE]
   have t1:((x:Int) == 2047)=true:=by rw[aeI];omega
   have t2:((f:Int) !=0)=true:=by rw[adY];omega
   clear hx sH ha fE hs;go_enter Tryz.func158,Tryz.ntmps158;go_wp2;go_ret
   exact⟨rfl,Below.refl _ _⟩
  rw[ade fE];by_cases dM:a=9218868437227405312
  ·have e1:Num.dV a=Num.rU:=by unfold Num.dV;rw[adk dM]
   rw[e1];have t1:((x:Int) == 2047)=true:=by rw[aeI];omega
   have t2:((f:Int) !=0)=false:=by rw[afy];omega
   clear hx sH ha fE hs dM e1;go_enter Tryz.func158,Tryz.ntmps158;go_wp2;go_ret
   exact⟨rfl,Below.refl _ _⟩
  have t1:((x:Int) == 2047)=false:=by rw[adh];omega
  by_cases h0:a=0
  ·have e1:Num.dV a=Num.ZERO:=by unfold Num.dV;rw[ade dM,adk h0]
   rw[e1];have t2:((x:Int) == 0)=true:=by rw[aeI];omega
   have t3:((f:Int) == 0)=true:=by rw[aeI];omega
   clear hx sH ha fE hs dM h0 e1;go_enter Tryz.func158,Tryz.ntmps158;go_wp2;go_ret
   exact⟨rfl,Below.refl _ _⟩
  have e1:Num.dV a=Num.form (Num.gU a) (Num.gI a):=by unfold Num.dV;rw[ade dM,ade h0]
  rw[e1];clear e1;by_cases hx0:x=0
  ·have Fq:a=f:=by omega
   obtain⟨u1,u2,u3,u4⟩:=Num.Ou h0 (by omega)
   have en:Num.gI a= -1022 -(Num.up a:Int):=by unfold Num.gI;rw[adk (by omega)]
   have fn:Num.gU a=a*2 ^ Num.up a - 4503599627370496:=by unfold Num.gU;rw[adk (by omega)]
   have hbl:Lib.bitLen f+Num.up a=53:=by have:=u1;unfold Num.up at this⊢;rw[Fq]at this⊢;omega
   have hlz:=(Tryz.bits_LeadingZeros64 (f:Int) w (by omega) (by omega)).mono fun e w' (h:_/\w'=w)=>(⟨h.1,h.2.symm⟩:_/\w=w')
   rw[ao5,show(64:Int) -(Lib.bitLen f:Int)=(Num.up a:Int)+11 by omega]at hlz
   rw[en,fn];obtain⟨U,hU⟩:=aj (Num.up a);rw[hU]at u1 u2 u3 u4 hlz⊢
   obtain⟨G,hG⟩:=aj (a*2 ^ U);rw[hG]at u3 u4⊢
   have t2:((x:Int) == 0)=true:=by rw[aeI];omega
   have t3:((f:Int) == 0)=false:=by rw[adh];omega
   have hU1:(1:Int)<=U:=by omega
   have hU2:(U:Int)<=52:=by omega
   obtain⟨g,hg⟩:=aj (G - 4503599627370496);have hgb:g<4503599627370496:=by omega
   have hsh:IntKind.u64.wrap ((f:Int)*2 ^ U)=(G:Int):=by
    rw[show(f:Int)*2 ^ U=(G:Int) by rw[<-hG,Fq];simp,IntKind.wrap_u64]
    omega
   have hmk:bits BinOp.and IntKind.u64 (G:Int) 4503599627370495=(g:Int):=by
    rw[Tz G (by omega)]
    omega
   rw[hg,show -1022 -(U:Int)=1 -(U:Int) - 1023 by omega]
   have Kw:=ah hlz;clear hlz hG Fq hbl en fn hU hx sH ha fE hs dM h0 hx0 hg u3 u4
   by_cases hf0:g=0
   ·subst hf0
    have hd:decide (1 -(U:Int) - 1023<0)=true:=adb (by omega)
    have oQ:(1:Int)<=U:=by omega
    obtain⟨r,hr⟩:=aj (Lib.itoa (-(1 -(U:Int) - 1023)))
    have hrl:r.length<=5:=by rw[<-hr];exact rW (by omega) (by omega)
    have hfin:Num.form 0 (1 -(U:Int) - 1023)=[48,120,49] ++([] ++(109 :: r)):=by
     unfold Num.form Num.fV;rw[adk (by omega),hr]
     rfl
    have iF:=ah hfin
    have HIT:=ah (fun(W:World) (hb:Below w.heap.size w W)=>hr▸uT (-(1 -(U:Int) - 1023)) W (by omega) (by omega) (lY.below hb))
    clear hr hfin;go_enter Tryz.func158,Tryz.ntmps158;go_wp2_with fail;refine Kw.mono ?_
    rintro e w' ⟨rfl,rfl⟩;have HB1:Hid (Below w.heap.size w w):=Below.refl _ _
    obtain⟨w1,hw1⟩: ∃x:World,x=w:=⟨_,rfl⟩;go_wp2_with fail
    refine(HIT.out _ (Below.refl _ _)).mono ?_;rintro e w2 ⟨rfl,hb2⟩;have HB2:=ah hb2
    clear hb2;go_wp2;go_ret;refine⟨?_,HB2.out⟩;rw[iF.out]
    exact aeH (fun q=>Ending.returned (Value.string q)) (by apply afJ;simp[Num.sg])
   have lZ:=ah (JD hf0);have t4:((g:Int) !=0)=true:=by rw[adY];omega
   have hor:=or_one g hgb;have qK:=OQ hgb;obtain⟨F,hF⟩:=aj (g+4503599627370496)
   rw[hF]at hor qK
   have uq:=ah (fun(W:World) (hb:Below w.heap.size w W)=>qK▸OO F W (lY.below hb) (by omega) (by omega))
   obtain⟨jh,h13⟩:=aj (Num.hexN 13 g)
   have mW:jh.length=13:=by rw[<-h13];exact Num.uQ 13 f
   obtain⟨qL,mX⟩:=aj (⟨(49 :: jh).toArray⟩:ByteArray)
   have xg:qL.size=14:=by rw[<-mX,gq];simp[mW]
   have hzd:qL.data.toList=49 :: jh:=by rw[<-mX]
   have HZD:=ah hzd;rw[h13,mX]at uq;have sJ:=ah mW;have uw:=ah xg
   have hz1:(1:Int)<=qL.size:=by omega
   obtain⟨tl,htl⟩:=aj (Lib.trimRightS (Num.hexN 13 g) [48])
   have Ky:tl.length<=13:=by rw[<-htl];exact JE g
   have qM:=ah (fun(z:ByteArray) (hz:z.data.toList=Num.hexN 13 g) (W:World)=>OT z g tl hz htl W)
   rw[h13]at qM;rw[htl]at lZ;clear htl hf0 hF qK h13 mW mX xg hzd
   have hd:decide (1 -(U:Int) - 1023<0)=true:=adb (by omega)
   have oQ:(1:Int)<=U:=by omega
   obtain⟨r,hr⟩:=aj (Lib.itoa (-(1 -(U:Int) - 1023)))
   have hrl:r.length<=5:=by rw[<-hr];exact rW (by omega) (by omega)
   have hfin:Num.form g (1 -(U:Int) - 1023)=[48,120,49] ++(46 :: tl ++(109 :: r)):=by
    unfold Num.form Num.fV;rw[adk (by omega),hr,lZ.out]
    skip
   have iF:=ah hfin
   have HIT:=ah (fun(W:World) (hb:Below w.heap.size w W)=>hr▸uT (-(1 -(U:Int) - 1023)) W (by omega) (by omega) (lY.below hb))
   clear hr hfin;go_enter Tryz.func158,Tryz.ntmps158;go_wp2_with fail;refine Kw.mono ?_
   rintro e w' ⟨rfl,rfl⟩;go_wp2_with fail;refine(uq.out _ (Below.refl _ _)).mono ?_
   rintro e w1 ⟨rfl,hb1⟩;have HB1:=ah hb1;clear hb1;go_wp2_with fail
   refine(qM.out _ (by rw[Lib.extract_data,uw.out,HZD.out];simp;exact ado (by rw[sJ.out];exact ac4 _)) w1).mono ?_
   rintro e w1' ⟨rfl,rfl⟩;go_wp2_with fail;refine(HIT.out _ HB1.out).mono ?_
   rintro e w2 ⟨rfl,hb2⟩;have HB2:=ah hb2;clear hb2;go_wp2;go_ret
   refine⟨?_,HB1.trans (HB2.mono HB1.size)⟩;rw[iF.out]
   exact aeH (fun q=>Ending.returned (Value.string q)) (by apply afJ;simp[Num.sg])
  have t2:((x:Int) == 0)=false:=by rw[adh];omega
  have en:Num.gI a=(x:Int) - 1023:=by unfold Num.gI;rw[ade (by omega),hx]
  have fn:Num.gU a=f:=by unfold Num.gU;rw[ade (by omega),sH]
  rw[en,fn];clear en fn hx sH ha fE hs dM h0;have hx1:(1:Int)<=x:=by omega
  clear hx0;by_cases hf0:f=0
  ·subst hf0
   by_cases hneg:x<1023
   ·have hd:decide ((x:Int) - 1023<0)=true:=adb (by omega)
    have oQ:(x:Int)<1023:=by omega
    obtain⟨r,hr⟩:=aj (Lib.itoa (-((x:Int) - 1023)))
    have hrl:r.length<=5:=by rw[<-hr];exact rW (by omega) (by omega)
    have hfin:Num.form 0 ((x:Int) - 1023)=[48,120,49] ++([] ++(109 :: r)):=by
     unfold Num.form Num.fV;rw[adk (by omega),hr]
     rfl
    have iF:=ah hfin
    have HIT:=ah (fun(W:World) (hb:Below w.heap.size w W)=>hr▸uT (-((x:Int) - 1023)) W (by omega) (by omega) (lY.below hb))
    clear hr hfin hneg;go_enter Tryz.func158,Tryz.ntmps158
    have HB1:Hid (Below w.heap.size w w):=Below.refl _ _
    obtain⟨w1,hw1⟩: ∃x:World,x=w:=⟨_,rfl⟩;go_wp2_with fail
    refine(HIT.out _ (Below.refl _ _)).mono ?_;rintro e w2 ⟨rfl,hb2⟩;have HB2:=ah hb2
    clear hb2;go_wp2;go_ret;refine⟨?_,HB2.out⟩;rw[iF.out]
    exact aeH (fun q=>Ending.returned (Value.string q)) (by apply afJ;simp[Num.sg])
   have hd:decide ((x:Int) - 1023<0)=false:=ac5 (by omega)
   have oQ:(1023:Int)<=x:=by omega
   obtain⟨r,hr⟩:=aj (Lib.itoa ((x:Int) - 1023))
   have hrl:r.length<=5:=by rw[<-hr];exact rW (by omega) (by omega)
   have hfin:Num.form 0 ((x:Int) - 1023)=[48,120,49] ++([] ++(112 :: r)):=by
    unfold Num.form Num.fV;rw[ade (by omega),hr]
    rfl
   have iF:=ah hfin
   have HIT:=ah (fun(W:World) (hb:Below w.heap.size w W)=>hr▸uT ((x:Int) - 1023) W (by omega) (by omega) (lY.below hb))
   clear hr hfin hneg;go_enter Tryz.func158,Tryz.ntmps158
   have HB1:Hid (Below w.heap.size w w):=Below.refl _ _
   obtain⟨w1,hw1⟩: ∃x:World,x=w:=⟨_,rfl⟩;go_wp2_with fail
   refine(HIT.out _ (Below.refl _ _)).mono ?_;rintro e w2 ⟨rfl,hb2⟩;have HB2:=ah hb2
   clear hb2;go_wp2;go_ret;refine⟨?_,HB2.out⟩;rw[iF.out]
   exact aeH (fun q=>Ending.returned (Value.string q)) (by apply afJ;simp[Num.sg])
  have lZ:=ah (JD hf0);have t4:((f:Int) !=0)=true:=by rw[adY];omega
  have hor:=or_one f hfb;have qK:=OQ hfb;obtain⟨F,hF⟩:=aj (f+4503599627370496)
  rw[hF]at hor qK
  have uq:=ah (fun(W:World) (hb:Below w.heap.size w W)=>qK▸OO F W (lY.below hb) (by omega) (by omega))
  obtain⟨jh,h13⟩:=aj (Num.hexN 13 f);have mW:jh.length=13:=by rw[<-h13];exact Num.uQ 13 f
  obtain⟨qL,mX⟩:=aj (⟨(49 :: jh).toArray⟩:ByteArray)
  have xg:qL.size=14:=by rw[<-mX,gq];simp[mW]
  have hzd:qL.data.toList=49 :: jh:=by rw[<-mX]
  have HZD:=ah hzd;rw[h13,mX]at uq;have sJ:=ah mW;have uw:=ah xg
  have hz1:(1:Int)<=qL.size:=by omega
  obtain⟨tl,htl⟩:=aj (Lib.trimRightS (Num.hexN 13 f) [48])
  have Ky:tl.length<=13:=by rw[<-htl];exact JE f
  have qM:=ah (fun(z:ByteArray) (hz:z.data.toList=Num.hexN 13 f) (W:World)=>OT z f tl hz htl W)
  rw[h13]at qM;rw[htl]at lZ;clear htl hf0 hF qK h13 mW mX xg hzd;by_cases hneg:x<1023
  ·have hd:decide ((x:Int) - 1023<0)=true:=adb (by omega)
   have oQ:(x:Int)<1023:=by omega
   obtain⟨r,hr⟩:=aj (Lib.itoa (-((x:Int) - 1023)))
   have hrl:r.length<=5:=by rw[<-hr];exact rW (by omega) (by omega)
   have hfin:Num.form f ((x:Int) - 1023)=[48,120,49] ++(46 :: tl ++(109 :: r)):=by
    unfold Num.form Num.fV;rw[adk (by omega),hr,lZ.out]
    skip
   have iF:=ah hfin
   have HIT:=ah (fun(W:World) (hb:Below w.heap.size w W)=>hr▸uT (-((x:Int) - 1023)) W (by omega) (by omega) (lY.below hb))
   clear hr hfin hneg;go_enter Tryz.func158,Tryz.ntmps158;go_wp2_with fail
   refine(uq.out _ (Below.refl _ _)).mono ?_;rintro e w1 ⟨rfl,hb1⟩;have HB1:=ah hb1
   clear hb1;go_wp2_with fail
   refine(qM.out _ (by rw[Lib.extract_data,uw.out,HZD.out];simp;exact ado (by rw[sJ.out];exact ac4 _)) w1).mono ?_
   rintro e w1' ⟨rfl,rfl⟩;go_wp2_with fail;refine(HIT.out _ HB1.out).mono ?_
   rintro e w2 ⟨rfl,hb2⟩;have HB2:=ah hb2;clear hb2;go_wp2;go_ret
   refine⟨?_,HB1.trans (HB2.mono HB1.size)⟩;rw[iF.out]
   exact aeH (fun q=>Ending.returned (Value.string q)) (by apply afJ;simp[Num.sg])
  have hd:decide ((x:Int) - 1023<0)=false:=ac5 (by omega)
  have oQ:(1023:Int)<=x:=by omega
  obtain⟨r,hr⟩:=aj (Lib.itoa ((x:Int) - 1023))
  have hrl:r.length<=5:=by rw[<-hr];exact rW (by omega) (by omega)
  have hfin:Num.form f ((x:Int) - 1023)=[48,120,49] ++(46 :: tl ++(112 :: r)):=by
   unfold Num.form Num.fV;rw[ade (by omega),hr,lZ.out]
   skip
  have iF:=ah hfin
  have HIT:=ah (fun(W:World) (hb:Below w.heap.size w W)=>hr▸uT ((x:Int) - 1023) W (by omega) (by omega) (lY.below hb))
  clear hr hfin hneg;go_enter Tryz.func158,Tryz.ntmps158;go_wp2_with fail
  refine(uq.out _ (Below.refl _ _)).mono ?_;rintro e w1 ⟨rfl,hb1⟩;have HB1:=ah hb1
  clear hb1;go_wp2_with fail
  refine(qM.out _ (by rw[Lib.extract_data,uw.out,HZD.out];simp;exact ado (by rw[sJ.out];exact ac4 _)) w1).mono ?_
  rintro e w1' ⟨rfl,rfl⟩;go_wp2_with fail;refine(HIT.out _ HB1.out).mono ?_
  rintro e w2 ⟨rfl,hb2⟩;have HB2:=ah hb2;clear hb2;go_wp2;go_ret
  refine⟨?_,HB1.trans (HB2.mono HB1.size)⟩;rw[iF.out]
  exact aeH (fun q=>Ending.returned (Value.string q)) (by apply afJ;simp[Num.sg])
 rw[ade hs]at h1;rw[ac5 hs];by_cases fE:9218868437227405312<a
 ·rw[adk fE]
  have t1:((x:Int) == 2047)=true:=by rw[aeI];omega
  have t2:((f:Int) !=0)=true:=by rw[adY];omega
  clear hx sH ha fE hs;go_enter Tryz.func158,Tryz.ntmps158;go_wp2;go_ret
  exact⟨rfl,Below.refl _ _⟩
 rw[ade fE];by_cases dM:a=9218868437227405312
 ·have e1:Num.dV a=Num.rU:=by unfold Num.dV;rw[adk dM]
  rw[e1];have t1:((x:Int) == 2047)=true:=by rw[aeI];omega
  have t2:((f:Int) !=0)=false:=by rw[afy];omega
  clear hx sH ha fE hs dM e1;go_enter Tryz.func158,Tryz.ntmps158;go_wp2;go_ret
  exact⟨rfl,Below.refl _ _⟩
 have t1:((x:Int) == 2047)=false:=by rw[adh];omega
 by_cases h0:a=0
 ·have e1:Num.dV a=Num.ZERO:=by unfold Num.dV;rw[ade dM,adk h0]
  rw[e1];have t2:((x:Int) == 0)=true:=by rw[aeI];omega
  have t3:((f:Int) == 0)=true:=by rw[aeI];omega
  clear hx sH ha fE hs dM h0 e1;go_enter Tryz.func158,Tryz.ntmps158;go_wp2;go_ret
  exact⟨rfl,Below.refl _ _⟩
 have e1:Num.dV a=Num.form (Num.gU a) (Num.gI a):=by unfold Num.dV;rw[ade dM,ade h0]
 rw[e1];clear e1;by_cases hx0:x=0
 ·have Fq:a=f:=by omega
  obtain⟨u1,u2,u3,u4⟩:=Num.Ou h0 (by omega)
  have en:Num.gI a= -1022 -(Num.up a:Int):=by unfold Num.gI;rw[adk (by omega)]
  have fn:Num.gU a=a*2 ^ Num.up a - 4503599627370496:=by unfold Num.gU;rw[adk (by omega)]
  have hbl:Lib.bitLen f+Num.up a=53:=by have:=u1;unfold Num.up at this⊢;rw[Fq]at this⊢;omega
  have hlz:=(Tryz.bits_LeadingZeros64 (f:Int) w (by omega) (by omega)).mono fun e w' (h:_/\w'=w)=>(⟨h.1,h.2.symm⟩:_/\w=w')
  rw[ao5,show(64:Int) -(Lib.bitLen f:Int)=(Num.up a:Int)+11 by omega]at hlz
  rw[en,fn];obtain⟨U,hU⟩:=aj (Num.up a);rw[hU]at u1 u2 u3 u4 hlz⊢
  obtain⟨G,hG⟩:=aj (a*2 ^ U);rw[hG]at u3 u4⊢
  have t2:((x:Int) == 0)=true:=by rw[aeI];omega
  have t3:((f:Int) == 0)=false:=by rw[adh];omega
  have hU1:(1:Int)<=U:=by omega
  have hU2:(U:Int)<=52:=by omega
  obtain⟨g,hg⟩:=aj (G - 4503599627370496);have hgb:g<4503599627370496:=by omega
  have hsh:IntKind.u64.wrap ((f:Int)*2 ^ U)=(G:Int):=by
   rw[show(f:Int)*2 ^ U=(G:Int) by rw[<-hG,Fq];simp,IntKind.wrap_u64]
   omega
  have hmk:bits BinOp.and IntKind.u64 (G:Int) 4503599627370495=(g:Int):=by
   rw[Tz G (by omega)]
   omega
  rw[hg,show -1022 -(U:Int)=1 -(U:Int) - 1023 by omega]
  have Kw:=ah hlz;clear hlz hG Fq hbl en fn hU hx sH ha fE hs dM h0 hx0 hg u3 u4
  by_cases hf0:g=0
  ·subst hf0
   have hd:decide (1 -(U:Int) - 1023<0)=true:=adb (by omega)
   have oQ:(1:Int)<=U:=by omega
   obtain⟨r,hr⟩:=aj (Lib.itoa (-(1 -(U:Int) - 1023)))
   have hrl:r.length<=5:=by rw[<-hr];exact rW (by omega) (by omega)
   have hfin:Num.form 0 (1 -(U:Int) - 1023)=[48,120,49] ++([] ++(109 :: r)):=by
    unfold Num.form Num.fV;rw[adk (by omega),hr]
    rfl
   have iF:=ah hfin
   have HIT:=ah (fun(W:World) (hb:Below w.heap.size w W)=>hr▸uT (-(1 -(U:Int) - 1023)) W (by omega) (by omega) (lY.below hb))
   clear hr hfin;go_enter Tryz.func158,Tryz.ntmps158;go_wp2_with fail;refine Kw.mono ?_
   rintro e w' ⟨rfl,rfl⟩;have HB1:Hid (Below w.heap.size w w):=Below.refl _ _
   obtain⟨w1,hw1⟩: ∃x:World,x=w:=⟨_,rfl⟩;go_wp2_with fail
   refine(HIT.out _ (Below.refl _ _)).mono ?_;rintro e w2 ⟨rfl,hb2⟩;have HB2:=ah hb2
   clear hb2;go_wp2;go_ret;refine⟨?_,HB2.out⟩;rw[iF.out]
   exact aeH (fun q=>Ending.returned (Value.string q)) (by apply afJ;simp[Num.sg])
  have lZ:=ah (JD hf0);have t4:((g:Int) !=0)=true:=by rw[adY];omega
  have hor:=or_one g hgb;have qK:=OQ hgb;obtain⟨F,hF⟩:=aj (g+4503599627370496)
  rw[hF]at hor qK
  have uq:=ah (fun(W:World) (hb:Below w.heap.size w W)=>qK▸OO F W (lY.below hb) (by omega) (by omega))
  obtain⟨jh,h13⟩:=aj (Num.hexN 13 g);have mW:jh.length=13:=by rw[<-h13];exact Num.uQ 13 f
  obtain⟨qL,mX⟩:=aj (⟨(49 :: jh).toArray⟩:ByteArray)
  have xg:qL.size=14:=by rw[<-mX,gq];simp[mW]
  have hzd:qL.data.toList=49 :: jh:=by rw[<-mX]
  have HZD:=ah hzd;rw[h13,mX]at uq;have sJ:=ah mW;have uw:=ah xg
  have hz1:(1:Int)<=qL.size:=by omega
  obtain⟨tl,htl⟩:=aj (Lib.trimRightS (Num.hexN 13 g) [48])
  have Ky:tl.length<=13:=by rw[<-htl];exact JE g
  have qM:=ah (fun(z:ByteArray) (hz:z.data.toList=Num.hexN 13 g) (W:World)=>OT z g tl hz htl W)
  rw[h13]at qM;rw[htl]at lZ;clear htl hf0 hF qK h13 mW mX xg hzd
  have hd:decide (1 -(U:Int) - 1023<0)=true:=adb (by omega)
  have oQ:(1:Int)<=U:=by omega
  obtain⟨r,hr⟩:=aj (Lib.itoa (-(1 -(U:Int) - 1023)))
  have hrl:r.length<=5:=by rw[<-hr];exact rW (by omega) (by omega)
  have hfin:Num.form g (1 -(U:Int) - 1023)=[48,120,49] ++(46 :: tl ++(109 :: r)):=by
   unfold Num.form Num.fV;rw[adk (by omega),hr,lZ.out]
   skip
  have iF:=ah hfin
  have HIT:=ah (fun(W:World) (hb:Below w.heap.size w W)=>hr▸uT (-(1 -(U:Int) - 1023)) W (by omega) (by omega) (lY.below hb))
  clear hr hfin;go_enter Tryz.func158,Tryz.ntmps158;go_wp2_with fail;refine Kw.mono ?_
  rintro e w' ⟨rfl,rfl⟩;go_wp2_with fail;refine(uq.out _ (Below.refl _ _)).mono ?_
  rintro e w1 ⟨rfl,hb1⟩;have HB1:=ah hb1;clear hb1;go_wp2_with fail
  refine(qM.out _ (by rw[Lib.extract_data,uw.out,HZD.out];simp;exact ado (by rw[sJ.out];exact ac4 _)) w1).mono ?_
  rintro e w1' ⟨rfl,rfl⟩;go_wp2_with fail;refine(HIT.out _ HB1.out).mono ?_
  rintro e w2 ⟨rfl,hb2⟩;have HB2:=ah hb2;clear hb2;go_wp2;go_ret
  refine⟨?_,HB1.trans (HB2.mono HB1.size)⟩;rw[iF.out]
  exact aeH (fun q=>Ending.returned (Value.string q)) (by apply afJ;simp[Num.sg])
 have t2:((x:Int) == 0)=false:=by rw[adh];omega
 have en:Num.gI a=(x:Int) - 1023:=by unfold Num.gI;rw[ade (by omega),hx]
 have fn:Num.gU a=f:=by unfold Num.gU;rw[ade (by omega),sH]
 rw[en,fn];clear en fn hx sH ha fE hs dM h0;have hx1:(1:Int)<=x:=by omega
 clear hx0;by_cases hf0:f=0
 ·subst hf0
  by_cases hneg:x<1023
  ·have hd:decide ((x:Int) - 1023<0)=true:=adb (by omega)
   have oQ:(x:Int)<1023:=by omega
   obtain⟨r,hr⟩:=aj (Lib.itoa (-((x:Int) - 1023)))
   have hrl:r.length<=5:=by rw[<-hr];exact rW (by omega) (by omega)
   have hfin:Num.form 0 ((x:Int) - 1023)=[48,120,49] ++([] ++(109 :: r)):=by
    unfold Num.form Num.fV;rw[adk (by omega),hr]
    rfl
   have iF:=ah hfin
   have HIT:=ah (fun(W:World) (hb:Below w.heap.size w W)=>hr▸uT (-((x:Int) - 1023)) W (by omega) (by omega) (lY.below hb))
   clear hr hfin hneg;go_enter Tryz.func158,Tryz.ntmps158
   have HB1:Hid (Below w.heap.size w w):=Below.refl _ _
   obtain⟨w1,hw1⟩: ∃x:World,x=w:=⟨_,rfl⟩;go_wp2_with fail
   refine(HIT.out _ (Below.refl _ _)).mono ?_;rintro e w2 ⟨rfl,hb2⟩;have HB2:=ah hb2
   clear hb2;go_wp2;go_ret;refine⟨?_,HB2.out⟩;rw[iF.out]
   exact aeH (fun q=>Ending.returned (Value.string q)) (by apply afJ;simp[Num.sg])
  have hd:decide ((x:Int) - 1023<0)=false:=ac5 (by omega)
  have oQ:(1023:Int)<=x:=by omega
  obtain⟨r,hr⟩:=aj (Lib.itoa ((x:Int) - 1023))
  have hrl:r.length<=5:=by rw[<-hr];exact rW (by omega) (by omega)
  have hfin:Num.form 0 ((x:Int) - 1023)=[48,120,49] ++([] ++(112 :: r)):=by
   unfold Num.form Num.fV;rw[ade (by omega),hr]
   rfl
  have iF:=ah hfin
  have HIT:=ah (fun(W:World) (hb:Below w.heap.size w W)=>hr▸uT ((x:Int) - 1023) W (by omega) (by omega) (lY.below hb))
  clear hr hfin hneg;go_enter Tryz.func158,Tryz.ntmps158
  have HB1:Hid (Below w.heap.size w w):=Below.refl _ _
  obtain⟨w1,hw1⟩: ∃x:World,x=w:=⟨_,rfl⟩;go_wp2_with fail
  refine(HIT.out _ (Below.refl _ _)).mono ?_;rintro e w2 ⟨rfl,hb2⟩;have HB2:=ah hb2
  clear hb2;go_wp2;go_ret;refine⟨?_,HB2.out⟩;rw[iF.out]
  exact aeH (fun q=>Ending.returned (Value.string q)) (by apply afJ;simp[Num.sg])
 have lZ:=ah (JD hf0);have t4:((f:Int) !=0)=true:=by rw[adY];omega
 have hor:=or_one f hfb;have qK:=OQ hfb;obtain⟨F,hF⟩:=aj (f+4503599627370496)
 rw[hF]at hor qK
 have uq:=ah (fun(W:World) (hb:Below w.heap.size w W)=>qK▸OO F W (lY.below hb) (by omega) (by omega))
 obtain⟨jh,h13⟩:=aj (Num.hexN 13 f);have mW:jh.length=13:=by rw[<-h13];exact Num.uQ 13 f
 obtain⟨qL,mX⟩:=aj (⟨(49 :: jh).toArray⟩:ByteArray)
 have xg:qL.size=14:=by rw[<-mX,gq];simp[mW]
 have hzd:qL.data.toList=49 :: jh:=by rw[<-mX]
 have HZD:=ah hzd;rw[h13,mX]at uq;have sJ:=ah mW;have uw:=ah xg
 have hz1:(1:Int)<=qL.size:=by omega
 obtain⟨tl,htl⟩:=aj (Lib.trimRightS (Num.hexN 13 f) [48])
 have Ky:tl.length<=13:=by rw[<-htl];exact JE f
 have qM:=ah (fun(z:ByteArray) (hz:z.data.toList=Num.hexN 13 f) (W:World)=>OT z f tl hz htl W)
 rw[h13]at qM;rw[htl]at lZ;clear htl hf0 hF qK h13 mW mX xg hzd;by_cases hneg:x<1023
 ·have hd:decide ((x:Int) - 1023<0)=true:=adb (by omega)
  have oQ:(x:Int)<1023:=by omega
  obtain⟨r,hr⟩:=aj (Lib.itoa (-((x:Int) - 1023)))
  have hrl:r.length<=5:=by rw[<-hr];exact rW (by omega) (by omega)
  have hfin:Num.form f ((x:Int) - 1023)=[48,120,49] ++(46 :: tl ++(109 :: r)):=by
   unfold Num.form Num.fV;rw[adk (by omega),hr,lZ.out]
   skip
  have iF:=ah hfin
  have HIT:=ah (fun(W:World) (hb:Below w.heap.size w W)=>hr▸uT (-((x:Int) - 1023)) W (by omega) (by omega) (lY.below hb))
  clear hr hfin hneg;go_enter Tryz.func158,Tryz.ntmps158;go_wp2_with fail
  refine(uq.out _ (Below.refl _ _)).mono ?_;rintro e w1 ⟨rfl,hb1⟩;have HB1:=ah hb1
  clear hb1;go_wp2_with fail
  refine(qM.out _ (by rw[Lib.extract_data,uw.out,HZD.out];simp;exact ado (by rw[sJ.out];exact ac4 _)) w1).mono ?_
  rintro e w1' ⟨rfl,rfl⟩;go_wp2_with fail;refine(HIT.out _ HB1.out).mono ?_
  rintro e w2 ⟨rfl,hb2⟩;have HB2:=ah hb2;clear hb2;go_wp2;go_ret
  refine⟨?_,HB1.trans (HB2.mono HB1.size)⟩;rw[iF.out]
  exact aeH (fun q=>Ending.returned (Value.string q)) (by apply afJ;simp[Num.sg])
 have hd:decide ((x:Int) - 1023<0)=false:=ac5 (by omega)
 have oQ:(1023:Int)<=x:=by omega
 obtain⟨r,hr⟩:=aj (Lib.itoa ((x:Int) - 1023))
 have hrl:r.length<=5:=by rw[<-hr];exact rW (by omega) (by omega)
 have hfin:Num.form f ((x:Int) - 1023)=[48,120,49] ++(46 :: tl ++(112 :: r)):=by
  unfold Num.form Num.fV;rw[ade (by omega),hr,lZ.out]
  skip
 have iF:=ah hfin
 have HIT:=ah (fun(W:World) (hb:Below w.heap.size w W)=>hr▸uT ((x:Int) - 1023) W (by omega) (by omega) (lY.below hb))
 clear hr hfin hneg;go_enter Tryz.func158,Tryz.ntmps158;go_wp2_with fail
 refine(uq.out _ (Below.refl _ _)).mono ?_;rintro e w1 ⟨rfl,hb1⟩;have HB1:=ah hb1
 clear hb1;go_wp2_with fail
 refine(qM.out _ (by rw[Lib.extract_data,uw.out,HZD.out];simp;exact ado (by rw[sJ.out];exact ac4 _)) w1).mono ?_
 rintro e w1' ⟨rfl,rfl⟩;go_wp2_with fail;refine(HIT.out _ HB1.out).mono ?_
 rintro e w2 ⟨rfl,hb2⟩;have HB2:=ah hb2;clear hb2;go_wp2;go_ret
 refine⟨?_,HB1.trans (HB2.mono HB1.size)⟩;rw[iF.out]
 exact aeH (fun q=>Ending.returned (Value.string q)) (by apply afJ;simp[Num.sg])
theorem aht: ∀c:Fin 256,Lib.indexByte [48,49,50,51,52,53,54,55,56,57,97,98,99,100,101,102] (UInt8.ofNat c.val)=match Num.jr (UInt8.ofNat c.val) with|some d=>(d:Int)|none=> -1:=by decide+kernel
theorem ahu (c:UInt8):Lib.indexByte [48,49,50,51,52,53,54,55,56,57,97,98,99,100,101,102] c=match Num.jr c with|some d=>(d:Int)|none=> -1:=by
 have:=aht ⟨c.toNat,anZ c⟩
 simpa using this
theorem ahv (n d:Nat) (hn:n<1152921504606846976) (hd:d<16):bits BinOp.or IntKind.u64 ((n:Int)*16) (d:Int)=((n*16+d:Nat):Int):=by
 rw[show(n:Int)*16=((n*16:Nat):Int) by omega,bits_or_u64_nat _ _ (by omega) (by omega)]
 congr 1
 have h:=anJ (i:=4) (b:=d) hd n;rw[afV,show(16:Nat)=2 ^ 4 from rfl,<-h]
theorem OU (c:UInt8) (h:List UInt8):Num.lJ (c :: h)=if c≠46\/h=[]\/13<h.length\/h.getLast?=some 48 then none else(Num.hexVal h 0).map (· *16 ^(13 - h.length)):=rfl
def ahw (r:Option Nat) (w:World) (e:Ending) (w':World):Prop:=e=.returned (.tuple #[.int .u64 (r.getD 0:Nat),.bool r.isSome])/\w=w'
theorem ahx {t:List UInt8} {k n:Nat} {c:UInt8} (h:Num.hexVal (t.take k) 0=some n) (hc:t[k]?=some c):Num.hexVal (t.take (k+1)) 0=(Num.jr c).map (n*16+ ·):=by
 obtain⟨hk,e⟩:=adw.1 hc;rw[afC hk,Num.Ie,h,e];simp only[an0,Num.hexVal]
 cases Num.jr c<;>rfl
theorem TA: ∀(t:List UInt8) (a n:Nat),Num.hexVal t a=some n->n<(a+1)*16 ^ t.length
 |[],a,n,h=>by simp[Num.hexVal]at h;subst h;simp
 |c :: r,a,n,h=>by
  simp only[Num.hexVal]at h;cases hc:Num.jr c with
  |none=>rw[hc]at h;cases h
  |some d=>
   rw[hc]at h;have h1:=TA r _ n h;have hd:=Num.Ic hc
   have h2:(a*16+d+1)*16 ^ r.length<=((a+1)*16)*16 ^ r.length:=af8 _ (by omega)
   rw[adQ,afk,afV (16 ^ r.length) 16,<-afY];exact adW h1 h2
theorem Zf: ∀(t:List UInt8) (k a:Nat) (c:UInt8),t[k]?=some c->Num.jr c=none->Num.hexVal t a=none
 |[],k,a,c,h,_=>by simp at h
 |x :: r,0,a,c,h,hn=>by
  simp at h;subst h;simp only[Num.hexVal];rw[hn]
 |x :: r,k+1,a,c,h,hn=>by
  simp only[adL]at h;simp only[Num.hexVal];cases Num.jr x with
  |none=>rfl
  |some d=>exact Zf r k _ c h hn
theorem Zg (s:ByteArray) (w:World) (hs:s.size<=1073741824):
  Calls Tryz.prog 214 #[.string s] w (ahw (Num.lJ s.data.toList) w):=by
 obtain⟨l,hl⟩:=aj s.data.toList;rw[hl];cases l with
 |nil=>
  have h0:s.size=0:=by rw[Lib.size_eq,hl];rfl
  have hsn:s.toList.isEmpty=true:=by rw[Lib.toList_data,hl];rfl
  have hse:(s.toList ==[])=true:=by rw[Lib.toList_data,hl];rfl
  clear hl h0;go_enter Tryz.func214,Tryz.ntmps214;go_wp2
  go_ret2
  exact⟨rfl,rfl⟩
 |cons c t=>
  have hsz:s.size=t.length+1:=by rw[Lib.size_eq,hl];rfl
  have hpos:0<s.size:=by omega
  have hp1:(1:Int)<=s.size:=by omega
  have hp0:(0:Int)<s.size:=by omega
  have hsn:s.toList.isEmpty=false:=by rw[Lib.toList_data,hl];rfl
  have hse:(s.toList ==[])=false:=by rw[Lib.toList_data,hl];rfl
  have h0:s[0]'hpos=c:=by
   have h1:=Lib.data_getElem? s 0 hpos;rw[hl]at h1
   simpa using h1.symm
  obtain⟨z,hz⟩:=aj (s.extract 1 s.size)
  have hzl:z.data.toList=t:=by
   rw[<-hz,Lib.extract_data,hl];simp;exact ado (by omega)
  have hzs:z.size=t.length:=by rw[Lib.size_eq,hzl]
  have hzb:z.size<=1073741824:=by omega
  have uw:=ah hzl;have nV:=ah hzs;clear hl hsz;by_cases h46:c=46
  ·have t1:(((s[0]'hpos).toNat:Int) !=46)=false:=by rw[h0,h46];rfl
   cases t with
   |nil=>
    have hzn:z.toList.isEmpty=true:=by rw[Lib.toList_data,hzl];rfl
    have hze:(z.toList ==[])=true:=by rw[Lib.toList_data,hzl];rfl
    have hr:Num.lJ [c]=none:=by unfold Num.lJ;simp
    rw[hr];clear h0 hzl hzs hr h46;go_enter Tryz.func214,Tryz.ntmps214;go_wp2
    go_ret2
    exact⟨rfl,rfl⟩
   |cons x y=>
    have hzn:z.toList.isEmpty=false:=by rw[Lib.toList_data,hzl];rfl
    have hze:(z.toList ==[])=false:=by rw[Lib.toList_data,hzl];rfl
    by_cases h13:13<(x :: y).length
    ·have hr:Num.lJ (c :: x :: y)=none:=by
      rw[OU,adk (.inr (.inr (.inl h13)))]
     rw[hr];have t2:(13:Int)<z.size:=by omega
     clear h0 hzl hzs hr h46 h13;go_enter Tryz.func214,Tryz.ntmps214;go_wp2
     go_ret2
     exact⟨rfl,rfl⟩
    obtain⟨t,ht⟩:=aj (x :: y);rw[ht]at hzl hzs h13 uw nV⊢
    have htn:t≠ []:=by rw[<-ht];simp
    have hzp:0<z.size:=by rw[hzs,<-ht];simp
    have apm:(1:Int)<=z.size:=by omega
    have t2:(z.size:Int)<=13:=by omega
    have hzm:z.size - 1<z.size:=by omega
    have hlast:t.getLast?=some (z[z.size - 1]'hzm):=by
     have h1:=Lib.data_getElem? z (z.size - 1) hzm;rw[hzl]at h1;rw[aqJ,<-hzs,h1]
    have ez:((z.size:Int) - 1).toNat=z.size - 1:=by omega
    by_cases h48:(z[z.size - 1]'hzm)=48
    ·have hr:Num.lJ (c :: t)=none:=by
      rw[OU,adk (.inr (.inr (.inr (by rw[hlast,h48]))))]
     rw[hr];have t3:(((z[z.size - 1]'hzm).toNat:Int) == 48)=true:=by rw[h48];rfl
     have EZ:=ah ez;clear h0 hzl hzs hr h46 h13 hlast h48 ht htn ez
     go_enter Tryz.func214,Tryz.ntmps214;go_wp2
     go_ret2
     exact⟨rfl,rfl⟩
    have t3:(((z[z.size - 1]'hzm).toNat:Int) == 48)=false:=by
     rw[adh];intro e;exact h48 (afi.1 (by show(z[z.size - 1]'hzm).toNat=48;omega))
    have hr:Num.lJ (c :: t)=(Num.hexVal t 0).map (· *16 ^(13 - t.length)):=by
     rw[OU,ade];rintro(h|h|h|h)
     ·exact h h46
     ·exact htn h
     ·exact h13 h
     rw[hlast]at h;exact h48 (ad4 h)
    obtain⟨R,hR⟩:=aj (Num.lJ (c :: t));rw[hR];rw[hR]at hr;have HR:=ah hr
    have hzg: ∀(k:Nat) (h:k<z.size),t[k]?=some (z[k]'h):=fun k h=>by rw[<-hzl];exact Lib.data_getElem? z k h
    have HZG:=ah hzg;clear h0 hzl hzs hr h46 h13 hlast h48 ht htn ez hR hzg
    go_enter Tryz.func214,Tryz.ntmps214;go_wp2;clear t3
    go_loopg [5,34] z.size (fun g a i wr=> ∃(k n:Nat),k+g=z.size/\i=.int .i64 k/\a=.int .u64 n/\Num.hexVal (t.take k) 0=some n/\w=wr)
    case atStart=>exact⟨0,0,by omega,rfl,rfl,rfl,rfl⟩
    obtain⟨k,n,hk,rfl,rfl,hv,rfl⟩:=hrel;have HK:=ah hk;have HV:=ah hv
    have hnl:=TA _ _ _ hv;have htl:(t.take k).length<=k:=aoM _ _;clear hk hv;cases gk with
    |zero=>
     have hkz:k=z.size:=by have:=HK.out;omega
     have hfin:Num.hexVal t 0=some n:=by
      have:=HV.out
      rwa [ado (by rw[hkz,nV.out];exact ac4 _)]at this
     have hr:=HR.out;rw[hfin]at hr;have htz:t.length=z.size:=nV.symm;rw[afs,htz]at hr
     obtain⟨m,hm⟩:=aj z.size
     have hnm:n<16 ^ m:=by
      have h1:=TA _ _ _ hfin;rw[htz,hm]at h1;omega
     have hpw:16 ^ m*16 ^(13 - m)=4503599627370496:=by
      rw[<-aob,show m+(13 - m)=13 by omega]
     have hsh:IntKind.u64.wrap ((n:Int)*2 ^(52 - 4*m))=((n*16 ^(13 - m):Nat):Int):=by
      have e1:(2:Nat) ^(52 - 4*m)=16 ^(13 - m):=by rw[show 52 - 4*m=4*(13 - m) by omega,Nat.pow_mul]
      have e2:(n:Int)*2 ^(52 - 4*m)=((n*16 ^(13 - m):Nat):Int):=by rw[<-e1];simp
      have h3:n*16 ^(13 - m)<16 ^ m*16 ^(13 - m):=ana hnm (ano (by decide))
      rw[hpw]at h3;rw[e2,IntKind.wrap_u64];omega
     rw[hm]at hr;have HR2:=ah hr;have hkd:decide (k<z.size)=false:=ac5 (by omega)
     have em:(52 - 4*(z.size:Int)).toNat=52 - 4*m:=by omega
     have e0:(0:Int)<=52 - 4*(z.size:Int):=by omega
     have HM:=ah hm;clear hkz hfin hr htz hm hnm hpw;go_wp2
     go_ret2
     refine⟨?_,rfl⟩;rw[HR2.out]
     have e9:((n*16 ^(13 - m):Nat):Int)=(n:Int)*16 ^(13 - m):=by simp
     show Ending.returned (.tuple #[.int .u64 ((n:Int)*16 ^(13 - m)),.bool true])=.returned (.tuple #[.int .u64 ((n*16 ^(13 - m):Nat):Int),.bool true])
     rw[e9]
    |succ g=>
     have hlt:k<z.size:=by have:=HK.out;omega
     have hlt':(k:Int)<z.size:=by omega
     obtain⟨x,hx⟩:=aj (z[k]'hlt);have hget:=HZG.out k hlt;rw[hx]at hget;have hix:=ahu x
     have hci:=Tryz.strings_IndexByte ⟨#[48,49,50,51,52,53,54,55,56,57,97,98,99,100,101,102]⟩ ((z[k]'hlt).toNat:Int) w
     have Vm:((((z[k]'hlt).toNat:Int)).toNat.toUInt8)=x:=by rw[hx];simp
     rw[Vm]at hci;cases hv:Num.jr x with
     |none=>
      rw[hv]at hix
      have Kz:Calls Tryz.prog 163 #[.string ⟨#[48,49,50,51,52,53,54,55,56,57,97,98,99,100,101,102]⟩,.int .u8 ((z[k]'hlt).toNat:Int)] w fun e w'=>e=.returned (.int .i64 (-1))/\w=w':=hci.mono fun e w' ⟨h1,h2⟩=>⟨by rw[h1];exact aeH (fun q=>Ending.returned (Value.int .i64 q)) hix,h2.symm⟩
      have Vo:=ah Kz;have hr:=HR.out;rw[Zf t k 0 x hget hv]at hr;rw[hr]
      clear hx hget hix hci Vm hv Kz hr hnl htl;go_wp2_with fail;refine Vo.mono ?_
      rintro e w' ⟨rfl,rfl⟩;go_wp2
      go_ret2
      exact⟨rfl,rfl⟩
     |some d=>
      rw[hv]at hix;have hd:=Num.Ic hv
      have Kz:Calls Tryz.prog 163 #[.string ⟨#[48,49,50,51,52,53,54,55,56,57,97,98,99,100,101,102]⟩,.int .u8 ((z[k]'hlt).toNat:Int)] w fun e w'=>e=.returned (.int .i64 d)/\w=w':=hci.mono fun e w' ⟨h1,h2⟩=>⟨by rw[h1];exact aeH (fun q=>Ending.returned (Value.int .i64 q)) hix,h2.symm⟩
      have Vo:=ah Kz;have hnx:=ahx HV.out hget;rw[hv,afs]at hnx;have gW:=ah hnx
      have amR:16 ^(t.take k).length<=16 ^ 12:=afa (by decide) (by omega)
      have e12:(16:Nat) ^ 12=281474976710656:=by decide
      have hnb:n<281474976710656:=by omega
      have hor:=ahv n d (by omega) hd
      have hdi:(0:Int)<=d:=by omega
      have apn:(d:Int)<=15:=by omega
      have hni:(n:Int)<=281474976710656:=by omega
      clear hx hget hix hci Vm hv Kz hnl htl hnx amR e12;go_wp2_with fail
      refine Vo.mono ?_;rintro e w' ⟨rfl,rfl⟩;go_wp2
      go_roundg g
      case measure=>omega
      exact⟨k+1,_,by have:=HK.out;omega,by go_num,rfl,gW.out,rfl⟩
  have t1:(((s[0]'hpos).toNat:Int) !=46)=true:=by
   rw[h0,adY];intro e;exact h46 (afi.1 (by show c.toNat=46;omega))
  have hr:Num.lJ (c :: t)=none:=by rw[OU,adk (.inl h46)]
  rw[hr];clear h0 hzl hzs hr h46;go_enter Tryz.func214,Tryz.ntmps214;go_wp2
  go_ret2
  exact⟨rfl,rfl⟩
end Go.Proofs.YtkdakckjafomhaaGreatDoor
