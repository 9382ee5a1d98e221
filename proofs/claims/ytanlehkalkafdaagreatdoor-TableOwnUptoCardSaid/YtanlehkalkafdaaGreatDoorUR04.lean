/- Contracts and plain laws,part 4. -/
import Derived.Test.YtanlehkalkafdaaGreatDoorUR03
set_option maxHeartbeats 64000000
set_option maxRecDepth 1000000
set_option linter.all false
namespace Go.Proofs.YtanlehkalkafdaaGreatDoor
open Go.RowKit
theorem and_top (b:Nat) (hb:b<18446744073709551616):bits BinOp.and IntKind.u64 (b:Int) 9223372036854775808=if 9223372036854775808<=b then 9223372036854775808 else 0:=by
 rw[show(9223372036854775808:Int)=((9223372036854775808:Nat):Int) from rfl,bits_and_u64_nat b _ hb (by omega)]
 have key:b &&& 9223372036854775808=if 9223372036854775808<=b then 9223372036854775808 else 0:=by
  apply Nat.eq_of_testBit_eq
  intro i;rw[Nat.testBit_and,show(9223372036854775808:Nat)=2 ^ 63 from rfl,Bq]
  by_cases hi:63=i
  ·subst hi
   rw[Nat.testBit_eq_decide_div_mod_eq];by_cases h:2 ^ 63<=b
   ·rw[rY h,Bq,rQ (by omega)];rfl
   rw[rU h,rO (by omega)];simp
  rw[rO hi,Bool.and_false]
  split
  ·rw[Bq,rO hi]
  simp
 rw[key]
 split<;>rfl
theorem and_exp (b:Nat) (hb:b<18446744073709551616):bits BinOp.and IntKind.u64 ((b:Int) / 4503599627370496) 2047=((b % 9223372036854775808 / 4503599627370496:Nat):Int):=by
 rw[show((b:Int) / 4503599627370496)=((b / 4503599627370496:Nat):Int) by omega,show(2047:Int)=((2047:Nat):Int) from rfl,bits_and_u64_nat _ _ (by omega) (by omega),show(2047:Nat)=2 ^ 11 - 1 from rfl,yK]
 omega
theorem and_mask (b:Nat) (hb:b<18446744073709551616):bits BinOp.and IntKind.u64 (b:Int) 4503599627370495=((b % 9223372036854775808 % 4503599627370496:Nat):Int):=by
 rw[show(4503599627370495:Int)=((4503599627370495:Nat):Int) from rfl,bits_and_u64_nat _ _ hb (by omega),show(4503599627370495:Nat)=2 ^ 52 - 1 from rfl,yK]
 omega
theorem or_one (f:Nat) (hf:f<4503599627370496):bits BinOp.or IntKind.u64 (f:Int) 4503599627370496=((f+4503599627370496:Nat):Int):=by
 rw[show(4503599627370496:Int)=((4503599627370496:Nat):Int) from rfl,bits_or_u64_nat f _ (by omega) (by omega)]
 congr 1
 have h:=xZ (i:=52) (b:=f) hf 1;rw[Nat.or_comm]
 rw[show(4503599627370496:Nat)=2 ^ 52*1 from rfl,<-h]
 omega
theorem hexN_14 {f:Nat} (hf:f<4503599627370496):Num.hexN 14 (f+4503599627370496)=49 :: Num.hexN 13 f:=by
 rw[hexN_cons];have e:(16:Nat) ^ 13=4503599627370496:=by decide
 rw[e,show(f+4503599627370496) / 4503599627370496 % 16=1 by omega]
 have key: ∀(k q n:Nat),Num.hexN k (n+q*16 ^ k)=Num.hexN k n:=by
  intro k
  induction k with
  |zero=>intro q n;rfl
  |succ k ih=>
   intro q n;have e2:q*16 ^(k+1)=(q*16 ^ k)*16:=by rw[vN,xG]
   rw[Num.hexN,Num.hexN,e2,Nat.add_mul_div_right _ _ (by decide:0<16),Nat.add_mul_mod_self_right,ih]
 have h:=key 13 1 f;rw[e,Nat.one_mul]at h;rw[h];rfl
theorem fracS_trim {f:Nat} (h:f≠0):Num.fracS f=46 :: Lib.trimRightS (Num.hexN 13 f) [48]:=by unfold Num.fracS;rw[rU h]
theorem trim_len13 (f:Nat):(Lib.trimRightS (Num.hexN 13 f) [48]).length<=13:=by
 obtain⟨j,h1,_⟩:=Num.trim_split _ (Num.hexN 13 f) rfl;have h2:=Num.hexN_len 13 f
 rw[h1,rP]at h2;omega
theorem trimZ_any (z:ByteArray) (f:Nat) (tl:List UInt8) (hz:z.data.toList=Num.hexN 13 f) (htl:Lib.trimRightS (Num.hexN 13 f) [48]=tl) (w:World):
  Calls Tryz.prog 199 #[.string z,.string ⟨#[48]⟩] w fun e w'=>e=.returned (.string ⟨tl.toArray⟩)/\w=w':=by
 have hs:z.size<=9223372036854775807:=by rw[Lib.size_eq,hz,Num.hexN_len];omega
 refine(Tryz.strings_TrimRight_one z 48 (by decide) w hs).mono fun e w' ⟨h1,h2⟩=>⟨?_,h2.symm⟩
 rw[h1,hz,<-Lib.trimRightS_one,htl]
theorem itoa_len5 {n:Int} (h0: -2000<=n) (h1:n<=2000):(Lib.itoa n).length<=5:=by
 unfold Lib.itoa
 split
 ·rw[sS,Num.dec_len]
  have:=nDigits_le 3 n.natAbs (by omega)
  omega
 rw[Num.dec_len];have:=nDigits_le 3 n.toNat (by omega)
 omega
theorem fmtFloat_any (b:Nat) (w:World) (hb:b<18446744073709551616) (hL:Laid w):
  Calls Tryz.prog 146 #[.int .u64 b] w fun e w'=>e=.returned (.string ⟨(Num.fmt b).toArray⟩)/\Below w.heap.size w w':=by
 obtain⟨a,ha⟩:=aj (b % 9223372036854775808);have h1:=and_top b hb;have h2:=and_exp b hb
 have h3:=and_mask b hb
 have hf:Num.fmt b=if 9218868437227405312<a then Num.NANS else Num.sg (decide (9223372036854775808<=b))++Num.fmtU a:=by unfold Num.fmt;rw[ha]
 rw[ha]at h2 h3;obtain⟨x,hx⟩:=aj (a / 4503599627370496)
 obtain⟨f,hff⟩:=aj (a % 4503599627370496);have hfb:f<4503599627370496:=by omega
 have hxb:x<=2047:=by omega
 have hfi:(f:Int)<=4503599627370495:=by omega
 have hxi:(x:Int)<=2047:=by omega
 have hbi:(b:Int)<=18446744073709551615:=by omega
 rw[hx]at h2;rw[hff]at h3;rw[hf];have HLD:=ah hL;have HX:=ah hx;have HF:=ah hff
 clear hf hL;by_cases hs:9223372036854775808<=b
 ·rw[rY hs]at h1
  rw[rQ hs];by_cases hnan:9218868437227405312<a
  ·rw[rY hnan]
   have t1:((x:Int) == 2047)=true:=by rw[uw];omega
   have t2:((f:Int) !=0)=true:=by rw[tH];omega
   clear hx hff ha hnan hs;go_enter Tryz.func146,Tryz.ntmps146;go_wp2;go_ret
   exact⟨rfl,Below.refl _ _⟩
  rw[rU hnan];by_cases hinf:a=9218868437227405312
  ·have e1:Num.fmtU a=Num.INFS:=by unfold Num.fmtU;rw[rY hinf]
   rw[e1];have t1:((x:Int) == 2047)=true:=by rw[uw];omega
   have t2:((f:Int) !=0)=false:=by rw[vk];omega
   clear hx hff ha hnan hs hinf e1;go_enter Tryz.func146,Tryz.ntmps146;go_wp2;go_ret
   exact⟨rfl,Below.refl _ _⟩
  have t1:((x:Int) == 2047)=false:=by rw[rX];omega
  by_cases h0:a=0
  ·have e1:Num.fmtU a=Num.ZERO:=by unfold Num.fmtU;rw[rU hinf,rY h0]
   rw[e1];have t2:((x:Int) == 0)=true:=by rw[uw];omega
   have t3:((f:Int) == 0)=true:=by rw[uw];omega
   clear hx hff ha hnan hs hinf h0 e1;go_enter Tryz.func146,Tryz.ntmps146;go_wp2;go_ret
   exact⟨rfl,Below.refl _ _⟩
  have e1:Num.fmtU a=Num.form (Num.nfrac a) (Num.nexp a):=by unfold Num.fmtU;rw[rU hinf,rU h0]
  rw[e1];clear e1;by_cases hx0:x=0
  ·have haf:a=f:=by omega
   obtain⟨u1,u2,u3,u4⟩:=Num.up_spec h0 (by omega)
   have en:Num.nexp a= -1022 -(Num.up a:Int):=by unfold Num.nexp;rw[rY (by omega)]
   have fn:Num.nfrac a=a*2 ^ Num.up a - 4503599627370496:=by unfold Num.nfrac;rw[rY (by omega)]
   have hbl:Lib.bitLen f+Num.up a=53:=by have:=u1;unfold Num.up at this⊢;rw[haf]at this⊢;omega
   have hlz:=(Tryz.bits_LeadingZeros64 (f:Int) w (by omega) (by omega)).mono fun e w' (h:_/\w'=w)=>(⟨h.1,h.2.symm⟩:_/\w=w')
   rw[zW,show(64:Int) -(Lib.bitLen f:Int)=(Num.up a:Int)+11 by omega]at hlz
   rw[en,fn];obtain⟨U,hU⟩:=aj (Num.up a);rw[hU]at u1 u2 u3 u4 hlz⊢
   obtain⟨G,hG⟩:=aj (a*2 ^ U);rw[hG]at u3 u4⊢
   have t2:((x:Int) == 0)=true:=by rw[uw];omega
   have t3:((f:Int) == 0)=false:=by rw[rX];omega
   have hU1:(1:Int)<=U:=by omega
   have hU2:(U:Int)<=52:=by omega
   obtain⟨g,hg⟩:=aj (G - 4503599627370496);have hgb:g<4503599627370496:=by omega
   have hsh:IntKind.u64.wrap ((f:Int)*2 ^ U)=(G:Int):=by
    rw[show(f:Int)*2 ^ U=(G:Int) by rw[<-hG,haf];simp,IntKind.wrap_u64]
    omega
   have hmk:bits BinOp.and IntKind.u64 (G:Int) 4503599627370495=(g:Int):=by
    rw[and_mask G (by omega)]
    omega
   rw[hg,show -1022 -(U:Int)=1 -(U:Int) - 1023 by omega]
   have HLZ:=ah hlz;clear hlz hG haf hbl en fn hU hx hff ha hnan hs hinf h0 hx0 hg u3 u4
   by_cases hf0:g=0
   ·subst hf0
    have hd:decide (1 -(U:Int) - 1023<0)=true:=rQ (by omega)
    have hdx:(1:Int)<=U:=by omega
    obtain⟨r,hr⟩:=aj (Lib.itoa (-(1 -(U:Int) - 1023)))
    have hrl:r.length<=5:=by rw[<-hr];exact itoa_len5 (by omega) (by omega)
    have hfin:Num.form 0 (1 -(U:Int) - 1023)=[48,120,49] ++([] ++(109 :: r)):=by
     unfold Num.form Num.expS;rw[rY (by omega),hr]
     rfl
    have HFIN:=ah hfin
    have HIT:=ah (fun(W:World) (hb:Below w.heap.size w W)=>hr▸itoa_any (-(1 -(U:Int) - 1023)) W (by omega) (by omega) (HLD.below hb))
    clear hr hfin;go_enter Tryz.func146,Tryz.ntmps146;go_wp2_with fail;refine HLZ.mono ?_
    rintro e w' ⟨rfl,rfl⟩;have HB1:Hid (Below w.heap.size w w):=Below.refl _ _
    obtain⟨w1,hw1⟩: ∃x:World,x=w:=⟨_,rfl⟩;go_wp2_with fail
    refine(HIT.out _ (Below.refl _ _)).mono ?_;rintro e w2 ⟨rfl,hb2⟩;have HB2:=ah hb2
    clear hb2;go_wp2;go_ret;refine⟨?_,HB2.out⟩;rw[HFIN.out]
    exact uo (fun q=>Ending.returned (Value.string q)) (by apply vI;simp[Num.sg])
   have HFS:=ah (fracS_trim hf0);have t4:((g:Int) !=0)=true:=by rw[tH];omega
   have hor:=or_one g hgb;have hex14:=hexN_14 hgb;obtain⟨F,hF⟩:=aj (g+4503599627370496)
   rw[hF]at hor hex14
   have HFU:=ah (fun(W:World) (hb:Below w.heap.size w W)=>hex14▸fmtUint_any F W (HLD.below hb) (by omega) (by omega))
   obtain⟨H13,h13⟩:=aj (Num.hexN 13 g)
   have h13l:H13.length=13:=by rw[<-h13];exact Num.hexN_len 13 f
   obtain⟨z14,hz14⟩:=aj (⟨(49 :: H13).toArray⟩:ByteArray)
   have hz14l:z14.size=14:=by rw[<-hz14,size_list];simp[h13l]
   have hzd:z14.data.toList=49 :: H13:=by rw[<-hz14]
   have HZD:=ah hzd;rw[h13,hz14]at HFU;have HL13:=ah h13l;have HZL:=ah hz14l
   have hz1:(1:Int)<=z14.size:=by omega
   obtain⟨tl,htl⟩:=aj (Lib.trimRightS (Num.hexN 13 g) [48])
   have htll:tl.length<=13:=by rw[<-htl];exact trim_len13 g
   have HTR:=ah (fun(z:ByteArray) (hz:z.data.toList=Num.hexN 13 g) (W:World)=>trimZ_any z g tl hz htl W)
   rw[h13]at HTR;rw[htl]at HFS;clear htl hf0 hF hex14 h13 h13l hz14 hz14l hzd
   have hd:decide (1 -(U:Int) - 1023<0)=true:=rQ (by omega)
   have hdx:(1:Int)<=U:=by omega
   obtain⟨r,hr⟩:=aj (Lib.itoa (-(1 -(U:Int) - 1023)))
   have hrl:r.length<=5:=by rw[<-hr];exact itoa_len5 (by omega) (by omega)
   have hfin:Num.form g (1 -(U:Int) - 1023)=[48,120,49] ++(46 :: tl ++(109 :: r)):=by
    unfold Num.form Num.expS;rw[rY (by omega),hr,HFS.out]
    skip
   have HFIN:=ah hfin
   have HIT:=ah (fun(W:World) (hb:Below w.heap.size w W)=>hr▸itoa_any (-(1 -(U:Int) - 1023)) W (by omega) (by omega) (HLD.below hb))
   clear hr hfin;go_enter Tryz.func146,Tryz.ntmps146;go_wp2_with fail;refine HLZ.mono ?_
   rintro e w' ⟨rfl,rfl⟩;go_wp2_with fail;refine(HFU.out _ (Below.refl _ _)).mono ?_
   rintro e w1 ⟨rfl,hb1⟩;have HB1:=ah hb1;clear hb1;go_wp2_with fail
   refine(HTR.out _ (by rw[Lib.extract_data,HZL.out,HZD.out];simp;exact sG (by rw[HL13.out];exact rM _)) w1).mono ?_
   rintro e w1' ⟨rfl,rfl⟩;go_wp2_with fail;refine(HIT.out _ HB1.out).mono ?_
   rintro e w2 ⟨rfl,hb2⟩;have HB2:=ah hb2;clear hb2;go_wp2;go_ret
   refine⟨?_,HB1.trans (HB2.mono HB1.size)⟩;rw[HFIN.out]
   exact uo (fun q=>Ending.returned (Value.string q)) (by apply vI;simp[Num.sg])
  have t2:((x:Int) == 0)=false:=by rw[rX];omega
  have en:Num.nexp a=(x:Int) - 1023:=by unfold Num.nexp;rw[rU (by omega),hx]
  have fn:Num.nfrac a=f:=by unfold Num.nfrac;rw[rU (by omega),hff]
  rw[en,fn];clear en fn hx hff ha hnan hs hinf h0;have hx1:(1:Int)<=x:=by omega
  clear hx0;by_cases hf0:f=0
  ·subst hf0
   by_cases hneg:x<1023
   ·have hd:decide ((x:Int) - 1023<0)=true:=rQ (by omega)
    have hdx:(x:Int)<1023:=by omega
    obtain⟨r,hr⟩:=aj (Lib.itoa (-((x:Int) - 1023)))
    have hrl:r.length<=5:=by rw[<-hr];exact itoa_len5 (by omega) (by omega)
    have hfin:Num.form 0 ((x:Int) - 1023)=[48,120,49] ++([] ++(109 :: r)):=by
     unfold Num.form Num.expS;rw[rY (by omega),hr]
     rfl
    have HFIN:=ah hfin
    have HIT:=ah (fun(W:World) (hb:Below w.heap.size w W)=>hr▸itoa_any (-((x:Int) - 1023)) W (by omega) (by omega) (HLD.below hb))
    clear hr hfin hneg;go_enter Tryz.func146,Tryz.ntmps146
    have HB1:Hid (Below w.heap.size w w):=Below.refl _ _
    obtain⟨w1,hw1⟩: ∃x:World,x=w:=⟨_,rfl⟩;go_wp2_with fail
    refine(HIT.out _ (Below.refl _ _)).mono ?_;rintro e w2 ⟨rfl,hb2⟩;have HB2:=ah hb2
    clear hb2;go_wp2;go_ret;refine⟨?_,HB2.out⟩;rw[HFIN.out]
    exact uo (fun q=>Ending.returned (Value.string q)) (by apply vI;simp[Num.sg])
   have hd:decide ((x:Int) - 1023<0)=false:=rO (by omega)
   have hdx:(1023:Int)<=x:=by omega
   obtain⟨r,hr⟩:=aj (Lib.itoa ((x:Int) - 1023))
   have hrl:r.length<=5:=by rw[<-hr];exact itoa_len5 (by omega) (by omega)
   have hfin:Num.form 0 ((x:Int) - 1023)=[48,120,49] ++([] ++(112 :: r)):=by
    unfold Num.form Num.expS;rw[rU (by omega),hr]
    rfl
   have HFIN:=ah hfin
   have HIT:=ah (fun(W:World) (hb:Below w.heap.size w W)=>hr▸itoa_any ((x:Int) - 1023) W (by omega) (by omega) (HLD.below hb))
   clear hr hfin hneg;go_enter Tryz.func146,Tryz.ntmps146
   have HB1:Hid (Below w.heap.size w w):=Below.refl _ _
   obtain⟨w1,hw1⟩: ∃x:World,x=w:=⟨_,rfl⟩;go_wp2_with fail
   refine(HIT.out _ (Below.refl _ _)).mono ?_;rintro e w2 ⟨rfl,hb2⟩;have HB2:=ah hb2
   clear hb2;go_wp2;go_ret;refine⟨?_,HB2.out⟩;rw[HFIN.out]
   exact uo (fun q=>Ending.returned (Value.string q)) (by apply vI;simp[Num.sg])
  have HFS:=ah (fracS_trim hf0);have t4:((f:Int) !=0)=true:=by rw[tH];omega
  have hor:=or_one f hfb;have hex14:=hexN_14 hfb;obtain⟨F,hF⟩:=aj (f+4503599627370496)
  rw[hF]at hor hex14
  have HFU:=ah (fun(W:World) (hb:Below w.heap.size w W)=>hex14▸fmtUint_any F W (HLD.below hb) (by omega) (by omega))
  obtain⟨H13,h13⟩:=aj (Num.hexN 13 f)
  have h13l:H13.length=13:=by rw[<-h13];exact Num.hexN_len 13 f
  obtain⟨z14,hz14⟩:=aj (⟨(49 :: H13).toArray⟩:ByteArray)
  have hz14l:z14.size=14:=by rw[<-hz14,size_list];simp[h13l]
  have hzd:z14.data.toList=49 :: H13:=by rw[<-hz14]
  have HZD:=ah hzd;rw[h13,hz14]at HFU;have HL13:=ah h13l;have HZL:=ah hz14l
  have hz1:(1:Int)<=z14.size:=by omega
  obtain⟨tl,htl⟩:=aj (Lib.trimRightS (Num.hexN 13 f) [48])
  have htll:tl.length<=13:=by rw[<-htl];exact trim_len13 f
  have HTR:=ah (fun(z:ByteArray) (hz:z.data.toList=Num.hexN 13 f) (W:World)=>trimZ_any z f tl hz htl W)
  rw[h13]at HTR;rw[htl]at HFS;clear htl hf0 hF hex14 h13 h13l hz14 hz14l hzd
  by_cases hneg:x<1023
  ·have hd:decide ((x:Int) - 1023<0)=true:=rQ (by omega)
   have hdx:(x:Int)<1023:=by omega
   obtain⟨r,hr⟩:=aj (Lib.itoa (-((x:Int) - 1023)))
   have hrl:r.length<=5:=by rw[<-hr];exact itoa_len5 (by omega) (by omega)
   have hfin:Num.form f ((x:Int) - 1023)=[48,120,49] ++(46 :: tl ++(109 :: r)):=by
    unfold Num.form Num.expS;rw[rY (by omega),hr,HFS.out]
    skip
   have HFIN:=ah hfin
   have HIT:=ah (fun(W:World) (hb:Below w.heap.size w W)=>hr▸itoa_any (-((x:Int) - 1023)) W (by omega) (by omega) (HLD.below hb))
   clear hr hfin hneg;go_enter Tryz.func146,Tryz.ntmps146;go_wp2_with fail
   refine(HFU.out _ (Below.refl _ _)).mono ?_;rintro e w1 ⟨rfl,hb1⟩;have HB1:=ah hb1
   clear hb1;go_wp2_with fail
   refine(HTR.out _ (by rw[Lib.extract_data,HZL.out,HZD.out];simp;exact sG (by rw[HL13.out];exact rM _)) w1).mono ?_
   rintro e w1' ⟨rfl,rfl⟩;go_wp2_with fail;refine(HIT.out _ HB1.out).mono ?_
   rintro e w2 ⟨rfl,hb2⟩;have HB2:=ah hb2;clear hb2;go_wp2;go_ret
   refine⟨?_,HB1.trans (HB2.mono HB1.size)⟩;rw[HFIN.out]
   exact uo (fun q=>Ending.returned (Value.string q)) (by apply vI;simp[Num.sg])
  have hd:decide ((x:Int) - 1023<0)=false:=rO (by omega)
  have hdx:(1023:Int)<=x:=by omega
  obtain⟨r,hr⟩:=aj (Lib.itoa ((x:Int) - 1023))
  have hrl:r.length<=5:=by rw[<-hr];exact itoa_len5 (by omega) (by omega)
  have hfin:Num.form f ((x:Int) - 1023)=[48,120,49] ++(46 :: tl ++(112 :: r)):=by
   unfold Num.form Num.expS;rw[rU (by omega),hr,HFS.out]
   skip
  have HFIN:=ah hfin
  have HIT:=ah (fun(W:World) (hb:Below w.heap.size w W)=>hr▸itoa_any ((x:Int) - 1023) W (by omega) (by omega) (HLD.below hb))
  clear hr hfin hneg;go_enter Tryz.func146,Tryz.ntmps146;go_wp2_with fail
  refine(HFU.out _ (Below.refl _ _)).mono ?_;rintro e w1 ⟨rfl,hb1⟩;have HB1:=ah hb1
  clear hb1;go_wp2_with fail
  refine(HTR.out _ (by rw[Lib.extract_data,HZL.out,HZD.out];simp;exact sG (by rw[HL13.out];exact rM _)) w1).mono ?_
  rintro e w1' ⟨rfl,rfl⟩;go_wp2_with fail;refine(HIT.out _ HB1.out).mono ?_
  rintro e w2 ⟨rfl,hb2⟩;have HB2:=ah hb2;clear hb2;go_wp2;go_ret
  refine⟨?_,HB1.trans (HB2.mono HB1.size)⟩;rw[HFIN.out]
  exact uo (fun q=>Ending.returned (Value.string q)) (by apply vI;simp[Num.sg])
 rw[rU hs]at h1;rw[rO hs];by_cases hnan:9218868437227405312<a
 ·rw[rY hnan]
  have t1:((x:Int) == 2047)=true:=by rw[uw];omega
  have t2:((f:Int) !=0)=true:=by rw[tH];omega
  clear hx hff ha hnan hs;go_enter Tryz.func146,Tryz.ntmps146;go_wp2;go_ret
  exact⟨rfl,Below.refl _ _⟩
 rw[rU hnan];by_cases hinf:a=9218868437227405312
 ·have e1:Num.fmtU a=Num.INFS:=by unfold Num.fmtU;rw[rY hinf]
  rw[e1];have t1:((x:Int) == 2047)=true:=by rw[uw];omega
  have t2:((f:Int) !=0)=false:=by rw[vk];omega
  clear hx hff ha hnan hs hinf e1;go_enter Tryz.func146,Tryz.ntmps146;go_wp2;go_ret
  exact⟨rfl,Below.refl _ _⟩
 have t1:((x:Int) == 2047)=false:=by rw[rX];omega
 by_cases h0:a=0
 ·have e1:Num.fmtU a=Num.ZERO:=by unfold Num.fmtU;rw[rU hinf,rY h0]
  rw[e1];have t2:((x:Int) == 0)=true:=by rw[uw];omega
  have t3:((f:Int) == 0)=true:=by rw[uw];omega
  clear hx hff ha hnan hs hinf h0 e1;go_enter Tryz.func146,Tryz.ntmps146;go_wp2;go_ret
  exact⟨rfl,Below.refl _ _⟩
 have e1:Num.fmtU a=Num.form (Num.nfrac a) (Num.nexp a):=by unfold Num.fmtU;rw[rU hinf,rU h0]
 rw[e1];clear e1;by_cases hx0:x=0
 ·have haf:a=f:=by omega
  obtain⟨u1,u2,u3,u4⟩:=Num.up_spec h0 (by omega)
  have en:Num.nexp a= -1022 -(Num.up a:Int):=by unfold Num.nexp;rw[rY (by omega)]
  have fn:Num.nfrac a=a*2 ^ Num.up a - 4503599627370496:=by unfold Num.nfrac;rw[rY (by omega)]
  have hbl:Lib.bitLen f+Num.up a=53:=by have:=u1;unfold Num.up at this⊢;rw[haf]at this⊢;omega
  have hlz:=(Tryz.bits_LeadingZeros64 (f:Int) w (by omega) (by omega)).mono fun e w' (h:_/\w'=w)=>(⟨h.1,h.2.symm⟩:_/\w=w')
  rw[zW,show(64:Int) -(Lib.bitLen f:Int)=(Num.up a:Int)+11 by omega]at hlz
  rw[en,fn];obtain⟨U,hU⟩:=aj (Num.up a);rw[hU]at u1 u2 u3 u4 hlz⊢
  obtain⟨G,hG⟩:=aj (a*2 ^ U);rw[hG]at u3 u4⊢
  have t2:((x:Int) == 0)=true:=by rw[uw];omega
  have t3:((f:Int) == 0)=false:=by rw[rX];omega
  have hU1:(1:Int)<=U:=by omega
  have hU2:(U:Int)<=52:=by omega
  obtain⟨g,hg⟩:=aj (G - 4503599627370496);have hgb:g<4503599627370496:=by omega
  have hsh:IntKind.u64.wrap ((f:Int)*2 ^ U)=(G:Int):=by
   rw[show(f:Int)*2 ^ U=(G:Int) by rw[<-hG,haf];simp,IntKind.wrap_u64]
   omega
  have hmk:bits BinOp.and IntKind.u64 (G:Int) 4503599627370495=(g:Int):=by
   rw[and_mask G (by omega)]
   omega
  rw[hg,show -1022 -(U:Int)=1 -(U:Int) - 1023 by omega]
  have HLZ:=ah hlz;clear hlz hG haf hbl en fn hU hx hff ha hnan hs hinf h0 hx0 hg u3 u4
  by_cases hf0:g=0
  ·subst hf0
   have hd:decide (1 -(U:Int) - 1023<0)=true:=rQ (by omega)
   have hdx:(1:Int)<=U:=by omega
   obtain⟨r,hr⟩:=aj (Lib.itoa (-(1 -(U:Int) - 1023)))
   have hrl:r.length<=5:=by rw[<-hr];exact itoa_len5 (by omega) (by omega)
   have hfin:Num.form 0 (1 -(U:Int) - 1023)=[48,120,49] ++([] ++(109 :: r)):=by
    unfold Num.form Num.expS;rw[rY (by omega),hr]
    rfl
   have HFIN:=ah hfin
   have HIT:=ah (fun(W:World) (hb:Below w.heap.size w W)=>hr▸itoa_any (-(1 -(U:Int) - 1023)) W (by omega) (by omega) (HLD.below hb))
   clear hr hfin;go_enter Tryz.func146,Tryz.ntmps146;go_wp2_with fail;refine HLZ.mono ?_
   rintro e w' ⟨rfl,rfl⟩;have HB1:Hid (Below w.heap.size w w):=Below.refl _ _
   obtain⟨w1,hw1⟩: ∃x:World,x=w:=⟨_,rfl⟩;go_wp2_with fail
   refine(HIT.out _ (Below.refl _ _)).mono ?_;rintro e w2 ⟨rfl,hb2⟩;have HB2:=ah hb2
   clear hb2;go_wp2;go_ret;refine⟨?_,HB2.out⟩;rw[HFIN.out]
   exact uo (fun q=>Ending.returned (Value.string q)) (by apply vI;simp[Num.sg])
  have HFS:=ah (fracS_trim hf0);have t4:((g:Int) !=0)=true:=by rw[tH];omega
  have hor:=or_one g hgb;have hex14:=hexN_14 hgb;obtain⟨F,hF⟩:=aj (g+4503599627370496)
  rw[hF]at hor hex14
  have HFU:=ah (fun(W:World) (hb:Below w.heap.size w W)=>hex14▸fmtUint_any F W (HLD.below hb) (by omega) (by omega))
  obtain⟨H13,h13⟩:=aj (Num.hexN 13 g)
  have h13l:H13.length=13:=by rw[<-h13];exact Num.hexN_len 13 f
  obtain⟨z14,hz14⟩:=aj (⟨(49 :: H13).toArray⟩:ByteArray)
  have hz14l:z14.size=14:=by rw[<-hz14,size_list];simp[h13l]
  have hzd:z14.data.toList=49 :: H13:=by rw[<-hz14]
  have HZD:=ah hzd;rw[h13,hz14]at HFU;have HL13:=ah h13l;have HZL:=ah hz14l
  have hz1:(1:Int)<=z14.size:=by omega
  obtain⟨tl,htl⟩:=aj (Lib.trimRightS (Num.hexN 13 g) [48])
  have htll:tl.length<=13:=by rw[<-htl];exact trim_len13 g
  have HTR:=ah (fun(z:ByteArray) (hz:z.data.toList=Num.hexN 13 g) (W:World)=>trimZ_any z g tl hz htl W)
  rw[h13]at HTR;rw[htl]at HFS;clear htl hf0 hF hex14 h13 h13l hz14 hz14l hzd
  have hd:decide (1 -(U:Int) - 1023<0)=true:=rQ (by omega)
  have hdx:(1:Int)<=U:=by omega
  obtain⟨r,hr⟩:=aj (Lib.itoa (-(1 -(U:Int) - 1023)))
  have hrl:r.length<=5:=by rw[<-hr];exact itoa_len5 (by omega) (by omega)
  have hfin:Num.form g (1 -(U:Int) - 1023)=[48,120,49] ++(46 :: tl ++(109 :: r)):=by
   unfold Num.form Num.expS;rw[rY (by omega),hr,HFS.out]
   skip
  have HFIN:=ah hfin
  have HIT:=ah (fun(W:World) (hb:Below w.heap.size w W)=>hr▸itoa_any (-(1 -(U:Int) - 1023)) W (by omega) (by omega) (HLD.below hb))
  clear hr hfin;go_enter Tryz.func146,Tryz.ntmps146;go_wp2_with fail;refine HLZ.mono ?_
  rintro e w' ⟨rfl,rfl⟩;go_wp2_with fail;refine(HFU.out _ (Below.refl _ _)).mono ?_
  rintro e w1 ⟨rfl,hb1⟩;have HB1:=ah hb1;clear hb1;go_wp2_with fail
  refine(HTR.out _ (by rw[Lib.extract_data,HZL.out,HZD.out];simp;exact sG (by rw[HL13.out];exact rM _)) w1).mono ?_
  rintro e w1' ⟨rfl,rfl⟩;go_wp2_with fail;refine(HIT.out _ HB1.out).mono ?_
  rintro e w2 ⟨rfl,hb2⟩;have HB2:=ah hb2;clear hb2;go_wp2;go_ret
  refine⟨?_,HB1.trans (HB2.mono HB1.size)⟩;rw[HFIN.out]
  exact uo (fun q=>Ending.returned (Value.string q)) (by apply vI;simp[Num.sg])
 have t2:((x:Int) == 0)=false:=by rw[rX];omega
 have en:Num.nexp a=(x:Int) - 1023:=by unfold Num.nexp;rw[rU (by omega),hx]
 have fn:Num.nfrac a=f:=by unfold Num.nfrac;rw[rU (by omega),hff]
 rw[en,fn];clear en fn hx hff ha hnan hs hinf h0;have hx1:(1:Int)<=x:=by omega
 clear hx0;by_cases hf0:f=0
 ·subst hf0
  by_cases hneg:x<1023
  ·have hd:decide ((x:Int) - 1023<0)=true:=rQ (by omega)
   have hdx:(x:Int)<1023:=by omega
   obtain⟨r,hr⟩:=aj (Lib.itoa (-((x:Int) - 1023)))
   have hrl:r.length<=5:=by rw[<-hr];exact itoa_len5 (by omega) (by omega)
   have hfin:Num.form 0 ((x:Int) - 1023)=[48,120,49] ++([] ++(109 :: r)):=by
    unfold Num.form Num.expS;rw[rY (by omega),hr]
    rfl
   have HFIN:=ah hfin
   have HIT:=ah (fun(W:World) (hb:Below w.heap.size w W)=>hr▸itoa_any (-((x:Int) - 1023)) W (by omega) (by omega) (HLD.below hb))
   clear hr hfin hneg;go_enter Tryz.func146,Tryz.ntmps146
   have HB1:Hid (Below w.heap.size w w):=Below.refl _ _
   obtain⟨w1,hw1⟩: ∃x:World,x=w:=⟨_,rfl⟩;go_wp2_with fail
   refine(HIT.out _ (Below.refl _ _)).mono ?_;rintro e w2 ⟨rfl,hb2⟩;have HB2:=ah hb2
   clear hb2;go_wp2;go_ret;refine⟨?_,HB2.out⟩;rw[HFIN.out]
   exact uo (fun q=>Ending.returned (Value.string q)) (by apply vI;simp[Num.sg])
  have hd:decide ((x:Int) - 1023<0)=false:=rO (by omega)
  have hdx:(1023:Int)<=x:=by omega
  obtain⟨r,hr⟩:=aj (Lib.itoa ((x:Int) - 1023))
  have hrl:r.length<=5:=by rw[<-hr];exact itoa_len5 (by omega) (by omega)
  have hfin:Num.form 0 ((x:Int) - 1023)=[48,120,49] ++([] ++(112 :: r)):=by
   unfold Num.form Num.expS;rw[rU (by omega),hr]
   rfl
  have HFIN:=ah hfin
  have HIT:=ah (fun(W:World) (hb:Below w.heap.size w W)=>hr▸itoa_any ((x:Int) - 1023) W (by omega) (by omega) (HLD.below hb))
  clear hr hfin hneg;go_enter Tryz.func146,Tryz.ntmps146
  have HB1:Hid (Below w.heap.size w w):=Below.refl _ _
  obtain⟨w1,hw1⟩: ∃x:World,x=w:=⟨_,rfl⟩;go_wp2_with fail
  refine(HIT.out _ (Below.refl _ _)).mono ?_;rintro e w2 ⟨rfl,hb2⟩;have HB2:=ah hb2
  clear hb2;go_wp2;go_ret;refine⟨?_,HB2.out⟩;rw[HFIN.out]
  exact uo (fun q=>Ending.returned (Value.string q)) (by apply vI;simp[Num.sg])
 have HFS:=ah (fracS_trim hf0);have t4:((f:Int) !=0)=true:=by rw[tH];omega
 have hor:=or_one f hfb;have hex14:=hexN_14 hfb;obtain⟨F,hF⟩:=aj (f+4503599627370496)
 rw[hF]at hor hex14
 have HFU:=ah (fun(W:World) (hb:Below w.heap.size w W)=>hex14▸fmtUint_any F W (HLD.below hb) (by omega) (by omega))
 obtain⟨H13,h13⟩:=aj (Num.hexN 13 f)
 have h13l:H13.length=13:=by rw[<-h13];exact Num.hexN_len 13 f
 obtain⟨z14,hz14⟩:=aj (⟨(49 :: H13).toArray⟩:ByteArray)
 have hz14l:z14.size=14:=by rw[<-hz14,size_list];simp[h13l]
 have hzd:z14.data.toList=49 :: H13:=by rw[<-hz14]
 have HZD:=ah hzd;rw[h13,hz14]at HFU;have HL13:=ah h13l;have HZL:=ah hz14l
 have hz1:(1:Int)<=z14.size:=by omega
 obtain⟨tl,htl⟩:=aj (Lib.trimRightS (Num.hexN 13 f) [48])
 have htll:tl.length<=13:=by rw[<-htl];exact trim_len13 f
 have HTR:=ah (fun(z:ByteArray) (hz:z.data.toList=Num.hexN 13 f) (W:World)=>trimZ_any z f tl hz htl W)
 rw[h13]at HTR;rw[htl]at HFS;clear htl hf0 hF hex14 h13 h13l hz14 hz14l hzd
 by_cases hneg:x<1023
 ·have hd:decide ((x:Int) - 1023<0)=true:=rQ (by omega)
  have hdx:(x:Int)<1023:=by omega
  obtain⟨r,hr⟩:=aj (Lib.itoa (-((x:Int) - 1023)))
  have hrl:r.length<=5:=by rw[<-hr];exact itoa_len5 (by omega) (by omega)
  have hfin:Num.form f ((x:Int) - 1023)=[48,120,49] ++(46 :: tl ++(109 :: r)):=by
   unfold Num.form Num.expS;rw[rY (by omega),hr,HFS.out]
   skip
  have HFIN:=ah hfin
  have HIT:=ah (fun(W:World) (hb:Below w.heap.size w W)=>hr▸itoa_any (-((x:Int) - 1023)) W (by omega) (by omega) (HLD.below hb))
  clear hr hfin hneg;go_enter Tryz.func146,Tryz.ntmps146;go_wp2_with fail
  refine(HFU.out _ (Below.refl _ _)).mono ?_;rintro e w1 ⟨rfl,hb1⟩;have HB1:=ah hb1
  clear hb1;go_wp2_with fail
  refine(HTR.out _ (by rw[Lib.extract_data,HZL.out,HZD.out];simp;exact sG (by rw[HL13.out];exact rM _)) w1).mono ?_
  rintro e w1' ⟨rfl,rfl⟩;go_wp2_with fail;refine(HIT.out _ HB1.out).mono ?_
  rintro e w2 ⟨rfl,hb2⟩;have HB2:=ah hb2;clear hb2;go_wp2;go_ret
  refine⟨?_,HB1.trans (HB2.mono HB1.size)⟩;rw[HFIN.out]
  exact uo (fun q=>Ending.returned (Value.string q)) (by apply vI;simp[Num.sg])
 have hd:decide ((x:Int) - 1023<0)=false:=rO (by omega)
 have hdx:(1023:Int)<=x:=by omega
 obtain⟨r,hr⟩:=aj (Lib.itoa ((x:Int) - 1023))
 have hrl:r.length<=5:=by rw[<-hr];exact itoa_len5 (by omega) (by omega)
 have hfin:Num.form f ((x:Int) - 1023)=[48,120,49] ++(46 :: tl ++(112 :: r)):=by
  unfold Num.form Num.expS;rw[rU (by omega),hr,HFS.out]
  skip
 have HFIN:=ah hfin
 have HIT:=ah (fun(W:World) (hb:Below w.heap.size w W)=>hr▸itoa_any ((x:Int) - 1023) W (by omega) (by omega) (HLD.below hb))
 clear hr hfin hneg;go_enter Tryz.func146,Tryz.ntmps146;go_wp2_with fail
 refine(HFU.out _ (Below.refl _ _)).mono ?_;rintro e w1 ⟨rfl,hb1⟩;have HB1:=ah hb1
 clear hb1;go_wp2_with fail
 refine(HTR.out _ (by rw[Lib.extract_data,HZL.out,HZD.out];simp;exact sG (by rw[HL13.out];exact rM _)) w1).mono ?_
 rintro e w1' ⟨rfl,rfl⟩;go_wp2_with fail;refine(HIT.out _ HB1.out).mono ?_
 rintro e w2 ⟨rfl,hb2⟩;have HB2:=ah hb2;clear hb2;go_wp2;go_ret
 refine⟨?_,HB1.trans (HB2.mono HB1.size)⟩;rw[HFIN.out]
 exact uo (fun q=>Ending.returned (Value.string q)) (by apply vI;simp[Num.sg])
theorem hexIx_fin: ∀c:Fin 256,Lib.indexByte [48,49,50,51,52,53,54,55,56,57,97,98,99,100,101,102] (UInt8.ofNat c.val)=match Num.hexv (UInt8.ofNat c.val) with|some d=>(d:Int)|none=> -1:=by decide+kernel
theorem hexIx (c:UInt8):Lib.indexByte [48,49,50,51,52,53,54,55,56,57,97,98,99,100,101,102] c=match Num.hexv c with|some d=>(d:Int)|none=> -1:=by
 have:=hexIx_fin ⟨c.toNat,zX c⟩
 simpa using this
theorem or_low (n d:Nat) (hn:n<1152921504606846976) (hd:d<16):bits BinOp.or IntKind.u64 ((n:Int)*16) (d:Int)=((n*16+d:Nat):Int):=by
 rw[show(n:Int)*16=((n*16:Nat):Int) by omega,bits_or_u64_nat _ _ (by omega) (by omega)]
 congr 1
 have h:=xZ (i:=4) (b:=d) hd n;rw[xu,show(16:Nat)=2 ^ 4 from rfl,<-h]
theorem fracG_cons (c:UInt8) (h:List UInt8):Num.fracG (c :: h)=if c≠46\/h=[]\/13<h.length\/h.getLast?=some 48 then none else(Num.hexVal h 0).map (· *16 ^(13 - h.length)):=rfl
def FracRes (r:Option Nat) (w:World) (e:Ending) (w':World):Prop:=e=.returned (.tuple #[.int .u64 (r.getD 0:Nat),.bool r.isSome])/\w=w'
theorem hexVal_take {t:List UInt8} {k n:Nat} {c:UInt8} (h:Num.hexVal (t.take k) 0=some n) (hc:t[k]?=some c):Num.hexVal (t.take (k+1)) 0=(Num.hexv c).map (n*16+ ·):=by
 obtain⟨hk,e⟩:=rZ.1 hc;rw[vC hk,Num.hexVal_app,h,e];simp only[zD,Num.hexVal]
 cases Num.hexv c<;>rfl
theorem hexVal_lt: ∀(t:List UInt8) (a n:Nat),Num.hexVal t a=some n->n<(a+1)*16 ^ t.length
 |[],a,n,h=>by simp[Num.hexVal]at h;subst h;simp
 |c :: r,a,n,h=>by
  simp only[Num.hexVal]at h;cases hc:Num.hexv c with
  |none=>rw[hc]at h;cases h
  |some d=>
   rw[hc]at h;have h1:=hexVal_lt r _ n h;have hd:=Num.hexv_lt hc
   have h2:(a*16+d+1)*16 ^ r.length<=((a+1)*16)*16 ^ r.length:=vU _ (by omega)
   rw[sS,vN,xu (16 ^ r.length) 16,<-xG];exact sZ h1 h2
theorem hexVal_stop: ∀(t:List UInt8) (k a:Nat) (c:UInt8),t[k]?=some c->Num.hexv c=none->Num.hexVal t a=none
 |[],k,a,c,h,_=>by simp at h
 |x :: r,0,a,c,h,hn=>by
  simp at h;subst h;simp only[Num.hexVal];rw[hn]
 |x :: r,k+1,a,c,h,hn=>by
  simp only[sN]at h;simp only[Num.hexVal];cases Num.hexv x with
  |none=>rfl
  |some d=>exact hexVal_stop r k _ c h hn
theorem fraction_any (s:ByteArray) (w:World) (hs:s.size<=1073741824):
  Calls Tryz.prog 247 #[.string s] w (FracRes (Num.fracG s.data.toList) w):=by
 obtain⟨l,hl⟩:=aj s.data.toList;rw[hl];cases l with
 |nil=>
  have h0:s.size=0:=by rw[Lib.size_eq,hl];rfl
  have hsn:s.toList.isEmpty=true:=by rw[Lib.toList_data,hl];rfl
  have hse:(s.toList ==[])=true:=by rw[Lib.toList_data,hl];rfl
  clear hl h0;go_enter Tryz.func247,Tryz.ntmps247;go_wp2
  go_ret2
  exact⟨rfl,rfl⟩
 |cons c t=>
  have hsz:s.size=t.length+1:=by rw[Lib.size_eq,hl];rfl
  have hpos:0<s.size:=by omega
  have hp1:(1:Int)<=s.size:=by omega
  have hp0:(0:Int)<s.size:=by omega
  have hsn:s.toList.isEmpty=false:=by rw[Lib.toList_data,hl];rfl
  have hse:(s.toList ==[])=false:=by rw[Lib.toList_data,hl];rfl
  have h0:s[0]'hpos=c:=by
   have h1:=Lib.data_getElem? s 0 hpos;rw[hl]at h1
   simpa using h1.symm
  obtain⟨z,hz⟩:=aj (s.extract 1 s.size)
  have hzl:z.data.toList=t:=by
   rw[<-hz,Lib.extract_data,hl];simp;exact sG (by omega)
  have hzs:z.size=t.length:=by rw[Lib.size_eq,hzl]
  have hzb:z.size<=1073741824:=by omega
  have HZL:=ah hzl;have HZS:=ah hzs;clear hl hsz;by_cases h46:c=46
  ·have t1:(((s[0]'hpos).toNat:Int) !=46)=false:=by rw[h0,h46];rfl
   cases t with
   |nil=>
    have hzn:z.toList.isEmpty=true:=by rw[Lib.toList_data,hzl];rfl
    have hze:(z.toList ==[])=true:=by rw[Lib.toList_data,hzl];rfl
    have hr:Num.fracG [c]=none:=by unfold Num.fracG;simp
    rw[hr];clear h0 hzl hzs hr h46;go_enter Tryz.func247,Tryz.ntmps247;go_wp2
    go_ret2
    exact⟨rfl,rfl⟩
   |cons x y=>
    have hzn:z.toList.isEmpty=false:=by rw[Lib.toList_data,hzl];rfl
    have hze:(z.toList ==[])=false:=by rw[Lib.toList_data,hzl];rfl
    by_cases h13:13<(x :: y).length
    ·have hr:Num.fracG (c :: x :: y)=none:=by
      rw[fracG_cons,rY (.inr (.inr (.inl h13)))]
     rw[hr];have t2:(13:Int)<z.size:=by omega
     clear h0 hzl hzs hr h46 h13;go_enter Tryz.func247,Tryz.ntmps247;go_wp2
     go_ret2
     exact⟨rfl,rfl⟩
    obtain⟨t,ht⟩:=aj (x :: y);rw[ht]at hzl hzs h13 HZL HZS⊢
    have htn:t≠ []:=by rw[<-ht];simp
    have hzp:0<z.size:=by rw[hzs,<-ht];simp
    have hzp1:(1:Int)<=z.size:=by omega
    have t2:(z.size:Int)<=13:=by omega
    have hzm:z.size - 1<z.size:=by omega
    have hlast:t.getLast?=some (z[z.size - 1]'hzm):=by
     have h1:=Lib.data_getElem? z (z.size - 1) hzm;rw[hzl]at h1;rw[BM,<-hzs,h1]
    have ez:((z.size:Int) - 1).toNat=z.size - 1:=by omega
    by_cases h48:(z[z.size - 1]'hzm)=48
    ·have hr:Num.fracG (c :: t)=none:=by
      rw[fracG_cons,rY (.inr (.inr (.inr (by rw[hlast,h48]))))]
     rw[hr];have t3:(((z[z.size - 1]'hzm).toNat:Int) == 48)=true:=by rw[h48];rfl
     have EZ:=ah ez;clear h0 hzl hzs hr h46 h13 hlast h48 ht htn ez
     go_enter Tryz.func247,Tryz.ntmps247;go_wp2
     go_ret2
     exact⟨rfl,rfl⟩
    have t3:(((z[z.size - 1]'hzm).toNat:Int) == 48)=false:=by
     rw[rX];intro e;exact h48 (vS.1 (by show(z[z.size - 1]'hzm).toNat=48;omega))
    have hr:Num.fracG (c :: t)=(Num.hexVal t 0).map (· *16 ^(13 - t.length)):=by
     rw[fracG_cons,rU];rintro(h|h|h|h)
     ·exact h h46
     ·exact htn h
     ·exact h13 h
     rw[hlast]at h;exact h48 (tN h)
    obtain⟨R,hR⟩:=aj (Num.fracG (c :: t));rw[hR];rw[hR]at hr;have HR:=ah hr
    have hzg: ∀(k:Nat) (h:k<z.size),t[k]?=some (z[k]'h):=fun k h=>by rw[<-hzl];exact Lib.data_getElem? z k h
    have HZG:=ah hzg;clear h0 hzl hzs hr h46 h13 hlast h48 ht htn ez hR hzg
    go_enter Tryz.func247,Tryz.ntmps247;go_wp2;clear t3
    go_loopg [5,34] z.size (fun g a i wr=> ∃(k n:Nat),k+g=z.size/\i=.int .i64 k/\a=.int .u64 n/\Num.hexVal (t.take k) 0=some n/\w=wr)
    case atStart=>exact⟨0,0,by omega,rfl,rfl,rfl,rfl⟩
    obtain⟨k,n,hk,rfl,rfl,hv,rfl⟩:=hrel;have HK:=ah hk;have HV:=ah hv
    have hnl:=hexVal_lt _ _ _ hv;have htl:(t.take k).length<=k:=List.length_take_le _ _
    clear hk hv;cases gk with
    |zero=>
     have hkz:k=z.size:=by have:=HK.out;omega
     have hfin:Num.hexVal t 0=some n:=by
      have:=HV.out
      rwa [sG (by rw[hkz,HZS.out];exact rM _)]at this
     have hr:=HR.out;rw[hfin]at hr;have htz:t.length=z.size:=HZS.symm;rw[vg,htz]at hr
     obtain⟨m,hm⟩:=aj z.size
     have hnm:n<16 ^ m:=by
      have h1:=hexVal_lt _ _ _ hfin;rw[htz,hm]at h1;omega
     have hpw:16 ^ m*16 ^(13 - m)=4503599627370496:=by
      rw[<-y5,show m+(13 - m)=13 by omega]
     have hsh:IntKind.u64.wrap ((n:Int)*2 ^(52 - 4*m))=((n*16 ^(13 - m):Nat):Int):=by
      have e1:(2:Nat) ^(52 - 4*m)=16 ^(13 - m):=by rw[show 52 - 4*m=4*(13 - m) by omega,Nat.pow_mul]
      have e2:(n:Int)*2 ^(52 - 4*m)=((n*16 ^(13 - m):Nat):Int):=by rw[<-e1];simp
      have h3:n*16 ^(13 - m)<16 ^ m*16 ^(13 - m):=yV hnm (yM (by decide))
      rw[hpw]at h3;rw[e2,IntKind.wrap_u64];omega
     rw[hm]at hr;have HR2:=ah hr;have hkd:decide (k<z.size)=false:=rO (by omega)
     have em:(52 - 4*(z.size:Int)).toNat=52 - 4*m:=by omega
     have e0:(0:Int)<=52 - 4*(z.size:Int):=by omega
     have HM:=ah hm;clear hkz hfin hr htz hm hnm hpw;go_wp2
     go_ret2
     refine⟨?_,rfl⟩;rw[HR2.out]
     have e9:((n*16 ^(13 - m):Nat):Int)=(n:Int)*16 ^(13 - m):=by simp
     show Ending.returned (.tuple #[.int .u64 ((n:Int)*16 ^(13 - m)),.bool true])=.returned (.tuple #[.int .u64 ((n*16 ^(13 - m):Nat):Int),.bool true])
     rw[e9]
    |succ g=>
     have hlt:k<z.size:=by have:=HK.out;omega
     have hlt':(k:Int)<z.size:=by omega
     obtain⟨x,hx⟩:=aj (z[k]'hlt);have hget:=HZG.out k hlt;rw[hx]at hget
     have hix:=hexIx x
     have hci:=Tryz.strings_IndexByte ⟨#[48,49,50,51,52,53,54,55,56,57,97,98,99,100,101,102]⟩ ((z[k]'hlt).toNat:Int) w
     have exx:((((z[k]'hlt).toNat:Int)).toNat.toUInt8)=x:=by rw[hx];simp
     rw[exx]at hci;cases hv:Num.hexv x with
     |none=>
      rw[hv]at hix
      have hci2:Calls Tryz.prog 201 #[.string ⟨#[48,49,50,51,52,53,54,55,56,57,97,98,99,100,101,102]⟩,.int .u8 ((z[k]'hlt).toNat:Int)] w fun e w'=>e=.returned (.int .i64 (-1))/\w=w':=hci.mono fun e w' ⟨h1,h2⟩=>⟨by rw[h1];exact uo (fun q=>Ending.returned (Value.int .i64 q)) hix,h2.symm⟩
      have HCI:=ah hci2;have hr:=HR.out;rw[hexVal_stop t k 0 x hget hv]at hr;rw[hr]
      clear hx hget hix hci exx hv hci2 hr hnl htl;go_wp2_with fail;refine HCI.mono ?_
      rintro e w' ⟨rfl,rfl⟩;go_wp2
      go_ret2
      exact⟨rfl,rfl⟩
     |some d=>
      rw[hv]at hix;have hd:=Num.hexv_lt hv
      have hci2:Calls Tryz.prog 201 #[.string ⟨#[48,49,50,51,52,53,54,55,56,57,97,98,99,100,101,102]⟩,.int .u8 ((z[k]'hlt).toNat:Int)] w fun e w'=>e=.returned (.int .i64 d)/\w=w':=hci.mono fun e w' ⟨h1,h2⟩=>⟨by rw[h1];exact uo (fun q=>Ending.returned (Value.int .i64 q)) hix,h2.symm⟩
      have HCI:=ah hci2;have hnx:=hexVal_take HV.out hget;rw[hv,vg]at hnx
      have HNX:=ah hnx;have hp12:16 ^(t.take k).length<=16 ^ 12:=vY (by decide) (by omega)
      have e12:(16:Nat) ^ 12=281474976710656:=by decide
      have hnb:n<281474976710656:=by omega
      have hor:=or_low n d (by omega) hd
      have hdi:(0:Int)<=d:=by omega
      have hdi2:(d:Int)<=15:=by omega
      have hni:(n:Int)<=281474976710656:=by omega
      clear hx hget hix hci exx hv hci2 hnl htl hnx hp12 e12;go_wp2_with fail
      refine HCI.mono ?_;rintro e w' ⟨rfl,rfl⟩;go_wp2
      go_roundg g
      case measure=>omega
      exact⟨k+1,_,by have:=HK.out;omega,by go_num,rfl,HNX.out,rfl⟩
  have t1:(((s[0]'hpos).toNat:Int) !=46)=true:=by
   rw[h0,tH];intro e;exact h46 (vS.1 (by show c.toNat=46;omega))
  have hr:Num.fracG (c :: t)=none:=by rw[fracG_cons,rY (.inl h46)]
  rw[hr];clear h0 hzl hzs hr h46;go_enter Tryz.func247,Tryz.ntmps247;go_wp2
  go_ret2
  exact⟨rfl,rfl⟩
end Go.Proofs.YtanlehkalkafdaaGreatDoor
