/- Contracts and plain laws,part 6. -/
import Derived.Test.YtoofbflplhbpbaaGreatDoorBK05
set_option maxHeartbeats 64000000
set_option maxRecDepth 1000000
set_option linter.all false
namespace Go.Proofs.YtoofbflplhbpbaaGreatDoor
open Go.RowKit
theorem Ic (b:Nat) (hb:b<18446744073709551616):bits BinOp.and IntKind.u64 (b:Int) 9223372036854775808=if 9223372036854775808≤b then 9223372036854775808 else 0:=by
 rw [show (9223372036854775808:Int)=((9223372036854775808:Nat):Int) from rfl,bits_and_u64_nat b _ hb (by omega)]
 have key:b &&& 9223372036854775808=if 9223372036854775808≤b then 9223372036854775808 else 0:=by
  apply Nat.eq_of_testBit_eq
  intro i
  rw [Nat.testBit_and,show (9223372036854775808:Nat)=2 ^ 63 from rfl,Nat.testBit_two_pow]
  by_cases hi:63=i
  ·subst hi
   rw [Nat.testBit_eq_decide_div_mod_eq]
   by_cases h:2 ^ 63≤b
   ·rw [if_pos h,Nat.testBit_two_pow,decide_eq_true (by omega)];rfl
   ·rw [if_neg h,decide_eq_false (by omega)];simp
  ·rw [decide_eq_false hi,Bool.and_false]
   split
   ·rw [Nat.testBit_two_pow,decide_eq_false hi]
   ·simp
 rw [key]
 split<;> rfl
theorem yN (b:Nat) (hb:b<18446744073709551616):bits BinOp.and IntKind.u64 ((b:Int) / 4503599627370496) 2047=((b % 9223372036854775808 / 4503599627370496:Nat):Int):=by
 rw [show ((b:Int) / 4503599627370496)=((b / 4503599627370496:Nat):Int) by omega,show (2047:Int)=((2047:Nat):Int) from rfl,bits_and_u64_nat _ _ (by omega) (by omega),show (2047:Nat)=2 ^ 11 - 1 from rfl,Nat.and_two_pow_sub_one_eq_mod]
 omega
theorem sQ (b:Nat) (hb:b<18446744073709551616):bits BinOp.and IntKind.u64 (b:Int) 4503599627370495=((b % 9223372036854775808 % 4503599627370496:Nat):Int):=by
 rw [show (4503599627370495:Int)=((4503599627370495:Nat):Int) from rfl,bits_and_u64_nat _ _ hb (by omega),show (4503599627370495:Nat)=2 ^ 52 - 1 from rfl,Nat.and_two_pow_sub_one_eq_mod]
 omega
theorem or_one (f:Nat) (hf:f<4503599627370496):bits BinOp.or IntKind.u64 (f:Int) 4503599627370496=((f+4503599627370496:Nat):Int):=by
 rw [show (4503599627370496:Int)=((4503599627370496:Nat):Int) from rfl,bits_or_u64_nat f _ (by omega) (by omega)]
 congr 1
 have h:=Nat.two_pow_add_eq_or_of_lt (i:=52) (b:=f) hf 1
 rw [Nat.or_comm]
 rw [show (4503599627370496:Nat)=2 ^ 52*1 from rfl,←h]
 omega
theorem pz {f:Nat} (hf:f<4503599627370496):Num.hexN 14 (f+4503599627370496)=49 :: Num.hexN 13 f:=by
 rw [sO]
 have e:(16:Nat) ^ 13=4503599627370496:=by decide
 rw [e,show (f+4503599627370496) / 4503599627370496 % 16=1 by omega]
 have key: ∀(k q n:Nat),Num.hexN k (n+q*16 ^ k)=Num.hexN k n:=by
  intro k
  induction k with
  | zero=>intro q n;rfl
  | succ k ih=>
   intro q n
   have e2:q*16 ^(k+1)=(q*16 ^ k)*16:=by rw [Nat.pow_succ,Nat.mul_assoc]
   rw [Num.hexN,Num.hexN,e2,Nat.add_mul_div_right _ _ (by decide:0<16),Nat.add_mul_mod_self_right,ih]
 have h:=key 13 1 f
 rw [e,Nat.one_mul] at h
 rw [h]
 rfl
theorem nC {f:Nat} (h:f≠0):Num.fV f=46 :: Lib.trimRightS (Num.hexN 13 f) [48]:=by unfold Num.fV;rw [if_neg h]
theorem nD (f:Nat):(Lib.trimRightS (Num.hexN 13 f) [48]).length≤13:=by
 obtain ⟨j,h1,_⟩:=Num.oP _ (Num.hexN 13 f) rfl
 have h2:=Num.jc 13 f
 rw [h1,List.length_append] at h2
 omega
theorem pF (z:ByteArray) (f:Nat) (tl:List UInt8) (hz:z.data.toList=Num.hexN 13 f) (htl:Lib.trimRightS (Num.hexN 13 f) [48]=tl) (w:World):
  Calls Tryz.prog 128 #[.string z, .string ⟨#[48]⟩] w fun e w'=>e= .returned (.string ⟨tl.toArray⟩)∧w=w':=by
 have hs:z.size≤9223372036854775807:=by rw [Lib.size_eq,hz,Num.jc];omega
 refine (Tryz.strings_TrimRight_one z 48 (by decide) w hs).mono fun e w' ⟨h1,h2⟩=>⟨?_,h2.symm⟩
 rw [h1,hz,←Lib.trimRightS_one,htl]
theorem fZ {n:Int} (h0: -2000≤n) (h1:n≤2000):(Lib.itoa n).length≤5:=by
 unfold Lib.itoa
 split
 ·rw [List.length_cons,Num.mM]
  have:=mZ 3 n.natAbs (by omega)
  omega
 ·rw [Num.mM]
  have:=mZ 3 n.toNat (by omega)
  omega
theorem Ie (b:Nat) (w:World) (hb:b<18446744073709551616) (hL:Laid w):
  Calls Tryz.prog 71 #[.int .u64 b] w fun e w'=>e= .returned (.string ⟨(Num.fmt b).toArray⟩)∧Below w.heap.size w w':=by
 obtain ⟨a,ha⟩: ∃a,b % 9223372036854775808=a:=⟨_,rfl⟩
 have h1:=Ic b hb
 have h2:=yN b hb
 have h3:=sQ b hb
 have hf:Num.fmt b=if 9218868437227405312<a then Num.jd else Num.sg (decide (9223372036854775808≤b)) ++ Num.aY a:=by unfold Num.fmt;rw [ha]
 rw [ha] at h2 h3
 obtain ⟨x,hx⟩: ∃x,a / 4503599627370496=x:=⟨_,rfl⟩
 obtain ⟨f,hff⟩: ∃f,a % 4503599627370496=f:=⟨_,rfl⟩
 have hfb:f<4503599627370496:=by omega
 have hxb:x≤2047:=by omega
 have hfi:(f:Int)≤4503599627370495:=by omega
 have hxi:(x:Int)≤2047:=by omega
 have hbi:(b:Int)≤18446744073709551615:=by omega
 rw [hx] at h2
 rw [hff] at h3
 rw [hf]
 have HLD:=hq7 hL
 have HX:=hq7 hx
 have HF:=hq7 hff
 clear hf hL
 by_cases hs:9223372036854775808≤b
 ·rw [if_pos hs] at h1
  rw [decide_eq_true hs]
  by_cases hnan:9218868437227405312<a
  ·rw [if_pos hnan]
   have t1:((x:Int) == 2047)=true:=by rw [beq_iff_eq];omega
   have t2:((f:Int) !=0)=true:=by rw [bne_iff_ne];omega
   clear hx hff ha hnan hs
   go_enter Tryz.func71,Tryz.ntmps71
   go_wp2
   go_ret
   exact ⟨rfl,Below.refl _ _⟩
  ·rw [if_neg hnan]
   by_cases hinf:a=9218868437227405312
   ·have e1:Num.aY a=Num.jS:=by unfold Num.aY;rw [if_pos hinf]
    rw [e1]
    have t1:((x:Int) == 2047)=true:=by rw [beq_iff_eq];omega
    have t2:((f:Int) !=0)=false:=by rw [bne_eq_false_iff_eq];omega
    clear hx hff ha hnan hs hinf e1
    go_enter Tryz.func71,Tryz.ntmps71
    go_wp2
    go_ret
    exact ⟨rfl,Below.refl _ _⟩
   ·have t1:((x:Int) == 2047)=false:=by rw [beq_eq_false_iff_ne];omega
    by_cases h0:a=0
    ·have e1:Num.aY a=Num.ZERO:=by unfold Num.aY;rw [if_neg hinf,if_pos h0]
     rw [e1]
     have t2:((x:Int) == 0)=true:=by rw [beq_iff_eq];omega
     have t3:((f:Int) == 0)=true:=by rw [beq_iff_eq];omega
     clear hx hff ha hnan hs hinf h0 e1
     go_enter Tryz.func71,Tryz.ntmps71
     go_wp2
     go_ret
     exact ⟨rfl,Below.refl _ _⟩
    ·have e1:Num.aY a=Num.form (Num.bW a) (Num.bP a):=by unfold Num.aY;rw [if_neg hinf,if_neg h0]
     rw [e1]
     clear e1
     by_cases hx0:x=0
     ·have haf:a=f:=by omega
      obtain ⟨u1,u2,u3,u4⟩:=Num.rP h0 (by omega)
      have en:Num.bP a= -1022 -(Num.up a:Int):=by unfold Num.bP;rw [if_pos (by omega)]
      have fn:Num.bW a=a*2 ^ Num.up a - 4503599627370496:=by unfold Num.bW;rw [if_pos (by omega)]
      have hbl:Lib.bitLen f+Num.up a=53:=by have:=u1;unfold Num.up at this⊢;rw [haf] at this⊢;omega
      have hlz:=(Tryz.bits_LeadingZeros64 (f:Int) w (by omega) (by omega)).mono fun e w' (h:_∧w'=w)=>(⟨h.1,h.2.symm⟩:_∧w=w')
      rw [Int.toNat_natCast,show (64:Int) -(Lib.bitLen f:Int)=(Num.up a:Int)+11 by omega] at hlz
      rw [en,fn]
      obtain ⟨U,hU⟩: ∃U,Num.up a=U:=⟨_,rfl⟩
      rw [hU] at u1 u2 u3 u4 hlz⊢
      obtain ⟨G,hG⟩: ∃G,a*2 ^ U=G:=⟨_,rfl⟩
      rw [hG] at u3 u4⊢
      have t2:((x:Int) == 0)=true:=by rw [beq_iff_eq];omega
      have t3:((f:Int) == 0)=false:=by rw [beq_eq_false_iff_ne];omega
      have hU1:(1:Int)≤U:=by omega
      have hU2:(U:Int)≤52:=by omega
      obtain ⟨g,hg⟩: ∃g,G - 4503599627370496=g:=⟨_,rfl⟩
      have hgb:g<4503599627370496:=by omega
      have hsh:IntKind.u64.wrap ((f:Int)*2 ^ U)=(G:Int):=by
       rw [show (f:Int)*2 ^ U=(G:Int) by rw [←hG,haf];simp,IntKind.wrap_u64]
       omega
      have hmk:bits BinOp.and IntKind.u64 (G:Int) 4503599627370495=(g:Int):=by
       rw [sQ G (by omega)]
       omega
      rw [hg,show -1022 -(U:Int)=1 -(U:Int) - 1023 by omega]
      have HLZ:=hq7 hlz
      clear hlz hG haf hbl en fn hU hx hff ha hnan hs hinf h0 hx0 hg u3 u4
      by_cases hf0:g=0
      ·subst hf0
       have hd:decide (1 -(U:Int) - 1023<0)=true:=decide_eq_true (by omega)
       have hdx:(1:Int)≤U:=by omega
       obtain ⟨r,hr⟩: ∃r,Lib.itoa (-(1 -(U:Int) - 1023))=r:=⟨_,rfl⟩
       have hrl:r.length≤5:=by rw [←hr];exact fZ (by omega) (by omega)
       have hfin:Num.form 0 (1 -(U:Int) - 1023)= [48,120,49] ++([] ++(109 :: r)):=by
        unfold Num.form Num.bI
        rw [if_pos (by omega),hr]
        rfl
       have HFIN:=hq7 hfin
       have HIT:=hq7 (fun (W:World) (hb:Below w.heap.size w W)=>hr▸iy (-(1 -(U:Int) - 1023)) W (by omega) (by omega) (HLD.out.below hb))
       clear hr hfin
       go_enter Tryz.func71,Tryz.ntmps71
       go_wp2_with fail
       refine HLZ.out.mono ?_
       rintro e w' ⟨rfl,rfl⟩
       have HB1:Hid (Below w.heap.size w w):=Below.refl _ _
       obtain ⟨w1,hw1⟩: ∃x:World,x=w:=⟨_,rfl⟩
       go_wp2_with fail
       refine (HIT.out _ (Below.refl _ _)).mono ?_
       rintro e w2 ⟨rfl,hb2⟩
       have HB2:=hq7 hb2
       clear hb2
       go_wp2
       go_ret
       refine ⟨?_,HB2.out⟩
       rw [HFIN.out]
       exact congrArg (fun q=>Ending.returned (Value.string q)) (by apply ByteArray.ext;simp [Num.sg])
      ·have HFS:=hq7 (nC hf0)
       have t4:((g:Int) !=0)=true:=by rw [bne_iff_ne];omega
       have hor:=or_one g hgb
       have hex14:=pz hgb
       obtain ⟨F,hF⟩: ∃F,g+4503599627370496=F:=⟨_,rfl⟩
       rw [hF] at hor hex14
       have HFU:=hq7 (fun (W:World) (hb:Below w.heap.size w W)=>hex14▸pq F W (HLD.out.below hb) (by omega) (by omega))
       obtain ⟨H13,h13⟩: ∃h,Num.hexN 13 g=h:=⟨_,rfl⟩
       have h13l:H13.length=13:=by rw [←h13];exact Num.jc 13 f
       obtain ⟨z14,hz14⟩: ∃z:ByteArray,(⟨(49 :: H13).toArray⟩:ByteArray)=z:=⟨_,rfl⟩
       have hz14l:z14.size=14:=by rw [←hz14,aJ];simp [h13l]
       have hzd:z14.data.toList=49 :: H13:=by rw [←hz14]
       have HZD:=hq7 hzd
       rw [h13,hz14] at HFU
       have HL13:=hq7 h13l
       have HZL:=hq7 hz14l
       have hz1:(1:Int)≤z14.size:=by omega
       obtain ⟨tl,htl⟩: ∃t,Lib.trimRightS (Num.hexN 13 g) [48]=t:=⟨_,rfl⟩
       have htll:tl.length≤13:=by rw [←htl];exact nD g
       have HTR:=hq7 (fun (z:ByteArray) (hz:z.data.toList=Num.hexN 13 g) (W:World)=>pF z g tl hz htl W)
       rw [h13] at HTR
       rw [htl] at HFS
       clear htl hf0 hF hex14 h13 h13l hz14 hz14l hzd
       have hd:decide (1 -(U:Int) - 1023<0)=true:=decide_eq_true (by omega)
       have hdx:(1:Int)≤U:=by omega
       obtain ⟨r,hr⟩: ∃r,Lib.itoa (-(1 -(U:Int) - 1023))=r:=⟨_,rfl⟩
       have hrl:r.length≤5:=by rw [←hr];exact fZ (by omega) (by omega)
       have hfin:Num.form g (1 -(U:Int) - 1023)= [48,120,49] ++(46 :: tl ++(109 :: r)):=by
        unfold Num.form Num.bI
        rw [if_pos (by omega),hr,HFS.out]
        skip
       have HFIN:=hq7 hfin
       have HIT:=hq7 (fun (W:World) (hb:Below w.heap.size w W)=>hr▸iy (-(1 -(U:Int) - 1023)) W (by omega) (by omega) (HLD.out.below hb))
       clear hr hfin
       go_enter Tryz.func71,Tryz.ntmps71
       go_wp2_with fail
       refine HLZ.out.mono ?_
       rintro e w' ⟨rfl,rfl⟩
       go_wp2_with fail
       refine (HFU.out _ (Below.refl _ _)).mono ?_
       rintro e w1 ⟨rfl,hb1⟩
       have HB1:=hq7 hb1
       clear hb1
       go_wp2_with fail
       refine (HTR.out _ (by rw [Lib.extract_data,HZL.out,HZD.out];simp;exact List.take_of_length_le (by rw [HL13.out];exact Nat.le_refl _)) w1).mono ?_
       rintro e w1' ⟨rfl,rfl⟩
       go_wp2_with fail
       refine (HIT.out _ HB1.out).mono ?_
       rintro e w2 ⟨rfl,hb2⟩
       have HB2:=hq7 hb2
       clear hb2
       go_wp2
       go_ret
       refine ⟨?_,HB1.out.trans (HB2.out.mono HB1.out.size)⟩
       rw [HFIN.out]
       exact congrArg (fun q=>Ending.returned (Value.string q)) (by apply ByteArray.ext;simp [Num.sg])
     ·have t2:((x:Int) == 0)=false:=by rw [beq_eq_false_iff_ne];omega
      have en:Num.bP a=(x:Int) - 1023:=by unfold Num.bP;rw [if_neg (by omega),hx]
      have fn:Num.bW a=f:=by unfold Num.bW;rw [if_neg (by omega),hff]
      rw [en,fn]
      clear en fn hx hff ha hnan hs hinf h0
      have hx1:(1:Int)≤x:=by omega
      clear hx0
      by_cases hf0:f=0
      ·subst hf0
       by_cases hneg:x<1023
       ·have hd:decide ((x:Int) - 1023<0)=true:=decide_eq_true (by omega)
        have hdx:(x:Int)<1023:=by omega
        obtain ⟨r,hr⟩: ∃r,Lib.itoa (-((x:Int) - 1023))=r:=⟨_,rfl⟩
        have hrl:r.length≤5:=by rw [←hr];exact fZ (by omega) (by omega)
        have hfin:Num.form 0 ((x:Int) - 1023)= [48,120,49] ++([] ++(109 :: r)):=by
         unfold Num.form Num.bI
         rw [if_pos (by omega),hr]
         rfl
        have HFIN:=hq7 hfin
        have HIT:=hq7 (fun (W:World) (hb:Below w.heap.size w W)=>hr▸iy (-((x:Int) - 1023)) W (by omega) (by omega) (HLD.out.below hb))
        clear hr hfin hneg
        go_enter Tryz.func71,Tryz.ntmps71
        have HB1:Hid (Below w.heap.size w w):=Below.refl _ _
        obtain ⟨w1,hw1⟩: ∃x:World,x=w:=⟨_,rfl⟩
        go_wp2_with fail
        refine (HIT.out _ (Below.refl _ _)).mono ?_
        rintro e w2 ⟨rfl,hb2⟩
        have HB2:=hq7 hb2
        clear hb2
        go_wp2
        go_ret
        refine ⟨?_,HB2.out⟩
        rw [HFIN.out]
        exact congrArg (fun q=>Ending.returned (Value.string q)) (by apply ByteArray.ext;simp [Num.sg])
       ·have hd:decide ((x:Int) - 1023<0)=false:=decide_eq_false (by omega)
        have hdx:(1023:Int)≤x:=by omega
        obtain ⟨r,hr⟩: ∃r,Lib.itoa ((x:Int) - 1023)=r:=⟨_,rfl⟩
        have hrl:r.length≤5:=by rw [←hr];exact fZ (by omega) (by omega)
        have hfin:Num.form 0 ((x:Int) - 1023)= [48,120,49] ++([] ++(112 :: r)):=by
         unfold Num.form Num.bI
         rw [if_neg (by omega),hr]
         rfl
        have HFIN:=hq7 hfin
        have HIT:=hq7 (fun (W:World) (hb:Below w.heap.size w W)=>hr▸iy ((x:Int) - 1023) W (by omega) (by omega) (HLD.out.below hb))
        clear hr hfin hneg
        go_enter Tryz.func71,Tryz.ntmps71
        have HB1:Hid (Below w.heap.size w w):=Below.refl _ _
        obtain ⟨w1,hw1⟩: ∃x:World,x=w:=⟨_,rfl⟩
        go_wp2_with fail
        refine (HIT.out _ (Below.refl _ _)).mono ?_
        rintro e w2 ⟨rfl,hb2⟩
        have HB2:=hq7 hb2
        clear hb2
        go_wp2
        go_ret
        refine ⟨?_,HB2.out⟩
        rw [HFIN.out]
        exact congrArg (fun q=>Ending.returned (Value.string q)) (by apply ByteArray.ext;simp [Num.sg])
      ·have HFS:=hq7 (nC hf0)
       have t4:((f:Int) !=0)=true:=by rw [bne_iff_ne];omega
       have hor:=or_one f hfb
       have hex14:=pz hfb
       obtain ⟨F,hF⟩: ∃F,f+4503599627370496=F:=⟨_,rfl⟩
       rw [hF] at hor hex14
       have HFU:=hq7 (fun (W:World) (hb:Below w.heap.size w W)=>hex14▸pq F W (HLD.out.below hb) (by omega) (by omega))
       obtain ⟨H13,h13⟩: ∃h,Num.hexN 13 f=h:=⟨_,rfl⟩
       have h13l:H13.length=13:=by rw [←h13];exact Num.jc 13 f
       obtain ⟨z14,hz14⟩: ∃z:ByteArray,(⟨(49 :: H13).toArray⟩:ByteArray)=z:=⟨_,rfl⟩
       have hz14l:z14.size=14:=by rw [←hz14,aJ];simp [h13l]
       have hzd:z14.data.toList=49 :: H13:=by rw [←hz14]
       have HZD:=hq7 hzd
       rw [h13,hz14] at HFU
       have HL13:=hq7 h13l
       have HZL:=hq7 hz14l
       have hz1:(1:Int)≤z14.size:=by omega
       obtain ⟨tl,htl⟩: ∃t,Lib.trimRightS (Num.hexN 13 f) [48]=t:=⟨_,rfl⟩
       have htll:tl.length≤13:=by rw [←htl];exact nD f
       have HTR:=hq7 (fun (z:ByteArray) (hz:z.data.toList=Num.hexN 13 f) (W:World)=>pF z f tl hz htl W)
       rw [h13] at HTR
       rw [htl] at HFS
       clear htl hf0 hF hex14 h13 h13l hz14 hz14l hzd
       by_cases hneg:x<1023
       ·have hd:decide ((x:Int) - 1023<0)=true:=decide_eq_true (by omega)
        have hdx:(x:Int)<1023:=by omega
        obtain ⟨r,hr⟩: ∃r,Lib.itoa (-((x:Int) - 1023))=r:=⟨_,rfl⟩
        have hrl:r.length≤5:=by rw [←hr];exact fZ (by omega) (by omega)
        have hfin:Num.form f ((x:Int) - 1023)= [48,120,49] ++(46 :: tl ++(109 :: r)):=by
         unfold Num.form Num.bI
         rw [if_pos (by omega),hr,HFS.out]
         skip
        have HFIN:=hq7 hfin
        have HIT:=hq7 (fun (W:World) (hb:Below w.heap.size w W)=>hr▸iy (-((x:Int) - 1023)) W (by omega) (by omega) (HLD.out.below hb))
        clear hr hfin hneg
        go_enter Tryz.func71,Tryz.ntmps71
        go_wp2_with fail
        refine (HFU.out _ (Below.refl _ _)).mono ?_
        rintro e w1 ⟨rfl,hb1⟩
        have HB1:=hq7 hb1
        clear hb1
        go_wp2_with fail
        refine (HTR.out _ (by rw [Lib.extract_data,HZL.out,HZD.out];simp;exact List.take_of_length_le (by rw [HL13.out];exact Nat.le_refl _)) w1).mono ?_
        rintro e w1' ⟨rfl,rfl⟩
        go_wp2_with fail
        refine (HIT.out _ HB1.out).mono ?_
        rintro e w2 ⟨rfl,hb2⟩
        have HB2:=hq7 hb2
        clear hb2
        go_wp2
        go_ret
        refine ⟨?_,HB1.out.trans (HB2.out.mono HB1.out.size)⟩
        rw [HFIN.out]
        exact congrArg (fun q=>Ending.returned (Value.string q)) (by apply ByteArray.ext;simp [Num.sg])
       ·have hd:decide ((x:Int) - 1023<0)=false:=decide_eq_false (by omega)
        have hdx:(1023:Int)≤x:=by omega
        obtain ⟨r,hr⟩: ∃r,Lib.itoa ((x:Int) - 1023)=r:=⟨_,rfl⟩
        have hrl:r.length≤5:=by rw [←hr];exact fZ (by omega) (by omega)
        have hfin:Num.form f ((x:Int) - 1023)= [48,120,49] ++(46 :: tl ++(112 :: r)):=by
         unfold Num.form Num.bI
         rw [if_neg (by omega),hr,HFS.out]
         skip
        have HFIN:=hq7 hfin
        have HIT:=hq7 (fun (W:World) (hb:Below w.heap.size w W)=>hr▸iy ((x:Int) - 1023) W (by omega) (by omega) (HLD.out.below hb))
        clear hr hfin hneg
        go_enter Tryz.func71,Tryz.ntmps71
        go_wp2_with fail
        refine (HFU.out _ (Below.refl _ _)).mono ?_
        rintro e w1 ⟨rfl,hb1⟩
        have HB1:=hq7 hb1
        clear hb1
        go_wp2_with fail
        refine (HTR.out _ (by rw [Lib.extract_data,HZL.out,HZD.out];simp;exact List.take_of_length_le (by rw [HL13.out];exact Nat.le_refl _)) w1).mono ?_
        rintro e w1' ⟨rfl,rfl⟩
        go_wp2_with fail
        refine (HIT.out _ HB1.out).mono ?_
        rintro e w2 ⟨rfl,hb2⟩
        have HB2:=hq7 hb2
        clear hb2
        go_wp2
        go_ret
        refine ⟨?_,HB1.out.trans (HB2.out.mono HB1.out.size)⟩
        rw [HFIN.out]
        exact congrArg (fun q=>Ending.returned (Value.string q)) (by apply ByteArray.ext;simp [Num.sg])
 ·rw [if_neg hs] at h1
  rw [decide_eq_false hs]
  by_cases hnan:9218868437227405312<a
  ·rw [if_pos hnan]
   have t1:((x:Int) == 2047)=true:=by rw [beq_iff_eq];omega
   have t2:((f:Int) !=0)=true:=by rw [bne_iff_ne];omega
   clear hx hff ha hnan hs
   go_enter Tryz.func71,Tryz.ntmps71
   go_wp2
   go_ret
   exact ⟨rfl,Below.refl _ _⟩
  ·rw [if_neg hnan]
   by_cases hinf:a=9218868437227405312
   ·have e1:Num.aY a=Num.jS:=by unfold Num.aY;rw [if_pos hinf]
    rw [e1]
    have t1:((x:Int) == 2047)=true:=by rw [beq_iff_eq];omega
    have t2:((f:Int) !=0)=false:=by rw [bne_eq_false_iff_eq];omega
    clear hx hff ha hnan hs hinf e1
    go_enter Tryz.func71,Tryz.ntmps71
    go_wp2
    go_ret
    exact ⟨rfl,Below.refl _ _⟩
   ·have t1:((x:Int) == 2047)=false:=by rw [beq_eq_false_iff_ne];omega
    by_cases h0:a=0
    ·have e1:Num.aY a=Num.ZERO:=by unfold Num.aY;rw [if_neg hinf,if_pos h0]
     rw [e1]
     have t2:((x:Int) == 0)=true:=by rw [beq_iff_eq];omega
     have t3:((f:Int) == 0)=true:=by rw [beq_iff_eq];omega
     clear hx hff ha hnan hs hinf h0 e1
     go_enter Tryz.func71,Tryz.ntmps71
     go_wp2
     go_ret
     exact ⟨rfl,Below.refl _ _⟩
    ·have e1:Num.aY a=Num.form (Num.bW a) (Num.bP a):=by unfold Num.aY;rw [if_neg hinf,if_neg h0]
     rw [e1]
     clear e1
     by_cases hx0:x=0
     ·have haf:a=f:=by omega
      obtain ⟨u1,u2,u3,u4⟩:=Num.rP h0 (by omega)
      have en:Num.bP a= -1022 -(Num.up a:Int):=by unfold Num.bP;rw [if_pos (by omega)]
      have fn:Num.bW a=a*2 ^ Num.up a - 4503599627370496:=by unfold Num.bW;rw [if_pos (by omega)]
      have hbl:Lib.bitLen f+Num.up a=53:=by have:=u1;unfold Num.up at this⊢;rw [haf] at this⊢;omega
      have hlz:=(Tryz.bits_LeadingZeros64 (f:Int) w (by omega) (by omega)).mono fun e w' (h:_∧w'=w)=>(⟨h.1,h.2.symm⟩:_∧w=w')
      rw [Int.toNat_natCast,show (64:Int) -(Lib.bitLen f:Int)=(Num.up a:Int)+11 by omega] at hlz
      rw [en,fn]
      obtain ⟨U,hU⟩: ∃U,Num.up a=U:=⟨_,rfl⟩
      rw [hU] at u1 u2 u3 u4 hlz⊢
      obtain ⟨G,hG⟩: ∃G,a*2 ^ U=G:=⟨_,rfl⟩
      rw [hG] at u3 u4⊢
      have t2:((x:Int) == 0)=true:=by rw [beq_iff_eq];omega
      have t3:((f:Int) == 0)=false:=by rw [beq_eq_false_iff_ne];omega
      have hU1:(1:Int)≤U:=by omega
      have hU2:(U:Int)≤52:=by omega
      obtain ⟨g,hg⟩: ∃g,G - 4503599627370496=g:=⟨_,rfl⟩
      have hgb:g<4503599627370496:=by omega
      have hsh:IntKind.u64.wrap ((f:Int)*2 ^ U)=(G:Int):=by
       rw [show (f:Int)*2 ^ U=(G:Int) by rw [←hG,haf];simp,IntKind.wrap_u64]
       omega
      have hmk:bits BinOp.and IntKind.u64 (G:Int) 4503599627370495=(g:Int):=by
       rw [sQ G (by omega)]
       omega
      rw [hg,show -1022 -(U:Int)=1 -(U:Int) - 1023 by omega]
      have HLZ:=hq7 hlz
      clear hlz hG haf hbl en fn hU hx hff ha hnan hs hinf h0 hx0 hg u3 u4
      by_cases hf0:g=0
      ·subst hf0
       have hd:decide (1 -(U:Int) - 1023<0)=true:=decide_eq_true (by omega)
       have hdx:(1:Int)≤U:=by omega
       obtain ⟨r,hr⟩: ∃r,Lib.itoa (-(1 -(U:Int) - 1023))=r:=⟨_,rfl⟩
       have hrl:r.length≤5:=by rw [←hr];exact fZ (by omega) (by omega)
       have hfin:Num.form 0 (1 -(U:Int) - 1023)= [48,120,49] ++([] ++(109 :: r)):=by
        unfold Num.form Num.bI
        rw [if_pos (by omega),hr]
        rfl
       have HFIN:=hq7 hfin
       have HIT:=hq7 (fun (W:World) (hb:Below w.heap.size w W)=>hr▸iy (-(1 -(U:Int) - 1023)) W (by omega) (by omega) (HLD.out.below hb))
       clear hr hfin
       go_enter Tryz.func71,Tryz.ntmps71
       go_wp2_with fail
       refine HLZ.out.mono ?_
       rintro e w' ⟨rfl,rfl⟩
       have HB1:Hid (Below w.heap.size w w):=Below.refl _ _
       obtain ⟨w1,hw1⟩: ∃x:World,x=w:=⟨_,rfl⟩
       go_wp2_with fail
       refine (HIT.out _ (Below.refl _ _)).mono ?_
       rintro e w2 ⟨rfl,hb2⟩
       have HB2:=hq7 hb2
       clear hb2
       go_wp2
       go_ret
       refine ⟨?_,HB2.out⟩
       rw [HFIN.out]
       exact congrArg (fun q=>Ending.returned (Value.string q)) (by apply ByteArray.ext;simp [Num.sg])
      ·have HFS:=hq7 (nC hf0)
       have t4:((g:Int) !=0)=true:=by rw [bne_iff_ne];omega
       have hor:=or_one g hgb
       have hex14:=pz hgb
       obtain ⟨F,hF⟩: ∃F,g+4503599627370496=F:=⟨_,rfl⟩
       rw [hF] at hor hex14
       have HFU:=hq7 (fun (W:World) (hb:Below w.heap.size w W)=>hex14▸pq F W (HLD.out.below hb) (by omega) (by omega))
       obtain ⟨H13,h13⟩: ∃h,Num.hexN 13 g=h:=⟨_,rfl⟩
       have h13l:H13.length=13:=by rw [←h13];exact Num.jc 13 f
       obtain ⟨z14,hz14⟩: ∃z:ByteArray,(⟨(49 :: H13).toArray⟩:ByteArray)=z:=⟨_,rfl⟩
       have hz14l:z14.size=14:=by rw [←hz14,aJ];simp [h13l]
       have hzd:z14.data.toList=49 :: H13:=by rw [←hz14]
       have HZD:=hq7 hzd
       rw [h13,hz14] at HFU
       have HL13:=hq7 h13l
       have HZL:=hq7 hz14l
       have hz1:(1:Int)≤z14.size:=by omega
       obtain ⟨tl,htl⟩: ∃t,Lib.trimRightS (Num.hexN 13 g) [48]=t:=⟨_,rfl⟩
       have htll:tl.length≤13:=by rw [←htl];exact nD g
       have HTR:=hq7 (fun (z:ByteArray) (hz:z.data.toList=Num.hexN 13 g) (W:World)=>pF z g tl hz htl W)
       rw [h13] at HTR
       rw [htl] at HFS
       clear htl hf0 hF hex14 h13 h13l hz14 hz14l hzd
       have hd:decide (1 -(U:Int) - 1023<0)=true:=decide_eq_true (by omega)
       have hdx:(1:Int)≤U:=by omega
       obtain ⟨r,hr⟩: ∃r,Lib.itoa (-(1 -(U:Int) - 1023))=r:=⟨_,rfl⟩
       have hrl:r.length≤5:=by rw [←hr];exact fZ (by omega) (by omega)
       have hfin:Num.form g (1 -(U:Int) - 1023)= [48,120,49] ++(46 :: tl ++(109 :: r)):=by
        unfold Num.form Num.bI
        rw [if_pos (by omega),hr,HFS.out]
        skip
       have HFIN:=hq7 hfin
       have HIT:=hq7 (fun (W:World) (hb:Below w.heap.size w W)=>hr▸iy (-(1 -(U:Int) - 1023)) W (by omega) (by omega) (HLD.out.below hb))
       clear hr hfin
       go_enter Tryz.func71,Tryz.ntmps71
       go_wp2_with fail
       refine HLZ.out.mono ?_
       rintro e w' ⟨rfl,rfl⟩
       go_wp2_with fail
       refine (HFU.out _ (Below.refl _ _)).mono ?_
       rintro e w1 ⟨rfl,hb1⟩
       have HB1:=hq7 hb1
       clear hb1
       go_wp2_with fail
       refine (HTR.out _ (by rw [Lib.extract_data,HZL.out,HZD.out];simp;exact List.take_of_length_le (by rw [HL13.out];exact Nat.le_refl _)) w1).mono ?_
       rintro e w1' ⟨rfl,rfl⟩
       go_wp2_with fail
       refine (HIT.out _ HB1.out).mono ?_
       rintro e w2 ⟨rfl,hb2⟩
       have HB2:=hq7 hb2
       clear hb2
       go_wp2
       go_ret
       refine ⟨?_,HB1.out.trans (HB2.out.mono HB1.out.size)⟩
       rw [HFIN.out]
       exact congrArg (fun q=>Ending.returned (Value.string q)) (by apply ByteArray.ext;simp [Num.sg])
     ·have t2:((x:Int) == 0)=false:=by rw [beq_eq_false_iff_ne];omega
      have en:Num.bP a=(x:Int) - 1023:=by unfold Num.bP;rw [if_neg (by omega),hx]
      have fn:Num.bW a=f:=by unfold Num.bW;rw [if_neg (by omega),hff]
      rw [en,fn]
      clear en fn hx hff ha hnan hs hinf h0
      have hx1:(1:Int)≤x:=by omega
      clear hx0
      by_cases hf0:f=0
      ·subst hf0
       by_cases hneg:x<1023
       ·have hd:decide ((x:Int) - 1023<0)=true:=decide_eq_true (by omega)
        have hdx:(x:Int)<1023:=by omega
        obtain ⟨r,hr⟩: ∃r,Lib.itoa (-((x:Int) - 1023))=r:=⟨_,rfl⟩
        have hrl:r.length≤5:=by rw [←hr];exact fZ (by omega) (by omega)
        have hfin:Num.form 0 ((x:Int) - 1023)= [48,120,49] ++([] ++(109 :: r)):=by
         unfold Num.form Num.bI
         rw [if_pos (by omega),hr]
         rfl
        have HFIN:=hq7 hfin
        have HIT:=hq7 (fun (W:World) (hb:Below w.heap.size w W)=>hr▸iy (-((x:Int) - 1023)) W (by omega) (by omega) (HLD.out.below hb))
        clear hr hfin hneg
        go_enter Tryz.func71,Tryz.ntmps71
        have HB1:Hid (Below w.heap.size w w):=Below.refl _ _
        obtain ⟨w1,hw1⟩: ∃x:World,x=w:=⟨_,rfl⟩
        go_wp2_with fail
        refine (HIT.out _ (Below.refl _ _)).mono ?_
        rintro e w2 ⟨rfl,hb2⟩
        have HB2:=hq7 hb2
        clear hb2
        go_wp2
        go_ret
        refine ⟨?_,HB2.out⟩
        rw [HFIN.out]
        exact congrArg (fun q=>Ending.returned (Value.string q)) (by apply ByteArray.ext;simp [Num.sg])
       ·have hd:decide ((x:Int) - 1023<0)=false:=decide_eq_false (by omega)
        have hdx:(1023:Int)≤x:=by omega
        obtain ⟨r,hr⟩: ∃r,Lib.itoa ((x:Int) - 1023)=r:=⟨_,rfl⟩
        have hrl:r.length≤5:=by rw [←hr];exact fZ (by omega) (by omega)
        have hfin:Num.form 0 ((x:Int) - 1023)= [48,120,49] ++([] ++(112 :: r)):=by
         unfold Num.form Num.bI
         rw [if_neg (by omega),hr]
         rfl
        have HFIN:=hq7 hfin
        have HIT:=hq7 (fun (W:World) (hb:Below w.heap.size w W)=>hr▸iy ((x:Int) - 1023) W (by omega) (by omega) (HLD.out.below hb))
        clear hr hfin hneg
        go_enter Tryz.func71,Tryz.ntmps71
        have HB1:Hid (Below w.heap.size w w):=Below.refl _ _
        obtain ⟨w1,hw1⟩: ∃x:World,x=w:=⟨_,rfl⟩
        go_wp2_with fail
        refine (HIT.out _ (Below.refl _ _)).mono ?_
        rintro e w2 ⟨rfl,hb2⟩
        have HB2:=hq7 hb2
        clear hb2
        go_wp2
        go_ret
        refine ⟨?_,HB2.out⟩
        rw [HFIN.out]
        exact congrArg (fun q=>Ending.returned (Value.string q)) (by apply ByteArray.ext;simp [Num.sg])
      ·have HFS:=hq7 (nC hf0)
       have t4:((f:Int) !=0)=true:=by rw [bne_iff_ne];omega
       have hor:=or_one f hfb
       have hex14:=pz hfb
       obtain ⟨F,hF⟩: ∃F,f+4503599627370496=F:=⟨_,rfl⟩
       rw [hF] at hor hex14
       have HFU:=hq7 (fun (W:World) (hb:Below w.heap.size w W)=>hex14▸pq F W (HLD.out.below hb) (by omega) (by omega))
       obtain ⟨H13,h13⟩: ∃h,Num.hexN 13 f=h:=⟨_,rfl⟩
       have h13l:H13.length=13:=by rw [←h13];exact Num.jc 13 f
       obtain ⟨z14,hz14⟩: ∃z:ByteArray,(⟨(49 :: H13).toArray⟩:ByteArray)=z:=⟨_,rfl⟩
       have hz14l:z14.size=14:=by rw [←hz14,aJ];simp [h13l]
       have hzd:z14.data.toList=49 :: H13:=by rw [←hz14]
       have HZD:=hq7 hzd
       rw [h13,hz14] at HFU
       have HL13:=hq7 h13l
       have HZL:=hq7 hz14l
       have hz1:(1:Int)≤z14.size:=by omega
       obtain ⟨tl,htl⟩: ∃t,Lib.trimRightS (Num.hexN 13 f) [48]=t:=⟨_,rfl⟩
       have htll:tl.length≤13:=by rw [←htl];exact nD f
       have HTR:=hq7 (fun (z:ByteArray) (hz:z.data.toList=Num.hexN 13 f) (W:World)=>pF z f tl hz htl W)
       rw [h13] at HTR
       rw [htl] at HFS
       clear htl hf0 hF hex14 h13 h13l hz14 hz14l hzd
       by_cases hneg:x<1023
       ·have hd:decide ((x:Int) - 1023<0)=true:=decide_eq_true (by omega)
        have hdx:(x:Int)<1023:=by omega
        obtain ⟨r,hr⟩: ∃r,Lib.itoa (-((x:Int) - 1023))=r:=⟨_,rfl⟩
        have hrl:r.length≤5:=by rw [←hr];exact fZ (by omega) (by omega)
        have hfin:Num.form f ((x:Int) - 1023)= [48,120,49] ++(46 :: tl ++(109 :: r)):=by
         unfold Num.form Num.bI
         rw [if_pos (by omega),hr,HFS.out]
         skip
        have HFIN:=hq7 hfin
        have HIT:=hq7 (fun (W:World) (hb:Below w.heap.size w W)=>hr▸iy (-((x:Int) - 1023)) W (by omega) (by omega) (HLD.out.below hb))
        clear hr hfin hneg
        go_enter Tryz.func71,Tryz.ntmps71
        go_wp2_with fail
        refine (HFU.out _ (Below.refl _ _)).mono ?_
        rintro e w1 ⟨rfl,hb1⟩
        have HB1:=hq7 hb1
        clear hb1
        go_wp2_with fail
        refine (HTR.out _ (by rw [Lib.extract_data,HZL.out,HZD.out];simp;exact List.take_of_length_le (by rw [HL13.out];exact Nat.le_refl _)) w1).mono ?_
        rintro e w1' ⟨rfl,rfl⟩
        go_wp2_with fail
        refine (HIT.out _ HB1.out).mono ?_
        rintro e w2 ⟨rfl,hb2⟩
        have HB2:=hq7 hb2
        clear hb2
        go_wp2
        go_ret
        refine ⟨?_,HB1.out.trans (HB2.out.mono HB1.out.size)⟩
        rw [HFIN.out]
        exact congrArg (fun q=>Ending.returned (Value.string q)) (by apply ByteArray.ext;simp [Num.sg])
       ·have hd:decide ((x:Int) - 1023<0)=false:=decide_eq_false (by omega)
        have hdx:(1023:Int)≤x:=by omega
        obtain ⟨r,hr⟩: ∃r,Lib.itoa ((x:Int) - 1023)=r:=⟨_,rfl⟩
        have hrl:r.length≤5:=by rw [←hr];exact fZ (by omega) (by omega)
        have hfin:Num.form f ((x:Int) - 1023)= [48,120,49] ++(46 :: tl ++(112 :: r)):=by
         unfold Num.form Num.bI
         rw [if_neg (by omega),hr,HFS.out]
         skip
        have HFIN:=hq7 hfin
        have HIT:=hq7 (fun (W:World) (hb:Below w.heap.size w W)=>hr▸iy ((x:Int) - 1023) W (by omega) (by omega) (HLD.out.below hb))
        clear hr hfin hneg
        go_enter Tryz.func71,Tryz.ntmps71
        go_wp2_with fail
        refine (HFU.out _ (Below.refl _ _)).mono ?_
        rintro e w1 ⟨rfl,hb1⟩
        have HB1:=hq7 hb1
        clear hb1
        go_wp2_with fail
        refine (HTR.out _ (by rw [Lib.extract_data,HZL.out,HZD.out];simp;exact List.take_of_length_le (by rw [HL13.out];exact Nat.le_refl _)) w1).mono ?_
        rintro e w1' ⟨rfl,rfl⟩
        go_wp2_with fail
        refine (HIT.out _ HB1.out).mono ?_
        rintro e w2 ⟨rfl,hb2⟩
        have HB2:=hq7 hb2
        clear hb2
        go_wp2
        go_ret
        refine ⟨?_,HB1.out.trans (HB2.out.mono HB1.out.size)⟩
        rw [HFIN.out]
        exact congrArg (fun q=>Ending.returned (Value.string q)) (by apply ByteArray.ext;simp [Num.sg])
end Go.Proofs.YtoofbflplhbpbaaGreatDoor
