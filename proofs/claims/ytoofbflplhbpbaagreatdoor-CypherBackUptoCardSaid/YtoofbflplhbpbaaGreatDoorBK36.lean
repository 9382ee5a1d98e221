/- Contracts and plain laws,part 36. -/
import Derived.Test.YtoofbflplhbpbaaGreatDoorBK35
set_option maxHeartbeats 64000000
set_option maxRecDepth 1000000
set_option linter.all false
namespace Go.Proofs.YtoofbflplhbpbaaGreatDoor
open Go.RowKit
def gI (k:Int):Nat:=if Cel.dV k=1 then 1 else 8
theorem wI (n:Int): ∃x:Nat,IntKind.u64.wrap n=(x:Int)∧x<18446744073709551616:=⟨Cel.u64 n,pW n,Cel.kV n⟩
theorem Eh (B bw n:Nat) (k m:Int) (w:World) (h:Wrt w B bw n) (hk:Cel.In64 k) (hn:n≤1073741000) (hB:B≤w.heap.size):
  Calls Tryz.prog 245 #[.pointer (some ⟨bw,0,none⟩), .int .i64 k, .int .i64 m] w fun e w'=>e= .returned (.tuple #[])∧Wrt w' B bw (n+gI k)∧Below B w w':=by
 have HB:=hq7 (tJ k w hk)
 obtain ⟨x,hx,hlt⟩:=wI m
 have H1:=hq7 (oz B bw n 1 x w h (.inl rfl) hn hB hlt)
 have H8:=hq7 (oz B bw n 8 x w h (.inr (.inr rfl)) hn hB hlt)
 obtain ⟨b,hb⟩: ∃b,Cel.dV k=b:=⟨_,rfl⟩
 have HL:Hid (gI k=if b=1 then 1 else 8):=by show gI k=_;unfold gI;rw [hb]
 rw [hb] at HB
 clear h hk hn hB hlt hb
 by_cases h1:b=1
 ·have t1:(b == 1)=true:=beq_iff_eq.2 h1
  have hl:=HL.out
  rw [if_pos h1] at hl
  rw [hl]
  clear h1 H8 hl
  go_enter Tryz.func245,Tryz.ntmps245
  go_wp2_with fail
  refine HB.out.mono ?_
  rintro e w1 ⟨rfl,rfl⟩
  go_wp2_with fail
  refine H1.out.mono ?_
  rintro e w2 ⟨rfl,hw,hb⟩
  have HW:=hq7 hw
  have HBB:=hq7 hb
  clear hw hb
  go_wp2
  refine bodyPost_ret (results_none rfl _ _ _) rfl ?_
  exact ⟨rfl,HW.out,HBB.out⟩
 ·have t1:(b == 1)=false:=beq_eq_false_iff_ne.2 h1
  have hl:=HL.out
  rw [if_neg h1] at hl
  rw [hl]
  clear h1 H1 hl
  go_enter Tryz.func245,Tryz.ntmps245
  go_wp2_with fail
  refine HB.out.mono ?_
  rintro e w1 ⟨rfl,rfl⟩
  go_wp2_with fail
  refine H8.out.mono ?_
  rintro e w2 ⟨rfl,hw,hb⟩
  have HW:=hq7 hw
  have HBB:=hq7 hb
  clear hw hb
  go_wp2
  go_end0
  exact ⟨rfl,HW.out,HBB.out⟩
theorem Ei (B bw n:Nat) (z:ByteArray) (w:World) (h:Wrt w B bw n) (hz:z.size≤1073741) (hn:n≤1073740000) (hB:B≤w.heap.size):
  Calls Tryz.prog 246 #[.pointer (some ⟨bw,0,none⟩), .string z] w fun e w'=>e= .returned (.tuple #[])∧Wrt w' B bw (n+(2+z.size))∧Below B w w':=by
 have hzi:(z.size:Int)≤1073741:=by omega
 have H2:=hq7 (oz B bw n 2 z.size w h (.inr (.inl rfl)) (by omega) hB (by omega))
 have HS:=hq7 (fun (W:World) (hw:Wrt W B bw (n+2)) (hb:B≤W.heap.size)=>N7 B bw (n+2) z W hw hz (by omega) hb)
 have HBH:=hq7 hB
 clear h hz hn hB
 go_enter Tryz.func246,Tryz.ntmps246
 go_wp2_with fail
 refine H2.out.mono ?_
 rintro e w1 ⟨rfl,hw,hb⟩
 have HC:=hq7 (HS.out w1 hw (Nat.le_trans HBH.out hb.size))
 have HBB:=hq7 hb
 clear hw hb
 go_wp2_with fail
 refine HC.out.mono ?_
 rintro e w2 ⟨rfl,hw,hb⟩
 have HW:=hq7 hw
 have HB2:=hq7 (HBB.out.trans hb)
 clear hw hb
 go_wp2
 go_end0
 exact ⟨rfl,by rw [←Nat.add_assoc];exact HW.out,HB2.out⟩
theorem wJ {l:List Cel.L} (h:Cel.dP l=false): ∀t∈l,t.length≤1000:=by
 intro t ht
 unfold Cel.dP at h
 rw [List.any_eq_false] at h
 have:=h t ht
 simp at this
 exact this
theorem Ej {l:List (List UInt8)} {k:Nat} {t:List UInt8} (h:l[k]?=some t):((l.take (k+1)).map fun t=>2+t.length).sum=((l.take k).map fun t=>2+t.length).sum+(2+t.length):=by
 rw [List.take_add_one,h]
 simp
theorem wK {l:List (List UInt8)} (h: ∀t∈l,t.length≤1000):(l.map fun t=>2+t.length).sum≤1002*l.length:=by
 induction l with
 | nil=>simp
 | cons a l ih=>
  have:=ih fun t ht=>h t (by simp [ht])
  have:=h a (by simp)
  simp only [List.map_cons,List.sum_cons,List.length_cons]
  omega
theorem N9 (B:Nat) (u:Value) (v:Cel.V) (w:World) (h:VIn w B u v) (hB:B≤w.heap.size) (h0:Cel.check v=0):
  Calls Tryz.prog 189 #[u] w fun e w'=> ∃A c,e= .returned (.tuple #[.slice A (Gr.dQ v) c, .int .i64 0])∧Below w.heap.size w w':=by
 obtain ⟨hp1,hp8,-,hp40,ht40,htl,hlg,-⟩:=Cel.jB h0
 have hch:=fun (W:World) (hb:Below w.heap.size w W)=>check_any B u v W (h.below (hb.mono hB)) (Nat.le_trans hB hb.size)
 rw [h0] at hch
 obtain ⟨A1,c1,A2,c2,rfl,ra1,ra2⟩:=h.ex
 have HKI:=hq7 h.kin
 obtain ⟨k0,n0,t0,ns,ts⟩:=v
 simp only at hch ra1 ra2 hp1 hp8 hp40 ht40 htl hlg HKI⊢
 obtain ⟨z,hz⟩: ∃z:ByteArray,(⟨t0.toArray⟩:ByteArray)=z:=⟨_,rfl⟩
 have hzs:z.size=t0.length:=by rw [←hz];exact aJ _
 rw [hz] at hch⊢
 obtain ⟨nn,hnn⟩: ∃n,ns.length=n:=⟨_,rfl⟩
 obtain ⟨tn,htn⟩: ∃n,ts.length=n:=⟨_,rfl⟩
 rw [hnn] at hch hp40 ra1⊢
 rw [htn] at hch ht40 ra2⊢
 obtain ⟨W1,hW1⟩: ∃W1,w.alloc (.cells #[.int .i64 k0, .int .i64 n0, .string z, .slice A1 nn c1, .slice A2 tn c2] 25)=W1:=⟨_,rfl⟩
 have hb1:Below w.heap.size w W1:=by rw [←hW1];exact (Below.refl _ w).alloc (Nat.le_refl _) _
 have k1:Blk W1 w.heap.size 25 #[.int .i64 k0, .int .i64 n0, .string z, .slice A1 nn c1, .slice A2 tn c2]:=by rw [←hW1];exact Blk.new _ _ _
 have HCH:=hq7 (hch W1 hb1)
 have HK1:=hq7 k1
 have HB1:=hq7 hb1
 have HW1:=hq7 hW1
 have HBW:=hq7 hB
 have R1:=hq7 (ra1.below (hb1.mono hB))
 have R2:=hq7 (ra2.below (hb1.mono hB))
 have hE:Gr.dQ ⟨k0,n0,t0,ns,ts⟩=if k0<4 then 1+gI k0 else if k0=4 then 3+z.size else 2+nn*gI k0+(ts.map fun t=>2+t.length).sum:=by
  unfold Gr.dQ gI Cel.dV
  simp only
  by_cases h4:k0<4
  ·rw [if_pos h4,if_pos h4,if_neg (by omega: ¬4<k0)]
   by_cases h1:k0=1
   ·rw [if_pos h1,if_pos h1]
   ·rw [if_neg h1,if_neg h1]
  ·rw [if_neg h4,if_neg h4]
   by_cases h5:k0=4
   ·rw [if_pos h5,if_pos h5,hzs]
   ·rw [if_neg h5,if_neg h5,if_pos (show 4<k0 by omega),hnn]
    by_cases h6:k0=5
    ·rw [if_pos h6,if_pos (show k0 - 4=1 by omega)]
    ·rw [if_neg h6,if_neg (show¬k0 - 4=1 by omega)]
 obtain ⟨E,hEE⟩: ∃E,Gr.dQ ⟨k0,n0,t0,ns,ts⟩=E:=⟨_,rfl⟩
 rw [hEE] at hE⊢
 have HE:=hq7 hE
 have HTS:=hq7 (wJ hlg)
 have HTN:=hq7 htn
 have HNN:=hq7 hnn
 have hzb:z.size≤1000:=by omega
 have HZB:=hq7 hzb
 clear hch ra1 ra2 hb1 k1 hW1 h h0 hE hEE hz hzs hnn htn htl hlg hB
 go_enter Tryz.func189,Tryz.ntmps189
 go_upto_region 1 with fail
 rw [HW1.out]
 clear HW1
 obtain ⟨a0,a1,a2,a3,a4,-⟩:=dG HK1.out
 go_wp2_with fail
 refine HCH.out.mono ?_
 rintro e w2 ⟨rfl,hb2⟩
 have HB2:=hq7 (fG HB1.out hb2)
 have HK2:=hq7 (HK1.out.below hb2 HK1.out.lt)
 have HR1:=hq7 (R1.out.below (hb2.mono (Nat.le_trans HBW.out HB1.out.size)))
 have HR2:=hq7 (R2.out.below (hb2.mono (Nat.le_trans HBW.out HB1.out.size)))
 clear a0 a1 a2 a3 a4 hb2 HCH R1 R2
 go_wp2_with fail
 refine (N8 w2).mono ?_
 rintro e w3 ⟨rfl,hw3,hb3⟩
 have hbl:w2.heap.size≤w3.heap.size:=hb3.size
 have HB3:=hq7 hb3
 obtain ⟨a0,a1,a2,a3,a4,-⟩:=dG (HK2.out.below hb3 HK2.out.lt)
 obtain ⟨x0,hx0,hlt0⟩:=wI k0
 have HN:=hq7 (oz w2.heap.size w2.heap.size 0 1 x0 w3 hw3 (.inl rfl) (by decide) hbl hlt0)
 clear hw3 hb3 hlt0
 go_wp2_with fail
 refine HN.out.mono ?_
 rintro e w4 ⟨rfl,hw4,hb4⟩
 have HW4:=hq7 hw4
 have HB4:=hq7 hb4
 have hl4:=hb4.size
 have hl4':w2.heap.size≤w4.heap.size:=Nat.le_trans hbl hl4
 have HKV:=hq7 (fun (W:World) (hb:Below w2.heap.size w3 W)=>dG ((HK2.out.below HB3.out HK2.out.lt).below hb HK2.out.lt))
 clear a0 a1 a2 a3 a4 hw4 hb4 HN
 obtain ⟨a0,a1,a2,a3,a4,-⟩:=HKV.out w4 HB4.out
 have hBB:B≤w2.heap.size:=Nat.le_trans HBW.out HB2.out.size
 by_cases h3:k0≤3
 ·have t3:decide (k0≤3)=true:=decide_eq_true h3
  have HPN:=hq7 (Eh w2.heap.size w2.heap.size (0+1) k0 n0 w4 HW4.out HKI.out (by decide) hl4')
  have hnle:gI k0≤8:=by unfold gI;split<;> omega
  have HFE:=hq7 (show E=0+1+gI k0 by rw [HE.out,if_pos (by omega)])
  clear hx0
  go_wp2_with fail
  refine HPN.out.mono ?_
  rintro e w5 ⟨rfl,hw5,hb5⟩
  have HWX:=hq7 hw5
  have HB5:=hq7 (HB4.out.trans hb5)
  clear a0 a1 a2 a3 a4 hw5 hb5
  have HBY:=hq7 (wH w2.heap.size w2.heap.size (0+1+gI k0) w5 HWX.out (by omega))
  have HBF:=hq7 (fG HB2.out (HB3.out.trans HB5.out))
  go_wp2_with fail
  refine HBY.out.mono ?_
  rintro e w9 ⟨A',c',rfl,hb9⟩
  have HB9:=hq7 (fG HBF.out hb9)
  clear hb9
  go_wp2
  go_ret2
  exact ⟨A',c',by rw [HFE.out];rfl,HB9.out⟩
 ·have t3:decide (k0≤3)=false:=decide_eq_false h3
  have h3':3<k0:=by omega
  by_cases h4:k0=4
  ·have t4:(k0 == 4)=true:=beq_iff_eq.2 h4
   have HPN:=hq7 (Ei w2.heap.size w2.heap.size (0+1) z w4 HW4.out (by have:=HZB.out;omega) (by decide) hl4')
   have HFE:=hq7 (show E=0+1+(2+z.size) by rw [HE.out,if_neg (by omega),if_pos h4];omega)
   clear hx0 h4 h3
   go_wp2_with fail
   refine HPN.out.mono ?_
   rintro e w5 ⟨rfl,hw5,hb5⟩
   have HWX:=hq7 hw5
   have HB5:=hq7 (HB4.out.trans hb5)
   have hzz:=HZB.out
   clear a0 a1 a2 a3 a4 hw5 hb5
   have HBY:=hq7 (wH w2.heap.size w2.heap.size (0+1+(2+z.size)) w5 HWX.out (by omega))
   have HBF:=hq7 (fG HB2.out (HB3.out.trans HB5.out))
   go_wp2_with fail
   refine HBY.out.mono ?_
   rintro e w9 ⟨A',c',rfl,hb9⟩
   have HB9:=hq7 (fG HBF.out hb9)
   clear hb9
   go_wp2
   go_ret2
   exact ⟨A',c',by rw [HFE.out];rfl,HB9.out⟩
  ·have t4:(k0 == 4)=false:=beq_eq_false_iff_ne.2 h4
   have h5:4<k0:=by omega
   obtain ⟨x1,hx1,hlt1⟩:=wI ((nn:Int)+(tn:Int))
   have HPN:=hq7 (oz w2.heap.size w2.heap.size (0+1) 1 x1 w4 HW4.out (.inl rfl) (by decide) hl4' hlt1)
   have HFE:=hq7 (show E=0+1+1+nn*gI k0+(ts.map fun t=>2+t.length).sum by rw [HE.out,if_neg (by omega),if_neg h4])
   obtain ⟨L,hL⟩: ∃L,gI k0=L:=⟨_,rfl⟩
   have hnle:L≤8:=by rw [←hL];unfold gI;split<;> omega
   have HLL:=hq7 hL
   rw [hL] at HFE
   clear hx0 h4 h3 hlt1 hL
   go_wp2_with fail
   refine HPN.out.mono ?_
   rintro e w5 ⟨rfl,hw5,hb5⟩
   have HW5:=hq7 hw5
   have HB5:=hq7 (HB4.out.trans hb5)
   clear a0 a1 a2 a3 a4 hw5 hb5 hx1 HPN
   obtain ⟨a0,a1,a2,a3,a4,-⟩:=HKV.out w5 HB5.out
   have hnni:(nn:Int)≤40:=by omega
   have htni:(tn:Int)≤40:=by omega
   go_wp2_with fail
   go_loopg [34] nn (fun g x wr=> ∃k:Nat,x= .int .i64 k∧k+g=nn∧Wrt wr w2.heap.size w2.heap.size (0+1+1+k*L)∧Below w2.heap.size w3 wr)
   case atStart=>exact ⟨0,rfl,by omega,by simpa using HW5.out,HB5.out⟩
   case round=>
    obtain ⟨k,rfl,hk,hwr,hbr⟩:=hrel
    have HWR:=hq7 hwr
    have HBR:=hq7 hbr
    have HKK:=hq7 hk
    clear hwr hbr a0 a1 a2 a3 a4
    obtain ⟨a0,a1,a2,a3,a4,-⟩:=HKV.out wr HBR.out
    have hbl':w2.heap.size≤wr.heap.size:=Nat.le_trans hbl HBR.out.size
    have hkL:k*L≤40*8:=Nat.mul_le_mul (by omega) hnle
    cases gk with
    | succ g=>
     have hkn:k<nn:=by omega
     have hknI:(k:Int)<nn:=by omega
     obtain ⟨p,o,x,rfl,hpB,hx,hp⟩:=(HR1.out.below ((HB3.out.trans HBR.out).mono hBB)).cell hkn
     rw [List.getElem?_map] at hx
     obtain ⟨y,hy,rfl⟩:=Option.map_eq_some_iff.1 hx
     unfold I64 at hp
     have HPN:=hq7 (Eh w2.heap.size w2.heap.size (0+1+1+k*L) k0 y wr HWR.out HKI.out (by omega) hbl')
     rw [HLL.out] at HPN
     clear hx hy hk hkn hkL
     go_wp2_with fail
     refine HPN.out.mono ?_
     rintro e w6 ⟨rfl,hw6,hb6⟩
     have HW6:=hq7 hw6
     have HB6:=hq7 (HBR.out.trans hb6)
     clear hw6 hb6 a0 a1 a2 a3 a4 hp
     go_wp2
     go_roundg g
     case measure=>omega
     case rel=>exact ⟨k+1,int_eq (by omega),by have:=HKK.out;omega,by rw [Nat.succ_mul,←Nat.add_assoc];exact HW6.out,HB6.out⟩
    | zero=>
     obtain rfl:k=nn:=by omega
     clear hk
     go_wp2_with fail
     go_loopg [47] tn (fun g x wx=> ∃j:Nat,x= .int .i64 j∧j+g=tn∧Wrt wx w2.heap.size w2.heap.size (0+1+1+k*L+((ts.take j).map fun t=>2+t.length).sum)∧Below w2.heap.size w3 wx)
     case atStart=>exact ⟨0,rfl,by omega,by simpa using HWR.out,HBR.out⟩
     case round=>
      obtain ⟨j,rfl,hj,hwr,hbr⟩:=hrel
      rename_i wx
      have HWR2:=hq7 hwr
      have HBR2:=hq7 hbr
      have HJ:=hq7 hj
      clear hwr hbr a0 a1 a2 a3 a4
      obtain ⟨a0,a1,a2,a3,a4,-⟩:=HKV.out _ HBR2.out
      have hsum:((ts.take j).map fun t=>2+t.length).sum≤1002*40:=by
       have h1:=wK (l:=ts.take j) (fun t ht=>HTS.out t (List.mem_of_mem_take ht))
       have h2:(ts.take j).length≤40:=by rw [List.length_take];have:=HTN.out;omega
       exact Nat.le_trans h1 (Nat.mul_le_mul_left _ h2)
      cases gk with
      | succ g=>
       have hjn:j<tn:=by omega
       have hjnI:(j:Int)<tn:=by omega
       obtain ⟨p,o,x,rfl,hpB,hx,hp⟩:=(HR2.out.below ((HB3.out.trans HBR2.out).mono hBB)).cell hjn
       rw [List.getElem?_map] at hx
       obtain ⟨y,hy,rfl⟩:=Option.map_eq_some_iff.1 hx
       unfold ST at hp
       obtain ⟨zy,hzy⟩: ∃z:ByteArray,(⟨y.toArray⟩:ByteArray)=z:=⟨_,rfl⟩
       rw [hzy] at hp
       have hzl:zy.size=y.length:=by rw [←hzy];exact aJ _
       have hyl:=HTS.out y (List.mem_of_getElem? hy)
       have HPN:=hq7 (Ei w2.heap.size w2.heap.size _ zy _ HWR2.out (by omega) (by omega) (Nat.le_trans hbl HBR2.out.size))
       have HSM:=hq7 (Ej hy)
       have HZL:=hq7 hzl
       clear hx hy hj hjn hkL hsum hzy hzl hyl
       go_wp2_with fail
       refine HPN.out.mono ?_
       rintro e w6 ⟨rfl,hw6,hb6⟩
       have HW6:=hq7 hw6
       have HB6:=hq7 (HBR2.out.trans hb6)
       clear hw6 hb6 a0 a1 a2 a3 a4 hp
       go_wp2
       go_roundg g
       case measure=>omega
       case rel=>exact ⟨j+1,int_eq (by omega),by have:=HJ.out;omega,by rw [HSM.out,←HZL.out,←Nat.add_assoc];exact HW6.out,HB6.out⟩
      | zero=>
       obtain rfl:j=tn:=by omega
       have hfin:ts.take j=ts:=List.take_of_length_le (by rw [HTN.out];exact Nat.le_refl _)
       have hWX:=HWR2.out
       rw [hfin] at hWX hsum
       have HWX:=hq7 hWX
       clear hj hfin hWX
       have HBY:=hq7 (wH w2.heap.size w2.heap.size _ _ HWX.out (by omega))
       have HBF:=hq7 (fG HB2.out (HB3.out.trans HBR2.out))
       go_wp2_with fail
       refine HBY.out.mono ?_
       rintro e w9 ⟨A',c',rfl,hb9⟩
       have HB9:=hq7 (fG HBF.out hb9)
       clear hb9
       go_wp2
       go_ret2
       exact ⟨A',c',by rw [HFE.out];rfl,HB9.out⟩
theorem Oa (B:Nat) (u:Value) (v:Cel.V) (w:World) (h:VIn w B u v) (hB:B≤w.heap.size) (h0:Cel.check v=0):
  Calls Tryz.prog 139 #[u] w fun e w'=>e= .returned (.int .i64 (Gr.dQ v:Nat))∧Below w.heap.size w w':=by
 have he:=fun (W:World) (hb:Below w.heap.size w W)=>N9 B u v W (h.below (hb.mono hB)) (Nat.le_trans hB hb.size) h0
 obtain ⟨A1,c1,A2,c2,rfl,ra1,ra2⟩:=h.ex
 obtain ⟨W1,hW1⟩: ∃W1,w.alloc (.cells #[.int .i64 v.kind, .int .i64 v.num, .string ⟨v.text.toArray⟩, .slice A1 v.nums.length c1, .slice A2 v.texts.length c2] 25)=W1:=⟨_,rfl⟩
 have hb1:Below w.heap.size w W1:=by rw [←hW1];exact (Below.refl _ w).alloc (Nat.le_refl _) _
 have k1:Blk W1 w.heap.size 25 #[.int .i64 v.kind, .int .i64 v.num, .string ⟨v.text.toArray⟩, .slice A1 v.nums.length c1, .slice A2 v.texts.length c2]:=by rw [←hW1];exact Blk.new _ _ _
 have HE:=hq7 (he W1 hb1)
 have HW1:=hq7 hW1
 have HB1:=hq7 hb1
 obtain ⟨a0,a1,a2,a3,a4,-⟩:=dG k1
 clear he ra1 ra2 hW1 hb1 k1 h h0
 go_enter Tryz.func139,Tryz.ntmps139
 go_upto_region 1 with fail
 rw [HW1.out]
 clear HW1
 go_wp2_with fail
 refine HE.out.mono ?_
 rintro e w2 ⟨A',c',rfl,hb2⟩
 have HB2:=hq7 (fG HB1.out hb2)
 clear hb2
 go_wp2
 go_ret
 exact ⟨rfl,HB2.out⟩
attribute [local go_sem] Oper.semAt_some
theorem Em (u v:Value) (w:World):
  Calls Tryz.prog 136 #[.agg #[u,v]] w fun e w'=>e= .returned (.func (.func 186) #[] #[.pointer (some ⟨w.heap.size,0,none⟩)])∧w.alloc (.cells #[u,v] 39)=w':=by
 go_enter Tryz.func136,Tryz.ntmps136
 go_wp2
 go_ret
 exact ⟨rfl,rfl⟩
def wgtW1 (x:PIt) (W:World):World:=W.alloc (.cells x.cells 61)
theorem wL {v:Cel.V} (h:Cel.check v=0):Gr.dQ v≤41000:=by
 obtain ⟨-,-,-,h1,h2,h3,h4,-⟩:=Cel.jB h
 have hs:=wK (wJ h4)
 have hm:v.nums.length*(if v.kind=5 then 1 else 8)≤40*8:=Nat.mul_le_mul h1 (by split<;> omega)
 have hs2:1002*v.texts.length≤1002*40:=Nat.mul_le_mul_left _ h2
 have hs3:=Nat.le_trans hs hs2
 unfold Gr.dQ
 split
 ·split<;> omega
 ·split
  ·omega
  ·exact Nat.le_trans (Nat.add_le_add (Nat.add_le_add_left hm 2) hs3) (by decide)
theorem oC (a b:List Gr.P):Gr.aG (a ++ b)=Gr.aG a+Gr.aG b:=by unfold Gr.aG;simp
theorem wM {l:List Gr.P} (h: ∀p∈l,Cel.check p.val=0):Gr.aG l≤41000*l.length:=by
 unfold Gr.aG
 induction l with
 | nil=>simp
 | cons a l ih=>
  have:=ih fun p hp=>h p (by simp [hp])
  have:=wL (h a (by simp))
  simp only [List.map_cons,List.sum_cons,List.length_cons]
  omega
theorem Ob {V w':World} {b:Nat} {T:TypeId} {x:Value} (h:Blk V b T #[x]) (hb:Hid (Below V.heap.size V w')):w'.cell? ⟨b,0,none⟩=some x∧w'.frozen? ⟨b,0,none⟩=false:=by
 have k:=h.below hb.out h.lt
 exact ⟨k.cell 0,k.frozen 0⟩
theorem Oc (B:Nat) (u:Value) (g:Gr.G) (w:World) (h:GIn w B u g) (hB:B≤w.heap.size) (hck: ∀p∈Gr.bf g,Cel.check p.val=0) (hlen:(Gr.bf g).length≤1073741824):
  Calls Tryz.prog 80 #[u] w fun e w'=>e= .returned (.int .i64 (Gr.weight g:Nat))∧Below w.heap.size w w':=by
 have hok:=h.ok
 obtain ⟨An,cn,Ar,cr,rfl,hN,hR⟩:=h.ex
 refine uQ Tryz.func80 rfl ?_
 simp only [Tryz.ntmps80,List.size_toArray,List.length_cons,List.length_nil,Nat.reduceAdd,Nat.reduceSub,Array.replicate_succ,Array.replicate_zero,List.push_toArray,List.append_toArray,List.nil_append,List.cons_append]
 go_wp2_with (go_at_call 136;refine (Em _ _ _).mono ?_;rintro e w' ⟨rfl,rfl⟩)
 obtain ⟨W,hW⟩: ∃W,((w.alloc (.cells #[.slice An g.nodes.length cn, .slice Ar g.ah.length cr] 39)).alloc (.cells #[.int .i64 0] 3)).alloc (.cells #[.slice An g.nodes.length cn, .slice Ar g.ah.length cr] 39)=W:=⟨_,rfl⟩
 have hsz:W.heap.size=w.heap.size+3:=by rw [←hW];simp
 have b1:Blk W (w.heap.size+1) 3 #[.int .i64 0]:=by
  rw [←hW]
  have:=(Blk.new (w.alloc (.cells #[.slice An g.nodes.length cn, .slice Ar g.ah.length cr] 39)) 3 #[.int .i64 0]).alloc (.cells #[.slice An g.nodes.length cn, .slice Ar g.ah.length cr] 39)
  simpa using this
 have b2:Blk W (w.heap.size+1+1) 39 #[.slice An g.nodes.length cn, .slice Ar g.ah.length cr]:=by
  rw [←hW]
  have:=Blk.new ((w.alloc (.cells #[.slice An g.nodes.length cn, .slice Ar g.ah.length cr] 39)).alloc (.cells #[.int .i64 0] 3)) 39 #[.slice An g.nodes.length cn, .slice Ar g.ah.length cr]
  simpa using this
 have bb:Below w.heap.size w W:=by rw [←hW];exact (((Below.refl _ w).alloc (Nat.le_refl _) _).alloc (by simp) _).alloc (by simp;omega) _
 rw [hW]
 have HN:=hq7 hN
 have HR:=hq7 hR
 have HOK:=hq7 hok
 have HCK:=hq7 hck
 obtain ⟨nn,hnn⟩: ∃n,g.nodes.length=n:=⟨_,rfl⟩
 obtain ⟨rn,hrn⟩: ∃n,g.ah.length=n:=⟨_,rfl⟩
 clear hW hN hR hok hck
 refine (wpIn_wide (n:=9)).1 ?_
 refine' uU 207 (gf:=186) (lb:= #[.pointer (some ⟨w.heap.size+1+1,0,none⟩)]) rfl (enters_of Tryz.func186 (by kernel_rfl) rfl) (encs:=lJ) (fun x=>rfl) (Pre:=fun _ _ _=>True) _ wgtW1 (fun x W=>(Below.refl _ W).alloc (Nat.le_refl _) _) (fun _ _ _ _ _ _ _ _=>trivial)
  (fun W1 hb hn=>Ef 207 W.heap.size B (w.heap.size+1+1) g An Ar cn cr w HN.out HR.out HOK.out W1)
  (fun pre V=>Blk V (w.heap.size+1) 3 #[.int .i64 (Gr.aG (pre.map PIt.p):Nat)]∧Blk V (w.heap.size+1+1) 39 #[.slice An g.nodes.length cn, .slice Ar g.ah.length cr]∧Below w.heap.size w V)
  (fun c V=>False)
  ?hI ?hIx ?hAux ⟨b1,b2,bb⟩ ?assign ?body ?done ?stop
 case hI=>
  rintro pre A B' ⟨h1,h2,h3⟩ hs
  exact ⟨hs.blk h1 (by decide),hs.blk h2 (by decide),h3.trans (hs.below (by omega) h3.size)⟩
 case hIx=>
  rintro c A B' h hs
  exact h
 case hAux=>
  rintro pre V ⟨-,h2,h3⟩
  exact ⟨h3.mono hB,h2⟩
 case assign=>
  intro l x V K hK
  simp only [lJ,PIt.cells,ST]
  gi_wp2
  exact hK
 case body=>
  rintro l pre x W0 Va V ⟨h1,h2,h3⟩ hs1 hs2 hblk hvs - hstep hl hn0
  have hs':=hs1.trans hs2
  obtain ⟨p,An',cn',At',ct'⟩:=x
  obtain ⟨hpre,rd1,rd2⟩:=hstep
  have hmem:p∈Gr.bf g:=hpre.subset (by simp)
  have hpok:POk p:=by
   unfold Gr.bf at hmem
   rcases List.mem_append.1 hmem with hm | hm
   ·obtain ⟨n,hn,hp⟩:=List.mem_flatMap.1 hm
    exact (HOK.out.ns n hn).ps p hp
   ·obtain ⟨n,hn,hp⟩:=List.mem_flatMap.1 hm
    exact (HOK.out.rs n hn).ps p hp
  have hc0:=HCK.out p hmem
  have g1:=hs'.blk h1 (show 3≠207 by decide)
  have g2:=hs'.blk h2 (show 39≠207 by decide)
  have g3:=h3.trans (hs'.below (by omega) h3.size)
  have gt:=hblk Va.heap.size 61 _ (Blk.new _ _ _)
  have hle:Gr.aG (pre.map PIt.p)≤41000*1073741824:=by
   have q:=(hpre.length_le)
   rw [List.length_map,List.length_append,List.length_singleton] at q
   have q2:=wM (l:=pre.map PIt.p) (fun y hy=>HCK.out y (hpre.subset (by rw [List.map_append];exact List.mem_append_left _ hy)))
   rw [List.length_map] at q2
   refine Nat.le_trans q2 (Nat.mul_le_mul_left _ (by omega))
  have hel:=wL hc0
  have hvin:=(jO (cn:=cn') (ct:=ct') hpok.val rd1 rd2).below (g3.mono hB)
  have hW:=fun (V':World) (hv:Below V.heap.size V V')=>Oa B _ p.val V' (hvin.below (hv.mono (Nat.le_trans hB g3.size))) (Nat.le_trans (Nat.le_trans hB g3.size) hv.size) hc0
  obtain ⟨S,hS⟩: ∃S,Gr.aG (pre.map PIt.p)=S:=⟨_,rfl⟩
  obtain ⟨E,hE⟩: ∃E,Gr.dQ p.val=E:=⟨_,rfl⟩
  rw [hS] at g1 hle
  rw [hE] at hW hel
  have HS:=hq7 hS
  have HE:=hq7 hE
  have G1:=hq7 g1
  have G2:=hq7 g2
  have G3:=hq7 g3
  simp only [PIt.cells,ST] at gt hW
  obtain ⟨t0,t1,t2,t3,t4,t5⟩:=cells6 gt
  have c1:=g1.cell 0
  simp only [List.getElem?_toArray,List.getElem?_cons_zero] at c1
  have f1:=g1.frozen 0
  have HW:=hq7 hW
  have hSi:(S:Int)≤41000*1073741824:=by omega
  have hEi:(E:Int)≤41000:=by omega
  clear hs' hs1 hs2 hblk h1 h2 h3 hpre rd1 rd2 hmem hpok hc0 g1 g2 g3 gt hle hel hvin hW hS hE b1 b2 bb
  have hwr:IntKind.i64.wrap ((S:Int)+(E:Int))=(S:Int)+(E:Int):=IntWalk.i64_in _ (by omega)
  have hmx:Tryz.prog.follows .mixedOrders=true:=by kernel_rfl
  have hfw:Fence.wide.fn 139:=trivial
  gi_wp2
  gi_region_with_o (gi_at_call 139;refine (CallsIn.inRound l (callsIn_wide.2 (HW.out _ (by first | exact Below.refl _ _ | exact Below.drew (Below.refl _ _))))).mono ?_;rintro e w' ⟨rfl,hb⟩;have HBV:Hid (Below V.heap.size V w'):=(by first | exact hb | exact (Below.drew (Below.refl _ _)).trans hb);obtain ⟨c2,f2⟩:=Ob G1.out HBV;clear hb)
  all_goals
   refine ⟨((KeepsOthers.of_grownBy (bJ HBV.out none) (fun j o e=>by cases e)).from _).trans ((KeepsOthers.setCell _ _ _).from _), ?_, ?_, ?_, ?_⟩
   ·refine (dI.iW (bJ HBV.out none) (fun g c fz e=>by cases e)).trans (dI.iW (grownBy_set w' ⟨w.heap.size+1,0,none⟩ _) (fun g c fz e hc=> ?_))
    cases e
    have:=G1.out.below HBV.out G1.out.lt
    unfold Blk at this
    rw [show w'.heap[w.heap.size+1]?=_ from hc] at this
    cases this
   ·have:=(G1.out.below HBV.out G1.out.lt).ay 0 (.int .i64 ((S:Int)+(E:Int)))
    have hx:Gr.aG (List.map PIt.p [⟨p,An',cn',At',ct'⟩])=E:=by rw [←HE.out];simp [Gr.aG]
    rw [List.map_append,oC,HS.out,hx,Int.natCast_add]
    exact this
   ·exact (G2.out.below HBV.out G2.out.lt).far (by simp) _
   ·exact (G3.out.trans (HBV.out.mono G3.out.size)).setCell (by simp) _
 case done=>
  rintro D xs V hD hend ⟨h1,h2,h3⟩ hK
  unfold wF at hend
  rw [hend] at h1
  have c1:=h1.cell 0
  have f1:=h1.frozen 0
  simp only [List.getElem?_toArray,List.getElem?_cons_zero] at c1
  have H1:=hq7 h1
  have H3:=hq7 h3
  have HKD:=hq7 hK
  have HSZ:=hq7 hsz
  have HDD:=hq7 hD
  clear h1 h2 h3 hend hK hsz hD b1 b2 bb
  go_wp2
  have n1:D≠w.heap.size+1:=by have:=HSZ.out;have:=HDD.out;omega
  have hK2:(V.setCell ⟨w.heap.size+1,0,none⟩ (.int .i64 (Gr.aG (Gr.bf g):Nat))).heap[D]?=some (.deferred (some [])):=by
   rw [Below.heap_setCell _ _ _ _ n1]
   exact HKD.out
  have B1:=lD (o:= .deferred none) hK2 (H1.out.ay 0 (.int .i64 (Gr.aG (Gr.bf g):Nat)))
  have q1:=B1.cell 0
  simp at q1
  refine qC hK2 (v:= .int .i64 (Gr.aG (Gr.bf g):Nat)) (by simp [results,Tryz.results80,go_sem,q1]) ?_
  exact ⟨rfl,qB (H3.out.setCell (p:=⟨w.heap.size+1,0,none⟩) (by simp) _) (by have:=HSZ.out;have:=HDD.out;omega)⟩
 case stop=>
  rintro D c V hD h hK
  exact h.elim
end Go.Proofs.YtoofbflplhbpbaaGreatDoor
