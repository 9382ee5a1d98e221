/- Contracts and plain laws,part 13. -/
import Derived.Test.YtoofbflplhbpbaaGreatDoorBK12
import Derived.Lib.Replace
import Derived.Lib.IndexLaws
import Derived.Lib.IndexBytes
import Derived.Lib.CountLaws
import Derived.Test.YtoofbflplhbpbaaGreatDoorCards
import Derived.Test.YtoofbflplhbpbaaGreatDoorTie
import Derived.ProofKit
import Derived.OpenShut
import Derived.Deep.DeepHandedRow
import Derived.Deep.DeepWitnessRowRef
import Derived.Lib.LaidIn
import Derived.Lib.LaidTab
import Derived.Stop.LaidErr
import Derived.ChangeSame
import Derived.ChangeStays
import Derived.ChangeBook
import Derived.ChangeMaps5
set_option maxHeartbeats 64000000
set_option maxRecDepth 1000000
set_option linter.all false
namespace Go.Proofs.YtoofbflplhbpbaaGreatDoor
open Go.RowKit
theorem Jm (B:Nat) (u:Value) (v:Cel.V) (w:World) (h:VIn w B u v) (_hB:B≤w.heap.size) (hlo:1≤v.kind) (hhi:v.kind≤8):
  Calls Tryz.prog 66 #[u] w fun e w'=>e= .returned (.bool (decide (Cel.Unused v)))∧Below w.heap.size w w':=by
 obtain ⟨A1,c1,A2,c2,rfl,-,-⟩:=h.ex
 have hnl:=h.nl
 have hsl:=h.sl
 have hb:=fun (W:World)=>tJ v.kind W h.kin
 clear h
 obtain ⟨k0,n0,t0,ns,ts⟩:=v
 simp only at hnl hsl hlo hhi hb⊢
 obtain ⟨U,hU⟩: ∃U,decide (Cel.Unused ⟨k0,n0,t0,ns,ts⟩)=U:=⟨_,rfl⟩
 rw [hU]
 obtain ⟨nn,hnn⟩: ∃n,ns.length=n:=⟨_,rfl⟩
 obtain ⟨tn,htn⟩: ∃n,ts.length=n:=⟨_,rfl⟩
 obtain ⟨z,hz⟩: ∃z:ByteArray,(⟨t0.toArray⟩:ByteArray)=z:=⟨_,rfl⟩
 have hzd:z.data.toList=t0:=by rw [←hz]
 rw [hnn] at hnl⊢
 rw [htn] at hsl⊢
 rw [hz]
 obtain ⟨W1,hW1⟩: ∃W1,w.alloc (.cells #[.int .i64 k0, .int .i64 n0, .string z, .slice A1 nn c1, .slice A2 tn c2] 25)=W1:=⟨_,rfl⟩
 have hb1:Below w.heap.size w W1:=by rw [←hW1];exact (Below.refl _ w).alloc (Nat.le_refl _) _
 have k1:Blk W1 w.heap.size 25 #[.int .i64 k0, .int .i64 n0, .string z, .slice A1 nn c1, .slice A2 tn c2]:=by rw [←hW1];exact Blk.new _ _ _
 have HB1:=hq7 hb1
 have HW1:=hq7 hW1
 have HNN:=hq7 hnn
 have HTN:=hq7 htn
 have HZD:=hq7 hzd
 have HU:=hq7 hU
 obtain ⟨a0,a1,a2,a3,a4,-⟩:=dG k1
 have hu:=eu
 clear hnn htn hz k1 hb1 hW1 hzd hU
 by_cases hk:k0<4
 ·have HK:Hid (1≤k0∧k0<4):=hq7 ⟨hlo,by omega⟩
  have hcb:Cel.dV k0=k0:=by unfold Cel.dV;rw [if_neg (by omega)]
  rw [hcb] at hb
  have HB:=hq7 hb
  have fc:(k0 == 4)=false:=beq_eq_false_iff_ne.2 (by omega)
  have hc:=trivial
  have fl:decide (4<k0)=false:=decide_eq_false (by omega)
  have fl':k0≤4:=by omega
  clear hb hcb hc hlo hhi hk
  by_cases h:n0≠0
  ·have fN:(n0 !=0)=true:=bne_iff_ne.2 h
   have HN:=hq7 h
   clear h
   by_cases h:t0.length≠0
   ·have fT:z.toList.isEmpty=false:=by
     rw [List.isEmpty_eq_false_iff]
     exact fun e=>h ((gu HZD.out).1 e)
    have HT:=hq7 h
    clear h
    have HU2:Hid (U=true):=by
     rw [←HU.out,aA,HNN.out,HTN.out]
     exact hq7 (decide_eq_true (by have:=HK.out;have:=HN.out;have:=HT.out;omega))
    go_enter Tryz.func66,Tryz.ntmps66
    go_upto_region 1 with fail
    rw [HW1.out]
    go_wp2_with fail
    refine (HB.out _).mono ?_
    rintro e w' ⟨rfl,rfl⟩
    go_wp2
    go_ret
    exact ⟨by rw [HU2.out];rfl,HB1.out⟩
   ·have fT:z.toList.isEmpty=true:=by
     rw [List.isEmpty_iff]
     exact (gu HZD.out).2 (by omega)
    have HT:=hq7 h
    clear h
    by_cases h:0<nn
    ·have fS:decide (0<nn)=true:=decide_eq_true h
     have gS:((nn:Int) !=0)=true:=by rw [bne_iff_ne];omega
     have HS:=hq7 h
     clear h
     have HU2:Hid (U=true):=by
      rw [←HU.out,aA,HNN.out,HTN.out]
      exact hq7 (decide_eq_true (by have:=HK.out;have:=HN.out;have:=HT.out;have:=HS.out;omega))
     go_enter Tryz.func66,Tryz.ntmps66
     go_upto_region 1 with fail
     rw [HW1.out]
     go_wp2_with fail
     refine (HB.out _).mono ?_
     rintro e w' ⟨rfl,rfl⟩
     go_wp2
     go_ret
     exact ⟨by rw [HU2.out];rfl,HB1.out⟩
    ·have fS:decide (0<nn)=false:=decide_eq_false h
     have gS:((nn:Int) !=0)=false:=by rw [bne_eq_false_iff_eq];omega
     have HS:=hq7 h
     clear h
     by_cases h:0<tn
     ·have fX:decide (0<tn)=true:=decide_eq_true h
      have gX:((tn:Int) !=0)=true:=by rw [bne_iff_ne];omega
      have HX:=hq7 h
      clear h
      have HU2:Hid (U=true):=by
       rw [←HU.out,aA,HNN.out,HTN.out]
       exact hq7 (decide_eq_true (by have:=HK.out;have:=HN.out;have:=HT.out;have:=HS.out;have:=HX.out;omega))
      go_enter Tryz.func66,Tryz.ntmps66
      go_upto_region 1 with fail
      rw [HW1.out]
      go_wp2_with fail
      refine (HB.out _).mono ?_
      rintro e w' ⟨rfl,rfl⟩
      go_wp2
      go_ret
      exact ⟨by rw [HU2.out];rfl,HB1.out⟩
     ·have fX:decide (0<tn)=false:=decide_eq_false h
      have gX:((tn:Int) !=0)=false:=by rw [bne_eq_false_iff_eq];omega
      have HX:=hq7 h
      clear h
      have HU2:Hid (U=false):=by
       rw [←HU.out,aA,HNN.out,HTN.out]
       exact hq7 (decide_eq_false (by have:=HK.out;have:=HN.out;have:=HT.out;have:=HS.out;have:=HX.out;omega))
      go_enter Tryz.func66,Tryz.ntmps66
      go_upto_region 1 with fail
      rw [HW1.out]
      go_wp2_with fail
      refine (HB.out _).mono ?_
      rintro e w' ⟨rfl,rfl⟩
      go_wp2
      go_ret
      exact ⟨by rw [HU2.out];rfl,HB1.out⟩
  ·have fN:(n0 !=0)=false:=by simpa using h
   have HN:=hq7 h
   clear h
   by_cases h:t0.length≠0
   ·have fT:z.toList.isEmpty=false:=by
     rw [List.isEmpty_eq_false_iff]
     exact fun e=>h ((gu HZD.out).1 e)
    have HT:=hq7 h
    clear h
    have HU2:Hid (U=true):=by
     rw [←HU.out,aA,HNN.out,HTN.out]
     exact hq7 (decide_eq_true (by have:=HK.out;have:=HN.out;have:=HT.out;omega))
    go_enter Tryz.func66,Tryz.ntmps66
    go_upto_region 1 with fail
    rw [HW1.out]
    go_wp2_with fail
    refine (HB.out _).mono ?_
    rintro e w' ⟨rfl,rfl⟩
    go_wp2
    go_ret
    exact ⟨by rw [HU2.out];rfl,HB1.out⟩
   ·have fT:z.toList.isEmpty=true:=by
     rw [List.isEmpty_iff]
     exact (gu HZD.out).2 (by omega)
    have HT:=hq7 h
    clear h
    by_cases h:0<nn
    ·have fS:decide (0<nn)=true:=decide_eq_true h
     have gS:((nn:Int) !=0)=true:=by rw [bne_iff_ne];omega
     have HS:=hq7 h
     clear h
     have HU2:Hid (U=true):=by
      rw [←HU.out,aA,HNN.out,HTN.out]
      exact hq7 (decide_eq_true (by have:=HK.out;have:=HN.out;have:=HT.out;have:=HS.out;omega))
     go_enter Tryz.func66,Tryz.ntmps66
     go_upto_region 1 with fail
     rw [HW1.out]
     go_wp2_with fail
     refine (HB.out _).mono ?_
     rintro e w' ⟨rfl,rfl⟩
     go_wp2
     go_ret
     exact ⟨by rw [HU2.out];rfl,HB1.out⟩
    ·have fS:decide (0<nn)=false:=decide_eq_false h
     have gS:((nn:Int) !=0)=false:=by rw [bne_eq_false_iff_eq];omega
     have HS:=hq7 h
     clear h
     by_cases h:0<tn
     ·have fX:decide (0<tn)=true:=decide_eq_true h
      have gX:((tn:Int) !=0)=true:=by rw [bne_iff_ne];omega
      have HX:=hq7 h
      clear h
      have HU2:Hid (U=true):=by
       rw [←HU.out,aA,HNN.out,HTN.out]
       exact hq7 (decide_eq_true (by have:=HK.out;have:=HN.out;have:=HT.out;have:=HS.out;have:=HX.out;omega))
      go_enter Tryz.func66,Tryz.ntmps66
      go_upto_region 1 with fail
      rw [HW1.out]
      go_wp2_with fail
      refine (HB.out _).mono ?_
      rintro e w' ⟨rfl,rfl⟩
      go_wp2
      go_ret
      exact ⟨by rw [HU2.out];rfl,HB1.out⟩
     ·have fX:decide (0<tn)=false:=decide_eq_false h
      have gX:((tn:Int) !=0)=false:=by rw [bne_eq_false_iff_eq];omega
      have HX:=hq7 h
      clear h
      have HU2:Hid (U=false):=by
       rw [←HU.out,aA,HNN.out,HTN.out]
       exact hq7 (decide_eq_false (by have:=HK.out;have:=HN.out;have:=HT.out;have:=HS.out;have:=HX.out;omega))
      go_enter Tryz.func66,Tryz.ntmps66
      go_upto_region 1 with fail
      rw [HW1.out]
      go_wp2_with fail
      refine (HB.out _).mono ?_
      rintro e w' ⟨rfl,rfl⟩
      go_wp2
      go_ret
      exact ⟨by rw [HU2.out];rfl,HB1.out⟩
 by_cases hk:k0=4
 ·have HK:Hid (1≤k0∧k0=4):=hq7 ⟨hlo,by omega⟩
  have hcb:Cel.dV k0=4:=by unfold Cel.dV;rw [if_neg (by omega)];omega
  rw [hcb] at hb
  obtain ⟨c,hc⟩: ∃c,(4:Int)=c:=⟨_,rfl⟩
  rw [hc] at hb
  have HB:=hq7 hb
  have fc:(c == 4)=true:=beq_iff_eq.2 (by omega)
  have fl:decide (4<k0)=false:=decide_eq_false (by omega)
  have fl':k0≤4:=by omega
  clear hb hcb hc hlo hhi hk
  by_cases h:n0≠0
  ·have fN:(n0 !=0)=true:=bne_iff_ne.2 h
   have HN:=hq7 h
   clear h
   have HU2:Hid (U=true):=by
    rw [←HU.out,aA,HNN.out,HTN.out]
    exact hq7 (decide_eq_true (by have:=HK.out;have:=HN.out;omega))
   go_enter Tryz.func66,Tryz.ntmps66
   go_upto_region 1 with fail
   rw [HW1.out]
   go_wp2_with fail
   refine (HB.out _).mono ?_
   rintro e w' ⟨rfl,rfl⟩
   go_wp2
   go_ret
   exact ⟨by rw [HU2.out];rfl,HB1.out⟩
  ·have fN:(n0 !=0)=false:=by simpa using h
   have HN:=hq7 h
   clear h
   by_cases h:t0.length≠0
   ·have fT:z.toList.isEmpty=false:=by
     rw [List.isEmpty_eq_false_iff]
     exact fun e=>h ((gu HZD.out).1 e)
    have HT:=hq7 h
    clear h
    by_cases h:0<nn
    ·have fS:decide (0<nn)=true:=decide_eq_true h
     have gS:((nn:Int) !=0)=true:=by rw [bne_iff_ne];omega
     have HS:=hq7 h
     clear h
     have HU2:Hid (U=true):=by
      rw [←HU.out,aA,HNN.out,HTN.out]
      exact hq7 (decide_eq_true (by have:=HK.out;have:=HN.out;have:=HT.out;have:=HS.out;omega))
     go_enter Tryz.func66,Tryz.ntmps66
     go_upto_region 1 with fail
     rw [HW1.out]
     go_wp2_with fail
     refine (HB.out _).mono ?_
     rintro e w' ⟨rfl,rfl⟩
     go_wp2
     go_ret
     exact ⟨by rw [HU2.out];rfl,HB1.out⟩
    ·have fS:decide (0<nn)=false:=decide_eq_false h
     have gS:((nn:Int) !=0)=false:=by rw [bne_eq_false_iff_eq];omega
     have HS:=hq7 h
     clear h
     by_cases h:0<tn
     ·have fX:decide (0<tn)=true:=decide_eq_true h
      have gX:((tn:Int) !=0)=true:=by rw [bne_iff_ne];omega
      have HX:=hq7 h
      clear h
      have HU2:Hid (U=true):=by
       rw [←HU.out,aA,HNN.out,HTN.out]
       exact hq7 (decide_eq_true (by have:=HK.out;have:=HN.out;have:=HT.out;have:=HS.out;have:=HX.out;omega))
      go_enter Tryz.func66,Tryz.ntmps66
      go_upto_region 1 with fail
      rw [HW1.out]
      go_wp2_with fail
      refine (HB.out _).mono ?_
      rintro e w' ⟨rfl,rfl⟩
      go_wp2
      go_ret
      exact ⟨by rw [HU2.out];rfl,HB1.out⟩
     ·have fX:decide (0<tn)=false:=decide_eq_false h
      have gX:((tn:Int) !=0)=false:=by rw [bne_eq_false_iff_eq];omega
      have HX:=hq7 h
      clear h
      have HU2:Hid (U=false):=by
       rw [←HU.out,aA,HNN.out,HTN.out]
       exact hq7 (decide_eq_false (by have:=HK.out;have:=HN.out;have:=HT.out;have:=HS.out;have:=HX.out;omega))
      go_enter Tryz.func66,Tryz.ntmps66
      go_upto_region 1 with fail
      rw [HW1.out]
      go_wp2_with fail
      refine (HB.out _).mono ?_
      rintro e w' ⟨rfl,rfl⟩
      go_wp2
      go_ret
      exact ⟨by rw [HU2.out];rfl,HB1.out⟩
   ·have fT:z.toList.isEmpty=true:=by
     rw [List.isEmpty_iff]
     exact (gu HZD.out).2 (by omega)
    have HT:=hq7 h
    clear h
    by_cases h:0<nn
    ·have fS:decide (0<nn)=true:=decide_eq_true h
     have gS:((nn:Int) !=0)=true:=by rw [bne_iff_ne];omega
     have HS:=hq7 h
     clear h
     have HU2:Hid (U=true):=by
      rw [←HU.out,aA,HNN.out,HTN.out]
      exact hq7 (decide_eq_true (by have:=HK.out;have:=HN.out;have:=HT.out;have:=HS.out;omega))
     go_enter Tryz.func66,Tryz.ntmps66
     go_upto_region 1 with fail
     rw [HW1.out]
     go_wp2_with fail
     refine (HB.out _).mono ?_
     rintro e w' ⟨rfl,rfl⟩
     go_wp2
     go_ret
     exact ⟨by rw [HU2.out];rfl,HB1.out⟩
    ·have fS:decide (0<nn)=false:=decide_eq_false h
     have gS:((nn:Int) !=0)=false:=by rw [bne_eq_false_iff_eq];omega
     have HS:=hq7 h
     clear h
     by_cases h:0<tn
     ·have fX:decide (0<tn)=true:=decide_eq_true h
      have gX:((tn:Int) !=0)=true:=by rw [bne_iff_ne];omega
      have HX:=hq7 h
      clear h
      have HU2:Hid (U=true):=by
       rw [←HU.out,aA,HNN.out,HTN.out]
       exact hq7 (decide_eq_true (by have:=HK.out;have:=HN.out;have:=HT.out;have:=HS.out;have:=HX.out;omega))
      go_enter Tryz.func66,Tryz.ntmps66
      go_upto_region 1 with fail
      rw [HW1.out]
      go_wp2_with fail
      refine (HB.out _).mono ?_
      rintro e w' ⟨rfl,rfl⟩
      go_wp2
      go_ret
      exact ⟨by rw [HU2.out];rfl,HB1.out⟩
     ·have fX:decide (0<tn)=false:=decide_eq_false h
      have gX:((tn:Int) !=0)=false:=by rw [bne_eq_false_iff_eq];omega
      have HX:=hq7 h
      clear h
      have HU2:Hid (U=false):=by
       rw [←HU.out,aA,HNN.out,HTN.out]
       exact hq7 (decide_eq_false (by have:=HK.out;have:=HN.out;have:=HT.out;have:=HS.out;have:=HX.out;omega))
      go_enter Tryz.func66,Tryz.ntmps66
      go_upto_region 1 with fail
      rw [HW1.out]
      go_wp2_with fail
      refine (HB.out _).mono ?_
      rintro e w' ⟨rfl,rfl⟩
      go_wp2
      go_ret
      exact ⟨by rw [HU2.out];rfl,HB1.out⟩
 by_cases hk:k0<8
 ·have HK:Hid (1≤k0∧4<k0∧k0<8):=hq7 ⟨hlo,by omega,hk⟩
  have hcb:Cel.dV k0=k0 - 4:=by unfold Cel.dV;rw [if_pos (by omega)]
  rw [hcb] at hb
  obtain ⟨c,hc⟩: ∃c,(k0 - 4:Int)=c:=⟨_,rfl⟩
  rw [hc] at hb
  have HB:=hq7 hb
  have fc:(c == 4)=false:=beq_eq_false_iff_ne.2 (by omega)
  have fl:decide (4<k0)=true:=decide_eq_true (by omega)
  have fl':4<k0:=by omega
  clear hb hcb hc hlo hhi hk
  by_cases h:n0≠0
  ·have fN:(n0 !=0)=true:=bne_iff_ne.2 h
   have HN:=hq7 h
   clear h
   have HU2:Hid (U=true):=by
    rw [←HU.out,aA,HNN.out,HTN.out]
    exact hq7 (decide_eq_true (by have:=HK.out;have:=HN.out;omega))
   go_enter Tryz.func66,Tryz.ntmps66
   go_upto_region 1 with fail
   rw [HW1.out]
   go_wp2_with fail
   refine (HB.out _).mono ?_
   rintro e w' ⟨rfl,rfl⟩
   go_wp2
   go_ret
   exact ⟨by rw [HU2.out];rfl,HB1.out⟩
  ·have fN:(n0 !=0)=false:=by simpa using h
   have HN:=hq7 h
   clear h
   by_cases h:t0.length≠0
   ·have fT:z.toList.isEmpty=false:=by
     rw [List.isEmpty_eq_false_iff]
     exact fun e=>h ((gu HZD.out).1 e)
    have HT:=hq7 h
    clear h
    have HU2:Hid (U=true):=by
     rw [←HU.out,aA,HNN.out,HTN.out]
     exact hq7 (decide_eq_true (by have:=HK.out;have:=HN.out;have:=HT.out;omega))
    go_enter Tryz.func66,Tryz.ntmps66
    go_upto_region 1 with fail
    rw [HW1.out]
    go_wp2_with fail
    refine (HB.out _).mono ?_
    rintro e w' ⟨rfl,rfl⟩
    go_wp2
    go_ret
    exact ⟨by rw [HU2.out];rfl,HB1.out⟩
   ·have fT:z.toList.isEmpty=true:=by
     rw [List.isEmpty_iff]
     exact (gu HZD.out).2 (by omega)
    have HT:=hq7 h
    clear h
    by_cases h:0<nn
    ·have fS:decide (0<nn)=true:=decide_eq_true h
     have gS:((nn:Int) !=0)=true:=by rw [bne_iff_ne];omega
     have HS:=hq7 h
     clear h
     by_cases h:0<tn
     ·have fX:decide (0<tn)=true:=decide_eq_true h
      have gX:((tn:Int) !=0)=true:=by rw [bne_iff_ne];omega
      have HX:=hq7 h
      clear h
      have HU2:Hid (U=true):=by
       rw [←HU.out,aA,HNN.out,HTN.out]
       exact hq7 (decide_eq_true (by have:=HK.out;have:=HN.out;have:=HT.out;have:=HS.out;have:=HX.out;omega))
      go_enter Tryz.func66,Tryz.ntmps66
      go_upto_region 1 with fail
      rw [HW1.out]
      go_wp2_with fail
      refine (HB.out _).mono ?_
      rintro e w' ⟨rfl,rfl⟩
      go_wp2
      go_ret
      exact ⟨by rw [HU2.out];rfl,HB1.out⟩
     ·have fX:decide (0<tn)=false:=decide_eq_false h
      have gX:((tn:Int) !=0)=false:=by rw [bne_eq_false_iff_eq];omega
      have HX:=hq7 h
      clear h
      have HU2:Hid (U=false):=by
       rw [←HU.out,aA,HNN.out,HTN.out]
       exact hq7 (decide_eq_false (by have:=HK.out;have:=HN.out;have:=HT.out;have:=HS.out;have:=HX.out;omega))
      go_enter Tryz.func66,Tryz.ntmps66
      go_upto_region 1 with fail
      rw [HW1.out]
      go_wp2_with fail
      refine (HB.out _).mono ?_
      rintro e w' ⟨rfl,rfl⟩
      go_wp2
      go_ret
      exact ⟨by rw [HU2.out];rfl,HB1.out⟩
    ·have fS:decide (0<nn)=false:=decide_eq_false h
     have gS:((nn:Int) !=0)=false:=by rw [bne_eq_false_iff_eq];omega
     have HS:=hq7 h
     clear h
     by_cases h:0<tn
     ·have fX:decide (0<tn)=true:=decide_eq_true h
      have gX:((tn:Int) !=0)=true:=by rw [bne_iff_ne];omega
      have HX:=hq7 h
      clear h
      have HU2:Hid (U=true):=by
       rw [←HU.out,aA,HNN.out,HTN.out]
       exact hq7 (decide_eq_true (by have:=HK.out;have:=HN.out;have:=HT.out;have:=HS.out;have:=HX.out;omega))
      go_enter Tryz.func66,Tryz.ntmps66
      go_upto_region 1 with fail
      rw [HW1.out]
      go_wp2_with fail
      refine (HB.out _).mono ?_
      rintro e w' ⟨rfl,rfl⟩
      go_wp2
      go_ret
      exact ⟨by rw [HU2.out];rfl,HB1.out⟩
     ·have fX:decide (0<tn)=false:=decide_eq_false h
      have gX:((tn:Int) !=0)=false:=by rw [bne_eq_false_iff_eq];omega
      have HX:=hq7 h
      clear h
      have HU2:Hid (U=false):=by
       rw [←HU.out,aA,HNN.out,HTN.out]
       exact hq7 (decide_eq_false (by have:=HK.out;have:=HN.out;have:=HT.out;have:=HS.out;have:=HX.out;omega))
      go_enter Tryz.func66,Tryz.ntmps66
      go_upto_region 1 with fail
      rw [HW1.out]
      go_wp2_with fail
      refine (HB.out _).mono ?_
      rintro e w' ⟨rfl,rfl⟩
      go_wp2
      go_ret
      exact ⟨by rw [HU2.out];rfl,HB1.out⟩
 have HK:Hid (k0=8):=hq7 (by omega)
 have hcb:Cel.dV k0=4:=by unfold Cel.dV;rw [if_pos (by omega)];omega
 rw [hcb] at hb
 obtain ⟨c,hc⟩: ∃c,(4:Int)=c:=⟨_,rfl⟩
 rw [hc] at hb
 have HB:=hq7 hb
 have fc:(c == 4)=true:=beq_iff_eq.2 (by omega)
 have fl:decide (4<k0)=true:=decide_eq_true (by omega)
 have fl':4<k0:=by omega
 clear hb hcb hc hlo hhi
 by_cases h:n0≠0
 ·have fN:(n0 !=0)=true:=bne_iff_ne.2 h
  have HN:=hq7 h
  clear h
  have HU2:Hid (U=true):=by
   rw [←HU.out,aA,HNN.out,HTN.out]
   exact hq7 (decide_eq_true (by have:=HK.out;have:=HN.out;omega))
  go_enter Tryz.func66,Tryz.ntmps66
  go_upto_region 1 with fail
  rw [HW1.out]
  go_wp2_with fail
  refine (HB.out _).mono ?_
  rintro e w' ⟨rfl,rfl⟩
  go_wp2
  go_ret
  exact ⟨by rw [HU2.out];rfl,HB1.out⟩
 ·have fN:(n0 !=0)=false:=by simpa using h
  have HN:=hq7 h
  clear h
  by_cases h:t0.length≠0
  ·have fT:z.toList.isEmpty=false:=by
    rw [List.isEmpty_eq_false_iff]
    exact fun e=>h ((gu HZD.out).1 e)
   have HT:=hq7 h
   clear h
   have HU2:Hid (U=true):=by
    rw [←HU.out,aA,HNN.out,HTN.out]
    exact hq7 (decide_eq_true (by have:=HK.out;have:=HN.out;have:=HT.out;omega))
   go_enter Tryz.func66,Tryz.ntmps66
   go_upto_region 1 with fail
   rw [HW1.out]
   go_wp2_with fail
   refine (HB.out _).mono ?_
   rintro e w' ⟨rfl,rfl⟩
   go_wp2
   go_ret
   exact ⟨by rw [HU2.out];rfl,HB1.out⟩
  ·have fT:z.toList.isEmpty=true:=by
    rw [List.isEmpty_iff]
    exact (gu HZD.out).2 (by omega)
   have HT:=hq7 h
   clear h
   by_cases h:0<nn
   ·have fS:decide (0<nn)=true:=decide_eq_true h
    have gS:((nn:Int) !=0)=true:=by rw [bne_iff_ne];omega
    have HS:=hq7 h
    clear h
    have HU2:Hid (U=true):=by
     rw [←HU.out,aA,HNN.out,HTN.out]
     exact hq7 (decide_eq_true (by have:=HK.out;have:=HN.out;have:=HT.out;have:=HS.out;omega))
    go_enter Tryz.func66,Tryz.ntmps66
    go_upto_region 1 with fail
    rw [HW1.out]
    go_wp2_with fail
    refine (HB.out _).mono ?_
    rintro e w' ⟨rfl,rfl⟩
    go_wp2
    go_ret
    exact ⟨by rw [HU2.out];rfl,HB1.out⟩
   ·have fS:decide (0<nn)=false:=decide_eq_false h
    have gS:((nn:Int) !=0)=false:=by rw [bne_eq_false_iff_eq];omega
    have HS:=hq7 h
    clear h
    by_cases h:0<tn
    ·have fX:decide (0<tn)=true:=decide_eq_true h
     have gX:((tn:Int) !=0)=true:=by rw [bne_iff_ne];omega
     have HX:=hq7 h
     clear h
     have HU2:Hid (U=false):=by
      rw [←HU.out,aA,HNN.out,HTN.out]
      exact hq7 (decide_eq_false (by have:=HK.out;have:=HN.out;have:=HT.out;have:=HS.out;have:=HX.out;omega))
     go_enter Tryz.func66,Tryz.ntmps66
     go_upto_region 1 with fail
     rw [HW1.out]
     go_wp2_with fail
     refine (HB.out _).mono ?_
     rintro e w' ⟨rfl,rfl⟩
     go_wp2
     go_ret
     exact ⟨by rw [HU2.out];rfl,HB1.out⟩
    ·have fX:decide (0<tn)=false:=decide_eq_false h
     have gX:((tn:Int) !=0)=false:=by rw [bne_eq_false_iff_eq];omega
     have HX:=hq7 h
     clear h
     have HU2:Hid (U=false):=by
      rw [←HU.out,aA,HNN.out,HTN.out]
      exact hq7 (decide_eq_false (by have:=HK.out;have:=HN.out;have:=HT.out;have:=HS.out;have:=HX.out;omega))
     go_enter Tryz.func66,Tryz.ntmps66
     go_upto_region 1 with fail
     rw [HW1.out]
     go_wp2_with fail
     refine (HB.out _).mono ?_
     rintro e w' ⟨rfl,rfl⟩
     go_wp2
     go_ret
     exact ⟨by rw [HU2.out];rfl,HB1.out⟩
theorem Jo {k n:Int} {t:List UInt8} {ns:List Int} {ts:List (List UInt8)} (h1:1≤k) (h8:k≤8) {U:Bool} (hU:decide (Cel.Unused ⟨k,n,t,ns,ts⟩)=U):
  Cel.check ⟨k,n,t,ns,ts⟩=if U=true then 41 else if 40<ns.length∨40<ts.length then 45 else if 1000<t.length∨Cel.dP ts=true then 44 else if k<4 then Cel.aV k n else Cel.dD (k - 4) ns:=by
 unfold Cel.check
 rw [if_neg (by simp only;omega),←hU]
 simp only [decide_eq_true_eq]
theorem check_any (B:Nat) (u:Value) (v:Cel.V) (w:World) (h:VIn w B u v) (hB:B≤w.heap.size):
  Calls Tryz.prog 29 #[u] w fun e w'=>e= .returned (.int .i64 (Cel.check v:Nat))∧Below w.heap.size w w':=by
 have hun:=fun (W:World) (hb:Below w.heap.size w W) (h1:1≤v.kind) (h8:v.kind≤8)=>Jm B u v W (h.below (hb.mono hB)) (Nat.le_trans hB hb.size) h1 h8
 obtain ⟨A1,c1,A2,c2,rfl,ra1,ra2⟩:=h.ex
 have hnl:=h.nl
 have hsl:=h.sl
 obtain ⟨hk1,hk2⟩:=h.kin
 have hnum:=h.num
 have hnums:=h.nums
 have htl:=h.tl
 have hsz:=h.sz
 clear h
 obtain ⟨k0,n0,t0,ns,ts⟩:=v
 simp only at ra1 ra2 hnl hsl hk1 hk2 hnum hnums htl hsz hun⊢
 obtain ⟨R,hR⟩: ∃R,Cel.check ⟨k0,n0,t0,ns,ts⟩=R:=⟨_,rfl⟩
 rw [hR]
 obtain ⟨U,hU⟩: ∃U,decide (Cel.Unused ⟨k0,n0,t0,ns,ts⟩)=U:=⟨_,rfl⟩
 rw [hU] at hun
 have hcf:=fun h1 h8=>Jo (k:=k0) (n:=n0) (t:=t0) (ns:=ns) (ts:=ts) h1 h8 hU
 rw [hR] at hcf
 obtain ⟨nn,hnn⟩: ∃n,ns.length=n:=⟨_,rfl⟩
 obtain ⟨tn,htn⟩: ∃n,ts.length=n:=⟨_,rfl⟩
 obtain ⟨z,hz⟩: ∃z:ByteArray,(⟨t0.toArray⟩:ByteArray)=z:=⟨_,rfl⟩
 have hzs:z.size=t0.length:=by rw [←hz];exact aJ _
 rw [hnn] at ra1 hnl hun hcf⊢
 rw [htn] at ra2 hsl hun hcf⊢
 rw [hz] at hun⊢
 obtain ⟨W1,hW1⟩: ∃W1,w.alloc (.cells #[.int .i64 k0, .int .i64 n0, .string z, .slice A1 nn c1, .slice A2 tn c2] 25)=W1:=⟨_,rfl⟩
 have hb1:Below w.heap.size w W1:=by rw [←hW1];exact (Below.refl _ w).alloc (Nat.le_refl _) _
 have k1:Blk W1 w.heap.size 25 #[.int .i64 k0, .int .i64 n0, .string z, .slice A1 nn c1, .slice A2 tn c2]:=by rw [←hW1];exact Blk.new _ _ _
 have RA1:=hq7 (ra1.below (hb1.mono hB))
 have RA2:=hq7 (ra2.below (hb1.mono hB))
 have HB1:=hq7 hb1
 have HW1:=hq7 hW1
 have HCF:=hq7 hcf
 have HUN:=hq7 hun
 have HNN:=hq7 hnn
 have HTN:=hq7 htn
 have HNUM:=hq7 hnum
 have HNUMS:=hq7 hnums
 have HSZ:=hq7 hsz
 have HKB:=hq7 k1
 have HR0:=hq7 hR
 have HUU:=hq7 hU
 obtain ⟨a0,a1,a2,a3,a4,-⟩:=dG k1
 clear ra1 ra2 hnn htn hz k1 hb1 hW1 hcf hnum hnums hsz hun hU hR
 have hu:=eu
 go_enter Tryz.func29,Tryz.ntmps29
 go_upto_region 1 with fail
 rw [HW1.out]
 clear HW1
 by_cases hlo:k0<1
 ·have hr:R=40:=by rw [←HR0.out];unfold Cel.check;rw [if_pos (.inl hlo)]
  have HRR:=hq7 hr
  clear hr
  go_wp2
  go_ret
  exact ⟨by rw [HRR.out];rfl,HB1.out⟩
 by_cases hhi:8<k0
 ·have hr:R=40:=by rw [←HR0.out];unfold Cel.check;rw [if_pos (.inr hhi)]
  have HRR:=hq7 hr
  have t1:decide (k0<1)=false:=decide_eq_false hlo
  have t2:decide (8<k0)=true:=decide_eq_true hhi
  clear hr hlo
  go_wp2
  go_ret
  exact ⟨by rw [HRR.out];rfl,HB1.out⟩
 have t1:decide (k0<1)=false:=decide_eq_false hlo
 have t2:decide (8<k0)=false:=decide_eq_false hhi
 have hlo1:1≤k0:=by omega
 have hhi1:k0≤8:=by omega
 have hr0:=HCF.out hlo1 hhi1
 have HCU:=hq7 (HUN.out W1 HB1.out hlo1 hhi1)
 have HLO:Hid (1≤k0∧k0≤8):=⟨hlo1,hhi1⟩
 clear hlo hhi hk1 hk2 HCF HUN HR0
 go_wp2_with fail
 refine HCU.out.mono ?_
 rintro e w2 ⟨rfl,hb2⟩
 have HB2:=hq7 (HB1.out.trans (hb2.mono HB1.out.size))
 have HK2:=hq7 (HKB.out.below hb2 HKB.out.lt)
 have hwz:=HB1.out.size
 have RA1':=hq7 (RA1.out.below (hb2.mono (Nat.le_trans hB hwz)))
 have RA2':=hq7 (RA2.out.below (hb2.mono (Nat.le_trans hB hwz)))
 clear hb2 a0 a1 a2 a3 a4 HCU RA1 RA2 HKB
 obtain ⟨a0,a1,a2,a3,a4,-⟩:=dG HK2.out
 cases U with
 | true=>
  have hr:R=41:=by rw [hr0,if_pos rfl]
  have HRR:=hq7 hr
  clear hr hr0
  go_wp2
  go_ret
  exact ⟨by rw [HRR.out];rfl,HB2.out⟩
 | false=>
  rw [if_neg (by decide)] at hr0
  have huf:=HUU.out
  rw [aA,decide_eq_false_iff_not,HNN.out,HTN.out] at huf
  simp only [not_or] at huf
  obtain ⟨u1,u2,u3,u4⟩:=huf
  have HUS:=hq7 (⟨u1,u2,u3,u4⟩:_∧_∧_∧_)
  have HR1:=hq7 hr0
  clear u1 u2 u3 u4 hr0 HUU
  by_cases h40:40<nn
  ·have hr:R=45:=by rw [HR1.out,if_pos (.inl h40)]
   have HRR:=hq7 hr
   have f1:decide (40<nn)=true:=decide_eq_true h40
   have f1':(40:Int)<nn:=by omega
   clear hr h40
   go_wp2
   go_ret
   exact ⟨by rw [HRR.out];rfl,HB2.out⟩
  have f1:decide (40<nn)=false:=decide_eq_false h40
  have f1':(nn:Int)≤40:=by omega
  by_cases h41:40<tn
  ·have hr:R=45:=by rw [HR1.out,if_pos (.inr h41)]
   have HRR:=hq7 hr
   have f2:decide (40<tn)=true:=decide_eq_true h41
   have f2':(40:Int)<tn:=by omega
   clear hr h40 h41
   go_wp2
   go_ret
   exact ⟨by rw [HRR.out];rfl,HB2.out⟩
  have f2:decide (40<tn)=false:=decide_eq_false h41
  have f2':(tn:Int)≤40:=by omega
  have hr1:=HR1.out
  rw [if_neg (by omega)] at hr1
  have HR2:=hq7 hr1
  clear hr1 HR1 h40 h41
  by_cases htx:1000<t0.length
  ·have hr:R=44:=by rw [HR2.out,if_pos (.inl htx)]
   have HRR:=hq7 hr
   have f5:decide (1000<z.size)=true:=decide_eq_true (by omega)
   have f5':(1000:Int)<z.size:=by omega
   clear hr htx hzs
   go_wp2
   go_ret
   exact ⟨by rw [HRR.out];rfl,HB2.out⟩
  have f5:decide (1000<z.size)=false:=decide_eq_false (by omega)
  have f5':(z.size:Int)≤1000:=by omega
  have hcl:=fun (W:World) (hb:Below w2.heap.size w2 W)=>Ji B A2 tn c2 ts W (RA2'.out.below (hb.mono (Nat.le_trans hB HB2.out.size))) HTN.out (by omega) HSZ.out
  obtain ⟨L,hL⟩: ∃L,Cel.dP ts=L:=⟨_,rfl⟩
  rw [hL] at hcl
  have hr2:=HR2.out
  rw [hL] at hr2
  have HCL:=hq7 (hcl w2 (Below.refl _ _))
  have HL:=hq7 hL
  clear hcl hL HR2
  go_wp2_with fail
  refine HCL.out.mono ?_
  rintro e w' ⟨rfl,rfl⟩
  cases L with
  | true=>
   have hr:R=44:=by rw [hr2,if_pos (.inr rfl)]
   have HRR:=hq7 hr
   clear hr hr2 htx hzs
   go_wp2
   go_ret
   exact ⟨by rw [HRR.out];rfl,HB2.out⟩
  | false=>
   rw [if_neg (by rintro (h | h);exact htx h;cases h)] at hr2
   have HR3:=hq7 hr2
   clear hr2 htx hzs
   by_cases hk4:k0<4
   ·have hr:=HR3.out
    rw [if_pos hk4] at hr
    have hcb:Cel.dV k0=k0:=by unfold Cel.dV;rw [if_neg (by omega)]
    have hcall:=fun (W:World)=>zG k0 n0 W (by have:=HLO.out;unfold Cel.In64;omega) HNUM.out
    rw [hcb,←hr] at hcall
    have HC:=hq7 hcall
    have f3:decide (k0≤3)=true:=decide_eq_true (by omega)
    have f3':k0≤3:=by omega
    clear hr hcall hk4 hcb
    go_wp2_with fail
    refine (HC.out _).mono ?_
    rintro e w' ⟨rfl,rfl⟩
    go_wp2
    go_ret
    exact ⟨rfl,HB2.out⟩
   have f3:decide (k0≤3)=false:=decide_eq_false (by omega)
   have f3':4≤k0:=by omega
   have hr:=HR3.out
   rw [if_neg hk4] at hr
   have HR4:=hq7 hr
   clear hr HR3 hk4
   go_wp2_with fail
   go_loopg [51] nn (fun g x wr=> ∃k:Nat,x= .int .i64 k∧k+g=nn∧w2=wr∧ ∀(j:Nat) y,j<k→ns[j]?=some y→Cel.aV (k0 - 4) y=0)
   case atStart=>exact ⟨0,rfl,by omega,rfl,fun j y hj=>by omega⟩
   case round=>
    obtain ⟨k,rfl,hk,rfl,hz⟩:=hrel
    have HZ:=hq7 hz
    have HK:=hq7 hk
    have hkI:(k:Int)≤40:=by omega
    clear hz
    cases gk with
    | zero=>
     obtain rfl:k=nn:=by omega
     have hr:R=0:=by
      rw [HR4.out]
      exact tV (fun y hy=>by
       obtain ⟨j,hj,e⟩:=List.getElem_of_mem hy
       exact HZ.out j y (by have:=HNN.out;omega) (by rw [List.getElem?_eq_getElem hj,e]))
     have HRR:=hq7 hr
     clear hk hr
     go_wp2
     go_ret
     exact ⟨by rw [HRR.out];rfl,HB2.out⟩
    | succ g=>
     have hkn:k<nn:=by omega
     have hknI:(k:Int)<nn:=by omega
     have hkl:k<ns.length:=by rw [HNN.out];exact hkn
     obtain ⟨p,o,x,rfl,hpB,hx,hp⟩:=RA1'.out.cell hkn
     rw [List.getElem?_map,List.getElem?_eq_getElem hkl] at hx
     obtain rfl:=(Option.some.inj hx).symm
     obtain ⟨y,hy⟩: ∃y,ns[k]=y:=⟨_,rfl⟩
     rw [hy] at hp
     unfold I64 at hp
     have hyk:ns[k]?=some y:=by rw [List.getElem?_eq_getElem hkl,hy]
     have h5:5≤k0:=by have:=HUS.out.2.2.1;omega
     have hcb:Cel.dV k0=k0 - 4:=by unfold Cel.dV;rw [if_pos (by omega)]
     have hcall:=fun (W:World)=>zG k0 y W (by have:=HLO.out;unfold Cel.In64;omega) (HNUMS.out y (List.mem_of_getElem? hyk))
     rw [hcb] at hcall
     obtain ⟨er,her⟩: ∃e,Cel.aV (k0 - 4) y=e:=⟨_,rfl⟩
     rw [her] at hcall
     have HC:=hq7 hcall
     have HYK:=hq7 hyk
     have HER:=hq7 her
     by_cases he:er=0
     ·subst he
      clear hx hk hkl hy hyk hcall her hcb
      go_wp2_with fail
      refine (HC.out _).mono ?_
      rintro e w' ⟨rfl,rfl⟩
      go_wp2
      go_roundg g
      case measure=>omega
      case rel=>
       refine ⟨k+1,int_eq' (by omega),by have:=HK.out;omega,rfl,fun i q hi hq=> ?_⟩
       by_cases e:i=k
       ·rw [e,HYK.out] at hq
        cases hq
        exact HER.out
       ·exact HZ.out i q (by omega) hq
     ·have hr:R=er:=by rw [HR4.out];exact tX he k y HYK.out HER.out HZ.out
      have heb:((er:Int) !=0)=true:=by rw [bne_iff_ne];omega
      have HRR:=hq7 hr
      clear hx hk hkl hy hyk hcall her hr he hcb
      go_wp2_with fail
      refine (HC.out _).mono ?_
      rintro e w' ⟨rfl,rfl⟩
      go_wp2
      go_ret
      exact ⟨by rw [HRR.out];rfl,HB2.out⟩
theorem iT {n:Int} (h0: -9223372036854775808≤n) (h1:n≤9223372036854775807):(Lib.itoa n).length≤21:=by
 unfold Lib.itoa
 split
 ·rw [List.length_cons,Num.mM]
  have:=mZ 19 n.natAbs (by omega)
  omega
 ·rw [Num.mM]
  have:=mZ 19 n.toNat (by omega)
  omega
theorem Jp (f:Nat):(Num.fV f).length≤14:=by
 by_cases h:f=0
 ·subst h;decide
 ·rw [nC h,List.length_cons]
  have:=nD f
  omega
theorem Jq {f:Nat} {e:Int} (h0: -2000≤e) (h1:e≤2000):(Num.form f e).length≤23:=by
 unfold Num.form Num.bI
 rw [List.length_append,List.length_append]
 have a:=Jp f
 split
 ·have b:=fZ (n:= -e) (by omega) (by omega)
  simp only [List.length_cons,List.length_nil]
  omega
 ·have b:=fZ (n:=e) (by omega) (by omega)
  simp only [List.length_cons,List.length_nil]
  omega
theorem Jr {a:Nat} (h:a≤9218868437227405312):(Num.aY a).length≤23:=by
 unfold Num.aY
 split
 ·decide
 ·split
  ·decide
  ·rename_i h1 h2
   obtain ⟨p1,p2,p3,p4,p5⟩:=Num.xX h2 (by omega)
   exact Jq (by omega) (by omega)
theorem zK (b:Nat):(Num.fmt b).length≤24:=by
 unfold Num.fmt
 split
 ·decide
 ·rename_i h
  have:=Jr (a:=b % 9223372036854775808) (by omega)
  rw [List.length_append]
  cases decide (9223372036854775808≤b)<;> simp [Num.sg]<;> omega
theorem zL (c:UInt8):0≤Cel.kindOf c∧Cel.kindOf c≤4:=by
 unfold Cel.kindOf
 repeat' split
 all_goals omega
theorem nI {k:Int}: ∀{l:List Int},Cel.dD k l=0→ ∀n∈l,Cel.aV k n=0
 | [],_,n,h=>by cases h
 | m :: r,h,n,hn=>by
  obtain ⟨h1,h2⟩:=Cel.yw h
  rcases List.mem_cons.1 hn with rfl | hn
  ·exact h1
  ·exact nI h2 n hn
theorem zM {l:List Cel.L} (h:Cel.dP l=false): ∀t∈l,t.length≤1000:=by
 intro t ht
 unfold Cel.dP at h
 rw [List.any_eq_false] at h
 have:=h t ht
 simp at this
 exact this
theorem tY {α:Type} {l:List α} {k:Nat} {y:α} (h:l[k]?=some y) (f:α→List UInt8):(l.take (k+1)).flatMap f=(l.take k).flatMap f ++ f y:=by
 obtain ⟨hk,he⟩:=List.getElem?_eq_some_iff.1 h
 rw [List.take_succ_eq_append_getElem hk,List.flatMap_append,he]
 simp
end Go.Proofs.YtoofbflplhbpbaaGreatDoor
namespace Go.Proofs.YtoofbflplhbpbaaGreatDoor
open Go.ChangeShapes Go.WideShapes Go.ChangeAt Go.RowKit
theorem Js:ownKnob Tryz.prog.godebug=none:=by kernel_rfl
theorem Jt:laidOutB Tryz.prog=true:=by kernel_rfl
theorem zN: "*" ++ "errors.errorString" = "*errors.errorString" :=by decide
theorem zO (u:TypeId) (h:Tryz.prog.typeName? 3 u=some "*errors.errorString"):u=328:=
 typeName_ptr_named (nm:= "errors.errorString") (by rw [zN];kernel_rfl) (by kernel_rfl) (by decide) u (by rw [zN];exact h)
theorem Ju:(Rows.laid_math_bits_deBruijn64tab:DataW Unit)=Lib.tabData .u8 (Lib.deBruijn64tab.map fun x:Nat=>(x:Int)):=by kernel_rfl
theorem Jv:(Rows.laid_internal_strconv_uint64pow10:DataW Unit)=Lib.tabData .u64 Lib.pow10Tab:=by kernel_rfl
def lW:List (String×DataW Unit):= [("math/bits.deBruijn32tab",Rows.laid_math_bits_deBruijn32tab),("math/bits.deBruijn64tab",Rows.laid_math_bits_deBruijn64tab),("internal/strconv.uint64pow10",Rows.laid_internal_strconv_uint64pow10),("unicode/utf8.acceptRanges",Rows.laid_unicode_utf8_acceptRanges),("strconv.ErrRange",Rows.laid_strconv_ErrRange),("strconv.ErrSyntax",Rows.laid_strconv_ErrSyntax),("unicode/utf8.first",Rows.laid_unicode_utf8_first)]
theorem Jw:(lW.filter fun x=>x.2.handleName?.isSome)= []:=by kernel_rfl
theorem Jy {W:World} (h:laidMetH Tryz.prog lW W) (hS:W.ShapedOpen Tryz.prog):Laid W:=by
 have hL:laidMet Tryz.prog lW W:=by
  unfold laidMetH at h
  rw [Jw] at h
  exact h
 have h1:=hL.tail
 have h2:=h1.tail
 have h4:=h2.tail.tail
 have h5:=h4.tail
 rw [Ju] at h1
 rw [Jv] at h2
 have t1:Lib.TabIs Tryz.prog W "math/bits.deBruijn64tab" .u8 (Lib.deBruijn64tab.map fun x:Nat=>(x:Int)):=
  Lib.tabIs_of_head (n:=64) sJ (by kernel_rfl) Tryz.underlying276 Tryz.underlying5 (by kernel_rfl) (by kernel_rfl) h1
 have t2:Lib.TabIs Tryz.prog W "internal/strconv.uint64pow10" .u64 Lib.pow10Tab:=
  Lib.tabIs_of_head (n:=20) yF (by kernel_rfl) Tryz.underlying287 Tryz.underlying123 (by kernel_rfl) (by kernel_rfl) h2
 obtain ⟨a0,s0,hv0,-,-,-⟩:=laid_sentinel (g:=6) h4 yH (by kernel_rfl) Tryz.underlying72 zO Tryz.underlying328 Tryz.underlying330 rfl rfl Tryz.underlying9 (by kernel_rfl) (by kernel_rfl)
 obtain ⟨a1,s1,hv1,-,-,-⟩:=laid_sentinel (g:=5) h5 yG (by kernel_rfl) Tryz.underlying72 zO Tryz.underlying328 Tryz.underlying330 rfl rfl Tryz.underlying9 (by kernel_rfl) (by kernel_rfl)
 refine ⟨t2,⟨_,t1,fun j hj=> ?_⟩,⟨_,_,hv1⟩,⟨_,_,hv0⟩, ?_⟩
 ·have hl:Lib.deBruijn64tab.length=64:=by decide
  have hj':j<Lib.deBruijn64tab.length:=by omega
  simp [List.getD,hj']
 ·exact Go.Proofs.cell_of_shapedOpen_int (zero:= #[.int .i64 0]) (t:=3) hS (of_decide_eq_true (by kernel_rfl)) (by kernel_rfl) rfl (by kernel_rfl) (by kernel_rfl) Tryz.underlying3
section
variable {H:Type} {enc:TypeId×Value→H} {P:Program}
theorem Jz {f:Func} {s:ChangeSpec} {apart fresh handsOn again:Bool} {W W':World} {args:Array Value} {v:Value} {ds gs:List (DataW H)} {before pa pv:List MemPlace}
  (hW:DataW.Whole enc P f.params.toList s.vars apart W args.toList ds gs before)
  (hres: ∀(b:Nat) (sp:Nat→Bool) (hd:Bool),DataW.TrodAll enc P W' b sp hd f.resultTypes.toList (v.resultList f.resultTypes.size) (s.fn H (ds ++ gs)).results [])
  (hargs: ∀sp:Nat→Bool,(∀p∈before,sp p.block=true)→DataW.TrodAll enc P W' 0 sp true f.params.toList args.toList (s.fn H (ds ++ gs)).args pa)
  (hvars: ∀sp:Nat→Bool,(∀p∈before,sp p.block=true)→DataW.TrodVars enc P W' sp s.vars (s.fn H (ds ++ gs)).vars pv)
  (hps:before=pa ++ pv) (hb:Below W.heap.size W W')
  (hok: ∀(j:Nat) (t:TypeId) (r:Value),f.resultTypes[j]?=some t→(v.resultList f.resultTypes.size)[j]?=some r→Value.okWide P W' .any 0 t r):
  s.post enc P f apart fresh handsOn again W args v W':=by
 have hlt: ∀p∈before,p.block<W.heap.size:=fun p hp=>hW.lt p hp
 have hold: ∀p∈before,(fun b=>decide (b<W.heap.size)) p.block=true:=fun p hp=>by simpa using hlt p hp
 refine ⟨ds,gs,before, [],pa,pv,hW,hres _ _ _,hargs _ hold,hvars _ hold,World.keptBut_mono (fun p hp=>⟨hp, ?_⟩) (hb.frame (· ∈before)),fun _=> ?_⟩
 ·rw [hps,List.mem_append] at hp
  exact Or.inr hp
 ·obtain ⟨_,_,_,_,_,hz,hn⟩:=hW
  refine ⟨hok,_,_,([] ++ pa) ++ pv,⟨[] ++ pa,pv,trodAll_append (hargs _ (fun _ _=>rfl)) (hres _ _ _),hvars _ (fun _ _=>rfl),rfl, ?_, ?_⟩, ?_⟩
  ·intro b off hp
   have hin:MemPlace.cell b off∈before:=by rw [hps];simpa using hp
   rw [hb.frozen (hlt _ hin)]
   exact hz b off hin
  ·intro ha
   have:=hn ha
   rw [hps] at this
   simpa using this
  ·intro p hp _
   rw [hps]
   simpa using hp
theorem zQ {W W':World} (hl:laidOutB P=true) (hb:Below W.heap.size W W') {sp:Nat→Bool}: ∀{ts:List TypeId} {vs:List Value} {ds:List (DataW H)} {ps:List MemPlace},
  (∀t∈ts,P.readableRec t=true∧t<P.types.size)→DataW.TrodAll enc P W 0 (fun _=>true) true ts vs ds ps→(∀p∈ps,sp p.block=true)→(∀p∈ps,p.block<W.heap.size)→
  DataW.TrodAll enc P W' 0 sp true ts vs ds ps
 | [], [], [],_,_,h,_,_=>h
 | t :: ts,v :: vs,d :: ds,ps,ht,⟨p,q,⟨n,h1⟩,h2,e⟩,hs,hlt=>by
  have hp: ∀x∈p,x∈ps:=fun x hx=>by rw [e];exact List.mem_append_left _ hx
  have hq: ∀x∈q,x∈ps:=fun x hx=>by rw [e];exact List.mem_append_right _ hx
  have hh:=ht t (List.mem_cons.2 (.inl rfl))
  exact ⟨p,q,⟨n,DataW.trod_stays (kids_book hl hh.1) (book_sized hh.1) (fun h=>by cases h) ⟨hh.2,book_self t⟩ h1 (fun x hx=>hb.same (hlt x (hp x hx))) (fun x hx=>hs x (hp x hx))⟩,
   zQ hl hb (fun u hu=>ht u (List.mem_cons.2 (.inr hu))) h2 (fun x hx=>hs x (hq x hx)) (fun x hx=>hlt x (hq x hx)),e⟩
end
def numsOf:DataW Unit→List Value
 | .agg ds=>ds.map fun d=>match d with | .lit (.int k i)=> .int k i | _=>undef
 | _=> []
def JA:Array Value:= #[.int .u8 128, .int .u8 191, .int .u8 160, .int .u8 191, .int .u8 128, .int .u8 159, .int .u8 144, .int .u8 191, .int .u8 128, .int .u8 143, .int .u8 0, .int .u8 0, .int .u8 0, .int .u8 0, .int .u8 0, .int .u8 0, .int .u8 0, .int .u8 0, .int .u8 0, .int .u8 0, .int .u8 0, .int .u8 0, .int .u8 0, .int .u8 0, .int .u8 0, .int .u8 0, .int .u8 0, .int .u8 0, .int .u8 0, .int .u8 0, .int .u8 0, .int .u8 0]
def kY (cs:Array Value):Obj→Obj
 | .cells _ t frozen=> .cells cs t frozen
 | o=>o
noncomputable abbrev N0:Nat:=(World.settled Tryz.prog default).heap.size
noncomputable def laidWorld (os:Os):World:=
 let N:=(World.settled Tryz.prog os).heap.size
 let w0:=World.holding Tryz.prog os ⟨#[.cells #[.string ⟨#[118,97,108,117,101,32,111,117,116,32,111,102,32,114,97,110,103,101]⟩] 330, .cells #[.string ⟨#[105,110,118,97,108,105,100,32,115,121,110,116,97,120]⟩] 330],#[], []⟩
 {w0 with heap:=((((((w0.heap.modify 7 (kY (numsOf Rows.laid_math_bits_deBruijn32tab).toArray)).modify 0 (kY (numsOf Rows.laid_math_bits_deBruijn64tab).toArray)).modify 2 (kY (numsOf Rows.laid_internal_strconv_uint64pow10).toArray)).modify 4 (kY JA)).modify 3 (kY (numsOf Go.Pinned.utf8First).toArray)).modify 6 (kY #[.iface 328 (.pointer (some ⟨N,0,none⟩))])).modify 5 (kY #[.iface 328 (.pointer (some ⟨N+1,0,none⟩))])}
theorem laid_met (os:Os) (args:Array Value):laidMet Tryz.prog lW ((laidWorld os).forCall (fun _ _=>0) ⟨#[],args, []⟩).memory:=
 (LaidIn.of_run (l:=lW) [7,0,2,4,6,N0,5,N0+1,3] 8 (by kernel_rfl) (by kernel_rfl) (by kernel_rfl) (by kernel_rfl)).met
end Go.Proofs.YtoofbflplhbpbaaGreatDoor
