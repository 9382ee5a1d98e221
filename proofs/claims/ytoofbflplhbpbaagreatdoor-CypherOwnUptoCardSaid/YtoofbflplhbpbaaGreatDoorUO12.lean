/- Contracts and plain laws,part 12. -/
import Derived.Test.YtoofbflplhbpbaaGreatDoorUO11
import Derived.Lib.Replace
import Derived.Lib.IndexLaws
import Derived.Lib.IndexBytes
import Derived.Lib.CountLaws
import Derived.Test.YtoofbflplhbpbaaGreatDoorCards
import Derived.Test.YtoofbflplhbpbaaGreatDoorTie
import Derived.ProofKit
import Derived.OpenShut
import Derived.Deep.DeepHandedRow
import Derived.Deep.DeepWitnessRowRef
import Derived.Lib.LaidIn
import Derived.Lib.LaidTab
import Derived.Stop.LaidErr
import Derived.ChangeSame
import Derived.ChangeStays
import Derived.ChangeBook
import Derived.ChangeMaps5
import Derived.SliceStrings
import Derived.ChangeSlices
set_option maxHeartbeats 64000000
set_option maxRecDepth 1000000
set_option linter.all false
namespace Go.Proofs.YtoofbflplhbpbaaGreatDoor
open Go.RowKit
theorem agw (B:Nat) (u:Value) (v:ak.V) (w:World) (h:jR w B u v) (_hB:B<=w.heap.size) (hlo:1<=v.kind) (hhi:v.kind<=8):
  Calls Tryz.prog 66 #[u] w fun e w'=>e= .returned (.bool (decide (ak.Unused v)))/\Below w.heap.size w w':=by
 obtain ⟨A1,c1,A2,c2,rfl,-,-⟩:=h.ex;have hnl:=h.nl;have hsl:=h.sl
 have hb:=fun (W:World)=>QC v.kind W h.kin
 clear h;obtain ⟨k0,n0,t0,ns,ts⟩:=v;simp only at hnl hsl hlo hhi hb⊢
 obtain ⟨U,hU⟩: ∃U,decide (ak.Unused ⟨k0,n0,t0,ns,ts⟩)=U:=⟨_,rfl⟩;rw [hU]
 obtain ⟨nn,hnn⟩: ∃n,ns.length=n:=⟨_,rfl⟩;obtain ⟨tn,htn⟩: ∃n,ts.length=n:=⟨_,rfl⟩
 obtain ⟨z,hz⟩: ∃z:ByteArray,(⟨t0.toArray⟩:ByteArray)=z:=⟨_,rfl⟩
 have hzd:z.data.toList=t0:=by rw [<-hz]
 rw [hnn] at hnl⊢;rw [htn] at hsl⊢;rw [hz]
 obtain ⟨W1,hW1⟩: ∃W1,w.alloc (.cells #[.int .i64 k0, .int .i64 n0, .string z, .slice A1 nn c1, .slice A2 tn c2] 25)=W1:=⟨_,rfl⟩
 have hb1:Below w.heap.size w W1:=by rw [<-hW1];exact (Below.refl _ w).alloc (ab1 _) _
 have k1:aj W1 w.heap.size 25 #[.int .i64 k0, .int .i64 n0, .string z, .slice A1 nn c1, .slice A2 tn c2]:=by rw [<-hW1];exact aj.new _ _ _
 have HB1:=ah hb1;have HW1:=ah hW1;have ay:=ah hnn;have aI:=ah htn;have HZD:=ah hzd
 have HU:=ah hU;obtain ⟨a0,a1,a2,a3,a4,-⟩:=gY k1;have hu:=lD
 clear hnn htn hz k1 hb1 hW1 hzd hU;by_cases hk:k0<4
 ·have HK:Hid (1<=k0/\k0<4):=ah ⟨hlo,by omega⟩
  have hcb:ak.lF k0=k0:=by unfold ak.lF;rw [ab6 (by omega)]
  rw [hcb] at hb;have HB:=ah hb;have fc:(k0 == 4)=false:=ab3.2 (by omega)
  have hc:=trivial;have fl:decide (4<k0)=false:=abX (by omega)
  have fl':k0<=4:=by omega
  clear hb hcb hc hlo hhi hk;by_cases h:n0≠0
  ·have fN:(n0 !=0)=true:=acV.2 h
   have HN:=ah h;clear h;by_cases h:t0.length≠0
   ·have fT:z.toList.isEmpty=false:=by
     rw [akv];exact fun e=>h ((qF HZD.out).1 e)
    have HT:=ah h;clear h
    have bH:Hid (U=true):=by
     rw [<-HU.out,aY,ay.out,aI.out]
     exact ah (abW (by have:=HK.out;have:=HN.out;have:=HT.out;omega))
    go_enter Tryz.func66,Tryz.ntmps66
    go_upto_region 1 with fail
    rw [HW1.out];go_wp2_with fail;refine (HB.out _).mono ?_;rintro e w' ⟨rfl,rfl⟩;go_wp2
    go_ret;exact ⟨by rw [bH.out];rfl,HB1.out⟩
   have fT:z.toList.isEmpty=true:=by
    rw [alx];exact (qF HZD.out).2 (by omega)
   have HT:=ah h;clear h;by_cases h:0<nn
   ·have fS:decide (0<nn)=true:=abW h
    have gS:((nn:Int) !=0)=true:=by rw [acV];omega
    have HS:=ah h;clear h
    have bH:Hid (U=true):=by
     rw [<-HU.out,aY,ay.out,aI.out]
     exact ah (abW (by have:=HK.out;have:=HN.out;have:=HT.out;have:=HS.out;omega))
    go_enter Tryz.func66,Tryz.ntmps66
    go_upto_region 1 with fail
    rw [HW1.out];go_wp2_with fail;refine (HB.out _).mono ?_;rintro e w' ⟨rfl,rfl⟩;go_wp2
    go_ret;exact ⟨by rw [bH.out];rfl,HB1.out⟩
   have fS:decide (0<nn)=false:=abX h;have gS:((nn:Int) !=0)=false:=by rw [aeo];omega
   have HS:=ah h;clear h;by_cases h:0<tn
   ·have fX:decide (0<tn)=true:=abW h
    have gX:((tn:Int) !=0)=true:=by rw [acV];omega
    have HX:=ah h;clear h
    have bH:Hid (U=true):=by
     rw [<-HU.out,aY,ay.out,aI.out]
     exact ah (abW (by have:=HK.out;have:=HN.out;have:=HT.out;have:=HS.out;have:=HX.out;omega))
    go_enter Tryz.func66,Tryz.ntmps66
    go_upto_region 1 with fail
    rw [HW1.out];go_wp2_with fail;refine (HB.out _).mono ?_;rintro e w' ⟨rfl,rfl⟩;go_wp2
    go_ret;exact ⟨by rw [bH.out];rfl,HB1.out⟩
   have fX:decide (0<tn)=false:=abX h;have gX:((tn:Int) !=0)=false:=by rw [aeo];omega
   have HX:=ah h;clear h
   have bH:Hid (U=false):=by
    rw [<-HU.out,aY,ay.out,aI.out]
    exact ah (abX (by have:=HK.out;have:=HN.out;have:=HT.out;have:=HS.out;have:=HX.out;omega))
   go_enter Tryz.func66,Tryz.ntmps66
   go_upto_region 1 with fail
   rw [HW1.out];go_wp2_with fail;refine (HB.out _).mono ?_;rintro e w' ⟨rfl,rfl⟩;go_wp2
   go_ret;exact ⟨by rw [bH.out];rfl,HB1.out⟩
  have fN:(n0 !=0)=false:=by simpa using h
  have HN:=ah h;clear h;by_cases h:t0.length≠0
  ·have fT:z.toList.isEmpty=false:=by
    rw [akv];exact fun e=>h ((qF HZD.out).1 e)
   have HT:=ah h;clear h
   have bH:Hid (U=true):=by
    rw [<-HU.out,aY,ay.out,aI.out]
    exact ah (abW (by have:=HK.out;have:=HN.out;have:=HT.out;omega))
   go_enter Tryz.func66,Tryz.ntmps66
   go_upto_region 1 with fail
   rw [HW1.out];go_wp2_with fail;refine (HB.out _).mono ?_;rintro e w' ⟨rfl,rfl⟩;go_wp2
   go_ret;exact ⟨by rw [bH.out];rfl,HB1.out⟩
  have fT:z.toList.isEmpty=true:=by
   rw [alx];exact (qF HZD.out).2 (by omega)
  have HT:=ah h;clear h;by_cases h:0<nn
  ·have fS:decide (0<nn)=true:=abW h
   have gS:((nn:Int) !=0)=true:=by rw [acV];omega
   have HS:=ah h;clear h
   have bH:Hid (U=true):=by
    rw [<-HU.out,aY,ay.out,aI.out]
    exact ah (abW (by have:=HK.out;have:=HN.out;have:=HT.out;have:=HS.out;omega))
   go_enter Tryz.func66,Tryz.ntmps66
   go_upto_region 1 with fail
   rw [HW1.out];go_wp2_with fail;refine (HB.out _).mono ?_;rintro e w' ⟨rfl,rfl⟩;go_wp2
   go_ret;exact ⟨by rw [bH.out];rfl,HB1.out⟩
  have fS:decide (0<nn)=false:=abX h;have gS:((nn:Int) !=0)=false:=by rw [aeo];omega
  have HS:=ah h;clear h;by_cases h:0<tn
  ·have fX:decide (0<tn)=true:=abW h
   have gX:((tn:Int) !=0)=true:=by rw [acV];omega
   have HX:=ah h;clear h
   have bH:Hid (U=true):=by
    rw [<-HU.out,aY,ay.out,aI.out]
    exact ah (abW (by have:=HK.out;have:=HN.out;have:=HT.out;have:=HS.out;have:=HX.out;omega))
   go_enter Tryz.func66,Tryz.ntmps66
   go_upto_region 1 with fail
   rw [HW1.out];go_wp2_with fail;refine (HB.out _).mono ?_;rintro e w' ⟨rfl,rfl⟩;go_wp2
   go_ret;exact ⟨by rw [bH.out];rfl,HB1.out⟩
  have fX:decide (0<tn)=false:=abX h;have gX:((tn:Int) !=0)=false:=by rw [aeo];omega
  have HX:=ah h;clear h
  have bH:Hid (U=false):=by
   rw [<-HU.out,aY,ay.out,aI.out]
   exact ah (abX (by have:=HK.out;have:=HN.out;have:=HT.out;have:=HS.out;have:=HX.out;omega))
  go_enter Tryz.func66,Tryz.ntmps66
  go_upto_region 1 with fail
  rw [HW1.out];go_wp2_with fail;refine (HB.out _).mono ?_;rintro e w' ⟨rfl,rfl⟩;go_wp2
  go_ret;exact ⟨by rw [bH.out];rfl,HB1.out⟩
 by_cases hk:k0=4
 ·have HK:Hid (1<=k0/\k0=4):=ah ⟨hlo,by omega⟩
  have hcb:ak.lF k0=4:=by unfold ak.lF;rw [ab6 (by omega)];omega
  rw [hcb] at hb;obtain ⟨c,hc⟩: ∃c,(4:Int)=c:=⟨_,rfl⟩;rw [hc] at hb;have HB:=ah hb
  have fc:(c == 4)=true:=adp.2 (by omega)
  have fl:decide (4<k0)=false:=abX (by omega)
  have fl':k0<=4:=by omega
  clear hb hcb hc hlo hhi hk;by_cases h:n0≠0
  ·have fN:(n0 !=0)=true:=acV.2 h
   have HN:=ah h;clear h
   have bH:Hid (U=true):=by
    rw [<-HU.out,aY,ay.out,aI.out];exact ah (abW (by have:=HK.out;have:=HN.out;omega))
   go_enter Tryz.func66,Tryz.ntmps66
   go_upto_region 1 with fail
   rw [HW1.out];go_wp2_with fail;refine (HB.out _).mono ?_;rintro e w' ⟨rfl,rfl⟩;go_wp2
   go_ret;exact ⟨by rw [bH.out];rfl,HB1.out⟩
  have fN:(n0 !=0)=false:=by simpa using h
  have HN:=ah h;clear h;by_cases h:t0.length≠0
  ·have fT:z.toList.isEmpty=false:=by
    rw [akv];exact fun e=>h ((qF HZD.out).1 e)
   have HT:=ah h;clear h;by_cases h:0<nn
   ·have fS:decide (0<nn)=true:=abW h
    have gS:((nn:Int) !=0)=true:=by rw [acV];omega
    have HS:=ah h;clear h
    have bH:Hid (U=true):=by
     rw [<-HU.out,aY,ay.out,aI.out]
     exact ah (abW (by have:=HK.out;have:=HN.out;have:=HT.out;have:=HS.out;omega))
    go_enter Tryz.func66,Tryz.ntmps66
    go_upto_region 1 with fail
    rw [HW1.out];go_wp2_with fail;refine (HB.out _).mono ?_;rintro e w' ⟨rfl,rfl⟩;go_wp2
    go_ret;exact ⟨by rw [bH.out];rfl,HB1.out⟩
   have fS:decide (0<nn)=false:=abX h;have gS:((nn:Int) !=0)=false:=by rw [aeo];omega
   have HS:=ah h;clear h;by_cases h:0<tn
   ·have fX:decide (0<tn)=true:=abW h
    have gX:((tn:Int) !=0)=true:=by rw [acV];omega
    have HX:=ah h;clear h
    have bH:Hid (U=true):=by
     rw [<-HU.out,aY,ay.out,aI.out]
     exact ah (abW (by have:=HK.out;have:=HN.out;have:=HT.out;have:=HS.out;have:=HX.out;omega))
    go_enter Tryz.func66,Tryz.ntmps66
    go_upto_region 1 with fail
    rw [HW1.out];go_wp2_with fail;refine (HB.out _).mono ?_;rintro e w' ⟨rfl,rfl⟩;go_wp2
    go_ret;exact ⟨by rw [bH.out];rfl,HB1.out⟩
   have fX:decide (0<tn)=false:=abX h;have gX:((tn:Int) !=0)=false:=by rw [aeo];omega
   have HX:=ah h;clear h
   have bH:Hid (U=false):=by
    rw [<-HU.out,aY,ay.out,aI.out]
    exact ah (abX (by have:=HK.out;have:=HN.out;have:=HT.out;have:=HS.out;have:=HX.out;omega))
   go_enter Tryz.func66,Tryz.ntmps66
   go_upto_region 1 with fail
   rw [HW1.out];go_wp2_with fail;refine (HB.out _).mono ?_;rintro e w' ⟨rfl,rfl⟩;go_wp2
   go_ret;exact ⟨by rw [bH.out];rfl,HB1.out⟩
  have fT:z.toList.isEmpty=true:=by
   rw [alx];exact (qF HZD.out).2 (by omega)
  have HT:=ah h;clear h;by_cases h:0<nn
  ·have fS:decide (0<nn)=true:=abW h
   have gS:((nn:Int) !=0)=true:=by rw [acV];omega
   have HS:=ah h;clear h
   have bH:Hid (U=true):=by
    rw [<-HU.out,aY,ay.out,aI.out]
    exact ah (abW (by have:=HK.out;have:=HN.out;have:=HT.out;have:=HS.out;omega))
   go_enter Tryz.func66,Tryz.ntmps66
   go_upto_region 1 with fail
   rw [HW1.out];go_wp2_with fail;refine (HB.out _).mono ?_;rintro e w' ⟨rfl,rfl⟩;go_wp2
   go_ret;exact ⟨by rw [bH.out];rfl,HB1.out⟩
  have fS:decide (0<nn)=false:=abX h;have gS:((nn:Int) !=0)=false:=by rw [aeo];omega
  have HS:=ah h;clear h;by_cases h:0<tn
  ·have fX:decide (0<tn)=true:=abW h
   have gX:((tn:Int) !=0)=true:=by rw [acV];omega
   have HX:=ah h;clear h
   have bH:Hid (U=true):=by
    rw [<-HU.out,aY,ay.out,aI.out]
    exact ah (abW (by have:=HK.out;have:=HN.out;have:=HT.out;have:=HS.out;have:=HX.out;omega))
   go_enter Tryz.func66,Tryz.ntmps66
   go_upto_region 1 with fail
   rw [HW1.out];go_wp2_with fail;refine (HB.out _).mono ?_;rintro e w' ⟨rfl,rfl⟩;go_wp2
   go_ret;exact ⟨by rw [bH.out];rfl,HB1.out⟩
  have fX:decide (0<tn)=false:=abX h;have gX:((tn:Int) !=0)=false:=by rw [aeo];omega
  have HX:=ah h;clear h
  have bH:Hid (U=false):=by
   rw [<-HU.out,aY,ay.out,aI.out]
   exact ah (abX (by have:=HK.out;have:=HN.out;have:=HT.out;have:=HS.out;have:=HX.out;omega))
  go_enter Tryz.func66,Tryz.ntmps66
  go_upto_region 1 with fail
  rw [HW1.out];go_wp2_with fail;refine (HB.out _).mono ?_;rintro e w' ⟨rfl,rfl⟩;go_wp2
  go_ret;exact ⟨by rw [bH.out];rfl,HB1.out⟩
 by_cases hk:k0<8
 ·have HK:Hid (1<=k0/\4<k0/\k0<8):=ah ⟨hlo,by omega,hk⟩
  have hcb:ak.lF k0=k0 - 4:=by unfold ak.lF;rw [ab7 (by omega)]
  rw [hcb] at hb;obtain ⟨c,hc⟩: ∃c,(k0 - 4:Int)=c:=⟨_,rfl⟩;rw [hc] at hb;have HB:=ah hb
  have fc:(c == 4)=false:=ab3.2 (by omega)
  have fl:decide (4<k0)=true:=abW (by omega)
  have fl':4<k0:=by omega
  clear hb hcb hc hlo hhi hk;by_cases h:n0≠0
  ·have fN:(n0 !=0)=true:=acV.2 h
   have HN:=ah h;clear h
   have bH:Hid (U=true):=by
    rw [<-HU.out,aY,ay.out,aI.out];exact ah (abW (by have:=HK.out;have:=HN.out;omega))
   go_enter Tryz.func66,Tryz.ntmps66
   go_upto_region 1 with fail
   rw [HW1.out];go_wp2_with fail;refine (HB.out _).mono ?_;rintro e w' ⟨rfl,rfl⟩;go_wp2
   go_ret;exact ⟨by rw [bH.out];rfl,HB1.out⟩
  have fN:(n0 !=0)=false:=by simpa using h
  have HN:=ah h;clear h;by_cases h:t0.length≠0
  ·have fT:z.toList.isEmpty=false:=by
    rw [akv];exact fun e=>h ((qF HZD.out).1 e)
   have HT:=ah h;clear h
   have bH:Hid (U=true):=by
    rw [<-HU.out,aY,ay.out,aI.out]
    exact ah (abW (by have:=HK.out;have:=HN.out;have:=HT.out;omega))
   go_enter Tryz.func66,Tryz.ntmps66
   go_upto_region 1 with fail
   rw [HW1.out];go_wp2_with fail;refine (HB.out _).mono ?_;rintro e w' ⟨rfl,rfl⟩;go_wp2
   go_ret;exact ⟨by rw [bH.out];rfl,HB1.out⟩
  have fT:z.toList.isEmpty=true:=by
   rw [alx];exact (qF HZD.out).2 (by omega)
  have HT:=ah h;clear h;by_cases h:0<nn
  ·have fS:decide (0<nn)=true:=abW h
   have gS:((nn:Int) !=0)=true:=by rw [acV];omega
   have HS:=ah h;clear h;by_cases h:0<tn
   ·have fX:decide (0<tn)=true:=abW h
    have gX:((tn:Int) !=0)=true:=by rw [acV];omega
    have HX:=ah h;clear h
    have bH:Hid (U=true):=by
     rw [<-HU.out,aY,ay.out,aI.out]
     exact ah (abW (by have:=HK.out;have:=HN.out;have:=HT.out;have:=HS.out;have:=HX.out;omega))
    go_enter Tryz.func66,Tryz.ntmps66
    go_upto_region 1 with fail
    rw [HW1.out];go_wp2_with fail;refine (HB.out _).mono ?_;rintro e w' ⟨rfl,rfl⟩;go_wp2
    go_ret;exact ⟨by rw [bH.out];rfl,HB1.out⟩
   have fX:decide (0<tn)=false:=abX h;have gX:((tn:Int) !=0)=false:=by rw [aeo];omega
   have HX:=ah h;clear h
   have bH:Hid (U=false):=by
    rw [<-HU.out,aY,ay.out,aI.out]
    exact ah (abX (by have:=HK.out;have:=HN.out;have:=HT.out;have:=HS.out;have:=HX.out;omega))
   go_enter Tryz.func66,Tryz.ntmps66
   go_upto_region 1 with fail
   rw [HW1.out];go_wp2_with fail;refine (HB.out _).mono ?_;rintro e w' ⟨rfl,rfl⟩;go_wp2
   go_ret;exact ⟨by rw [bH.out];rfl,HB1.out⟩
  have fS:decide (0<nn)=false:=abX h;have gS:((nn:Int) !=0)=false:=by rw [aeo];omega
  have HS:=ah h;clear h;by_cases h:0<tn
  ·have fX:decide (0<tn)=true:=abW h
   have gX:((tn:Int) !=0)=true:=by rw [acV];omega
   have HX:=ah h;clear h
   have bH:Hid (U=true):=by
    rw [<-HU.out,aY,ay.out,aI.out]
    exact ah (abW (by have:=HK.out;have:=HN.out;have:=HT.out;have:=HS.out;have:=HX.out;omega))
   go_enter Tryz.func66,Tryz.ntmps66
   go_upto_region 1 with fail
   rw [HW1.out];go_wp2_with fail;refine (HB.out _).mono ?_;rintro e w' ⟨rfl,rfl⟩;go_wp2
   go_ret;exact ⟨by rw [bH.out];rfl,HB1.out⟩
  have fX:decide (0<tn)=false:=abX h;have gX:((tn:Int) !=0)=false:=by rw [aeo];omega
  have HX:=ah h;clear h
  have bH:Hid (U=false):=by
   rw [<-HU.out,aY,ay.out,aI.out]
   exact ah (abX (by have:=HK.out;have:=HN.out;have:=HT.out;have:=HS.out;have:=HX.out;omega))
  go_enter Tryz.func66,Tryz.ntmps66
  go_upto_region 1 with fail
  rw [HW1.out];go_wp2_with fail;refine (HB.out _).mono ?_;rintro e w' ⟨rfl,rfl⟩;go_wp2
  go_ret;exact ⟨by rw [bH.out];rfl,HB1.out⟩
 have HK:Hid (k0=8):=ah (by omega)
 have hcb:ak.lF k0=4:=by unfold ak.lF;rw [ab7 (by omega)];omega
 rw [hcb] at hb;obtain ⟨c,hc⟩: ∃c,(4:Int)=c:=⟨_,rfl⟩;rw [hc] at hb;have HB:=ah hb
 have fc:(c == 4)=true:=adp.2 (by omega)
 have fl:decide (4<k0)=true:=abW (by omega)
 have fl':4<k0:=by omega
 clear hb hcb hc hlo hhi;by_cases h:n0≠0
 ·have fN:(n0 !=0)=true:=acV.2 h
  have HN:=ah h;clear h
  have bH:Hid (U=true):=by
   rw [<-HU.out,aY,ay.out,aI.out];exact ah (abW (by have:=HK.out;have:=HN.out;omega))
  go_enter Tryz.func66,Tryz.ntmps66
  go_upto_region 1 with fail
  rw [HW1.out];go_wp2_with fail;refine (HB.out _).mono ?_;rintro e w' ⟨rfl,rfl⟩;go_wp2
  go_ret;exact ⟨by rw [bH.out];rfl,HB1.out⟩
 have fN:(n0 !=0)=false:=by simpa using h
 have HN:=ah h;clear h;by_cases h:t0.length≠0
 ·have fT:z.toList.isEmpty=false:=by
   rw [akv];exact fun e=>h ((qF HZD.out).1 e)
  have HT:=ah h;clear h
  have bH:Hid (U=true):=by
   rw [<-HU.out,aY,ay.out,aI.out]
   exact ah (abW (by have:=HK.out;have:=HN.out;have:=HT.out;omega))
  go_enter Tryz.func66,Tryz.ntmps66
  go_upto_region 1 with fail
  rw [HW1.out];go_wp2_with fail;refine (HB.out _).mono ?_;rintro e w' ⟨rfl,rfl⟩;go_wp2
  go_ret;exact ⟨by rw [bH.out];rfl,HB1.out⟩
 have fT:z.toList.isEmpty=true:=by
  rw [alx];exact (qF HZD.out).2 (by omega)
 have HT:=ah h;clear h;by_cases h:0<nn
 ·have fS:decide (0<nn)=true:=abW h
  have gS:((nn:Int) !=0)=true:=by rw [acV];omega
  have HS:=ah h;clear h
  have bH:Hid (U=true):=by
   rw [<-HU.out,aY,ay.out,aI.out]
   exact ah (abW (by have:=HK.out;have:=HN.out;have:=HT.out;have:=HS.out;omega))
  go_enter Tryz.func66,Tryz.ntmps66
  go_upto_region 1 with fail
  rw [HW1.out];go_wp2_with fail;refine (HB.out _).mono ?_;rintro e w' ⟨rfl,rfl⟩;go_wp2
  go_ret;exact ⟨by rw [bH.out];rfl,HB1.out⟩
 have fS:decide (0<nn)=false:=abX h;have gS:((nn:Int) !=0)=false:=by rw [aeo];omega
 have HS:=ah h;clear h;by_cases h:0<tn
 ·have fX:decide (0<tn)=true:=abW h
  have gX:((tn:Int) !=0)=true:=by rw [acV];omega
  have HX:=ah h;clear h
  have bH:Hid (U=false):=by
   rw [<-HU.out,aY,ay.out,aI.out]
   exact ah (abX (by have:=HK.out;have:=HN.out;have:=HT.out;have:=HS.out;have:=HX.out;omega))
  go_enter Tryz.func66,Tryz.ntmps66
  go_upto_region 1 with fail
  rw [HW1.out];go_wp2_with fail;refine (HB.out _).mono ?_;rintro e w' ⟨rfl,rfl⟩;go_wp2
  go_ret;exact ⟨by rw [bH.out];rfl,HB1.out⟩
 have fX:decide (0<tn)=false:=abX h;have gX:((tn:Int) !=0)=false:=by rw [aeo];omega
 have HX:=ah h;clear h
 have bH:Hid (U=false):=by
  rw [<-HU.out,aY,ay.out,aI.out]
  exact ah (abX (by have:=HK.out;have:=HN.out;have:=HT.out;have:=HS.out;have:=HX.out;omega))
 go_enter Tryz.func66,Tryz.ntmps66
 go_upto_region 1 with fail
 rw [HW1.out];go_wp2_with fail;refine (HB.out _).mono ?_;rintro e w' ⟨rfl,rfl⟩;go_wp2
 go_ret;exact ⟨by rw [bH.out];rfl,HB1.out⟩
theorem agx {k n:Int} {t:List UInt8} {ns:List Int} {ts:List (List UInt8)} (h1:1<=k) (h8:k<=8) {U:Bool} (hU:decide (ak.Unused ⟨k,n,t,ns,ts⟩)=U):
  ak.check ⟨k,n,t,ns,ts⟩=if U=true then 41 else if 40<ns.length\/40<ts.length then 45 else if 1000<t.length\/ak.jr ts=true then 44 else if k<4 then ak.eY k n else ak.jd (k - 4) ns:=by
 unfold ak.check;rw [ab6 (by simp only;omega),<-hU]
 simp only [acZ]
theorem check_any (B:Nat) (u:Value) (v:ak.V) (w:World) (h:jR w B u v) (hB:B<=w.heap.size):
  Calls Tryz.prog 29 #[u] w fun e w'=>e= .returned (.int .i64 (ak.check v:Nat))/\Below w.heap.size w w':=by
 have hun:=fun (W:World) (hb:Below w.heap.size w W) (h1:1<=v.kind) (h8:v.kind<=8)=>agw B u v W (h.below (hb.mono hB)) (ab5 hB hb.size) h1 h8
 obtain ⟨A1,c1,A2,c2,rfl,cO,bP⟩:=h.ex;have hnl:=h.nl;have hsl:=h.sl
 obtain ⟨hk1,hk2⟩:=h.kin;have hnum:=h.num;have DV:=h.nums;have htl:=h.tl;have hsz:=h.sz
 clear h;obtain ⟨k0,n0,t0,ns,ts⟩:=v
 simp only at cO bP hnl hsl hk1 hk2 hnum DV htl hsz hun⊢
 obtain ⟨R,hR⟩: ∃R,ak.check ⟨k0,n0,t0,ns,ts⟩=R:=⟨_,rfl⟩;rw [hR]
 obtain ⟨U,hU⟩: ∃U,decide (ak.Unused ⟨k0,n0,t0,ns,ts⟩)=U:=⟨_,rfl⟩;rw [hU] at hun
 have hcf:=fun h1 h8=>agx (k:=k0) (n:=n0) (t:=t0) (ns:=ns) (ts:=ts) h1 h8 hU
 rw [hR] at hcf;obtain ⟨nn,hnn⟩: ∃n,ns.length=n:=⟨_,rfl⟩
 obtain ⟨tn,htn⟩: ∃n,ts.length=n:=⟨_,rfl⟩
 obtain ⟨z,hz⟩: ∃z:ByteArray,(⟨t0.toArray⟩:ByteArray)=z:=⟨_,rfl⟩
 have hzs:z.size=t0.length:=by rw [<-hz];exact bf _
 rw [hnn] at cO hnl hun hcf⊢;rw [htn] at bP hsl hun hcf⊢;rw [hz] at hun⊢
 obtain ⟨W1,hW1⟩: ∃W1,w.alloc (.cells #[.int .i64 k0, .int .i64 n0, .string z, .slice A1 nn c1, .slice A2 tn c2] 25)=W1:=⟨_,rfl⟩
 have hb1:Below w.heap.size w W1:=by rw [<-hW1];exact (Below.refl _ w).alloc (ab1 _) _
 have k1:aj W1 w.heap.size 25 #[.int .i64 k0, .int .i64 n0, .string z, .slice A1 nn c1, .slice A2 tn c2]:=by rw [<-hW1];exact aj.new _ _ _
 have xX:=ah (cO.below (hb1.mono hB));have xY:=ah (bP.below (hb1.mono hB))
 have HB1:=ah hb1;have HW1:=ah hW1;have qV:=ah hcf;have HUN:=ah hun;have ay:=ah hnn
 have aI:=ah htn;have sH:=ah hnum;have Ub:=ah DV;have dL:=ah hsz;have HKB:=ah k1
 have HR0:=ah hR;have HUU:=ah hU;obtain ⟨a0,a1,a2,a3,a4,-⟩:=gY k1
 clear cO bP hnn htn hz k1 hb1 hW1 hcf hnum DV hsz hun hU hR;have hu:=lD
 go_enter Tryz.func29,Tryz.ntmps29
 go_upto_region 1 with fail
 rw [HW1.out];clear HW1;by_cases hlo:k0<1
 ·have hr:R=40:=by rw [<-HR0.out];unfold ak.check;rw [ab7 (.inl hlo)]
  have HRR:=ah hr;clear hr;go_wp2;go_ret;exact ⟨by rw [HRR.out];rfl,HB1.out⟩
 by_cases hhi:8<k0
 ·have hr:R=40:=by rw [<-HR0.out];unfold ak.check;rw [ab7 (.inr hhi)]
  have HRR:=ah hr;have t1:decide (k0<1)=false:=abX hlo;have t2:decide (8<k0)=true:=abW hhi
  clear hr hlo;go_wp2;go_ret;exact ⟨by rw [HRR.out];rfl,HB1.out⟩
 have t1:decide (k0<1)=false:=abX hlo;have t2:decide (8<k0)=false:=abX hhi
 have hlo1:1<=k0:=by omega
 have hhi1:k0<=8:=by omega
 have hr0:=qV.out hlo1 hhi1;have HCU:=ah (HUN.out W1 HB1.out hlo1 hhi1)
 have jS:Hid (1<=k0/\k0<=8):=⟨hlo1,hhi1⟩;clear hlo hhi hk1 hk2 qV HUN HR0;go_wp2_with fail
 refine HCU.out.mono ?_;rintro e w2 ⟨rfl,hb2⟩
 have HB2:=ah (HB1.out.trans (hb2.mono HB1.out.size))
 have aC:=ah (HKB.out.below hb2 HKB.out.lt);have hwz:=HB1.out.size
 have akw:=ah (xX.out.below (hb2.mono (ab5 hB hwz)))
 have akx:=ah (xY.out.below (hb2.mono (ab5 hB hwz)))
 clear hb2 a0 a1 a2 a3 a4 HCU xX xY HKB;obtain ⟨a0,a1,a2,a3,a4,-⟩:=gY aC.out;cases U with
 | true=>
  have hr:R=41:=by rw [hr0,ab7 rfl]
  have HRR:=ah hr;clear hr hr0;go_wp2;go_ret;exact ⟨by rw [HRR.out];rfl,HB2.out⟩
 | false=>
  rw [ab6 (by decide)] at hr0
  have oK:=HUU.out;rw [aY,alN,ay.out,aI.out] at oK;simp only [aol] at oK
  obtain ⟨u1,u2,u3,u4⟩:=oK;have Gj:=ah (⟨u1,u2,u3,u4⟩:_/\_/\_/\_);have HR1:=ah hr0
  clear u1 u2 u3 u4 hr0 HUU;by_cases jT:40<nn
  ·have hr:R=45:=by rw [HR1.out,ab7 (.inl jT)]
   have HRR:=ah hr;have f1:decide (40<nn)=true:=abW jT;have f1':(40:Int)<nn:=by omega
   clear hr jT;go_wp2;go_ret;exact ⟨by rw [HRR.out];rfl,HB2.out⟩
  have f1:decide (40<nn)=false:=abX jT;have f1':(nn:Int)<=40:=by omega
  by_cases qU:40<tn
  ·have hr:R=45:=by rw [HR1.out,ab7 (.inr qU)]
   have HRR:=ah hr;have f2:decide (40<tn)=true:=abW qU;have f2':(40:Int)<tn:=by omega
   clear hr jT qU;go_wp2;go_ret;exact ⟨by rw [HRR.out];rfl,HB2.out⟩
  have f2:decide (40<tn)=false:=abX qU;have f2':(tn:Int)<=40:=by omega
  have hr1:=HR1.out;rw [ab6 (by omega)] at hr1
  have HR2:=ah hr1;clear hr1 HR1 jT qU;by_cases htx:1000<t0.length
  ·have hr:R=44:=by rw [HR2.out,ab7 (.inl htx)]
   have HRR:=ah hr;have f5:decide (1000<z.size)=true:=abW (by omega)
   have f5':(1000:Int)<z.size:=by omega
   clear hr htx hzs;go_wp2;go_ret;exact ⟨by rw [HRR.out];rfl,HB2.out⟩
  have f5:decide (1000<z.size)=false:=abX (by omega)
  have f5':(z.size:Int)<=1000:=by omega
  have hcl:=fun (W:World) (hb:Below w2.heap.size w2 W)=>ags B A2 tn c2 ts W (akx.out.below (hb.mono (ab5 hB HB2.out.size))) aI.out (by omega) dL.out
  obtain ⟨L,hL⟩: ∃L,ak.jr ts=L:=⟨_,rfl⟩;rw [hL] at hcl;have hr2:=HR2.out;rw [hL] at hr2
  have wu:=ah (hcl w2 (Below.refl _ _));have HL:=ah hL;clear hcl hL HR2;go_wp2_with fail
  refine wu.out.mono ?_;rintro e w' ⟨rfl,rfl⟩;cases L with
  | true=>
   have hr:R=44:=by rw [hr2,ab7 (.inr rfl)]
   have HRR:=ah hr;clear hr hr2 htx hzs;go_wp2;go_ret;exact ⟨by rw [HRR.out];rfl,HB2.out⟩
  | false=>
   rw [ab6 (by rintro (h | h);exact htx h;cases h)] at hr2
   have HR3:=ah hr2;clear hr2 htx hzs;by_cases hk4:k0<4
   ·have hr:=HR3.out
    rw [ab7 hk4] at hr;have hcb:ak.lF k0=k0:=by unfold ak.lF;rw [ab6 (by omega)]
    have hcall:=fun (W:World)=>Yw k0 n0 W (by have:=jS.out;unfold ak.In64;omega) sH.out
    rw [hcb,<-hr] at hcall;have HC:=ah hcall;have f3:decide (k0<=3)=true:=abW (by omega)
    have f3':k0<=3:=by omega
    clear hr hcall hk4 hcb;go_wp2_with fail;refine (HC.out _).mono ?_
    rintro e w' ⟨rfl,rfl⟩;go_wp2;go_ret;exact ⟨rfl,HB2.out⟩
   have f3:decide (k0<=3)=false:=abX (by omega)
   have f3':4<=k0:=by omega
   have hr:=HR3.out;rw [ab6 hk4] at hr;have HR4:=ah hr;clear hr HR3 hk4;go_wp2_with fail
   go_loopg [51] nn (fun g x wr=> ∃k:Nat,x= .int .i64 k/\k+g=nn/\w2=wr/\ ∀(j:Nat) y,j<k->ns[j]?=some y->ak.eY (k0 - 4) y=0)
   case atStart=>exact ⟨0,rfl,by omega,rfl,fun j y hj=>by omega⟩
   obtain ⟨k,rfl,hk,rfl,hz⟩:=hrel;have HZ:=ah hz;have HK:=ah hk
   have qQ:(k:Int)<=40:=by omega
   clear hz;cases gk with
   | zero=>
    obtain rfl:k=nn:=by omega
    have hr:R=0:=by
     rw [HR4.out]
     exact QF (fun y hy=>by
      obtain ⟨j,hj,e⟩:=ad2 hy
      exact HZ.out j y (by have:=ay.out;omega) (by rw [ab2 hj,e]))
    have HRR:=ah hr;clear hk hr;go_wp2;go_ret;exact ⟨by rw [HRR.out];rfl,HB2.out⟩
   | succ g=>
    have hkn:k<nn:=by omega
    have dD:(k:Int)<nn:=by omega
    have hkl:k<ns.length:=by rw [ay.out];exact hkn
    obtain ⟨p,o,x,rfl,pU,hx,hp⟩:=akw.out.cell hkn;rw [acJ,ab2 hkl] at hx
    obtain rfl:=(acE hx).symm;obtain ⟨y,hy⟩: ∃y,ns[k]=y:=⟨_,rfl⟩;rw [hy] at hp
    unfold I64 at hp;have hyk:ns[k]?=some y:=by rw [ab2 hkl,hy]
    have h5:5<=k0:=by have:=Gj.out.2.2.1;omega
    have hcb:ak.lF k0=k0 - 4:=by unfold ak.lF;rw [ab7 (by omega)]
    have hcall:=fun (W:World)=>Yw k0 y W (by have:=jS.out;unfold ak.In64;omega) (Ub.out y (acf hyk))
    rw [hcb] at hcall;obtain ⟨er,her⟩: ∃e,ak.eY (k0 - 4) y=e:=⟨_,rfl⟩;rw [her] at hcall
    have HC:=ah hcall;have Jy:=ah hyk;have Jz:=ah her;by_cases he:er=0
    ·subst he
     clear hx hk hkl hy hyk hcall her hcb;go_wp2_with fail;refine (HC.out _).mono ?_
     rintro e w' ⟨rfl,rfl⟩;go_wp2
     go_roundg g
     case measure=>omega
     refine ⟨k+1,int_eq' (by omega),by have:=HK.out;omega,rfl,fun i q hi hq=> ?_⟩
     by_cases e:i=k
     ·rw [e,Jy.out] at hq
      cases hq;exact Jz.out
     exact HZ.out i q (by omega) hq
    have hr:R=er:=by rw [HR4.out];exact QG he k y Jy.out Jz.out HZ.out
    have heb:((er:Int) !=0)=true:=by rw [acV];omega
    have HRR:=ah hr;clear hx hk hkl hy hyk hcall her hr he hcb;go_wp2_with fail
    refine (HC.out _).mono ?_;rintro e w' ⟨rfl,rfl⟩;go_wp2;go_ret
    exact ⟨by rw [HRR.out];rfl,HB2.out⟩
theorem oC {n:Int} (h0: -9223372036854775808<=n) (h1:n<=9223372036854775807):(Lib.itoa n).length<=21:=by
 unfold Lib.itoa
 split
 ·rw [acd,Num.xq]
  have:=yZ 19 n.natAbs (by omega)
  omega
 rw [Num.xq];have:=yZ 19 n.toNat (by omega)
 omega
theorem agy (f:Nat):(Num.nG f).length<=14:=by
 by_cases h:f=0
 ·subst h;decide
 rw [Ig h,acd];have:=Ih f;omega
theorem agz {f:Nat} {e:Int} (h0: -2000<=e) (h1:e<=2000):(Num.form f e).length<=23:=by
 unfold Num.form Num.fU;rw [dA,dA];have a:=agy f
 split
 ·have b:=qB (n:= -e) (by omega) (by omega)
  simp only [acd,adk];omega
 have b:=qB (n:=e) (by omega) (by omega)
 simp only [acd,adk];omega
theorem agA {a:Nat} (h:a<=9218868437227405312):(Num.eu a).length<=23:=by
 unfold Num.eu
 split
 ·decide
 split
 ·decide
 rename_i h1 h2;obtain ⟨p1,p2,p3,p4,p5⟩:=Num.P9 h2 (by omega)
 exact agz (by omega) (by omega)
theorem Yy (b:Nat):(Num.fmt b).length<=24:=by
 unfold Num.fmt
 split
 ·decide
 rename_i h;have:=agA (a:=b % 9223372036854775808) (by omega)
 rw [dA];cases decide (9223372036854775808<=b)<;> simp [Num.sg]<;> omega
theorem Yz (c:UInt8):0<=ak.kindOf c/\ak.kindOf c<=4:=by
 unfold ak.kindOf
 repeat' split
 all_goals omega
theorem Il {k:Int}: ∀{l:List Int},ak.jd k l=0-> ∀n∈l,ak.eY k n=0
 | [],_,n,h=>by cases h
 | m :: r,h,n,hn=>by
  obtain ⟨h1,h2⟩:=ak.XR h
  rcases adK.1 hn with rfl | hn
  ·exact h1
  exact Il h2 n hn
theorem YA {l:List ak.L} (h:ak.jr l=false): ∀t∈l,t.length<=1000:=by
 intro t ht;unfold ak.jr at h;rw [am9] at h;have:=h t ht;simp at this;exact this
theorem QI {α:Type} {l:List α} {k:Nat} {y:α} (h:l[k]?=some y) (f:α->List UInt8):(l.take (k+1)).flatMap f=(l.take k).flatMap f ++ f y:=by
 obtain ⟨hk,he⟩:=acy.1 h;rw [aer hk,ad4,he];simp
end Go.Proofs.YtoofbflplhbpbaaGreatDoor
namespace Go.Proofs.YtoofbflplhbpbaaGreatDoor
open Go.ChangeShapes Go.WideShapes Go.ChangeAt Go.RowKit
theorem Io:ownKnob Tryz.prog.godebug=none:=by kernel_rfl
theorem Ip:laidOutB Tryz.prog=true:=by kernel_rfl
theorem YB: "*" ++ "errors.errorString" = "*errors.errorString" :=by decide
theorem YC (u:TypeId) (h:Tryz.prog.typeName? 3 u=some "*errors.errorString"):u=328:=
 typeName_ptr_named (nm:= "errors.errorString") (by rw [YB];kernel_rfl) (by kernel_rfl) (by decide) u (by rw [YB];exact h)
theorem agB:(Rows.laid_math_bits_deBruijn64tab:DataW Unit)=Lib.tabData .u8 (Lib.deBruijn64tab.map fun x:Nat=>(x:Int)):=by kernel_rfl
theorem agC:(Rows.laid_internal_strconv_uint64pow10:DataW Unit)=Lib.tabData .u64 Lib.pow10Tab:=by kernel_rfl
def xE:List (String×DataW Unit):= [("math/bits.deBruijn32tab",Rows.laid_math_bits_deBruijn32tab),("math/bits.deBruijn64tab",Rows.laid_math_bits_deBruijn64tab),("internal/strconv.uint64pow10",Rows.laid_internal_strconv_uint64pow10),("unicode/utf8.acceptRanges",Rows.laid_unicode_utf8_acceptRanges),("strconv.ErrRange",Rows.laid_strconv_ErrRange),("strconv.ErrSyntax",Rows.laid_strconv_ErrSyntax),("unicode/utf8.first",Rows.laid_unicode_utf8_first)]
theorem agD:(xE.filter fun x=>x.2.handleName?.isSome)= []:=by kernel_rfl
theorem Iq {W:World} (h:laidMetH Tryz.prog xE W) (hS:W.ShapedOpen Tryz.prog):Laid W:=by
 have hL:laidMet Tryz.prog xE W:=by
  unfold laidMetH at h;rw [agD] at h;exact h
 have h1:=hL.tail;have h2:=h1.tail;have h4:=h2.tail.tail;have h5:=h4.tail;rw [agB] at h1
 rw [agC] at h2
 have t1:Lib.TabIs Tryz.prog W "math/bits.deBruijn64tab" .u8 (Lib.deBruijn64tab.map fun x:Nat=>(x:Int)):=
  Lib.tabIs_of_head (n:=64) Qm (by kernel_rfl) Tryz.underlying276 Tryz.underlying5 (by kernel_rfl) (by kernel_rfl) h1
 have t2:Lib.TabIs Tryz.prog W "internal/strconv.uint64pow10" .u64 Lib.pow10Tab:=
  Lib.tabIs_of_head (n:=20) X0 (by kernel_rfl) Tryz.underlying287 Tryz.underlying123 (by kernel_rfl) (by kernel_rfl) h2
 obtain ⟨a0,s0,hv0,-,-,-⟩:=laid_sentinel (g:=6) h4 X4 (by kernel_rfl) Tryz.underlying72 YC Tryz.underlying328 Tryz.underlying330 rfl rfl Tryz.underlying9 (by kernel_rfl) (by kernel_rfl)
 obtain ⟨a1,s1,hv1,-,-,-⟩:=laid_sentinel (g:=5) h5 X3 (by kernel_rfl) Tryz.underlying72 YC Tryz.underlying328 Tryz.underlying330 rfl rfl Tryz.underlying9 (by kernel_rfl) (by kernel_rfl)
 refine ⟨t2,⟨_,t1,fun j hj=> ?_⟩,⟨_,_,hv1⟩,⟨_,_,hv0⟩, ?_⟩
 ·have hl:Lib.deBruijn64tab.length=64:=by decide
  have hj':j<Lib.deBruijn64tab.length:=by omega
  simp [List.getD,hj']
 exact Go.Proofs.cell_of_shapedOpen_int (zero:= #[.int .i64 0]) (t:=3) hS (aci (by kernel_rfl)) (by kernel_rfl) rfl (by kernel_rfl) (by kernel_rfl) Tryz.underlying3
section
variable {H:Type} {enc:TypeId×Value->H} {P:Program}
theorem Ir {f:Func} {s:ChangeSpec} {apart fresh handsOn again:Bool} {W W':World} {args:Array Value} {v:Value} {ds gs:List (DataW H)} {before pa pv:List MemPlace}
  (hW:DataW.Whole enc P f.params.toList s.vars apart W args.toList ds gs before)
  (hres: ∀(b:Nat) (sp:Nat->Bool) (hd:Bool),DataW.TrodAll enc P W' b sp hd f.resultTypes.toList (v.resultList f.resultTypes.size) (s.fn H (ds ++ gs)).results [])
  (hargs: ∀sp:Nat->Bool,(∀p∈before,sp p.block=true)->DataW.TrodAll enc P W' 0 sp true f.params.toList args.toList (s.fn H (ds ++ gs)).args pa)
  (hvars: ∀sp:Nat->Bool,(∀p∈before,sp p.block=true)->DataW.TrodVars enc P W' sp s.vars (s.fn H (ds ++ gs)).vars pv)
  (hps:before=pa ++ pv) (hb:Below W.heap.size W W')
  (hok: ∀(j:Nat) (t:TypeId) (r:Value),f.resultTypes[j]?=some t->(v.resultList f.resultTypes.size)[j]?=some r->Value.okWide P W' .any 0 t r):
  s.post enc P f apart fresh handsOn again W args v W':=by
 have hlt: ∀p∈before,p.block<W.heap.size:=fun p hp=>hW.lt p hp
 have hold: ∀p∈before,(fun b=>decide (b<W.heap.size)) p.block=true:=fun p hp=>by simpa using hlt p hp
 refine ⟨ds,gs,before, [],pa,pv,hW,hres _ _ _,hargs _ hold,hvars _ hold,World.keptBut_mono (fun p hp=>⟨hp, ?_⟩) (hb.frame (· ∈before)),fun _=> ?_⟩
 ·rw [hps,acU] at hp
  exact Or.inr hp
 obtain ⟨_,_,_,_,_,hz,hn⟩:=hW
 refine ⟨hok,_,_,([] ++ pa) ++ pv,⟨[] ++ pa,pv,trodAll_append (hargs _ (fun _ _=>rfl)) (hres _ _ _),hvars _ (fun _ _=>rfl),rfl, ?_, ?_⟩, ?_⟩
 ·intro b off hp
  have hin:MemPlace.cell b off∈before:=by rw [hps];simpa using hp
  rw [hb.frozen (hlt _ hin)];exact hz b off hin
 ·intro ha
  have:=hn ha;rw [hps] at this
  simpa using this
 intro p hp _;rw [hps]
 simpa using hp
theorem Fv {W W':World} (hl:laidOutB P=true) (hb:Below W.heap.size W W') {sp:Nat->Bool}: ∀{ts:List TypeId} {vs:List Value} {ds:List (DataW H)} {ps:List MemPlace},
  (∀t∈ts,P.readableRec t=true/\t<P.types.size)->DataW.TrodAll enc P W 0 (fun _=>true) true ts vs ds ps->(∀p∈ps,sp p.block=true)->(∀p∈ps,p.block<W.heap.size)->
  DataW.TrodAll enc P W' 0 sp true ts vs ds ps
 | [], [], [],_,_,h,_,_=>h
 | t :: ts,v :: vs,d :: ds,ps,ht,⟨p,q,⟨n,h1⟩,h2,e⟩,hs,hlt=>by
  have hp: ∀x∈p,x∈ps:=fun x hx=>by rw [e];exact akY _ hx
  have hq: ∀x∈q,x∈ps:=fun x hx=>by rw [e];exact alv _ hx
  have hh:=ht t (adK.2 (.inl rfl))
  exact ⟨p,q,⟨n,DataW.trod_stays (kids_book hl hh.1) (book_sized hh.1) (fun h=>by cases h) ⟨hh.2,book_self t⟩ h1 (fun x hx=>hb.same (hlt x (hp x hx))) (fun x hx=>hs x (hp x hx))⟩,
   Fv hl hb (fun u hu=>ht u (adK.2 (.inr hu))) h2 (fun x hx=>hs x (hq x hx)) (fun x hx=>hlt x (hq x hx)),e⟩
end
def numsOf:DataW Unit->List Value
 | .agg ds=>ds.map fun d=>match d with | .lit (.int k i)=> .int k i | _=>undef
 | _=> []
def agE:Array Value:= #[.int .u8 128, .int .u8 191, .int .u8 160, .int .u8 191, .int .u8 128, .int .u8 159, .int .u8 144, .int .u8 191, .int .u8 128, .int .u8 143, .int .u8 0, .int .u8 0, .int .u8 0, .int .u8 0, .int .u8 0, .int .u8 0, .int .u8 0, .int .u8 0, .int .u8 0, .int .u8 0, .int .u8 0, .int .u8 0, .int .u8 0, .int .u8 0, .int .u8 0, .int .u8 0, .int .u8 0, .int .u8 0, .int .u8 0, .int .u8 0, .int .u8 0, .int .u8 0]
def Dt (cs:Array Value):Obj->Obj
 | .cells _ t frozen=> .cells cs t frozen
 | o=>o
noncomputable abbrev N0:Nat:=(World.settled Tryz.prog default).heap.size
noncomputable def laidWorld (os:Os):World:=
 let N:=(World.settled Tryz.prog os).heap.size
 let w0:=World.holding Tryz.prog os ⟨#[.cells #[.string ⟨#[118,97,108,117,101,32,111,117,116,32,111,102,32,114,97,110,103,101]⟩] 330, .cells #[.string ⟨#[105,110,118,97,108,105,100,32,115,121,110,116,97,120]⟩] 330],#[], []⟩
 {w0 with heap:=((((((w0.heap.modify 7 (Dt (numsOf Rows.laid_math_bits_deBruijn32tab).toArray)).modify 0 (Dt (numsOf Rows.laid_math_bits_deBruijn64tab).toArray)).modify 2 (Dt (numsOf Rows.laid_internal_strconv_uint64pow10).toArray)).modify 4 (Dt agE)).modify 3 (Dt (numsOf Go.Pinned.utf8First).toArray)).modify 6 (Dt #[.iface 328 (.pointer (some ⟨N,0,none⟩))])).modify 5 (Dt #[.iface 328 (.pointer (some ⟨N+1,0,none⟩))])}
theorem laid_met (os:Os) (args:Array Value):laidMet Tryz.prog xE ((laidWorld os).forCall (fun _ _=>0) ⟨#[],args, []⟩).memory:=
 (LaidIn.of_run (l:=xE) [7,0,2,4,6,N0,5,N0+1,3] 8 (by kernel_rfl) (by kernel_rfl) (by kernel_rfl) (by kernel_rfl)).met
end Go.Proofs.YtoofbflplhbpbaaGreatDoor
namespace Go.Proofs.YtoofbflplhbpbaaGreatDoor
open Go.Joins Go.ChangeShapes Go.WideShapes Go.ChangeAt Go.RowKit Go.Deep
section
variable {H:Type} {enc:TypeId×Value->H} {P:Program} {w:World} {base:Nat} {spare:Nat->Bool} {held:Bool}
end
theorem cell_lt {w:World} {a:Addr} {v:Value} (h:w.cell? a=some v):a.block<w.heap.size:=by
 rcases akZ a.block w.heap.size with h0 | h0
 ·exact h0
 unfold World.cell? at h;simp [amr h0] at h
theorem QJ {W:World} {a:Addr} {len:Nat} {xs:List Value} (hl:xs.length=len) (h: ∀(i:Nat) u,xs[i]?=some u->W.cell? (a.add i)=some u):Reads W W.heap.size 1 (some a) len xs:=by
 refine ⟨by simpa using hl,fun h0=> ?_⟩
 have c0:=h 0 (xs[0]'(by omega)) (ab2 _)
 have hsp:a.spot=none:=by simpa [Addr.add] using World.cell?_spot c0
 obtain ⟨b,o,sp⟩:=a;simp only at hsp;subst hsp
 refine ⟨b,o,rfl,by have:=cell_lt c0;simpa [X8] using this,fun j u hj=> ?_⟩
 have:=h j u hj
 rwa [y7] at this
theorem QK {H:Type} {k:IntKind}: ∀l:List Int,Rows.uptoBulkAll (H:=H) (lits k l)=l.length
 | []=>rfl
 | _ :: r=>by
  have:=QK (H:=H) (k:=k) r
  simp only [lits,adA,Rows.uptoBulkAll,Rows.uptoBulk,acd] at this⊢;omega
theorem YD {H:Type}: ∀l:List ByteArray,Rows.uptoBulkAll (H:=H) (strs l)=(l.map fun s=>s.size+1).sum
 | []=>rfl
 | s :: r=>by
  have:=YD (H:=H) r;have hs:=Lib.size_eq s
  simp only [strs,adA,Rows.uptoBulkAll,Rows.uptoBulk,alG] at this⊢;omega
theorem YE {l:List ByteArray} {s:ByteArray} (h:s∈l):s.size+1<=(l.map fun s=>s.size+1).sum/\l.length<=(l.map fun s=>s.size+1).sum:=by
 induction l with
 | nil=>cases h
 | cons a l ih=>
  simp only [adA,alG,acd]
  have hl: ∀l:List ByteArray,l.length<=(l.map fun s=>s.size+1).sum:=by
   intro l
   induction l with
   | nil=>simp
   | cons a l ih=>simp only [adA,alG,acd];omega
  have:=hl l
  rcases adK.1 h with rfl | h
  ·omega
  have:=ih h;omega
section
variable {H:Type} {enc:TypeId×Value->H} {W:World}
theorem agF {n:Nat} {v:Value} {y:DataW H×List MemPlace} (h:DataW.trod enc Tryz.prog W 0 (fun _=>true) true n 22 [v]=some y):
  ∃A c ns,v= .slice A (List.length ns) c/\Reads W W.heap.size 1 A ns.length (ns.map I64)/\(∀m∈ns,ak.In64 m)/\ns.length<=Rows.uptoBulk y.1:=by
 rcases open_ints Tryz.underlying22 Tryz.underlying2 (by kernel_rfl) h with ⟨hc,hx⟩ |⟨a,len,cap,zs,hc,_,hl,_,hz,hx,hcell,hwf⟩
 ·simp only [akq,al7] at hc
  exact ⟨none,0, [],hc,Reads.none_,by simp,by simp⟩
 simp only [akq,al7] at hc;simp only [alQ] at hz
 have ht:(zs.take len).length=len:=by rw [acW];omega
 refine ⟨some a,cap,zs.take len,by rw [ht];exact hc, ?_,fun m hm=> ?_, ?_⟩
 ·rw [ht]
  refine QJ (by simp;omega) fun i u hi=> ?_
  rw [acJ] at hi;obtain ⟨z,hz',rfl⟩:=ac7.1 hi;obtain ⟨hlt,he⟩:=acy.1 hz'
  have hlt':i<zs.length:=by rw [ht] at hlt;omega
  rw [hcell i hlt',amH,ab2 hlt'];rw [amA] at he;simp [I64,he]
 ·have:=hwf m (ak9 hm)
  simp only [Lit.wf,adr,acZ] at this;exact this
 rw [hx];simp only [Rows.uptoBulk,QK];omega
theorem YF {n:Nat} {v:Value} {y:DataW H×List MemPlace} (h:DataW.trod enc Tryz.prog W 0 (fun _=>true) true n 23 [v]=some y):
  ∃A c ts,v= .slice A (List.length ts) c/\Reads W W.heap.size 1 A ts.length (ts.map ST)/\(∀t∈ts,t.length<=Rows.uptoBulk y.1)/\ts.length<=Rows.uptoBulk y.1:=by
 rcases open_strings Tryz.underlying23 Tryz.underlying9 (by kernel_rfl) h with ⟨hc,hx⟩ |⟨a,len,cap,ss,hc,_,hl,_,hz,hx,hcell,_⟩
 ·simp only [akq,al7] at hc
  exact ⟨none,0, [],hc,Reads.none_,by simp,by simp⟩
 simp only [akq,al7] at hc;simp only [alQ] at hz
 have ht:(ss.take len).length=len:=by rw [acW];omega
 have hb:(ss.take len).length<=Rows.uptoBulk y.1/\ ∀s∈ss.take len,s.size<=Rows.uptoBulk y.1:=by
  rw [hx];simp only [Rows.uptoBulk,YD]
  constructor
  ·by_cases h0:0<(ss.take len).length
   ·have:=(YE (aoT h0)).2
    omega
   omega
  intro s hs;have:=(YE hs).1;omega
 refine ⟨some a,cap,(ss.take len).map fun s=>s.data.toList,by rw [ace,ht];exact hc, ?_,fun t hm=> ?_,by rw [ace];exact hb.1⟩
 ·rw [ace,ht]
  refine QJ (by simp;omega) fun i u hi=> ?_
  rw [aez,acJ] at hi;obtain ⟨z,hz',rfl⟩:=ac7.1 hi;obtain ⟨hlt,he⟩:=acy.1 hz'
  have hlt':i<ss.length:=by rw [ht] at hlt;omega
  rw [hcell i hlt',amH,ab2 hlt'];rw [amA] at he;simp [ST,he]
 obtain ⟨s,hs,rfl⟩:=ad5.1 hm;have:=hb.2 s hs
 rwa [Lib.size_eq] at this
end
end Go.Proofs.YtoofbflplhbpbaaGreatDoor
