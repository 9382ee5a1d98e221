/- Lemmas. -/
import Derived.Test.YtdijgcnlbfgkdaaGreatDoorUP08
import Derived.Lib.Replace
import Derived.Lib.IndexLaws
import Derived.Lib.IndexBytes
import Derived.Lib.CountLaws
import Derived.Test.YtdijgcnlbfgkdaaGreatDoorCards
import Derived.Test.YtdijgcnlbfgkdaaGreatDoorTie
import Derived.ProofKit
import Derived.OpenShut
import Derived.Deep.DeepHandedRow
import Derived.Deep.DeepWitnessRowRef
import Derived.Lib.LaidIn
import Derived.Lib.LaidTab
import Derived.Stop.LaidErr
import Derived.ChangeSame
import Derived.ChangeStays
import Derived.ChangeBook
import Derived.ChangeMaps5
set_option maxHeartbeats 64000000
set_option maxRecDepth 1000000
set_option linter.all false
namespace Go.Proofs.YtdijgcnlbfgkdaaGreatDoor
open Go.RowKit Go.Proofs.Tryz
def aja (B:Nat) (u:Value) (v:au.V) (w:World) (h:qM w B u v) (_hB:B<=w.heap.size) (hlo:1<=v.kind) (hhi:v.kind<=8):
  Calls prog 76 #[u] w fun e w'=>e=.returned (.bool (decide (au.Unused v)))/\Below w.heap.size w w':=by
 obtain⟨A1,c1,A2,c2,rfl,-,-⟩:=h.ex;have hnl:=h.nl;have hsl:=h.sl;have hb:=fun(W:World)=>Ur v.kind W h.kin
 clear h;obtain⟨k0,n0,t0,ns,ts⟩:=v;simp only at hnl hsl hlo hhi hb⊢;obtain⟨U,hU⟩:=aj (decide (au.Unused ⟨k0,n0,t0,ns,ts⟩));rw[hU];obtain⟨nn,hnn⟩:=aj ns.length;obtain⟨tn,htn⟩:=aj ts.length;obtain⟨z,hz⟩:=aj (⟨t0.toArray⟩:ByteArray);have hzd:z.data.toList=t0:=by rw[<-hz]
 rw[hnn]at hnl⊢;rw[htn]at hsl⊢;rw[hz];obtain⟨W1,hW1⟩:=aj (w.alloc (.cells #[.int .i64 k0,.int .i64 n0,.string z,.slice A1 nn c1,.slice A2 tn c2] 43));have hb1:Below w.heap.size w W1:=by rw[<-hW1];exact(aoa _ w).alloc (aej _) _
 have k1:ak W1 w.heap.size 43 #[.int .i64 k0,.int .i64 n0,.string z,.slice A1 nn c1,.slice A2 tn c2]:=by rw[<-hW1];exact ak.new _ _ _
 refine gq6 hb1 hW1 hnn htn hzd hU fun HB1 HW1 aC aW HZD HU=>?_;obtain⟨a0,a1,a2,a3,a4,-⟩:=gQ k1;have hu:=o9;clear hnn htn hz k1 hb1 hW1 hzd hU;by_cases hk:k0<4
 ·have HK:Hid (1<=k0/\k0<4):=ah ⟨hlo,by omega⟩
  have hcb:au.nZ k0=k0:=by unfold au.nZ;rw[aer (by omega)]
  rw[hcb]at hb;have HB:=ah hb;have fc:(k0 == 4)=false:=aek.2 (by omega)
  have hc:=trivial;have fl:decide (4<k0)=false:=dF (by omega)
  have fl':k0<=4:=by omega
  clear hb hcb hc hlo hhi hk;by_cases h:n0≠0
  ·have fN:(n0 !=0)=true:=afd.2 h
   have HN:=ah h;clear h;by_cases h:t0.length≠0
   ·have fT:z.toList.isEmpty=false:=by
     rw[ahc];exact fun e=>h ((uy HZD.out).1 e)
    have HT:=ah h;clear h
    have bU:Hid (U=true):=by
     rw[<-HU.out,bG,aC.out,aW.out];exact ah (aei (by have:=HK.out;have:=HN.out;have:=HT.out;omega))
    go_enter func76,ntmps76
    go_upto_region 1 with fail
    rw[HW1.out];go_wp2_with fail;refine iq7 (HB.out _) ?_;go_wp2;go_ret;exact⟨by rw[bU.out];rfl,HB1.out⟩
   have fT:z.toList.isEmpty=true:=by
    rw[an6];exact(uy HZD.out).2 (by omega)
   have HT:=ah h;clear h;by_cases h:0<nn
   ·have fS:decide (0<nn)=true:=aei h
    have gS:((nn:Int) !=0)=true:=by rw[afd];omega
    have HS:=ah h;clear h
    have bU:Hid (U=true):=by
     rw[<-HU.out,bG,aC.out,aW.out];exact ah (aei (by have:=HK.out;have:=HN.out;have:=HT.out;have:=HS.out;omega))
    go_enter func76,ntmps76
    go_upto_region 1 with fail
    rw[HW1.out];go_wp2_with fail;refine iq7 (HB.out _) ?_;go_wp2;go_ret;exact⟨by rw[bU.out];rfl,HB1.out⟩
   have fS:decide (0<nn)=false:=dF h;have gS:((nn:Int) !=0)=false:=by rw[afV];omega
   have HS:=ah h;clear h;by_cases h:0<tn
   ·have fX:decide (0<tn)=true:=aei h
    have gX:((tn:Int) !=0)=true:=by rw[afd];omega
    have HX:=ah h;clear h
    have bU:Hid (U=true):=by
     rw[<-HU.out,bG,aC.out,aW.out];exact ah (aei (by have:=HK.out;have:=HN.out;have:=HT.out;have:=HS.out;have:=HX.out;omega))
    go_enter func76,ntmps76
    go_upto_region 1 with fail
    rw[HW1.out];go_wp2_with fail;refine iq7 (HB.out _) ?_;go_wp2;go_ret;exact⟨by rw[bU.out];rfl,HB1.out⟩
   have fX:decide (0<tn)=false:=dF h;have gX:((tn:Int) !=0)=false:=by rw[afV];omega
   have HX:=ah h;clear h
   have bU:Hid (U=false):=by
    rw[<-HU.out,bG,aC.out,aW.out];exact ah (dF (by have:=HK.out;have:=HN.out;have:=HT.out;have:=HS.out;have:=HX.out;omega))
   go_enter func76,ntmps76
   go_upto_region 1 with fail
   rw[HW1.out];go_wp2_with fail;refine iq7 (HB.out _) ?_;go_wp2;go_ret;exact⟨by rw[bU.out];rfl,HB1.out⟩
  have fN:(n0 !=0)=false:=by simpa using h
  have HN:=ah h;clear h;by_cases h:t0.length≠0
  ·have fT:z.toList.isEmpty=false:=by
    rw[ahc];exact fun e=>h ((uy HZD.out).1 e)
   have HT:=ah h;clear h
   have bU:Hid (U=true):=by
    rw[<-HU.out,bG,aC.out,aW.out];exact ah (aei (by have:=HK.out;have:=HN.out;have:=HT.out;omega))
   go_enter func76,ntmps76
   go_upto_region 1 with fail
   rw[HW1.out];go_wp2_with fail;refine iq7 (HB.out _) ?_;go_wp2;go_ret;exact⟨by rw[bU.out];rfl,HB1.out⟩
  have fT:z.toList.isEmpty=true:=by
   rw[an6];exact(uy HZD.out).2 (by omega)
  have HT:=ah h;clear h;by_cases h:0<nn
  ·have fS:decide (0<nn)=true:=aei h
   have gS:((nn:Int) !=0)=true:=by rw[afd];omega
   have HS:=ah h;clear h
   have bU:Hid (U=true):=by
    rw[<-HU.out,bG,aC.out,aW.out];exact ah (aei (by have:=HK.out;have:=HN.out;have:=HT.out;have:=HS.out;omega))
   go_enter func76,ntmps76
   go_upto_region 1 with fail
   rw[HW1.out];go_wp2_with fail;refine iq7 (HB.out _) ?_;go_wp2;go_ret;exact⟨by rw[bU.out];rfl,HB1.out⟩
  have fS:decide (0<nn)=false:=dF h;have gS:((nn:Int) !=0)=false:=by rw[afV];omega
  have HS:=ah h;clear h;by_cases h:0<tn
  ·have fX:decide (0<tn)=true:=aei h
   have gX:((tn:Int) !=0)=true:=by rw[afd];omega
   have HX:=ah h;clear h
   have bU:Hid (U=true):=by
    rw[<-HU.out,bG,aC.out,aW.out];exact ah (aei (by have:=HK.out;have:=HN.out;have:=HT.out;have:=HS.out;have:=HX.out;omega))
   go_enter func76,ntmps76
   go_upto_region 1 with fail
   rw[HW1.out];go_wp2_with fail;refine iq7 (HB.out _) ?_;go_wp2;go_ret;exact⟨by rw[bU.out];rfl,HB1.out⟩
  have fX:decide (0<tn)=false:=dF h;have gX:((tn:Int) !=0)=false:=by rw[afV];omega
  have HX:=ah h;clear h
  have bU:Hid (U=false):=by
   rw[<-HU.out,bG,aC.out,aW.out];exact ah (dF (by have:=HK.out;have:=HN.out;have:=HT.out;have:=HS.out;have:=HX.out;omega))
  go_enter func76,ntmps76
  go_upto_region 1 with fail
  rw[HW1.out];go_wp2_with fail;refine iq7 (HB.out _) ?_;go_wp2;go_ret;exact⟨by rw[bU.out];rfl,HB1.out⟩
 by_cases hk:k0=4
 ·have HK:Hid (1<=k0/\k0=4):=ah ⟨hlo,by omega⟩
  have hcb:au.nZ k0=4:=by unfold au.nZ;rw[aer (by omega)];omega
  rw[hcb]at hb;obtain⟨c,hc⟩:=aj (4:Int);rw[hc]at hb;have HB:=ah hb;have fc:(c == 4)=true:=afc.2 (by omega)
  have fl:decide (4<k0)=false:=dF (by omega)
  have fl':k0<=4:=by omega
  clear hb hcb hc hlo hhi hk;by_cases h:n0≠0
  ·have fN:(n0 !=0)=true:=afd.2 h
   have HN:=ah h;clear h
   have bU:Hid (U=true):=by
    rw[<-HU.out,bG,aC.out,aW.out];exact ah (aei (by have:=HK.out;have:=HN.out;omega))
   go_enter func76,ntmps76
   go_upto_region 1 with fail
   rw[HW1.out];go_wp2_with fail;refine iq7 (HB.out _) ?_;go_wp2;go_ret;exact⟨by rw[bU.out];rfl,HB1.out⟩
  have fN:(n0 !=0)=false:=by simpa using h
  have HN:=ah h;clear h;by_cases h:t0.length≠0
  ·have fT:z.toList.isEmpty=false:=by
    rw[ahc];exact fun e=>h ((uy HZD.out).1 e)
   have HT:=ah h;clear h;by_cases h:0<nn
   ·have fS:decide (0<nn)=true:=aei h
    have gS:((nn:Int) !=0)=true:=by rw[afd];omega
    have HS:=ah h;clear h
    have bU:Hid (U=true):=by
     rw[<-HU.out,bG,aC.out,aW.out];exact ah (aei (by have:=HK.out;have:=HN.out;have:=HT.out;have:=HS.out;omega))
    go_enter func76,ntmps76
    go_upto_region 1 with fail
    rw[HW1.out];go_wp2_with fail;refine iq7 (HB.out _) ?_;go_wp2;go_ret;exact⟨by rw[bU.out];rfl,HB1.out⟩
   have fS:decide (0<nn)=false:=dF h;have gS:((nn:Int) !=0)=false:=by rw[afV];omega
   have HS:=ah h;clear h;by_cases h:0<tn
   ·have fX:decide (0<tn)=true:=aei h
    have gX:((tn:Int) !=0)=true:=by rw[afd];omega
    have HX:=ah h;clear h
    have bU:Hid (U=true):=by
     rw[<-HU.out,bG,aC.out,aW.out];exact ah (aei (by have:=HK.out;have:=HN.out;have:=HT.out;have:=HS.out;have:=HX.out;omega))
    go_enter func76,ntmps76
    go_upto_region 1 with fail
    rw[HW1.out];go_wp2_with fail;refine iq7 (HB.out _) ?_;go_wp2;go_ret;exact⟨by rw[bU.out];rfl,HB1.out⟩
   have fX:decide (0<tn)=false:=dF h;have gX:((tn:Int) !=0)=false:=by rw[afV];omega
   have HX:=ah h;clear h
   have bU:Hid (U=false):=by
    rw[<-HU.out,bG,aC.out,aW.out];exact ah (dF (by have:=HK.out;have:=HN.out;have:=HT.out;have:=HS.out;have:=HX.out;omega))
   go_enter func76,ntmps76
   go_upto_region 1 with fail
   rw[HW1.out];go_wp2_with fail;refine iq7 (HB.out _) ?_;go_wp2;go_ret;exact⟨by rw[bU.out];rfl,HB1.out⟩
  have fT:z.toList.isEmpty=true:=by
   rw[an6];exact(uy HZD.out).2 (by omega)
  have HT:=ah h;clear h;by_cases h:0<nn
  ·have fS:decide (0<nn)=true:=aei h
   have gS:((nn:Int) !=0)=true:=by rw[afd];omega
   have HS:=ah h;clear h
   have bU:Hid (U=true):=by
    rw[<-HU.out,bG,aC.out,aW.out];exact ah (aei (by have:=HK.out;have:=HN.out;have:=HT.out;have:=HS.out;omega))
   go_enter func76,ntmps76
   go_upto_region 1 with fail
   rw[HW1.out];go_wp2_with fail;refine iq7 (HB.out _) ?_;go_wp2;go_ret;exact⟨by rw[bU.out];rfl,HB1.out⟩
  have fS:decide (0<nn)=false:=dF h;have gS:((nn:Int) !=0)=false:=by rw[afV];omega
  have HS:=ah h;clear h;by_cases h:0<tn
  ·have fX:decide (0<tn)=true:=aei h
   have gX:((tn:Int) !=0)=true:=by rw[afd];omega
   have HX:=ah h;clear h
   have bU:Hid (U=true):=by
    rw[<-HU.out,bG,aC.out,aW.out];exact ah (aei (by have:=HK.out;have:=HN.out;have:=HT.out;have:=HS.out;have:=HX.out;omega))
   go_enter func76,ntmps76
   go_upto_region 1 with fail
   rw[HW1.out];go_wp2_with fail;refine iq7 (HB.out _) ?_;go_wp2;go_ret;exact⟨by rw[bU.out];rfl,HB1.out⟩
  have fX:decide (0<tn)=false:=dF h;have gX:((tn:Int) !=0)=false:=by rw[afV];omega
  have HX:=ah h;clear h
  have bU:Hid (U=false):=by
   rw[<-HU.out,bG,aC.out,aW.out];exact ah (dF (by have:=HK.out;have:=HN.out;have:=HT.out;have:=HS.out;have:=HX.out;omega))
  go_enter func76,ntmps76
  go_upto_region 1 with fail
  rw[HW1.out];go_wp2_with fail;refine iq7 (HB.out _) ?_;go_wp2;go_ret;exact⟨by rw[bU.out];rfl,HB1.out⟩
 by_cases hk:k0<8
 ·have HK:Hid (1<=k0/\4<k0/\k0<8):=ah ⟨hlo,by omega,hk⟩
  have hcb:au.nZ k0=k0 - 4:=by unfold au.nZ;rw[aeu (by omega)]
  rw[hcb]at hb;obtain⟨c,hc⟩:=aj (k0 - 4:Int);rw[hc]at hb;have HB:=ah hb;have fc:(c == 4)=false:=aek.2 (by omega)
  have fl:decide (4<k0)=true:=aei (by omega)
  have fl':4<k0:=by omega
  clear hb hcb hc hlo hhi hk;by_cases h:n0≠0
  ·have fN:(n0 !=0)=true:=afd.2 h
   have HN:=ah h;clear h
   have bU:Hid (U=true):=by
    rw[<-HU.out,bG,aC.out,aW.out];exact ah (aei (by have:=HK.out;have:=HN.out;omega))
   go_enter func76,ntmps76
   go_upto_region 1 with fail
   rw[HW1.out];go_wp2_with fail;refine iq7 (HB.out _) ?_;go_wp2;go_ret;exact⟨by rw[bU.out];rfl,HB1.out⟩
  have fN:(n0 !=0)=false:=by simpa using h
  have HN:=ah h;clear h;by_cases h:t0.length≠0
  ·have fT:z.toList.isEmpty=false:=by
    rw[ahc];exact fun e=>h ((uy HZD.out).1 e)
   have HT:=ah h;clear h
   have bU:Hid (U=true):=by
    rw[<-HU.out,bG,aC.out,aW.out];exact ah (aei (by have:=HK.out;have:=HN.out;have:=HT.out;omega))
   go_enter func76,ntmps76
   go_upto_region 1 with fail
   rw[HW1.out];go_wp2_with fail;refine iq7 (HB.out _) ?_;go_wp2;go_ret;exact⟨by rw[bU.out];rfl,HB1.out⟩
  have fT:z.toList.isEmpty=true:=by
   rw[an6];exact(uy HZD.out).2 (by omega)
  have HT:=ah h;clear h;by_cases h:0<nn
  ·have fS:decide (0<nn)=true:=aei h
   have gS:((nn:Int) !=0)=true:=by rw[afd];omega
   have HS:=ah h;clear h;by_cases h:0<tn
   ·have fX:decide (0<tn)=true:=aei h
    have gX:((tn:Int) !=0)=true:=by rw[afd];omega
    have HX:=ah h;clear h
    have bU:Hid (U=true):=by
     rw[<-HU.out,bG,aC.out,aW.out];exact ah (aei (by have:=HK.out;have:=HN.out;have:=HT.out;have:=HS.out;have:=HX.out;omega))
    go_enter func76,ntmps76
    go_upto_region 1 with fail
    rw[HW1.out];go_wp2_with fail;refine iq7 (HB.out _) ?_;go_wp2;go_ret;exact⟨by rw[bU.out];rfl,HB1.out⟩
   have fX:decide (0<tn)=false:=dF h;have gX:((tn:Int) !=0)=false:=by rw[afV];omega
   have HX:=ah h;clear h
   have bU:Hid (U=false):=by
    rw[<-HU.out,bG,aC.out,aW.out];exact ah (dF (by have:=HK.out;have:=HN.out;have:=HT.out;have:=HS.out;have:=HX.out;omega))
   go_enter func76,ntmps76
   go_upto_region 1 with fail
   rw[HW1.out];go_wp2_with fail;refine iq7 (HB.out _) ?_;go_wp2;go_ret;exact⟨by rw[bU.out];rfl,HB1.out⟩
  have fS:decide (0<nn)=false:=dF h;have gS:((nn:Int) !=0)=false:=by rw[afV];omega
  have HS:=ah h;clear h;by_cases h:0<tn
  ·have fX:decide (0<tn)=true:=aei h
   have gX:((tn:Int) !=0)=true:=by rw[afd];omega
   have HX:=ah h;clear h
   have bU:Hid (U=true):=by
    rw[<-HU.out,bG,aC.out,aW.out];exact ah (aei (by have:=HK.out;have:=HN.out;have:=HT.out;have:=HS.out;have:=HX.out;omega))
   go_enter func76,ntmps76
   go_upto_region 1 with fail
   rw[HW1.out];go_wp2_with fail;refine iq7 (HB.out _) ?_;go_wp2;go_ret;exact⟨by rw[bU.out];rfl,HB1.out⟩
  have fX:decide (0<tn)=false:=dF h;have gX:((tn:Int) !=0)=false:=by rw[afV];omega
  have HX:=ah h;clear h
  have bU:Hid (U=false):=by
   rw[<-HU.out,bG,aC.out,aW.out];exact ah (dF (by have:=HK.out;have:=HN.out;have:=HT.out;have:=HS.out;have:=HX.out;omega))
  go_enter func76,ntmps76
  go_upto_region 1 with fail
  rw[HW1.out];go_wp2_with fail;refine iq7 (HB.out _) ?_;go_wp2;go_ret;exact⟨by rw[bU.out];rfl,HB1.out⟩
 have HK:Hid (k0=8):=ah (by omega)
 have hcb:au.nZ k0=4:=by unfold au.nZ;rw[aeu (by omega)];omega
 rw[hcb]at hb;obtain⟨c,hc⟩:=aj (4:Int);rw[hc]at hb;have HB:=ah hb;have fc:(c == 4)=true:=afc.2 (by omega)
 have fl:decide (4<k0)=true:=aei (by omega)
 have fl':4<k0:=by omega
 clear hb hcb hc hlo hhi;by_cases h:n0≠0
 ·have fN:(n0 !=0)=true:=afd.2 h
  have HN:=ah h;clear h
  have bU:Hid (U=true):=by
   rw[<-HU.out,bG,aC.out,aW.out];exact ah (aei (by have:=HK.out;have:=HN.out;omega))
  go_enter func76,ntmps76
  go_upto_region 1 with fail
  rw[HW1.out];go_wp2_with fail;refine iq7 (HB.out _) ?_;go_wp2;go_ret;exact⟨by rw[bU.out];rfl,HB1.out⟩
 have fN:(n0 !=0)=false:=by simpa using h
 have HN:=ah h;clear h;by_cases h:t0.length≠0
 ·have fT:z.toList.isEmpty=false:=by
   rw[ahc];exact fun e=>h ((uy HZD.out).1 e)
  have HT:=ah h;clear h
  have bU:Hid (U=true):=by
   rw[<-HU.out,bG,aC.out,aW.out];exact ah (aei (by have:=HK.out;have:=HN.out;have:=HT.out;omega))
  go_enter func76,ntmps76
  go_upto_region 1 with fail
  rw[HW1.out];go_wp2_with fail;refine iq7 (HB.out _) ?_;go_wp2;go_ret;exact⟨by rw[bU.out];rfl,HB1.out⟩
 have fT:z.toList.isEmpty=true:=by
  rw[an6];exact(uy HZD.out).2 (by omega)
 have HT:=ah h;clear h;by_cases h:0<nn
 ·have fS:decide (0<nn)=true:=aei h
  have gS:((nn:Int) !=0)=true:=by rw[afd];omega
  have HS:=ah h;clear h
  have bU:Hid (U=true):=by
   rw[<-HU.out,bG,aC.out,aW.out];exact ah (aei (by have:=HK.out;have:=HN.out;have:=HT.out;have:=HS.out;omega))
  go_enter func76,ntmps76
  go_upto_region 1 with fail
  rw[HW1.out];go_wp2_with fail;refine iq7 (HB.out _) ?_;go_wp2;go_ret;exact⟨by rw[bU.out];rfl,HB1.out⟩
 have fS:decide (0<nn)=false:=dF h;have gS:((nn:Int) !=0)=false:=by rw[afV];omega
 have HS:=ah h;clear h;by_cases h:0<tn
 ·have fX:decide (0<tn)=true:=aei h
  have gX:((tn:Int) !=0)=true:=by rw[afd];omega
  have HX:=ah h;clear h
  have bU:Hid (U=false):=by
   rw[<-HU.out,bG,aC.out,aW.out];exact ah (dF (by have:=HK.out;have:=HN.out;have:=HT.out;have:=HS.out;have:=HX.out;omega))
  go_enter func76,ntmps76
  go_upto_region 1 with fail
  rw[HW1.out];go_wp2_with fail;refine iq7 (HB.out _) ?_;go_wp2;go_ret;exact⟨by rw[bU.out];rfl,HB1.out⟩
 have fX:decide (0<tn)=false:=dF h;have gX:((tn:Int) !=0)=false:=by rw[afV];omega
 have HX:=ah h;clear h
 have bU:Hid (U=false):=by
  rw[<-HU.out,bG,aC.out,aW.out];exact ah (dF (by have:=HK.out;have:=HN.out;have:=HT.out;have:=HS.out;have:=HX.out;omega))
 go_enter func76,ntmps76
 go_upto_region 1 with fail
 rw[HW1.out];go_wp2_with fail;refine iq7 (HB.out _) ?_;go_wp2;go_ret;exact⟨by rw[bU.out];rfl,HB1.out⟩
def ajb {k n:Int} {t:List UInt8} {ns:List Int} {ts:List (List UInt8)} (h1:1<=k) (h8:k<=8) {U:Bool} (hU:decide (au.Unused ⟨k,n,t,ns,ts⟩)=U):
  au.check ⟨k,n,t,ns,ts⟩=if U=true then 41 else if 40<ns.length\/40<ts.length then 45 else if 1000<t.length\/au.oZ ts=true then 44 else if k<4 then au.kT k n else au.uo (k - 4) ns:=by
 unfold au.check;rw[aer (by simp only;omega),<-hU]
 simp only[aeU]
def check_any (B:Nat) (u:Value) (v:au.V) (w:World) (h:qM w B u v) (hB:B<=w.heap.size):
  Calls prog 28 #[u] w fun e w'=>e=.returned (.int .i64 (au.check v:Nat))/\Below w.heap.size w w':=by
 have hun:=fun(W:World) (hb:Below w.heap.size w W) (h1:1<=v.kind) (h8:v.kind<=8)=>aja B u v W (h.below (hb.mono hB)) (aep hB hb.size) h1 h8
 obtain⟨A1,c1,A2,c2,rfl,dK,dN⟩:=h.ex;have hnl:=h.nl;have hsl:=h.sl;obtain⟨hk1,hk2⟩:=h.kin;have hnum:=h.num;have Gm:=h.nums;have htl:=h.tl;have hsz:=h.sz;clear h;obtain⟨k0,n0,t0,ns,ts⟩:=v;simp only at dK dN hnl hsl hk1 hk2 hnum Gm htl hsz hun⊢;obtain⟨R,hR⟩:=aj (au.check ⟨k0,n0,t0,ns,ts⟩);rw[hR];obtain⟨U,hU⟩:=aj (decide (au.Unused ⟨k0,n0,t0,ns,ts⟩));rw[hU]at hun;have hcf:=fun h1 h8=>ajb (k:=k0) (n:=n0) (t:=t0) (ns:=ns) (ts:=ts) h1 h8 hU
 rw[hR]at hcf;obtain⟨nn,hnn⟩:=aj ns.length;obtain⟨tn,htn⟩:=aj ts.length;obtain⟨z,hz⟩:=aj (⟨t0.toArray⟩:ByteArray);have hzs:z.size=t0.length:=by rw[<-hz];exact dR _
 rw[hnn]at dK hnl hun hcf⊢;rw[htn]at dN hsl hun hcf⊢;rw[hz]at hun⊢;obtain⟨W1,hW1⟩:=aj (w.alloc (.cells #[.int .i64 k0,.int .i64 n0,.string z,.slice A1 nn c1,.slice A2 tn c2] 43));have hb1:Below w.heap.size w W1:=by rw[<-hW1];exact(aoa _ w).alloc (aej _) _
 have k1:ak W1 w.heap.size 43 #[.int .i64 k0,.int .i64 n0,.string z,.slice A1 nn c1,.slice A2 tn c2]:=by rw[<-hW1];exact ak.new _ _ _
 refine gq9 (dK.below (hb1.mono hB)) (dN.below (hb1.mono hB)) hb1 hW1 hcf hun hnn htn hnum fun Ae Em HB1 HW1 uK HUN aC aW vS=>?_;refine gq5 Gm hsz k1 hR hU fun Wy bf HKB HR0 HUU=>?_;obtain⟨a0,a1,a2,a3,a4,-⟩:=gQ k1;clear dK dN hnn htn hz k1 hb1 hW1 hcf hnum Gm hsz hun hU hR;have hu:=o9;go_enter func28,ntmps28
 go_upto_region 1 with fail
 rw[HW1.out];clear HW1;by_cases hlo:k0<1
 ·have hr:R=40:=by rw[<-HR0.out];unfold au.check;rw[aeu (.inl hlo)]
  have HRR:=ah hr;clear hr;go_wp2;go_ret;exact⟨by rw[HRR.out];rfl,HB1.out⟩
 by_cases hhi:8<k0
 ·have hr:R=40:=by rw[<-HR0.out];unfold au.check;rw[aeu (.inr hhi)]
  have HRR:=ah hr;have t1:decide (k0<1)=false:=dF hlo;have t2:decide (8<k0)=true:=aei hhi;clear hr hlo;go_wp2;go_ret;exact⟨by rw[HRR.out];rfl,HB1.out⟩
 have t1:decide (k0<1)=false:=dF hlo;have t2:decide (8<k0)=false:=dF hhi;have hlo1:1<=k0:=by omega
 have hhi1:k0<=8:=by omega
 have hr0:=uK.out hlo1 hhi1;have HCU:=ah (HUN.out W1 HB1.out hlo1 hhi1);have lg:Hid (1<=k0/\k0<=8):=⟨hlo1,hhi1⟩;clear hlo hhi hk1 hk2 uK HUN HR0;go_wp2_with fail;refine mq8 HCU fun w2 hb2=>?_;have HB2:=ah (HB1.trans (hb2.mono HB1.size));have aP:=ah (HKB.below hb2 HKB.lt);have hwz:=HB1.size;have anJ:=ah (Ae.out.below (hb2.mono (aep hB hwz)));have anK:=ah (Em.out.below (hb2.mono (aep hB hwz)));clear hb2 a0 a1 a2 a3 a4 HCU Ae Em HKB;obtain⟨a0,a1,a2,a3,a4,-⟩:=gQ aP.out;cases U with
 |true=>
  have hr:R=41:=by rw[hr0,aeu rfl]
  have HRR:=ah hr;clear hr hr0;go_wp2;go_ret;exact⟨by rw[HRR.out];rfl,HB2.out⟩
 |false=>
  rw[aer (by decide)]at hr0
  have rQ:=HUU.out;rw[bG,anW,aC.out,aW.out]at rQ;simp only[aq2]at rQ;obtain⟨u1,u2,u3,u4⟩:=rQ;have Jk:=ah (⟨u1,u2,u3,u4⟩:_/\_/\_/\_);have HR1:=ah hr0;clear u1 u2 u3 u4 hr0 HUU;by_cases lC:40<nn
  ·have hr:R=45:=by rw[HR1.out,aeu (.inl lC)]
   have HRR:=ah hr;have f1:decide (40<nn)=true:=aei lC;have f1':(40:Int)<nn:=by omega
   clear hr lC;go_wp2;go_ret;exact⟨by rw[HRR.out];rfl,HB2.out⟩
  have f1:decide (40<nn)=false:=dF lC;have f1':(nn:Int)<=40:=by omega
  by_cases uJ:40<tn
  ·have hr:R=45:=by rw[HR1.out,aeu (.inr uJ)]
   have HRR:=ah hr;have f2:decide (40<tn)=true:=aei uJ;have f2':(40:Int)<tn:=by omega
   clear hr lC uJ;go_wp2;go_ret;exact⟨by rw[HRR.out];rfl,HB2.out⟩
  have f2:decide (40<tn)=false:=dF uJ;have f2':(tn:Int)<=40:=by omega
  have hr1:=HR1.out;rw[aer (by omega)]at hr1
  have HR2:=ah hr1;clear hr1 HR1 lC uJ;by_cases htx:1000<t0.length
  ·have hr:R=44:=by rw[HR2.out,aeu (.inl htx)]
   have HRR:=ah hr;have f5:decide (1000<z.size)=true:=aei (by omega)
   have f5':(1000:Int)<z.size:=by omega
   clear hr htx hzs;go_wp2;go_ret;exact⟨by rw[HRR.out];rfl,HB2.out⟩
  have f5:decide (1000<z.size)=false:=dF (by omega)
  have f5':(z.size:Int)<=1000:=by omega
  have hcl:=fun(W:World) (hb:Below w2.heap.size w2 W)=>ai6 B A2 tn c2 ts W (anK.out.below (hb.mono (aep hB HB2.size))) aW.out (by omega) bf.out
  obtain⟨L,hL⟩:=aj (au.oZ ts);rw[hL]at hcl;have hr2:=HR2.out;rw[hL]at hr2;have Af:=ah (hcl w2 (aoa _ _));have HL:=ah hL;clear hcl hL HR2;go_wp2_with fail;refine iq8 Af ?_;cases L with
  |true=>
   have hr:R=44:=by rw[hr2,aeu (.inr rfl)]
   have HRR:=ah hr;clear hr hr2 htx hzs;go_wp2;go_ret;exact⟨by rw[HRR.out];rfl,HB2.out⟩
  |false=>
   rw[aer (by rintro(h|h);exact htx h;cases h)]at hr2
   have HR3:=ah hr2;clear hr2 htx hzs;by_cases hk4:k0<4
   ·have hr:=HR3.out
    rw[aeu hk4]at hr;have hcb:au.nZ k0=k0:=by unfold au.nZ;rw[aer (by omega)]
    have hcall:=fun(W:World)=>aa6 k0 n0 W (by have:=lg.out;unfold au.In64;omega) vS.out
    rw[hcb,<-hr]at hcall;have HC:=ah hcall;have f3:decide (k0<=3)=true:=aei (by omega)
    have f3':k0<=3:=by omega
    clear hr hcall hk4 hcb;go_wp2_with fail;refine iq7 (HC.out _) ?_;go_wp2;go_ret;exact⟨rfl,HB2.out⟩
   have f3:decide (k0<=3)=false:=dF (by omega)
   have f3':4<=k0:=by omega
   have hr:=HR3.out;rw[aer hk4]at hr;have HR4:=ah hr;clear hr HR3 hk4;go_wp2_with fail
   go_loopg [51] nn (fun g x wr=> ∃k:Nat,x=.int .i64 k/\k+g=nn/\w2=wr/\ ∀(j:Nat) y,j<k->ns[j]?=some y->au.kT (k0 - 4) y=0)
   case atStart=>exact⟨0,rfl,by omega,rfl,fun j y hj=>by omega⟩
   obtain⟨k,rfl,hk,rfl,hz⟩:=hrel;have HZ:=ah hz;have HK:=ah hk;have fQ:(k:Int)<=40:=by omega
   clear hz;cases gk with
   |zero=>
    obtain rfl:k=nn:=by omega
    have hr:R=0:=by
     rw[HR4.out]
     exact Us (fun y hy=>by
      obtain⟨j,hj,e⟩:=agM hy
      exact HZ.out j y (by have:=aC.out;omega) (by rw[aen hj,e]))
    have HRR:=ah hr;clear hk hr;go_wp2;go_ret;exact⟨by rw[HRR.out];rfl,HB2.out⟩
   |succ g=>
    have hkn:k<nn:=by omega
    have dW:(k:Int)<nn:=by omega
    have hkl:k<ns.length:=by rw[aC.out];exact hkn
    obtain⟨p,o,x,rfl,qN,hx,hp⟩:=anJ.out.cell hkn;rw[aeY,aen hkl]at hx;obtain rfl:=(aeM hx).symm;obtain⟨y,hy⟩:=aj (ns[k]);rw[hy]at hp;unfold I64 at hp;have hyk:ns[k]?=some y:=by rw[aen hkl,hy]
    have h5:5<=k0:=by have:=Jk.out.2.2.1;omega
    have hcb:au.nZ k0=k0 - 4:=by unfold au.nZ;rw[aeu (by omega)]
    have hcall:=fun(W:World)=>aa6 k0 y W (by have:=lg.out;unfold au.In64;omega) (Wy.out y (aew hyk))
    rw[hcb]at hcall;obtain⟨er,her⟩:=aj (au.kT (k0 - 4) y);rw[her]at hcall;refine gq3 hcall hyk her fun HC LZ L6=>?_;by_cases he:er=0
    ·subst he
     clear hx hk hkl hy hyk hcall her hcb;go_wp2_with fail;refine iq7 (HC.out _) ?_;go_wp2
     go_roundg g
     case measure=>omega
     refine⟨k+1,int_eq' (by omega),by have:=HK.out;omega,rfl,fun i q hi hq=> ?_⟩
     by_cases e:i=k
     ·rw[e,LZ.out]at hq
      cases hq;exact L6.out
     exact HZ.out i q (by omega) hq
    have hr:R=er:=by rw[HR4.out];exact Ut he k y LZ.out L6.out HZ.out
    have heb:((er:Int) !=0)=true:=by rw[afd];omega
    have HRR:=ah hr;clear hx hk hkl hy hyk hcall her hr he hcb;go_wp2_with fail;refine iq7 (HC.out _) ?_;go_wp2;go_ret;exact⟨by rw[HRR.out];rfl,HB2.out⟩
def KH {n:Int} (h0: -9223372036854775808<=n) (h1:n<=9223372036854775807):(Lib.itoa n).length<=21:=by
 unfold Lib.itoa
 split
 ·rw[ae7,Num.Bg]
  have:=Dy 19 n.natAbs (by omega)
  omega
 rw[Num.Bg];have:=Dy 19 n.toNat (by omega)
 omega
def ajc (f:Nat):(Num.oV f).length<=14:=by
 by_cases h:f=0
 ·subst h;decide
 rw[aio h,ae7];have:=aip f;omega
def ajd {f:Nat} {e:Int} (h0: -2000<=e) (h1:e<=2000):(Num.form f e).length<=23:=by
 unfold Num.form Num.rF;rw[aeo,aeo];have a:=ajc f
 split
 ·have b:=aaJ (n:= -e) (by omega) (by omega)
  simp only[ae7,afQ];omega
 have b:=aaJ (n:=e) (by omega) (by omega)
 simp only[ae7,afQ];omega
def aje {a:Nat} (h:a<=9218868437227405312):(Num.ku a).length<=23:=by
 unfold Num.ku
 split
 ·decide
 split
 ·decide
 rename_i h1 h2;obtain⟨p1,p2,p3,p4,p5⟩:=Num.Ph h2 (by omega)
 exact ajd (by omega) (by omega)
def ajf (b:Nat):(Num.fmt b).length<=24:=by
 unfold Num.fmt
 split
 ·decide
 rename_i h;have:=aje (a:=b % 9223372036854775808) (by omega)
 rw[aeo];cases decide (9223372036854775808<=b)<;>simp[Num.sg]<;>omega
def aa8 (c:UInt8):0<=au.kindOf c/\au.kindOf c<=4:=by
 unfold au.kindOf
 repeat' split
 all_goals omega
def Uw {α:Type} {l:List α} {k:Nat} {y:α} (h:l[k]?=some y) (f:α->List UInt8):(l.take (k+1)).flatMap f=(l.take k).flatMap f++f y:=by
 obtain⟨hk,he⟩:=aeK.1 h;rw[af0 hk,afR,he];simp
end Go.Proofs.YtdijgcnlbfgkdaaGreatDoor
namespace Go.Proofs.YtdijgcnlbfgkdaaGreatDoor
open Go.ChangeShapes Go.WideShapes Go.ChangeAt Go.RowKit Go.Proofs.Tryz
def ajg:ownKnob prog.godebug=none:=by kernel_rfl
def ajh:laidOutB prog=true:=by kernel_rfl
def aa9: "*" ++ "errors.errorString" = "*errors.errorString" :=by decide
def abb (u:TypeId) (h:prog.typeName? 3 u=some "*errors.errorString"):u=301:=
 typeName_ptr_named (nm:= "errors.errorString") (by rw[aa9];kernel_rfl) (by kernel_rfl) (by decide) u (by rw[aa9];exact h)
def aji:(Rows.laid_math_bits_deBruijn64tab:DataW Unit)=Lib.tabData .u8 (Lib.deBruijn64tab.map fun x:Nat=>(x:Int)):=by kernel_rfl
def ajj:(Rows.laid_internal_strconv_uint64pow10:DataW Unit)=Lib.tabData .u64 Lib.pow10Tab:=by kernel_rfl
def II:List (String×DataW Unit):=[("math/bits.deBruijn32tab",Rows.laid_math_bits_deBruijn32tab),("math/bits.deBruijn64tab",Rows.laid_math_bits_deBruijn64tab),("internal/strconv.uint64pow10",Rows.laid_internal_strconv_uint64pow10),("unicode/utf8.acceptRanges",Rows.laid_unicode_utf8_acceptRanges),("strconv.ErrRange",Rows.laid_strconv_ErrRange),("strconv.ErrSyntax",Rows.laid_strconv_ErrSyntax),("unicode/utf8.first",Rows.laid_unicode_utf8_first)]
def ajk:(II.filter fun x=>x.2.handleName?.isSome)=[]:=by kernel_rfl
def ajl {W:World} (h:laidMetH prog II W) (hS:W.ShapedOpen prog):Laid W:=by
 have hL:laidMet prog II W:=by
  unfold laidMetH at h;rw[ajk]at h;exact h
 have h1:=hL.tail;have h2:=h1.tail;have h4:=h2.tail.tail;have h5:=h4.tail;rw[aji]at h1;rw[ajj]at h2
 have t1:Lib.TabIs prog W "math/bits.deBruijn64tab" .u8 (Lib.deBruijn64tab.map fun x:Nat=>(x:Int)):=
  Lib.tabIs_of_head (n:=64) Uc (by kernel_rfl) underlying292 asT (by kernel_rfl) (by kernel_rfl) h1
 have t2:Lib.TabIs prog W "internal/strconv.uint64pow10" .u64 Lib.pow10Tab:=
  Lib.tabIs_of_head (n:=20) aaz (by kernel_rfl) underlying269 underlying151 (by kernel_rfl) (by kernel_rfl) h2
 obtain⟨a0,s0,hv0,-,-,-⟩:=laid_sentinel (g:=4) h4 aaB (by kernel_rfl) underlying80 abb underlying301 underlying303 rfl rfl asa (by kernel_rfl) (by kernel_rfl)
 obtain⟨a1,s1,hv1,-,-,-⟩:=laid_sentinel (g:=3) h5 aaA (by kernel_rfl) underlying80 abb underlying301 underlying303 rfl rfl asa (by kernel_rfl) (by kernel_rfl)
 refine⟨t2,⟨_,t1,fun j hj=> ?_⟩,⟨_,_,hv1⟩,⟨_,_,hv0⟩, ?_⟩
 ·have hl:Lib.deBruijn64tab.length=64:=by decide
  have hj':j<Lib.deBruijn64tab.length:=by omega
  simp[List.getD,hj']
 exact Go.Proofs.cell_of_shapedOpen_int (zero:= #[.int .i64 0]) (t:=3) hS (aeL (by kernel_rfl)) (by kernel_rfl) rfl (by kernel_rfl) (by kernel_rfl) asI
section
variable {H:Type} {enc:TypeId×Value->H} {P:Program}
def ajm {f:Func} {s:ChangeSpec} {apart fresh handsOn again:Bool} {W W':World} {args:Array Value} {v:Value} {ds gs:List (DataW H)} {before pa pv:List MemPlace}
  (hW:DataW.Whole enc P f.params.toList s.vars apart W args.toList ds gs before)
  (hres: ∀(b:Nat) (sp:Nat->Bool) (hd:Bool),DataW.TrodAll enc P W' b sp hd f.resultTypes.toList (v.resultList f.resultTypes.size) (s.fn H (ds++gs)).results [])
  (hargs: ∀sp:Nat->Bool,(∀p∈before,sp p.block=true)->DataW.TrodAll enc P W' 0 sp true f.params.toList args.toList (s.fn H (ds++gs)).args pa)
  (hvars: ∀sp:Nat->Bool,(∀p∈before,sp p.block=true)->DataW.TrodVars enc P W' sp s.vars (s.fn H (ds++gs)).vars pv)
  (hps:before=pa++pv) (hb:Below W.heap.size W W')
  (hok: ∀(j:Nat) (t:TypeId) (r:Value),f.resultTypes[j]?=some t->(v.resultList f.resultTypes.size)[j]?=some r->Value.okWide P W' .any 0 t r):
  s.post enc P f apart fresh handsOn again W args v W':=by
 have hlt: ∀p∈before,p.block<W.heap.size:=fun p hp=>hW.lt p hp
 have hold: ∀p∈before,(fun b=>decide (b<W.heap.size)) p.block=true:=fun p hp=>by simpa using hlt p hp
 refine⟨ds,gs,before,[],pa,pv,hW,hres _ _ _,hargs _ hold,hvars _ hold,World.keptBut_mono (fun p hp=>⟨hp, ?_⟩) (hb.frame (· ∈before)),fun _=> ?_⟩
 ·rw[hps,afq]at hp
  exact Or.inr hp
 obtain⟨_,_,_,_,_,hz,hn⟩:=hW;refine⟨hok,_,_,([]++pa)++pv,⟨[]++pa,pv,trodAll_append (hargs _ (fun _ _=>rfl)) (hres _ _ _),hvars _ (fun _ _=>rfl),rfl, ?_, ?_⟩, ?_⟩
 ·intro b off hp
  have hin:MemPlace.cell b off∈before:=by rw[hps];simpa using hp
  rw[hb.frozen (hlt _ hin)];exact hz b off hin
 ·intro ha
  have:=hn ha;rw[hps]at this
  simpa using this
 intro p hp _;rw[hps]
 simpa using hp
def abd {W W':World} (hl:laidOutB P=true) (hb:Below W.heap.size W W') {sp:Nat->Bool}: ∀{ts:List TypeId} {vs:List Value} {ds:List (DataW H)} {ps:List MemPlace},
  (∀t∈ts,P.readableRec t=true/\t<P.types.size)->DataW.TrodAll enc P W 0 (fun _=>true) true ts vs ds ps->(∀p∈ps,sp p.block=true)->(∀p∈ps,p.block<W.heap.size)->
  DataW.TrodAll enc P W' 0 sp true ts vs ds ps
 |[],[],[],_,_,h,_,_=>h
 |t :: ts,v :: vs,d :: ds,ps,ht,⟨p,q,⟨n,h1⟩,h2,e⟩,hs,hlt=>by
  have hp: ∀x∈p,x∈ps:=fun x hx=>by rw[e];exact ap6 _ hx
  have hq: ∀x∈q,x∈ps:=fun x hx=>by rw[e];exact apZ _ hx
  have hh:=ht t (aga.2 (.inl rfl))
  exact⟨p,q,⟨n,DataW.trod_stays (kids_book hl hh.1) (book_sized hh.1) (fun h=>by cases h) ⟨hh.2,book_self t⟩ h1 (fun x hx=>hb.same (hlt x (hp x hx))) (fun x hx=>hs x (hp x hx))⟩,
   abd hl hb (fun u hu=>ht u (aga.2 (.inr hu))) h2 (fun x hx=>hs x (hq x hx)) (fun x hx=>hlt x (hq x hx)),e⟩
end
def numsOf:DataW Unit->List Value
 |.agg ds=>ds.map fun d=>match d with|.lit (.int k i)=> .int k i|_=>undef
 |_=> []
def ajn:Array Value:= #[.int .u8 128,.int .u8 191,.int .u8 160,.int .u8 191,.int .u8 128,.int .u8 159,.int .u8 144,.int .u8 191,.int .u8 128,.int .u8 143,.int .u8 0,.int .u8 0,.int .u8 0,.int .u8 0,.int .u8 0,.int .u8 0,.int .u8 0,.int .u8 0,.int .u8 0,.int .u8 0,.int .u8 0,.int .u8 0,.int .u8 0,.int .u8 0,.int .u8 0,.int .u8 0,.int .u8 0,.int .u8 0,.int .u8 0,.int .u8 0,.int .u8 0,.int .u8 0]
def FK (cs:Array Value):Obj->Obj
 |.cells _ t frozen=> .cells cs t frozen
 |o=>o
noncomputable abbrev N0:Nat:=(World.settled prog default).heap.size
noncomputable def laidWorld (os:Os):World:=
 let N:=(World.settled prog os).heap.size
 let w0:=World.holding prog os ⟨#[.cells #[.string ⟨#[118,97,108,117,101,32,111,117,116,32,111,102,32,114,97,110,103,101]⟩] 303,.cells #[.string ⟨#[105,110,118,97,108,105,100,32,115,121,110,116,97,120]⟩] 303],#[],[]⟩
 {w0 with heap:=((((((w0.heap.modify 5 (FK (numsOf Rows.laid_math_bits_deBruijn32tab).toArray)).modify 2 (FK (numsOf Rows.laid_math_bits_deBruijn64tab).toArray)).modify 1 (FK (numsOf Rows.laid_internal_strconv_uint64pow10).toArray)).modify 7 (FK ajn)).modify 6 (FK (numsOf Go.Pinned.utf8First).toArray)).modify 4 (FK #[.iface 301 (.pointer (some ⟨N,0,none⟩))])).modify 3 (FK #[.iface 301 (.pointer (some ⟨N+1,0,none⟩))])}
def laid_met (os:Os) (args:Array Value):laidMet prog II ((laidWorld os).forCall (fun _ _=>0) ⟨#[],args,[]⟩).memory:=
 (LaidIn.of_run (l:=II) [5,2,1,7,4,N0,3,N0+1,6] 8 (by kernel_rfl) (by kernel_rfl) (by kernel_rfl) (by kernel_rfl)).met
end Go.Proofs.YtdijgcnlbfgkdaaGreatDoor
namespace Go.Proofs.YtdijgcnlbfgkdaaGreatDoor.Gr
open Go Go.Proofs.Tryz
abbrev L:=List UInt8
structure P where
 key:L
 val:au.V
structure N where
 id:Int
 labels:List L
 props:List P
structure R where
 id:Int
 type:L
 src:Int
 dst:Int
 props:List P
structure G where
 nodes:List N
 ay:List R
def G0:G:=⟨[],[]⟩
def fD (s:L):Bool:=decide (s≠ []) && decide (s.length<=40) && !(s.head?.any Num.aJ) && s.all Lex.dh
section
variable {κ α:Type} (f:Option κ->α->Nat) (key:α->κ)
def first:Option κ->List α->Nat->Nat×Nat
 |_,[],_=>(0,0)
 |p,a :: r,i=>if f p a≠0 then(f p a,i) else first (some (key a)) r (i+1)
def aQ (l:List α):Nat->Option κ
 |0=>none
 |k+1=>l[k]?.map key
def Ux: ∀(l:List α) (p:Option κ) (i k:Nat),k<=l.length->(∀j a,j<k->l[j]?=some a->f (if j=0 then p else aQ key l j) a=0)->
  first f key p l i=first f key (if k=0 then p else aQ key l k) (l.drop k) (i+k)
 |l,p,i,0,_,_=>by simp
 |[],p,i,k+1,h,_=>by simp at h
 |a :: r,p,i,k+1,h,h0=>by
  have ha:f p a=0:=h0 0 a (by omega) rfl
  have:=Ux r (some (key a)) (i+1) k (by simpa using h) (fun j b hj hb=>by
   have:=h0 (j+1) b (by omega) (by simpa using hb)
   rw[aer (by omega)]at this
   cases j with
   |zero=>simpa[aQ] using this
   |succ j=>rw[aer (by omega)];simpa[aQ] using this)
  rw[first,aer (by rw[ha];decide),this,aer (show¬k+1=0 by omega),af9]
  congr 1
  ·cases k with
   |zero=>simp[aQ]
   |succ k=>rw[aer (by omega)];simp[aQ]
  omega
def DR {l:List α} {i:Nat} (h0: ∀j a,l[j]?=some a->f (aQ key l j) a=0):first f key none l i=(0,0):=by
 have:=Ux f key l none i l.length (aej _) (fun j a _ ha=>by
  have:=h0 j a ha;cases j with
  |zero=>simpa[aQ] using this
  |succ j=>rw[aer (by omega)];exact this)
 rw[this,arD,first]
def Uy {l:List α} {i k:Nat} {a:α} {e:Nat} (ha:l[k]?=some a) (he:f (aQ key l k) a=e) (hne:e≠0) (h0: ∀j a,j<k->l[j]?=some a->f (aQ key l j) a=0):first f key none l i=(e,i+k):=by
 obtain⟨hk,hka⟩:=aeK.1 ha
 have:=Ux f key l none i k (by omega) (fun j a hj ha=>by
  have:=h0 j a hj ha;cases j with
  |zero=>simpa[aQ] using this
  |succ j=>rw[aer (by omega)];exact this)
 rw[this,afk hk,hka,first]
 have hp:(if k=0 then none else aQ key l k)=aQ key l k:=by
  cases k with
  |zero=>rfl
  |succ k=>rw[aer (by omega)]
 rw[hp,he,aeu hne]
def abe: ∀(l:List α) (p:Option κ) (i:Nat),(first f key p l i).1=0-> ∀j a,l[j]?=some a->f (if j=0 then p else aQ key l j) a=0
 |[],_,_,_,j,a,h=>by simp at h
 |b :: r,p,i,h,j,a,hj=>by
  rw[first]at h
  split at h
  ·rename_i hne
   exact absurd h hne
  rename_i hne;have hb:f p b=0:=asJ.1 hne;cases j with
  |zero=>simp only[aev,afs]at hj;subst hj;simpa using hb
  |succ j=>
   have:=abe r (some (key b)) (i+1) h j a (by simpa using hj)
   rw[aer (by omega)]
   cases j with
   |zero=>simpa[aQ] using this
   |succ j=>rw[aer (by omega)]at this;simpa[aQ] using this
def P7 {l:List α} {i:Nat} (h:(first f key none l i).1=0): ∀j a,l[j]?=some a->f (aQ key l j) a=0:=fun j a ha=>by
 have:=abe f key l none i h j a ha;cases j with
 |zero=>simpa[aQ] using this
 |succ j=>rw[aer (by omega)]at this;exact this
end
def lQ (prev:Option L) (p:P):Nat:=if fD p.key=false then 60 else if prev.any (fun q=>decide (p.key<=q))=true then 6 else au.check p.val
def dJ (ps:List P):Nat:=if 16<ps.length then 64 else(first lQ P.key none ps 0).1
def labelWrong (prev:Option L) (l:L):Nat:=if fD l=false then 60 else if prev.any (fun q=>decide (l<=q))=true then 6 else 0
def wJ (ls:List L):Nat:=if 8<ls.length then 63 else(first labelWrong id none ls 0).1
def jo (prev:Option Int) (n:N):Nat:=
 if n.id<0\/1024<=n.id then 61 else if prev.any (fun q=>decide (n.id<=q))=true then 6 else if wJ n.labels≠0 then wJ n.labels else dJ n.props
def jM (ids:List Int) (prev:Option Int) (r:R):Nat:=
 if r.id<0\/2048<=r.id then 62 else if prev.any (fun q=>decide (r.id<=q))=true then 6 else if fD r.type=false then 60 else
 if r.src∉ids\/r.dst∉ids then 65 else dJ r.props
def dedup:List L->List L
 |[]=> []
 |a :: r=>if a∈r then dedup r else a :: dedup r
def rU (g:G):List L:=g.nodes.flatMap N.labels
def names2 (g:G):List L:=g.ay.map R.type
def jr (g:G):List P:=g.nodes.flatMap N.props++g.ay.flatMap R.props
def qO (g:G):List L:=(jr g).map P.key
def qw (v:au.V):Nat:=
 if v.kind<4 then(if v.kind=1 then 2 else 9) else if v.kind=4 then 3+v.text.length else
 2+v.nums.length*(if v.kind=5 then 1 else 8)+(v.texts.map fun t=>2+t.length).sum
def eP (ps:List P):Nat:=(ps.map fun p=>qw p.val).sum
def weight (g:G):Nat:=eP (jr g)
def check (g:G):Nat×Nat:=
 if(first jo N.id none g.nodes 0).1≠0 then first jo N.id none g.nodes 0 else
 if(first (jM (g.nodes.map N.id)) R.id none g.ay g.nodes.length).1≠0 then first (jM (g.nodes.map N.id)) R.id none g.ay g.nodes.length else
 if 200<(dedup (rU g)).length\/200<(dedup (names2 g)).length\/200<(dedup (qO g)).length then(66,0) else
 if 262144<weight g then(67,0) else(0,0)
def KI {x:L}: ∀{l:List L},x∈dedup l↔x∈l
 |[]=>by simp[dedup]
 |a :: r=>by
  rw[dedup]
  split
  ·rename_i h
   rw[KI,aga];exact⟨.inr,fun h'=>h'.elim (fun e=>e▸h) id⟩
  rw[aga,aga,KI]
def P8: ∀l:List L,(dedup l).Nodup
 |[]=>by simp[dedup]
 |a :: r=>by
  rw[dedup]
  split
  ·exact P8 r
  rename_i h;exact List.nodup_cons.2 ⟨fun h'=>h (KI.1 h'),P8 r⟩
def ajo {a b:List L} (ha:a.Nodup) (hb:b.Nodup) (h: ∀x,x∈a↔x∈b):a.Perm b:=(List.perm_ext_iff_of_nodup ha hb).2 h
def ajp {a l:List L} (ha:a.Nodup) (h: ∀x,x∈a↔x∈l):a.length=(dedup l).length:=(ajo ha (P8 l) (fun x=>(h x).trans KI.symm)).length_eq
def mY {α κ:Type} (le:κ->κ->Bool) (key:α->κ) (l:List α):List α:=l.mergeSort fun a b=>le (key a) (key b)
def kV (ps:List P):List P:=mY (fun a b:L=>decide (a<=b)) P.key ps
def vG (ls:List L):List L:=mY (fun a b:L=>decide (a<=b)) id ls
def sQ (n:N):N:=⟨n.id,vG n.labels,kV n.props⟩
def vH (r:R):R:=⟨r.id,r.type,r.src,r.dst,kV r.props⟩
def canon (g:G):G:=⟨mY (fun a b:Int=>decide (a<=b)) N.id (g.nodes.map sQ),mY (fun a b:Int=>decide (a<=b)) R.id (g.ay.map vH)⟩
end Go.Proofs.YtdijgcnlbfgkdaaGreatDoor.Gr
namespace Go.Proofs.YtdijgcnlbfgkdaaGreatDoor.Cy
open Go Go.Proofs.Tryz
abbrev L:=List UInt8
def word (k:Int):L:=if k=1 then[98,111,111,108] else if k=2 then[105,110,116] else if k=3 then[102,108,111,97,116] else[116,101,120,116]
def scalar (k n:Int) (t:L):L:=if k=1 then(if n=1 then au.TRUE else au.FALSE) else if k=2 then Lib.itoa n else if k=3 then Num.fmt (au.u64 n) else Lex.quote t
def join (sep:L):List L->L
 |[]=> []
 |[a]=>a
 |a :: b :: r=>a++sep++join sep (b :: r)
def parts (v:au.V):List L:=v.nums.map (fun n=>scalar (v.kind - 4) n [])++v.texts.map (fun t=>scalar (v.kind - 4) 0 t)
def lit (v:au.V):L:=if v.kind<=4 then scalar v.kind v.num v.text else[91,58]++word (v.kind - 4) ++(if parts v=[] then[] else 32 :: join [44,32] (parts v))++[93]
def Bo (p:Gr.P):L:=p.key++[58,32]++lit p.val
def x8 (ps:List Gr.P):L:=if ps=[] then[] else[32,123]++join [44,32] (ps.map Bo)++[125]
def uz:L:=[67,82,69,65,84,69]
def sS (n:Gr.N):L:=uz++[32,40,110]++Lib.itoa n.id++n.labels.flatMap (fun l=>58 :: l)++x8 n.props++[41,59,10]
def wK (r:Gr.R):L:=uz++[32,40,110]++Lib.itoa r.src++[41,45,91,114]++Lib.itoa r.id++[58]++r.type++x8 r.props++[93,45,62,40,110]++Lib.itoa r.dst++[41,59,10]
def lines (g:Gr.G):List L:=g.nodes.map sS++g.ay.map wK
def print (g:Gr.G):L:=(lines g).flatten
abbrev T:=List Lex.Tok
structure aI where
 rel:Bool
 first:L
 word:L
 other:L
 names:List L
 props:List Gr.P
def mark (m:L):T->Option T
 |[]=>none
 |t :: r=>if t.kind=5/\t.text=m then some r else none
def dS:T->Option (L×T)
 |[]=>none
 |t :: r=>if t.kind=1 then some (t.text,r) else none
def mZ:T->Option ((Int×Int×L)×T)
 |[]=>none
 |t :: r=>
  if t.kind=1 then(if t.text=au.TRUE then some ((1,1,[]),r) else if t.text=au.FALSE then some ((1,0,[]),r) else none) else
  if t.kind=2 then some ((2,t.num,[]),r) else
  if t.kind=3 then some ((3,t.num,[]),r) else
  if t.kind=4 then some ((4,0,t.text),r) else none
def kindOf (w:L):Int:=if w=word 1 then 1 else if w=word 2 then 2 else if w=word 3 then 3 else if w=word 4 then 4 else 0
def elems (k:Int):Nat->T->List Int->List L->Option ((List Int×List L)×T)
 |0,_,_,_=>none
 |f+1,l,ns,ts=>
  match mZ l with
  |none=>none
  |some ((j,n,t),r)=>
   if j≠k then none else
   match mark [93] r with
   |some r'=>some ((if k=4 then ns else ns++[n],if k=4 then ts++[t] else ts),r')
   |none=>
    match mark [44] r with
    |none=>none
    |some r'=>elems k f r' (if k=4 then ns else ns++[n]) (if k=4 then ts++[t] else ts)
def pq (l:T):Option (au.V×T):=
 match mark [91] l with
 |none=>(mZ l).map fun x=>(⟨x.1.1,x.1.2.1,x.1.2.2,[],[]⟩,x.2)
 |some r=>
  match mark [58] r with
  |none=>none
  |some r=>
   match dS r with
   |none=>none
   |some (w,r)=>
    if kindOf w=0 then none else
    match mark [93] r with
    |some r=>some (⟨kindOf w+4,0,[],[],[]⟩,r)
    |none=>(elems (kindOf w) (r.length+1) r [] []).map fun x=>(⟨kindOf w+4,0,[],x.1.1,x.1.2⟩,x.2)
def zQ:Nat->T->List Gr.P->Option (List Gr.P×T)
 |0,_,_=>none
 |f+1,l,acc=>
  match dS l with
  |none=>none
  |some (k,r)=>
   match mark [58] r with
   |none=>none
   |some r=>
    match pq r with
    |none=>none
    |some (v,r)=>
     match mark [125] r with
     |some r=>some (acc++[⟨k,v⟩],r)
     |none=>
      match mark [44] r with
      |none=>none
      |some r=>zQ f r (acc++[⟨k,v⟩])
def qx (l:T):Option (List Gr.P×T):=
 match mark [123] l with
 |none=>some ([],l)
 |some r=>
  match mark [125] r with
  |some r=>some ([],r)
  |none=>zQ (r.length+1) r []
def sU:Nat->T->List L->Option (List L×T)
 |0,_,_=>none
 |f+1,l,acc=>
  match mark [58] l with
  |none=>some (acc,l)
  |some r=>
   match dS r with
   |none=>none
   |some (w,r)=>sU f r (acc++[w])
def IJ (first:L) (l:T):Option (aI×T):=
 match mark [91] l with
 |none=>none
 |some l=>
  match dS l with
  |none=>none
  |some (w,l)=>
   match mark [58] l with
   |none=>none
   |some l=>
    match dS l with
    |none=>none
    |some (ty,l)=>
     match qx l with
     |none=>none
     |some (ps,l)=>
      match mark [93] l with
      |none=>none
      |some l=>
       match mark [45,62] l with
       |none=>none
       |some l=>
        match mark [40] l with
        |none=>none
        |some l=>
         match dS l with
         |none=>none
         |some (o,l)=>(mark [41] l).map fun l=>(⟨true,first,w,o,[ty],ps⟩,l)
def wM (l:T):Option (aI×T):=
 match mark [40] l with
 |none=>none
 |some l=>
  match dS l with
  |none=>none
  |some (w,l)=>
   match sU (l.length+1) l [] with
   |none=>none
   |some (ls,r)=>
    match qx r with
    |none=>none
    |some (ps,r')=>
     match mark [41] r' with
     |none=>none
     |some r''=>
      if ls≠ []\/(mark [123] r).isSome=true then some (⟨false,w,[],[],ls,ps⟩,r'') else
      match mark [45] r'' with
      |none=>some (⟨false,w,[],[],ls,ps⟩,r'')
      |some r=>IJ w r
def pats:Nat->T->List aI->Option (List aI×T)
 |0,_,_=>none
 |f+1,l,acc=>
  match wM l with
  |none=>none
  |some (p,r)=>
   match mark [59] r with
   |some r=>some (acc++[p],r)
   |none=>
    match mark [44] r with
    |none=>none
    |some r=>pats f r (acc++[p])
def script:Nat->T->List aI->Option (List aI)
 |0,_,_=>none
 |_+1,[],acc=>some acc
 |f+1,t :: r,acc=>
  if t.kind=1/\t.text=uz then
   match pats (r.length+1) r acc with
   |none=>none
   |some (acc,r)=>script f r acc
  else none
def patterns (l:T):Option (List aI):=script (l.length+1) l []
def nM (c:UInt8) (most:Int):L->Option Int
 |[]=>none
 |d :: r=>if d=c/\(Num.dM r).2=0/\0<=(Num.dM r).1/\(Num.dM r).1<most then some (Num.dM r).1 else none
def wO:List L->List L->Nat
 |_,[]=>0
 |seen,l :: r=>if Gr.fD l=false then 60 else if l∈seen then 7 else wO (seen++[l]) r
def dJ:List L->List Gr.P->Nat
 |_,[]=>0
 |seen,p :: r=>if Gr.fD p.key=false then 60 else if p.key∈seen then 7 else if au.check p.val≠0 then au.check p.val else dJ (seen++[p.key]) r
def endP (g:Gr.G) (w:L):Int×Nat:=
 match nM 110 1024 w with
 |none=>(0,61)
 |some n=>if n∈g.nodes.map Gr.N.id then(n,0) else(0,65)
def addNode (g:Gr.G) (p:aI):Gr.G×Nat:=
 match nM 110 1024 p.first with
 |none=>(g,61)
 |some n=>
  if n∈g.nodes.map Gr.N.id then(g,7) else
  if wO [] p.names≠0 then(g,wO [] p.names) else
  (⟨g.nodes++[⟨n,p.names,p.props⟩],g.ay⟩,dJ [] p.props)
def zS (g:Gr.G) (p:aI):Gr.G×Nat:=
 if(endP g p.first).2≠0 then(g,(endP g p.first).2) else
 match nM 114 2048 p.word with
 |none=>(g,62)
 |some n=>
  if n∈g.ay.map Gr.R.id then(g,7) else
  if Gr.fD (p.names.headD [])=false then(g,60) else
  if dJ [] p.props≠0 then(g,dJ [] p.props) else
  (⟨g.nodes,g.ay++[⟨n,p.names.headD [],(endP g p.first).1,(endP g p.other).1,p.props⟩]⟩,(endP g p.other).2)
def add (g:Gr.G) (p:aI):Gr.G×Nat:=if p.rel then zS g p else addNode g p
def make:Gr.G->List aI->Gr.G×Nat
 |g,[]=>(g,0)
 |g,p :: r=>if(add g p).2≠0 then(Gr.G0,(add g p).2) else make (add g p).1 r
def parse (s:L):Gr.G×Nat:=
 match(Lex.read s).2 with
 |some (_,e)=>(Gr.G0,e)
 |none=>
  match patterns (Lex.read s).1 with
  |none=>(Gr.G0,250)
  |some ps=>
   if(make Gr.G0 ps).2≠0 then(Gr.G0,(make Gr.G0 ps).2) else
   if(Gr.check (Gr.canon (make Gr.G0 ps).1)).1≠0 then(Gr.G0,(Gr.check (Gr.canon (make Gr.G0 ps).1)).1) else(Gr.canon (make Gr.G0 ps).1,0)
end Go.Proofs.YtdijgcnlbfgkdaaGreatDoor.Cy
