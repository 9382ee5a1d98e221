/- Contracts and plain laws,part 11. -/
import Derived.Test.YtkdakckjafomhaaGreatDoorUW10
import Derived.Lib.Replace
import Derived.Lib.IndexLaws
import Derived.Lib.IndexBytes
import Derived.Lib.CountLaws
set_option maxHeartbeats 64000000
set_option maxRecDepth 1000000
set_option linter.all false
namespace Go.Proofs.YtkdakckjafomhaaGreatDoor
open Go.RowKit
theorem ahU (B:Nat) (u:Value) (v:ak.V) (w:World) (h:oV w B u v) (_hB:B<=w.heap.size) (hlo:1<=v.kind) (hhi:v.kind<=8):
  Calls Tryz.prog 154 #[u] w fun e w'=>e=.returned (.bool (decide (ak.Unused v)))/\Below w.heap.size w w':=by
 obtain⟨A1,c1,A2,c2,rfl,-,-⟩:=h.ex;have hnl:=h.nl;have hsl:=h.sl
 have hb:=fun(W:World)=>TJ v.kind W h.kin
 clear h;obtain⟨k0,n0,t0,ns,ts⟩:=v;simp only at hnl hsl hlo hhi hb⊢
 obtain⟨U,hU⟩:=aj (decide (ak.Unused ⟨k0,n0,t0,ns,ts⟩));rw[hU]
 obtain⟨nn,hnn⟩:=aj ns.length;obtain⟨tn,htn⟩:=aj ts.length
 obtain⟨z,hz⟩:=aj (⟨t0.toArray⟩:ByteArray);have hzd:z.data.toList=t0:=by rw[<-hz]
 rw[hnn]at hnl⊢;rw[htn]at hsl⊢;rw[hz]
 obtain⟨W1,hW1⟩:=aj (w.alloc (.cells #[.int .i64 k0,.int .i64 n0,.string z,.slice A1 nn c1,.slice A2 tn c2] 37))
 have hb1:Below w.heap.size w W1:=by rw[<-hW1];exact(Below.refl _ w).alloc (ac4 _) _
 have k1:au W1 w.heap.size 37 #[.int .i64 k0,.int .i64 n0,.string z,.slice A1 nn c1,.slice A2 tn c2]:=by rw[<-hW1];exact au.new _ _ _
 have HB1:=ah hb1;have HW1:=ah hW1;have aC:=ah hnn;have aI:=ah htn;have HZD:=ah hzd
 have HU:=ah hU;obtain⟨a0,a1,a2,a3,a4,-⟩:=aU k1;have hu:=lM
 clear hnn htn hz k1 hb1 hW1 hzd hU;by_cases hk:k0<4
 ·have HK:Hid (1<=k0/\k0<4):=ah ⟨hlo,by omega⟩
  have hcb:ak.gV k0=k0:=by unfold ak.gV;rw[ade (by omega)]
  rw[hcb]at hb;have HB:=ah hb;have fc:(k0 == 4)=false:=adh.2 (by omega)
  have hc:=trivial;have fl:decide (4<k0)=false:=ac5 (by omega)
  have fl':k0<=4:=by omega
  clear hb hcb hc hlo hhi hk;by_cases h:n0≠0
  ·have fN:(n0 !=0)=true:=adY.2 h
   have HN:=ah h;clear h;by_cases h:t0.length≠0
   ·have fT:z.toList.isEmpty=false:=by
     rw[af4];exact fun e=>h ((rX HZD.out).1 e)
    have HT:=ah h;clear h
    have aP:Hid (U=true):=by
     rw[<-HU.out,bF,aC.out,aI.out]
     exact ah (adb (by have:=HK.out;have:=HN.out;have:=HT.out;omega))
    go_enter Tryz.func154,Tryz.ntmps154
    go_upto_region 1 with fail
    rw[HW1.out];go_wp2_with fail;refine(HB.out _).mono ?_;rintro e w' ⟨rfl,rfl⟩;go_wp2
    go_ret;exact⟨by rw[aP.out];rfl,HB1.out⟩
   have fT:z.toList.isEmpty=true:=by
    rw[ant];exact(rX HZD.out).2 (by omega)
   have HT:=ah h;clear h;by_cases h:0<nn
   ·have fS:decide (0<nn)=true:=adb h
    have gS:((nn:Int) !=0)=true:=by rw[adY];omega
    have HS:=ah h;clear h
    have aP:Hid (U=true):=by
     rw[<-HU.out,bF,aC.out,aI.out]
     exact ah (adb (by have:=HK.out;have:=HN.out;have:=HT.out;have:=HS.out;omega))
    go_enter Tryz.func154,Tryz.ntmps154
    go_upto_region 1 with fail
    rw[HW1.out];go_wp2_with fail;refine(HB.out _).mono ?_;rintro e w' ⟨rfl,rfl⟩;go_wp2
    go_ret;exact⟨by rw[aP.out];rfl,HB1.out⟩
   have fS:decide (0<nn)=false:=ac5 h;have gS:((nn:Int) !=0)=false:=by rw[afy];omega
   have HS:=ah h;clear h;by_cases h:0<tn
   ·have fX:decide (0<tn)=true:=adb h
    have gX:((tn:Int) !=0)=true:=by rw[adY];omega
    have HX:=ah h;clear h
    have aP:Hid (U=true):=by
     rw[<-HU.out,bF,aC.out,aI.out]
     exact ah (adb (by have:=HK.out;have:=HN.out;have:=HT.out;have:=HS.out;have:=HX.out;omega))
    go_enter Tryz.func154,Tryz.ntmps154
    go_upto_region 1 with fail
    rw[HW1.out];go_wp2_with fail;refine(HB.out _).mono ?_;rintro e w' ⟨rfl,rfl⟩;go_wp2
    go_ret;exact⟨by rw[aP.out];rfl,HB1.out⟩
   have fX:decide (0<tn)=false:=ac5 h;have gX:((tn:Int) !=0)=false:=by rw[afy];omega
   have HX:=ah h;clear h
   have aP:Hid (U=false):=by
    rw[<-HU.out,bF,aC.out,aI.out]
    exact ah (ac5 (by have:=HK.out;have:=HN.out;have:=HT.out;have:=HS.out;have:=HX.out;omega))
   go_enter Tryz.func154,Tryz.ntmps154
   go_upto_region 1 with fail
   rw[HW1.out];go_wp2_with fail;refine(HB.out _).mono ?_;rintro e w' ⟨rfl,rfl⟩;go_wp2
   go_ret;exact⟨by rw[aP.out];rfl,HB1.out⟩
  have fN:(n0 !=0)=false:=by simpa using h
  have HN:=ah h;clear h;by_cases h:t0.length≠0
  ·have fT:z.toList.isEmpty=false:=by
    rw[af4];exact fun e=>h ((rX HZD.out).1 e)
   have HT:=ah h;clear h
   have aP:Hid (U=true):=by
    rw[<-HU.out,bF,aC.out,aI.out]
    exact ah (adb (by have:=HK.out;have:=HN.out;have:=HT.out;omega))
   go_enter Tryz.func154,Tryz.ntmps154
   go_upto_region 1 with fail
   rw[HW1.out];go_wp2_with fail;refine(HB.out _).mono ?_;rintro e w' ⟨rfl,rfl⟩;go_wp2
   go_ret;exact⟨by rw[aP.out];rfl,HB1.out⟩
  have fT:z.toList.isEmpty=true:=by
   rw[ant];exact(rX HZD.out).2 (by omega)
  have HT:=ah h;clear h;by_cases h:0<nn
  ·have fS:decide (0<nn)=true:=adb h
   have gS:((nn:Int) !=0)=true:=by rw[adY];omega
   have HS:=ah h;clear h
   have aP:Hid (U=true):=by
    rw[<-HU.out,bF,aC.out,aI.out]
    exact ah (adb (by have:=HK.out;have:=HN.out;have:=HT.out;have:=HS.out;omega))
   go_enter Tryz.func154,Tryz.ntmps154
   go_upto_region 1 with fail
   rw[HW1.out];go_wp2_with fail;refine(HB.out _).mono ?_;rintro e w' ⟨rfl,rfl⟩;go_wp2
   go_ret;exact⟨by rw[aP.out];rfl,HB1.out⟩
  have fS:decide (0<nn)=false:=ac5 h;have gS:((nn:Int) !=0)=false:=by rw[afy];omega
  have HS:=ah h;clear h;by_cases h:0<tn
  ·have fX:decide (0<tn)=true:=adb h
   have gX:((tn:Int) !=0)=true:=by rw[adY];omega
   have HX:=ah h;clear h
   have aP:Hid (U=true):=by
    rw[<-HU.out,bF,aC.out,aI.out]
    exact ah (adb (by have:=HK.out;have:=HN.out;have:=HT.out;have:=HS.out;have:=HX.out;omega))
   go_enter Tryz.func154,Tryz.ntmps154
   go_upto_region 1 with fail
   rw[HW1.out];go_wp2_with fail;refine(HB.out _).mono ?_;rintro e w' ⟨rfl,rfl⟩;go_wp2
   go_ret;exact⟨by rw[aP.out];rfl,HB1.out⟩
  have fX:decide (0<tn)=false:=ac5 h;have gX:((tn:Int) !=0)=false:=by rw[afy];omega
  have HX:=ah h;clear h
  have aP:Hid (U=false):=by
   rw[<-HU.out,bF,aC.out,aI.out]
   exact ah (ac5 (by have:=HK.out;have:=HN.out;have:=HT.out;have:=HS.out;have:=HX.out;omega))
  go_enter Tryz.func154,Tryz.ntmps154
  go_upto_region 1 with fail
  rw[HW1.out];go_wp2_with fail;refine(HB.out _).mono ?_;rintro e w' ⟨rfl,rfl⟩;go_wp2
  go_ret;exact⟨by rw[aP.out];rfl,HB1.out⟩
 by_cases hk:k0=4
 ·have HK:Hid (1<=k0/\k0=4):=ah ⟨hlo,by omega⟩
  have hcb:ak.gV k0=4:=by unfold ak.gV;rw[ade (by omega)];omega
  rw[hcb]at hb;obtain⟨c,hc⟩:=aj (4:Int);rw[hc]at hb;have HB:=ah hb
  have fc:(c == 4)=true:=aeI.2 (by omega)
  have fl:decide (4<k0)=false:=ac5 (by omega)
  have fl':k0<=4:=by omega
  clear hb hcb hc hlo hhi hk;by_cases h:n0≠0
  ·have fN:(n0 !=0)=true:=adY.2 h
   have HN:=ah h;clear h
   have aP:Hid (U=true):=by
    rw[<-HU.out,bF,aC.out,aI.out];exact ah (adb (by have:=HK.out;have:=HN.out;omega))
   go_enter Tryz.func154,Tryz.ntmps154
   go_upto_region 1 with fail
   rw[HW1.out];go_wp2_with fail;refine(HB.out _).mono ?_;rintro e w' ⟨rfl,rfl⟩;go_wp2
   go_ret;exact⟨by rw[aP.out];rfl,HB1.out⟩
  have fN:(n0 !=0)=false:=by simpa using h
  have HN:=ah h;clear h;by_cases h:t0.length≠0
  ·have fT:z.toList.isEmpty=false:=by
    rw[af4];exact fun e=>h ((rX HZD.out).1 e)
   have HT:=ah h;clear h;by_cases h:0<nn
   ·have fS:decide (0<nn)=true:=adb h
    have gS:((nn:Int) !=0)=true:=by rw[adY];omega
    have HS:=ah h;clear h
    have aP:Hid (U=true):=by
     rw[<-HU.out,bF,aC.out,aI.out]
     exact ah (adb (by have:=HK.out;have:=HN.out;have:=HT.out;have:=HS.out;omega))
    go_enter Tryz.func154,Tryz.ntmps154
    go_upto_region 1 with fail
    rw[HW1.out];go_wp2_with fail;refine(HB.out _).mono ?_;rintro e w' ⟨rfl,rfl⟩;go_wp2
    go_ret;exact⟨by rw[aP.out];rfl,HB1.out⟩
   have fS:decide (0<nn)=false:=ac5 h;have gS:((nn:Int) !=0)=false:=by rw[afy];omega
   have HS:=ah h;clear h;by_cases h:0<tn
   ·have fX:decide (0<tn)=true:=adb h
    have gX:((tn:Int) !=0)=true:=by rw[adY];omega
    have HX:=ah h;clear h
    have aP:Hid (U=true):=by
     rw[<-HU.out,bF,aC.out,aI.out]
     exact ah (adb (by have:=HK.out;have:=HN.out;have:=HT.out;have:=HS.out;have:=HX.out;omega))
    go_enter Tryz.func154,Tryz.ntmps154
    go_upto_region 1 with fail
    rw[HW1.out];go_wp2_with fail;refine(HB.out _).mono ?_;rintro e w' ⟨rfl,rfl⟩;go_wp2
    go_ret;exact⟨by rw[aP.out];rfl,HB1.out⟩
   have fX:decide (0<tn)=false:=ac5 h;have gX:((tn:Int) !=0)=false:=by rw[afy];omega
   have HX:=ah h;clear h
   have aP:Hid (U=false):=by
    rw[<-HU.out,bF,aC.out,aI.out]
    exact ah (ac5 (by have:=HK.out;have:=HN.out;have:=HT.out;have:=HS.out;have:=HX.out;omega))
   go_enter Tryz.func154,Tryz.ntmps154
   go_upto_region 1 with fail
   rw[HW1.out];go_wp2_with fail;refine(HB.out _).mono ?_;rintro e w' ⟨rfl,rfl⟩;go_wp2
   go_ret;exact⟨by rw[aP.out];rfl,HB1.out⟩
  have fT:z.toList.isEmpty=true:=by
   rw[ant];exact(rX HZD.out).2 (by omega)
  have HT:=ah h;clear h;by_cases h:0<nn
  ·have fS:decide (0<nn)=true:=adb h
   have gS:((nn:Int) !=0)=true:=by rw[adY];omega
   have HS:=ah h;clear h
   have aP:Hid (U=true):=by
    rw[<-HU.out,bF,aC.out,aI.out]
    exact ah (adb (by have:=HK.out;have:=HN.out;have:=HT.out;have:=HS.out;omega))
   go_enter Tryz.func154,Tryz.ntmps154
   go_upto_region 1 with fail
   rw[HW1.out];go_wp2_with fail;refine(HB.out _).mono ?_;rintro e w' ⟨rfl,rfl⟩;go_wp2
   go_ret;exact⟨by rw[aP.out];rfl,HB1.out⟩
  have fS:decide (0<nn)=false:=ac5 h;have gS:((nn:Int) !=0)=false:=by rw[afy];omega
  have HS:=ah h;clear h;by_cases h:0<tn
  ·have fX:decide (0<tn)=true:=adb h
   have gX:((tn:Int) !=0)=true:=by rw[adY];omega
   have HX:=ah h;clear h
   have aP:Hid (U=true):=by
    rw[<-HU.out,bF,aC.out,aI.out]
    exact ah (adb (by have:=HK.out;have:=HN.out;have:=HT.out;have:=HS.out;have:=HX.out;omega))
   go_enter Tryz.func154,Tryz.ntmps154
   go_upto_region 1 with fail
   rw[HW1.out];go_wp2_with fail;refine(HB.out _).mono ?_;rintro e w' ⟨rfl,rfl⟩;go_wp2
   go_ret;exact⟨by rw[aP.out];rfl,HB1.out⟩
  have fX:decide (0<tn)=false:=ac5 h;have gX:((tn:Int) !=0)=false:=by rw[afy];omega
  have HX:=ah h;clear h
  have aP:Hid (U=false):=by
   rw[<-HU.out,bF,aC.out,aI.out]
   exact ah (ac5 (by have:=HK.out;have:=HN.out;have:=HT.out;have:=HS.out;have:=HX.out;omega))
  go_enter Tryz.func154,Tryz.ntmps154
  go_upto_region 1 with fail
  rw[HW1.out];go_wp2_with fail;refine(HB.out _).mono ?_;rintro e w' ⟨rfl,rfl⟩;go_wp2
  go_ret;exact⟨by rw[aP.out];rfl,HB1.out⟩
 by_cases hk:k0<8
 ·have HK:Hid (1<=k0/\4<k0/\k0<8):=ah ⟨hlo,by omega,hk⟩
  have hcb:ak.gV k0=k0 - 4:=by unfold ak.gV;rw[adk (by omega)]
  rw[hcb]at hb;obtain⟨c,hc⟩:=aj (k0 - 4:Int);rw[hc]at hb;have HB:=ah hb
  have fc:(c == 4)=false:=adh.2 (by omega)
  have fl:decide (4<k0)=true:=adb (by omega)
  have fl':4<k0:=by omega
  clear hb hcb hc hlo hhi hk;by_cases h:n0≠0
  ·have fN:(n0 !=0)=true:=adY.2 h
   have HN:=ah h;clear h
   have aP:Hid (U=true):=by
    rw[<-HU.out,bF,aC.out,aI.out];exact ah (adb (by have:=HK.out;have:=HN.out;omega))
   go_enter Tryz.func154,Tryz.ntmps154
   go_upto_region 1 with fail
   rw[HW1.out];go_wp2_with fail;refine(HB.out _).mono ?_;rintro e w' ⟨rfl,rfl⟩;go_wp2
   go_ret;exact⟨by rw[aP.out];rfl,HB1.out⟩
  have fN:(n0 !=0)=false:=by simpa using h
  have HN:=ah h;clear h;by_cases h:t0.length≠0
  ·have fT:z.toList.isEmpty=false:=by
    rw[af4];exact fun e=>h ((rX HZD.out).1 e)
   have HT:=ah h;clear h
   have aP:Hid (U=true):=by
    rw[<-HU.out,bF,aC.out,aI.out]
    exact ah (adb (by have:=HK.out;have:=HN.out;have:=HT.out;omega))
   go_enter Tryz.func154,Tryz.ntmps154
   go_upto_region 1 with fail
   rw[HW1.out];go_wp2_with fail;refine(HB.out _).mono ?_;rintro e w' ⟨rfl,rfl⟩;go_wp2
   go_ret;exact⟨by rw[aP.out];rfl,HB1.out⟩
  have fT:z.toList.isEmpty=true:=by
   rw[ant];exact(rX HZD.out).2 (by omega)
  have HT:=ah h;clear h;by_cases h:0<nn
  ·have fS:decide (0<nn)=true:=adb h
   have gS:((nn:Int) !=0)=true:=by rw[adY];omega
   have HS:=ah h;clear h;by_cases h:0<tn
   ·have fX:decide (0<tn)=true:=adb h
    have gX:((tn:Int) !=0)=true:=by rw[adY];omega
    have HX:=ah h;clear h
    have aP:Hid (U=true):=by
     rw[<-HU.out,bF,aC.out,aI.out]
     exact ah (adb (by have:=HK.out;have:=HN.out;have:=HT.out;have:=HS.out;have:=HX.out;omega))
    go_enter Tryz.func154,Tryz.ntmps154
    go_upto_region 1 with fail
    rw[HW1.out];go_wp2_with fail;refine(HB.out _).mono ?_;rintro e w' ⟨rfl,rfl⟩;go_wp2
    go_ret;exact⟨by rw[aP.out];rfl,HB1.out⟩
   have fX:decide (0<tn)=false:=ac5 h;have gX:((tn:Int) !=0)=false:=by rw[afy];omega
   have HX:=ah h;clear h
   have aP:Hid (U=false):=by
    rw[<-HU.out,bF,aC.out,aI.out]
    exact ah (ac5 (by have:=HK.out;have:=HN.out;have:=HT.out;have:=HS.out;have:=HX.out;omega))
   go_enter Tryz.func154,Tryz.ntmps154
   go_upto_region 1 with fail
   rw[HW1.out];go_wp2_with fail;refine(HB.out _).mono ?_;rintro e w' ⟨rfl,rfl⟩;go_wp2
   go_ret;exact⟨by rw[aP.out];rfl,HB1.out⟩
  have fS:decide (0<nn)=false:=ac5 h;have gS:((nn:Int) !=0)=false:=by rw[afy];omega
  have HS:=ah h;clear h;by_cases h:0<tn
  ·have fX:decide (0<tn)=true:=adb h
   have gX:((tn:Int) !=0)=true:=by rw[adY];omega
   have HX:=ah h;clear h
   have aP:Hid (U=true):=by
    rw[<-HU.out,bF,aC.out,aI.out]
    exact ah (adb (by have:=HK.out;have:=HN.out;have:=HT.out;have:=HS.out;have:=HX.out;omega))
   go_enter Tryz.func154,Tryz.ntmps154
   go_upto_region 1 with fail
   rw[HW1.out];go_wp2_with fail;refine(HB.out _).mono ?_;rintro e w' ⟨rfl,rfl⟩;go_wp2
   go_ret;exact⟨by rw[aP.out];rfl,HB1.out⟩
  have fX:decide (0<tn)=false:=ac5 h;have gX:((tn:Int) !=0)=false:=by rw[afy];omega
  have HX:=ah h;clear h
  have aP:Hid (U=false):=by
   rw[<-HU.out,bF,aC.out,aI.out]
   exact ah (ac5 (by have:=HK.out;have:=HN.out;have:=HT.out;have:=HS.out;have:=HX.out;omega))
  go_enter Tryz.func154,Tryz.ntmps154
  go_upto_region 1 with fail
  rw[HW1.out];go_wp2_with fail;refine(HB.out _).mono ?_;rintro e w' ⟨rfl,rfl⟩;go_wp2
  go_ret;exact⟨by rw[aP.out];rfl,HB1.out⟩
 have HK:Hid (k0=8):=ah (by omega)
 have hcb:ak.gV k0=4:=by unfold ak.gV;rw[adk (by omega)];omega
 rw[hcb]at hb;obtain⟨c,hc⟩:=aj (4:Int);rw[hc]at hb;have HB:=ah hb
 have fc:(c == 4)=true:=aeI.2 (by omega)
 have fl:decide (4<k0)=true:=adb (by omega)
 have fl':4<k0:=by omega
 clear hb hcb hc hlo hhi;by_cases h:n0≠0
 ·have fN:(n0 !=0)=true:=adY.2 h
  have HN:=ah h;clear h
  have aP:Hid (U=true):=by
   rw[<-HU.out,bF,aC.out,aI.out];exact ah (adb (by have:=HK.out;have:=HN.out;omega))
  go_enter Tryz.func154,Tryz.ntmps154
  go_upto_region 1 with fail
  rw[HW1.out];go_wp2_with fail;refine(HB.out _).mono ?_;rintro e w' ⟨rfl,rfl⟩;go_wp2
  go_ret;exact⟨by rw[aP.out];rfl,HB1.out⟩
 have fN:(n0 !=0)=false:=by simpa using h
 have HN:=ah h;clear h;by_cases h:t0.length≠0
 ·have fT:z.toList.isEmpty=false:=by
   rw[af4];exact fun e=>h ((rX HZD.out).1 e)
  have HT:=ah h;clear h
  have aP:Hid (U=true):=by
   rw[<-HU.out,bF,aC.out,aI.out]
   exact ah (adb (by have:=HK.out;have:=HN.out;have:=HT.out;omega))
  go_enter Tryz.func154,Tryz.ntmps154
  go_upto_region 1 with fail
  rw[HW1.out];go_wp2_with fail;refine(HB.out _).mono ?_;rintro e w' ⟨rfl,rfl⟩;go_wp2
  go_ret;exact⟨by rw[aP.out];rfl,HB1.out⟩
 have fT:z.toList.isEmpty=true:=by
  rw[ant];exact(rX HZD.out).2 (by omega)
 have HT:=ah h;clear h;by_cases h:0<nn
 ·have fS:decide (0<nn)=true:=adb h
  have gS:((nn:Int) !=0)=true:=by rw[adY];omega
  have HS:=ah h;clear h
  have aP:Hid (U=true):=by
   rw[<-HU.out,bF,aC.out,aI.out]
   exact ah (adb (by have:=HK.out;have:=HN.out;have:=HT.out;have:=HS.out;omega))
  go_enter Tryz.func154,Tryz.ntmps154
  go_upto_region 1 with fail
  rw[HW1.out];go_wp2_with fail;refine(HB.out _).mono ?_;rintro e w' ⟨rfl,rfl⟩;go_wp2
  go_ret;exact⟨by rw[aP.out];rfl,HB1.out⟩
 have fS:decide (0<nn)=false:=ac5 h;have gS:((nn:Int) !=0)=false:=by rw[afy];omega
 have HS:=ah h;clear h;by_cases h:0<tn
 ·have fX:decide (0<tn)=true:=adb h
  have gX:((tn:Int) !=0)=true:=by rw[adY];omega
  have HX:=ah h;clear h
  have aP:Hid (U=false):=by
   rw[<-HU.out,bF,aC.out,aI.out]
   exact ah (ac5 (by have:=HK.out;have:=HN.out;have:=HT.out;have:=HS.out;have:=HX.out;omega))
  go_enter Tryz.func154,Tryz.ntmps154
  go_upto_region 1 with fail
  rw[HW1.out];go_wp2_with fail;refine(HB.out _).mono ?_;rintro e w' ⟨rfl,rfl⟩;go_wp2
  go_ret;exact⟨by rw[aP.out];rfl,HB1.out⟩
 have fX:decide (0<tn)=false:=ac5 h;have gX:((tn:Int) !=0)=false:=by rw[afy];omega
 have HX:=ah h;clear h
 have aP:Hid (U=false):=by
  rw[<-HU.out,bF,aC.out,aI.out]
  exact ah (ac5 (by have:=HK.out;have:=HN.out;have:=HT.out;have:=HS.out;have:=HX.out;omega))
 go_enter Tryz.func154,Tryz.ntmps154
 go_upto_region 1 with fail
 rw[HW1.out];go_wp2_with fail;refine(HB.out _).mono ?_;rintro e w' ⟨rfl,rfl⟩;go_wp2
 go_ret;exact⟨by rw[aP.out];rfl,HB1.out⟩
theorem ahV {k n:Int} {t:List UInt8} {ns:List Int} {ts:List (List UInt8)} (h1:1<=k) (h8:k<=8) {U:Bool} (hU:decide (ak.Unused ⟨k,n,t,ns,ts⟩)=U):
  ak.check ⟨k,n,t,ns,ts⟩=if U=true then 41 else if 40<ns.length\/40<ts.length then 45 else if 1000<t.length\/ak.kP ts=true then 44 else if k<4 then ak.gJ k n else ak.mM (k - 4) ns:=by
 unfold ak.check;rw[ade (by simp only;omega),<-hU]
 simp only[aei]
theorem check_any (B:Nat) (u:Value) (v:ak.V) (w:World) (h:oV w B u v) (hB:B<=w.heap.size):
  Calls Tryz.prog 108 #[u] w fun e w'=>e=.returned (.int .i64 (ak.check v:Nat))/\Below w.heap.size w w':=by
 have hun:=fun(W:World) (hb:Below w.heap.size w W) (h1:1<=v.kind) (h8:v.kind<=8)=>ahU B u v W (h.below (hb.mono hB)) (adg hB hb.size) h1 h8
 obtain⟨A1,c1,A2,c2,rfl,dG,cO⟩:=h.ex;have hnl:=h.nl;have hsl:=h.sl
 obtain⟨hk1,hk2⟩:=h.kin;have hnum:=h.num;have xE:=h.nums;have htl:=h.tl;have hsz:=h.sz
 clear h;obtain⟨k0,n0,t0,ns,ts⟩:=v
 simp only at dG cO hnl hsl hk1 hk2 hnum xE htl hsz hun⊢
 obtain⟨R,hR⟩:=aj (ak.check ⟨k0,n0,t0,ns,ts⟩);rw[hR]
 obtain⟨U,hU⟩:=aj (decide (ak.Unused ⟨k0,n0,t0,ns,ts⟩));rw[hU]at hun
 have hcf:=fun h1 h8=>ahV (k:=k0) (n:=n0) (t:=t0) (ns:=ns) (ts:=ts) h1 h8 hU
 rw[hR]at hcf;obtain⟨nn,hnn⟩:=aj ns.length;obtain⟨tn,htn⟩:=aj ts.length
 obtain⟨z,hz⟩:=aj (⟨t0.toArray⟩:ByteArray)
 have hzs:z.size=t0.length:=by rw[<-hz];exact gq _
 rw[hnn]at dG hnl hun hcf⊢;rw[htn]at cO hsl hun hcf⊢;rw[hz]at hun⊢
 obtain⟨W1,hW1⟩:=aj (w.alloc (.cells #[.int .i64 k0,.int .i64 n0,.string z,.slice A1 nn c1,.slice A2 tn c2] 37))
 have hb1:Below w.heap.size w W1:=by rw[<-hW1];exact(Below.refl _ w).alloc (ac4 _) _
 have k1:au W1 w.heap.size 37 #[.int .i64 k0,.int .i64 n0,.string z,.slice A1 nn c1,.slice A2 tn c2]:=by rw[<-hW1];exact au.new _ _ _
 have xB:=ah (dG.below (hb1.mono hB));have xC:=ah (cO.below (hb1.mono hB))
 have HB1:=ah hb1;have HW1:=ah hW1;have sO:=ah hcf;have HUN:=ah hun;have aC:=ah hnn
 have aI:=ah htn;have uy:=ah hnum;have KH:=ah xE;have fF:=ah hsz;have HKB:=ah k1
 have HR0:=ah hR;have HUU:=ah hU;obtain⟨a0,a1,a2,a3,a4,-⟩:=aU k1
 clear dG cO hnn htn hz k1 hb1 hW1 hcf hnum xE hsz hun hU hR;have hu:=lM
 go_enter Tryz.func108,Tryz.ntmps108
 go_upto_region 1 with fail
 rw[HW1.out];clear HW1;by_cases hlo:k0<1
 ·have hr:R=40:=by rw[<-HR0.out];unfold ak.check;rw[adk (.inl hlo)]
  have HRR:=ah hr;clear hr;go_wp2;go_ret;exact⟨by rw[HRR.out];rfl,HB1.out⟩
 by_cases hhi:8<k0
 ·have hr:R=40:=by rw[<-HR0.out];unfold ak.check;rw[adk (.inr hhi)]
  have HRR:=ah hr;have t1:decide (k0<1)=false:=ac5 hlo;have t2:decide (8<k0)=true:=adb hhi
  clear hr hlo;go_wp2;go_ret;exact⟨by rw[HRR.out];rfl,HB1.out⟩
 have t1:decide (k0<1)=false:=ac5 hlo;have t2:decide (8<k0)=false:=ac5 hhi
 have hlo1:1<=k0:=by omega
 have hhi1:k0<=8:=by omega
 have hr0:=sO.out hlo1 hhi1;have HCU:=ah (HUN.out W1 HB1.out hlo1 hhi1)
 have kF:Hid (1<=k0/\k0<=8):=⟨hlo1,hhi1⟩;clear hlo hhi hk1 hk2 sO HUN HR0;go_wp2_with fail
 refine HCU.mono ?_;rintro e w2 ⟨rfl,hb2⟩;have HB2:=ah (HB1.trans (hb2.mono HB1.size))
 have aY:=ah (HKB.below hb2 HKB.lt);have hwz:=HB1.size
 have Vr:=ah (xB.out.below (hb2.mono (adg hB hwz)))
 have Vs:=ah (xC.out.below (hb2.mono (adg hB hwz)));clear hb2 a0 a1 a2 a3 a4 HCU xB xC HKB
 obtain⟨a0,a1,a2,a3,a4,-⟩:=aU aY.out;cases U with
 |true=>
  have hr:R=41:=by rw[hr0,adk rfl]
  have HRR:=ah hr;clear hr hr0;go_wp2;go_ret;exact⟨by rw[HRR.out];rfl,HB2.out⟩
 |false=>
  rw[ade (by decide)]at hr0
  have qc:=HUU.out;rw[bF,an1,aC.out,aI.out]at qc;simp only[aox]at qc
  obtain⟨u1,u2,u3,u4⟩:=qc;have IZ:=ah (⟨u1,u2,u3,u4⟩:_/\_/\_/\_);have HR1:=ah hr0
  clear u1 u2 u3 u4 hr0 HUU;by_cases kH:40<nn
  ·have hr:R=45:=by rw[HR1.out,adk (.inl kH)]
   have HRR:=ah hr;have f1:decide (40<nn)=true:=adb kH;have f1':(40:Int)<nn:=by omega
   clear hr kH;go_wp2;go_ret;exact⟨by rw[HRR.out];rfl,HB2.out⟩
  have f1:decide (40<nn)=false:=ac5 kH;have f1':(nn:Int)<=40:=by omega
  by_cases sN:40<tn
  ·have hr:R=45:=by rw[HR1.out,adk (.inr sN)]
   have HRR:=ah hr;have f2:decide (40<tn)=true:=adb sN;have f2':(40:Int)<tn:=by omega
   clear hr kH sN;go_wp2;go_ret;exact⟨by rw[HRR.out];rfl,HB2.out⟩
  have f2:decide (40<tn)=false:=ac5 sN;have f2':(tn:Int)<=40:=by omega
  have hr1:=HR1.out;rw[ade (by omega)]at hr1
  have HR2:=ah hr1;clear hr1 HR1 kH sN;by_cases htx:1000<t0.length
  ·have hr:R=44:=by rw[HR2.out,adk (.inl htx)]
   have HRR:=ah hr;have f5:decide (1000<z.size)=true:=adb (by omega)
   have f5':(1000:Int)<z.size:=by omega
   clear hr htx hzs;go_wp2;go_ret;exact⟨by rw[HRR.out];rfl,HB2.out⟩
  have f5:decide (1000<z.size)=false:=ac5 (by omega)
  have f5':(z.size:Int)<=1000:=by omega
  have hcl:=fun(W:World) (hb:Below w2.heap.size w2 W)=>ahQ B A2 tn c2 ts W (Vs.out.below (hb.mono (adg hB HB2.size))) aI.out (by omega) fF.out
  obtain⟨L,hL⟩:=aj (ak.kP ts);rw[hL]at hcl;have hr2:=HR2.out;rw[hL]at hr2
  have zH:=ah (hcl w2 (Below.refl _ _));have HL:=ah hL;clear hcl hL HR2;go_wp2_with fail
  refine zH.mono ?_;rintro e w' ⟨rfl,rfl⟩;cases L with
  |true=>
   have hr:R=44:=by rw[hr2,adk (.inr rfl)]
   have HRR:=ah hr;clear hr hr2 htx hzs;go_wp2;go_ret;exact⟨by rw[HRR.out];rfl,HB2.out⟩
  |false=>
   rw[ade (by rintro(h|h);exact htx h;cases h)]at hr2
   have HR3:=ah hr2;clear hr2 htx hzs;by_cases hk4:k0<4
   ·have hr:=HR3.out
    rw[adk hk4]at hr;have hcb:ak.gV k0=k0:=by unfold ak.gV;rw[ade (by omega)]
    have hcall:=fun(W:World)=>Zu k0 n0 W (by have:=kF.out;unfold ak.In64;omega) uy.out
    rw[hcb,<-hr]at hcall;have HC:=ah hcall;have f3:decide (k0<=3)=true:=adb (by omega)
    have f3':k0<=3:=by omega
    clear hr hcall hk4 hcb;go_wp2_with fail;refine(HC.out _).mono ?_
    rintro e w' ⟨rfl,rfl⟩;go_wp2;go_ret;exact⟨rfl,HB2.out⟩
   have f3:decide (k0<=3)=false:=ac5 (by omega)
   have f3':4<=k0:=by omega
   have hr:=HR3.out;rw[ade hk4]at hr;have HR4:=ah hr;clear hr HR3 hk4;go_wp2_with fail
   go_loopg [51] nn (fun g x wr=> ∃k:Nat,x=.int .i64 k/\k+g=nn/\w2=wr/\ ∀(j:Nat) y,j<k->ns[j]?=some y->ak.gJ (k0 - 4) y=0)
   case atStart=>exact⟨0,rfl,by omega,rfl,fun j y hj=>by omega⟩
   obtain⟨k,rfl,hk,rfl,hz⟩:=hrel;have HZ:=ah hz;have HK:=ah hk
   have Dy:(k:Int)<=40:=by omega
   clear hz;cases gk with
   |zero=>
    obtain rfl:k=nn:=by omega
    have hr:R=0:=by
     rw[HR4.out]
     exact TK (fun y hy=>by
      obtain⟨j,hj,e⟩:=afj hy
      exact HZ.out j y (by have:=aC.out;omega) (by rw[dF hj,e]))
    have HRR:=ah hr;clear hk hr;go_wp2;go_ret;exact⟨by rw[HRR.out];rfl,HB2.out⟩
   |succ g=>
    have hkn:k<nn:=by omega
    have dH:(k:Int)<nn:=by omega
    have hkl:k<ns.length:=by rw[aC.out];exact hkn
    obtain⟨p,o,x,rfl,AA,hx,hp⟩:=Vr.out.cell hkn;rw[adX,dF hkl]at hx
    obtain rfl:=(ad4 hx).symm;obtain⟨y,hy⟩:=aj (ns[k]);rw[hy]at hp;unfold I64 at hp
    have hyk:ns[k]?=some y:=by rw[dF hkl,hy]
    have h5:5<=k0:=by have:=IZ.out.2.2.1;omega
    have hcb:ak.gV k0=k0 - 4:=by unfold ak.gV;rw[adk (by omega)]
    have hcall:=fun(W:World)=>Zu k0 y W (by have:=kF.out;unfold ak.In64;omega) (KH.out y (adI hyk))
    rw[hcb]at hcall;obtain⟨er,her⟩:=aj (ak.gJ (k0 - 4) y);rw[her]at hcall
    have HC:=ah hcall;have KJ:=ah hyk;have DC:=ah her;by_cases he:er=0
    ·subst he
     clear hx hk hkl hy hyk hcall her hcb;go_wp2_with fail;refine(HC.out _).mono ?_
     rintro e w' ⟨rfl,rfl⟩;go_wp2
     go_roundg g
     case measure=>omega
     refine⟨k+1,int_eq' (by omega),by have:=HK.out;omega,rfl,fun i q hi hq=> ?_⟩
     by_cases e:i=k
     ·rw[e,KJ.out]at hq
      cases hq;exact DC.out
     exact HZ.out i q (by omega) hq
    have hr:R=er:=by rw[HR4.out];exact TL he k y KJ.out DC.out HZ.out
    have heb:((er:Int) !=0)=true:=by rw[adY];omega
    have HRR:=ah hr;clear hx hk hkl hy hyk hcall her hr he hcb;go_wp2_with fail
    refine(HC.out _).mono ?_;rintro e w' ⟨rfl,rfl⟩;go_wp2;go_ret
    exact⟨by rw[HRR.out];rfl,HB2.out⟩
end Go.Proofs.YtkdakckjafomhaaGreatDoor
namespace Go.Proofs.YtkdakckjafomhaaGreatDoor
open Go.RowKit Go.Lib
def kW (c:UInt8) (new:List UInt8) (s:List UInt8):List UInt8:=s.flatMap fun x=>if x=c then new else[x]
theorem Zw {c:UInt8} {new s:List UInt8} (h: ∀x∈s,x≠c):kW c new s=s:=by
 induction s with
 |nil=>rfl
 |cons a s ih=>
  have:=ih (fun x hx=>h x (by simp[hx]))
  unfold kW at this⊢;rw[ae2,ade (h a (by simp)),this]
  rfl
theorem ahW (c:UInt8) (new s:List UInt8):(kW c new s).length<=s.length*(new.length+1):=by
 induction s with
 |nil=>simp[kW]
 |cons a s ih=>
  have e:kW c new (a :: s)=(if a=c then new else[a])++kW c new s:=rfl
  rw[e,adf,adQ,apY,aqQ]
  split
  ·omega
  simp only[aeM];omega
theorem ahX (c:UInt8) (new:List UInt8) (n:Nat): ∀s:List UInt8,s.length<=n->replaceK [c] new (Lib.count s [c]) s=kW c new s:=by
 induction n with
 |zero=>
  intro s h;have:s=[]:=adB (by omega)
  subst this;rfl
 |succ n ih=>
  intro s h
  rcases Zd s c with⟨h1,h2⟩|⟨i,r,h1,h2,h3,h4⟩
  ·have hm:index s [c]= -1:=by rw[index_one];exact h1
   rw[count_miss hm,replaceK,Zw h2]
  have hi:index s [c]=i:=by rw[index_one];exact h1
  rw[count_hit (by simp) hi,anc 1,replaceK_hit _ _ _ _ _ hi,ih _ (by rw[aej];simp;omega)]
  have hd:s.drop (i+ [c].length)=r:=by
   rw[h2];have:(s.take i).length=i:=by rw[aeb];omega
   rw[arh,this,aeJ (by simp;omega)]
   simp
  rw[hd]
  conv=>rhs;rw[h2]
  unfold kW;rw[afG,ae2,adk rfl];have:=Zw (new:=new) h3;unfold kW at this;rw[this,aeG]
theorem Zx (s:List UInt8) (c:UInt8) (new:List UInt8) (h: [c]≠new):Lib.replaceAll s [c] new=kW c new s:=by
 unfold Lib.replaceAll Lib.replace;rw[ade (by simpa using h)]
 unfold replaceNum;rw[adk (.inl (by decide))]
 exact ahX c new _ s (ac4 _)
end Go.Proofs.YtkdakckjafomhaaGreatDoor
namespace Go.Proofs.YtkdakckjafomhaaGreatDoor
open Go.RowKit
theorem JK {n:Int} (h0: -9223372036854775808<=n) (h1:n<=9223372036854775807):(Lib.itoa n).length<=21:=by
 unfold Lib.itoa
 split
 ·rw[adQ,Num.zX]
  have:=CW 19 n.natAbs (by omega)
  omega
 rw[Num.zX];have:=CW 19 n.toNat (by omega)
 omega
theorem ahY (f:Nat):(Num.lI f).length<=14:=by
 by_cases h:f=0
 ·subst h;decide
 rw[JD h,adQ];have:=JE f;omega
theorem ahZ {f:Nat} {e:Int} (h0: -2000<=e) (h1:e<=2000):(Num.form f e).length<=23:=by
 unfold Num.form Num.fV;rw[adf,adf];have a:=ahY f
 split
 ·have b:=rW (n:= -e) (by omega) (by omega)
  simp only[adQ,ae8];omega
 have b:=rW (n:=e) (by omega) (by omega)
 simp only[adQ,ae8];omega
theorem ah0 {a:Nat} (h:a<=9218868437227405312):(Num.dV a).length<=23:=by
 unfold Num.dV
 split
 ·decide
 split
 ·decide
 rename_i h1 h2;obtain⟨p1,p2,p3,p4,p5⟩:=Num.Ov h2 (by omega)
 exact ahZ (by omega) (by omega)
theorem Zy (b:Nat):(Num.fmt b).length<=24:=by
 unfold Num.fmt
 split
 ·decide
 rename_i h;have:=ah0 (a:=b % 9223372036854775808) (by omega)
 rw[adf];cases decide (9223372036854775808<=b)<;>simp[Num.sg]<;>omega
theorem Zz {b:Nat} (h:b<18446744073709551616):IntKind.i64.wrap (b:Int)=ak.Aj b:=by
 rw[IntKind.wrap_i64];unfold ak.Aj
 split<;>omega
theorem ZA (k n:Int) (w:World) (hk1:1<=k) (hk3:k<=3) (hn:ak.In64 n) (hw:ak.gJ k n=0) (hL:Laid w):
  Calls Tryz.prog 109 #[.int .i64 k,.int .i64 n] w fun e w'=>e=.returned (.string ⟨(ak.gK k n).toArray⟩)/\Below w.heap.size w w':=by
 obtain⟨R,hR⟩:=aj (ak.gK k n);rw[hR];unfold ak.gK at hR;by_cases h1:k=1
 ·subst h1
  rw[ade (by omega),ade (by omega)]at hR
  by_cases h01:n=1
  ·subst h01
   rw[ade (by omega)]at hR
   subst hR;clear hw hL hn hk1 hk3;go_enter Tryz.func109,Tryz.ntmps109;go_wp2;go_ret
   exact⟨rfl,Below.refl _ _⟩
  have h0:n=0:=by
   unfold ak.gJ at hw;by_cases h9:n=0
   ·exact h9
   rw[adk ⟨rfl,h9,h01⟩]at hw;omega
  subst h0;rw[adk rfl]at hR;subst hR;clear hw hL hn hk1 hk3
  go_enter Tryz.func109,Tryz.ntmps109;go_wp2;go_ret;exact⟨rfl,Below.refl _ _⟩
 by_cases h2:k=2
 ·subst h2
  rw[adk rfl]at hR;have hc:=Y9 n w hn.1 hn.2 hL;rw[hR]at hc;have HC:=ah hc
  clear hw hL hn hk1 hk3 hc hR h1;go_enter Tryz.func109,Tryz.ntmps109;go_wp2_with fail
  refine HC.mono ?_;rintro e w1 ⟨rfl,hb⟩;have HB:=ah hb;clear hb;go_wp2;go_ret
  exact⟨rfl,HB.out⟩
 obtain rfl:k=3:=by omega
 rw[ade (by omega),adk rfl]at hR
 have hc:=ahs (ak.u64 n) w (ak.EM n) hL;rw[hR]at hc;have hwr:=O4 n
 obtain⟨b,hb⟩:=aj (ak.u64 n);rw[hb]at hc hwr;have HC:=ah hc;have hu:=lM
 clear hw hL hn hk1 hk3 hc hR h1 h2 hb;go_enter Tryz.func109,Tryz.ntmps109
 go_wp2_with fail;refine HC.mono ?_;rintro e w1 ⟨rfl,hb⟩;have HB:=ah hb;clear hb;go_wp2
 go_ret;exact⟨rfl,HB.out⟩
def ZB (x:Int×Nat) (w:World) (e:Ending) (w':World):Prop:=e=.returned (.tuple #[.int .i64 x.1,.int .i64 x.2])/\Below w.heap.size w w'
theorem ZC (k:Int) (s:ByteArray) (w:World) (hk1:1<=k) (hk3:k<=3) (hs:s.size<=1073741824) (hL:Laid w):
  Calls Tryz.prog 122 #[.int .i64 k,.string s] w (ZB (ak.fZ k s.data.toList) w):=by
 obtain⟨R,hR⟩:=aj (ak.fZ k s.data.toList);rw[hR];unfold ak.fZ at hR;by_cases h1:k=1
 ·subst h1
  rw[adk rfl]at hR;by_cases ht:s.data.toList=ak.TRUE
  ·have t1:(s.toList ==[116,114,117,101])=true:=by rw[Lib.toList_data,ht];rfl
   rw[adk ht]at hR;subst hR;clear hL hs hk1 hk3 ht;go_enter Tryz.func122,Tryz.ntmps122
   go_wp2
   go_ret2
   exact⟨rfl,Below.refl _ _⟩
  have t1:(s.toList ==[116,114,117,101])=false:=by rw[Lib.toList_data];exact adh.2 ht
  rw[ade ht]at hR;by_cases hf:s.data.toList=ak.FALSE
  ·have t2:(s.toList ==[102,97,108,115,101])=true:=by rw[Lib.toList_data,hf];rfl
   rw[adk hf]at hR;subst hR;clear hL hs hk1 hk3 ht hf
   go_enter Tryz.func122,Tryz.ntmps122;go_wp2
   go_ret2
   exact⟨rfl,Below.refl _ _⟩
  have t2:(s.toList ==[102,97,108,115,101])=false:=by rw[Lib.toList_data];exact adh.2 hf
  rw[ade hf]at hR;subst hR;clear hL hs hk1 hk3 ht hf;go_enter Tryz.func122,Tryz.ntmps122
  go_wp2
  go_ret2
  exact⟨rfl,Below.refl _ _⟩
 by_cases h2:k=2
 ·subst h2
  rw[ade h1,adk rfl]at hR;have hc:=Za s w hs hL;rw[hR]at hc;obtain⟨x,y⟩:=R
  have HC:=ah hc;clear hL hs hk1 hk3 hc hR h1;go_enter Tryz.func122,Tryz.ntmps122
  go_wp2_with fail;refine HC.mono ?_;rintro e w1 ⟨rfl,hb⟩;have HB:=ah hb;clear hb;go_wp2
  go_ret2
  exact⟨rfl,HB.out⟩
 obtain rfl:k=3:=by omega
 rw[ade (by omega),ade (by omega)]at hR
 have hc:=ahH s w hs hL;cases hp:Num.parse s.data.toList with
 |none=>
  rw[hp]at hR hc;subst hR;have hwr:IntKind.i64.wrap 0=0:=by decide
  have hc2:=hc.mono (R:=fun e w'=>e=.returned (.tuple #[.int .u64 0,.int .i64 52])/\Below w.heap.size w w') (fun e w' h=>h)
  have HC:=ah hc2;have hu:=lM;clear hL hs hk1 hk3 hc hc2 h1 h2 hp
  go_enter Tryz.func122,Tryz.ntmps122;go_wp2_with fail;refine HC.mono ?_
  rintro e w1 ⟨rfl,hb⟩;have HB:=ah hb;clear hb;go_wp2
  go_ret2
  exact⟨rfl,HB.out⟩
 |some b=>
  rw[hp]at hR hc;subst hR;obtain⟨-,hlt,-⟩:=Num.OA hp;have hwr:=Zz hlt
  have hc2:=hc.mono (R:=fun e w'=>e=.returned (.tuple #[.int .u64 b,.int .i64 0])/\Below w.heap.size w w') (fun e w' h=>h)
  have HC:=ah hc2;have hu:=lM;clear hL hs hk1 hk3 hc hc2 h1 h2 hp hlt
  go_enter Tryz.func122,Tryz.ntmps122;go_wp2_with fail;refine HC.mono ?_
  rintro e w1 ⟨rfl,hb⟩;have HB:=ah hb;clear hb;go_wp2
  go_ret2
  exact⟨rfl,HB.out⟩
theorem ZE: ∀t:List UInt8,kW 59 [92,59] (kW 92 [92,92] t)=ak.iw t
 |[]=>rfl
 |c :: t=>by
  have ih:=ZE t
  have e: ∀(a:UInt8) (l:List UInt8),kW 59 [92,59] (a :: l)=(if a=59 then[92,59] else[a])++kW 59 [92,59] l:=fun a l=>rfl
  have e2:kW 92 [92,92] (c :: t)=(if c=92 then[92,92] else[c])++kW 92 [92,92] t:=rfl
  unfold ak.iw;rw[e2];by_cases h1:c=92
  ·subst h1
   rw[adk rfl,adk (.inl rfl),afq,afq,aex,e,e,ih];rfl
  rw[ade h1,afq,aex,e,ih];by_cases h2:c=59
  ·subst h2
   rw[adk rfl,adk (.inr rfl)];rfl
  rw[ade h2,ade (fun h=>h.elim h1 h2)]
  rfl
theorem ZF (t:List UInt8):(ak.iw t).length<=2*t.length:=by
 induction t with
 |nil=>simp[ak.iw]
 |cons c t ih=>
  unfold ak.iw
  split
  ·simp only[adQ];omega
  simp only[adQ];omega
theorem ZG (t:List UInt8) (c d:UInt8) (w:World) (ht:t.length<=100000) (hL:Laid w):
  Calls Tryz.prog 71 #[.string ⟨t.toArray⟩,.string ⟨#[c]⟩,.string ⟨#[92,d]⟩] w fun e w'=>e=.returned (.string ⟨(kW c [92,d] t).toArray⟩)/\Below w.heap.size w w':=by
 obtain⟨m,hm⟩:=hL.max
 have h2:(⟨t.toArray⟩:ByteArray).size=t.length:=by simp[ByteArray.size]
 exact(Tryz.strings_ReplaceAll ⟨t.toArray⟩ ⟨#[c]⟩ ⟨#[92,d]⟩ m w (by rw[h2];omega) hm (ac4 1) (by
  have:=Lib.countB_le (⟨#[c]⟩:ByteArray) (ac4 1) (⟨t.toArray⟩:ByteArray).size ⟨t.toArray⟩ (ac4 _)
  have h3:(⟨#[92,d]⟩:ByteArray).size=2:=rfl;rw[h2]at this⊢;rw[h3]
  omega)).mono fun e w' ⟨h1,h2⟩=>⟨by
   rw[h1]
   have:Lib.replaceAll (⟨t.toArray⟩:ByteArray).data.toList (⟨#[c]⟩:ByteArray).data.toList (⟨#[92,d]⟩:ByteArray).data.toList=kW c [92,d] t:=Zx t c [92,d] (by simp)
   rw[this],h2⟩
theorem ah1 (t:List UInt8) (w:World) (ht:t.length<=10000) (hL:Laid w):
  Calls Tryz.prog 110 #[.string ⟨t.toArray⟩] w fun e w'=>e=.returned (.string ⟨(ak.iw t).toArray⟩)/\Below w.heap.size w w':=by
 have hl:=ahW 92 [92,92] t;have h1:=ZG t 92 92 w (by omega) hL
 have h2:=fun(W:World) (hb:Below w.heap.size w W)=>ZG (kW 92 [92,92] t) 59 59 W (by simp only[adQ,ae8]at hl;omega) (hL.below hb)
 rw[ZE]at h2;have H1:=ah h1;have H2:=ah h2;obtain⟨z,hz⟩:=aj (⟨t.toArray⟩:ByteArray)
 obtain⟨y,hy⟩:=aj (⟨(kW 92 [92,92] t).toArray⟩:ByteArray);rw[hz]at H1⊢;rw[hy]at H1 H2
 clear h1 h2 hl hL ht hz hy;go_enter Tryz.func110,Tryz.ntmps110;go_wp2_with fail
 refine H1.mono ?_;rintro e w1 ⟨rfl,hb⟩;have HB1:=ah hb;clear hb;go_wp2_with fail
 refine(H2.out w1 HB1.out).mono ?_;rintro e w2 ⟨rfl,hb⟩
 have HB2:=ah (HB1.trans (hb.mono HB1.size));clear hb;go_wp2;go_ret;exact⟨rfl,HB2.out⟩
def JL:Option (Int×List UInt8)->Value
 |none=> .tuple #[.int .i64 0,.string ⟨#[]⟩,.bool false]
 |some (k,r)=> .tuple #[.int .i64 k,.string ⟨r.toArray⟩,.bool true]
theorem ah2: ∀c:Fin 256,Lib.indexByte [98,105,102,115] (UInt8.ofNat c.val)=ak.kindOf (UInt8.ofNat c.val) - 1:=by decide+kernel
theorem ah3 (c:UInt8):Lib.indexByte [98,105,102,115] c=ak.kindOf c - 1:=by
 have:=ah2 ⟨c.toNat,anZ c⟩;simp only[aqP]at this;exact this
theorem ah4 (c:UInt8):0<=ak.kindOf c/\ak.kindOf c<=4:=by
 unfold ak.kindOf
 repeat' split
 all_goals omega
theorem extract_drop (s:ByteArray) (a:Nat):(s.extract a s.size).data.toList=s.data.toList.drop a:=by
 rw[Lib.extract_data,ado];rw[Lib.size_eq];simp
theorem O5 (l p:List UInt8):Lib.trimPrefix l p=if Lib.hasPrefix l p=true then l.drop p.length else l:=rfl
theorem ah5 (c:UInt8) (r:List UInt8):
  ak.dK (c :: r)=if ak.kindOf c=0\/Lib.hasPrefix (Lib.trimPrefix r [91,93]) [58]=false then none else some (ak.kindOf c+(if Lib.hasPrefix r [91,93]=true then 4 else 0),Lib.trimPrefix (Lib.trimPrefix r [91,93]) [58]):=by
 simp only[ak.dK];cases hp:Lib.hasPrefix r [91,93] with
 |true=>
  have e:Lib.trimPrefix r [91,93]=r.drop 2:=by rw[O5,hp];rfl
  rw[e];cases hq:Lib.hasPrefix (r.drop 2) [58] with
  |true=>
   have e2:Lib.trimPrefix (r.drop 2) [58]=r.drop 3:=by rw[O5,hq,adk rfl,am3];rfl
   rw[e2];simp
  |false=>simp
 |false=>
  have e:Lib.trimPrefix r [91,93]=r:=by rw[O5,hp];rfl
  rw[e];cases hq:Lib.hasPrefix r [58] with
  |true=>
   have e2:Lib.trimPrefix r [58]=r.drop 1:=by rw[O5,hq];rfl
   rw[e2];simp
  |false=>simp
theorem ah6 (s:ByteArray) (w:World) (hs:s.size<=1073741824):
  Calls Tryz.prog 120 #[.string s] w fun e w'=>e=.returned (JL (ak.dK s.data.toList))/\w=w':=by
 obtain⟨R,hR⟩:=aj (ak.dK s.data.toList);rw[hR];cases hl:s.data.toList with
 |nil=>
  have t0:(s.toList ==[])=true:=by rw[Lib.toList_data,hl];rfl
  rw[hl]at hR;obtain rfl:R=none:=hR.symm;clear hR hl hs
  go_enter Tryz.func120,Tryz.ntmps120;go_wp2
  go_ret3
  exact⟨rfl,rfl⟩
 |cons c r=>
  have t0:(s.toList ==[])=false:=by rw[Lib.toList_data,hl];rfl
  have hlen:s.data.toList.length=r.length+1:=by rw[hl];rfl
  rw[<-Lib.size_eq]at hlen;have h0:0<s.size:=by omega
  have hc:s[0]'h0=c:=by
   have:=Zo h0;rw[hl]at this;exact(ad4 this).symm
  have hx:(s.extract 1 s.size).data.toList=r:=by rw[extract_drop,hl];rfl
  rw[hl,ah5]at hR;obtain⟨d,hd⟩:=aj (ak.kindOf c);have hdr:=ah4 c
  have hib:=fun(W:World)=>Tryz.strings_IndexByte ⟨#[98,105,102,115]⟩ ((s[0]'h0).toNat:Int) W
  have eib:Lib.indexByte (⟨#[98,105,102,115]⟩:ByteArray).data.toList ((((s[0]'h0).toNat:Int)).toNat.toUInt8)=d - 1:=by
   rw[byte_back,hc,<-hd];exact ah3 c
  rw[eib]at hib;rw[hd]at hR hdr
  have hc1:=fun(W:World)=>Tryz.strings_CutPrefix (s.extract 1 s.size) ⟨#[91,93]⟩ W
  have e1:(⟨#[91,93]⟩:ByteArray).data.toList=[91,93]:=rfl
  have e2:(⟨#[58]⟩:ByteArray).data.toList=[58]:=rfl;rw[hx,e1]at hc1
  obtain⟨P,hP⟩:=aj (Lib.hasPrefix r [91,93])
  obtain⟨l1,hl1⟩:=aj (Lib.trimPrefix r [91,93])
  obtain⟨z1,hz1⟩:=aj (⟨l1.toArray⟩:ByteArray);rw[hP,hl1,hz1]at hc1
  have hc2:=fun(W:World)=>Tryz.strings_CutPrefix z1 ⟨#[58]⟩ W
  have adp:z1.data.toList=l1:=by rw[<-hz1]
  rw[adp,e2]at hc2;obtain⟨C,hC⟩:=aj (Lib.hasPrefix l1 [58])
  obtain⟨l2,hl2⟩:=aj (Lib.trimPrefix l1 [58])
  obtain⟨z2,hz2⟩:=aj (⟨l2.toArray⟩:ByteArray);rw[hC,hl2,hz2]at hc2
  rw[hP,hl1,hC,hl2]at hR;have HIB:=ah hib;have kV:=ah hc1;have HC2:=ah hc2
  have HZ2:=ah hz2;obtain⟨hd0,hd4⟩:=hdr;have h0i:(1:Int)<=s.size:=by omega
  have hsi:(s.size:Int)<=1073741824:=by omega
  have hr':=hR;have HR:=ah hr';have HX:=ah hx
  clear hib hc1 hc2 hz2 adp hz1 hP hC hl1 hl2 hl hx hr' hR hd eib e1 e2 hlen hc
  go_enter Tryz.func120,Tryz.ntmps120;go_wp2_with fail;refine(HIB.out _).mono ?_
  rintro e w1 ⟨rfl,rfl⟩;go_wp2_with fail;refine(kV.out _).mono ?_;rintro e w1 ⟨rfl,rfl⟩
  go_wp2_with fail;refine(HC2.out _).mono ?_;rintro e w1 ⟨rfl,rfl⟩;by_cases hd1:d=0
  ·subst hd1
   have hr:R=none:=by rw[<-HR.out,adk (.inl rfl)]
   have HRR:=ah hr;clear hr;go_wp2
   go_ret3
   exact⟨by rw[HRR.out];rfl,rfl⟩
  have t1:(d == 0)=false:=adh.2 hd1;have t2:(d - 1+1 == 0)=false:=adh.2 (by omega)
  cases C with
  |false=>
   have hr:R=none:=by rw[<-HR.out,adk (.inr rfl)]
   have HRR:=ah hr;clear hr hd1;go_wp2
   go_ret3
   exact⟨by rw[HRR.out];rfl,rfl⟩
  |true=>
   cases P with
   |false=>
    have hr:R=some (d,l2):=by rw[<-HR.out,ade (by rintro(h|h);exact hd1 h;cases h)];simp
    have HRR:=ah hr;clear hr hd1;go_wp2
    go_ret3
    exact⟨by rw[HRR.out,JL,HZ2.out];simp,rfl⟩
   |true=>
    have hr:R=some (d+4,l2):=by rw[<-HR.out,ade (by rintro(h|h);exact hd1 h;cases h)];simp
    have HRR:=ah hr;clear hr hd1;go_wp2
    go_ret3
    exact⟨by rw[HRR.out,JL,HZ2.out];congr 1,rfl⟩
end Go.Proofs.YtkdakckjafomhaaGreatDoor
