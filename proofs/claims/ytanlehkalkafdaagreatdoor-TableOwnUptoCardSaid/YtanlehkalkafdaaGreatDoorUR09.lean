/- Contracts and plain laws,part 9. -/
import Derived.Test.YtanlehkalkafdaaGreatDoorUR08
import Derived.Lib.Replace
import Derived.Lib.IndexLaws
import Derived.Lib.IndexBytes
import Derived.Lib.CountLaws
set_option maxHeartbeats 64000000
set_option maxRecDepth 1000000
set_option linter.all false
namespace Go.Proofs.YtanlehkalkafdaaGreatDoor
open Go.RowKit
theorem unused_any (B:Nat) (u:Value) (v:Cel.V) (w:World) (h:VIn w B u v) (_hB:B<=w.heap.size) (hlo:1<=v.kind) (hhi:v.kind<=8):
  Calls Tryz.prog 142 #[u] w fun e w'=>e=.returned (.bool (decide (Cel.Unused v)))/\Below w.heap.size w w':=by
 obtain⟨A1,c1,A2,c2,rfl,-,-⟩:=h.ex;have hnl:=h.nl;have hsl:=h.sl
 have hb:=fun(W:World)=>base_any v.kind W h.kin
 clear h;obtain⟨k0,n0,t0,ns,ts⟩:=v;simp only at hnl hsl hlo hhi hb⊢
 obtain⟨U,hU⟩:=aj (decide (Cel.Unused ⟨k0,n0,t0,ns,ts⟩));rw[hU]
 obtain⟨nn,hnn⟩:=aj ns.length;obtain⟨tn,htn⟩:=aj ts.length
 obtain⟨z,hz⟩:=aj (⟨t0.toArray⟩:ByteArray);have hzd:z.data.toList=t0:=by rw[<-hz]
 rw[hnn]at hnl⊢;rw[htn]at hsl⊢;rw[hz]
 obtain⟨W1,hW1⟩:=aj (w.alloc (.cells #[.int .i64 k0,.int .i64 n0,.string z,.slice A1 nn c1,.slice A2 tn c2] 51))
 have hb1:Below w.heap.size w W1:=by rw[<-hW1];exact(Below.refl _ w).alloc (rM _) _
 have k1:Blk W1 w.heap.size 51 #[.int .i64 k0,.int .i64 n0,.string z,.slice A1 nn c1,.slice A2 tn c2]:=by rw[<-hW1];exact Blk.new _ _ _
 have HB1:=ah hb1;have HW1:=ah hW1;have HNN:=ah hnn;have HTN:=ah htn;have HZD:=ah hzd
 have HU:=ah hU;obtain⟨a0,a1,a2,a3,a4,-⟩:=val_cells k1;have hu:=undef_no
 clear hnn htn hz k1 hb1 hW1 hzd hU;by_cases hk:k0<4
 ·have HK:Hid (1<=k0/\k0<4):=ah ⟨hlo,by omega⟩
  have hcb:Cel.cbase k0=k0:=by unfold Cel.cbase;rw[rU (by omega)]
  rw[hcb]at hb;have HB:=ah hb;have fc:(k0 == 4)=false:=rX.2 (by omega)
  have hc:=trivial;have fl:decide (4<k0)=false:=rO (by omega)
  have fl':k0<=4:=by omega
  clear hb hcb hc hlo hhi hk;by_cases h:n0≠0
  ·have fN:(n0 !=0)=true:=tH.2 h
   have HN:=ah h;clear h;by_cases h:t0.length≠0
   ·have fT:z.toList.isEmpty=false:=by
     rw[vT];exact fun e=>h ((empty_len HZD.out).1 e)
    have HT:=ah h;clear h
    have HU2:Hid (U=true):=by
     rw[<-HU.out,unused_len,HNN.out,HTN.out]
     exact ah (rQ (by have:=HK.out;have:=HN.out;have:=HT.out;omega))
    go_enter Tryz.func142,Tryz.ntmps142
    go_upto_region 1 with fail
    rw[HW1.out];go_wp2_with fail;refine(HB.out _).mono ?_;rintro e w' ⟨rfl,rfl⟩;go_wp2
    go_ret;exact⟨by rw[HU2.out];rfl,HB1.out⟩
   have fT:z.toList.isEmpty=true:=by
    rw[xE];exact(empty_len HZD.out).2 (by omega)
   have HT:=ah h;clear h;by_cases h:0<nn
   ·have fS:decide (0<nn)=true:=rQ h
    have gS:((nn:Int) !=0)=true:=by rw[tH];omega
    have HS:=ah h;clear h
    have HU2:Hid (U=true):=by
     rw[<-HU.out,unused_len,HNN.out,HTN.out]
     exact ah (rQ (by have:=HK.out;have:=HN.out;have:=HT.out;have:=HS.out;omega))
    go_enter Tryz.func142,Tryz.ntmps142
    go_upto_region 1 with fail
    rw[HW1.out];go_wp2_with fail;refine(HB.out _).mono ?_;rintro e w' ⟨rfl,rfl⟩;go_wp2
    go_ret;exact⟨by rw[HU2.out];rfl,HB1.out⟩
   have fS:decide (0<nn)=false:=rO h;have gS:((nn:Int) !=0)=false:=by rw[vk];omega
   have HS:=ah h;clear h;by_cases h:0<tn
   ·have fX:decide (0<tn)=true:=rQ h
    have gX:((tn:Int) !=0)=true:=by rw[tH];omega
    have HX:=ah h;clear h
    have HU2:Hid (U=true):=by
     rw[<-HU.out,unused_len,HNN.out,HTN.out]
     exact ah (rQ (by have:=HK.out;have:=HN.out;have:=HT.out;have:=HS.out;have:=HX.out;omega))
    go_enter Tryz.func142,Tryz.ntmps142
    go_upto_region 1 with fail
    rw[HW1.out];go_wp2_with fail;refine(HB.out _).mono ?_;rintro e w' ⟨rfl,rfl⟩;go_wp2
    go_ret;exact⟨by rw[HU2.out];rfl,HB1.out⟩
   have fX:decide (0<tn)=false:=rO h;have gX:((tn:Int) !=0)=false:=by rw[vk];omega
   have HX:=ah h;clear h
   have HU2:Hid (U=false):=by
    rw[<-HU.out,unused_len,HNN.out,HTN.out]
    exact ah (rO (by have:=HK.out;have:=HN.out;have:=HT.out;have:=HS.out;have:=HX.out;omega))
   go_enter Tryz.func142,Tryz.ntmps142
   go_upto_region 1 with fail
   rw[HW1.out];go_wp2_with fail;refine(HB.out _).mono ?_;rintro e w' ⟨rfl,rfl⟩;go_wp2
   go_ret;exact⟨by rw[HU2.out];rfl,HB1.out⟩
  have fN:(n0 !=0)=false:=by simpa using h
  have HN:=ah h;clear h;by_cases h:t0.length≠0
  ·have fT:z.toList.isEmpty=false:=by
    rw[vT];exact fun e=>h ((empty_len HZD.out).1 e)
   have HT:=ah h;clear h
   have HU2:Hid (U=true):=by
    rw[<-HU.out,unused_len,HNN.out,HTN.out]
    exact ah (rQ (by have:=HK.out;have:=HN.out;have:=HT.out;omega))
   go_enter Tryz.func142,Tryz.ntmps142
   go_upto_region 1 with fail
   rw[HW1.out];go_wp2_with fail;refine(HB.out _).mono ?_;rintro e w' ⟨rfl,rfl⟩;go_wp2
   go_ret;exact⟨by rw[HU2.out];rfl,HB1.out⟩
  have fT:z.toList.isEmpty=true:=by
   rw[xE];exact(empty_len HZD.out).2 (by omega)
  have HT:=ah h;clear h;by_cases h:0<nn
  ·have fS:decide (0<nn)=true:=rQ h
   have gS:((nn:Int) !=0)=true:=by rw[tH];omega
   have HS:=ah h;clear h
   have HU2:Hid (U=true):=by
    rw[<-HU.out,unused_len,HNN.out,HTN.out]
    exact ah (rQ (by have:=HK.out;have:=HN.out;have:=HT.out;have:=HS.out;omega))
   go_enter Tryz.func142,Tryz.ntmps142
   go_upto_region 1 with fail
   rw[HW1.out];go_wp2_with fail;refine(HB.out _).mono ?_;rintro e w' ⟨rfl,rfl⟩;go_wp2
   go_ret;exact⟨by rw[HU2.out];rfl,HB1.out⟩
  have fS:decide (0<nn)=false:=rO h;have gS:((nn:Int) !=0)=false:=by rw[vk];omega
  have HS:=ah h;clear h;by_cases h:0<tn
  ·have fX:decide (0<tn)=true:=rQ h
   have gX:((tn:Int) !=0)=true:=by rw[tH];omega
   have HX:=ah h;clear h
   have HU2:Hid (U=true):=by
    rw[<-HU.out,unused_len,HNN.out,HTN.out]
    exact ah (rQ (by have:=HK.out;have:=HN.out;have:=HT.out;have:=HS.out;have:=HX.out;omega))
   go_enter Tryz.func142,Tryz.ntmps142
   go_upto_region 1 with fail
   rw[HW1.out];go_wp2_with fail;refine(HB.out _).mono ?_;rintro e w' ⟨rfl,rfl⟩;go_wp2
   go_ret;exact⟨by rw[HU2.out];rfl,HB1.out⟩
  have fX:decide (0<tn)=false:=rO h;have gX:((tn:Int) !=0)=false:=by rw[vk];omega
  have HX:=ah h;clear h
  have HU2:Hid (U=false):=by
   rw[<-HU.out,unused_len,HNN.out,HTN.out]
   exact ah (rO (by have:=HK.out;have:=HN.out;have:=HT.out;have:=HS.out;have:=HX.out;omega))
  go_enter Tryz.func142,Tryz.ntmps142
  go_upto_region 1 with fail
  rw[HW1.out];go_wp2_with fail;refine(HB.out _).mono ?_;rintro e w' ⟨rfl,rfl⟩;go_wp2
  go_ret;exact⟨by rw[HU2.out];rfl,HB1.out⟩
 by_cases hk:k0=4
 ·have HK:Hid (1<=k0/\k0=4):=ah ⟨hlo,by omega⟩
  have hcb:Cel.cbase k0=4:=by unfold Cel.cbase;rw[rU (by omega)];omega
  rw[hcb]at hb;obtain⟨c,hc⟩:=aj (4:Int);rw[hc]at hb;have HB:=ah hb
  have fc:(c == 4)=true:=uw.2 (by omega)
  have fl:decide (4<k0)=false:=rO (by omega)
  have fl':k0<=4:=by omega
  clear hb hcb hc hlo hhi hk;by_cases h:n0≠0
  ·have fN:(n0 !=0)=true:=tH.2 h
   have HN:=ah h;clear h
   have HU2:Hid (U=true):=by
    rw[<-HU.out,unused_len,HNN.out,HTN.out]
    exact ah (rQ (by have:=HK.out;have:=HN.out;omega))
   go_enter Tryz.func142,Tryz.ntmps142
   go_upto_region 1 with fail
   rw[HW1.out];go_wp2_with fail;refine(HB.out _).mono ?_;rintro e w' ⟨rfl,rfl⟩;go_wp2
   go_ret;exact⟨by rw[HU2.out];rfl,HB1.out⟩
  have fN:(n0 !=0)=false:=by simpa using h
  have HN:=ah h;clear h;by_cases h:t0.length≠0
  ·have fT:z.toList.isEmpty=false:=by
    rw[vT];exact fun e=>h ((empty_len HZD.out).1 e)
   have HT:=ah h;clear h;by_cases h:0<nn
   ·have fS:decide (0<nn)=true:=rQ h
    have gS:((nn:Int) !=0)=true:=by rw[tH];omega
    have HS:=ah h;clear h
    have HU2:Hid (U=true):=by
     rw[<-HU.out,unused_len,HNN.out,HTN.out]
     exact ah (rQ (by have:=HK.out;have:=HN.out;have:=HT.out;have:=HS.out;omega))
    go_enter Tryz.func142,Tryz.ntmps142
    go_upto_region 1 with fail
    rw[HW1.out];go_wp2_with fail;refine(HB.out _).mono ?_;rintro e w' ⟨rfl,rfl⟩;go_wp2
    go_ret;exact⟨by rw[HU2.out];rfl,HB1.out⟩
   have fS:decide (0<nn)=false:=rO h;have gS:((nn:Int) !=0)=false:=by rw[vk];omega
   have HS:=ah h;clear h;by_cases h:0<tn
   ·have fX:decide (0<tn)=true:=rQ h
    have gX:((tn:Int) !=0)=true:=by rw[tH];omega
    have HX:=ah h;clear h
    have HU2:Hid (U=true):=by
     rw[<-HU.out,unused_len,HNN.out,HTN.out]
     exact ah (rQ (by have:=HK.out;have:=HN.out;have:=HT.out;have:=HS.out;have:=HX.out;omega))
    go_enter Tryz.func142,Tryz.ntmps142
    go_upto_region 1 with fail
    rw[HW1.out];go_wp2_with fail;refine(HB.out _).mono ?_;rintro e w' ⟨rfl,rfl⟩;go_wp2
    go_ret;exact⟨by rw[HU2.out];rfl,HB1.out⟩
   have fX:decide (0<tn)=false:=rO h;have gX:((tn:Int) !=0)=false:=by rw[vk];omega
   have HX:=ah h;clear h
   have HU2:Hid (U=false):=by
    rw[<-HU.out,unused_len,HNN.out,HTN.out]
    exact ah (rO (by have:=HK.out;have:=HN.out;have:=HT.out;have:=HS.out;have:=HX.out;omega))
   go_enter Tryz.func142,Tryz.ntmps142
   go_upto_region 1 with fail
   rw[HW1.out];go_wp2_with fail;refine(HB.out _).mono ?_;rintro e w' ⟨rfl,rfl⟩;go_wp2
   go_ret;exact⟨by rw[HU2.out];rfl,HB1.out⟩
  have fT:z.toList.isEmpty=true:=by
   rw[xE];exact(empty_len HZD.out).2 (by omega)
  have HT:=ah h;clear h;by_cases h:0<nn
  ·have fS:decide (0<nn)=true:=rQ h
   have gS:((nn:Int) !=0)=true:=by rw[tH];omega
   have HS:=ah h;clear h
   have HU2:Hid (U=true):=by
    rw[<-HU.out,unused_len,HNN.out,HTN.out]
    exact ah (rQ (by have:=HK.out;have:=HN.out;have:=HT.out;have:=HS.out;omega))
   go_enter Tryz.func142,Tryz.ntmps142
   go_upto_region 1 with fail
   rw[HW1.out];go_wp2_with fail;refine(HB.out _).mono ?_;rintro e w' ⟨rfl,rfl⟩;go_wp2
   go_ret;exact⟨by rw[HU2.out];rfl,HB1.out⟩
  have fS:decide (0<nn)=false:=rO h;have gS:((nn:Int) !=0)=false:=by rw[vk];omega
  have HS:=ah h;clear h;by_cases h:0<tn
  ·have fX:decide (0<tn)=true:=rQ h
   have gX:((tn:Int) !=0)=true:=by rw[tH];omega
   have HX:=ah h;clear h
   have HU2:Hid (U=true):=by
    rw[<-HU.out,unused_len,HNN.out,HTN.out]
    exact ah (rQ (by have:=HK.out;have:=HN.out;have:=HT.out;have:=HS.out;have:=HX.out;omega))
   go_enter Tryz.func142,Tryz.ntmps142
   go_upto_region 1 with fail
   rw[HW1.out];go_wp2_with fail;refine(HB.out _).mono ?_;rintro e w' ⟨rfl,rfl⟩;go_wp2
   go_ret;exact⟨by rw[HU2.out];rfl,HB1.out⟩
  have fX:decide (0<tn)=false:=rO h;have gX:((tn:Int) !=0)=false:=by rw[vk];omega
  have HX:=ah h;clear h
  have HU2:Hid (U=false):=by
   rw[<-HU.out,unused_len,HNN.out,HTN.out]
   exact ah (rO (by have:=HK.out;have:=HN.out;have:=HT.out;have:=HS.out;have:=HX.out;omega))
  go_enter Tryz.func142,Tryz.ntmps142
  go_upto_region 1 with fail
  rw[HW1.out];go_wp2_with fail;refine(HB.out _).mono ?_;rintro e w' ⟨rfl,rfl⟩;go_wp2
  go_ret;exact⟨by rw[HU2.out];rfl,HB1.out⟩
 by_cases hk:k0<8
 ·have HK:Hid (1<=k0/\4<k0/\k0<8):=ah ⟨hlo,by omega,hk⟩
  have hcb:Cel.cbase k0=k0 - 4:=by unfold Cel.cbase;rw[rY (by omega)]
  rw[hcb]at hb;obtain⟨c,hc⟩:=aj (k0 - 4:Int);rw[hc]at hb;have HB:=ah hb
  have fc:(c == 4)=false:=rX.2 (by omega)
  have fl:decide (4<k0)=true:=rQ (by omega)
  have fl':4<k0:=by omega
  clear hb hcb hc hlo hhi hk;by_cases h:n0≠0
  ·have fN:(n0 !=0)=true:=tH.2 h
   have HN:=ah h;clear h
   have HU2:Hid (U=true):=by
    rw[<-HU.out,unused_len,HNN.out,HTN.out]
    exact ah (rQ (by have:=HK.out;have:=HN.out;omega))
   go_enter Tryz.func142,Tryz.ntmps142
   go_upto_region 1 with fail
   rw[HW1.out];go_wp2_with fail;refine(HB.out _).mono ?_;rintro e w' ⟨rfl,rfl⟩;go_wp2
   go_ret;exact⟨by rw[HU2.out];rfl,HB1.out⟩
  have fN:(n0 !=0)=false:=by simpa using h
  have HN:=ah h;clear h;by_cases h:t0.length≠0
  ·have fT:z.toList.isEmpty=false:=by
    rw[vT];exact fun e=>h ((empty_len HZD.out).1 e)
   have HT:=ah h;clear h
   have HU2:Hid (U=true):=by
    rw[<-HU.out,unused_len,HNN.out,HTN.out]
    exact ah (rQ (by have:=HK.out;have:=HN.out;have:=HT.out;omega))
   go_enter Tryz.func142,Tryz.ntmps142
   go_upto_region 1 with fail
   rw[HW1.out];go_wp2_with fail;refine(HB.out _).mono ?_;rintro e w' ⟨rfl,rfl⟩;go_wp2
   go_ret;exact⟨by rw[HU2.out];rfl,HB1.out⟩
  have fT:z.toList.isEmpty=true:=by
   rw[xE];exact(empty_len HZD.out).2 (by omega)
  have HT:=ah h;clear h;by_cases h:0<nn
  ·have fS:decide (0<nn)=true:=rQ h
   have gS:((nn:Int) !=0)=true:=by rw[tH];omega
   have HS:=ah h;clear h;by_cases h:0<tn
   ·have fX:decide (0<tn)=true:=rQ h
    have gX:((tn:Int) !=0)=true:=by rw[tH];omega
    have HX:=ah h;clear h
    have HU2:Hid (U=true):=by
     rw[<-HU.out,unused_len,HNN.out,HTN.out]
     exact ah (rQ (by have:=HK.out;have:=HN.out;have:=HT.out;have:=HS.out;have:=HX.out;omega))
    go_enter Tryz.func142,Tryz.ntmps142
    go_upto_region 1 with fail
    rw[HW1.out];go_wp2_with fail;refine(HB.out _).mono ?_;rintro e w' ⟨rfl,rfl⟩;go_wp2
    go_ret;exact⟨by rw[HU2.out];rfl,HB1.out⟩
   have fX:decide (0<tn)=false:=rO h;have gX:((tn:Int) !=0)=false:=by rw[vk];omega
   have HX:=ah h;clear h
   have HU2:Hid (U=false):=by
    rw[<-HU.out,unused_len,HNN.out,HTN.out]
    exact ah (rO (by have:=HK.out;have:=HN.out;have:=HT.out;have:=HS.out;have:=HX.out;omega))
   go_enter Tryz.func142,Tryz.ntmps142
   go_upto_region 1 with fail
   rw[HW1.out];go_wp2_with fail;refine(HB.out _).mono ?_;rintro e w' ⟨rfl,rfl⟩;go_wp2
   go_ret;exact⟨by rw[HU2.out];rfl,HB1.out⟩
  have fS:decide (0<nn)=false:=rO h;have gS:((nn:Int) !=0)=false:=by rw[vk];omega
  have HS:=ah h;clear h;by_cases h:0<tn
  ·have fX:decide (0<tn)=true:=rQ h
   have gX:((tn:Int) !=0)=true:=by rw[tH];omega
   have HX:=ah h;clear h
   have HU2:Hid (U=true):=by
    rw[<-HU.out,unused_len,HNN.out,HTN.out]
    exact ah (rQ (by have:=HK.out;have:=HN.out;have:=HT.out;have:=HS.out;have:=HX.out;omega))
   go_enter Tryz.func142,Tryz.ntmps142
   go_upto_region 1 with fail
   rw[HW1.out];go_wp2_with fail;refine(HB.out _).mono ?_;rintro e w' ⟨rfl,rfl⟩;go_wp2
   go_ret;exact⟨by rw[HU2.out];rfl,HB1.out⟩
  have fX:decide (0<tn)=false:=rO h;have gX:((tn:Int) !=0)=false:=by rw[vk];omega
  have HX:=ah h;clear h
  have HU2:Hid (U=false):=by
   rw[<-HU.out,unused_len,HNN.out,HTN.out]
   exact ah (rO (by have:=HK.out;have:=HN.out;have:=HT.out;have:=HS.out;have:=HX.out;omega))
  go_enter Tryz.func142,Tryz.ntmps142
  go_upto_region 1 with fail
  rw[HW1.out];go_wp2_with fail;refine(HB.out _).mono ?_;rintro e w' ⟨rfl,rfl⟩;go_wp2
  go_ret;exact⟨by rw[HU2.out];rfl,HB1.out⟩
 have HK:Hid (k0=8):=ah (by omega)
 have hcb:Cel.cbase k0=4:=by unfold Cel.cbase;rw[rY (by omega)];omega
 rw[hcb]at hb;obtain⟨c,hc⟩:=aj (4:Int);rw[hc]at hb;have HB:=ah hb
 have fc:(c == 4)=true:=uw.2 (by omega)
 have fl:decide (4<k0)=true:=rQ (by omega)
 have fl':4<k0:=by omega
 clear hb hcb hc hlo hhi;by_cases h:n0≠0
 ·have fN:(n0 !=0)=true:=tH.2 h
  have HN:=ah h;clear h
  have HU2:Hid (U=true):=by
   rw[<-HU.out,unused_len,HNN.out,HTN.out]
   exact ah (rQ (by have:=HK.out;have:=HN.out;omega))
  go_enter Tryz.func142,Tryz.ntmps142
  go_upto_region 1 with fail
  rw[HW1.out];go_wp2_with fail;refine(HB.out _).mono ?_;rintro e w' ⟨rfl,rfl⟩;go_wp2
  go_ret;exact⟨by rw[HU2.out];rfl,HB1.out⟩
 have fN:(n0 !=0)=false:=by simpa using h
 have HN:=ah h;clear h;by_cases h:t0.length≠0
 ·have fT:z.toList.isEmpty=false:=by
   rw[vT];exact fun e=>h ((empty_len HZD.out).1 e)
  have HT:=ah h;clear h
  have HU2:Hid (U=true):=by
   rw[<-HU.out,unused_len,HNN.out,HTN.out]
   exact ah (rQ (by have:=HK.out;have:=HN.out;have:=HT.out;omega))
  go_enter Tryz.func142,Tryz.ntmps142
  go_upto_region 1 with fail
  rw[HW1.out];go_wp2_with fail;refine(HB.out _).mono ?_;rintro e w' ⟨rfl,rfl⟩;go_wp2
  go_ret;exact⟨by rw[HU2.out];rfl,HB1.out⟩
 have fT:z.toList.isEmpty=true:=by
  rw[xE];exact(empty_len HZD.out).2 (by omega)
 have HT:=ah h;clear h;by_cases h:0<nn
 ·have fS:decide (0<nn)=true:=rQ h
  have gS:((nn:Int) !=0)=true:=by rw[tH];omega
  have HS:=ah h;clear h
  have HU2:Hid (U=true):=by
   rw[<-HU.out,unused_len,HNN.out,HTN.out]
   exact ah (rQ (by have:=HK.out;have:=HN.out;have:=HT.out;have:=HS.out;omega))
  go_enter Tryz.func142,Tryz.ntmps142
  go_upto_region 1 with fail
  rw[HW1.out];go_wp2_with fail;refine(HB.out _).mono ?_;rintro e w' ⟨rfl,rfl⟩;go_wp2
  go_ret;exact⟨by rw[HU2.out];rfl,HB1.out⟩
 have fS:decide (0<nn)=false:=rO h;have gS:((nn:Int) !=0)=false:=by rw[vk];omega
 have HS:=ah h;clear h;by_cases h:0<tn
 ·have fX:decide (0<tn)=true:=rQ h
  have gX:((tn:Int) !=0)=true:=by rw[tH];omega
  have HX:=ah h;clear h
  have HU2:Hid (U=false):=by
   rw[<-HU.out,unused_len,HNN.out,HTN.out]
   exact ah (rO (by have:=HK.out;have:=HN.out;have:=HT.out;have:=HS.out;have:=HX.out;omega))
  go_enter Tryz.func142,Tryz.ntmps142
  go_upto_region 1 with fail
  rw[HW1.out];go_wp2_with fail;refine(HB.out _).mono ?_;rintro e w' ⟨rfl,rfl⟩;go_wp2
  go_ret;exact⟨by rw[HU2.out];rfl,HB1.out⟩
 have fX:decide (0<tn)=false:=rO h;have gX:((tn:Int) !=0)=false:=by rw[vk];omega
 have HX:=ah h;clear h
 have HU2:Hid (U=false):=by
  rw[<-HU.out,unused_len,HNN.out,HTN.out]
  exact ah (rO (by have:=HK.out;have:=HN.out;have:=HT.out;have:=HS.out;have:=HX.out;omega))
 go_enter Tryz.func142,Tryz.ntmps142
 go_upto_region 1 with fail
 rw[HW1.out];go_wp2_with fail;refine(HB.out _).mono ?_;rintro e w' ⟨rfl,rfl⟩;go_wp2
 go_ret;exact⟨by rw[HU2.out];rfl,HB1.out⟩
theorem check_forms {k n:Int} {t:List UInt8} {ns:List Int} {ts:List (List UInt8)} (h1:1<=k) (h8:k<=8) {U:Bool} (hU:decide (Cel.Unused ⟨k,n,t,ns,ts⟩)=U):
  Cel.check ⟨k,n,t,ns,ts⟩=if U=true then 41 else if 40<ns.length\/40<ts.length then 45 else if 1000<t.length\/Cel.longs ts=true then 44 else if k<4 then Cel.numWrong k n else Cel.numsWrong (k - 4) ns:=by
 unfold Cel.check;rw[rU (by simp only;omega),<-hU]
 simp only[tX]
theorem check_any (B:Nat) (u:Value) (v:Cel.V) (w:World) (h:VIn w B u v) (hB:B<=w.heap.size):
  Calls Tryz.prog 104 #[u] w fun e w'=>e=.returned (.int .i64 (Cel.check v:Nat))/\Below w.heap.size w w':=by
 have hun:=fun(W:World) (hb:Below w.heap.size w W) (h1:1<=v.kind) (h8:v.kind<=8)=>unused_any B u v W (h.below (hb.mono hB)) (rV hB hb.size) h1 h8
 obtain⟨A1,c1,A2,c2,rfl,ra1,ra2⟩:=h.ex;have hnl:=h.nl;have hsl:=h.sl
 obtain⟨hk1,hk2⟩:=h.kin;have hnum:=h.num;have hnums:=h.nums;have htl:=h.tl;have hsz:=h.sz
 clear h;obtain⟨k0,n0,t0,ns,ts⟩:=v
 simp only at ra1 ra2 hnl hsl hk1 hk2 hnum hnums htl hsz hun⊢
 obtain⟨R,hR⟩:=aj (Cel.check ⟨k0,n0,t0,ns,ts⟩);rw[hR]
 obtain⟨U,hU⟩:=aj (decide (Cel.Unused ⟨k0,n0,t0,ns,ts⟩));rw[hU]at hun
 have hcf:=fun h1 h8=>check_forms (k:=k0) (n:=n0) (t:=t0) (ns:=ns) (ts:=ts) h1 h8 hU
 rw[hR]at hcf;obtain⟨nn,hnn⟩:=aj ns.length;obtain⟨tn,htn⟩:=aj ts.length
 obtain⟨z,hz⟩:=aj (⟨t0.toArray⟩:ByteArray)
 have hzs:z.size=t0.length:=by rw[<-hz];exact size_list _
 rw[hnn]at ra1 hnl hun hcf⊢;rw[htn]at ra2 hsl hun hcf⊢;rw[hz]at hun⊢
 obtain⟨W1,hW1⟩:=aj (w.alloc (.cells #[.int .i64 k0,.int .i64 n0,.string z,.slice A1 nn c1,.slice A2 tn c2] 51))
 have hb1:Below w.heap.size w W1:=by rw[<-hW1];exact(Below.refl _ w).alloc (rM _) _
 have k1:Blk W1 w.heap.size 51 #[.int .i64 k0,.int .i64 n0,.string z,.slice A1 nn c1,.slice A2 tn c2]:=by rw[<-hW1];exact Blk.new _ _ _
 have RA1:=ah (ra1.below (hb1.mono hB));have RA2:=ah (ra2.below (hb1.mono hB))
 have HB1:=ah hb1;have HW1:=ah hW1;have HCF:=ah hcf;have HUN:=ah hun;have HNN:=ah hnn
 have HTN:=ah htn;have HNUM:=ah hnum;have HNUMS:=ah hnums;have HSZ:=ah hsz;have HKB:=ah k1
 have HR0:=ah hR;have HUU:=ah hU;obtain⟨a0,a1,a2,a3,a4,-⟩:=val_cells k1
 clear ra1 ra2 hnn htn hz k1 hb1 hW1 hcf hnum hnums hsz hun hU hR;have hu:=undef_no
 go_enter Tryz.func104,Tryz.ntmps104
 go_upto_region 1 with fail
 rw[HW1.out];clear HW1;by_cases hlo:k0<1
 ·have hr:R=40:=by rw[<-HR0.out];unfold Cel.check;rw[rY (.inl hlo)]
  have HRR:=ah hr;clear hr;go_wp2;go_ret;exact⟨by rw[HRR.out];rfl,HB1.out⟩
 by_cases hhi:8<k0
 ·have hr:R=40:=by rw[<-HR0.out];unfold Cel.check;rw[rY (.inr hhi)]
  have HRR:=ah hr;have t1:decide (k0<1)=false:=rO hlo;have t2:decide (8<k0)=true:=rQ hhi
  clear hr hlo;go_wp2;go_ret;exact⟨by rw[HRR.out];rfl,HB1.out⟩
 have t1:decide (k0<1)=false:=rO hlo;have t2:decide (8<k0)=false:=rO hhi
 have hlo1:1<=k0:=by omega
 have hhi1:k0<=8:=by omega
 have hr0:=HCF.out hlo1 hhi1;have HCU:=ah (HUN.out W1 HB1.out hlo1 hhi1)
 have HLO:Hid (1<=k0/\k0<=8):=⟨hlo1,hhi1⟩;clear hlo hhi hk1 hk2 HCF HUN HR0;go_wp2_with fail
 refine HCU.mono ?_;rintro e w2 ⟨rfl,hb2⟩;have HB2:=ah (HB1.trans (hb2.mono HB1.size))
 have HK2:=ah (HKB.below hb2 HKB.lt);have hwz:=HB1.size
 have RA1':=ah (RA1.out.below (hb2.mono (rV hB hwz)))
 have RA2':=ah (RA2.out.below (hb2.mono (rV hB hwz)))
 clear hb2 a0 a1 a2 a3 a4 HCU RA1 RA2 HKB;obtain⟨a0,a1,a2,a3,a4,-⟩:=val_cells HK2.out
 cases U with
 |true=>
  have hr:R=41:=by rw[hr0,rY rfl]
  have HRR:=ah hr;clear hr hr0;go_wp2;go_ret;exact⟨by rw[HRR.out];rfl,HB2.out⟩
 |false=>
  rw[rU (by decide)]at hr0
  have huf:=HUU.out;rw[unused_len,xP,HNN.out,HTN.out]at huf;simp only[yS]at huf
  obtain⟨u1,u2,u3,u4⟩:=huf;have HUS:=ah (⟨u1,u2,u3,u4⟩:_/\_/\_/\_);have HR1:=ah hr0
  clear u1 u2 u3 u4 hr0 HUU;by_cases h40:40<nn
  ·have hr:R=45:=by rw[HR1.out,rY (.inl h40)]
   have HRR:=ah hr;have f1:decide (40<nn)=true:=rQ h40;have f1':(40:Int)<nn:=by omega
   clear hr h40;go_wp2;go_ret;exact⟨by rw[HRR.out];rfl,HB2.out⟩
  have f1:decide (40<nn)=false:=rO h40;have f1':(nn:Int)<=40:=by omega
  by_cases h41:40<tn
  ·have hr:R=45:=by rw[HR1.out,rY (.inr h41)]
   have HRR:=ah hr;have f2:decide (40<tn)=true:=rQ h41;have f2':(40:Int)<tn:=by omega
   clear hr h40 h41;go_wp2;go_ret;exact⟨by rw[HRR.out];rfl,HB2.out⟩
  have f2:decide (40<tn)=false:=rO h41;have f2':(tn:Int)<=40:=by omega
  have hr1:=HR1.out;rw[rU (by omega)]at hr1
  have HR2:=ah hr1;clear hr1 HR1 h40 h41;by_cases htx:1000<t0.length
  ·have hr:R=44:=by rw[HR2.out,rY (.inl htx)]
   have HRR:=ah hr;have f5:decide (1000<z.size)=true:=rQ (by omega)
   have f5':(1000:Int)<z.size:=by omega
   clear hr htx hzs;go_wp2;go_ret;exact⟨by rw[HRR.out];rfl,HB2.out⟩
  have f5:decide (1000<z.size)=false:=rO (by omega)
  have f5':(z.size:Int)<=1000:=by omega
  have hcl:=fun(W:World) (hb:Below w2.heap.size w2 W)=>containsLong_any B A2 tn c2 ts W (RA2'.out.below (hb.mono (rV hB HB2.size))) HTN.out (by omega) HSZ.out
  obtain⟨L,hL⟩:=aj (Cel.longs ts);rw[hL]at hcl;have hr2:=HR2.out;rw[hL]at hr2
  have HCL:=ah (hcl w2 (Below.refl _ _));have HL:=ah hL;clear hcl hL HR2;go_wp2_with fail
  refine HCL.mono ?_;rintro e w' ⟨rfl,rfl⟩;cases L with
  |true=>
   have hr:R=44:=by rw[hr2,rY (.inr rfl)]
   have HRR:=ah hr;clear hr hr2 htx hzs;go_wp2;go_ret;exact⟨by rw[HRR.out];rfl,HB2.out⟩
  |false=>
   rw[rU (by rintro(h|h);exact htx h;cases h)]at hr2
   have HR3:=ah hr2;clear hr2 htx hzs;by_cases hk4:k0<4
   ·have hr:=HR3.out
    rw[rY hk4]at hr;have hcb:Cel.cbase k0=k0:=by unfold Cel.cbase;rw[rU (by omega)]
    have hcall:=fun(W:World)=>checkNum_any k0 n0 W (by have:=HLO.out;unfold Cel.In64;omega) HNUM.out
    rw[hcb,<-hr]at hcall;have HC:=ah hcall;have f3:decide (k0<=3)=true:=rQ (by omega)
    have f3':k0<=3:=by omega
    clear hr hcall hk4 hcb;go_wp2_with fail;refine(HC.out _).mono ?_
    rintro e w' ⟨rfl,rfl⟩;go_wp2;go_ret;exact⟨rfl,HB2.out⟩
   have f3:decide (k0<=3)=false:=rO (by omega)
   have f3':4<=k0:=by omega
   have hr:=HR3.out;rw[rU hk4]at hr;have HR4:=ah hr;clear hr HR3 hk4;go_wp2_with fail
   go_loopg [51] nn (fun g x wr=> ∃k:Nat,x=.int .i64 k/\k+g=nn/\w2=wr/\ ∀(j:Nat) y,j<k->ns[j]?=some y->Cel.numWrong (k0 - 4) y=0)
   case atStart=>exact⟨0,rfl,by omega,rfl,fun j y hj=>by omega⟩
   obtain⟨k,rfl,hk,rfl,hz⟩:=hrel;have HZ:=ah hz;have HK:=ah hk
   have hkI:(k:Int)<=40:=by omega
   clear hz;cases gk with
   |zero=>
    obtain rfl:k=nn:=by omega
    have hr:R=0:=by
     rw[HR4.out]
     exact numsWrong_zero (fun y hy=>by
      obtain⟨j,hj,e⟩:=uV hy
      exact HZ.out j y (by have:=HNN.out;omega) (by rw[ay hj,e]))
    have HRR:=ah hr;clear hk hr;go_wp2;go_ret;exact⟨by rw[HRR.out];rfl,HB2.out⟩
   |succ g=>
    have hkn:k<nn:=by omega
    have hknI:(k:Int)<nn:=by omega
    have hkl:k<ns.length:=by rw[HNN.out];exact hkn
    obtain⟨p,o,x,rfl,hpB,hx,hp⟩:=RA1'.out.cell hkn;rw[tu,ay hkl]at hx
    obtain rfl:=(tN hx).symm;obtain⟨y,hy⟩:=aj (ns[k]);rw[hy]at hp;unfold I64 at hp
    have hyk:ns[k]?=some y:=by rw[ay hkl,hy]
    have h5:5<=k0:=by have:=HUS.out.2.2.1;omega
    have hcb:Cel.cbase k0=k0 - 4:=by unfold Cel.cbase;rw[rY (by omega)]
    have hcall:=fun(W:World)=>checkNum_any k0 y W (by have:=HLO.out;unfold Cel.In64;omega) (HNUMS.out y (sK hyk))
    rw[hcb]at hcall;obtain⟨er,her⟩:=aj (Cel.numWrong (k0 - 4) y);rw[her]at hcall
    have HC:=ah hcall;have HYK:=ah hyk;have HER:=ah her;by_cases he:er=0
    ·subst he
     clear hx hk hkl hy hyk hcall her hcb;go_wp2_with fail;refine(HC.out _).mono ?_
     rintro e w' ⟨rfl,rfl⟩;go_wp2
     go_roundg g
     case measure=>omega
     refine⟨k+1,int_eq' (by omega),by have:=HK.out;omega,rfl,fun i q hi hq=> ?_⟩
     by_cases e:i=k
     ·rw[e,HYK.out]at hq
      cases hq;exact HER.out
     exact HZ.out i q (by omega) hq
    have hr:R=er:=by rw[HR4.out];exact numsWrong_at he k y HYK.out HER.out HZ.out
    have heb:((er:Int) !=0)=true:=by rw[tH];omega
    have HRR:=ah hr;clear hx hk hkl hy hyk hcall her hr he hcb;go_wp2_with fail
    refine(HC.out _).mono ?_;rintro e w' ⟨rfl,rfl⟩;go_wp2;go_ret
    exact⟨by rw[HRR.out];rfl,HB2.out⟩
end Go.Proofs.YtanlehkalkafdaaGreatDoor
namespace Go.Proofs.YtanlehkalkafdaaGreatDoor
open Go.RowKit Go.Lib
def repl1 (c:UInt8) (new:List UInt8) (s:List UInt8):List UInt8:=s.flatMap fun x=>if x=c then new else[x]
theorem repl1_none {c:UInt8} {new s:List UInt8} (h: ∀x∈s,x≠c):repl1 c new s=s:=by
 induction s with
 |nil=>rfl
 |cons a s ih=>
  have:=ih (fun x hx=>h x (by simp[hx]))
  unfold repl1 at this⊢;rw[uK,rU (h a (by simp)),this]
  rfl
theorem repl1_length (c:UInt8) (new s:List UInt8):(repl1 c new s).length<=s.length*(new.length+1):=by
 induction s with
 |nil=>simp[repl1]
 |cons a s ih=>
  have e:repl1 c new (a :: s)=(if a=c then new else[a])++repl1 c new s:=rfl
  rw[e,rP,sS,Nat.add_mul,Nat.one_mul]
  split
  ·omega
  simp only[uh];omega
theorem replaceK_one (c:UInt8) (new:List UInt8) (n:Nat): ∀s:List UInt8,s.length<=n->replaceK [c] new (Lib.count s [c]) s=repl1 c new s:=by
 induction n with
 |zero=>
  intro s h;have:s=[]:=sH (by omega)
  subst this;rfl
 |succ n ih=>
  intro s h
  rcases indexByte_take s c with⟨h1,h2⟩|⟨i,r,h1,h2,h3,h4⟩
  ·have hm:index s [c]= -1:=by rw[index_one];exact h1
   rw[count_miss hm,replaceK,repl1_none h2]
  have hi:index s [c]=i:=by rw[index_one];exact h1
  rw[count_hit (by simp) hi,x8 1,replaceK_hit _ _ _ _ _ hi,ih _ (by rw[uJ];simp;omega)]
  have hd:s.drop (i+ [c].length)=r:=by
   rw[h2];have:(s.take i).length=i:=by rw[tK];omega
   rw[List.drop_append,this,uq (by simp;omega)]
   simp
  rw[hd]
  conv=>rhs;rw[h2]
  unfold repl1;rw[vM,uK,rY rfl];have:=repl1_none (new:=new) h3;unfold repl1 at this
  rw[this,sV]
theorem replaceAll_one (s:List UInt8) (c:UInt8) (new:List UInt8) (h: [c]≠new):Lib.replaceAll s [c] new=repl1 c new s:=by
 unfold Lib.replaceAll Lib.replace;rw[rU (by simpa using h)]
 unfold replaceNum;rw[rY (.inl (by decide))]
 exact replaceK_one c new _ s (rM _)
end Go.Proofs.YtanlehkalkafdaaGreatDoor
namespace Go.Proofs.YtanlehkalkafdaaGreatDoor
open Go.RowKit
theorem itoa_len20 {n:Int} (h0: -9223372036854775808<=n) (h1:n<=9223372036854775807):(Lib.itoa n).length<=21:=by
 unfold Lib.itoa
 split
 ·rw[sS,Num.dec_len]
  have:=nDigits_le 19 n.natAbs (by omega)
  omega
 rw[Num.dec_len];have:=nDigits_le 19 n.toNat (by omega)
 omega
theorem fracS_len (f:Nat):(Num.fracS f).length<=14:=by
 by_cases h:f=0
 ·subst h;decide
 rw[fracS_trim h,sS];have:=trim_len13 f;omega
theorem form_len {f:Nat} {e:Int} (h0: -2000<=e) (h1:e<=2000):(Num.form f e).length<=23:=by
 unfold Num.form Num.expS;rw[rP,rP];have a:=fracS_len f
 split
 ·have b:=itoa_len5 (n:= -e) (by omega) (by omega)
  simp only[sS,uO];omega
 have b:=itoa_len5 (n:=e) (by omega) (by omega)
 simp only[sS,uO];omega
theorem fmtU_len {a:Nat} (h:a<=9218868437227405312):(Num.fmtU a).length<=23:=by
 unfold Num.fmtU
 split
 ·decide
 split
 ·decide
 rename_i h1 h2;obtain⟨p1,p2,p3,p4,p5⟩:=Num.nparts h2 (by omega)
 exact form_len (by omega) (by omega)
theorem fmt_len (b:Nat):(Num.fmt b).length<=24:=by
 unfold Num.fmt
 split
 ·decide
 rename_i h;have:=fmtU_len (a:=b % 9223372036854775808) (by omega)
 rw[rP];cases decide (9223372036854775808<=b)<;>simp[Num.sg]<;>omega
theorem s64_wrap {b:Nat} (h:b<18446744073709551616):IntKind.i64.wrap (b:Int)=Cel.s64 b:=by
 rw[IntKind.wrap_i64];unfold Cel.s64
 split<;>omega
theorem printNum_any (k n:Int) (w:World) (hk1:1<=k) (hk3:k<=3) (hn:Cel.In64 n) (hw:Cel.numWrong k n=0) (hL:Laid w):
  Calls Tryz.prog 105 #[.int .i64 k,.int .i64 n] w fun e w'=>e=.returned (.string ⟨(Cel.numS k n).toArray⟩)/\Below w.heap.size w w':=by
 obtain⟨R,hR⟩:=aj (Cel.numS k n);rw[hR];unfold Cel.numS at hR;by_cases h1:k=1
 ·subst h1
  rw[rU (by omega),rU (by omega)]at hR
  by_cases h01:n=1
  ·subst h01
   rw[rU (by omega)]at hR
   subst hR;clear hw hL hn hk1 hk3;go_enter Tryz.func105,Tryz.ntmps105;go_wp2;go_ret
   exact⟨rfl,Below.refl _ _⟩
  have h0:n=0:=by
   unfold Cel.numWrong at hw;by_cases h9:n=0
   ·exact h9
   rw[rY ⟨rfl,h9,h01⟩]at hw;omega
  subst h0;rw[rY rfl]at hR;subst hR;clear hw hL hn hk1 hk3
  go_enter Tryz.func105,Tryz.ntmps105;go_wp2;go_ret;exact⟨rfl,Below.refl _ _⟩
 by_cases h2:k=2
 ·subst h2
  rw[rY rfl]at hR;have hc:=fmtInt_any n w hn.1 hn.2 hL;rw[hR]at hc;have HC:=ah hc
  clear hw hL hn hk1 hk3 hc hR h1;go_enter Tryz.func105,Tryz.ntmps105;go_wp2_with fail
  refine HC.mono ?_;rintro e w1 ⟨rfl,hb⟩;have HB:=ah hb;clear hb;go_wp2;go_ret
  exact⟨rfl,HB.out⟩
 obtain rfl:k=3:=by omega
 rw[rU (by omega),rY rfl]at hR
 have hc:=fmtFloat_any (Cel.u64 n) w (Cel.u64_lt n) hL;rw[hR]at hc;have hwr:=u64_wrap n
 obtain⟨b,hb⟩:=aj (Cel.u64 n);rw[hb]at hc hwr;have HC:=ah hc;have hu:=undef_no
 clear hw hL hn hk1 hk3 hc hR h1 h2 hb;go_enter Tryz.func105,Tryz.ntmps105
 go_wp2_with fail;refine HC.mono ?_;rintro e w1 ⟨rfl,hb⟩;have HB:=ah hb;clear hb;go_wp2
 go_ret;exact⟨rfl,HB.out⟩
def NumRes (x:Int×Nat) (w:World) (e:Ending) (w':World):Prop:=e=.returned (.tuple #[.int .i64 x.1,.int .i64 x.2])/\Below w.heap.size w w'
theorem parseNum_any (k:Int) (s:ByteArray) (w:World) (hk1:1<=k) (hk3:k<=3) (hs:s.size<=1073741824) (hL:Laid w):
  Calls Tryz.prog 161 #[.int .i64 k,.string s] w (NumRes (Cel.numP k s.data.toList) w):=by
 obtain⟨R,hR⟩:=aj (Cel.numP k s.data.toList);rw[hR];unfold Cel.numP at hR
 by_cases h1:k=1
 ·subst h1
  rw[rY rfl]at hR;by_cases ht:s.data.toList=Cel.TRUE
  ·have t1:(s.toList ==[116,114,117,101])=true:=by rw[Lib.toList_data,ht];rfl
   rw[rY ht]at hR;subst hR;clear hL hs hk1 hk3 ht;go_enter Tryz.func161,Tryz.ntmps161
   go_wp2
   go_ret2
   exact⟨rfl,Below.refl _ _⟩
  have t1:(s.toList ==[116,114,117,101])=false:=by rw[Lib.toList_data];exact rX.2 ht
  rw[rU ht]at hR;by_cases hf:s.data.toList=Cel.FALSE
  ·have t2:(s.toList ==[102,97,108,115,101])=true:=by rw[Lib.toList_data,hf];rfl
   rw[rY hf]at hR;subst hR;clear hL hs hk1 hk3 ht hf;go_enter Tryz.func161,Tryz.ntmps161
   go_wp2
   go_ret2
   exact⟨rfl,Below.refl _ _⟩
  have t2:(s.toList ==[102,97,108,115,101])=false:=by rw[Lib.toList_data];exact rX.2 hf
  rw[rU hf]at hR;subst hR;clear hL hs hk1 hk3 ht hf;go_enter Tryz.func161,Tryz.ntmps161
  go_wp2
  go_ret2
  exact⟨rfl,Below.refl _ _⟩
 by_cases h2:k=2
 ·subst h2
  rw[rU h1,rY rfl]at hR;have hc:=parseInt_any s w hs hL;rw[hR]at hc;obtain⟨x,y⟩:=R
  have HC:=ah hc;clear hL hs hk1 hk3 hc hR h1;go_enter Tryz.func161,Tryz.ntmps161
  go_wp2_with fail;refine HC.mono ?_;rintro e w1 ⟨rfl,hb⟩;have HB:=ah hb;clear hb;go_wp2
  go_ret2
  exact⟨rfl,HB.out⟩
 obtain rfl:k=3:=by omega
 rw[rU (by omega),rU (by omega)]at hR
 have hc:=parseFloat_any s w hs hL;cases hp:Num.parse s.data.toList with
 |none=>
  rw[hp]at hR hc;subst hR;have hwr:IntKind.i64.wrap 0=0:=by decide
  have hc2:=hc.mono (R:=fun e w'=>e=.returned (.tuple #[.int .u64 0,.int .i64 52])/\Below w.heap.size w w') (fun e w' h=>h)
  have HC:=ah hc2;have hu:=undef_no;clear hL hs hk1 hk3 hc hc2 h1 h2 hp
  go_enter Tryz.func161,Tryz.ntmps161;go_wp2_with fail;refine HC.mono ?_
  rintro e w1 ⟨rfl,hb⟩;have HB:=ah hb;clear hb;go_wp2
  go_ret2
  exact⟨rfl,HB.out⟩
 |some b=>
  rw[hp]at hR hc;subst hR;obtain⟨-,hlt,-⟩:=Num.fmt_parse hp;have hwr:=s64_wrap hlt
  have hc2:=hc.mono (R:=fun e w'=>e=.returned (.tuple #[.int .u64 b,.int .i64 0])/\Below w.heap.size w w') (fun e w' h=>h)
  have HC:=ah hc2;have hu:=undef_no;clear hL hs hk1 hk3 hc hc2 h1 h2 hp hlt
  go_enter Tryz.func161,Tryz.ntmps161;go_wp2_with fail;refine HC.mono ?_
  rintro e w1 ⟨rfl,hb⟩;have HB:=ah hb;clear hb;go_wp2
  go_ret2
  exact⟨rfl,HB.out⟩
theorem repl_escT: ∀t:List UInt8,repl1 59 [92,59] (repl1 92 [92,92] t)=Cel.escT t
 |[]=>rfl
 |c :: t=>by
  have ih:=repl_escT t
  have e: ∀(a:UInt8) (l:List UInt8),repl1 59 [92,59] (a :: l)=(if a=59 then[92,59] else[a])++repl1 59 [92,59] l:=fun a l=>rfl
  have e2:repl1 92 [92,92] (c :: t)=(if c=92 then[92,92] else[c])++repl1 92 [92,92] t:=rfl
  unfold Cel.escT;rw[e2];by_cases h1:c=92
  ·subst h1
   rw[rY rfl,rY (.inl rfl),uG,uG,tY,e,e,ih];rfl
  rw[rU h1,uG,tY,e,ih];by_cases h2:c=59
  ·subst h2
   rw[rY rfl,rY (.inr rfl)];rfl
  rw[rU h2,rU (fun h=>h.elim h1 h2)]
  rfl
theorem escT_len (t:List UInt8):(Cel.escT t).length<=2*t.length:=by
 induction t with
 |nil=>simp[Cel.escT]
 |cons c t ih=>
  unfold Cel.escT
  split
  ·simp only[sS];omega
  simp only[sS];omega
theorem replace1_any (t:List UInt8) (c d:UInt8) (w:World) (ht:t.length<=100000) (hL:Laid w):
  Calls Tryz.prog 60 #[.string ⟨t.toArray⟩,.string ⟨#[c]⟩,.string ⟨#[92,d]⟩] w fun e w'=>e=.returned (.string ⟨(repl1 c [92,d] t).toArray⟩)/\Below w.heap.size w w':=by
 obtain⟨m,hm⟩:=hL.max
 have h2:(⟨t.toArray⟩:ByteArray).size=t.length:=by simp[ByteArray.size]
 exact(Tryz.strings_ReplaceAll ⟨t.toArray⟩ ⟨#[c]⟩ ⟨#[92,d]⟩ m w (by rw[h2];omega) hm (rM 1) (by
  have:=Lib.countB_le (⟨#[c]⟩:ByteArray) (rM 1) (⟨t.toArray⟩:ByteArray).size ⟨t.toArray⟩ (rM _)
  have h3:(⟨#[92,d]⟩:ByteArray).size=2:=rfl;rw[h2]at this⊢;rw[h3]
  omega)).mono fun e w' ⟨h1,h2⟩=>⟨by
   rw[h1]
   have:Lib.replaceAll (⟨t.toArray⟩:ByteArray).data.toList (⟨#[c]⟩:ByteArray).data.toList (⟨#[92,d]⟩:ByteArray).data.toList=repl1 c [92,d] t:=replaceAll_one t c [92,d] (by simp)
   rw[this],h2⟩
theorem celEscape_any (t:List UInt8) (w:World) (ht:t.length<=10000) (hL:Laid w):
  Calls Tryz.prog 106 #[.string ⟨t.toArray⟩] w fun e w'=>e=.returned (.string ⟨(Cel.escT t).toArray⟩)/\Below w.heap.size w w':=by
 have hl:=repl1_length 92 [92,92] t;have h1:=replace1_any t 92 92 w (by omega) hL
 have h2:=fun(W:World) (hb:Below w.heap.size w W)=>replace1_any (repl1 92 [92,92] t) 59 59 W (by simp only[sS,uO]at hl;omega) (hL.below hb)
 rw[repl_escT]at h2;have H1:=ah h1;have H2:=ah h2
 obtain⟨z,hz⟩:=aj (⟨t.toArray⟩:ByteArray)
 obtain⟨y,hy⟩:=aj (⟨(repl1 92 [92,92] t).toArray⟩:ByteArray);rw[hz]at H1⊢
 rw[hy]at H1 H2;clear h1 h2 hl hL ht hz hy;go_enter Tryz.func106,Tryz.ntmps106
 go_wp2_with fail;refine H1.mono ?_;rintro e w1 ⟨rfl,hb⟩;have HB1:=ah hb;clear hb
 go_wp2_with fail;refine(H2.out w1 HB1.out).mono ?_;rintro e w2 ⟨rfl,hb⟩
 have HB2:=ah (HB1.trans (hb.mono HB1.size));clear hb;go_wp2;go_ret;exact⟨rfl,HB2.out⟩
def headV:Option (Int×List UInt8)->Value
 |none=> .tuple #[.int .i64 0,.string ⟨#[]⟩,.bool false]
 |some (k,r)=> .tuple #[.int .i64 k,.string ⟨r.toArray⟩,.bool true]
theorem kindOf_ix_fin: ∀c:Fin 256,Lib.indexByte [98,105,102,115] (UInt8.ofNat c.val)=Cel.kindOf (UInt8.ofNat c.val) - 1:=by decide+kernel
theorem kindOf_ix (c:UInt8):Lib.indexByte [98,105,102,115] c=Cel.kindOf c - 1:=by
 have:=kindOf_ix_fin ⟨c.toNat,zX c⟩;simp only[BN]at this;exact this
theorem kindOf_range (c:UInt8):0<=Cel.kindOf c/\Cel.kindOf c<=4:=by
 unfold Cel.kindOf
 repeat' split
 all_goals omega
theorem extract_drop (s:ByteArray) (a:Nat):(s.extract a s.size).data.toList=s.data.toList.drop a:=by
 rw[Lib.extract_data,sG];rw[Lib.size_eq];simp
theorem trimPrefix_if (l p:List UInt8):Lib.trimPrefix l p=if Lib.hasPrefix l p=true then l.drop p.length else l:=rfl
theorem headP_cons (c:UInt8) (r:List UInt8):
  Cel.headP (c :: r)=if Cel.kindOf c=0\/Lib.hasPrefix (Lib.trimPrefix r [91,93]) [58]=false then none else some (Cel.kindOf c+(if Lib.hasPrefix r [91,93]=true then 4 else 0),Lib.trimPrefix (Lib.trimPrefix r [91,93]) [58]):=by
 simp only[Cel.headP];cases hp:Lib.hasPrefix r [91,93] with
 |true=>
  have e:Lib.trimPrefix r [91,93]=r.drop 2:=by rw[trimPrefix_if,hp];rfl
  rw[e];cases hq:Lib.hasPrefix (r.drop 2) [58] with
  |true=>
   have e2:Lib.trimPrefix (r.drop 2) [58]=r.drop 3:=by rw[trimPrefix_if,hq,rY rfl,y9];rfl
   rw[e2];simp
  |false=>simp
 |false=>
  have e:Lib.trimPrefix r [91,93]=r:=by rw[trimPrefix_if,hp];rfl
  rw[e];cases hq:Lib.hasPrefix r [58] with
  |true=>
   have e2:Lib.trimPrefix r [58]=r.drop 1:=by rw[trimPrefix_if,hq];rfl
   rw[e2];simp
  |false=>simp
theorem head_any (s:ByteArray) (w:World) (hs:s.size<=1073741824):
  Calls Tryz.prog 159 #[.string s] w fun e w'=>e=.returned (headV (Cel.headP s.data.toList))/\w=w':=by
 obtain⟨R,hR⟩:=aj (Cel.headP s.data.toList);rw[hR];cases hl:s.data.toList with
 |nil=>
  have t0:(s.toList ==[])=true:=by rw[Lib.toList_data,hl];rfl
  rw[hl]at hR;obtain rfl:R=none:=hR.symm;clear hR hl hs
  go_enter Tryz.func159,Tryz.ntmps159;go_wp2
  go_ret3
  exact⟨rfl,rfl⟩
 |cons c r=>
  have t0:(s.toList ==[])=false:=by rw[Lib.toList_data,hl];rfl
  have hlen:s.data.toList.length=r.length+1:=by rw[hl];rfl
  rw[<-Lib.size_eq]at hlen;have h0:0<s.size:=by omega
  have hc:s[0]'h0=c:=by
   have:=at_extract h0;rw[hl]at this;exact(tN this).symm
  have hx:(s.extract 1 s.size).data.toList=r:=by rw[extract_drop,hl];rfl
  rw[hl,headP_cons]at hR;obtain⟨d,hd⟩:=aj (Cel.kindOf c);have hdr:=kindOf_range c
  have hib:=fun(W:World)=>Tryz.strings_IndexByte ⟨#[98,105,102,115]⟩ ((s[0]'h0).toNat:Int) W
  have eib:Lib.indexByte (⟨#[98,105,102,115]⟩:ByteArray).data.toList ((((s[0]'h0).toNat:Int)).toNat.toUInt8)=d - 1:=by
   rw[byte_back,hc,<-hd];exact kindOf_ix c
  rw[eib]at hib;rw[hd]at hR hdr
  have hc1:=fun(W:World)=>Tryz.strings_CutPrefix (s.extract 1 s.size) ⟨#[91,93]⟩ W
  have e1:(⟨#[91,93]⟩:ByteArray).data.toList=[91,93]:=rfl
  have e2:(⟨#[58]⟩:ByteArray).data.toList=[58]:=rfl;rw[hx,e1]at hc1
  obtain⟨P,hP⟩:=aj (Lib.hasPrefix r [91,93])
  obtain⟨l1,hl1⟩:=aj (Lib.trimPrefix r [91,93])
  obtain⟨z1,hz1⟩:=aj (⟨l1.toArray⟩:ByteArray);rw[hP,hl1,hz1]at hc1
  have hc2:=fun(W:World)=>Tryz.strings_CutPrefix z1 ⟨#[58]⟩ W
  have hz1l:z1.data.toList=l1:=by rw[<-hz1]
  rw[hz1l,e2]at hc2;obtain⟨C,hC⟩:=aj (Lib.hasPrefix l1 [58])
  obtain⟨l2,hl2⟩:=aj (Lib.trimPrefix l1 [58])
  obtain⟨z2,hz2⟩:=aj (⟨l2.toArray⟩:ByteArray);rw[hC,hl2,hz2]at hc2
  rw[hP,hl1,hC,hl2]at hR;have HIB:=ah hib;have HC1:=ah hc1;have HC2:=ah hc2
  have HZ2:=ah hz2;obtain⟨hd0,hd4⟩:=hdr;have h0i:(1:Int)<=s.size:=by omega
  have hsi:(s.size:Int)<=1073741824:=by omega
  have hr':=hR;have HR:=ah hr';have HX:=ah hx
  clear hib hc1 hc2 hz2 hz1l hz1 hP hC hl1 hl2 hl hx hr' hR hd eib e1 e2 hlen hc
  go_enter Tryz.func159,Tryz.ntmps159;go_wp2_with fail;refine(HIB.out _).mono ?_
  rintro e w1 ⟨rfl,rfl⟩;go_wp2_with fail;refine(HC1.out _).mono ?_;rintro e w1 ⟨rfl,rfl⟩
  go_wp2_with fail;refine(HC2.out _).mono ?_;rintro e w1 ⟨rfl,rfl⟩;by_cases hd1:d=0
  ·subst hd1
   have hr:R=none:=by rw[<-HR.out,rY (.inl rfl)]
   have HRR:=ah hr;clear hr;go_wp2
   go_ret3
   exact⟨by rw[HRR.out];rfl,rfl⟩
  have t1:(d == 0)=false:=rX.2 hd1;have t2:(d - 1+1 == 0)=false:=rX.2 (by omega)
  cases C with
  |false=>
   have hr:R=none:=by rw[<-HR.out,rY (.inr rfl)]
   have HRR:=ah hr;clear hr hd1;go_wp2
   go_ret3
   exact⟨by rw[HRR.out];rfl,rfl⟩
  |true=>
   cases P with
   |false=>
    have hr:R=some (d,l2):=by rw[<-HR.out,rU (by rintro(h|h);exact hd1 h;cases h)];simp
    have HRR:=ah hr;clear hr hd1;go_wp2
    go_ret3
    exact⟨by rw[HRR.out,headV,HZ2.out];simp,rfl⟩
   |true=>
    have hr:R=some (d+4,l2):=by rw[<-HR.out,rU (by rintro(h|h);exact hd1 h;cases h)];simp
    have HRR:=ah hr;clear hr hd1;go_wp2
    go_ret3
    exact⟨by rw[HRR.out,headV,HZ2.out];congr 1,rfl⟩
end Go.Proofs.YtanlehkalkafdaaGreatDoor
