/- Contracts and plain laws,part 10. -/
import Derived.Test.YtkdakckjafomhaaGreatDoorUW09
set_option maxHeartbeats 64000000
set_option maxRecDepth 1000000
set_option linter.all false
namespace Go.Proofs.YtkdakckjafomhaaGreatDoor
open Go.RowKit
theorem bF (k n:Int) (t:List UInt8) (ns:List Int) (ts:List (List UInt8)):
  decide (ak.Unused ⟨k,n,t,ns,ts⟩)=decide ((n≠0/\3<k)\/(0<t.length/\k≠4)\/(0<ns.length/\(k<5\/k=8))\/(0<ts.length/\k≠8)):=by
 apply decide_eq_decide.2
 unfold ak.Unused;simp only[aeX,ne_eq]
theorem rX {z:ByteArray} {t:List UInt8} (h:z.data.toList=t):z.toList=[]↔t.length=0:=by
 rw[Lib.toList_data,h,ao3]
theorem ahS {ts:List (List UInt8)} (h: ∀t∈ts,t.length<=1000):ak.kP ts=false:=by
 unfold ak.kP;rw[aop];intro t ht
 simpa using h t ht
theorem ahT {ts:List (List UInt8)} {t:List UInt8} (h:t∈ts) (hl:1000<t.length):ak.kP ts=true:=by
 unfold ak.kP;rw[List.any_eq_true];exact⟨t,h,by simpa using hl⟩
theorem TK {k:Int}: ∀{l:List Int},(∀n∈l,ak.gJ k n=0)->ak.mM k l=0
 |[],_=>rfl
 |n :: r,h=>by
  unfold ak.mM;rw[ade (by rw[h n (by simp)];simp)]
  exact TK fun m hm=>h m (by simp[hm])
theorem TL {k:Int} {e:Nat} (he:e≠0): ∀{l:List Int} (i:Nat) (n:Int),l[i]?=some n->ak.gJ k n=e->(∀(j:Nat) m,j<i->l[j]?=some m->ak.gJ k m=0)->ak.mM k l=e
 |[],i,n,h,_,_=>by simp at h
 |a :: r,0,n,h,hn,_=>by
  simp at h;subst h;unfold ak.mM;rw[hn,adk he]
 |a :: r,i+1,n,h,hn,hz=>by
  unfold ak.mM;rw[ade (by rw[hz 0 a (by omega) rfl];simp)]
  exact TL he i n (by simpa using h) hn (fun j m hj hm=>hz (j+1) m (by omega) (by simpa using hm))
theorem JJ (B:Nat) (u:Value) (v:ak.V) (w:World) (h:oV w B u v) (hB:B<=w.heap.size):
  Calls Tryz.prog 94 #[u] w fun e w'=>e=.returned (.int .i64 (ak.check v:Nat))/\Below w.heap.size w w':=by
 obtain⟨A1,c1,A2,c2,rfl,dG,cO⟩:=h.ex;have hnl:=h.nl;have hsl:=h.sl
 obtain⟨hk1,hk2⟩:=h.kin;have hnum:=h.num;have xE:=h.nums;have htl:=h.tl;have hsz:=h.sz
 clear h;obtain⟨k0,n0,t0,ns,ts⟩:=v;simp only at dG cO hnl hsl hk1 hk2 hnum xE htl hsz⊢
 obtain⟨R,hR⟩:=aj (ak.check ⟨k0,n0,t0,ns,ts⟩);rw[hR];obtain⟨nn,hnn⟩:=aj ns.length
 obtain⟨tn,htn⟩:=aj ts.length;obtain⟨z,hz⟩:=aj (⟨t0.toArray⟩:ByteArray)
 have hzd:z.data.toList=t0:=by rw[<-hz]
 rw[hnn]at dG hnl⊢;rw[htn]at cO hsl⊢;rw[hz]
 obtain⟨W1,hW1⟩:=aj (w.alloc (.cells #[.int .i64 k0,.int .i64 n0,.string z,.slice A1 nn c1,.slice A2 tn c2] 37))
 have hb1:Below w.heap.size w W1:=by rw[<-hW1];exact(Below.refl _ w).alloc (ac4 _) _
 have k1:au W1 w.heap.size 37 #[.int .i64 k0,.int .i64 n0,.string z,.slice A1 nn c1,.slice A2 tn c2]:=by rw[<-hW1];exact au.new _ _ _
 have xB:=ah (dG.below (hb1.mono hB));have xC:=ah (cO.below (hb1.mono hB))
 have HB1:=ah hb1;have HW1:=ah hW1;have HR:=ah hR;have aC:=ah hnn;have aI:=ah htn
 have HZD:=ah hzd;have uy:=ah hnum;have KH:=ah xE;have fF:=ah hsz;have oU:=ah htl
 obtain⟨a0,a1,a2,a3,a4,-⟩:=aU k1;clear dG cO hnn htn hz k1 hb1 hW1 hR hzd hnum xE hsz htl
 have hu:=lM;go_enter Tryz.func94,Tryz.ntmps94
 go_upto_region 1 with fail
 rw[HW1.out];clear HW1;by_cases hlo:k0<1
 ·have hr:R=40:=by rw[<-HR.out];unfold ak.check;rw[adk (.inl hlo)]
  have HRR:=ah hr;clear hr;go_wp2;go_ret;exact⟨by rw[HRR.out];rfl,HB1.out⟩
 by_cases hhi:8<k0
 ·have hr:R=40:=by rw[<-HR.out];unfold ak.check;rw[adk (.inr hhi)]
  have HRR:=ah hr;have t1:decide (k0<1)=false:=ac5 hlo;have t2:decide (8<k0)=true:=adb hhi
  clear hr hlo hhi;go_wp2;go_ret;exact⟨by rw[HRR.out];rfl,HB1.out⟩
 have t1:decide (k0<1)=false:=ac5 hlo;have t2:decide (8<k0)=false:=ac5 hhi
 have kF:Hid (1<=k0/\k0<=8):=ah ⟨by omega,by omega⟩
 clear hlo hhi hk1 hk2;obtain⟨U,hU⟩:=aj (decide (ak.Unused ⟨k0,n0,t0,ns,ts⟩))
 have HU:=ah hU
 have hc1:ak.check ⟨k0,n0,t0,ns,ts⟩=if U=true then 41 else if 40<nn\/40<tn then 45 else if 1000<t0.length\/ak.kP ts=true then 44 else if k0<4 then ak.gJ k0 n0 else ak.mM (k0 - 4) ns:=by
  have hh:=kF.out;unfold ak.check;rw[ade (by simp only;omega),<-hU,<-aC.out,<-aI.out]
  simp only[aei]
 have kV:Hid (R=if U=true then 41 else if 40<nn\/40<tn then 45 else if 1000<t0.length\/ak.kP ts=true then 44 else if k0<4 then ak.gJ k0 n0 else ak.mM (k0 - 4) ns):=HR.symm.trans hc1
 clear hU hc1 HR
 go_upto_region 3 with fail
 go_cut [58] (fun s58 wx=>s58=.bool U/\W1=wx)
 case first=>
  by_cases h:n0≠0
  ·have fN:(n0 !=0)=true:=adY.2 h
   have HN:=ah h;clear h;by_cases h:3<k0
   ·have f3:decide (3<k0)=true:=adb h
    have H3:=ah h;clear h;go_wp2_with fail;go_meet
    exact⟨by rw[show U=true from by rw[<-HU.out,bF,aC.out,aI.out];exact adb (by have:=HN.out;have:=H3.out;omega)],rfl⟩
   have f3:decide (3<k0)=false:=ac5 h;have H3:=ah h;clear h;by_cases h:t0.length≠0
   ·have fT:z.toList.isEmpty=false:=by
     rw[af4];exact fun e=>h ((rX HZD.out).1 e)
    have HT:=ah h;clear h;by_cases h:k0≠4
    ·have f4:(k0 !=4)=true:=adY.2 h
     have H4:=ah h;clear h;go_wp2_with fail;go_meet
     exact⟨by rw[show U=true from by rw[<-HU.out,bF,aC.out,aI.out];exact adb (by have:=HN.out;have:=H3.out;have:=HT.out;have:=H4.out;omega)],rfl⟩
    have f4:(k0 !=4)=false:=by simpa using h
    have H4:=ah h;clear h;by_cases h:0<nn
    ·have fS:decide (0<nn)=true:=adb h
     have HS:=ah h;clear h;by_cases h:k0<5
     ·have f5:decide (k0<5)=true:=adb h
      have H5:=ah h;clear h;go_wp2_with fail;go_meet
      exact⟨by rw[show U=true from by rw[<-HU.out,bF,aC.out,aI.out];exact adb (by have:=HN.out;have:=H3.out;have:=HT.out;have:=H4.out;have:=HS.out;have:=H5.out;omega)],rfl⟩
     have f5:decide (k0<5)=false:=ac5 h;have H5:=ah h;clear h;by_cases h:k0=8
     ·have f8:(k0 == 8)=true:=aeI.2 h
      have H8:=ah h;clear h;go_wp2_with fail;go_meet
      exact⟨by rw[show U=true from by rw[<-HU.out,bF,aC.out,aI.out];exact adb (by have:=HN.out;have:=H3.out;have:=HT.out;have:=H4.out;have:=HS.out;have:=H5.out;have:=H8.out;omega)],rfl⟩
     have f8:(k0 == 8)=false:=adh.2 h;have H8:=ah h;clear h;by_cases h:0<tn
     ·have fX:decide (0<tn)=true:=adb h
      have HX:=ah h;clear h;by_cases h:k0≠8
      ·have fM:(k0 !=8)=true:=adY.2 h
       have HM:=ah h;clear h;go_wp2_with fail;go_meet
       exact⟨by rw[show U=true from by rw[<-HU.out,bF,aC.out,aI.out];exact adb (by have:=HN.out;have:=H3.out;have:=HT.out;have:=H4.out;have:=HS.out;have:=H5.out;have:=H8.out;have:=HX.out;have:=HM.out;omega)],rfl⟩
      have fM:(k0 !=8)=false:=by simpa using h
      have HM:=ah h;clear h;go_wp2_with fail;go_meet
      exact⟨by rw[show U=false from by rw[<-HU.out,bF,aC.out,aI.out];exact ac5 (by have:=HN.out;have:=H3.out;have:=HT.out;have:=H4.out;have:=HS.out;have:=H5.out;have:=H8.out;have:=HX.out;have:=HM.out;omega)],rfl⟩
     have fX:decide (0<tn)=false:=ac5 h;have HX:=ah h;clear h;go_wp2_with fail;go_meet
     exact⟨by rw[show U=false from by rw[<-HU.out,bF,aC.out,aI.out];exact ac5 (by have:=HN.out;have:=H3.out;have:=HT.out;have:=H4.out;have:=HS.out;have:=H5.out;have:=H8.out;have:=HX.out;omega)],rfl⟩
    have fS:decide (0<nn)=false:=ac5 h;have HS:=ah h;clear h;by_cases h:0<tn
    ·have fX:decide (0<tn)=true:=adb h
     have HX:=ah h;clear h;by_cases h:k0≠8
     ·have fM:(k0 !=8)=true:=adY.2 h
      have HM:=ah h;clear h;go_wp2_with fail;go_meet
      exact⟨by rw[show U=true from by rw[<-HU.out,bF,aC.out,aI.out];exact adb (by have:=HN.out;have:=H3.out;have:=HT.out;have:=H4.out;have:=HS.out;have:=HX.out;have:=HM.out;omega)],rfl⟩
     have fM:(k0 !=8)=false:=by simpa using h
     have HM:=ah h;clear h;go_wp2_with fail;go_meet
     exact⟨by rw[show U=false from by rw[<-HU.out,bF,aC.out,aI.out];exact ac5 (by have:=HN.out;have:=H3.out;have:=HT.out;have:=H4.out;have:=HS.out;have:=HX.out;have:=HM.out;omega)],rfl⟩
    have fX:decide (0<tn)=false:=ac5 h;have HX:=ah h;clear h;go_wp2_with fail;go_meet
    exact⟨by rw[show U=false from by rw[<-HU.out,bF,aC.out,aI.out];exact ac5 (by have:=HN.out;have:=H3.out;have:=HT.out;have:=H4.out;have:=HS.out;have:=HX.out;omega)],rfl⟩
   have fT:z.toList.isEmpty=true:=by
    rw[ant];exact(rX HZD.out).2 (by omega)
   have HT:=ah h;clear h;by_cases h:0<nn
   ·have fS:decide (0<nn)=true:=adb h
    have HS:=ah h;clear h;by_cases h:k0<5
    ·have f5:decide (k0<5)=true:=adb h
     have H5:=ah h;clear h;go_wp2_with fail;go_meet
     exact⟨by rw[show U=true from by rw[<-HU.out,bF,aC.out,aI.out];exact adb (by have:=HN.out;have:=H3.out;have:=HT.out;have:=HS.out;have:=H5.out;omega)],rfl⟩
    have f5:decide (k0<5)=false:=ac5 h;have H5:=ah h;clear h;by_cases h:k0=8
    ·have f8:(k0 == 8)=true:=aeI.2 h
     have H8:=ah h;clear h;go_wp2_with fail;go_meet
     exact⟨by rw[show U=true from by rw[<-HU.out,bF,aC.out,aI.out];exact adb (by have:=HN.out;have:=H3.out;have:=HT.out;have:=HS.out;have:=H5.out;have:=H8.out;omega)],rfl⟩
    have f8:(k0 == 8)=false:=adh.2 h;have H8:=ah h;clear h;by_cases h:0<tn
    ·have fX:decide (0<tn)=true:=adb h
     have HX:=ah h;clear h;by_cases h:k0≠8
     ·have fM:(k0 !=8)=true:=adY.2 h
      have HM:=ah h;clear h;go_wp2_with fail;go_meet
      exact⟨by rw[show U=true from by rw[<-HU.out,bF,aC.out,aI.out];exact adb (by have:=HN.out;have:=H3.out;have:=HT.out;have:=HS.out;have:=H5.out;have:=H8.out;have:=HX.out;have:=HM.out;omega)],rfl⟩
     have fM:(k0 !=8)=false:=by simpa using h
     have HM:=ah h;clear h;go_wp2_with fail;go_meet
     exact⟨by rw[show U=false from by rw[<-HU.out,bF,aC.out,aI.out];exact ac5 (by have:=HN.out;have:=H3.out;have:=HT.out;have:=HS.out;have:=H5.out;have:=H8.out;have:=HX.out;have:=HM.out;omega)],rfl⟩
    have fX:decide (0<tn)=false:=ac5 h;have HX:=ah h;clear h;go_wp2_with fail;go_meet
    exact⟨by rw[show U=false from by rw[<-HU.out,bF,aC.out,aI.out];exact ac5 (by have:=HN.out;have:=H3.out;have:=HT.out;have:=HS.out;have:=H5.out;have:=H8.out;have:=HX.out;omega)],rfl⟩
   have fS:decide (0<nn)=false:=ac5 h;have HS:=ah h;clear h;by_cases h:0<tn
   ·have fX:decide (0<tn)=true:=adb h
    have HX:=ah h;clear h;by_cases h:k0≠8
    ·have fM:(k0 !=8)=true:=adY.2 h
     have HM:=ah h;clear h;go_wp2_with fail;go_meet
     exact⟨by rw[show U=true from by rw[<-HU.out,bF,aC.out,aI.out];exact adb (by have:=HN.out;have:=H3.out;have:=HT.out;have:=HS.out;have:=HX.out;have:=HM.out;omega)],rfl⟩
    have fM:(k0 !=8)=false:=by simpa using h
    have HM:=ah h;clear h;go_wp2_with fail;go_meet
    exact⟨by rw[show U=false from by rw[<-HU.out,bF,aC.out,aI.out];exact ac5 (by have:=HN.out;have:=H3.out;have:=HT.out;have:=HS.out;have:=HX.out;have:=HM.out;omega)],rfl⟩
   have fX:decide (0<tn)=false:=ac5 h;have HX:=ah h;clear h;go_wp2_with fail;go_meet
   exact⟨by rw[show U=false from by rw[<-HU.out,bF,aC.out,aI.out];exact ac5 (by have:=HN.out;have:=H3.out;have:=HT.out;have:=HS.out;have:=HX.out;omega)],rfl⟩
  have fN:(n0 !=0)=false:=by simpa using h
  have HN:=ah h;clear h;by_cases h:t0.length≠0
  ·have fT:z.toList.isEmpty=false:=by
    rw[af4];exact fun e=>h ((rX HZD.out).1 e)
   have HT:=ah h;clear h;by_cases h:k0≠4
   ·have f4:(k0 !=4)=true:=adY.2 h
    have H4:=ah h;clear h;go_wp2_with fail;go_meet
    exact⟨by rw[show U=true from by rw[<-HU.out,bF,aC.out,aI.out];exact adb (by have:=HN.out;have:=HT.out;have:=H4.out;omega)],rfl⟩
   have f4:(k0 !=4)=false:=by simpa using h
   have H4:=ah h;clear h;by_cases h:0<nn
   ·have fS:decide (0<nn)=true:=adb h
    have HS:=ah h;clear h;by_cases h:k0<5
    ·have f5:decide (k0<5)=true:=adb h
     have H5:=ah h;clear h;go_wp2_with fail;go_meet
     exact⟨by rw[show U=true from by rw[<-HU.out,bF,aC.out,aI.out];exact adb (by have:=HN.out;have:=HT.out;have:=H4.out;have:=HS.out;have:=H5.out;omega)],rfl⟩
    have f5:decide (k0<5)=false:=ac5 h;have H5:=ah h;clear h;by_cases h:k0=8
    ·have f8:(k0 == 8)=true:=aeI.2 h
     have H8:=ah h;clear h;go_wp2_with fail;go_meet
     exact⟨by rw[show U=true from by rw[<-HU.out,bF,aC.out,aI.out];exact adb (by have:=HN.out;have:=HT.out;have:=H4.out;have:=HS.out;have:=H5.out;have:=H8.out;omega)],rfl⟩
    have f8:(k0 == 8)=false:=adh.2 h;have H8:=ah h;clear h;by_cases h:0<tn
    ·have fX:decide (0<tn)=true:=adb h
     have HX:=ah h;clear h;by_cases h:k0≠8
     ·have fM:(k0 !=8)=true:=adY.2 h
      have HM:=ah h;clear h;go_wp2_with fail;go_meet
      exact⟨by rw[show U=true from by rw[<-HU.out,bF,aC.out,aI.out];exact adb (by have:=HN.out;have:=HT.out;have:=H4.out;have:=HS.out;have:=H5.out;have:=H8.out;have:=HX.out;have:=HM.out;omega)],rfl⟩
     have fM:(k0 !=8)=false:=by simpa using h
     have HM:=ah h;clear h;go_wp2_with fail;go_meet
     exact⟨by rw[show U=false from by rw[<-HU.out,bF,aC.out,aI.out];exact ac5 (by have:=HN.out;have:=HT.out;have:=H4.out;have:=HS.out;have:=H5.out;have:=H8.out;have:=HX.out;have:=HM.out;omega)],rfl⟩
    have fX:decide (0<tn)=false:=ac5 h;have HX:=ah h;clear h;go_wp2_with fail;go_meet
    exact⟨by rw[show U=false from by rw[<-HU.out,bF,aC.out,aI.out];exact ac5 (by have:=HN.out;have:=HT.out;have:=H4.out;have:=HS.out;have:=H5.out;have:=H8.out;have:=HX.out;omega)],rfl⟩
   have fS:decide (0<nn)=false:=ac5 h;have HS:=ah h;clear h;by_cases h:0<tn
   ·have fX:decide (0<tn)=true:=adb h
    have HX:=ah h;clear h;by_cases h:k0≠8
    ·have fM:(k0 !=8)=true:=adY.2 h
     have HM:=ah h;clear h;go_wp2_with fail;go_meet
     exact⟨by rw[show U=true from by rw[<-HU.out,bF,aC.out,aI.out];exact adb (by have:=HN.out;have:=HT.out;have:=H4.out;have:=HS.out;have:=HX.out;have:=HM.out;omega)],rfl⟩
    have fM:(k0 !=8)=false:=by simpa using h
    have HM:=ah h;clear h;go_wp2_with fail;go_meet
    exact⟨by rw[show U=false from by rw[<-HU.out,bF,aC.out,aI.out];exact ac5 (by have:=HN.out;have:=HT.out;have:=H4.out;have:=HS.out;have:=HX.out;have:=HM.out;omega)],rfl⟩
   have fX:decide (0<tn)=false:=ac5 h;have HX:=ah h;clear h;go_wp2_with fail;go_meet
   exact⟨by rw[show U=false from by rw[<-HU.out,bF,aC.out,aI.out];exact ac5 (by have:=HN.out;have:=HT.out;have:=H4.out;have:=HS.out;have:=HX.out;omega)],rfl⟩
  have fT:z.toList.isEmpty=true:=by
   rw[ant];exact(rX HZD.out).2 (by omega)
  have HT:=ah h;clear h;by_cases h:0<nn
  ·have fS:decide (0<nn)=true:=adb h
   have HS:=ah h;clear h;by_cases h:k0<5
   ·have f5:decide (k0<5)=true:=adb h
    have H5:=ah h;clear h;go_wp2_with fail;go_meet
    exact⟨by rw[show U=true from by rw[<-HU.out,bF,aC.out,aI.out];exact adb (by have:=HN.out;have:=HT.out;have:=HS.out;have:=H5.out;omega)],rfl⟩
   have f5:decide (k0<5)=false:=ac5 h;have H5:=ah h;clear h;by_cases h:k0=8
   ·have f8:(k0 == 8)=true:=aeI.2 h
    have H8:=ah h;clear h;go_wp2_with fail;go_meet
    exact⟨by rw[show U=true from by rw[<-HU.out,bF,aC.out,aI.out];exact adb (by have:=HN.out;have:=HT.out;have:=HS.out;have:=H5.out;have:=H8.out;omega)],rfl⟩
   have f8:(k0 == 8)=false:=adh.2 h;have H8:=ah h;clear h;by_cases h:0<tn
   ·have fX:decide (0<tn)=true:=adb h
    have HX:=ah h;clear h;by_cases h:k0≠8
    ·have fM:(k0 !=8)=true:=adY.2 h
     have HM:=ah h;clear h;go_wp2_with fail;go_meet
     exact⟨by rw[show U=true from by rw[<-HU.out,bF,aC.out,aI.out];exact adb (by have:=HN.out;have:=HT.out;have:=HS.out;have:=H5.out;have:=H8.out;have:=HX.out;have:=HM.out;omega)],rfl⟩
    have fM:(k0 !=8)=false:=by simpa using h
    have HM:=ah h;clear h;go_wp2_with fail;go_meet
    exact⟨by rw[show U=false from by rw[<-HU.out,bF,aC.out,aI.out];exact ac5 (by have:=HN.out;have:=HT.out;have:=HS.out;have:=H5.out;have:=H8.out;have:=HX.out;have:=HM.out;omega)],rfl⟩
   have fX:decide (0<tn)=false:=ac5 h;have HX:=ah h;clear h;go_wp2_with fail;go_meet
   exact⟨by rw[show U=false from by rw[<-HU.out,bF,aC.out,aI.out];exact ac5 (by have:=HN.out;have:=HT.out;have:=HS.out;have:=H5.out;have:=H8.out;have:=HX.out;omega)],rfl⟩
  have fS:decide (0<nn)=false:=ac5 h;have HS:=ah h;clear h;by_cases h:0<tn
  ·have fX:decide (0<tn)=true:=adb h
   have HX:=ah h;clear h;by_cases h:k0≠8
   ·have fM:(k0 !=8)=true:=adY.2 h
    have HM:=ah h;clear h;go_wp2_with fail;go_meet
    exact⟨by rw[show U=true from by rw[<-HU.out,bF,aC.out,aI.out];exact adb (by have:=HN.out;have:=HT.out;have:=HS.out;have:=HX.out;have:=HM.out;omega)],rfl⟩
   have fM:(k0 !=8)=false:=by simpa using h
   have HM:=ah h;clear h;go_wp2_with fail;go_meet
   exact⟨by rw[show U=false from by rw[<-HU.out,bF,aC.out,aI.out];exact ac5 (by have:=HN.out;have:=HT.out;have:=HS.out;have:=HX.out;have:=HM.out;omega)],rfl⟩
  have fX:decide (0<tn)=false:=ac5 h;have HX:=ah h;clear h;go_wp2_with fail;go_meet
  exact⟨by rw[show U=false from by rw[<-HU.out,bF,aC.out,aI.out];exact ac5 (by have:=HN.out;have:=HT.out;have:=HS.out;have:=HX.out;omega)],rfl⟩
 case rest=>
  obtain⟨rfl,rfl⟩:=hcut;cases U with
  |true=>
   have hr:R=41:=by rw[kV.out,adk rfl]
   have HRR:=ah hr;clear hr;go_wp2;go_ret;exact⟨by rw[HRR.out];rfl,HB1.out⟩
  |false=>
   have hr0:=kV.out;rw[ade (by decide)]at hr0
   have qc:=HU.out;rw[bF,an1,aC.out,aI.out]at qc;simp only[aox]at qc
   obtain⟨u1,u2,u3,u4⟩:=qc;have IZ:=ah (⟨u1,u2,u3,u4⟩:_/\_/\_/\_);have HR1:=ah hr0
   clear u1 u2 u3 u4 hr0 kV HU;by_cases kH:40<nn
   ·have hr:R=45:=by rw[HR1.out,adk (.inl kH)]
    have HRR:=ah hr;have f1:decide (40<nn)=true:=adb kH;have f1':(40:Int)<nn:=by omega
    clear hr kH;go_wp2;go_ret;exact⟨by rw[HRR.out];rfl,HB1.out⟩
   have f1:decide (40<nn)=false:=ac5 kH;by_cases sN:40<tn
   ·have hr:R=45:=by rw[HR1.out,adk (.inr sN)]
    have HRR:=ah hr;have f2:decide (40<tn)=true:=adb sN;have f2':(40:Int)<tn:=by omega
    have f1':(nn:Int)<=40:=by omega
    clear hr kH sN;go_wp2;go_ret;exact⟨by rw[HRR.out];rfl,HB1.out⟩
   have f2:decide (40<tn)=false:=ac5 sN;have hr1:=HR1.out;rw[ade (by omega)]at hr1
   have HR2:=ah hr1;have apv:(nn:Int)<=40:=by omega
   have AB:(tn:Int)<=40:=by omega
   clear hr1 HR1;by_cases hk4:k0<4
   ·have hr:R=ak.gJ k0 n0:=by
     have qc:=IZ.out;have hlo:=kF.out;have htz:tn=0:=by have:=qc.2.2.2;omega
     have hte:ts=[]:=adB (by rw[aI.out];exact htz)
     have htt:t0.length=0:=by have:=qc.2.1;omega
     rw[HR2.out,ade (by rw[hte];rintro(h|h);omega;cases h),adk hk4]
    have hcall:=fun(W:World)=>Zt k0 n0 W (by have:=kF.out;unfold ak.In64;omega) uy.out
    rw[<-hr]at hcall;have HC:=ah hcall;have f3:decide (k0<4)=true:=adb hk4
    clear hr hcall hk4 kH sN;go_wp2_with fail;refine(HC.out _).mono ?_
    rintro e w' ⟨rfl,rfl⟩;go_wp2;go_ret;exact⟨rfl,HB1.out⟩
   have f3:decide (k0<4)=false:=ac5 hk4;by_cases KI:k0=4
   ·have f4:(k0 == 4)=true:=aeI.2 KI
    by_cases htx:1000<t0.length
    ·have hr:R=44:=by rw[HR2.out,adk (.inl htx)]
     have HRR:=ah hr;have hzs:z.size=t0.length:=by rw[Lib.size_eq,HZD.out]
     have f5:decide (1000<z.size)=true:=adb (by omega)
     have f5':(1000:Int)<z.size:=by omega
     clear hr hk4 KI kH sN htx hzs;go_wp2;go_ret;exact⟨by rw[HRR.out];rfl,HB1.out⟩
    have hzs:z.size=t0.length:=by rw[Lib.size_eq,HZD.out]
    have f5:decide (1000<z.size)=false:=ac5 (by omega)
    have f5':(z.size:Int)<=1000:=by omega
    have hr:R=0/\nn=0/\tn=0:=by
     have qc:=IZ.out;have htz:tn=0:=by have:=qc.2.2.2;omega
     have hnz:nn=0:=by have:=qc.2.2.1;omega
     have hte:ts=[]:=adB (by rw[aI.out];exact htz)
     have hne:ns=[]:=adB (by rw[aC.out];exact hnz)
     refine⟨?_,hnz,htz⟩
     rw[HR2.out,ade (by rw[hte];rintro(h|h);exact htx h;cases h),ade hk4,hne]
     rfl
    obtain⟨hr,rfl,rfl⟩:=hr;have HRR:=ah hr;clear hr hk4 KI kH sN htx hzs;go_wp2_with fail
    go_loopg [3] 0 (fun g x wr=>x=.int .i64 0/\W1=wr)
    case atStart=>exact⟨rfl,rfl⟩
    obtain⟨rfl,rfl⟩:=hrel;go_wp2_with fail
    go_loopg [5] 0 (fun g x wr=>x=.int .i64 0/\W1=wr)
    case atStart=>exact⟨rfl,rfl⟩
    obtain⟨rfl,rfl⟩:=hrel;go_wp2;go_ret;exact⟨by rw[HRR.out];rfl,HB1.out⟩
   have f4:(k0 == 4)=false:=adh.2 KI;have hk5:(5:Int)<=k0:=by omega
   have hk8:k0<=8:=kF.out.2;have htt:t0.length=0:=by have:=IZ.out.2.1;omega
   have hr3:=HR2.out;rw[ade hk4]at hr3
   have HR3:Hid (R=if ak.kP ts=true then 44 else ak.mM (k0 - 4) ns):=by
    rw[hr3];by_cases hl:ak.kP ts=true
    ·rw[adk (.inr hl),adk hl];exact ah rfl
    rw[ade (by rintro(h|h);omega;exact hl h),ade hl];exact ah rfl
   clear hr3 HR2 hk4 KI kH sN htt;go_wp2_with fail
   go_loopg [3] nn (fun g x wr=> ∃k m:Nat,x=.int .i64 k/\k+g=nn/\W1.drewN m=wr/\ ∀(j:Nat) y,j<k->ns[j]?=some y->ak.gJ (k0 - 4) y=0)
   case atStart=>exact⟨0,0,rfl,by omega,rfl,fun j y hj=>by omega⟩
   obtain⟨k,m,rfl,hk,rfl,hz⟩:=hrel;have HZ:=ah hz;have HK:=ah hk
   have Dy:(k:Int)<=40:=by omega
   clear hz;cases gk with
   |zero=>
    obtain rfl:k=nn:=by omega
    have hall:ak.mM (k0 - 4) ns=0:=TK (fun y hy=>by
     obtain⟨j,hj,e⟩:=afj hy
     exact HZ.out j y (by have:=aC.out;omega) (by rw[dF hj,e]))
    have HA:=ah hall;clear hk hall;go_wp2_with fail
    go_loopg [5] tn (fun g x wr=> ∃j m:Nat,x=.int .i64 j/\j+g=tn/\W1.drewN m=wr/\ ∀(i:Nat) y,i<j->ts[i]?=some y->y.length<=1000)
    case atStart=>exact⟨0,m,rfl,by omega,rfl,fun j y hj=>by omega⟩
    obtain⟨j,m,rfl,hj,rfl,hz⟩:=hrel;have HZ2:=ah hz;have HJ:=ah hj
    have nX:(j:Int)<=40:=by omega
    clear hz;cases gk with
    |zero=>
     obtain rfl:j=tn:=by omega
     have hr:R=0:=by
      rw[HR3.out,ade,HA.out];rw[ahS]
      ·decide
      intro y hy;obtain⟨i,hi,e⟩:=afj hy
      exact HZ2.out i y (by have:=aI.out;omega) (by rw[dF hi,e])
     have HRR:=ah hr;clear hj hr;go_wp2;go_ret
     exact⟨by rw[HRR.out];rfl,below_drewN HB1.out _⟩
    |succ g=>
     have hjn:j<tn:=by omega
     have Az:(j:Int)<tn:=by omega
     have hjl:j<ts.length:=by rw[aI.out];exact hjn
     obtain⟨p,o,x,rfl,AA,hx,hp⟩:=xC.out.cell hjn;rw[adX,dF hjl]at hx
     obtain rfl:=(ad4 hx).symm;obtain⟨y,hy⟩:=aj (ts[j]);rw[hy]at hp
     have hyl:y.length<=1073741824:=fF.out y (by rw[<-hy];exact arf _)
     have hyj:ts[j]?=some y:=by rw[dF hjl,hy]
     obtain⟨zy,hzy⟩:=aj (⟨y.toArray⟩:ByteArray);unfold ST at hp;rw[hzy]at hp
     have hzs:zy.size=y.length:=by rw[<-hzy];exact gq _
     have HYJ:=ah hyj;by_cases hy1:1000<y.length
     ·have hr:R=44:=by rw[HR3.out,adk (ahT (adI HYJ.out) hy1)]
      have HRR:=ah hr;have f6:decide (1000<zy.size)=true:=adb (by omega)
      have f6':(1000:Int)<zy.size:=by omega
      clear hx hj hjl hy hyj hzy hzs hr hy1 hyl;go_wp2;go_ret
      exact⟨by rw[HRR.out];rfl,below_drewN HB1.out _⟩
     have f6:decide (1000<zy.size)=false:=ac5 (by omega)
     have f6':(zy.size:Int)<=1000:=by omega
     have Dz:=ah hy1;clear hx hj hjl hy hyj hzy hzs hy1 hyl;go_wp2
     go_roundg g
     case measure=>omega
     refine⟨j+1,m,int_eq' (by omega),by have:=HJ.out;omega,rfl,fun i q hi hq=> ?_⟩
     by_cases e:i=j
     ·rw[e,HYJ.out]at hq
      cases hq;have:=Dz.out;omega
     exact HZ2.out i q (by omega) hq
   |succ g=>
    have hkn:k<nn:=by omega
    have dH:(k:Int)<nn:=by omega
    have hkl:k<ns.length:=by rw[aC.out];exact hkn
    obtain⟨p,o,x,rfl,AA,hx,hp⟩:=xB.out.cell hkn;rw[adX,dF hkl]at hx
    obtain rfl:=(ad4 hx).symm;obtain⟨y,hy⟩:=aj (ns[k]);rw[hy]at hp;unfold I64 at hp
    have hyk:ns[k]?=some y:=by rw[dF hkl,hy]
    have hcall:=fun(W:World)=>(Zt (k0 - 4) y W (by unfold ak.In64;omega) (KH.out y (adI hyk))).mono fun e w' (h:_/\W=w')=>(⟨h.1,h.2.symm⟩:e=.returned (.int .i64 (ak.gJ (k0 - 4) y:Nat))/\w'=W)
    obtain⟨er,her⟩:=aj (ak.gJ (k0 - 4) y);rw[her]at hcall;have HC:=ah hcall
    have KJ:=ah hyk;have DC:=ah her
    have r1:IntKind.i64.wrap (k0 - 4)=k0 - 4:=IntWalk.i64_in _ (by omega)
    by_cases he:er=0
    ·subst he
     clear hx hk hkl hy hyk hcall her;go_wp2_with fail
     go_quiet ((go_at_call 143;exact ET (HC.out _)))
     go_wp2
     go_roundg g
     case measure=>omega
     refine⟨k+1,m+nq,int_eq' (by omega),by have:=HK.out;omega,rfl,fun i q hi hq=> ?_⟩
     by_cases e:i=k
     ·rw[e,KJ.out]at hq
      cases hq;exact DC.out
     exact HZ.out i q (by omega) hq
    have hw1:ak.mM (k0 - 4) ns=er:=TL he k y KJ.out DC.out HZ.out
    have hr:R=er:=by
     have qc:=IZ.out;have htz:tn=0:=by have:=qc.2.2.2;have:=qc.2.2.1;omega
     have hte:ts=[]:=adB (by rw[aI.out];exact htz)
     rw[HR3.out,ade (by rw[hte];exact fun h=>by cases h),hw1]
    have heb:((er:Int) !=0)=true:=by rw[adY];omega
    have HRR:=ah hr;clear hx hk hkl hy hyk hcall her hw1 hr he;go_wp2_with fail
    go_quiet ((go_at_call 143;exact ET (HC.out _)))
    go_wp2;go_ret;exact⟨by rw[HRR.out];rfl,below_drewN HB1.out _⟩
 end Go.Proofs.YtkdakckjafomhaaGreatDoor
