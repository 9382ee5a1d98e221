/- Contracts and plain laws,part 8. -/
import Derived.Test.YtanlehkalkafdaaGreatDoorUR07
set_option maxHeartbeats 64000000
set_option maxRecDepth 1000000
set_option linter.all false
namespace Go.Proofs.YtanlehkalkafdaaGreatDoor
open Go.RowKit
theorem unused_len (k n:Int) (t:List UInt8) (ns:List Int) (ts:List (List UInt8)):
  decide (Cel.Unused ⟨k,n,t,ns,ts⟩)=decide ((n≠0/\3<k)\/(0<t.length/\k≠4)\/(0<ns.length/\(k<5\/k=8))\/(0<ts.length/\k≠8)):=by
 apply decide_eq_decide.2
 unfold Cel.Unused;simp only[uS,ne_eq]
theorem empty_len {z:ByteArray} {t:List UInt8} (h:z.data.toList=t):z.toList=[]↔t.length=0:=by
 rw[Lib.toList_data,h,zT]
theorem longs_false {ts:List (List UInt8)} (h: ∀t∈ts,t.length<=1000):Cel.longs ts=false:=by
 unfold Cel.longs;rw[yX];intro t ht
 simpa using h t ht
theorem longs_true {ts:List (List UInt8)} {t:List UInt8} (h:t∈ts) (hl:1000<t.length):Cel.longs ts=true:=by
 unfold Cel.longs;rw[List.any_eq_true];exact⟨t,h,by simpa using hl⟩
theorem numsWrong_zero {k:Int}: ∀{l:List Int},(∀n∈l,Cel.numWrong k n=0)->Cel.numsWrong k l=0
 |[],_=>rfl
 |n :: r,h=>by
  unfold Cel.numsWrong;rw[rU (by rw[h n (by simp)];simp)]
  exact numsWrong_zero fun m hm=>h m (by simp[hm])
theorem numsWrong_at {k:Int} {e:Nat} (he:e≠0): ∀{l:List Int} (i:Nat) (n:Int),l[i]?=some n->Cel.numWrong k n=e->(∀(j:Nat) m,j<i->l[j]?=some m->Cel.numWrong k m=0)->Cel.numsWrong k l=e
 |[],i,n,h,_,_=>by simp at h
 |a :: r,0,n,h,hn,_=>by
  simp at h;subst h;unfold Cel.numsWrong;rw[hn,rY he]
 |a :: r,i+1,n,h,hn,hz=>by
  unfold Cel.numsWrong;rw[rU (by rw[hz 0 a (by omega) rfl];simp)]
  exact numsWrong_at he i n (by simpa using h) hn (fun j m hj hm=>hz (j+1) m (by omega) (by simpa using hm))
theorem vCheck_any (B:Nat) (u:Value) (v:Cel.V) (w:World) (h:VIn w B u v) (hB:B<=w.heap.size):
  Calls Tryz.prog 88 #[u] w fun e w'=>e=.returned (.int .i64 (Cel.check v:Nat))/\Below w.heap.size w w':=by
 obtain⟨A1,c1,A2,c2,rfl,ra1,ra2⟩:=h.ex;have hnl:=h.nl;have hsl:=h.sl
 obtain⟨hk1,hk2⟩:=h.kin;have hnum:=h.num;have hnums:=h.nums;have htl:=h.tl;have hsz:=h.sz
 clear h;obtain⟨k0,n0,t0,ns,ts⟩:=v
 simp only at ra1 ra2 hnl hsl hk1 hk2 hnum hnums htl hsz⊢
 obtain⟨R,hR⟩:=aj (Cel.check ⟨k0,n0,t0,ns,ts⟩);rw[hR];obtain⟨nn,hnn⟩:=aj ns.length
 obtain⟨tn,htn⟩:=aj ts.length;obtain⟨z,hz⟩:=aj (⟨t0.toArray⟩:ByteArray)
 have hzd:z.data.toList=t0:=by rw[<-hz]
 rw[hnn]at ra1 hnl⊢;rw[htn]at ra2 hsl⊢;rw[hz]
 obtain⟨W1,hW1⟩:=aj (w.alloc (.cells #[.int .i64 k0,.int .i64 n0,.string z,.slice A1 nn c1,.slice A2 tn c2] 51))
 have hb1:Below w.heap.size w W1:=by rw[<-hW1];exact(Below.refl _ w).alloc (rM _) _
 have k1:Blk W1 w.heap.size 51 #[.int .i64 k0,.int .i64 n0,.string z,.slice A1 nn c1,.slice A2 tn c2]:=by rw[<-hW1];exact Blk.new _ _ _
 have RA1:=ah (ra1.below (hb1.mono hB));have RA2:=ah (ra2.below (hb1.mono hB))
 have HB1:=ah hb1;have HW1:=ah hW1;have HR:=ah hR;have HNN:=ah hnn;have HTN:=ah htn
 have HZD:=ah hzd;have HNUM:=ah hnum;have HNUMS:=ah hnums;have HSZ:=ah hsz
 have HTL:=ah htl;obtain⟨a0,a1,a2,a3,a4,-⟩:=val_cells k1
 clear ra1 ra2 hnn htn hz k1 hb1 hW1 hR hzd hnum hnums hsz htl;have hu:=undef_no
 go_enter Tryz.func88,Tryz.ntmps88
 go_upto_region 1 with fail
 rw[HW1.out];clear HW1;by_cases hlo:k0<1
 ·have hr:R=40:=by rw[<-HR.out];unfold Cel.check;rw[rY (.inl hlo)]
  have HRR:=ah hr;clear hr;go_wp2;go_ret;exact⟨by rw[HRR.out];rfl,HB1.out⟩
 by_cases hhi:8<k0
 ·have hr:R=40:=by rw[<-HR.out];unfold Cel.check;rw[rY (.inr hhi)]
  have HRR:=ah hr;have t1:decide (k0<1)=false:=rO hlo;have t2:decide (8<k0)=true:=rQ hhi
  clear hr hlo hhi;go_wp2;go_ret;exact⟨by rw[HRR.out];rfl,HB1.out⟩
 have t1:decide (k0<1)=false:=rO hlo;have t2:decide (8<k0)=false:=rO hhi
 have HLO:Hid (1<=k0/\k0<=8):=ah ⟨by omega,by omega⟩
 clear hlo hhi hk1 hk2;obtain⟨U,hU⟩:=aj (decide (Cel.Unused ⟨k0,n0,t0,ns,ts⟩))
 have HU:=ah hU
 have hc1:Cel.check ⟨k0,n0,t0,ns,ts⟩=if U=true then 41 else if 40<nn\/40<tn then 45 else if 1000<t0.length\/Cel.longs ts=true then 44 else if k0<4 then Cel.numWrong k0 n0 else Cel.numsWrong (k0 - 4) ns:=by
  have hh:=HLO.out;unfold Cel.check;rw[rU (by simp only;omega),<-hU,<-HNN.out,<-HTN.out]
  simp only[tX]
 have HC1:Hid (R=if U=true then 41 else if 40<nn\/40<tn then 45 else if 1000<t0.length\/Cel.longs ts=true then 44 else if k0<4 then Cel.numWrong k0 n0 else Cel.numsWrong (k0 - 4) ns):=HR.symm.trans hc1
 clear hU hc1 HR
 go_upto_region 3 with fail
 go_cut [58] (fun s58 wx=>s58=.bool U/\W1=wx)
 case first=>
  by_cases h:n0≠0
  ·have fN:(n0 !=0)=true:=tH.2 h
   have HN:=ah h;clear h;by_cases h:3<k0
   ·have f3:decide (3<k0)=true:=rQ h
    have H3:=ah h;clear h;go_wp2_with fail;go_meet
    exact⟨by rw[show U=true from by rw[<-HU.out,unused_len,HNN.out,HTN.out];exact rQ (by have:=HN.out;have:=H3.out;omega)],rfl⟩
   have f3:decide (3<k0)=false:=rO h;have H3:=ah h;clear h;by_cases h:t0.length≠0
   ·have fT:z.toList.isEmpty=false:=by
     rw[vT];exact fun e=>h ((empty_len HZD.out).1 e)
    have HT:=ah h;clear h;by_cases h:k0≠4
    ·have f4:(k0 !=4)=true:=tH.2 h
     have H4:=ah h;clear h;go_wp2_with fail;go_meet
     exact⟨by rw[show U=true from by rw[<-HU.out,unused_len,HNN.out,HTN.out];exact rQ (by have:=HN.out;have:=H3.out;have:=HT.out;have:=H4.out;omega)],rfl⟩
    have f4:(k0 !=4)=false:=by simpa using h
    have H4:=ah h;clear h;by_cases h:0<nn
    ·have fS:decide (0<nn)=true:=rQ h
     have HS:=ah h;clear h;by_cases h:k0<5
     ·have f5:decide (k0<5)=true:=rQ h
      have H5:=ah h;clear h;go_wp2_with fail;go_meet
      exact⟨by rw[show U=true from by rw[<-HU.out,unused_len,HNN.out,HTN.out];exact rQ (by have:=HN.out;have:=H3.out;have:=HT.out;have:=H4.out;have:=HS.out;have:=H5.out;omega)],rfl⟩
     have f5:decide (k0<5)=false:=rO h;have H5:=ah h;clear h;by_cases h:k0=8
     ·have f8:(k0 == 8)=true:=uw.2 h
      have H8:=ah h;clear h;go_wp2_with fail;go_meet
      exact⟨by rw[show U=true from by rw[<-HU.out,unused_len,HNN.out,HTN.out];exact rQ (by have:=HN.out;have:=H3.out;have:=HT.out;have:=H4.out;have:=HS.out;have:=H5.out;have:=H8.out;omega)],rfl⟩
     have f8:(k0 == 8)=false:=rX.2 h;have H8:=ah h;clear h;by_cases h:0<tn
     ·have fX:decide (0<tn)=true:=rQ h
      have HX:=ah h;clear h;by_cases h:k0≠8
      ·have fM:(k0 !=8)=true:=tH.2 h
       have HM:=ah h;clear h;go_wp2_with fail;go_meet
       exact⟨by rw[show U=true from by rw[<-HU.out,unused_len,HNN.out,HTN.out];exact rQ (by have:=HN.out;have:=H3.out;have:=HT.out;have:=H4.out;have:=HS.out;have:=H5.out;have:=H8.out;have:=HX.out;have:=HM.out;omega)],rfl⟩
      have fM:(k0 !=8)=false:=by simpa using h
      have HM:=ah h;clear h;go_wp2_with fail;go_meet
      exact⟨by rw[show U=false from by rw[<-HU.out,unused_len,HNN.out,HTN.out];exact rO (by have:=HN.out;have:=H3.out;have:=HT.out;have:=H4.out;have:=HS.out;have:=H5.out;have:=H8.out;have:=HX.out;have:=HM.out;omega)],rfl⟩
     have fX:decide (0<tn)=false:=rO h;have HX:=ah h;clear h;go_wp2_with fail;go_meet
     exact⟨by rw[show U=false from by rw[<-HU.out,unused_len,HNN.out,HTN.out];exact rO (by have:=HN.out;have:=H3.out;have:=HT.out;have:=H4.out;have:=HS.out;have:=H5.out;have:=H8.out;have:=HX.out;omega)],rfl⟩
    have fS:decide (0<nn)=false:=rO h;have HS:=ah h;clear h;by_cases h:0<tn
    ·have fX:decide (0<tn)=true:=rQ h
     have HX:=ah h;clear h;by_cases h:k0≠8
     ·have fM:(k0 !=8)=true:=tH.2 h
      have HM:=ah h;clear h;go_wp2_with fail;go_meet
      exact⟨by rw[show U=true from by rw[<-HU.out,unused_len,HNN.out,HTN.out];exact rQ (by have:=HN.out;have:=H3.out;have:=HT.out;have:=H4.out;have:=HS.out;have:=HX.out;have:=HM.out;omega)],rfl⟩
     have fM:(k0 !=8)=false:=by simpa using h
     have HM:=ah h;clear h;go_wp2_with fail;go_meet
     exact⟨by rw[show U=false from by rw[<-HU.out,unused_len,HNN.out,HTN.out];exact rO (by have:=HN.out;have:=H3.out;have:=HT.out;have:=H4.out;have:=HS.out;have:=HX.out;have:=HM.out;omega)],rfl⟩
    have fX:decide (0<tn)=false:=rO h;have HX:=ah h;clear h;go_wp2_with fail;go_meet
    exact⟨by rw[show U=false from by rw[<-HU.out,unused_len,HNN.out,HTN.out];exact rO (by have:=HN.out;have:=H3.out;have:=HT.out;have:=H4.out;have:=HS.out;have:=HX.out;omega)],rfl⟩
   have fT:z.toList.isEmpty=true:=by
    rw[xE];exact(empty_len HZD.out).2 (by omega)
   have HT:=ah h;clear h;by_cases h:0<nn
   ·have fS:decide (0<nn)=true:=rQ h
    have HS:=ah h;clear h;by_cases h:k0<5
    ·have f5:decide (k0<5)=true:=rQ h
     have H5:=ah h;clear h;go_wp2_with fail;go_meet
     exact⟨by rw[show U=true from by rw[<-HU.out,unused_len,HNN.out,HTN.out];exact rQ (by have:=HN.out;have:=H3.out;have:=HT.out;have:=HS.out;have:=H5.out;omega)],rfl⟩
    have f5:decide (k0<5)=false:=rO h;have H5:=ah h;clear h;by_cases h:k0=8
    ·have f8:(k0 == 8)=true:=uw.2 h
     have H8:=ah h;clear h;go_wp2_with fail;go_meet
     exact⟨by rw[show U=true from by rw[<-HU.out,unused_len,HNN.out,HTN.out];exact rQ (by have:=HN.out;have:=H3.out;have:=HT.out;have:=HS.out;have:=H5.out;have:=H8.out;omega)],rfl⟩
    have f8:(k0 == 8)=false:=rX.2 h;have H8:=ah h;clear h;by_cases h:0<tn
    ·have fX:decide (0<tn)=true:=rQ h
     have HX:=ah h;clear h;by_cases h:k0≠8
     ·have fM:(k0 !=8)=true:=tH.2 h
      have HM:=ah h;clear h;go_wp2_with fail;go_meet
      exact⟨by rw[show U=true from by rw[<-HU.out,unused_len,HNN.out,HTN.out];exact rQ (by have:=HN.out;have:=H3.out;have:=HT.out;have:=HS.out;have:=H5.out;have:=H8.out;have:=HX.out;have:=HM.out;omega)],rfl⟩
     have fM:(k0 !=8)=false:=by simpa using h
     have HM:=ah h;clear h;go_wp2_with fail;go_meet
     exact⟨by rw[show U=false from by rw[<-HU.out,unused_len,HNN.out,HTN.out];exact rO (by have:=HN.out;have:=H3.out;have:=HT.out;have:=HS.out;have:=H5.out;have:=H8.out;have:=HX.out;have:=HM.out;omega)],rfl⟩
    have fX:decide (0<tn)=false:=rO h;have HX:=ah h;clear h;go_wp2_with fail;go_meet
    exact⟨by rw[show U=false from by rw[<-HU.out,unused_len,HNN.out,HTN.out];exact rO (by have:=HN.out;have:=H3.out;have:=HT.out;have:=HS.out;have:=H5.out;have:=H8.out;have:=HX.out;omega)],rfl⟩
   have fS:decide (0<nn)=false:=rO h;have HS:=ah h;clear h;by_cases h:0<tn
   ·have fX:decide (0<tn)=true:=rQ h
    have HX:=ah h;clear h;by_cases h:k0≠8
    ·have fM:(k0 !=8)=true:=tH.2 h
     have HM:=ah h;clear h;go_wp2_with fail;go_meet
     exact⟨by rw[show U=true from by rw[<-HU.out,unused_len,HNN.out,HTN.out];exact rQ (by have:=HN.out;have:=H3.out;have:=HT.out;have:=HS.out;have:=HX.out;have:=HM.out;omega)],rfl⟩
    have fM:(k0 !=8)=false:=by simpa using h
    have HM:=ah h;clear h;go_wp2_with fail;go_meet
    exact⟨by rw[show U=false from by rw[<-HU.out,unused_len,HNN.out,HTN.out];exact rO (by have:=HN.out;have:=H3.out;have:=HT.out;have:=HS.out;have:=HX.out;have:=HM.out;omega)],rfl⟩
   have fX:decide (0<tn)=false:=rO h;have HX:=ah h;clear h;go_wp2_with fail;go_meet
   exact⟨by rw[show U=false from by rw[<-HU.out,unused_len,HNN.out,HTN.out];exact rO (by have:=HN.out;have:=H3.out;have:=HT.out;have:=HS.out;have:=HX.out;omega)],rfl⟩
  have fN:(n0 !=0)=false:=by simpa using h
  have HN:=ah h;clear h;by_cases h:t0.length≠0
  ·have fT:z.toList.isEmpty=false:=by
    rw[vT];exact fun e=>h ((empty_len HZD.out).1 e)
   have HT:=ah h;clear h;by_cases h:k0≠4
   ·have f4:(k0 !=4)=true:=tH.2 h
    have H4:=ah h;clear h;go_wp2_with fail;go_meet
    exact⟨by rw[show U=true from by rw[<-HU.out,unused_len,HNN.out,HTN.out];exact rQ (by have:=HN.out;have:=HT.out;have:=H4.out;omega)],rfl⟩
   have f4:(k0 !=4)=false:=by simpa using h
   have H4:=ah h;clear h;by_cases h:0<nn
   ·have fS:decide (0<nn)=true:=rQ h
    have HS:=ah h;clear h;by_cases h:k0<5
    ·have f5:decide (k0<5)=true:=rQ h
     have H5:=ah h;clear h;go_wp2_with fail;go_meet
     exact⟨by rw[show U=true from by rw[<-HU.out,unused_len,HNN.out,HTN.out];exact rQ (by have:=HN.out;have:=HT.out;have:=H4.out;have:=HS.out;have:=H5.out;omega)],rfl⟩
    have f5:decide (k0<5)=false:=rO h;have H5:=ah h;clear h;by_cases h:k0=8
    ·have f8:(k0 == 8)=true:=uw.2 h
     have H8:=ah h;clear h;go_wp2_with fail;go_meet
     exact⟨by rw[show U=true from by rw[<-HU.out,unused_len,HNN.out,HTN.out];exact rQ (by have:=HN.out;have:=HT.out;have:=H4.out;have:=HS.out;have:=H5.out;have:=H8.out;omega)],rfl⟩
    have f8:(k0 == 8)=false:=rX.2 h;have H8:=ah h;clear h;by_cases h:0<tn
    ·have fX:decide (0<tn)=true:=rQ h
     have HX:=ah h;clear h;by_cases h:k0≠8
     ·have fM:(k0 !=8)=true:=tH.2 h
      have HM:=ah h;clear h;go_wp2_with fail;go_meet
      exact⟨by rw[show U=true from by rw[<-HU.out,unused_len,HNN.out,HTN.out];exact rQ (by have:=HN.out;have:=HT.out;have:=H4.out;have:=HS.out;have:=H5.out;have:=H8.out;have:=HX.out;have:=HM.out;omega)],rfl⟩
     have fM:(k0 !=8)=false:=by simpa using h
     have HM:=ah h;clear h;go_wp2_with fail;go_meet
     exact⟨by rw[show U=false from by rw[<-HU.out,unused_len,HNN.out,HTN.out];exact rO (by have:=HN.out;have:=HT.out;have:=H4.out;have:=HS.out;have:=H5.out;have:=H8.out;have:=HX.out;have:=HM.out;omega)],rfl⟩
    have fX:decide (0<tn)=false:=rO h;have HX:=ah h;clear h;go_wp2_with fail;go_meet
    exact⟨by rw[show U=false from by rw[<-HU.out,unused_len,HNN.out,HTN.out];exact rO (by have:=HN.out;have:=HT.out;have:=H4.out;have:=HS.out;have:=H5.out;have:=H8.out;have:=HX.out;omega)],rfl⟩
   have fS:decide (0<nn)=false:=rO h;have HS:=ah h;clear h;by_cases h:0<tn
   ·have fX:decide (0<tn)=true:=rQ h
    have HX:=ah h;clear h;by_cases h:k0≠8
    ·have fM:(k0 !=8)=true:=tH.2 h
     have HM:=ah h;clear h;go_wp2_with fail;go_meet
     exact⟨by rw[show U=true from by rw[<-HU.out,unused_len,HNN.out,HTN.out];exact rQ (by have:=HN.out;have:=HT.out;have:=H4.out;have:=HS.out;have:=HX.out;have:=HM.out;omega)],rfl⟩
    have fM:(k0 !=8)=false:=by simpa using h
    have HM:=ah h;clear h;go_wp2_with fail;go_meet
    exact⟨by rw[show U=false from by rw[<-HU.out,unused_len,HNN.out,HTN.out];exact rO (by have:=HN.out;have:=HT.out;have:=H4.out;have:=HS.out;have:=HX.out;have:=HM.out;omega)],rfl⟩
   have fX:decide (0<tn)=false:=rO h;have HX:=ah h;clear h;go_wp2_with fail;go_meet
   exact⟨by rw[show U=false from by rw[<-HU.out,unused_len,HNN.out,HTN.out];exact rO (by have:=HN.out;have:=HT.out;have:=H4.out;have:=HS.out;have:=HX.out;omega)],rfl⟩
  have fT:z.toList.isEmpty=true:=by
   rw[xE];exact(empty_len HZD.out).2 (by omega)
  have HT:=ah h;clear h;by_cases h:0<nn
  ·have fS:decide (0<nn)=true:=rQ h
   have HS:=ah h;clear h;by_cases h:k0<5
   ·have f5:decide (k0<5)=true:=rQ h
    have H5:=ah h;clear h;go_wp2_with fail;go_meet
    exact⟨by rw[show U=true from by rw[<-HU.out,unused_len,HNN.out,HTN.out];exact rQ (by have:=HN.out;have:=HT.out;have:=HS.out;have:=H5.out;omega)],rfl⟩
   have f5:decide (k0<5)=false:=rO h;have H5:=ah h;clear h;by_cases h:k0=8
   ·have f8:(k0 == 8)=true:=uw.2 h
    have H8:=ah h;clear h;go_wp2_with fail;go_meet
    exact⟨by rw[show U=true from by rw[<-HU.out,unused_len,HNN.out,HTN.out];exact rQ (by have:=HN.out;have:=HT.out;have:=HS.out;have:=H5.out;have:=H8.out;omega)],rfl⟩
   have f8:(k0 == 8)=false:=rX.2 h;have H8:=ah h;clear h;by_cases h:0<tn
   ·have fX:decide (0<tn)=true:=rQ h
    have HX:=ah h;clear h;by_cases h:k0≠8
    ·have fM:(k0 !=8)=true:=tH.2 h
     have HM:=ah h;clear h;go_wp2_with fail;go_meet
     exact⟨by rw[show U=true from by rw[<-HU.out,unused_len,HNN.out,HTN.out];exact rQ (by have:=HN.out;have:=HT.out;have:=HS.out;have:=H5.out;have:=H8.out;have:=HX.out;have:=HM.out;omega)],rfl⟩
    have fM:(k0 !=8)=false:=by simpa using h
    have HM:=ah h;clear h;go_wp2_with fail;go_meet
    exact⟨by rw[show U=false from by rw[<-HU.out,unused_len,HNN.out,HTN.out];exact rO (by have:=HN.out;have:=HT.out;have:=HS.out;have:=H5.out;have:=H8.out;have:=HX.out;have:=HM.out;omega)],rfl⟩
   have fX:decide (0<tn)=false:=rO h;have HX:=ah h;clear h;go_wp2_with fail;go_meet
   exact⟨by rw[show U=false from by rw[<-HU.out,unused_len,HNN.out,HTN.out];exact rO (by have:=HN.out;have:=HT.out;have:=HS.out;have:=H5.out;have:=H8.out;have:=HX.out;omega)],rfl⟩
  have fS:decide (0<nn)=false:=rO h;have HS:=ah h;clear h;by_cases h:0<tn
  ·have fX:decide (0<tn)=true:=rQ h
   have HX:=ah h;clear h;by_cases h:k0≠8
   ·have fM:(k0 !=8)=true:=tH.2 h
    have HM:=ah h;clear h;go_wp2_with fail;go_meet
    exact⟨by rw[show U=true from by rw[<-HU.out,unused_len,HNN.out,HTN.out];exact rQ (by have:=HN.out;have:=HT.out;have:=HS.out;have:=HX.out;have:=HM.out;omega)],rfl⟩
   have fM:(k0 !=8)=false:=by simpa using h
   have HM:=ah h;clear h;go_wp2_with fail;go_meet
   exact⟨by rw[show U=false from by rw[<-HU.out,unused_len,HNN.out,HTN.out];exact rO (by have:=HN.out;have:=HT.out;have:=HS.out;have:=HX.out;have:=HM.out;omega)],rfl⟩
  have fX:decide (0<tn)=false:=rO h;have HX:=ah h;clear h;go_wp2_with fail;go_meet
  exact⟨by rw[show U=false from by rw[<-HU.out,unused_len,HNN.out,HTN.out];exact rO (by have:=HN.out;have:=HT.out;have:=HS.out;have:=HX.out;omega)],rfl⟩
 case rest=>
  obtain⟨rfl,rfl⟩:=hcut;cases U with
  |true=>
   have hr:R=41:=by rw[HC1.out,rY rfl]
   have HRR:=ah hr;clear hr;go_wp2;go_ret;exact⟨by rw[HRR.out];rfl,HB1.out⟩
  |false=>
   have hr0:=HC1.out;rw[rU (by decide)]at hr0
   have huf:=HU.out;rw[unused_len,xP,HNN.out,HTN.out]at huf;simp only[yS]at huf
   obtain⟨u1,u2,u3,u4⟩:=huf;have HUS:=ah (⟨u1,u2,u3,u4⟩:_/\_/\_/\_);have HR1:=ah hr0
   clear u1 u2 u3 u4 hr0 HC1 HU;by_cases h40:40<nn
   ·have hr:R=45:=by rw[HR1.out,rY (.inl h40)]
    have HRR:=ah hr;have f1:decide (40<nn)=true:=rQ h40;have f1':(40:Int)<nn:=by omega
    clear hr h40;go_wp2;go_ret;exact⟨by rw[HRR.out];rfl,HB1.out⟩
   have f1:decide (40<nn)=false:=rO h40;by_cases h41:40<tn
   ·have hr:R=45:=by rw[HR1.out,rY (.inr h41)]
    have HRR:=ah hr;have f2:decide (40<tn)=true:=rQ h41;have f2':(40:Int)<tn:=by omega
    have f1':(nn:Int)<=40:=by omega
    clear hr h40 h41;go_wp2;go_ret;exact⟨by rw[HRR.out];rfl,HB1.out⟩
   have f2:decide (40<tn)=false:=rO h41;have hr1:=HR1.out;rw[rU (by omega)]at hr1
   have HR2:=ah hr1;have hn40:(nn:Int)<=40:=by omega
   have ht40:(tn:Int)<=40:=by omega
   clear hr1 HR1;by_cases hk4:k0<4
   ·have hr:R=Cel.numWrong k0 n0:=by
     have huf:=HUS.out;have hlo:=HLO.out;have htz:tn=0:=by have:=huf.2.2.2;omega
     have hte:ts=[]:=sH (by rw[HTN.out];exact htz)
     have htt:t0.length=0:=by have:=huf.2.1;omega
     rw[HR2.out,rU (by rw[hte];rintro(h|h);omega;cases h),rY hk4]
    have hcall:=fun(W:World)=>refNumWrong_any k0 n0 W (by have:=HLO.out;unfold Cel.In64;omega) HNUM.out
    rw[<-hr]at hcall;have HC:=ah hcall;have f3:decide (k0<4)=true:=rQ hk4
    clear hr hcall hk4 h40 h41;go_wp2_with fail;refine(HC.out _).mono ?_
    rintro e w' ⟨rfl,rfl⟩;go_wp2;go_ret;exact⟨rfl,HB1.out⟩
   have f3:decide (k0<4)=false:=rO hk4;by_cases hk44:k0=4
   ·have f4:(k0 == 4)=true:=uw.2 hk44
    by_cases htx:1000<t0.length
    ·have hr:R=44:=by rw[HR2.out,rY (.inl htx)]
     have HRR:=ah hr;have hzs:z.size=t0.length:=by rw[Lib.size_eq,HZD.out]
     have f5:decide (1000<z.size)=true:=rQ (by omega)
     have f5':(1000:Int)<z.size:=by omega
     clear hr hk4 hk44 h40 h41 htx hzs;go_wp2;go_ret;exact⟨by rw[HRR.out];rfl,HB1.out⟩
    have hzs:z.size=t0.length:=by rw[Lib.size_eq,HZD.out]
    have f5:decide (1000<z.size)=false:=rO (by omega)
    have f5':(z.size:Int)<=1000:=by omega
    have hr:R=0/\nn=0/\tn=0:=by
     have huf:=HUS.out;have htz:tn=0:=by have:=huf.2.2.2;omega
     have hnz:nn=0:=by have:=huf.2.2.1;omega
     have hte:ts=[]:=sH (by rw[HTN.out];exact htz)
     have hne:ns=[]:=sH (by rw[HNN.out];exact hnz)
     refine⟨?_,hnz,htz⟩
     rw[HR2.out,rU (by rw[hte];rintro(h|h);exact htx h;cases h),rU hk4,hne]
     rfl
    obtain⟨hr,rfl,rfl⟩:=hr;have HRR:=ah hr;clear hr hk4 hk44 h40 h41 htx hzs
    go_wp2_with fail
    go_loopg [3] 0 (fun g x wr=>x=.int .i64 0/\W1=wr)
    case atStart=>exact⟨rfl,rfl⟩
    obtain⟨rfl,rfl⟩:=hrel;go_wp2_with fail
    go_loopg [5] 0 (fun g x wr=>x=.int .i64 0/\W1=wr)
    case atStart=>exact⟨rfl,rfl⟩
    obtain⟨rfl,rfl⟩:=hrel;go_wp2;go_ret;exact⟨by rw[HRR.out];rfl,HB1.out⟩
   have f4:(k0 == 4)=false:=rX.2 hk44;have hk5:(5:Int)<=k0:=by omega
   have hk8:k0<=8:=HLO.out.2;have htt:t0.length=0:=by have:=HUS.out.2.1;omega
   have hr3:=HR2.out;rw[rU hk4]at hr3
   have HR3:Hid (R=if Cel.longs ts=true then 44 else Cel.numsWrong (k0 - 4) ns):=by
    rw[hr3];by_cases hl:Cel.longs ts=true
    ·rw[rY (.inr hl),rY hl];exact ah rfl
    rw[rU (by rintro(h|h);omega;exact hl h),rU hl];exact ah rfl
   clear hr3 HR2 hk4 hk44 h40 h41 htt;go_wp2_with fail
   go_loopg [3] nn (fun g x wr=> ∃k m:Nat,x=.int .i64 k/\k+g=nn/\W1.drewN m=wr/\ ∀(j:Nat) y,j<k->ns[j]?=some y->Cel.numWrong (k0 - 4) y=0)
   case atStart=>exact⟨0,0,rfl,by omega,rfl,fun j y hj=>by omega⟩
   obtain⟨k,m,rfl,hk,rfl,hz⟩:=hrel;have HZ:=ah hz;have HK:=ah hk
   have hkI:(k:Int)<=40:=by omega
   clear hz;cases gk with
   |zero=>
    obtain rfl:k=nn:=by omega
    have hall:Cel.numsWrong (k0 - 4) ns=0:=numsWrong_zero (fun y hy=>by
     obtain⟨j,hj,e⟩:=uV hy
     exact HZ.out j y (by have:=HNN.out;omega) (by rw[ay hj,e]))
    have HA:=ah hall;clear hk hall;go_wp2_with fail
    go_loopg [5] tn (fun g x wr=> ∃j m:Nat,x=.int .i64 j/\j+g=tn/\W1.drewN m=wr/\ ∀(i:Nat) y,i<j->ts[i]?=some y->y.length<=1000)
    case atStart=>exact⟨0,m,rfl,by omega,rfl,fun j y hj=>by omega⟩
    obtain⟨j,m,rfl,hj,rfl,hz⟩:=hrel;have HZ2:=ah hz;have HJ:=ah hj
    have hjI:(j:Int)<=40:=by omega
    clear hz;cases gk with
    |zero=>
     obtain rfl:j=tn:=by omega
     have hr:R=0:=by
      rw[HR3.out,rU,HA.out];rw[longs_false]
      ·decide
      intro y hy;obtain⟨i,hi,e⟩:=uV hy
      exact HZ2.out i y (by have:=HTN.out;omega) (by rw[ay hi,e])
     have HRR:=ah hr;clear hj hr;go_wp2;go_ret
     exact⟨by rw[HRR.out];rfl,below_drewN HB1.out _⟩
    |succ g=>
     have hjn:j<tn:=by omega
     have hjnI:(j:Int)<tn:=by omega
     have hjl:j<ts.length:=by rw[HTN.out];exact hjn
     obtain⟨p,o,x,rfl,hpB,hx,hp⟩:=RA2.out.cell hjn;rw[tu,ay hjl]at hx
     obtain rfl:=(tN hx).symm;obtain⟨y,hy⟩:=aj (ts[j]);rw[hy]at hp
     have hyl:y.length<=1073741824:=HSZ.out y (by rw[<-hy];exact AO _)
     have hyj:ts[j]?=some y:=by rw[ay hjl,hy]
     obtain⟨zy,hzy⟩:=aj (⟨y.toArray⟩:ByteArray);unfold ST at hp;rw[hzy]at hp
     have hzs:zy.size=y.length:=by rw[<-hzy];exact size_list _
     have HYJ:=ah hyj;by_cases hy1:1000<y.length
     ·have hr:R=44:=by rw[HR3.out,rY (longs_true (sK HYJ.out) hy1)]
      have HRR:=ah hr;have f6:decide (1000<zy.size)=true:=rQ (by omega)
      have f6':(1000:Int)<zy.size:=by omega
      clear hx hj hjl hy hyj hzy hzs hr hy1 hyl;go_wp2;go_ret
      exact⟨by rw[HRR.out];rfl,below_drewN HB1.out _⟩
     have f6:decide (1000<zy.size)=false:=rO (by omega)
     have f6':(zy.size:Int)<=1000:=by omega
     have HY1:=ah hy1;clear hx hj hjl hy hyj hzy hzs hy1 hyl;go_wp2
     go_roundg g
     case measure=>omega
     refine⟨j+1,m,int_eq' (by omega),by have:=HJ.out;omega,rfl,fun i q hi hq=> ?_⟩
     by_cases e:i=j
     ·rw[e,HYJ.out]at hq
      cases hq;have:=HY1.out;omega
     exact HZ2.out i q (by omega) hq
   |succ g=>
    have hkn:k<nn:=by omega
    have hknI:(k:Int)<nn:=by omega
    have hkl:k<ns.length:=by rw[HNN.out];exact hkn
    obtain⟨p,o,x,rfl,hpB,hx,hp⟩:=RA1.out.cell hkn;rw[tu,ay hkl]at hx
    obtain rfl:=(tN hx).symm;obtain⟨y,hy⟩:=aj (ns[k]);rw[hy]at hp;unfold I64 at hp
    have hyk:ns[k]?=some y:=by rw[ay hkl,hy]
    have hcall:=fun(W:World)=>(refNumWrong_any (k0 - 4) y W (by unfold Cel.In64;omega) (HNUMS.out y (sK hyk))).mono fun e w' (h:_/\W=w')=>(⟨h.1,h.2.symm⟩:e=.returned (.int .i64 (Cel.numWrong (k0 - 4) y:Nat))/\w'=W)
    obtain⟨er,her⟩:=aj (Cel.numWrong (k0 - 4) y);rw[her]at hcall;have HC:=ah hcall
    have HYK:=ah hyk;have HER:=ah her
    have r1:IntKind.i64.wrap (k0 - 4)=k0 - 4:=IntWalk.i64_in _ (by omega)
    by_cases he:er=0
    ·subst he
     clear hx hk hkl hy hyk hcall her;go_wp2_with fail
     go_quiet ((go_at_call 130;exact quiet_add_same (HC.out _)))
     go_wp2
     go_roundg g
     case measure=>omega
     refine⟨k+1,m+nq,int_eq' (by omega),by have:=HK.out;omega,rfl,fun i q hi hq=> ?_⟩
     by_cases e:i=k
     ·rw[e,HYK.out]at hq
      cases hq;exact HER.out
     exact HZ.out i q (by omega) hq
    have hw1:Cel.numsWrong (k0 - 4) ns=er:=numsWrong_at he k y HYK.out HER.out HZ.out
    have hr:R=er:=by
     have huf:=HUS.out;have htz:tn=0:=by have:=huf.2.2.2;have:=huf.2.2.1;omega
     have hte:ts=[]:=sH (by rw[HTN.out];exact htz)
     rw[HR3.out,rU (by rw[hte];exact fun h=>by cases h),hw1]
    have heb:((er:Int) !=0)=true:=by rw[tH];omega
    have HRR:=ah hr;clear hx hk hkl hy hyk hcall her hw1 hr he;go_wp2_with fail
    go_quiet ((go_at_call 130;exact quiet_add_same (HC.out _)))
    go_wp2;go_ret;exact⟨by rw[HRR.out];rfl,below_drewN HB1.out _⟩
 end Go.Proofs.YtanlehkalkafdaaGreatDoor
