/- Contracts and plain laws,part 42. -/
import Derived.Test.YtanlehkalkafdaaGreatDoorUR35
import Derived.Test.YtanlehkalkafdaaGreatDoorUR37
import Derived.Test.YtanlehkalkafdaaGreatDoorUR41
set_option maxHeartbeats 64000000
set_option maxRecDepth 1000000
set_option linter.all false
namespace Go.Proofs.YtanlehkalkafdaaGreatDoor
open Go.RowKit
structure bW {α:Type} (H:List (List UInt8)) (P:α->List (List UInt8)) (F:α->List UInt8->List UInt8) (aC:List (List UInt8)) (ns0:List α) (B:Nat) (v:Value) (W V:World):Prop where
 ex: ∃(ks:List (List UInt8)) (ns:List α),ks.Perm aC/\ns.Perm ns0/\OwnRows V B v (aF H P F ks ns)
 bel:Below B W V
section
variable {α:Type} {H:List (List UInt8)} {P:α->List (List UInt8)} {F:α->List UInt8->List UInt8} {aC:List (List UInt8)} {ns0:List α} {B n c m:Nat} {A:Option Addr} {v:Value} {W V:World}
theorem bW.swap (h:bW H P F aC ns0 B (.slice A n c) W V) {i:Nat} (hi:i<ns0.length): ∃gb A1 l1 c1 A2 l2 c2,A=some ⟨gb,0,none⟩/\V.cell? ⟨gb,1,none⟩=some (.slice A1 l1 c1)/\V.cell? ⟨gb,1+i,none⟩=some (.slice A2 l2 c2)/\V.frozen? ⟨gb,1,none⟩=false/\
  (∃u,(V.setCell ⟨gb,1,none⟩ (.slice A2 l2 c2)).cell? ⟨gb,1+i,none⟩=some u)/\(V.setCell ⟨gb,1,none⟩ (.slice A2 l2 c2)).frozen? ⟨gb,1+i,none⟩=false/\bW H P F aC ns0 B (.slice A n c) W ((V.setCell ⟨gb,1,none⟩ (.slice A2 l2 c2)).setCell ⟨gb,1+i,none⟩ (.slice A1 l1 c1)).drew:=by
 obtain⟨ks,ns,pk,pn,ho⟩:=h.ex
 have hl:(aF H P F ks ns).length=ns.length+1:=by unfold aF;rw[sS,sU]
 have hn:ns.length=ns0.length:=pn.length_eq
 obtain⟨gb,A1,l1,c1,A2,l2,c2,e,hg,h1,h2,h3,h4,h5,h6⟩:=ho.swap (i:=1) (j:=1+i) (by omega) (by omega)
 rw[pz H P F ks ns (by omega)]at h6
 exact⟨gb,A1,l1,c1,A2,l2,c2,e,h1,h2,h3,h4,h5,⟨ks,_,pk,(Tb.swapK_perm _ _ _).trans pn,h6⟩,((h.bel.setCell (p:=⟨gb,1,none⟩) (show B<=gb by omega) _).setCell (p:=⟨gb,1+i,none⟩) (show B<=gb by omega) _).drew⟩
theorem bW.row0 (h:bW H P F aC ns0 B (.slice A n c) W V) (hH:H.length=m): ∃gb A0 c0,A=some ⟨gb,0,none⟩/\V.cell? ⟨gb,0,none⟩=some (.slice A0 (m+aC.length) c0):=by
 obtain⟨ks,ns,pk,pn,ho⟩:=h.ex;obtain⟨gb,A0,c0,e,hc⟩:=ho.row (k:=0) (r:=H++ks) rfl
 rw[rP,hH,pk.length_eq]at hc;exact⟨gb,A0,c0,e,hc⟩
end
structure bC (R:List (List (List UInt8))) (B i j k:Nat) (v:Value) (W V:World):Prop where
 own:OwnRows V B v (partly (fun r=>Tb.swapK r i j) k R)
 bel:Below B W V
section
variable {R:List (List (List UInt8))} {B i j k n c wd:Nat} {A:Option Addr} {v:Value} {W V:World}
theorem bC.row0 (h:bC R B i j k (.slice A n c) W V) (hw: ∀r∈R,r.length=wd) (h0:0<R.length): ∃gb A0 c0,A=some ⟨gb,0,none⟩/\V.cell? ⟨gb,0,none⟩=some (.slice A0 wd c0):=by
 obtain⟨r,hr⟩: ∃r,(partly (fun r=>Tb.swapK r i j) k R)[0]?=some r:=⟨_,ay (by rw[pG];exact h0)⟩
 obtain⟨gb,A0,c0,e,hc⟩:=h.own.row hr;rw[pJ (fun r=>jI r i j) hw r (sK hr)]at hc
 exact⟨gb,A0,c0,e,hc⟩
theorem bC.swap (h:bC R B i j k (.slice A n c) W V) (hw: ∀r∈R,r.length=wd) (hk:k<R.length) (hi:i<wd) (hj:j<wd): ∃gb g cr zi zj,A=some ⟨gb,0,none⟩/\V.cell? ⟨gb,k,none⟩=some (.slice (some ⟨g,0,none⟩) wd cr)/\V.cell? ⟨g,i,none⟩=some (.string zi)/\V.cell? ⟨g,j,none⟩=some (.string zj)/\V.frozen? ⟨g,i,none⟩=false/\
  (∃u,(V.setCell ⟨g,i,none⟩ (.string zj)).cell? ⟨g,j,none⟩=some u)/\(V.setCell ⟨g,i,none⟩ (.string zj)).frozen? ⟨g,j,none⟩=false/\bC R B i j (k+1) (.slice A n c) W ((V.setCell ⟨g,i,none⟩ (.string zj)).setCell ⟨g,j,none⟩ (.string zi)).drew:=by
 obtain⟨r,hr⟩: ∃r,R[k]?=some r:=⟨_,ay hk⟩;have hl:=hw r (sK hr)
 obtain⟨s1,s2⟩:=pI (fun r=>Tb.swapK r i j) hr
 obtain⟨gb,g,cr,zi,zj,e,hg,h1,h2,h3,h4,h5,h6,h7⟩:=h.own.cols s1 (i:=i) (j:=j) (by omega) (by omega)
 rw[s2]at h7;rw[hl]at h1
 exact⟨gb,g,cr,zi,zj,e,h1,h2,h3,h4,h5,h6,h7,((h.bel.setCell (p:=⟨g,i,none⟩) (show B<=g by omega) _).setCell (p:=⟨g,j,none⟩) (show B<=g by omega) _).drew⟩
end
theorem mJ {α:Type} (H:List (List UInt8)) (P:α->List (List UInt8)) (F:α->List UInt8->List UInt8) (m:Nat) (hH:H.length=m) (hP: ∀n,(P n).length=m) (hm0:0<m) (hm:m<=8) (aC:List (List UInt8)) (ns0:List α)
  (hw: ∀ks ns,ks.Perm aC->ns.Perm ns0->Csv.wRows (aF H P F ks ns)<=8388608) (s:ByteArray) (hs:s.data.toList=(aF H P F aC ns0).flatMap Csv.printRow) (um:Value) (mx:List Int) (B0:Nat) (w:World) (hmx:fP w B0 um mx) (hB0:B0<=w.heap.size):
  Calls Tryz.prog 17 #[.string s,.int .i64 m,um] w fun e w'=> ∃ks ns,ks.Perm aC/\ns.Perm ns0/\e=.returned (.string ⟨((aF H P F ks ns).flatMap Csv.printRow).toArray⟩)/\Below w.heap.size w w':=by
 have hwd: ∀(ks:List (List UInt8)) (ns:List α),ks.Perm aC-> ∀r∈aF H P F ks ns,r.length=m+aC.length:=fun ks ns pk r hr=>by rw[pF H P F hH hP ks ns r hr,pk.length_eq]
 have hne: ∀(ks:List (List UInt8)) (ns:List α),ks.Perm aC-> []∉aF H P F ks ns:=fun ks ns pk h=>by
  have:=hwd ks ns pk [] h;rw[uO]at this;omega
 have hw0:=hw aC ns0 (.refl _) (.refl _)
 have hsl:s.size<=8388608:=by rw[Lib.size_eq,hs];exact rV (printRows_len _) hw0
 have hrd:=refCsvParse_any s (by omega) w
 rw[hs,Csv.rows_print _ (hne aC ns0 (.refl _))]at hrd
 have hrn: ∀(ks:List (List UInt8)) (ns:List α),ns.Perm ns0->(aF H P F ks ns).length=ns0.length+1:=fun ks ns pn=>by
  unfold aF;rw[sS,sU,pn.length_eq]
 have hrl:ns0.length+1<=8388608:=by rw[<-hrn aC ns0 (.refl _)];exact rV (len_le_wRows _) hw0
 have hkl:m+aC.length<=8388608:=by
  have h1:=hwd aC ns0 (.refl _) (H++aC) (wX ..);have h2:=hw0;unfold aF at h2
  rw[wRows_cons]at h2;have h3:=len_le_wRow (H++aC);omega
 have iU:=hmx.ok;obtain⟨Am,cm,rfl,hmr⟩:=hmx.ex;obtain⟨mn,hmn⟩:=aj mx.length
 obtain⟨nn,hnn⟩:=aj ns0.length;obtain⟨kn,hkn⟩:=aj aC.length;obtain⟨N,hN⟩:=aj (nn+1)
 obtain⟨wd,kT⟩:=aj (m+kn);rw[hmn]at iU hmr⊢;rw[hnn,hN]at hrn hrl
 rw[hkn,kT]at hwd hkl;simp only[yO]at hrd;have HRD:=ah hrd;have HW:=ah hw
 have og:=ah hwd;have HNE:=ah hne;have HRN:=ah hrn;have HHP:=ah (And.intro hH hP)
 have HNK:=ah (show ns0.length=nn/\aC.length=kn/\nn+1=N/\m+kn=wd/\0<m from⟨hnn,hkn,hN,kT,hm0⟩)
 have iV:=ah (fun(V:World) (hb:Below w.heap.size w V)=>hmr.below (hb.mono hB0))
 have hN0:((N:Int) == 0)=false:=by rw[rX];omega
 have hN1:(N:Int) - 1=(nn:Int):=by omega
 have pO:(wd:Int) -(m:Int)=(kn:Int):=by omega
 have rF:(N:Int)<=8388608:=by omega
 have rG:(wd:Int)<=8388608:=by omega
 have hmI:(m:Int)<=8:=by omega
 have rH:(0:Int)<m:=by omega
 have hmnI:(mn:Int)<=1048576:=by omega
 have pm:(0:Int)<=(m:Int):=by omega
 have tm:((m:Int)).toNat=m:=by omega
 have rJ:(m:Int)<=(wd:Int):=by omega
 clear hrd hw hwd hne hrn hw0 hsl hrl hkl hmx hmr iU hH hP hN kT hs hnn hkn hmn hm0
 go_enter Tryz.func17,Tryz.ntmps17;go_wp2_with fail;refine HRD.mono ?_
 rintro e w1 ⟨v,rfl,ho,hb⟩;obtain⟨A,c,rfl⟩:=ho.form
 have HS1:=ah (show bW H P F aC ns0 w.heap.size (.slice A N c) w w1 from⟨⟨aC,ns0,.refl _,.refl _,by rw[HRN.out aC ns0 (.refl _)]at ho;exact ho⟩,hb⟩)
 rw[HRN.out aC ns0 (.refl _)];clear ho hb HRD;go_wp2_with fail
 go_loopg [34] mn (fun q x wr=> ∃k:Nat,x=.int .i64 k/\k+q=mn/\Hid (bW H P F aC ns0 w.heap.size (.slice A N c) w wr))
 case atStart=>exact⟨0,rfl,by omega,HS1.out⟩
 obtain⟨k,rfl,hk,hs⟩:=hrel
 have HS:Hid (bW H P F aC ns0 w.heap.size (.slice A N c) w wr):=hs;clear hs HS1
 cases gk with
 |zero=>
  obtain rfl:mn=k:=by omega
  obtain⟨ks,ns,qk,qn,ho⟩:=HS.ex
  have hpr:Calls Tryz.prog 29 #[.slice A N c] wr fun e w'=>e=.returned (.tuple #[.string ⟨((aF H P F ks ns).flatMap Csv.printRow).toArray⟩,.int .i64 0])/\Below wr.heap.size wr w':=by
   have h1:=refCsvPrint_any _ _ wr (Rows2.of_own ho) (rV (HW.out ks ns qk qn) (by decide))
   rw[Csv.print_some (HNE.out ks ns qk)]at h1;exact h1
  have HPR:=ah hpr;have HQ:=ah (And.intro qk qn);have HBL:=ah HS.bel
  clear hpr ho qk qn HS hk;go_wp2_with fail;refine HPR.mono ?_;rintro e w9 ⟨rfl,b9⟩
  have HB9:=ah (HBL.trans (b9.mono HBL.size));clear b9;go_wp2;go_ret
  exact⟨ks,ns,HQ.out.1,HQ.out.2,rfl,HB9.out⟩
 |succ q=>
  have hkn:k<mn:=by omega
  have hknI:(k:Int)<mn:=by omega
  have pk:(0:Int)<=(k:Int):=by omega
  have tk:((k:Int)).toNat=k:=by omega
  obtain⟨p,o,x,rfl,-,hx,hp⟩:=(iV.out wr HS.bel).cell hkn;rw[tu]at hx
  obtain⟨z,-,rfl⟩:=uP.1 hx;unfold I64 at hp;obtain⟨a,ha,hand⟩:=qF z
  obtain⟨a2,hand2⟩:=qG z;have HK:=ah hk;clear hkn hx hk
  rcases Decidable.em (nn=0) with hn0|hn0<;>rcases Decidable.em (kn=0) with hk0|hk0
  ·
   have tn:decide (0<nn)=false:=rO (by omega)
   have kU:decide ((0:Int)<(nn:Int))=false:=rO (by omega)
   have kV: ¬(0:Int)<(nn:Int):=by omega
   have tk:decide (0<kn)=false:=rO (by omega)
   have kW:decide ((0:Int)<(kn:Int))=false:=rO (by omega)
   have kX: ¬(0:Int)<(kn:Int):=by omega
   have kY:=ah hn0;have HK0:=ah hk0;clear hn0 hk0
   obtain⟨gb,Y0,kZ,e0,dK⟩:=HS.row0 HHP.out.1;rw[HNK.out.2.1,HNK.out.2.2.2.1]at dK
   cases e0;go_wp2
   go_roundg q
   case measure=>omega
   exact⟨k+1,int_eq (by omega),by have:=HK.out;omega,HS.out⟩
  ·
   have tn:decide (0<nn)=false:=rO (by omega)
   have kU:decide ((0:Int)<(nn:Int))=false:=rO (by omega)
   have kV: ¬(0:Int)<(nn:Int):=by omega
   have tk:decide (0<kn)=true:=rQ (by omega)
   have kW:decide ((0:Int)<(kn:Int))=true:=rQ (by omega)
   have kX:(0:Int)<(kn:Int):=by omega
   have qH:((kn:Int) == 0)=false:=by rw[rX];omega
   have qI:((kn:Int)=0)=False:=eq_false (by omega)
   have kY:=ah hn0;have HK0:=ah hk0;clear hn0 hk0
   obtain⟨gb,Y0,kZ,e0,dK⟩:=HS.row0 HHP.out.1;rw[HNK.out.2.1,HNK.out.2.2.2.1]at dK
   cases e0;obtain⟨i4,hi4⟩:=aj (a2 % kn);have fK:i4<kn:=hi4▸y7 _ (by have:=HK0.out;omega)
   have qJ:Int.tmod (a2:Int) (kn:Int)=(i4:Int):=by rw[<-hi4];exact(zC a2 kn).symm
   obtain⟨i5,hi5⟩:=aj (m+i4);have qK:(m:Int)+(i4:Int)=(i5:Int):=by omega
   have qL:(i5:Int)<(wd:Int):=by have:=HNK.out.2.2.2.1;omega
   have qM:(0:Int)<=(i5:Int):=by omega
   have qN:((i5:Int)).toNat=i5:=by omega
   have qO:(m:Int)<(wd:Int):=by omega
   have iK:=ah (And.intro fK hi5);obtain⟨ks,ns,qk,qn,ho⟩:=HS.ex
   have hrn:=HRN.out ks ns qn;have hwd:=og.out ks ns qk
   have HEND:=ah (show(aF H P F ks ns).map (fun r=>Tb.swapK r m i5)=aF H P F (Tb.swapK ks 0 i4) ns by
    rw[<-hi5];exact mD H P F HHP.out.1 HHP.out.2 ks ns (by rw[qk.length_eq,HNK.out.2.1];exact fK))
   have HQ:=ah (And.intro ((Tb.swapK_perm ks 0 i4).trans qk) qn)
   obtain⟨R,hR⟩:=aj (aF H P F ks ns);rw[hR]at ho hrn hwd HEND
   have HR:=ah (And.intro hrn hwd)
   have HC:=ah (show bC R w.heap.size m i5 0 (.slice (some ⟨gb,0,none⟩) N c) w wr from⟨by rw[mF];exact ho,HS.bel⟩)
   clear fK hi4 hi5 ho hrn hwd hR HS;go_wp2_with fail;clear dK
   go_loopg [76] N (fun q x wr=> ∃j:Nat,x=.int .i64 j/\j+q=N/\Hid (bC R w.heap.size m i5 j (.slice (some ⟨gb,0,none⟩) N c) w wr))
   case atStart=>exact⟨0,rfl,by omega,HC.out⟩
   obtain⟨j,rfl,hj,hs⟩:=hrel
   have HC2:Hid (bC R w.heap.size m i5 j (.slice (some ⟨gb,0,none⟩) N c) w wr):=hs
   clear hs HC;cases gk with
   |zero=>
    have lg:=ah (show bW H P F aC ns0 w.heap.size (.slice (some ⟨gb,0,none⟩) N c) w wr from⟨⟨_,_,HQ.out.1,HQ.out.2,by
     have h1:=HC2.own
     rwa [mG _ (by rw[HR.out.1];omega),HEND.out]at h1⟩,HC2.bel⟩)
    go_wp2
    go_roundg q
    case measure=>omega
    exact⟨k+1,int_eq (by omega),by have:=HK.out;omega,lg.out⟩
   |succ q2=>
    have hjn:j<N:=by omega
    have hjnI:(j:Int)<N:=by omega
    have pj:(0:Int)<=(j:Int):=by omega
    have tj:((j:Int)).toNat=j:=by omega
    obtain⟨lq,Y1,qP,e1,lu⟩:=HC2.row0 HR.out.2 (by rw[HR.out.1];omega)
    cases e1
    obtain⟨lq,g,cr,zi,zj,e1,cz,ci,cj,fi,hsw⟩:=HC2.swap HR.out.2 (k:=j) (by rw[HR.out.1];exact hjn) (by omega) (by omega)
    cases e1;have HSW:=ah hsw;have HJ:=ah hj;clear hsw hj
    go_upto_region 18 with fail
    obtain⟨⟨u2,cj2⟩,fj2,bV⟩:=HSW.out;have aB:=ah bV;clear bV HSW HC2
    go_big_region
    obtain⟨w6,hw6⟩:=aj (((wr.setCell ⟨g,m,none⟩ (.string zj)).setCell ⟨g,i5,none⟩ (.string zi)).drew)
    rw[hw6]at aB⊢;clear lu cz ci cj fi cj2 fj2 hw6;go_wp2
    go_roundg q2
    case measure=>omega
    exact⟨j+1,int_eq (by omega),by have:=HJ.out;omega,aB.out⟩
  ·
   have tn:decide (0<nn)=true:=rQ (by omega)
   have kU:decide ((0:Int)<(nn:Int))=true:=rQ (by omega)
   have kV:(0:Int)<(nn:Int):=by omega
   have qQ:((nn:Int) == 0)=false:=by rw[rX];omega
   have qR:((nn:Int)=0)=False:=eq_false (by omega)
   have tk:decide (0<kn)=false:=rO (by omega)
   have kW:decide ((0:Int)<(kn:Int))=false:=rO (by omega)
   have kX: ¬(0:Int)<(kn:Int):=by omega
   have kY:=ah hn0;have HK0:=ah hk0;obtain⟨i2,hi2⟩:=aj (a % nn)
   have hil:i2<nn:=hi2▸y7 _ (by omega)
   have hmod:Int.tmod (a:Int) (nn:Int)=(i2:Int):=by rw[<-hi2];exact(zC a nn).symm
   obtain⟨i1,hi1⟩:=aj (1+i2);have hadd:(1:Int)+(i2:Int)=(i1:Int):=by omega
   have hsw:=HS.swap (i:=i2) (by rw[HNK.out.1];exact hil)
   rw[hi1]at hsw;obtain⟨gb,X1,l1,c1,X2,l2,c2,rfl,lC,lD,fz0,hsw⟩:=hsw;have HSW:=ah hsw
   have lF:(1:Int)<(N:Int):=by have:=HNK.out.2.2.1;omega
   have lG:(i1:Int)<(N:Int):=by have:=HNK.out.2.2.1;omega
   have lH:(0:Int)<=(i1:Int):=by omega
   have ti1:((i1:Int)).toNat=i1:=by omega
   clear hsw hil hi1 hi2
   go_upto_region 10 with fail
   obtain⟨⟨u2,lI⟩,fz2,bV⟩:=HSW.out;have aB:=ah bV;clear bV HSW HS
   go_big_region
   go_upto_region 11 with fail
   obtain⟨w5,hw5⟩:=aj (((wr.setCell ⟨gb,1,none⟩ (.slice X2 l2 c2)).setCell ⟨gb,i1,none⟩ (.slice X1 l1 c1)).drew)
   rw[hw5]at aB⊢;clear lC lD lI fz0 fz2 hw5 hmod lG lH ti1 lF hadd;clear hn0 hk0
   have HS:=aB;clear aB;obtain⟨gb',Y0,kZ,e0,dK⟩:=HS.row0 HHP.out.1
   rw[HNK.out.2.1,HNK.out.2.2.2.1]at dK;cases e0;go_wp2
   go_roundg q
   case measure=>omega
   exact⟨k+1,int_eq (by omega),by have:=HK.out;omega,HS.out⟩
  have tn:decide (0<nn)=true:=rQ (by omega)
  have kU:decide ((0:Int)<(nn:Int))=true:=rQ (by omega)
  have kV:(0:Int)<(nn:Int):=by omega
  have qQ:((nn:Int) == 0)=false:=by rw[rX];omega
  have qR:((nn:Int)=0)=False:=eq_false (by omega)
  have tk:decide (0<kn)=true:=rQ (by omega)
  have kW:decide ((0:Int)<(kn:Int))=true:=rQ (by omega)
  have kX:(0:Int)<(kn:Int):=by omega
  have qH:((kn:Int) == 0)=false:=by rw[rX];omega
  have qI:((kn:Int)=0)=False:=eq_false (by omega)
  have kY:=ah hn0;have HK0:=ah hk0;obtain⟨i2,hi2⟩:=aj (a % nn)
  have hil:i2<nn:=hi2▸y7 _ (by omega)
  have hmod:Int.tmod (a:Int) (nn:Int)=(i2:Int):=by rw[<-hi2];exact(zC a nn).symm
  obtain⟨i1,hi1⟩:=aj (1+i2);have hadd:(1:Int)+(i2:Int)=(i1:Int):=by omega
  have hsw:=HS.swap (i:=i2) (by rw[HNK.out.1];exact hil)
  rw[hi1]at hsw;obtain⟨gb,X1,l1,c1,X2,l2,c2,rfl,lC,lD,fz0,hsw⟩:=hsw;have HSW:=ah hsw
  have lF:(1:Int)<(N:Int):=by have:=HNK.out.2.2.1;omega
  have lG:(i1:Int)<(N:Int):=by have:=HNK.out.2.2.1;omega
  have lH:(0:Int)<=(i1:Int):=by omega
  have ti1:((i1:Int)).toNat=i1:=by omega
  clear hsw hil hi1 hi2
  go_upto_region 10 with fail
  obtain⟨⟨u2,lI⟩,fz2,bV⟩:=HSW.out;have aB:=ah bV;clear bV HSW HS
  go_big_region
  go_upto_region 11 with fail
  obtain⟨w5,hw5⟩:=aj (((wr.setCell ⟨gb,1,none⟩ (.slice X2 l2 c2)).setCell ⟨gb,i1,none⟩ (.slice X1 l1 c1)).drew)
  rw[hw5]at aB⊢;clear lC lD lI fz0 fz2 hw5 hmod lG lH ti1 lF hadd;clear hn0 hk0
  have HS:=aB;clear aB;obtain⟨gb',Y0,kZ,e0,dK⟩:=HS.row0 HHP.out.1
  rw[HNK.out.2.1,HNK.out.2.2.2.1]at dK;cases e0;obtain⟨i4,hi4⟩:=aj (a2 % kn)
  have fK:i4<kn:=hi4▸y7 _ (by have:=HK0.out;omega)
  have qJ:Int.tmod (a2:Int) (kn:Int)=(i4:Int):=by rw[<-hi4];exact(zC a2 kn).symm
  obtain⟨i5,hi5⟩:=aj (m+i4);have qK:(m:Int)+(i4:Int)=(i5:Int):=by omega
  have qL:(i5:Int)<(wd:Int):=by have:=HNK.out.2.2.2.1;omega
  have qM:(0:Int)<=(i5:Int):=by omega
  have qN:((i5:Int)).toNat=i5:=by omega
  have qO:(m:Int)<(wd:Int):=by omega
  have iK:=ah (And.intro fK hi5);obtain⟨ks,ns,qk,qn,ho⟩:=HS.ex;have hrn:=HRN.out ks ns qn
  have hwd:=og.out ks ns qk
  have HEND:=ah (show(aF H P F ks ns).map (fun r=>Tb.swapK r m i5)=aF H P F (Tb.swapK ks 0 i4) ns by
   rw[<-hi5];exact mD H P F HHP.out.1 HHP.out.2 ks ns (by rw[qk.length_eq,HNK.out.2.1];exact fK))
  have HQ:=ah (And.intro ((Tb.swapK_perm ks 0 i4).trans qk) qn)
  obtain⟨R,hR⟩:=aj (aF H P F ks ns);rw[hR]at ho hrn hwd HEND
  have HR:=ah (And.intro hrn hwd)
  have HC:=ah (show bC R w.heap.size m i5 0 (.slice (some ⟨gb,0,none⟩) N c) w w5 from⟨by rw[mF];exact ho,HS.bel⟩)
  clear fK hi4 hi5 ho hrn hwd hR HS;go_wp2_with fail;clear dK
  go_loopg [76] N (fun q x wr=> ∃j:Nat,x=.int .i64 j/\j+q=N/\Hid (bC R w.heap.size m i5 j (.slice (some ⟨gb,0,none⟩) N c) w wr))
  case atStart=>exact⟨0,rfl,by omega,HC.out⟩
  obtain⟨j,rfl,hj,hs⟩:=hrel
  have HC2:Hid (bC R w.heap.size m i5 j (.slice (some ⟨gb,0,none⟩) N c) w wr):=hs
  clear hs HC;cases gk with
  |zero=>
   have lg:=ah (show bW H P F aC ns0 w.heap.size (.slice (some ⟨gb,0,none⟩) N c) w wr from⟨⟨_,_,HQ.out.1,HQ.out.2,by
    have h1:=HC2.own
    rwa [mG _ (by rw[HR.out.1];omega),HEND.out]at h1⟩,HC2.bel⟩)
   go_wp2
   go_roundg q
   case measure=>omega
   exact⟨k+1,int_eq (by omega),by have:=HK.out;omega,lg.out⟩
  |succ q2=>
   have hjn:j<N:=by omega
   have hjnI:(j:Int)<N:=by omega
   have pj:(0:Int)<=(j:Int):=by omega
   have tj:((j:Int)).toNat=j:=by omega
   obtain⟨lq,Y1,qP,e1,lu⟩:=HC2.row0 HR.out.2 (by rw[HR.out.1];omega)
   cases e1
   obtain⟨lq,g,cr,zi,zj,e1,cz,ci,cj,fi,hsw⟩:=HC2.swap HR.out.2 (k:=j) (by rw[HR.out.1];exact hjn) (by omega) (by omega)
   cases e1;have HSW:=ah hsw;have HJ:=ah hj;clear hsw hj
   go_upto_region 18 with fail
   obtain⟨⟨u2,cj2⟩,fj2,bV⟩:=HSW.out;have aB:=ah bV;clear bV HSW HC2
   go_big_region
   obtain⟨w6,hw6⟩:=aj (((wr.setCell ⟨g,m,none⟩ (.string zj)).setCell ⟨g,i5,none⟩ (.string zi)).drew)
   rw[hw6]at aB⊢;clear lu cz ci cj fi cj2 fj2 hw6;go_wp2
   go_roundg q2
   case measure=>omega
   exact⟨j+1,int_eq (by omega),by have:=HJ.out;omega,aB.out⟩
end Go.Proofs.YtanlehkalkafdaaGreatDoor
namespace Go.Proofs.YtanlehkalkafdaaGreatDoor
open Go.RowKit
theorem pK (u:Value) (g:Gr.G) (um:Value) (mx:List Int) (w:World) (h:GIn w w.heap.size u g) (hmx:fP w w.heap.size um mx) (hL:Laid w):
  Calls Tryz.prog 7 #[u,um] w fun e w'=>e=.returned (.bool true)/\Below w.heap.size w w':=by
 have hok:=h.ok;obtain⟨nn,hnn⟩:=aj g.nodes.length;obtain⟨rn,hrn⟩:=aj g.rels.length
 obtain⟨A1,c1,A2,c2,rfl⟩:=h.form hnn hrn
 obtain⟨W1,hW1⟩:=aj (w.alloc (.cells #[.slice A1 nn c1,.slice A2 rn c2] 25))
 have hb1:Below w.heap.size w W1:=hW1▸(Below.refl _ w).alloc (rM _) _
 have hk1:Blk W1 w.heap.size 25 #[.slice A1 nn c1,.slice A2 rn c2]:=hW1▸Blk.new _ _ _
 have HSP:=ah (jG W1 (fun V hV=>hL.below (hb1.trans (hV.mono hb1.size))))
 have HW1:=ah hW1;have HB1:=ah hb1;have HK1:=ah hk1
 have HG:=ah (fun(V:World) (hb:Below w.heap.size w V)=>h.below hb)
 have HOK:=ah hok;have HL:=ah hL;have HNN:=ah (And.intro hnn hrn);have iU:=hmx.ok
 have iV:=ah (fun(V:World) (hb:Below w.heap.size w V)=>hmx.below hb)
 obtain⟨Am,cm,rfl,hmr⟩:=hmx.ex;obtain⟨mn,hmn⟩:=aj mx.length;rw[hmn]at iU hmr iV⊢
 clear h hok hnn hrn hW1 hb1 hk1 hL hmx hmr iU hmn;go_enter Tryz.func7,Tryz.ntmps7
 go_upto_region 1 with fail
 rw[HW1.out];clear HW1;go_wp2_with fail;refine HSP.mono ?_;rintro e w2 ⟨rfl,b2⟩
 have HB2:=ah (HB1.trans (b2.mono HB1.size));have HK2:=ah (HK1.below b2 HK1.lt)
 clear b2 HSP;obtain⟨c0,c1⟩:=cells2 HK2.out;obtain⟨E,hE⟩:=aj ((Gr.check g).1)
 have hck:=refCheck_any w.heap.size _ g w2 (HG.out w2 HB2.out) HB2.size;rw[hE]at hck
 have HCK:=ah hck;have HE:=ah hE;clear hck hE;go_wp2_with fail;refine HCK.mono ?_
 rintro e w3 ⟨rfl,b3⟩;have HB3:=ah (HB2.trans (b3.mono HB2.size))
 have HK3:=ah (HK2.below b3 HK2.lt);clear b3 c0 c1 HCK;obtain⟨c0,c1⟩:=cells2 HK3.out
 cases E with
 |succ e=>
  have hne:(((e+1:Nat):Int) !=0)=true:=by rw[tH];omega
  go_wp2;go_ret;exact⟨rfl,HB3.out⟩
 |zero=>
  have hgood:=Gr.check_good.1 HE.out;have bY:=fine_of hgood HOK.out
  have HR:=ah (right_table bY);have HF:=ah bY
  have oh:=ah (fun(kn kr:List (List UInt8)) (ns:List Gr.N) (rs:List Gr.R) (pk:kn.Perm (Tb.keysN g)) (pr:kr.Perm (Tb.keysR g)) (pn:ns.Perm g.nodes) (ps:rs.Perm g.rels)=>table_wT bY pk pr pn ps)
  have HCP:=ah (refCopy_any w.heap.size _ g w3 (HG.out w3 HB3.out) HB3.size (small_of_good hgood))
  clear bY;clear hgood;go_wp2_with fail;refine HCP.mono ?_;rintro e w5 ⟨u5,rfl,hg5,b5⟩
  have HB5:=ah (HB3.trans (b5.mono HB3.size));have HK5:=ah (HK3.below b5 HK3.lt)
  have hpr:=jF hg5 HOK.out (HL.below HB5.out)
  obtain⟨z,hz⟩:=aj (⟨(Tb.print g).1.toArray⟩:ByteArray)
  obtain⟨y,hy⟩:=aj (⟨(Tb.print g).2.toArray⟩:ByteArray);rw[HR.out.2.1,hz,hy]at hpr
  have hzd:z.data.toList=(Tb.print g).1:=by rw[<-hz]
  have hyd:y.data.toList=(Tb.print g).2:=by rw[<-hy]
  have HT1:=ah (fun(V:World) (hb:Below w.heap.size w V)=>mJ Tb.headN (fun n:Gr.N=> [Lib.itoa n.id,Tb.joinS n.labels]) (fun n=>Tb.fieldOf n.props) 2 rfl (fun _=>rfl) (by decide) (by decide) (Tb.keysN g) g.nodes
   (fun ks ns pk pn=>(oh.out ks _ ns _ pk (.refl _) pn (.refl _)).1) z hzd _ mx w.heap.size V (iV.out V hb) hb.size)
  have HT2:=ah (fun(V:World) (hb:Below w.heap.size w V)=>mJ Tb.headR (fun n:Gr.R=> [Lib.itoa n.id,Lib.itoa n.src,Lib.itoa n.dst,n.type]) (fun n=>Tb.fieldOf n.props) 4 rfl (fun _=>rfl) (by decide) (by decide) (Tb.keysR g) g.rels
   (fun ks ns pk pn=>(oh.out _ ks _ ns (.refl _) pk (.refl _) pn).2) y hyd _ mx w.heap.size V (iV.out V hb) hb.size)
  have HPR:=ah hpr;clear hg5 b5 c0 c1 hpr hz hy hzd hyd HCP;go_wp2_with fail
  refine HPR.mono ?_;rintro e w6 ⟨rfl,b6⟩;have HB6:=ah (HB5.trans (b6.mono HB5.size))
  have HK6:=ah (HK5.below b6 HK5.lt);clear b6 HPR;go_wp2_with fail
  refine(HT1.out w6 HB6.out).mono ?_;rintro e wa ⟨kn,ns,pk,pn,rfl,ba⟩
  have lJ:=ah (HB6.trans (ba.mono HB6.size));have oq:=ah (HK6.below ba HK6.lt)
  have HP1:=ah (And.intro pk pn)
  obtain⟨z1,hz1⟩: ∃z:ByteArray,(⟨((aF Tb.headN (fun n:Gr.N=> [Lib.itoa n.id,Tb.joinS n.labels]) (fun n=>Tb.fieldOf n.props) kn ns).flatMap Csv.printRow).toArray⟩:ByteArray)=z:=⟨_,rfl⟩
  have ou:z1.data.toList=(Tb.rowsNT kn ns).flatMap Csv.printRow:=by rw[<-hz1];rfl
  rw[hz1];have HZ1:=ah ou;clear ba pk pn hz1 ou HT1;go_wp2_with fail
  refine(HT2.out wa lJ.out).mono ?_;rintro e wb ⟨kr,rs,pk,pn,rfl,bb⟩
  have iW:=ah (lJ.trans (bb.mono lJ.size));have oz:=ah (oq.below bb oq.lt)
  have HP2:=ah (And.intro pk pn)
  obtain⟨z2,hz2⟩: ∃z:ByteArray,(⟨((aF Tb.headR (fun n:Gr.R=> [Lib.itoa n.id,Lib.itoa n.src,Lib.itoa n.dst,n.type]) (fun n=>Tb.fieldOf n.props) kr rs).flatMap Csv.printRow).toArray⟩:ByteArray)=z:=⟨_,rfl⟩
  have lK:z2.data.toList=(Tb.rowsRT kr rs).flatMap Csv.printRow:=by rw[<-hz2];rfl
  rw[hz2];have hle:=table_lenT HF.out HP1.out.1 HP2.out.1 HP1.out.2 HP2.out.2
  have hpt:=Tb.parse_turned HF.out HP1.out.1 HP2.out.1 HP1.out.2 HP2.out.2 (rV hle.1 (by decide)) (rV hle.2 (by decide))
  have hps:=iZ z1 z2 (by rw[Lib.size_eq,HZ1.out];exact rV hle.1 (by decide)) (by rw[Lib.size_eq,lK];exact rV hle.2 (by decide)) wb (fun X hX=>HL.below (iW.trans (hX.mono iW.size)))
  rw[HZ1.out,lK,hpt]at hps;have dJ:=ah hps;clear bb pk pn hz2 lK hle hpt hps HT2 HZ1
  go_wp2_with fail;refine dJ.mono ?_;rintro e w7 ⟨u7,rfl,hg7,b7⟩;have aV:=hg7.gin HOK.out
  obtain⟨A3,c3,A4,c4,rfl⟩:=aV.form HNN.out.1 HNN.out.2
  obtain⟨W8,jD⟩:=aj (w7.alloc (.cells #[.slice A3 nn c3,.slice A4 rn c4] 25))
  obtain⟨gc,hgc⟩:=aj w7.heap.size
  have hb8:Below w7.heap.size w7 W8:=jD▸(Below.refl _ w7).alloc (rM _) _
  have HK8:=ah (show Blk W8 gc 25 #[.slice A3 nn c3,.slice A4 rn c4] by rw[<-jD,<-hgc];exact Blk.new _ _ _)
  have h68:Below wb.heap.size wb W8:=b7.trans (hb8.mono b7.size)
  have HK9:=ah (oz.below h68 oz.lt);have HB8:=ah (iW.trans (h68.mono iW.size))
  have qU:=ah (refSame_any w7.heap.size _ _ g W8 ((HG.out W8 HB8.out).more (rV iW.size b7.size)) (aV.below hb8) hb8.size)
  have oC:=ah jD;have dO:=ah hgc;clear hgc jD hb8 h68 aV hg7 b7 dJ
  go_upto_region 10 with fail
  rw[oC.out,dO.out];clear oC dO;obtain⟨c0,c1⟩:=cells2 HK8.out
  obtain⟨d0,d1⟩:=cells2 HK9.out;go_wp2_with fail;refine qU.mono ?_;rintro e w9 ⟨rfl,b9⟩
  have HB9:=ah (HB8.trans (b9.mono HB8.size));clear b9;go_wp2;go_ret;exact⟨rfl,HB9.out⟩
end Go.Proofs.YtanlehkalkafdaaGreatDoor
