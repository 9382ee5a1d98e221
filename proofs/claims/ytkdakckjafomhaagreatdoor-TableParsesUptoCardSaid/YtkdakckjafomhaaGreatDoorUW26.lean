/- Contracts and plain laws,part 26. -/
import Derived.Test.YtkdakckjafomhaaGreatDoorUW25
import Derived.Shelf.SlIter.Nil
import Derived.Shelf.SortM.Plain
import Derived.Shelf.SortM.SortNone
import Derived.Ground.GgzProg
import Derived.Ground.SlgmProg
set_option maxHeartbeats 64000000
set_option maxRecDepth 1000000
set_option linter.all false
namespace Go.Proofs.YtkdakckjafomhaaGreatDoor
open Go.RowKit
theorem Reads.take {w:World} {B n k:Nat} {A:Option Addr} {xs:List Value} (h:Reads w B 1 A n xs) (hk:k<=n):Reads w B 1 A k (xs.take k):=by
 refine⟨by rw[aeb,h.1];omega,fun h0=> ?_⟩
 obtain⟨b,off,e,hb,hc⟩:=h.2 (by omega)
 exact⟨b,off,e,hb,fun j u hu=>hc j u (by
  have hj:j<k:=by
   have h1:=(adw.1 hu).1;rw[aeb]at h1;omega
  rwa [am4 hj]at hu)⟩
def hdE:Option (List (List UInt8))->Nat
 |none=>230
 |some _=>0
theorem Reads.back {w w':World} {B s n:Nat} {A:Option Addr} {xs:List Value} (h:Reads w' B s A n xs) (hb:Below B w w'):Reads w B s A n xs:=by
 refine⟨h.1,fun h0=> ?_⟩
 obtain⟨b,off,e,hlt,hc⟩:=h.2 h0
 exact⟨b,off,e,hlt,fun j u hu=>(hb.cell (p:=⟨b,off+j,none⟩) hlt).symm.trans (hc j u hu)⟩
theorem Reads.cut {w:World} {B n k b off c:Nat} {xs:List Value} (h:Reads w B 1 (some ⟨b,off,none⟩) n xs) (hk:k<=n) (hc:n<=c):Reads w B 1 (if c=k then some ⟨b,off,none⟩ else some ⟨b,off+k,none⟩) (n - k) (xs.drop k):=by
 by_cases e:c=k
 ·rw[adk e]
  exact⟨by rw[aej,h.1];omega,fun h0=>by omega⟩
 rw[ade e];exact h.drop hk
def akz (B:Nat) (o:Option (List (List UInt8))) (w:World) (e:Ending) (w':World):Prop:=
 ∃A n c,e=.returned (.tuple #[.slice A n c,.int .i64 (hdE o:Nat)])/\Below w.heap.size w w'/\ ∀ks,o=some ks->n=ks.length/\Reads w' B 1 A n (ks.map ST)
theorem IB {want h:List (List UInt8)} {r:List (List (List UInt8))} (hw:h.take want.length≠want\/(h.drop want.length).all Gr.bC=false\/ ¬(h.drop want.length).Nodup):Tb.dK want (h :: r)=none:=by
 rw[Tb.dK,ade];rintro⟨h1,h2,h3⟩
 rcases hw with hw|hw|hw
 ·exact hw h1
 ·rw[h2]at hw;cases hw
 exact hw h3
theorem abB (B:Nat) (A:Option Addr) (n c m:Nat) (rows:List (List (List UInt8))) (hd:ByteArray) (want:List (List UInt8)) (w:World) (h:kY w B (.slice A n c) rows) (hn:rows.length=n) (hnb:n<=1073741824)
  (hsp:Lib.splitB ⟨#[44]⟩ 0 (Lib.countB hd ⟨#[44]⟩) hd=want.map BA) (hwl:want.length=m) (hm0:0<m) (hm4:m<=4) (hhd:hd.size<=1000) (hrow: ∀r∈rows,Tb.Row r) (hB:B<=w.heap.size) (hL:Laid w):
  Calls Tryz.prog 28 #[.slice A n c,.string hd] w (akz B (Tb.dK want rows) w):=by
 obtain⟨R,hR⟩:=aj (Tb.dK want rows);rw[hR];obtain⟨m0,hm⟩:=hL.max
 have hs:=Tryz.strings_Split hd ⟨#[44]⟩ m0 w (by omega) hm (by decide)
 have hcnt:Lib.countB hd ⟨#[44]⟩+1=m:=by
  rw[<-hwl,<-adU (f:=BA),<-hsp,Lib.splitB_all _ (by decide) 0 _ hd rfl]
 rw[hcnt,hsp,show(want.map BA).map Value.string=want.map ST by rw[agk];rfl]at hs
 obtain⟨W1,hW1⟩:=aj (w.alloc (.cells (want.map ST).toArray 9));rw[hW1]at hs
 have hb1:Below w.heap.size w W1:=hW1▸(Below.refl _ w).alloc (ac4 _) _
 have hk1:au W1 w.heap.size 9 (want.map ST).toArray:=hW1▸au.new _ _ _
 have hwr:Reads W1 W1.heap.size 1 (some ⟨w.heap.size,0,none⟩) m (want.map ST):=⟨by simp[hwl],fun _=>⟨_,0,rfl,hk1.lt,fun j u hu=>by rw[afW,hk1.cell j];simpa using hu⟩⟩
 have h1:=h.below (hb1.mono hB);have HS:=ah hs;have HB1:=ah hb1;have Bj:=ah hwr
 have HR:=ah hR;have dh:=ah hB;have jO:=ah hrow;have D7:=ah hwl
 have Ja:(1:Int)<=m:=by omega
 cases rows with
 |nil=>
  have hn0:n=0:=hn.symm;have hr:R=none:=hR.symm;subst hr hn0
  clear h h1 hn hs hW1 hb1 hk1 hwr hR hB hrow hwl hsp hcnt hL hm hhd
  go_enter Tryz.func28,Tryz.ntmps28;go_wp2_with fail;refine HS.mono ?_
  rintro e w1 ⟨rfl,rfl⟩;go_wp2
  go_ret2
  exact⟨none,0,0,rfl,HB1.out,fun ks h=>by cases h⟩
 |cons r rest=>
 obtain⟨b,off,Ar,cr,rfl,hbB,hcell,hrc,hrm,hrd⟩:=h1.at (k:=0) rfl;rw[aft]at hcell
 have hn1:(0:Int)<n:=by have:=hn;rw[adQ]at this;omega
 have tn:((n:Int) == 0)=false:=by rw[adh];omega
 obtain⟨rl,hrl⟩:=aj r.length;rw[hrl]at hcell hrc hrd;obtain⟨hr1,hr2⟩:=hrow r (agl ..)
 rw[hrl]at hr1;have aO:=ah hrl;have iJ:=ah hrd;have HR2:=ah hr2;have aK:=ah hbB
 have HL:=ah (fun(V:World) (hb:Below w.heap.size w V)=>hL.below hb)
 by_cases hlm:rl<m
 ·have hr:R=none:=by
   rw[<-hR];refine IB (.inl fun e=> ?_)
   have:=aeH List.length e;rw[aeb]at this;omega
  subst hr;have anF:(rl:Int)<m:=by omega
  clear h h1 hn hs hW1 hb1 hk1 hwr hR hB hrow hwl hsp hcnt hL hm hhd hrl hrd hr2 hbB
  go_enter Tryz.func28,Tryz.ntmps28;go_wp2_with fail;refine HS.mono ?_
  rintro e w1 ⟨rfl,rfl⟩;go_wp2
  go_ret2
  exact⟨none,0,0,rfl,HB1.out,fun ks h=>by cases h⟩
 have ad6:(m:Int)<=rl:=by omega
 have tlm:decide (rl<m)=false:=ac5 hlm;have hml:m<=rl:=by omega
 have hmc:m<=cr:=by omega
 have apO:(m:Int)<=cr:=by omega
 obtain⟨b1,o1,rfl,ad7⟩:=hrd.blk (by omega)
 have htk:=hrd.take hml;rw[<-aoV]at htk
 have heq:=ajM (c:=cr) (d:=m) W1 htk hwr (by omega)
 obtain⟨t,ht⟩:=aj (decide (r.take m=want):Bool);rw[ht]at heq;have HEQ:=ah heq
 have HT:=ah ht;have ad9:(rl:Int)<=cr:=by omega
 clear h h1 hn hs hW1 hb1 hk1 hwr hB hrow hwl hsp hcnt hL hm hhd hrl hrd hr2 hbB hlm htk heq ht hR
 go_enter Tryz.func28,Tryz.ntmps28;go_wp2_with fail;refine HS.mono ?_
 rintro e w1 ⟨rfl,rfl⟩;go_wp2_with fail;refine HEQ.mono ?_;rintro e w2 ⟨rfl,b2⟩
 have HB2:=ah (HB1.trans (b2.mono HB1.size))
 have hc2:=(b2.cell (p:=⟨b,off,none⟩) (adW aK.out (adg dh.out HB1.size))).trans hcell
 have aea:=ah (iJ.below (b2.mono (adg dh.out HB1.size)));clear b2 hcell HEQ HS
 cases t with
 |false=>
  have hr:R=none:=by
   rw[<-HR.out];exact IB (.inl (by rw[D7.out];exact adM HT.out))
  subst hr;go_wp2
  go_ret2
  exact⟨none,0,0,rfl,HB2.out,fun ks h=>by cases h⟩
 |true=>
 have htk:r.take m=want:=adN HT.out;obtain⟨ks,hks⟩:=aj (r.drop m)
 obtain⟨kn,hkn⟩:=aj ks.length;have hkn2:rl - m=kn:=by rw[<-hkn,<-hks,aej,aO.out]
 obtain⟨Ak,hAk⟩:=aj (if cr=m then some (⟨b1,o1,none⟩:Addr) else some ⟨b1,o1+m,none⟩)
 have hrk:=aea.cut hml hrc;rw[hAk]at hrk;have HAK:=ah hAk;rw[<-aq9,hks,hkn2]at hrk
 have wY: ∀f∈ks,f.length<=16777216:=fun f hf=>HR2.out f (by rw[<-hks]at hf;exact aoE hf)
 have apP:kn<=16777217:=by omega
 have hR2:=HR.out;rw[Tb.dK,D7.out,hks]at hR2
 have HRR:=ah (show(if ks.all Gr.bC=true/\ks.Nodup then some ks else none)=R by
  rw[<-hR2];by_cases h:ks.all Gr.bC=true/\ks.Nodup
  ·rw[adk h,adk ⟨htk,h.1,h.2⟩]
  rw[ade h,ade (fun x=>h x.2)])
 have o9:=ah hrk;have oh:=ah hkn;have HKF:=ah wY;have Wx:=ah hkn2
 obtain⟨W3,hW3⟩:=aj (w2.alloc (.map #[] 0));obtain⟨mb,hmb⟩:=aj w2.heap.size
 have hb3:Below w2.heap.size w2 W3:=hW3▸(Below.refl _ w2).alloc (ac4 _) _
 have jK:=ah (show jJ W3 mb [] by rw[<-hW3,<-hmb];exact jJ.made w2)
 have HB3:=ah (HB2.trans (hb3.mono HB2.size))
 have Bl:=ah (show w.heap.size<=mb by rw[<-hmb];exact HB2.size)
 have HW3:=ah hW3;have aec:=ah (hrk.below (hb3.mono (adg dh.out HB2.size)))
 have hmm:= @run_makeMap Tryz.prog
 clear htk hks hkn hrk wY hR2 hAk hW3 hb3 HT iJ aea HR2 HR jO
 go_upto_region 6 with fail
 rw[HW3.out]
 try rw[hmb]
 clear HW3 hmb hmm
 try rw[hkn2]
 rw[HAK.out];clear hkn2 HAK;go_wp2_with fail
 go_loopg [45] kn (fun q x wr=> ∃k:Nat,x=.int .i64 k/\k+q=kn/\Below w.heap.size w wr/\jJ wr mb (ks.take k)/\Reads wr B 1 Ak kn (ks.map ST)/\Hid ((ks.take k).all Gr.bC=true/\(ks.take k).Nodup))
 case atStart=>exact⟨0,rfl,by omega,HB3.out,jK.out,aec.out,⟨rfl,List.nodup_nil⟩⟩
 obtain⟨k,rfl,hk,hb,hc,hr,he⟩:=hrel;have HB:=ah hb;have HC:=ah hc;have QN:=ah hr
 have HK:=ah hk;clear hb hc hr HB3 jK aec;cases gk with
 |zero=>
  obtain rfl:k=kn:=by omega
  have hr:R=some ks:=by
   have h:=he.out;rw[ado (by rw[oh.out];exact ac4 _)]at h
   rw[<-HRR.out,adk h]
  subst hr;clear he hk;go_wp2
  go_ret2
  exact⟨_,_,_,rfl,HB.out,fun l h=>by cases h;exact⟨oh.symm,QN.out⟩⟩
 |succ q=>
  have hkn':k<kn:=by omega
  have dH:(k:Int)<kn:=by omega
  obtain⟨p,hp⟩: ∃p,ks[k]?=some p:=⟨_,dF (by rw[oh.out];exact hkn')⟩
  have htk:ks.take (k+1)=ks.take k++[p]:=by rw[ae3,hp];rfl
  have hpm:=adI hp;obtain⟨b3,o3,rfl,-⟩:=QN.blk (by omega)
  have hcell:=QN.st hp;have hpl:=HKF.out p hpm;obtain⟨z,hz⟩:=aj (⟨p.toArray⟩:ByteArray)
  have hst:ST p=.string z:=by rw[<-hz];rfl
  have hzd:z.data.toList=p:=by rw[<-hz]
  have hzs:z.size<=16777216:=by rw[Lib.size_eq,hzd];exact hpl
  rw[hst]at hcell;obtain⟨LK,oq⟩:=aj (ks.take k);have hlk:=HC.out;rw[oq]at hlk he htk
  have vT:=hlk.look (t:=113) Tryz.underlying113 (s:=z) (by unfold maxLen;omega)
  rw[hzd]at vT;obtain⟨N,hN⟩:=aj (LK.count p);have gY:LK.length<=k:=by rw[<-oq,aeb];omega
  have qX:N<=LK.length:=by rw[<-hN];exact afU
  rw[hN]at vT;have hNi:(N:Int)<=16777217:=by omega
  have aed:LK.length<=16777217:=by omega
  have hgn:=fun(V:World)=>Iu z V (by omega)
  rw[hzd]at hgn;obtain⟨g,hg⟩:=aj (Gr.bC p);rw[hg]at hgn;have dQ:=ah hgn
  have HG:=ah hg;have HCM:=ah hlk;have jF:=ah hN;have HZD:=ah hzd;have nV:=ah hzs
  have nG:=ah aed;have iG:=ah htk;have HPK:=ah hp;have HPM:=ah hpm;have L6:=ah oq
  have HE:=ah he.out;have hu:=lM
  clear hp htk hpm hpl hz hst hzd hzs hlk hN gY qX aed hgn hg he hk oq
  go_wp2_with (at_mapUpdate;refine Ud _ rfl HCM.out (by have:=nG.out;omega) (.tmp 49) (.tmp 50) (.tmp 52) 113 rfl Tryz.underlying113 rfl z (by have:=nV.out;unfold maxLen;omega) rfl (by rw[HZD.out,jF.out];rfl) ?_)
  intro w1 hc1 hg1;rw[HZD.out]at hc1
  have HB1:=ah (show Below w.heap.size w w1 from HB.trans ⟨hg1.os,hg1.tape,hg1.output,hg1.size,fun i hi=>hg1.block i (adW hi HB.size) (fun e=>by cases e;have:=Bl.out;omega)⟩)
  have HR1:=ah (QN.below (B:=B) ⟨hg1.os,hg1.tape,hg1.output,hg1.size,fun i hi=>hg1.block i (adW hi (adg dh.out HB.size)) (fun e=>by cases e;have:=Bl.out;have:=dh.out;omega)⟩)
  have kV:=ah hc1
  have hlk2:=hc1.look (t:=113) Tryz.underlying113 (s:=z) (by have:=nV.out;unfold maxLen;omega)
  rw[HZD.out,apf,jF.out,aoI]at hlk2;clear hc1 hg1 vT hcell HCM HC;by_cases hN0:N=0
  case neg=>
   have t1:decide ((1:Int)<((N+1:Nat):Int))=true:=adb (by omega)
   have hr:R=none:=by
    rw[<-HRR.out,ade];rintro⟨-,hnd⟩
    have hm:p∈ks.take k:=by rw[L6.out];exact am7.1 (by rw[jF.out];omega)
    rw[<-aeN k ks,aoq,wV HPK.out]at hnd;exact hnd.2.2 p hm p (agl ..) rfl
   subst hr;go_wp2
   go_ret2
   exact⟨none,0,0,rfl,HB1.out,fun ks h=>by cases h⟩
  subst hN0;have t1:decide ((1:Int)<((0+1:Nat):Int))=false:=ac5 (by omega)
  go_wp2_with fail;refine(dQ.out _).mono ?_;rintro e w2 ⟨rfl,rfl⟩;cases g with
  |false=>
   have hr:R=none:=by
    rw[<-HRR.out,ade];rintro⟨ha,-⟩;have:=afF.1 ha p HPM.out;rw[HG.out]at this
    cases this
   subst hr;go_wp2
   go_ret2
   exact⟨none,0,0,rfl,HB1.out,fun ks h=>by cases h⟩
  |true=>
   have HE2:=ah (show(ks.take (k+1)).all Gr.bC=true/\(ks.take (k+1)).Nodup by
    rw[iG.out,aqj,HE.out.1]
    refine⟨by simp[HG.out],aoq.2 ⟨HE.out.2,by simp,fun a ha b hb e=> ?_⟩⟩
    rw[ael]at hb;subst e hb;have:=am7.2 ha;rw[jF.out]at this
    omega)
   clear hlk2 t1;go_wp2
   go_roundg q
   case measure=>omega
   exact⟨k+1,int_eq (by omega),by have:=HK.out;omega,HB1.out,by rw[iG.out];exact kV.out,HR1.out,HE2⟩
theorem abC:Lib.splitB ⟨#[44]⟩ 0 (Lib.countB ⟨#[58,73,68,44,58,76,65,66,69,76]⟩ ⟨#[44]⟩) ⟨#[58,73,68,44,58,76,65,66,69,76]⟩=Tb.iQ.map BA:=by kernel_rfl
theorem abD:Lib.splitB ⟨#[44]⟩ 0 (Lib.countB ⟨#[58,73,68,44,58,83,84,65,82,84,44,58,69,78,68,44,58,84,89,80,69]⟩ ⟨#[44]⟩) ⟨#[58,73,68,44,58,83,84,65,82,84,44,58,69,78,68,44,58,84,89,80,69]⟩=Tb.iR.map BA:=by kernel_rfl
def akA (R:List Gr.N×Nat) (w:World) (e:Ending) (w':World):Prop:=
 ∃v,e=.returned (.tuple #[v,.int .i64 (R.2:Nat)])/\eU w' w.heap.size v R.1/\Below w.heap.size w w'
structure Wy (w:World) (mb:Nat) (acc:List Gr.N) (v:Value) (V:World):Prop where
 bel:Below w.heap.size w V
 map:eP V mb (acc.map Gr.N.id)
 own:eU V w.heap.size v acc
theorem akB (B:Nat) (A:Option Addr) (n c:Nat) (rows:List (List (List UInt8))) (w:World) (h:kY w B (.slice A n c) rows) (hn:rows.length=n) (hnb:n<=16777217) (hrow: ∀r∈rows,Tb.Row r) (hB:B<=w.heap.size) (hL:Laid w):
  Calls Tryz.prog 10 #[.slice A n c] w (akA (Tb.nodesOf rows) w):=by
 obtain⟨R,hR⟩:=aj (Tb.nodesOf rows);rw[hR]
 have hh:=abB B A n c 2 rows ⟨#[58,73,68,44,58,76,65,66,69,76]⟩ Tb.iQ w h hn (by omega) abC rfl (by decide) (by decide) (by decide) hrow hB hL
 unfold Tb.nodesOf at hR;obtain⟨o,ho⟩:=aj (Tb.dK Tb.iQ rows);rw[ho]at hR hh
 have HH:=ah hh;cases o with
 |none=>
  have hr:R=([],230):=hR.symm;subst hr;clear h hn hnb hrow hB hL hR hh ho
  go_enter Tryz.func10,Tryz.ntmps10;go_wp2_with fail;refine HH.mono ?_
  rintro e w1 ⟨A1,n1,c1,rfl,b1,-⟩;have HB1:=ah b1;clear b1 HH;go_wp2
  go_ret2
  exact⟨_,rfl,eU.nil _ _,HB1.out⟩
 |some ks=>
 have hRR:Tb.nT ks (2+ks.length) rows.tail []=R:=hR
 obtain⟨r0,rest,rfl⟩: ∃r0 rest,rows=r0 :: rest:=by
  cases rows with
  |nil=>cases ho
  |cons r0 rest=>exact⟨r0,rest,rfl⟩
 have hw0:r0.length=2+ks.length:=by
  rw[Tb.dK]at ho
  split at ho
  ·rename_i hc
   have e:=ad4 ho;have h1:=aeH List.length hc.1;rw[<-e,aej];rw[aeb]at h1
   have:Tb.iQ.length=2:=rfl;omega
  cases ho
 obtain⟨b,off,Ar,cr,rfl,hbB,hcell,-,-,-⟩:=h.at (k:=0) rfl;rw[aft]at hcell
 obtain⟨kn,hkn⟩:=aj ks.length;obtain⟨wd,hwd⟩:=aj (2+ks.length);rw[hw0,hwd]at hcell
 rw[hwd]at hRR;have hwd2:wd=2+kn:=by omega
 obtain⟨m,hm⟩:=aj rest.length;have hnm:n=m+1:=by rw[<-hn,<-hm];rfl
 subst hnm;obtain⟨A',c',hf,hrc,hrm⟩:=h.form
 injection hf with hf1 hf2 hf3
 subst hf3;rw[hn]at hrc;have ad9:(1:Int)<=c:=by omega
 have HRW:=ah (show∀(k:Nat) r,rest[k]?=some r-> ∃Ar cr,w.cell? ⟨b,off+1+k,none⟩=some (.slice Ar r.length cr)/\r.length<=cr/\Reads w B 1 Ar r.length (r.map ST) from fun k r hk=>by
  obtain⟨b',off',Ar,cr,e,-,h1,h2,-,h3⟩:=h.at (k:=k+1) (r:=r) (by simpa using hk)
  injection e with e
  injection e with e1 e2
  subst e1 e2
  exact⟨Ar,cr,by rw[show off+1+k=off+(k+1) by omega];exact h1,h2,h3⟩)
 have jO:=ah hrow;have dh:=ah hB;have aK:=ah hbB;have HL:=ah hL;have HR:=ah hRR
 have HM:=ah hm;have oh:=ah hkn;have qJ:=ah hcell;have hnb':m<=16777216:=by omega
 have hmm:= @run_makeMap Tryz.prog
 clear h hn hnb hrow hB hL hR hRR hh ho hw0 hbB hcell hkn hwd hm hf1 hf2 hrm
 go_enter Tryz.func10,Tryz.ntmps10;go_wp2_with fail;refine HH.mono ?_
 rintro e w1 ⟨A1,n1,c1,rfl,b1,hks⟩;obtain⟨e1,hkr⟩:=hks ks rfl;rw[oh.out]at e1;subst e1
 obtain⟨W3,hW3⟩:=aj (w1.alloc (.map #[] 0));obtain⟨mb,hmb⟩:=aj w1.heap.size
 have hb3:Below w1.heap.size w1 W3:=hW3▸(Below.refl _ w1).alloc (ac4 _) _
 have aZ:=ah (show Wy w mb [] (.slice none 0 0) W3 from⟨b1.trans (hb3.mono b1.size),by rw[<-hW3,<-hmb];exact eP.made w1,eU.nil _ _⟩)
 have Bl:=ah (show w.heap.size<=mb by rw[<-hmb];exact b1.size)
 have o9:=ah (hkr.back (b1.mono dh.out));have HB1:=ah b1;have HW3:=ah hW3
 have hc3:W3.cell? ⟨b,off,none⟩=some (.slice Ar wd cr):=((b1.trans (hb3.mono b1.size)).cell (p:=⟨b,off,none⟩) (adW aK.out dh.out)).trans qJ.out
 clear hb3 hW3 hks hkr b1 HH
 obtain⟨Aw,Gh⟩:=aj (if c=1 then some (⟨b,off,none⟩:Addr) else some ⟨b,off+1,none⟩)
 have WB:=ah (show 0<m->Aw=some ⟨b,off+1,none⟩ from fun h=>by rw[<-Gh,ade (by omega)])
 have L8:=ah Gh;clear Gh
 go_upto_region 5 with fail
 rw[HW3.out]
 try rw[hmb]
 clear HW3 hmb hmm
 go_upto_block 0 with fail
 rw[L8.out];clear L8;go_wp2_with fail
 go_loopg [2,22] m (fun q x y wr=> ∃k:Nat,∃acc A2 c2,x=.slice A2 acc.length c2/\y=.int .i64 k/\k+q=m/\acc.length<=k/\Wy w mb acc (.slice A2 acc.length c2) wr/\Hid (Tb.nT ks wd (rest.drop k) acc=R))
 case atStart=>exact⟨0,[],none,0,rfl,rfl,by omega,ac4 _,aZ.out,HR.out⟩
 obtain⟨k,acc,A2,c2,rfl,rfl,hk,hal,hs,he⟩:=hrel;have HS:=ah hs;have HK:=ah hk
 clear hs aZ HR hc3;cases gk with
 |zero=>
  obtain rfl:k=m:=by omega
  have hr:R=(acc,0):=by
   have h:=he.out;rw[aeJ (by rw[HM.out];exact ac4 _)]at h
   exact h.symm
  subst hr;clear he hk hal;go_wp2
  go_ret2
  exact⟨_,rfl,HS.own,HS.bel⟩
 |succ q=>
  have hkn:k<m:=by omega
  have dH:(k:Int)<m:=by omega
  obtain rfl:=WB.out (by omega)
  obtain⟨r,hr⟩: ∃r,rest[k]?=some r:=⟨_,dF (by rw[HM.out];exact hkn)⟩
  obtain⟨A3,c3,hcr,Bo,hrr⟩:=HRW.out k r hr;have hrow:=jO.out r (afg _ (adI hr))
  obtain⟨rl,hrl⟩:=aj r.length;rw[hrl]at hcr Bo hrr;have hbw:=adW aK.out dh.out
  have WC:=(HS.bel.cell (p:=⟨b,off+1+k,none⟩) hbw).trans hcr
  have WE:=(HS.bel.cell (p:=⟨b,off,none⟩) hbw).trans qJ.out;have hp:=he.out
  rw[wV hr,Tb.nT,hrl]at hp;have hw1:w.heap.size<=wr.heap.size:=HS.bel.size
  by_cases lq:rl=wd
  case neg=>
   have hr2:R=([],231):=by rw[<-hp,adk lq]
   subst hr2;have t1:((rl:Int) !=wd)=true:=by rw[adY];omega
   clear he hp lq hr hrr hk hal hcr;go_wp2
   go_ret2
   exact⟨_,rfl,eU.nil _ _,HS.bel⟩
  subst lq;rw[ade (by simp)]at hp
  have t1:((rl:Int) !=rl)=false:=by simp
  obtain⟨b2,o2,rfl,hb2⟩:=hrr.blk (by omega)
  have Gi:=adW hb2 dh.out;obtain⟨f0,hf0⟩:=aj (r.getD 0 [])
  obtain⟨f1,hf1⟩:=aj (r.getD 1 []);obtain⟨q0,m0⟩:=hrr.fld (k:=0) (by omega)
  obtain⟨q1,m1⟩:=hrr.fld (k:=1) (by omega)
  rw[hf0]at q0 m0 hp;rw[hf1]at q1 m1 hp;have s0:=hrow.2 f0 m0;have s1:=hrow.2 f1 m1
  obtain⟨z0,hz0⟩:=aj (⟨f0.toArray⟩:ByteArray)
  obtain⟨z1,hz1⟩:=aj (⟨f1.toArray⟩:ByteArray);have qY:z0.data.toList=f0:=by rw[<-hz0]
  have qZ:z1.data.toList=f1:=by rw[<-hz1]
  rw[show ST f0=.string z0 by rw[<-hz0];rfl,aft]at q0
  rw[show ST f1=.string z1 by rw[<-hz1];rfl]at q1
  obtain⟨W4,jG⟩:=aj (wr.alloc (.cells #[.int .i64 0,.slice none 0 0,.slice none 0 0] 42))
  obtain⟨nd,hnd⟩:=aj wr.heap.size
  have hb4:Below wr.heap.size wr W4:=jG▸(Below.refl _ wr).alloc (ac4 _) _
  have hk4:au W4 nd 42 #[.int .i64 0,.slice none 0 0,.slice none 0 0]:=by rw[<-jG,<-hnd];exact au.new _ _ _
  have Gj:=PW z0 1024 W4 (by rw[Lib.size_eq,qY];omega) (HL.below (HS.bel.trans (hb4.mono hw1)))
  rw[qY]at Gj
  have hlb:=fun(V:World) (hb:Below w.heap.size w V)=>ajT z1 V (by rw[Lib.size_eq,qZ];omega) (HL.below hb)
  rw[qZ]at hlb;have L9:=ah Gj;have qB:=ah hlb;have HB4:=ah hb4;have eY:=ah hk4
  have ou:=ah jG;have kZ:=ah hnd
  have nI:=ah (fun(V:World) (hb:Below wr.heap.size wr V\/wr.grownBy V (some mb))=>show V.cell? ⟨b2,o2,none⟩=some (.string z0)/\V.cell? ⟨b2,o2+1,none⟩=some (.string z1)/\V.cell? ⟨b,off+1+k,none⟩=some (.slice (some ⟨b2,o2,none⟩) rl c3) from by
   have Bq:Below w.heap.size w V:=by
    rcases hb with hb|hb
    ·exact HS.bel.trans (hb.mono hw1)
    exact HS.bel.trans ⟨hb.os,hb.tape,hb.output,hb.size,fun i hi=>hb.block i (by omega) (fun e=>by cases e;have:=Bl.out;omega)⟩
   exact⟨(Bq.cell (p:=⟨b2,o2,none⟩) Gi).trans q0,(Bq.cell (p:=⟨b2,o2+1,none⟩) Gi).trans q1,(Bq.cell (p:=⟨b,off+1+k,none⟩) hbw).trans hcr⟩)
  obtain⟨g0,g1,-⟩:=nI.out W4 (.inl hb4);have HE:=ah hp;have HRR:=ah hrr;have Bv:=ah hrow
  have aO:=ah hrl
  clear he hp hr hrr hk hcr q0 m0 q1 m1 s0 s1 hz0 hz1 qY qZ jG hb4 hk4 Gj hlb hf0 hf1 hrow hrl hnd hb2
  go_upto_region 11 with fail
  rw[ou.out,kZ.out];clear ou;obtain⟨d0,d1,d2⟩:=cells3 eY.out;have fr4:=eY.frozen 0
  go_wp2_with fail;refine L9.mono ?_;rintro e w5 ⟨x,bb,rfl,b5,hbb,hxx⟩
  have hk5:=eY.below b5 eY.lt;have hb5:=HB4.trans (b5.mono HB4.size)
  obtain⟨W6,iY⟩:=aj (w5.setCell ⟨nd,0,none⟩ (.int .i64 x))
  have hb6:Below wr.heap.size wr W6:=iY▸hb5.setCell (p:=⟨nd,0,none⟩) (by rw[kZ.out];exact ac4 _) _
  have hk6:au W6 nd 42 #[.int .i64 x,.slice none 0 0,.slice none 0 0]:=by rw[<-iY];simpa using hk5.bP 0 (.int .i64 x)
  have dO:=ah hb6;have zN:=ah hk6;have pI:=ah iY;have d5:=hk5.cell 0;have f5:=hk5.frozen 0
  clear d0 d1 d2 fr4 g0 g1 hk5 hb5 iY hb6 hk6 b5 L9 eY HB4 WC WE
  go_upto_region 13 with fail
  rw[pI.out];clear pI d5 f5;obtain⟨d0,d1,d2⟩:=cells3 zN.out;have he:=HE.out
  cases hkw:Tb.known 1024 f0 with
  |none=>
   rw[hkw]at he hbb;have hr2:R=([],61):=he.symm;subst hr2;obtain rfl:bb=false:=hbb
   clear he;go_wp2
   go_ret2
   exact⟨_,rfl,eU.nil _ _,HS.bel.trans (dO.mono hw1)⟩
  |some id=>
  rw[hkw]at he hbb;obtain rfl:bb=true:=hbb;obtain rfl:x=id:=hxx id hkw;simp only at he
  obtain⟨hx0,hx1,hxi⟩:=Dp hkw (by decide)
  obtain⟨LK,oq⟩:=aj (acc.map Gr.N.id);have hcm:=HS.map.below dO.out;rw[oq]at he hcm
  have vT:=hcm.look (t:=80) Tryz.underlying80 hxi;obtain⟨N,hN⟩:=aj (LK.count x)
  have gY:LK.length<=16777216:=by rw[<-oq,adU];omega
  have qX:N<=LK.length:=by rw[<-hN];exact afU
  rw[hN]at vT;have hNi:(N:Int)<=16777216:=by omega
  have HCM:=ah hcm;have jF:=ah hN;have L6:=ah oq;have Gl:=ah hxi;have nG:=ah gY
  have HE2:=ah he;clear he hxx hkw hcm hN oq qX gY hxi HE hx0 hx1
  go_wp2_with (at_mapUpdate;refine PL _ rfl HCM.out (by have:=nG.out;omega) (.tmp 44) (.tmp 46) (.tmp 48) 80 rfl Tryz.underlying80 rfl x Gl.out rfl (by rw[jF.out];rfl) ?_)
  intro w7 zO tC;have zQ:wr.grownBy w7 (some mb):=tZ (dL dO.out _) tC;have zS:=ah zQ
  have hmn:some nd≠some mb:=fun e=>by have:=HS.map.lt;have:=kZ.out;cases e;omega
  have QO:=ah hmn;have jC:=ah (zN.grown tC hmn)
  have hlk2:=zO.look (t:=80) Tryz.underlying80 Gl.out;rw[apf,jF.out,aoI]at hlk2
  have sW:=ah zO
  have lC:=ah (fun(V:World) (hb:wr.grownBy V (some mb))=>show Below w.heap.size w V from HS.bel.trans ⟨hb.os,hb.tape,hb.output,hb.size,fun i hi=>hb.block i (by omega) (fun e=>by cases e;have:=Bl.out;omega)⟩)
  clear zO tC vT d0 d1 d2 HCM zN dO hmn;obtain⟨d0,d1,d2⟩:=cells3 jC.out;by_cases hN0:N=0
  case neg=>
   have t2:decide ((1:Int)<((N+1:Nat):Int))=true:=adb (by omega)
   have hr2:R=([],7):=by
    rw[<-HE2.out,adk (am7.1 (by rw[jF.out];omega))]
   subst hr2;go_wp2
   go_ret2
   exact⟨_,rfl,eU.nil _ _,lC.out _ zQ⟩
  subst hN0;have t2:decide ((1:Int)<((0+1:Nat):Int))=false:=ac5 (by omega)
  have he:=HE2.out;rw[ade (fun h=>by have:=am7.2 h;rw[jF.out]at this;omega)]at he
  obtain⟨Q,hQ⟩:=aj (Tb.oK f1);obtain⟨ls,ec⟩:=Q;have hlb:=qB.out w7 (lC.out _ zQ)
  rw[hQ]at he hlb;have Mc:=ah hlb;have ru:=ah he;obtain⟨-,g1,-⟩:=nI.out w7 (.inr zQ)
  have apQ:(1:Int)<rl:=by omega
  clear he hlb hQ HE2 qB;go_wp2_with fail;refine Mc.mono ?_;rintro e w8 ⟨vl,rfl,ol,b8⟩
  obtain⟨Al,cl,rfl⟩:=aF ol;have hk8:=jC.below b8 jC.lt;have zT:=EU zS.out b8
  obtain⟨W9,qC⟩:=aj (w8.setCell ⟨nd,1,none⟩ (.slice Al ls.length cl))
  have aN:wr.grownBy W9 (some mb):=qC▸wQ zT (.inr (by rw[kZ.out];exact ac4 _)) _
  have bH:=ah (show au W9 nd 42 #[.int .i64 x,.slice Al ls.length cl,.slice none 0 0] by rw[<-qC];simpa using hk8.bP 1 (.slice Al ls.length cl))
  have fJ:=ah (show W9.ownsRow w7.heap.size 9 1 (.slice Al ls.length cl) ls.length (ls.map ST) by rw[<-qC];exact jf ol (Kt.cell (base:=0) hk8 (afP _) 1 _) (by decide))
  have qP:=ah (show eP W9 mb (LK++[x]) by rw[<-qC];exact(sW.below b8).kept (grownBy_set _ _ _) (fun e=>QO.out e.symm))
  have kK:=ah aN;have D8:=ah qC;have WG:w.heap.size<=w7.heap.size:=adg hw1 zS.size
  have d8:=hk8.cell 1;have f8:=hk8.frozen 1
  clear d0 d1 d2 t2 hlk2 ol b8 hk8 zT qC aN Mc jC sW zS zQ g1
  go_upto_region 19 with fail
  rw[D8.out];clear D8 d8 f8;obtain⟨d0,d1,d2⟩:=cells3 bH.out;by_cases qW:ec=0
  case neg=>
   have t3:((ec:Int) !=0)=true:=by rw[adY];omega
   have hr2:R=([],ec):=by rw[<-ru.out,adk qW]
   subst hr2;clear qW;go_wp2
   go_ret2
   exact⟨_,rfl,eU.nil _ _,lC.out _ kK.out⟩
  subst qW;have he:=ru.out;rw[ade (by simp)]at he
  obtain⟨kn,hkn2⟩:=aj ks.length;obtain⟨Q,hQ⟩:=aj (Tb.bM ks (r.drop 2));obtain⟨ps,ep⟩:=Q
  rw[hQ]at he;have hkl:n1=kn:=by rw[<-oh.out,hkn2]
  have hpw:=lC.out _ kK.out
  have hdr:=(HRR.below (hpw.mono dh.out)).cut (k:=2) (c:=c3) (by omega) Bo
  obtain⟨Av,hAv⟩:=aj (if c3=2 then some (⟨b2,o2,none⟩:Addr) else some ⟨b2,o2+2,none⟩)
  rw[<-aq9,show rl - 2=n1 by omega,hAv]at hdr
  have hpr:=abl B A1 Av c1 (c3 - 2) n1 ks (r.drop 2) W9 (o9.below (hpw.mono dh.out)) hdr (by have h:=Bv.out.1;rw[aO.out]at h;omega) (fun f hf=>Bv.out.2 f (aoE hf)) (adg dh.out hpw.size) (HL.below hpw)
  rw[hQ]at hpr;have cZ:=ah hpr;have Jf:=ah he;have apR:(2:Int)<=rl:=by omega
  have apS:(2:Int)<=c3:=by omega
  have apT:(rl:Int)<=c3:=by omega
  clear he hQ hdr hpr hpw hkn2 hkl ru;go_wp2_with fail;refine cZ.mono ?_
  rintro e w10 ⟨vp,rfl,op,b10⟩;obtain⟨Ap,cp,rfl⟩:=op.form;have hk10:=bH.below b10 bH.lt
  have aee:=EU kK.out b10;have aef:=aW fJ.out (dL b10 none) (fun g c t fz hr=>by cases hr)
  have aeg:=qP.below b10
  obtain⟨Jg,Gm⟩:=aj (w10.setCell ⟨nd,2,none⟩ (.slice Ap ps.length cp))
  have jS:wr.grownBy Jg (some mb):=Gm▸wQ aee (.inr (by rw[kZ.out];exact ac4 _)) _
  have vU:au Jg nd 42 #[.int .i64 x,.slice Al ls.length cl,.slice Ap ps.length cp]:=by rw[<-Gm];simpa using hk10.bP 2 (.slice Ap ps.length cp)
  have Md:eP Jg mb (LK++[x]):=by rw[<-Gm];exact aeg.kept (grownBy_set _ _ _) (fun e=>QO.out e.symm)
  have hno:je Jg w.heap.size (⟨x,ls,ps⟩,[.int .i64 x,.slice Al ls.length cl,.slice Ap ps.length cp]):=
   ⟨_,_,rfl,by rw[<-Gm];exact own_base (jf aef (Kt.cell (base:=0) hk10 (afP _) 2 _) (by decide)) WG,
    by rw[<-Gm];exact(op.kt (Kt.cell (base:=0) hk10 (afP _) 2 _) (by decide) (by decide) (by decide)).base (adg hw1 kK.size)⟩
  have hns:=HS.own.k0 (Kt.ad5 HS.map jS Bl.out);have Bz:=lC.out _ jS
  obtain⟨al,hal2⟩:=aj acc.length;obtain⟨ln,h1,h2,h3⟩:=hns;have lX:=ah hal2
  have jo:=ah (fun(v':Value) (w':World) (hg:Jg.grownBy w' (Value.ownBlock (.slice A2 acc.length c2))) (ho:w'.ownsRow w.heap.size 42 3 v' (acc.length+1) (ln.flatMap Prod.snd++[.int .i64 x,.slice Al ls.length cl,.slice Ap ps.length cp]))=>eU.put h1 h2 h3 hno Bz.size hg ho)
  rw[hal2]at h3 jo hal⊢;have H3:=ah h3;have uJ:=ah vU;have Me:=ah Md;have Jh:=ah Bz
  have aeh:=ah Gm;have x9:al<536870912:=by omega
  have hszW:=Bz.size;have d10:=hk10.cell 2;have f10:=hk10.frozen 2
  clear d0 d1 d2 op b10 hk10 aee aef aeg jS vU Md hno Gm Bz hal2 h1 h2 h3 fJ qP bH kK cZ
  go_upto_region 22 with fail
  rw[aeh.out];clear aeh d10 f10;obtain⟨d0,d1,d2⟩:=cells3 uJ.out;by_cases nJ:ep=0
  case neg=>
   have t3:((ep:Int) !=0)=true:=by rw[adY];omega
   have hr2:R=([],ep):=by rw[<-Jf.out,adk nJ]
   subst hr2;clear nJ;go_wp2
   go_ret2
   exact⟨_,rfl,eU.nil _ _,Jh.out⟩
  subst nJ;have he:=Jf.out;rw[ade (by simp)]at he
  have MB:=ah he;clear he Jf
  go_wp2_with (at_builtin;refine JF rfl (.tmp 76) (.tmp 78) 23 42 (.agg #[.int .i64 0,.slice none 0 0,.slice none 0 0]) 3 56 Tryz.underlying23 Ug rfl (by decide) (by decide) rfl w.heap.size (.slice A2 al c2) al (ln.flatMap Prod.snd) Jg rfl H3.out [.int .i64 x,.slice Al ls.length cl,.slice Ap ps.length cp] _ rfl rfl (by simp[Value.oneCell']) rfl x9 hszW ?_)
  intro v12 w12 jT ig yu rC;obtain⟨yw,c12,rfl⟩:=aF jT
  have rD:=ah (show Wy w mb (acc++[⟨x,ls,ps⟩]) (.slice yw (al+1) c12) w12 from⟨Jh.trans rC,by rw[ad8,L6.out];exact Me.kept ig (Ue H3.out Me.out),jo.out _ _ ig jT⟩)
  have HLEN:=ah (show(acc++[(⟨x,ls,ps⟩:Gr.N)]).length=al+1 by rw[adf,lX.out];rfl)
  clear jT ig yu rC d0 d1 d2;go_wp2
  go_roundg q
  case measure=>omega
  exact⟨k+1,acc++[⟨x,ls,ps⟩],yw,c12,by rw[HLEN.out],int_eq (by omega),by have:=HK.out;omega,by rw[HLEN.out];omega,by rw[HLEN.out];exact rD.out,MB⟩
end Go.Proofs.YtkdakckjafomhaaGreatDoor
namespace Go.Proofs
open Go.Shelf
def Tryz.abE:Go.Shelf.Ren:=⟨fun|7=>61|10=>99|n=>n,fun|23=>113|26=>9|3=>3|28=>119|0=>0|27=>118|33=>86|4=>4|n=>n,fun|n=>n⟩
theorem Tryz.keys61:Go.Proofs.SlLaysZ.n7 Tryz.prog Tryz.abE:={
 mixed:=by kernel_rfl
 f7:=⟨Tryz.f61.name,by decide,Tryz.func61.trans (aeH some (by kernel_rfl))⟩
 f10:=⟨Tryz.f99.name,by decide,Tryz.func99.trans (aeH some (by kernel_rfl))⟩
 t0:=Tryz.underlying0
 a0:=Tryz.isAgg0
 z0:=Tryz.sizeOf0
 v0:=Tryz.zeroValue0
 t4:=Tryz.underlying4
 a4:=Tryz.isAgg4
 z4:=Tryz.sizeOf4
 v4:=Tryz.zeroValue4
 t23:=Tryz.underlying113
 a23:=Tryz.isAgg113
 z23:=Tryz.sizeOf113
 v23:=Tryz.zeroValue113
 t26:=Tryz.underlying9
 a26:=Tryz.isAgg9
 z26:=Tryz.sizeOf9
 v26:=Tryz.zeroValue9
 t27:=Tryz.underlying118
 a27:=Tryz.isAgg118
 z27:=Tryz.sizeOf118
 v27:=Tryz.zeroValue118
 t28:=Tryz.underlying119
 a28:=Tryz.isAgg119
 z28:=Tryz.sizeOf119
 v28:=Tryz.zeroValue119
 t33:=Tryz.underlying86
 a33:=Tryz.isAgg86
 z33:=Tryz.sizeOf86
 v33:=Tryz.zeroValue86}
def Tryz.abG:Go.Shelf.Ren:=⟨fun|6=>60|8=>98|9=>36|11=>145|13=>79|12=>78|23=>131|24=>132|14=>123|15=>124|16=>125|17=>126|18=>127|19=>128|20=>106|21=>129|22=>130|25=>172|26=>173|27=>174|28=>175|29=>176|30=>153|31=>217|n=>n,fun|26=>9|28=>119|24=>34|0=>0|3=>3|37=>149|48=>191|50=>193|4=>4|40=>185|39=>184|45=>81|5=>5|9=>9|51=>232|55=>236|57=>268|58=>64|33=>86|n=>n,fun|n=>n⟩
theorem Tryz.sorted60:Go.Proofs.SlLaysZ.n6 Tryz.prog Tryz.abG:={
 mixed:=by kernel_rfl
 f6:=⟨Tryz.f60.name,by decide,Tryz.func60.trans (aeH some (by kernel_rfl))⟩
 f8:=⟨Tryz.f98.name,by decide,Tryz.func98.trans (aeH some (by kernel_rfl))⟩
 f11:=⟨Tryz.f145.name,by decide,Tryz.func145.trans (aeH some (by kernel_rfl))⟩
 t0:=Tryz.underlying0
 a0:=Tryz.isAgg0
 z0:=Tryz.sizeOf0
 v0:=Tryz.zeroValue0
 t24:=Tryz.underlying34
 a24:=Tryz.isAgg34
 z24:=Tryz.sizeOf34
 v24:=Tryz.zeroValue34
 t26:=Tryz.underlying9
 a26:=Tryz.isAgg9
 z26:=Tryz.sizeOf9
 v26:=Tryz.zeroValue9
 t28:=Tryz.underlying119
 a28:=Tryz.isAgg119
 z28:=Tryz.sizeOf119
 v28:=Tryz.zeroValue119
 i26:=by kernel_rfl}
def Tryz.akC:Go.Shelf.Ren:=⟨fun|6=>36|8=>79|9=>78|19=>131|20=>132|21=>123|22=>124|23=>125|24=>126|25=>127|26=>128|27=>106|28=>129|29=>130|36=>172|31=>173|32=>174|37=>175|38=>176|39=>153|41=>217|n=>n,fun|27=>34|29=>9|3=>3|32=>149|26=>34|0=>0|44=>191|46=>193|4=>4|36=>185|35=>184|41=>81|5=>5|9=>9|53=>232|57=>236|63=>268|64=>64|n=>n,fun|n=>n⟩
theorem Tryz.sort36:Go.Proofs.SlLaysM.n6 Tryz.prog Tryz.akC:={
 mixed:=by kernel_rfl
 f6:=⟨Tryz.f36.name,by decide,Tryz.func36.trans (aeH some (by kernel_rfl))⟩
 f8:=Tryz.func79.trans (aeH some (by kernel_rfl))
 f9:=⟨Tryz.f78.name,by decide,Tryz.func78.trans (aeH some (by kernel_rfl))⟩
 f19:=Tryz.func131.trans (aeH some (by kernel_rfl))
 f20:=Tryz.func132.trans (aeH some (by kernel_rfl))
 f21:=⟨Tryz.f123.name,by decide,Tryz.func123.trans (aeH some (by kernel_rfl))⟩
 f22:=⟨Tryz.f124.name,by decide,Tryz.func124.trans (aeH some (by kernel_rfl))⟩
 f23:=⟨Tryz.f125.name,by decide,Tryz.func125.trans (aeH some (by kernel_rfl))⟩
 f24:=⟨Tryz.f126.name,by decide,Tryz.func126.trans (aeH some (by kernel_rfl))⟩
 f25:=⟨Tryz.f127.name,by decide,Tryz.func127.trans (aeH some (by kernel_rfl))⟩
 f26:=⟨Tryz.f128.name,by decide,Tryz.func128.trans (aeH some (by kernel_rfl))⟩
 f27:=⟨Tryz.f106.name,by decide,Tryz.func106.trans (aeH some (by kernel_rfl))⟩
 f28:=⟨Tryz.f129.name,by decide,Tryz.func129.trans (aeH some (by kernel_rfl))⟩
 f29:=⟨Tryz.f130.name,by decide,Tryz.func130.trans (aeH some (by kernel_rfl))⟩
 f31:=Tryz.func173.trans (aeH some (by kernel_rfl))
 f32:=Tryz.func174.trans (aeH some (by kernel_rfl))
 f36:=⟨Tryz.f172.name,by decide,Tryz.func172.trans (aeH some (by kernel_rfl))⟩
 f37:=⟨Tryz.f175.name,by decide,Tryz.func175.trans (aeH some (by kernel_rfl))⟩
 f38:=⟨Tryz.f176.name,by decide,Tryz.func176.trans (aeH some (by kernel_rfl))⟩
 f39:=⟨Tryz.f153.name,by decide,Tryz.func153.trans (aeH some (by kernel_rfl))⟩
 f41:=⟨Tryz.f217.name,by decide,Tryz.func217.trans (aeH some (by kernel_rfl))⟩
 t0:=Tryz.underlying0
 a0:=Tryz.isAgg0
 z0:=Tryz.sizeOf0
 v0:=Tryz.zeroValue0
 t3:=Tryz.underlying3
 a3:=Tryz.isAgg3
 z3:=Tryz.sizeOf3
 v3:=Tryz.zeroValue3
 t4:=Tryz.underlying4
 a4:=Tryz.isAgg4
 z4:=Tryz.sizeOf4
 v4:=Tryz.zeroValue4
 t5:=Tryz.underlying5
 a5:=Tryz.isAgg5
 z5:=Tryz.sizeOf5
 v5:=Tryz.zeroValue5
 t9:=Tryz.underlying9
 a9:=Tryz.isAgg9
 z9:=Tryz.sizeOf9
 v9:=Tryz.zeroValue9
 t26:=Tryz.underlying34
 a26:=Tryz.isAgg34
 z26:=Tryz.sizeOf34
 v26:=Tryz.zeroValue34
 t27:=Tryz.underlying34
 a27:=Tryz.isAgg34
 z27:=Tryz.sizeOf34
 v27:=Tryz.zeroValue34
 t29:=Tryz.underlying9
 a29:=Tryz.isAgg9
 z29:=Tryz.sizeOf9
 v29:=Tryz.zeroValue9
 t32:=Tryz.underlying149
 a32:=Tryz.isAgg149
 z32:=Tryz.sizeOf149
 v32:=Tryz.zeroValue149
 t35:=Tryz.underlying184
 a35:=Tryz.isAgg184
 z35:=Tryz.sizeOf184
 v35:=Tryz.zeroValue184
 t36:=Tryz.underlying185
 a36:=Tryz.isAgg185
 z36:=Tryz.sizeOf185
 v36:=Tryz.zeroValue185
 t41:=Tryz.underlying81
 a41:=Tryz.isAgg81
 z41:=Tryz.sizeOf81
 v41:=Tryz.zeroValue81
 t44:=Tryz.underlying191
 a44:=Tryz.isAgg191
 z44:=Tryz.sizeOf191
 v44:=Tryz.zeroValue191
 t46:=Tryz.underlying193
 a46:=Tryz.isAgg193
 z46:=Tryz.sizeOf193
 v46:=Tryz.zeroValue193
 t53:=Tryz.underlying232
 a53:=Tryz.isAgg232
 z53:=Tryz.sizeOf232
 v53:=Tryz.zeroValue232
 t57:=Tryz.underlying236
 a57:=Tryz.isAgg236
 z57:=Tryz.sizeOf236
 v57:=Tryz.zeroValue236
 t63:=Tryz.underlying268
 a63:=Tryz.isAgg268
 z63:=Tryz.sizeOf268
 v63:=Tryz.zeroValue268
 t64:=Tryz.underlying64
 a64:=Tryz.isAgg64
 z64:=Tryz.sizeOf64
 v64:=Tryz.zeroValue64}
end Go.Proofs
namespace Go.Proofs.YtkdakckjafomhaaGreatDoor
open Go.RowKit Go.Maps Go.Sort Go.Shelf
theorem akD (m:Nat):AnyZ.SortsIn Tryz.prog Tryz.abG Fence.wide m:=
 ⟨fun blk off cap ss W hH hblk hsz=>callsIn_wide.2 (AnyM.slices_Sort_string Tryz.sort36 blk off cap ss W hH hblk hsz),
  fun p cap W=>callsIn_wide.2 (AnyM.slices_Sort_string_none Tryz.sort36 p cap W)⟩
theorem UO (mb:Option Nat) (W:World):Calls Tryz.prog 61 #[.map mb] W fun e w'=>e=.returned (.func (.func 99) #[] #[.pointer (some ⟨W.heap.size,0,none⟩)])/\W.alloc (.cells #[.map mb] 113)=w':=
 (callsIn_wide.1 (AnyZ.keys_in Tryz.keys61 Fence.wide 5 trivial rfl mb W)).mono fun _ _ ⟨h1,h2⟩=>⟨h1,h2.symm⟩
def sortL (l:List (List UInt8)):List (List UInt8):=(Gr.dedup l).mergeSort fun x y=>decide (x<=y)
theorem abH (l:List (List UInt8)):(sortL l).length=(Gr.dedup l).length:=apH _
theorem abI: ∀l:List (List UInt8),(Gr.dedup l).length<=l.length
 |[]=>by simp[Gr.dedup]
 |a :: r=>by
  have ih:=abI r;rw[Gr.dedup]
  split
  ·rw[adQ];omega
  rw[adQ,adQ];omega
theorem UQ (b:Nat) (l:List (List UInt8)) (w:World) (h:jJ w b l) (hl:l.length<=1073741824):
  Calls Tryz.prog 60 #[.func (.func 99) #[] #[.pointer (some ⟨w.heap.size,0,none⟩)]] (w.alloc (.cells #[.map (some b)] 113)) fun e w'=> ∃A c,e=.returned (.slice A (Gr.dedup l).length c)/\
   w'.ownsRow (w.alloc (.cells #[.map (some b)] 113)).heap.size 9 1 (.slice A (Gr.dedup l).length c) (Gr.dedup l).length ((sortL l).map ST)/\Below (w.alloc (.cells #[.map (some b)] 113)).heap.size (w.alloc (.cells #[.map (some b)] 113)) w':=by
 obtain⟨nn,D0,hn,hown,hT,hc,hh⟩:=h.ex;have hbl:=hown.lt
 have hperm:(Gr.dedup l).Perm (strKeys D0):=Collected.perm (left:=fun _=>false) ⟨Gr.JU l,fun x=>by rw[Gr.E9,hh x];simp⟩ hown PK Tryz.underlying9 (fun _=>rfl)
 have hdl:=abI l
 have hsz:Maps.size D0<=1073741824:=by
  have h1:=hperm.length_eq
  have h2:(strKeys D0).length=Maps.size D0:=by
   obtain⟨es,rfl⟩:=hT.isMap;rw[Maps.size_eq];exact adU _
  omega
 have hseq:SeqGives Fence.wide 2 Tryz.prog 99 #[.pointer (some ⟨w.heap.size,0,none⟩)] encStr (fun ss=>ss.Perm (strKeys D0)) (Maps.size D0) (w.alloc (.cells #[.map (some b)] 113)):=
  AnyZ.keys_gives (ρ:=Tryz.abE) {Tryz.keys61 with} Fence.wide _ trivial rfl (by omega) w.heap.size b nn D0 _ (by simp) (by simp) (by
   obtain⟨es,clock,hb,Ft,hs,hD⟩:=hown
   exact⟨es,clock,(Below.heap_alloc _ _ b hbl).trans hb,Ft,hs,hD⟩)
 refine(callsIn_wide.1 (AnyZ.sorted_in Tryz.sorted60 Fence.wide 5 trivial trivial trivial trivial rfl (by omega) (akD _) (enters_of Tryz.func36 (by kernel_rfl) rfl) 99 #[.pointer (some ⟨w.heap.size,0,none⟩)] trivial (enters_of Tryz.func99 (by kernel_rfl) rfl) _ _ (by unfold maxLen;omega) (by omega) _ hseq)).mono ?_
 rintro e w' ⟨v,ss,rfl,hS,hrow,-,hb⟩;have hss:=hS.trans hperm.symm
 have hm:=mergeSort_of_perm hss
 rw[show ss.mergeSort (fun x y=>decide (x<=y))=sortL l from hm,hss.length_eq]at hrow
 obtain⟨A,c,rfl⟩:=aF hrow;exact⟨A,c,rfl,hrow,hb⟩
end Go.Proofs.YtkdakckjafomhaaGreatDoor
