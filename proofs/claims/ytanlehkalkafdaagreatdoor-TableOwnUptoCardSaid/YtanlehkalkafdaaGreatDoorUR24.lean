/- Contracts and plain laws,part 24. -/
import Derived.Test.YtanlehkalkafdaaGreatDoorUR23
import Derived.Shelf.SlIter.Nil
import Derived.Shelf.SortM.Plain
import Derived.Shelf.SortM.SortNone
import Derived.Ground.GgzProg
import Derived.Ground.SlgmProg
set_option maxHeartbeats 64000000
set_option maxRecDepth 1000000
set_option linter.all false
namespace Go.Proofs.YtanlehkalkafdaaGreatDoor
open Go.RowKit
theorem Reads.take {w:World} {B n k:Nat} {A:Option Addr} {xs:List Value} (h:Reads w B 1 A n xs) (hk:k<=n):Reads w B 1 A k (xs.take k):=by
 refine⟨by rw[tK,h.1];omega,fun h0=> ?_⟩
 obtain⟨b,off,e,hb,hc⟩:=h.2 (by omega)
 exact⟨b,off,e,hb,fun j u hu=>hc j u (by
  have hj:j<k:=by
   have h1:=(rZ.1 hu).1;rw[tK]at h1;omega
  rwa [xK hj]at hu)⟩
def hdE:Option (List (List UInt8))->Nat
 |none=>230
 |some _=>0
theorem Reads.back {w w':World} {B s n:Nat} {A:Option Addr} {xs:List Value} (h:Reads w' B s A n xs) (hb:Below B w w'):Reads w B s A n xs:=by
 refine⟨h.1,fun h0=> ?_⟩
 obtain⟨b,off,e,hlt,hc⟩:=h.2 h0
 exact⟨b,off,e,hlt,fun j u hu=>(hb.cell (p:=⟨b,off+j,none⟩) hlt).symm.trans (hc j u hu)⟩
theorem Reads.cut {w:World} {B n k b off c:Nat} {xs:List Value} (h:Reads w B 1 (some ⟨b,off,none⟩) n xs) (hk:k<=n) (hc:n<=c):Reads w B 1 (if c=k then some ⟨b,off,none⟩ else some ⟨b,off+k,none⟩) (n - k) (xs.drop k):=by
 by_cases e:c=k
 ·rw[rY e]
  exact⟨by rw[uJ,h.1];omega,fun h0=>by omega⟩
 rw[rU e];exact h.drop hk
def HdRes (B:Nat) (o:Option (List (List UInt8))) (w:World) (e:Ending) (w':World):Prop:=
 ∃A n c,e=.returned (.tuple #[.slice A n c,.int .i64 (hdE o:Nat)])/\Below w.heap.size w w'/\ ∀ks,o=some ks->n=ks.length/\Reads w' B 1 A n (ks.map ST)
theorem headP_none {want h:List (List UInt8)} {r:List (List (List UInt8))} (hw:h.take want.length≠want\/(h.drop want.length).all Gr.goodName=false\/ ¬(h.drop want.length).Nodup):Tb.headP want (h :: r)=none:=by
 rw[Tb.headP,rU];rintro⟨h1,h2,h3⟩
 rcases hw with hw|hw|hw
 ·exact hw h1
 ·rw[h2]at hw;cases hw
 exact hw h3
theorem header_any (B:Nat) (A:Option Addr) (n c m:Nat) (rows:List (List (List UInt8))) (hd:ByteArray) (want:List (List UInt8)) (w:World) (h:Rows2 w B (.slice A n c) rows) (hn:rows.length=n) (hnb:n<=1073741824)
  (hsp:Lib.splitB ⟨#[44]⟩ 0 (Lib.countB hd ⟨#[44]⟩) hd=want.map BA) (hwl:want.length=m) (hm0:0<m) (hm4:m<=4) (hhd:hd.size<=1000) (hrow: ∀r∈rows,Tb.Row r) (hB:B<=w.heap.size) (hL:Laid w):
  Calls Tryz.prog 66 #[.slice A n c,.string hd] w (HdRes B (Tb.headP want rows) w):=by
 obtain⟨R,hR⟩:=aj (Tb.headP want rows);rw[hR];obtain⟨m0,hm⟩:=hL.max
 have hs:=Tryz.strings_Split hd ⟨#[44]⟩ m0 w (by omega) hm (by decide)
 have hcnt:Lib.countB hd ⟨#[44]⟩+1=m:=by
  rw[<-hwl,<-sU (f:=BA),<-hsp,Lib.splitB_all _ (by decide) 0 _ hd rfl]
 rw[hcnt,hsp,show(want.map BA).map Value.string=want.map ST by rw[vV];rfl]at hs
 obtain⟨W1,hW1⟩:=aj (w.alloc (.cells (want.map ST).toArray 9));rw[hW1]at hs
 have hb1:Below w.heap.size w W1:=hW1▸(Below.refl _ w).alloc (rM _) _
 have hk1:Blk W1 w.heap.size 9 (want.map ST).toArray:=hW1▸Blk.new _ _ _
 have hwr:Reads W1 W1.heap.size 1 (some ⟨w.heap.size,0,none⟩) m (want.map ST):=⟨by simp[hwl],fun _=>⟨_,0,rfl,hk1.lt,fun j u hu=>by rw[wL,hk1.cell j];simpa using hu⟩⟩
 have h1:=h.below (hb1.mono hB);have HS:=ah hs;have HB1:=ah hb1;have HWR:=ah hwr
 have HR:=ah hR;have HBw:=ah hB;have HROW:=ah hrow;have HWL:=ah hwl
 have hmI:(1:Int)<=m:=by omega
 cases rows with
 |nil=>
  have hn0:n=0:=hn.symm;have hr:R=none:=hR.symm;subst hr hn0
  clear h h1 hn hs hW1 hb1 hk1 hwr hR hB hrow hwl hsp hcnt hL hm hhd
  go_enter Tryz.func66,Tryz.ntmps66;go_wp2_with fail;refine HS.mono ?_
  rintro e w1 ⟨rfl,rfl⟩;go_wp2
  go_ret2
  exact⟨none,0,0,rfl,HB1.out,fun ks h=>by cases h⟩
 |cons r rest=>
 obtain⟨b,off,Ar,cr,rfl,hbB,hcell,hrc,hrm,hrd⟩:=h1.at (k:=0) rfl;rw[vw]at hcell
 have hn1:(0:Int)<n:=by have:=hn;rw[sS]at this;omega
 have tn:((n:Int) == 0)=false:=by rw[rX];omega
 obtain⟨rl,hrl⟩:=aj r.length;rw[hrl]at hcell hrc hrd;obtain⟨hr1,hr2⟩:=hrow r (wX ..)
 rw[hrl]at hr1;have HRL:=ah hrl;have HRD:=ah hrd;have HR2:=ah hr2;have HBB:=ah hbB
 have HL:=ah (fun(V:World) (hb:Below w.heap.size w V)=>hL.below hb)
 by_cases hlm:rl<m
 ·have hr:R=none:=by
   rw[<-hR];refine headP_none (.inl fun e=> ?_)
   have:=uo List.length e;rw[tK]at this;omega
  subst hr;have hlmI:(rl:Int)<m:=by omega
  clear h h1 hn hs hW1 hb1 hk1 hwr hR hB hrow hwl hsp hcnt hL hm hhd hrl hrd hr2 hbB
  go_enter Tryz.func66,Tryz.ntmps66;go_wp2_with fail;refine HS.mono ?_
  rintro e w1 ⟨rfl,rfl⟩;go_wp2
  go_ret2
  exact⟨none,0,0,rfl,HB1.out,fun ks h=>by cases h⟩
 have hmlI:(m:Int)<=rl:=by omega
 have tlm:decide (rl<m)=false:=rO hlm;have hml:m<=rl:=by omega
 have hmc:m<=cr:=by omega
 have hmcI:(m:Int)<=cr:=by omega
 obtain⟨b1,o1,rfl,hb1B⟩:=hrd.blk (by omega)
 have htk:=hrd.take hml;rw[<-CU]at htk
 have heq:=equal_any (c:=cr) (d:=m) W1 htk hwr (by omega)
 obtain⟨t,ht⟩:=aj (decide (r.take m=want):Bool);rw[ht]at heq;have HEQ:=ah heq
 have HT:=ah ht;have hrcI:(rl:Int)<=cr:=by omega
 clear h h1 hn hs hW1 hb1 hk1 hwr hB hrow hwl hsp hcnt hL hm hhd hrl hrd hr2 hbB hlm htk heq ht hR
 go_enter Tryz.func66,Tryz.ntmps66;go_wp2_with fail;refine HS.mono ?_
 rintro e w1 ⟨rfl,rfl⟩;go_wp2_with fail;refine HEQ.mono ?_;rintro e w2 ⟨rfl,b2⟩
 have HB2:=ah (HB1.trans (b2.mono HB1.size))
 have hc2:=(b2.cell (p:=⟨b,off,none⟩) (sZ HBB.out (rV HBw.out HB1.size))).trans hcell
 have HRD2:=ah (HRD.below (b2.mono (rV HBw.out HB1.size)));clear b2 hcell HEQ HS
 cases t with
 |false=>
  have hr:R=none:=by
   rw[<-HR.out];exact headP_none (.inl (by rw[HWL.out];exact sO HT.out))
  subst hr;go_wp2
  go_ret2
  exact⟨none,0,0,rfl,HB2.out,fun ks h=>by cases h⟩
 |true=>
 have htk:r.take m=want:=sQ HT.out;obtain⟨ks,hks⟩:=aj (r.drop m)
 obtain⟨kn,hkn⟩:=aj ks.length;have hkn2:rl - m=kn:=by rw[<-hkn,<-hks,uJ,HRL.out]
 obtain⟨Ak,hAk⟩:=aj (if cr=m then some (⟨b1,o1,none⟩:Addr) else some ⟨b1,o1+m,none⟩)
 have hrk:=HRD2.cut hml hrc;rw[hAk]at hrk;have HAK:=ah hAk;rw[<-Cb,hks,hkn2]at hrk
 have hkf: ∀f∈ks,f.length<=16777216:=fun f hf=>HR2.out f (by rw[<-hks]at hf;exact yF hf)
 have hknb:kn<=16777217:=by omega
 have hR2:=HR.out;rw[Tb.headP,HWL.out,hks]at hR2
 have HRR:=ah (show(if ks.all Gr.goodName=true/\ks.Nodup then some ks else none)=R by
  rw[<-hR2];by_cases h:ks.all Gr.goodName=true/\ks.Nodup
  ·rw[rY h,rY ⟨htk,h.1,h.2⟩]
  rw[rU h,rU (fun x=>h x.2)])
 have HKR:=ah hrk;have HKN:=ah hkn;have HKF:=ah hkf;have HKN2:=ah hkn2
 obtain⟨W3,hW3⟩:=aj (w2.alloc (.map #[] 0));obtain⟨mb,hmb⟩:=aj w2.heap.size
 have hb3:Below w2.heap.size w2 W3:=hW3▸(Below.refl _ w2).alloc (rM _) _
 have HC3:=ah (show CntS W3 mb [] by rw[<-hW3,<-hmb];exact CntS.made w2)
 have HB3:=ah (HB2.trans (hb3.mono HB2.size))
 have HMB:=ah (show w.heap.size<=mb by rw[<-hmb];exact HB2.size)
 have HW3:=ah hW3;have HKR3:=ah (hrk.below (hb3.mono (rV HBw.out HB2.size)))
 have hmm:= @run_makeMap Tryz.prog
 clear htk hks hkn hrk hkf hR2 hAk hW3 hb3 HT HRD HRD2 HR2 HR HROW
 go_upto_region 6 with fail
 rw[HW3.out]
 try rw[hmb]
 clear HW3 hmb hmm
 try rw[hkn2]
 rw[HAK.out];clear hkn2 HAK;go_wp2_with fail
 go_loopg [45] kn (fun q x wr=> ∃k:Nat,x=.int .i64 k/\k+q=kn/\Below w.heap.size w wr/\CntS wr mb (ks.take k)/\Reads wr B 1 Ak kn (ks.map ST)/\Hid ((ks.take k).all Gr.goodName=true/\(ks.take k).Nodup))
 case atStart=>exact⟨0,rfl,by omega,HB3.out,HC3.out,HKR3.out,⟨rfl,List.nodup_nil⟩⟩
 obtain⟨k,rfl,hk,hb,hc,hr,he⟩:=hrel;have HB:=ah hb;have HC:=ah hc;have HRr:=ah hr
 have HK:=ah hk;clear hb hc hr HB3 HC3 HKR3;cases gk with
 |zero=>
  obtain rfl:k=kn:=by omega
  have hr:R=some ks:=by
   have h:=he.out;rw[sG (by rw[HKN.out];exact rM _)]at h
   rw[<-HRR.out,rY h]
  subst hr;clear he hk;go_wp2
  go_ret2
  exact⟨_,_,_,rfl,HB.out,fun l h=>by cases h;exact⟨HKN.symm,HRr.out⟩⟩
 |succ q=>
  have hkn':k<kn:=by omega
  have hknI:(k:Int)<kn:=by omega
  obtain⟨p,hp⟩: ∃p,ks[k]?=some p:=⟨_,ay (by rw[HKN.out];exact hkn')⟩
  have htk:ks.take (k+1)=ks.take k++[p]:=by rw[uM,hp];rfl
  have hpm:=sK hp;obtain⟨b3,o3,rfl,-⟩:=HRr.blk (by omega)
  have hcell:=HRr.st hp;have hpl:=HKF.out p hpm;obtain⟨z,hz⟩:=aj (⟨p.toArray⟩:ByteArray)
  have hst:ST p=.string z:=by rw[<-hz];rfl
  have hzd:z.data.toList=p:=by rw[<-hz]
  have hzs:z.size<=16777216:=by rw[Lib.size_eq,hzd];exact hpl
  rw[hst]at hcell;obtain⟨LK,hLK⟩:=aj (ks.take k);have hlk:=HC.out
  rw[hLK]at hlk he htk
  have hlk1:=hlk.look (t:=93) Tryz.underlying93 (s:=z) (by unfold maxLen;omega)
  rw[hzd]at hlk1;obtain⟨N,hN⟩:=aj (LK.count p)
  have hLl:LK.length<=k:=by rw[<-hLK,tK];omega
  have hNle:N<=LK.length:=by rw[<-hN];exact vP
  rw[hN]at hlk1;have hNi:(N:Int)<=16777217:=by omega
  have hLl2:LK.length<=16777217:=by omega
  have hgn:=fun(V:World)=>goodName_any z V (by omega)
  rw[hzd]at hgn;obtain⟨g,hg⟩:=aj (Gr.goodName p);rw[hg]at hgn;have HGN:=ah hgn
  have HG:=ah hg;have HCM:=ah hlk;have HNC:=ah hN;have HZD:=ah hzd;have HZS:=ah hzs
  have HLl:=ah hLl2;have HTK:=ah htk;have HPK:=ah hp;have HPM:=ah hpm;have HLK:=ah hLK
  have HE:=ah he.out;have hu:=undef_no
  clear hp htk hpm hpl hz hst hzd hzs hlk hN hLl hNle hLl2 hgn hg he hk hLK
  go_wp2_with (at_mapUpdate;refine wpList_put_S _ rfl HCM.out (by have:=HLl.out;omega) (.tmp 49) (.tmp 50) (.tmp 52) 93 rfl Tryz.underlying93 rfl z (by have:=HZS.out;unfold maxLen;omega) rfl (by rw[HZD.out,HNC.out];rfl) ?_)
  intro w1 hc1 hg1;rw[HZD.out]at hc1
  have HB1:=ah (show Below w.heap.size w w1 from HB.trans ⟨hg1.os,hg1.tape,hg1.output,hg1.size,fun i hi=>hg1.block i (sZ hi HB.size) (fun e=>by cases e;have:=HMB.out;omega)⟩)
  have HR1:=ah (HRr.below (B:=B) ⟨hg1.os,hg1.tape,hg1.output,hg1.size,fun i hi=>hg1.block i (sZ hi (rV HBw.out HB.size)) (fun e=>by cases e;have:=HMB.out;have:=HBw.out;omega)⟩)
  have HC1:=ah hc1
  have hlk2:=hc1.look (t:=93) Tryz.underlying93 (s:=z) (by have:=HZS.out;unfold maxLen;omega)
  rw[HZD.out,Aa,HNC.out,zJ]at hlk2;clear hc1 hg1 hlk1 hcell HCM HC;by_cases hN0:N=0
  case neg=>
   have t1:decide ((1:Int)<((N+1:Nat):Int))=true:=rQ (by omega)
   have hr:R=none:=by
    rw[<-HRR.out,rU];rintro⟨-,hnd⟩
    have hm:p∈ks.take k:=by rw[HLK.out];exact wY.1 (by rw[HNC.out];omega)
    rw[<-uz k ks,xR,dQ HPK.out]at hnd;exact hnd.2.2 p hm p (wX ..) rfl
   subst hr;go_wp2
   go_ret2
   exact⟨none,0,0,rfl,HB1.out,fun ks h=>by cases h⟩
  subst hN0;have t1:decide ((1:Int)<((0+1:Nat):Int))=false:=rO (by omega)
  go_wp2_with fail;refine(HGN.out _).mono ?_;rintro e w2 ⟨rfl,rfl⟩;cases g with
  |false=>
   have hr:R=none:=by
    rw[<-HRR.out,rU];rintro⟨ha,-⟩;have:=wC.1 ha p HPM.out;rw[HG.out]at this;cases this
   subst hr;go_wp2
   go_ret2
   exact⟨none,0,0,rfl,HB1.out,fun ks h=>by cases h⟩
  |true=>
   have HE2:=ah (show(ks.take (k+1)).all Gr.goodName=true/\(ks.take (k+1)).Nodup by
    rw[HTK.out,Bj,HE.out.1]
    refine⟨by simp[HG.out],xR.2 ⟨HE.out.2,by simp,fun a ha b hb e=> ?_⟩⟩
    rw[ug]at hb;subst e hb;have:=wY.2 ha;rw[HNC.out]at this
    omega)
   clear hlk2 t1;go_wp2
   go_roundg q
   case measure=>omega
   exact⟨k+1,int_eq (by omega),by have:=HK.out;omega,HB1.out,by rw[HTK.out];exact HC1.out,HR1.out,HE2⟩
theorem splitN_head:Lib.splitB ⟨#[44]⟩ 0 (Lib.countB ⟨#[58,73,68,44,58,76,65,66,69,76]⟩ ⟨#[44]⟩) ⟨#[58,73,68,44,58,76,65,66,69,76]⟩=Tb.headN.map BA:=by kernel_rfl
theorem splitR_head:Lib.splitB ⟨#[44]⟩ 0 (Lib.countB ⟨#[58,73,68,44,58,83,84,65,82,84,44,58,69,78,68,44,58,84,89,80,69]⟩ ⟨#[44]⟩) ⟨#[58,73,68,44,58,83,84,65,82,84,44,58,69,78,68,44,58,84,89,80,69]⟩=Tb.headR.map BA:=by kernel_rfl
def PnRes (R:List Gr.N×Nat) (w:World) (e:Ending) (w':World):Prop:=
 ∃v,e=.returned (.tuple #[v,.int .i64 (R.2:Nat)])/\NodesOwn w' w.heap.size v R.1/\Below w.heap.size w w'
structure NpS (w:World) (mb:Nat) (acc:List Gr.N) (v:Value) (V:World):Prop where
 bel:Below w.heap.size w V
 map:CntI V mb (acc.map Gr.N.id)
 own:NodesOwn V w.heap.size v acc
theorem oK (B:Nat) (A:Option Addr) (n c:Nat) (rows:List (List (List UInt8))) (w:World) (h:Rows2 w B (.slice A n c) rows) (hn:rows.length=n) (hnb:n<=16777217) (hrow: ∀r∈rows,Tb.Row r) (hB:B<=w.heap.size) (hL:Laid w):
  Calls Tryz.prog 33 #[.slice A n c] w (PnRes (Tb.nodesOf rows) w):=by
 obtain⟨R,hR⟩:=aj (Tb.nodesOf rows);rw[hR]
 have hh:=header_any B A n c 2 rows ⟨#[58,73,68,44,58,76,65,66,69,76]⟩ Tb.headN w h hn (by omega) splitN_head rfl (by decide) (by decide) (by decide) hrow hB hL
 unfold Tb.nodesOf at hR;obtain⟨o,ho⟩:=aj (Tb.headP Tb.headN rows);rw[ho]at hR hh
 have HH:=ah hh;cases o with
 |none=>
  have hr:R=([],230):=hR.symm;subst hr;clear h hn hnb hrow hB hL hR hh ho
  go_enter Tryz.func33,Tryz.ntmps33;go_wp2_with fail;refine HH.mono ?_
  rintro e w1 ⟨A1,n1,c1,rfl,b1,-⟩;have HB1:=ah b1;clear b1 HH;go_wp2
  go_ret2
  exact⟨_,rfl,NodesOwn.nil _ _,HB1.out⟩
 |some ks=>
 have hRR:Tb.nodesP ks (2+ks.length) rows.tail []=R:=hR
 obtain⟨r0,rest,rfl⟩: ∃r0 rest,rows=r0 :: rest:=by
  cases rows with
  |nil=>cases ho
  |cons r0 rest=>exact⟨r0,rest,rfl⟩
 have hw0:r0.length=2+ks.length:=by
  rw[Tb.headP]at ho
  split at ho
  ·rename_i hc
   have e:=tN ho;have h1:=uo List.length hc.1;rw[<-e,uJ];rw[tK]at h1
   have:Tb.headN.length=2:=rfl;omega
  cases ho
 obtain⟨b,off,Ar,cr,rfl,hbB,hcell,-,-,-⟩:=h.at (k:=0) rfl;rw[vw]at hcell
 obtain⟨kn,hkn⟩:=aj ks.length;obtain⟨wd,hwd⟩:=aj (2+ks.length);rw[hw0,hwd]at hcell
 rw[hwd]at hRR;have hwd2:wd=2+kn:=by omega
 obtain⟨m,hm⟩:=aj rest.length;have hnm:n=m+1:=by rw[<-hn,<-hm];rfl
 subst hnm;obtain⟨A',c',hf,hrc,hrm⟩:=h.form
 injection hf with hf1 hf2 hf3
 subst hf3;rw[hn]at hrc;have hrcI:(1:Int)<=c:=by omega
 have HRW:=ah (show∀(k:Nat) r,rest[k]?=some r-> ∃Ar cr,w.cell? ⟨b,off+1+k,none⟩=some (.slice Ar r.length cr)/\r.length<=cr/\Reads w B 1 Ar r.length (r.map ST) from fun k r hk=>by
  obtain⟨b',off',Ar,cr,e,-,h1,h2,-,h3⟩:=h.at (k:=k+1) (r:=r) (by simpa using hk)
  injection e with e
  injection e with e1 e2
  subst e1 e2
  exact⟨Ar,cr,by rw[show off+1+k=off+(k+1) by omega];exact h1,h2,h3⟩)
 have HROW:=ah hrow;have HBw:=ah hB;have HBB:=ah hbB;have HL:=ah hL;have HR:=ah hRR
 have HM:=ah hm;have HKN:=ah hkn;have HC0:=ah hcell;have hnb':m<=16777216:=by omega
 have hmm:= @run_makeMap Tryz.prog
 clear h hn hnb hrow hB hL hR hRR hh ho hw0 hbB hcell hkn hwd hm hf1 hf2 hrm
 go_enter Tryz.func33,Tryz.ntmps33;go_wp2_with fail;refine HH.mono ?_
 rintro e w1 ⟨A1,n1,c1,rfl,b1,hks⟩;obtain⟨e1,hkr⟩:=hks ks rfl;rw[HKN.out]at e1;subst e1
 obtain⟨W3,hW3⟩:=aj (w1.alloc (.map #[] 0));obtain⟨mb,hmb⟩:=aj w1.heap.size
 have hb3:Below w1.heap.size w1 W3:=hW3▸(Below.refl _ w1).alloc (rM _) _
 have HS3:=ah (show NpS w mb [] (.slice none 0 0) W3 from⟨b1.trans (hb3.mono b1.size),by rw[<-hW3,<-hmb];exact CntI.made w1,NodesOwn.nil _ _⟩)
 have HMB:=ah (show w.heap.size<=mb by rw[<-hmb];exact b1.size)
 have HKR:=ah (hkr.back (b1.mono HBw.out));have HB1:=ah b1;have HW3:=ah hW3
 have hc3:W3.cell? ⟨b,off,none⟩=some (.slice Ar wd cr):=((b1.trans (hb3.mono b1.size)).cell (p:=⟨b,off,none⟩) (sZ HBB.out HBw.out)).trans HC0.out
 clear hb3 hW3 hks hkr b1 HH
 obtain⟨Aw,hAw⟩:=aj (if c=1 then some (⟨b,off,none⟩:Addr) else some ⟨b,off+1,none⟩)
 have HAW:=ah (show 0<m->Aw=some ⟨b,off+1,none⟩ from fun h=>by rw[<-hAw,rU (by omega)])
 have HAW2:=ah hAw;clear hAw
 go_upto_region 5 with fail
 rw[HW3.out]
 try rw[hmb]
 clear HW3 hmb hmm
 go_upto_block 0 with fail
 rw[HAW2.out];clear HAW2;go_wp2_with fail
 go_loopg [2,22] m (fun q x y wr=> ∃k:Nat,∃acc A2 c2,x=.slice A2 acc.length c2/\y=.int .i64 k/\k+q=m/\acc.length<=k/\NpS w mb acc (.slice A2 acc.length c2) wr/\Hid (Tb.nodesP ks wd (rest.drop k) acc=R))
 case atStart=>exact⟨0,[],none,0,rfl,rfl,by omega,rM _,HS3.out,HR.out⟩
 obtain⟨k,acc,A2,c2,rfl,rfl,hk,hal,hs,he⟩:=hrel;have HS:=ah hs;have HK:=ah hk
 clear hs HS3 HR hc3;cases gk with
 |zero=>
  obtain rfl:k=m:=by omega
  have hr:R=(acc,0):=by
   have h:=he.out;rw[uq (by rw[HM.out];exact rM _)]at h
   exact h.symm
  subst hr;clear he hk hal;go_wp2
  go_ret2
  exact⟨_,rfl,HS.own,HS.bel⟩
 |succ q=>
  have hkn:k<m:=by omega
  have hknI:(k:Int)<m:=by omega
  obtain rfl:=HAW.out (by omega)
  obtain⟨r,hr⟩: ∃r,rest[k]?=some r:=⟨_,ay (by rw[HM.out];exact hkn)⟩
  obtain⟨A3,c3,hcr,hrc3,hrr⟩:=HRW.out k r hr;have hrow:=HROW.out r (uQ _ (sK hr))
  obtain⟨rl,hrl⟩:=aj r.length;rw[hrl]at hcr hrc3 hrr;have hbw:=sZ HBB.out HBw.out
  have hcr1:=(HS.bel.cell (p:=⟨b,off+1+k,none⟩) hbw).trans hcr
  have hc01:=(HS.bel.cell (p:=⟨b,off,none⟩) hbw).trans HC0.out;have hp:=he.out
  rw[dQ hr,Tb.nodesP,hrl]at hp;have hw1:w.heap.size<=wr.heap.size:=HS.bel.size
  by_cases hlw:rl=wd
  case neg=>
   have hr2:R=([],231):=by rw[<-hp,rY hlw]
   subst hr2;have t1:((rl:Int) !=wd)=true:=by rw[tH];omega
   clear he hp hlw hr hrr hk hal hcr;go_wp2
   go_ret2
   exact⟨_,rfl,NodesOwn.nil _ _,HS.bel⟩
  subst hlw;rw[rU (by simp)]at hp
  have t1:((rl:Int) !=rl)=false:=by simp
  obtain⟨b2,o2,rfl,hb2⟩:=hrr.blk (by omega)
  have hb2w:=sZ hb2 HBw.out;obtain⟨f0,hf0⟩:=aj (r.getD 0 [])
  obtain⟨f1,hf1⟩:=aj (r.getD 1 []);obtain⟨q0,m0⟩:=hrr.fld (k:=0) (by omega)
  obtain⟨q1,m1⟩:=hrr.fld (k:=1) (by omega)
  rw[hf0]at q0 m0 hp;rw[hf1]at q1 m1 hp;have s0:=hrow.2 f0 m0;have s1:=hrow.2 f1 m1
  obtain⟨z0,hz0⟩:=aj (⟨f0.toArray⟩:ByteArray)
  obtain⟨z1,hz1⟩:=aj (⟨f1.toArray⟩:ByteArray);have zd0:z0.data.toList=f0:=by rw[<-hz0]
  have zd1:z1.data.toList=f1:=by rw[<-hz1]
  rw[show ST f0=.string z0 by rw[<-hz0];rfl,vw]at q0
  rw[show ST f1=.string z1 by rw[<-hz1];rfl]at q1
  obtain⟨W4,hW4⟩:=aj (wr.alloc (.cells #[.int .i64 0,.slice none 0 0,.slice none 0 0] 48))
  obtain⟨nd,hnd⟩:=aj wr.heap.size
  have hb4:Below wr.heap.size wr W4:=hW4▸(Below.refl _ wr).alloc (rM _) _
  have hk4:Blk W4 nd 48 #[.int .i64 0,.slice none 0 0,.slice none 0 0]:=by rw[<-hW4,<-hnd];exact Blk.new _ _ _
  have hkn1:=known_any z0 1024 W4 (by rw[Lib.size_eq,zd0];omega) (HL.below (HS.bel.trans (hb4.mono hw1)))
  rw[zd0]at hkn1
  have hlb:=fun(V:World) (hb:Below w.heap.size w V)=>oJ z1 V (by rw[Lib.size_eq,zd1];omega) (HL.below hb)
  rw[zd1]at hlb;have HKN1:=ah hkn1;have HLB:=ah hlb;have HB4:=ah hb4;have HK4:=ah hk4
  have HW4:=ah hW4;have HND:=ah hnd
  have HCELL:=ah (fun(V:World) (hb:Below wr.heap.size wr V\/wr.grownBy V (some mb))=>show V.cell? ⟨b2,o2,none⟩=some (.string z0)/\V.cell? ⟨b2,o2+1,none⟩=some (.string z1)/\V.cell? ⟨b,off+1+k,none⟩=some (.slice (some ⟨b2,o2,none⟩) rl c3) from by
   have hbV:Below w.heap.size w V:=by
    rcases hb with hb|hb
    ·exact HS.bel.trans (hb.mono hw1)
    exact HS.bel.trans ⟨hb.os,hb.tape,hb.output,hb.size,fun i hi=>hb.block i (by omega) (fun e=>by cases e;have:=HMB.out;omega)⟩
   exact⟨(hbV.cell (p:=⟨b2,o2,none⟩) hb2w).trans q0,(hbV.cell (p:=⟨b2,o2+1,none⟩) hb2w).trans q1,(hbV.cell (p:=⟨b,off+1+k,none⟩) hbw).trans hcr⟩)
  obtain⟨g0,g1,-⟩:=HCELL.out W4 (.inl hb4);have HE:=ah hp;have HRR:=ah hrr
  have HROW1:=ah hrow;have HRL:=ah hrl
  clear he hp hr hrr hk hcr q0 m0 q1 m1 s0 s1 hz0 hz1 zd0 zd1 hW4 hb4 hk4 hkn1 hlb hf0 hf1 hrow hrl hnd hb2
  go_upto_region 11 with fail
  rw[HW4.out,HND.out];clear HW4;obtain⟨d0,d1,d2⟩:=cells3 HK4.out;have fr4:=HK4.frozen 0
  go_wp2_with fail;refine HKN1.mono ?_;rintro e w5 ⟨x,bb,rfl,b5,hbb,hxx⟩
  have hk5:=HK4.below b5 HK4.lt;have hb5:=HB4.trans (b5.mono HB4.size)
  obtain⟨W6,hW6⟩:=aj (w5.setCell ⟨nd,0,none⟩ (.int .i64 x))
  have hb6:Below wr.heap.size wr W6:=hW6▸hb5.setCell (p:=⟨nd,0,none⟩) (by rw[HND.out];exact rM _) _
  have hk6:Blk W6 nd 48 #[.int .i64 x,.slice none 0 0,.slice none 0 0]:=by rw[<-hW6];simpa using hk5.set_ 0 (.int .i64 x)
  have HB6:=ah hb6;have HK6:=ah hk6;have HW6:=ah hW6;have d5:=hk5.cell 0
  have f5:=hk5.frozen 0
  clear d0 d1 d2 fr4 g0 g1 hk5 hb5 hW6 hb6 hk6 b5 HKN1 HK4 HB4 hcr1 hc01
  go_upto_region 13 with fail
  rw[HW6.out];clear HW6 d5 f5;obtain⟨d0,d1,d2⟩:=cells3 HK6.out;have he:=HE.out
  cases hkw:Tb.known 1024 f0 with
  |none=>
   rw[hkw]at he hbb;have hr2:R=([],61):=he.symm;subst hr2;obtain rfl:bb=false:=hbb
   clear he;go_wp2
   go_ret2
   exact⟨_,rfl,NodesOwn.nil _ _,HS.bel.trans (HB6.mono hw1)⟩
  |some id=>
  rw[hkw]at he hbb;obtain rfl:bb=true:=hbb;obtain rfl:x=id:=hxx id hkw;simp only at he
  obtain⟨hx0,hx1,hxi⟩:=known_in hkw (by decide)
  obtain⟨LK,hLK⟩:=aj (acc.map Gr.N.id);have hcm:=HS.map.below HB6.out;rw[hLK]at he hcm
  have hlk1:=hcm.look (t:=90) Tryz.underlying90 hxi;obtain⟨N,hN⟩:=aj (LK.count x)
  have hLl:LK.length<=16777216:=by rw[<-hLK,sU];omega
  have hNle:N<=LK.length:=by rw[<-hN];exact vP
  rw[hN]at hlk1;have hNi:(N:Int)<=16777216:=by omega
  have HCM:=ah hcm;have HNC:=ah hN;have HLK:=ah hLK;have HXI:=ah hxi;have HLl:=ah hLl
  have HE2:=ah he;clear he hxx hkw hcm hN hLK hNle hLl hxi HE hx0 hx1
  go_wp2_with (at_mapUpdate;refine wpList_put_I _ rfl HCM.out (by have:=HLl.out;omega) (.tmp 44) (.tmp 46) (.tmp 48) 90 rfl Tryz.underlying90 rfl x HXI.out rfl (by rw[HNC.out];rfl) ?_)
  intro w7 hc7 hg7
  have hg7':wr.grownBy w7 (some mb):=only_trans (only_of_below HB6.out _) hg7
  have HG7:=ah hg7'
  have hmn:some nd≠some mb:=fun e=>by have:=HS.map.lt;have:=HND.out;cases e;omega
  have HMN:=ah hmn;have HK7:=ah (HK6.grown hg7 hmn)
  have hlk2:=hc7.look (t:=90) Tryz.underlying90 HXI.out;rw[Aa,HNC.out,zJ]at hlk2
  have HC7:=ah hc7
  have HBel:=ah (fun(V:World) (hb:wr.grownBy V (some mb))=>show Below w.heap.size w V from HS.bel.trans ⟨hb.os,hb.tape,hb.output,hb.size,fun i hi=>hb.block i (by omega) (fun e=>by cases e;have:=HMB.out;omega)⟩)
  clear hc7 hg7 hlk1 d0 d1 d2 HCM HK6 HB6 hmn;obtain⟨d0,d1,d2⟩:=cells3 HK7.out
  by_cases hN0:N=0
  case neg=>
   have t2:decide ((1:Int)<((N+1:Nat):Int))=true:=rQ (by omega)
   have hr2:R=([],7):=by
    rw[<-HE2.out,rY (wY.1 (by rw[HNC.out];omega))]
   subst hr2;go_wp2
   go_ret2
   exact⟨_,rfl,NodesOwn.nil _ _,HBel.out _ hg7'⟩
  subst hN0;have t2:decide ((1:Int)<((0+1:Nat):Int))=false:=rO (by omega)
  have he:=HE2.out;rw[rU (fun h=>by have:=wY.2 h;rw[HNC.out]at this;omega)]at he
  obtain⟨Q,hQ⟩:=aj (Tb.labelsP f1);obtain⟨ls,ec⟩:=Q
  have hlb:=HLB.out w7 (HBel.out _ hg7');rw[hQ]at he hlb;have mM:=ah hlb;have HE3:=ah he
  obtain⟨-,g1,-⟩:=HCELL.out w7 (.inr hg7');have pO:(1:Int)<rl:=by omega
  clear he hlb hQ HE2 HLB;go_wp2_with fail;refine mM.mono ?_;rintro e w8 ⟨vl,rfl,ol,b8⟩
  obtain⟨Al,cl,rfl⟩:=own_form ol;have hk8:=HK7.below b8 HK7.lt
  have hg8:=only_below HG7.out b8
  obtain⟨W9,bD⟩:=aj (w8.setCell ⟨nd,1,none⟩ (.slice Al ls.length cl))
  have hg9:wr.grownBy W9 (some mb):=bD▸only_setCell hg8 (.inr (by rw[HND.out];exact rM _)) _
  have HK9:=ah (show Blk W9 nd 48 #[.int .i64 x,.slice Al ls.length cl,.slice none 0 0] by rw[<-bD];simpa using hk8.set_ 1 (.slice Al ls.length cl))
  have HO9:=ah (show W9.ownsRow w7.heap.size 9 1 (.slice Al ls.length cl) ls.length (ls.map ST) by rw[<-bD];exact own_kt ol (Kt.cell (base:=0) hk8 (wG _) 1 _) (by decide))
  have HC9:=ah (show CntI W9 mb (LK++[x]) by rw[<-bD];exact(HC7.below b8).kept (grownBy_set _ _ _) (fun e=>HMN.out e.symm))
  have HG9:=ah hg9;have gy:=ah bD;have hz7:w.heap.size<=w7.heap.size:=rV hw1 HG7.size
  have d8:=hk8.cell 1;have f8:=hk8.frozen 1
  clear d0 d1 d2 t2 hlk2 ol b8 hk8 hg8 bD hg9 mM HK7 HC7 HG7 hg7' g1
  go_upto_region 19 with fail
  rw[gy.out];clear gy d8 f8;obtain⟨d0,d1,d2⟩:=cells3 HK9.out;by_cases hec:ec=0
  case neg=>
   have t3:((ec:Int) !=0)=true:=by rw[tH];omega
   have hr2:R=([],ec):=by rw[<-HE3.out,rY hec]
   subst hr2;clear hec;go_wp2
   go_ret2
   exact⟨_,rfl,NodesOwn.nil _ _,HBel.out _ HG9.out⟩
  subst hec;have he:=HE3.out;rw[rU (by simp)]at he
  obtain⟨kn,hkn2⟩:=aj ks.length;obtain⟨Q,hQ⟩:=aj (Tb.propsP ks (r.drop 2))
  obtain⟨ps,ep⟩:=Q;rw[hQ]at he;have hkl:n1=kn:=by rw[<-HKN.out,hkn2]
  have hpw:=HBel.out _ HG9.out
  have hdr:=(HRR.below (hpw.mono HBw.out)).cut (k:=2) (c:=c3) (by omega) hrc3
  obtain⟨Av,hAv⟩:=aj (if c3=2 then some (⟨b2,o2,none⟩:Addr) else some ⟨b2,o2+2,none⟩)
  rw[<-Cb,show rl - 2=n1 by omega,hAv]at hdr
  have hpr:=tprops_any B A1 Av c1 (c3 - 2) n1 ks (r.drop 2) W9 (HKR.below (hpw.mono HBw.out)) hdr (by have h:=HROW1.out.1;rw[HRL.out]at h;omega) (fun f hf=>HROW1.out.2 f (yF hf)) (rV HBw.out hpw.size) (HL.below hpw)
  rw[hQ]at hpr;have HPR:=ah hpr;have HE4:=ah he;have qW:(2:Int)<=rl:=by omega
  have qX:(2:Int)<=c3:=by omega
  have qY:(rl:Int)<=c3:=by omega
  clear he hQ hdr hpr hpw hkn2 hkl HE3;go_wp2_with fail;refine HPR.mono ?_
  rintro e w10 ⟨vp,rfl,op,b10⟩;obtain⟨Ap,cp,rfl⟩:=op.form;have hk10:=HK9.below b10 HK9.lt
  have mO:=only_below HG9.out b10
  have mP:=own_kept_ty HO9.out (only_of_below b10 none) (fun g c t fz hr=>by cases hr)
  have mQ:=HC9.below b10
  obtain⟨fQ,dR⟩:=aj (w10.setCell ⟨nd,2,none⟩ (.slice Ap ps.length cp))
  have hg11:wr.grownBy fQ (some mb):=dR▸only_setCell mO (.inr (by rw[HND.out];exact rM _)) _
  have hk11:Blk fQ nd 48 #[.int .i64 x,.slice Al ls.length cl,.slice Ap ps.length cp]:=by rw[<-dR];simpa using hk10.set_ 2 (.slice Ap ps.length cp)
  have hc11:CntI fQ mb (LK++[x]):=by rw[<-dR];exact mQ.kept (grownBy_set _ _ _) (fun e=>HMN.out e.symm)
  have hno:NodeOwn fQ w.heap.size (⟨x,ls,ps⟩,[.int .i64 x,.slice Al ls.length cl,.slice Ap ps.length cp]):=
   ⟨_,_,rfl,by rw[<-dR];exact own_base (own_kt mP (Kt.cell (base:=0) hk10 (wG _) 2 _) (by decide)) hz7,
    by rw[<-dR];exact(op.kt (Kt.cell (base:=0) hk10 (wG _) 2 _) (by decide) (by decide) (by decide)).base (rV hw1 HG9.size)⟩
  have hns:=HS.own.k0 (Kt.map0 HS.map hg11 HMB.out);have hbel11:=HBel.out _ hg11
  obtain⟨al,hal2⟩:=aj acc.length;obtain⟨ln,h1,h2,h3⟩:=hns;have HAL:=ah hal2
  have HPUT:=ah (fun(v':Value) (w':World) (hg:fQ.grownBy w' (Value.ownBlock (.slice A2 acc.length c2))) (ho:w'.ownsRow w.heap.size 48 3 v' (acc.length+1) (ln.flatMap Prod.snd++[.int .i64 x,.slice Al ls.length cl,.slice Ap ps.length cp]))=>NodesOwn.put h1 h2 h3 hno hbel11.size hg ho)
  rw[hal2]at h3 HPUT hal⊢;have H3:=ah h3;have aX:=ah hk11;have HC11:=ah hc11
  have HB11:=ah hbel11;have mV:=ah dR;have halb:al<536870912:=by omega
  have hszW:=hbel11.size;have d10:=hk10.cell 2;have f10:=hk10.frozen 2
  clear d0 d1 d2 op b10 hk10 mO mP mQ hg11 hk11 hc11 hno dR hbel11 hal2 h1 h2 h3 HO9 HC9 HK9 HG9 HPR
  go_upto_region 22 with fail
  rw[mV.out];clear mV d10 f10;obtain⟨d0,d1,d2⟩:=cells3 aX.out;by_cases hep:ep=0
  case neg=>
   have t3:((ep:Int) !=0)=true:=by rw[tH];omega
   have hr2:R=([],ep):=by rw[<-HE4.out,rY hep]
   subst hr2;clear hep;go_wp2
   go_ret2
   exact⟨_,rfl,NodesOwn.nil _ _,HB11.out⟩
  subst hep;have he:=HE4.out;rw[rU (by simp)]at he
  have HE5:=ah he;clear he HE4
  go_wp2_with (at_builtin;refine wpList_append_struct rfl (.tmp 76) (.tmp 78) 22 48 (.agg #[.int .i64 0,.slice none 0 0,.slice none 0 0]) 3 56 Tryz.underlying22 info_node rfl (by decide) (by decide) rfl w.heap.size (.slice A2 al c2) al (ln.flatMap Prod.snd) fQ rfl H3.out [.int .i64 x,.slice Al ls.length cl,.slice Ap ps.length cp] _ rfl rfl (by simp[Value.oneCell']) rfl halb hszW ?_)
  intro v12 w12 ho12 hg12 hw12 hb12;obtain⟨A12,c12,rfl⟩:=own_form ho12
  have HS12:=ah (show NpS w mb (acc++[⟨x,ls,ps⟩]) (.slice A12 (al+1) c12) w12 from⟨HB11.trans hb12,by rw[uf,HLK.out];exact HC11.kept hg12 (own_ne_map H3.out HC11.out),HPUT.out _ _ hg12 ho12⟩)
  have HLEN:=ah (show(acc++[(⟨x,ls,ps⟩:Gr.N)]).length=al+1 by rw[rP,HAL.out];rfl)
  clear ho12 hg12 hw12 hb12 d0 d1 d2;go_wp2
  go_roundg q
  case measure=>omega
  exact⟨k+1,acc++[⟨x,ls,ps⟩],A12,c12,by rw[HLEN.out],int_eq (by omega),by have:=HK.out;omega,by rw[HLEN.out];omega,by rw[HLEN.out];exact HS12.out,HE5⟩
end Go.Proofs.YtanlehkalkafdaaGreatDoor
namespace Go.Proofs
open Go.Shelf
def Tryz.keys50_ren:Go.Shelf.Ren:=⟨fun|7=>50|10=>95|n=>n,fun|23=>93|26=>9|3=>3|28=>99|0=>0|27=>98|33=>86|4=>4|n=>n,fun|n=>n⟩
theorem Tryz.keys50:Go.Proofs.SlLaysZ.n7 Tryz.prog Tryz.keys50_ren:={
 mixed:=by kernel_rfl
 f7:=⟨Tryz.f50.name,by decide,Tryz.func50.trans (uo some (by kernel_rfl))⟩
 f10:=⟨Tryz.f95.name,by decide,Tryz.func95.trans (uo some (by kernel_rfl))⟩
 t0:=Tryz.underlying0
 a0:=Tryz.isAgg0
 z0:=Tryz.sizeOf0
 v0:=Tryz.zeroValue0
 t4:=Tryz.underlying4
 a4:=Tryz.isAgg4
 z4:=Tryz.sizeOf4
 v4:=Tryz.zeroValue4
 t23:=Tryz.underlying93
 a23:=Tryz.isAgg93
 z23:=Tryz.sizeOf93
 v23:=Tryz.zeroValue93
 t26:=Tryz.underlying9
 a26:=Tryz.isAgg9
 z26:=Tryz.sizeOf9
 v26:=Tryz.zeroValue9
 t27:=Tryz.underlying98
 a27:=Tryz.isAgg98
 z27:=Tryz.sizeOf98
 v27:=Tryz.zeroValue98
 t28:=Tryz.underlying99
 a28:=Tryz.isAgg99
 z28:=Tryz.sizeOf99
 v28:=Tryz.zeroValue99
 t33:=Tryz.underlying86
 a33:=Tryz.isAgg86
 z33:=Tryz.sizeOf86
 v33:=Tryz.zeroValue86}
def Tryz.sorted49_ren:Go.Shelf.Ren:=⟨fun|6=>49|8=>94|9=>74|11=>133|13=>119|12=>118|23=>170|24=>171|14=>162|15=>163|16=>164|17=>165|18=>166|19=>167|20=>102|21=>168|22=>169|25=>212|26=>213|27=>214|28=>215|29=>216|30=>141|31=>250|n=>n,fun|26=>9|28=>99|24=>45|0=>0|3=>3|37=>155|48=>224|50=>161|4=>4|40=>218|39=>217|45=>113|5=>5|9=>9|51=>258|55=>262|57=>294|58=>40|33=>86|n=>n,fun|n=>n⟩
theorem Tryz.sorted49:Go.Proofs.SlLaysZ.n6 Tryz.prog Tryz.sorted49_ren:={
 mixed:=by kernel_rfl
 f6:=⟨Tryz.f49.name,by decide,Tryz.func49.trans (uo some (by kernel_rfl))⟩
 f8:=⟨Tryz.f94.name,by decide,Tryz.func94.trans (uo some (by kernel_rfl))⟩
 f11:=⟨Tryz.f133.name,by decide,Tryz.func133.trans (uo some (by kernel_rfl))⟩
 t0:=Tryz.underlying0
 a0:=Tryz.isAgg0
 z0:=Tryz.sizeOf0
 v0:=Tryz.zeroValue0
 t24:=Tryz.underlying45
 a24:=Tryz.isAgg45
 z24:=Tryz.sizeOf45
 v24:=Tryz.zeroValue45
 t26:=Tryz.underlying9
 a26:=Tryz.isAgg9
 z26:=Tryz.sizeOf9
 v26:=Tryz.zeroValue9
 t28:=Tryz.underlying99
 a28:=Tryz.isAgg99
 z28:=Tryz.sizeOf99
 v28:=Tryz.zeroValue99
 i26:=by kernel_rfl}
def Tryz.sort74_ren:Go.Shelf.Ren:=⟨fun|6=>74|8=>119|9=>118|19=>170|20=>171|21=>162|22=>163|23=>164|24=>165|25=>166|26=>167|27=>102|28=>168|29=>169|36=>212|31=>213|32=>214|37=>215|38=>216|39=>141|41=>250|n=>n,fun|27=>45|29=>9|3=>3|32=>155|26=>45|0=>0|44=>224|46=>161|4=>4|36=>218|35=>217|41=>113|5=>5|9=>9|53=>258|57=>262|63=>294|64=>40|n=>n,fun|n=>n⟩
theorem Tryz.sort74:Go.Proofs.SlLaysM.n6 Tryz.prog Tryz.sort74_ren:={
 mixed:=by kernel_rfl
 f6:=⟨Tryz.f74.name,by decide,Tryz.func74.trans (uo some (by kernel_rfl))⟩
 f8:=Tryz.func119.trans (uo some (by kernel_rfl))
 f9:=⟨Tryz.f118.name,by decide,Tryz.func118.trans (uo some (by kernel_rfl))⟩
 f19:=Tryz.func170.trans (uo some (by kernel_rfl))
 f20:=Tryz.func171.trans (uo some (by kernel_rfl))
 f21:=⟨Tryz.f162.name,by decide,Tryz.func162.trans (uo some (by kernel_rfl))⟩
 f22:=⟨Tryz.f163.name,by decide,Tryz.func163.trans (uo some (by kernel_rfl))⟩
 f23:=⟨Tryz.f164.name,by decide,Tryz.func164.trans (uo some (by kernel_rfl))⟩
 f24:=⟨Tryz.f165.name,by decide,Tryz.func165.trans (uo some (by kernel_rfl))⟩
 f25:=⟨Tryz.f166.name,by decide,Tryz.func166.trans (uo some (by kernel_rfl))⟩
 f26:=⟨Tryz.f167.name,by decide,Tryz.func167.trans (uo some (by kernel_rfl))⟩
 f27:=⟨Tryz.f102.name,by decide,Tryz.func102.trans (uo some (by kernel_rfl))⟩
 f28:=⟨Tryz.f168.name,by decide,Tryz.func168.trans (uo some (by kernel_rfl))⟩
 f29:=⟨Tryz.f169.name,by decide,Tryz.func169.trans (uo some (by kernel_rfl))⟩
 f31:=Tryz.func213.trans (uo some (by kernel_rfl))
 f32:=Tryz.func214.trans (uo some (by kernel_rfl))
 f36:=⟨Tryz.f212.name,by decide,Tryz.func212.trans (uo some (by kernel_rfl))⟩
 f37:=⟨Tryz.f215.name,by decide,Tryz.func215.trans (uo some (by kernel_rfl))⟩
 f38:=⟨Tryz.f216.name,by decide,Tryz.func216.trans (uo some (by kernel_rfl))⟩
 f39:=⟨Tryz.f141.name,by decide,Tryz.func141.trans (uo some (by kernel_rfl))⟩
 f41:=⟨Tryz.f250.name,by decide,Tryz.func250.trans (uo some (by kernel_rfl))⟩
 t0:=Tryz.underlying0
 a0:=Tryz.isAgg0
 z0:=Tryz.sizeOf0
 v0:=Tryz.zeroValue0
 t3:=Tryz.underlying3
 a3:=Tryz.isAgg3
 z3:=Tryz.sizeOf3
 v3:=Tryz.zeroValue3
 t4:=Tryz.underlying4
 a4:=Tryz.isAgg4
 z4:=Tryz.sizeOf4
 v4:=Tryz.zeroValue4
 t5:=Tryz.underlying5
 a5:=Tryz.isAgg5
 z5:=Tryz.sizeOf5
 v5:=Tryz.zeroValue5
 t9:=Tryz.underlying9
 a9:=Tryz.isAgg9
 z9:=Tryz.sizeOf9
 v9:=Tryz.zeroValue9
 t26:=Tryz.underlying45
 a26:=Tryz.isAgg45
 z26:=Tryz.sizeOf45
 v26:=Tryz.zeroValue45
 t27:=Tryz.underlying45
 a27:=Tryz.isAgg45
 z27:=Tryz.sizeOf45
 v27:=Tryz.zeroValue45
 t29:=Tryz.underlying9
 a29:=Tryz.isAgg9
 z29:=Tryz.sizeOf9
 v29:=Tryz.zeroValue9
 t32:=Tryz.underlying155
 a32:=Tryz.isAgg155
 z32:=Tryz.sizeOf155
 v32:=Tryz.zeroValue155
 t35:=Tryz.underlying217
 a35:=Tryz.isAgg217
 z35:=Tryz.sizeOf217
 v35:=Tryz.zeroValue217
 t36:=Tryz.underlying218
 a36:=Tryz.isAgg218
 z36:=Tryz.sizeOf218
 v36:=Tryz.zeroValue218
 t41:=Tryz.underlying113
 a41:=Tryz.isAgg113
 z41:=Tryz.sizeOf113
 v41:=Tryz.zeroValue113
 t44:=Tryz.underlying224
 a44:=Tryz.isAgg224
 z44:=Tryz.sizeOf224
 v44:=Tryz.zeroValue224
 t46:=Tryz.underlying161
 a46:=Tryz.isAgg161
 z46:=Tryz.sizeOf161
 v46:=Tryz.zeroValue161
 t53:=Tryz.underlying258
 a53:=Tryz.isAgg258
 z53:=Tryz.sizeOf258
 v53:=Tryz.zeroValue258
 t57:=Tryz.underlying262
 a57:=Tryz.isAgg262
 z57:=Tryz.sizeOf262
 v57:=Tryz.zeroValue262
 t63:=Tryz.underlying294
 a63:=Tryz.isAgg294
 z63:=Tryz.sizeOf294
 v63:=Tryz.zeroValue294
 t64:=Tryz.underlying40
 a64:=Tryz.isAgg40
 z64:=Tryz.sizeOf40
 v64:=Tryz.zeroValue40}
end Go.Proofs
namespace Go.Proofs.YtanlehkalkafdaaGreatDoor
open Go.RowKit Go.Maps Go.Sort Go.Shelf
theorem sortsK (m:Nat):AnyZ.SortsIn Tryz.prog Tryz.sorted49_ren Fence.wide m:=
 ⟨fun blk off cap ss W hH hblk hsz=>callsIn_wide.2 (AnyM.slices_Sort_string Tryz.sort74 blk off cap ss W hH hblk hsz),
  fun p cap W=>callsIn_wide.2 (AnyM.slices_Sort_string_none Tryz.sort74 p cap W)⟩
theorem keys_any (mb:Option Nat) (W:World):Calls Tryz.prog 50 #[.map mb] W fun e w'=>e=.returned (.func (.func 95) #[] #[.pointer (some ⟨W.heap.size,0,none⟩)])/\W.alloc (.cells #[.map mb] 93)=w':=
 (callsIn_wide.1 (AnyZ.keys_in Tryz.keys50 Fence.wide 5 trivial rfl mb W)).mono fun _ _ ⟨h1,h2⟩=>⟨h1,h2.symm⟩
def sortL (l:List (List UInt8)):List (List UInt8):=(Gr.dedup l).mergeSort fun x y=>decide (x<=y)
theorem sortL_length (l:List (List UInt8)):(sortL l).length=(Gr.dedup l).length:=List.length_mergeSort _
theorem dedup_le: ∀l:List (List UInt8),(Gr.dedup l).length<=l.length
 |[]=>by simp[Gr.dedup]
 |a :: r=>by
  have ih:=dedup_le r;rw[Gr.dedup]
  split
  ·rw[sS];omega
  rw[sS,sS];omega
theorem sorted_any (b:Nat) (l:List (List UInt8)) (w:World) (h:CntS w b l) (hl:l.length<=1073741824):
  Calls Tryz.prog 49 #[.func (.func 95) #[] #[.pointer (some ⟨w.heap.size,0,none⟩)]] (w.alloc (.cells #[.map (some b)] 93)) fun e w'=> ∃A c,e=.returned (.slice A (Gr.dedup l).length c)/\
   w'.ownsRow (w.alloc (.cells #[.map (some b)] 93)).heap.size 9 1 (.slice A (Gr.dedup l).length c) (Gr.dedup l).length ((sortL l).map ST)/\Below (w.alloc (.cells #[.map (some b)] 93)).heap.size (w.alloc (.cells #[.map (some b)] 93)) w':=by
 obtain⟨nn,D0,hn,hown,hT,hc,hh⟩:=h.ex;have hbl:=hown.lt
 have hperm:(Gr.dedup l).Perm (strKeys D0):=Collected.perm (left:=fun _=>false) ⟨Gr.nodup_dedup l,fun x=>by rw[Gr.mem_dedup,hh x];simp⟩ hown lawS Tryz.underlying9 (fun _=>rfl)
 have hdl:=dedup_le l
 have hsz:Maps.size D0<=1073741824:=by
  have h1:=hperm.length_eq
  have h2:(strKeys D0).length=Maps.size D0:=by
   obtain⟨es,rfl⟩:=hT.isMap;rw[Maps.size_eq];exact sU _
  omega
 have hseq:SeqGives Fence.wide 2 Tryz.prog 95 #[.pointer (some ⟨w.heap.size,0,none⟩)] encStr (fun ss=>ss.Perm (strKeys D0)) (Maps.size D0) (w.alloc (.cells #[.map (some b)] 93)):=
  AnyZ.keys_gives (ρ:=Tryz.keys50_ren) {Tryz.keys50 with} Fence.wide _ trivial rfl (by omega) w.heap.size b nn D0 _ (by simp) (by simp) (by
   obtain⟨es,clock,hb,Ft,hs,hD⟩:=hown
   exact⟨es,clock,(Below.heap_alloc _ _ b hbl).trans hb,Ft,hs,hD⟩)
 refine(callsIn_wide.1 (AnyZ.sorted_in Tryz.sorted49 Fence.wide 5 trivial trivial trivial trivial rfl (by omega) (sortsK _) (enters_of Tryz.func74 (by kernel_rfl) rfl) 95 #[.pointer (some ⟨w.heap.size,0,none⟩)] trivial (enters_of Tryz.func95 (by kernel_rfl) rfl) _ _ (by unfold maxLen;omega) (by omega) _ hseq)).mono ?_
 rintro e w' ⟨v,ss,rfl,hS,hrow,-,hb⟩;have hss:=hS.trans hperm.symm
 have hm:=mergeSort_of_perm hss
 rw[show ss.mergeSort (fun x y=>decide (x<=y))=sortL l from hm,hss.length_eq]at hrow
 obtain⟨A,c,rfl⟩:=own_form hrow;exact⟨A,c,rfl,hrow,hb⟩
end Go.Proofs.YtanlehkalkafdaaGreatDoor
