/- Contracts and plain laws,part 40. -/
import Derived.Test.YtkdakckjafomhaaGreatDoorUW39
import Derived.Laws.Rows
import Derived.Laws.Tables
import Derived.Laws.CopyOwn
set_option maxHeartbeats 64000000
set_option maxRecDepth 1000000
set_option linter.all false
namespace Go.Proofs.YtkdakckjafomhaaGreatDoor
open Go.RowKit
def ama (R:List Gr.P×Nat) (w:World) (e:Ending) (w':World):Prop:=
 ∃v,e=.returned (.tuple #[v,.int .i64 (R.2:Nat)])/\(R.2=0->cu 39 w' w.heap.size v R.1)/\Below w.heap.size w w'
theorem acR (B:Nat) (Ak Af:Option Addr) (ck cf n m:Nat) (keys fields:List (List UInt8)) (w:World) (hk:Reads w B 1 Ak n (keys.map ST)) (hf:Reads w B 1 Af n (fields.map ST)) (hn:n<=16777217) (hm:m<=n)
  (hfs: ∀f∈fields,f.length<=16777216) (hB:B<=w.heap.size):
  Calls Tryz.prog 50 #[.slice Ak n ck,.slice Af n cf,.int .i64 m] w (ama (Tb.bM (keys.drop m) (fields.drop m)) w):=by
 obtain⟨R,hR⟩:=aj (Tb.bM (keys.drop m) (fields.drop m));rw[hR];rw[<-Tb.abf]at hR
 have hkl:=vk hk;have hfl:=vk hf;have o9:=ah hk;have jB:=ah hf;have vP:=ah hkl
 have AZ:=ah hfl;have lZ:=ah hfs;have dh:=ah hB;have HR:=ah hR
 have HE:=ah (And.intro (JG w w.heap.size 39 6 (ac4 _)) (show Below w.heap.size w (w.alloc (.cells #[] 39)) from(Below.refl _ w).alloc (ac4 _) _))
 clear hk hf hkl hfl hfs hB hR;go_enter Tryz.func50,Tryz.ntmps50;go_wp2_with fail
 go_loopg [8,9] (n - m) (fun q x y wr=> ∃k:Nat,∃acc A c,x=.slice A acc.length c/\y=.int .i64 k/\k+q=n/\m<=k/\acc.length<=k/\Below w.heap.size w wr/\cu 39 wr w.heap.size (.slice A acc.length c) acc/\Hid (Tb.su acc (keys.drop k) (fields.drop k)=R))
 case atStart=>exact⟨m,[],_,0,rfl,rfl,by omega,ac4 _,by simp,HE.out.2,⟨[],rfl,(fun x h=>by cases h),HE.out.1⟩,HR.out⟩
 obtain⟨k,acc,A,c,rfl,rfl,hk,hmk,hal,hb,hp,he⟩:=hrel;have HB:=ah hb;have HP:=ah hp
 have HK:=ah hk;clear hb hp HR;cases gk with
 |zero=>
  obtain rfl:k=n:=by omega
  have hr:R=(acc,0):=by
   have h:=he.out;rw[aeJ (by rw[vP.out];exact ac4 _),Tb.abg]at h
   exact h.symm
  subst hr;clear he hk hal;go_wp2
  go_ret2
  exact⟨_,rfl,fun _=>HP.out,HB.out⟩
 |succ q=>
  have hkn:k<n:=by omega
  have dH:(k:Int)<n:=by omega
  obtain⟨key,hky⟩: ∃p,keys[k]?=some p:=⟨_,dF (by rw[vP.out];exact hkn)⟩
  obtain⟨f,hf⟩: ∃p,fields[k]?=some p:=⟨_,dF (by rw[AZ.out];exact hkn)⟩
  obtain⟨b1,o1,rfl,hb1⟩:=o9.blk (by omega)
  obtain⟨b2,o2,rfl,hb2⟩:=jB.blk (by omega)
  have ck1:=(HB.cell (p:=⟨b1,o1+k,none⟩) (adW hb1 dh.out)).trans (o9.st hky)
  have Lu:=(HB.cell (p:=⟨b2,o2+k,none⟩) (adW hb2 dh.out)).trans (jB.st hf)
  obtain⟨zk,pq⟩:=aj (⟨key.toArray⟩:ByteArray);obtain⟨z,hz⟩:=aj (⟨f.toArray⟩:ByteArray)
  have e1:ST key=.string zk:=by rw[<-pq];rfl
  have e2:ST f=.string z:=by rw[<-hz];rfl
  have hzd:z.data.toList=f:=by rw[<-hz]
  rw[e1]at ck1;rw[e2]at Lu;have hg:=he.out;rw[wV hky,wV hf]at hg
  have hfl:=lZ.out f (adI hf);have Ba:=ah e1;have HG:=ah hg;have hb1':=adW hb1 dh.out
  clear he hg hky hf pq e1 e2 hk hb1 hb2;by_cases hf0:f=[]
  ·subst hf0
   have hz0:z=⟨#[]⟩:=hz.symm;subst hz0;have HG2:=ah (Tb.abh.symm.trans HG.out)
   clear HG hz hzd hfl;go_wp2
   go_roundg q
   case measure=>omega
   exact⟨k+1,acc,A,c,rfl,int_eq (by omega),by have:=HK.out;omega,by omega,by omega,HB.out,HP.out,HG2.out⟩
  have t0:z.toList.isEmpty=false:=by
   rw[Lib.toList_data,hzd];cases hc:f with
   |nil=>exact absurd hc hf0
   |cons a r=>rfl
  have hpc:=al9 z wr (by rw[Lib.size_eq,hzd];omega)
  rw[hzd]at hpc;obtain⟨Q,hQ⟩:=aj (ak.parse f);obtain⟨v,ec⟩:=Q;rw[hQ]at hpc
  have qx:=ah hpc;have HQ:=ah hQ;have LC:=ah hf0;clear hpc hQ hz hzd hfl hf0
  go_wp2_with fail;refine qx.mono ?_;rintro e w6 ⟨u,rfl,hv6,hb6⟩
  obtain⟨s,t,rfl,F7,F8⟩:=hv6.ex;obtain⟨A1,c1,rfl⟩:=aF F7;obtain⟨A2,c2,rfl⟩:=aF F8
  have dO:=ah (HB.trans (hb6.mono HB.size));have xH:=HB.size
  obtain⟨W7,qV⟩:=aj (w6.alloc (.cells #[.int .i64 v.kind,.int .i64 v.num,.string ⟨v.text.toArray⟩,.slice A1 v.nums.length c1,.slice A2 v.texts.length c2] 37))
  have hb7:Below w6.heap.size w6 W7:=qV▸(Below.refl _ w6).alloc (ac4 _) _
  obtain⟨nd,hnd⟩:=aj w6.heap.size
  have I5:au W7 nd 37 #[.int .i64 v.kind,.int .i64 v.num,.string ⟨v.text.toArray⟩,.slice A1 v.nums.length c1,.slice A2 v.texts.length c2]:=by rw[<-qV,<-hnd];exact au.new _ _ _
  have hbd:Below wr.heap.size wr (W7.drewN 1):=below_drewN (hb6.trans (hb7.mono hb6.size)) 1
  have bD:=ah (HB.trans (hbd.mono HB.size))
  have F9: ∀{T:TypeId} {B0 sz m:Nat} {x:Value} {xs:List Value},w6.ownsRow B0 T sz x m xs->(W7.drewN 1).ownsRow B0 T sz x m xs:=fun h=>aW h (dL (below_drewN hb7 1) none) (fun g c t fz hr=>by cases hr)
  have VU:=ah (show fB (W7.drewN 1) w.heap.size (⟨key,v⟩,[ST key,.int .i64 v.kind,.int .i64 v.num,ST v.text,.slice A1 v.nums.length c1,.slice A2 v.texts.length c2]) from⟨_,_,rfl,own_base (F9 F7) xH,own_base (F9 F8) xH⟩)
  have LD:=(hbd.cell (p:=⟨b1,o1+k,none⟩) (adW hb1' xH)).trans ck1
  have sW:=ah (show W7.cell? ⟨b1,o1+k,none⟩=some (.string zk) from LD)
  have jC:=ah I5;obtain⟨l,h1,h2,h3⟩:=HP.out;obtain⟨al,hal2⟩:=aj acc.length
  have uH:(∀x∈l,fB (W7.drewN 1) w.heap.size x)/\(W7.drewN 1).ownsRow w.heap.size 39 6 (.slice A acc.length c) acc.length (l.flatMap Prod.snd):=
   ⟨fun x hx=>(h2 x hx).row (dL hbd none) (fun g c t fz hr=>by cases hr),aW h3 (dL hbd none) (fun g c t fz hr=>by cases hr)⟩
  have H1:=ah h1;have H2:=ah uH.1;have h3':=uH.2;rw[hal2]at h3' hal⊢;have H3:=ah h3'
  have lX:=ah hal2;have x9:al<536870912:=by omega
  have hszW:w.heap.size<=(W7.drewN 1).heap.size:=bD.size;have DU:=ah qV;have kZ:=ah hnd
  clear hv6 hb6 F7 F8 qV hb7 I5 hbd F9 LD h1 h2 h3 uH h3' hal2 ck1 Lu hnd HP qx
  go_upto_region 7 with fail
  rw[DU.out,kZ.out];clear DU kZ;obtain⟨d0,d1,d2,d3,d4⟩:=cells5 jC.out;by_cases qW:ec=0
  case neg=>
   have t1:((ec:Int) !=0)=true:=by rw[adY];omega
   have hr:R=([],ec):=by
    rw[<-HG.out,Tb.abj LC.out (by rw[HQ.out];exact qW),HQ.out]
   subst hr;go_wp2
   go_ret2
   exact⟨_,rfl,(fun h=>absurd h qW),⟨bD.os,bD.tape,bD.out.output,bD.size,bD.block⟩⟩
  subst qW;have HG2:=ah ((Tb.abk LC.out HQ.out).symm.trans HG.out)
  obtain⟨zt,dU⟩:=aj (⟨v.text.toArray⟩:ByteArray)
  have hst:ST v.text=.string zt:=by rw[<-dU];rfl
  have VW:=ah hst;rw[dU]at d2;have VX:=sW.out;clear dU hst HG;go_wp2_with fail
  go_region_law (first|(refine JX rfl (.tmp 37) (.tmp 44) 40 39 (.agg #[.string ⟨#[]⟩,.int .i64 0,.int .i64 0,.string ⟨#[]⟩,.slice none 0 0,.slice none 0 0]) 6 96 Tryz.underlying40 aaP rfl (by decide) (by decide) rfl w.heap.size (.slice A al c) al (l.flatMap Prod.snd) (W7.drewN 1) rfl H3.out [.string zk,.int .i64 v.kind,.int .i64 v.num,.string zt,.slice A1 v.nums.length c1,.slice A2 v.texts.length c2] _ rfl rfl (by simp[Value.oneCell']) rfl x9 hszW ?_;intro v9 w9 aJ bI dD aB;obtain⟨A9,c9,rfl⟩:=aF aJ)|fail)
  all_goals
   have hpo:=VU.out;rw[Ba.out,VW.out]at hpo
   have VY:=ah (cu.put (T:=39) (v:=.slice A acc.length c) (v':=.slice A9 (al+1) c9) (ps:=acc) ⟨by decide,by decide⟩ H1.out H2.out hpo (by rw[lX.out];exact H3.out) (by rw[lX.out];exact bI) (by rw[lX.out];exact aJ))
   have bg:=ah (bD.trans aB)
   have LG:(acc++[(⟨key,v⟩:Gr.P)]).length=al+1:=by rw[adf,lX.out];rfl
   have HLEN:=ah LG;clear hpo aJ bI dD aB LG d0 d1 d2 d3 d4 VX;go_wp2
   go_roundg q
   case measure=>omega
   exact⟨k+1,acc++[⟨key,v⟩],A9,c9,by rw[HLEN.out],int_eq (by omega),by have:=HK.out;omega,by omega,by rw[HLEN.out];omega,bg.out,by rw[HLEN.out];exact VY.out,HG2⟩
theorem Qe (s:ByteArray) (m:Int) (w:World) (hs:s.size<=1073741824):
  Calls Tryz.prog 48 #[.string s,.int .i64 m] w fun e w'=>e=.returned (.int .i64 ((Tb.known m s.data.toList).getD (-1)))/\Below w.heap.size w w':=by
 have hp:=Zc s w hs;obtain⟨o,ho⟩:=aj (Tb.known m s.data.toList);rw[ho]
 unfold Tb.known at ho;obtain⟨q,hq⟩:=aj (Num.iK s.data.toList);obtain⟨x,e0⟩:=q
 rw[hq]at hp ho;simp only at ho;have HP:=ah hp;have HO:=ah ho;clear hp ho hq hs
 go_enter Tryz.func48,Tryz.ntmps48;go_wp2_with fail;refine HP.mono ?_;rintro e w1 ⟨rfl,hb⟩
 have HB:=ah hb;clear hb HP;by_cases h0:e0=0
 ·subst h0
  by_cases h1:0<=x
  ·have t1:decide (x<0)=false:=ac5 (by omega)
   by_cases h2:x<m
   ·have HR:=ah (show o=some x by rw[<-HO.out,adk ⟨rfl,h1,h2⟩])
    have t2:decide (m<=x)=false:=ac5 (by omega)
    clear HO;go_wp2;go_ret;exact⟨by rw[HR.out];rfl,HB.out⟩
   have HR:=ah (show o=none by rw[<-HO.out,ade (fun h=>h2 h.2.2)])
   have h2':m<=x:=by omega
   have t2:decide (m<=x)=true:=adb h2';clear HO h2;go_wp2;go_ret
   exact⟨by rw[HR.out];rfl,HB.out⟩
  have HR:=ah (show o=none by rw[<-HO.out,ade (fun h=>h1 h.2.1)])
  have h1':x<0:=by omega
  have t1:decide (x<0)=true:=adb h1';clear HO h1;go_wp2;go_ret
  exact⟨by rw[HR.out];rfl,HB.out⟩
 have HR:=ah (show o=none by rw[<-HO.out,ade (fun h=>h0 h.1)])
 have t:((e0:Int) !=0)=true:=by rw[adY];omega
 clear HO h0;go_wp2;go_ret;exact⟨by rw[HR.out];rfl,HB.out⟩
structure zD (want hd:List (List UInt8)) (m i:Nat):Prop where
 pre: ∀j,j<i->j<m->hd[j]?=want[j]?
 good: ∀j x,m<=j->j<i->hd[j]?=some x->Gr.bC x=true
 dist: ∀j k x,m<=k->k<j->j<i->hd[j]?=some x->hd[k]?=some x->False
theorem zD.amb {want hd:List (List UInt8)} {m i:Nat} (h:zD want hd m i) (hi:i<m) (he:hd[i]?=want[i]?):zD want hd m (i+1):=
 ⟨fun j h1 h2=>if e:j=i then e▸he else h.pre j (by omega) h2,fun j x h1 h2 h3=>absurd h1 (by omega),fun j k x h1 h2 h3=>absurd h1 (by omega)⟩
theorem zD.amc {want hd:List (List UInt8)} {m i:Nat} {x:List UInt8} (h:zD want hd m i) (hi:m<=i) (hx:hd[i]?=some x) (hg:Gr.bC x=true) (hd': ∀k,m<=k->k<i->hd[k]?≠some x):zD want hd m (i+1):=by
 refine⟨fun j h1 h2=>h.pre j (by omega) h2,fun j y h1 h2 h3=> ?_,fun j k y h1 h2 h3 h4 h5=> ?_⟩
 ·by_cases e:j=i
  ·subst e
   rw[hx]at h3;cases h3;exact hg
  exact h.good j y h1 (by omega) h3
 by_cases e:j=i
 ·subst e
  rw[hx]at h4;cases h4;exact hd' k h1 h2 h5
 exact h.dist j k y h1 h2 (by omega) h4 h5
theorem zD.done {want hd:List (List UInt8)} {r:List (List (List UInt8))} {m n:Nat} (h:zD want hd m n) (hw:want.length=m) (hn:hd.length=n) (hl:m<=n):Tb.dK want (hd :: r)≠none:=by
 have h1:hd.take m=want:=by
  refine anV fun j=> ?_
  by_cases hj:j<m
  ·rw[am4 hj,h.pre j (by omega) hj]
  rw[afB (by rw[aeb];omega),afB (by omega)]
 have h2:(hd.drop m).all Gr.bC=true:=by
  rw[afF];intro x hx;obtain⟨j,hj,rfl⟩:=afj hx;rw[aej]at hj
  exact h.good (m+j) _ (by omega) (by omega) (by rw[aor];exact dF (by omega))
 have h3:(hd.drop m).Nodup:=by
  refine af5.2 fun a b ha hb hab e=> ?_
  rw[aej]at ha hb;rw[aor,aor]at e
  exact h.dist (m+b) (m+a) (hd[m+b]'(by omega)) (by omega) (by omega) (by omega) (dF (by omega)) (by rw[dF (by omega),e])
 rw[Tb.dK,hw,adk ⟨h1,h2,h3⟩];simp
theorem acS (B:Nat) (A Aw:Option Addr) (n c m cw:Nat) (rows:List (List (List UInt8))) (want:List (List UInt8)) (w:World) (h:kY w B (.slice A n c) rows) (hn:rows.length=n) (hnb:n<=1073741824) (hw:Reads w w.heap.size 1 Aw m (want.map ST)) (hm0:0<m) (hm4:m<=4)
  (hrow: ∀r∈rows,Tb.Row r) (hB:B<=w.heap.size):
  Calls Tryz.prog 47 #[.slice A n c,.slice Aw m cw] w fun e w'=>e=.returned (.bool (Tb.dK want rows).isNone)/\Below w.heap.size w w':=by
 have hwl:want.length=m:=vk hw;obtain⟨R,hR⟩:=aj ((Tb.dK want rows).isNone);rw[hR]
 have D7:=ah hwl;cases rows with
 |nil=>
  obtain rfl:n=0:=hn.symm;obtain rfl:R=true:=hR.symm;clear h hn hw hrow hB hwl hR
  go_enter Tryz.func47,Tryz.ntmps47;go_wp2;go_ret;exact⟨rfl,Below.refl _ _⟩
 |cons r rest=>
 obtain⟨b,off,Ar,cr,rfl,hbB,hcell,hrc,hrm,hrd⟩:=h.at (k:=0) rfl;rw[aft]at hcell
 have hn1:(0:Int)<n:=by have:=hn;rw[adQ]at this;omega
 have tn:((n:Int) == 0)=false:=by rw[adh];omega
 obtain⟨rl,hrl⟩:=aj r.length;rw[hrl]at hcell hrc hrd;obtain⟨hr1,hr2⟩:=hrow r (agl ..)
 rw[hrl]at hr1;by_cases hlm:rl<m
 ·have hr:R=true:=by
   rw[<-hR,IB (.inl fun e=> ?_)]
   ·rfl
   have:=aeH List.length e;rw[aeb]at this;omega
  subst hr;have anF:(rl:Int)<m:=by omega
  clear h hn hw hrow hB hwl hR hrl hrd hr2 hbB;go_enter Tryz.func47,Tryz.ntmps47;go_wp2
  go_ret;exact⟨rfl,Below.refl _ _⟩
 have ad6:(m:Int)<=rl:=by omega
 have tlm:decide (rl<m)=false:=ac5 hlm;obtain⟨b1,o1,rfl,ad7⟩:=hrd.blk (by omega)
 obtain⟨b2,o2,rfl,aoL⟩:=hw.blk (by omega)
 have aO:=ah hrl;have HR2:=ah hr2
 have iJ:=ah (fun(V:World) (hb:Below w.heap.size w V)=>hrd.below (hb.mono hB))
 have HWD:=ah (fun(V:World) (hb:Below w.heap.size w V)=>hw.below hb)
 have HR:=ah hR;have pm:(0:Int)<=(m:Int):=by omega
 have aqD:(rl:Int)<=16777217:=by omega
 clear h hn hw hrow hB hwl hR hrl hrd hr2 hbB hlm ad7 aoL
 go_enter Tryz.func47,Tryz.ntmps47;go_wp2_with fail;clear hcell
 go_loopg [6] rl (fun q x wr=> ∃i:Nat,x=.int .i64 i/\i+q=rl/\Hid (zD want r m i/\Below w.heap.size w wr))
 case atStart=>exact⟨0,rfl,by omega,⟨⟨fun j h=>by omega,fun j x _ h=>by omega,fun j k x _ _ h=>by omega⟩,Below.refl _ _⟩⟩
 obtain⟨i,rfl,hi,hs⟩:=hrel;have HS:Hid (zD want r m i/\Below w.heap.size w wr):=hs
 clear hs;cases gk with
 |zero=>
  obtain rfl:i=rl:=by omega
  have hr:R=false:=by
   rw[<-HR.out];cases hc:Tb.dK want (r :: rest) with
   |none=>exact absurd hc (HS.out.1.done D7.out aO.out (by omega))
   |some ks=>rfl
  subst hr;clear hi;go_wp2;go_ret;exact⟨rfl,HS.out.2⟩
 |succ q=>
  have hin:i<rl:=by omega
  have D5:(i:Int)<rl:=by omega
  have pi:(0:Int)<=(i:Int):=by omega
  have ti:((i:Int)).toNat=i:=by omega
  obtain⟨f,hf⟩: ∃p,r[i]?=some p:=⟨_,dF (by rw[aO.out];exact hin)⟩
  have cf:=(iJ.out wr HS.out.2).st hf;obtain⟨z,hz⟩:=aj (⟨f.toArray⟩:ByteArray)
  have e1:ST f=.string z:=by rw[<-hz];rfl
  have hzd:z.data.toList=f:=by rw[<-hz]
  rw[e1]at cf;have HF:=ah hf;have HZD:=ah hzd;have HI:=ah hi;by_cases him:i<m
  ·have adK:(i:Int)<m:=by omega
   obtain⟨g,hg⟩: ∃p,want[i]?=some p:=⟨_,dF (by rw[D7.out];exact him)⟩
   have cg:=(HWD.out wr HS.out.2).st hg;obtain⟨y,hy⟩:=aj (⟨g.toArray⟩:ByteArray)
   have e2:ST g=.string y:=by rw[<-hy];rfl
   rw[e2]at cg;obtain⟨b,hb⟩:=aj (z.toList == y.toList)
   have hb':(z.toList !=y.toList)= !b:=by rw[<-hb];rfl
   have hfg:f=g↔b=true:=by rw[<-hb,aeI,Lib.toList_data,Lib.toList_data,<-hz,<-hy]
   have yP:=ah hfg;have HG:=ah hg;clear hf hz e1 hzd hg hy e2 hfg hi;cases b with
   |true=>
    have hok:=HS.out.1.amb him (by rw[HF.out,HG.out,yP.out.2 rfl])
    have HS2:=ah (And.intro hok HS.out.2);clear hok HS
    go_upto_region 10 with fail
    go_quiet (fail)
    go_wp2_with fail
    go_roundg q
    case measure=>omega
    exact⟨i+1,int_eq (by omega),by have:=HI.out;omega,⟨HS2.out.1,below_drewN HS2.out.2 _⟩⟩
   |false=>
    have hr:R=true:=by
     rw[<-HR.out,IB (.inl fun e=> ?_)]
     ·rfl
     have h1:r[i]?=want[i]?:=by
      conv=>rhs;rw[<-e]
      rw[D7.out,am4 him]
     rw[HF.out,HG.out]at h1;have:=yP.out.1 (ad4 h1);cases this
    subst hr
    go_upto_region 10 with fail
    go_quiet (fail)
    go_wp2_with fail;go_ret;exact⟨rfl,below_drewN HS.out.2 _⟩
  have adK:(m:Int)<=(i:Int):=by omega
  have tim:decide (i<m)=false:=ac5 him;have xu:m<=i:=by omega
  have hgn:=IK z wr (by rw[Lib.size_eq,hzd];have:=HR2.out f (adI hf);omega)
  rw[hzd]at hgn;obtain⟨g,hg⟩:=aj (Gr.bC f);rw[hg]at hgn;have dQ:=ah hgn
  have HG:=ah hg;have Ba:=ah e1;clear hf hz e1 hzd hg hgn hi him;go_wp2_with fail
  refine dQ.mono ?_;rintro e w5 ⟨rfl,b5⟩
  have bG:=ah (HS.out.2.trans (b5.mono HS.out.2.size));clear b5 cf dQ;cases g with
  |false=>
   have hr:R=true:=by
    rw[<-HR.out,IB (.inr (.inl ?_))]
    ·rfl
    rw[List.all_eq_false];refine⟨f,adI (i:=i - m) ?_,by rw[HG.out];decide⟩
    rw[D7.out,agh,show m+(i - m)=i by omega]
    exact HF.out
   subst hr;go_wp2;go_ret;exact⟨rfl,bG.out⟩
  |true=>
   have cf:=(iJ.out w5 bG.out).st HF.out;rw[Ba.out]at cf;go_wp2_with fail
   go_loopg [7] (i - m) (fun q x wr=> ∃k:Nat,x=.int .i64 k/\k+q=i/\m<=k/\Hid ((∀j,m<=j->j<k->r[j]?≠some f)/\Below w.heap.size w wr))
   case atStart=>exact⟨m,rfl,by omega,ac4 _,fun j h1 h2=>by omega,bG.out⟩
   obtain⟨k,rfl,hk,hmk,hs⟩:=hrel
   have HS2:Hid ((∀j,m<=j->j<k->r[j]?≠some f)/\Below w.heap.size w wr):=hs;clear hs cf
   have cf:=(iJ.out wr HS2.out.2).st HF.out;rw[Ba.out]at cf;cases gk with
   |zero=>
    obtain rfl:k=i:=by omega
    have aZ:=ah (And.intro (HS.out.1.amc xu HF.out HG.out HS2.out.1) HS2.out.2);clear hk
    go_wp2
    go_roundg q
    case measure=>omega
    exact⟨k+1,int_eq (by omega),by have:=HI.out;omega,aZ.out⟩
   |succ q2=>
    have hki:k<i:=by omega
    have aqF:(k:Int)<i:=by omega
    have aqG:(k:Int)<rl:=by omega
    have pk:(0:Int)<=(k:Int):=by omega
    have tk:((k:Int)).toNat=k:=by omega
    obtain⟨g,hg⟩: ∃p,r[k]?=some p:=⟨_,dF (by rw[aO.out];omega)⟩
    have cg:=(iJ.out wr HS2.out.2).st hg;obtain⟨y,hy⟩:=aj (⟨g.toArray⟩:ByteArray)
    have e2:ST g=.string y:=by rw[<-hy];rfl
    rw[e2]at cg;obtain⟨b,hb⟩:=aj (y.toList == z.toList)
    have hfg:g=f↔b=true:=by rw[<-hb,aeI,Lib.toList_data,Lib.toList_data,HZD.out,<-hy]
    have yP:=ah hfg;have HG2:=ah hg;have HK:=ah hk;clear hg hy e2 hfg hk;cases b with
    |true=>
     have hr:R=true:=by
      rw[<-HR.out,IB (.inr (.inr fun hnd=> ?_))]
      ·rfl
      rw[D7.out]at hnd
      have h1:(r.drop m)[k - m]?=some f:=by rw[agh,show m+(k - m)=k by omega,HG2.out,yP.out.2 rfl]
      have h2:(r.drop m)[i - m]?=some f:=by rw[agh,show m+(i - m)=i by omega,HF.out]
      obtain⟨h3,h4⟩:=adw.1 h1;obtain⟨h5,h6⟩:=adw.1 h2
      exact af5.1 hnd (k - m) (i - m) h3 h5 (by omega) (h4.trans h6.symm)
     subst hr
     go_upto_region 17 with fail
     go_quiet (fail)
     go_wp2_with fail;go_ret;exact⟨rfl,below_drewN HS2.out.2 _⟩
    |false=>
     have aZ:=ah (show∀j,m<=j->j<k+1->r[j]?≠some f from fun j h1 h2 e=>by
      by_cases h3:j=k
      ·subst h3
       rw[HG2.out]at e;have:=yP.out.1 (ad4 e);cases this
      exact HS2.out.1 j h1 (by omega) e)
     go_upto_region 17 with fail
     go_quiet (fail)
     go_wp2_with fail
     go_roundg q2
     case measure=>omega
     exact⟨k+1,int_eq (by omega),by have:=HK.out;omega,by omega,⟨aZ.out,below_drewN HS2.out.2 _⟩⟩
theorem Ko {P:Program} {o:Oper} {a:Act} {w:World} {next:Act->Prop} (ty:TypeId) (x:Operand) (ho:o.op=.load ty x)
  (g:Nat) (hx:a.eval x=.pointer (some ⟨g,0,none⟩)) (t:TypeId) (cs:Array Value) (fr:Nat×Nat) (d:TypeDesc) (hg:w.heap[g]?=some (.cells cs t fr))
  (hu:P.underlying ty=some d) (hd:(match d with|.struct _|.array _ _=>true|_=>false)=true) (hi:(P.info? ty).map (·.size)=some cs.size)
  (h:next (a.put o.dst (.agg cs))):o.still P a w next:=by
 unfold Oper.still execOp
 simp only[ho,hx,Instr.loadAt,Instr.sureAddr,Sem.run_bind,Sem.run_pure,Result.andThen_ok,run_loadVar_row w g t ty cs fr d hg hu hd hi]
 exact⟨rfl,h⟩
theorem acT {P:Program} {o:Oper} {a:Act} {w:World} (ty:TypeId) (x:Operand) (ho:o.op=.load ty x)
  (g:Nat) (hx:a.eval x=.pointer (some ⟨g,0,none⟩)) (t:TypeId) (cs:Array Value) (fr:Nat×Nat) (d:TypeDesc) (hg:w.heap[g]?=some (.cells cs t fr))
  (hu:P.underlying ty=some d) (hd:(match d with|.struct _|.array _ _=>true|_=>false)=true) (hi:(P.info? ty).map (·.size)=some cs.size):(execOp a.eval o).run P w=.ok (.value (.agg cs)) w:=by
 unfold execOp
 simp only[ho,hx,Instr.loadAt,Instr.sureAddr,Sem.run_bind,Sem.run_pure,Result.andThen_ok,run_loadVar_row w g t ty cs fr d hg hu hd hi]
theorem oO {cs:Array Value} (h:cs.size=1024):(Tryz.prog.info? 59).map (·.size)=some cs.size:=by rw[h];kernel_rfl
def Kq (cs:Array Value) (ids:List Int):Prop:=cs.size=1024/\ ∀i:Nat,i<1024->cs[i]?=some (.bool (decide ((i:Int)∈ids)))
theorem There.arr {V:World} {b:Nat} {ids:List Int} (h:There V b ids): ∃cs,au V b 59 cs/\Kq cs ids:=by
 obtain⟨cs,h1,h2,h3⟩:=h;exact⟨cs,h1,h2,h3⟩
theorem Kq.one {cs:Array Value} {ids:List Int} (h:Kq cs ids):cs.all (·.oneCell')=true:=by
 rw[aq7];intro i hi;have h1:=h.2 i (by have:=h.1;omega)
 rw[afO hi]at h1;rw[ad4 h1];rfl
theorem amd (w:World) (g:Nat) (cs:Array Value):w.grownBy (w.setRow g cs) (some g):=
 ⟨rfl,rfl,rfl,by rw[size_setRow];exact ac4 _,fun k _ hk=>setRow_other w g k cs (fun e=>hk (by rw[e]))⟩
theorem au.setRow {w:World} {g:Nat} {t:TypeId} {old cs:Array Value} (h:au w g t old):au (w.setRow g cs) g t cs:=setRow_heap w g old cs t (0,0) h
theorem au.Qg {w:World} {g b:Nat} {t:TypeId} {cs old:Array Value} (h:au w b t old) (hne:b≠g):au (w.setRow g cs) b t old:=(setRow_other w g b cs hne).trans h
theorem ame {fn:Func} {p q r:Tmp} {ty:TypeId} (h:fn.results= #[.tmp p,.cell q ty,.tmp r]) (tmps:Array Value) (P:Program) (w:World) (b:Nat) (x:Value) (hq:tmps.getD q undef=.pointer (some ⟨b,0,none⟩))
  (hl:(loadVar ty ⟨b,0,none⟩).run P w=.ok x w):(results fn tmps).run P w=.ok (.tuple #[tmps.getD p undef,x,tmps.getD r undef]) w:=by
 unfold results;rw[h]
 simp only[List.mapM_toArray,List.mapM_cons,List.mapM_nil,hq,asAddr,bind_assoc,pure_bind,Sem.run_bind,Sem.run_pure,Sem.run_map,Result.andThen_ok,hl]
 simp
theorem Fh {fn:Func} {R:Ending->World->Prop} {tmps:Array Value} {W:World} {p q r:Tmp} {b:Nat} {v0 v2:Value} {cs:Array Value} (hfn:fn.results= #[.tmp p,.cell q 59,.tmp r])
  (h0:tmps.getD p undef=v0) (ht:tmps.getD q undef=.pointer (some ⟨b,0,none⟩)) (h2:tmps.getD r undef=v2) (hB:au W b 59 cs) (hz:cs.size=1024) (hR:R (.returned (.tuple #[v0,.agg cs,v2])) W):
  bodyPost Tryz.prog fn R .ret {tmps:=tmps,defers:=[]} W:=by
 have hld:=run_loadVar_row (P:=Tryz.prog) W b 59 59 cs (0,0) _ hB Tryz.underlying59 rfl (oO hz)
 subst h0 h2;exact bodyPost_ret (ame hfn tmps _ W b _ ht hld) rfl hR
end Go.Proofs.YtkdakckjafomhaaGreatDoor
