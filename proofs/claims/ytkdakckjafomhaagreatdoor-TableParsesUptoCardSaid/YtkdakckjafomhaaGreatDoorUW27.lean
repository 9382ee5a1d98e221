/- Contracts and plain laws,part 27. -/
import Derived.Test.YtkdakckjafomhaaGreatDoorUW24
import Derived.Lib.AppendStr
set_option maxHeartbeats 64000000
set_option maxRecDepth 1000000
set_option linter.all false
namespace Go.Proofs.YtkdakckjafomhaaGreatDoor
open Go.RowKit
theorem bY.node {W:World} {B:Nat} {A:Option Addr} {l:List Gr.N} (h:bY W B 3 (iO W B) A l) {k:Nat} {n:Gr.N} (hk:l[k]?=some n): ∃b o Al cl Ap cp,A=some ⟨b,o,none⟩/\b<B/\
  (W.cell? ⟨b,o+k*3,none⟩=some (.int .i64 n.id)/\W.cell? ⟨b,o+k*3+1,none⟩=some (.slice Al n.labels.length cl)/\W.cell? ⟨b,o+k*3+2,none⟩=some (.slice Ap n.props.length cp))/\
  Reads W B 1 Al n.labels.length (n.labels.map ST)/\bY W B 6 (aX W B) Ap n.props:=by
 obtain⟨b,o,cs,hA,hb,⟨Al,cl,Ap,cp,rfl,h1,h2⟩,-,hc⟩:=h k n hk
 exact⟨b,o,Al,cl,Ap,cp,hA,hb,⟨hc 0 _ rfl,hc 1 _ rfl,hc 2 _ rfl⟩,h1,h2⟩
theorem akE (B:Nat) (A:Option Addr) (c:Nat) (ns:List Gr.N) (k:Nat) (n:Gr.N) (w:World) (h:bY w B 3 (iO w B) A ns) (hB:B<=w.heap.size) (hl:ns.length<=1073741824) (hs: ∀n∈ns,QE n) (hk:ns[k]?=some n):
  Calls Tryz.prog 43 #[.slice A ns.length c,.int .i64 (k:Int)] w fun e w'=>e=.returned (.int .i64 (Gr.iM (Gr.aH Gr.N.id ns k) n:Nat))/\Below w.heap.size w w':=by
 obtain⟨R,hR⟩:=aj (Gr.iM (Gr.aH Gr.N.id ns k) n);rw[hR];unfold Gr.iM at hR
 have hok:=hs n (adI hk);have hkl:k<ns.length:=(adw.1 hk).1;obtain⟨m,hm⟩:=aj ns.length
 rw[hm]at hl hkl⊢;obtain⟨b,o,Al,cl,Ap,cp,rfl,hbB,⟨c0,c1,c2⟩,r1,r2⟩:=h.node hk
 obtain⟨lD,QS,ps0⟩:=n;simp only at hR c0 c1 c2 r1 r2
 obtain⟨W1,hW1⟩:=aj (w.alloc (.cells #[.int .i64 lD,.slice Al QS.length cl,.slice Ap ps0.length cp] 42))
 have hb1:Below w.heap.size w W1:=by rw[<-hW1];exact(Below.refl _ w).alloc (ac4 _) _
 have k1:au W1 w.heap.size 42 #[.int .i64 lD,.slice Al QS.length cl,.slice Ap ps0.length cp]:=by rw[<-hW1];exact au.new _ _ _
 have HD:=ah (cells3 k1);have hBm:=hb1.mono hB
 have qB:=ah (fun(q:Nat)=>ajq B Al cl QS (W1.drewN q) ((r1.below hBm).below (below_drewN (Below.refl B W1) q)) hok.ll hok.ls)
 have cZ:=ah (fun(q:Nat)=>aaL B Ap cp ps0 (W1.drewN q) ((r2.below hBm (aX.below hBm)).below (below_drewN (Below.refl B W1) q) (aX.below (below_drewN (Below.refl B W1) q))) (adg hB hb1.size) hok.pl hok.ps)
 obtain⟨LV,hLV⟩:=aj (Gr.uY QS);obtain⟨PV,MC⟩:=aj (Gr.lQ ps0);rw[hLV]at qB hR
 rw[MC]at cZ hR
 have HQ:Hid (∀(j:Nat) (q:Gr.N),ns[j]?=some q->W1.cell? ⟨b,o+j*3,none⟩=some (.int .i64 q.id)):=fun j q hq=>by
  obtain⟨b',o',_,_,_,_,he,hlt,⟨e0,-⟩,-⟩:=h.node hq
  injection he with he
  injection he with he1 he2
  subst he1;subst he2;exact(hBm.cell (by exact hlt)).trans e0
 have HB1:=ah hb1;have HW1:=ah hW1;have HU:=ah CX;have HM:=ah hm
 have Dy:(k:Int)<m:=by omega
 obtain⟨x1,hx1⟩:=aj (decide (lD<0));obtain⟨x2,hx2⟩:=aj (decide ((1024:Int)<=lD))
 clear hW1 hb1 k1 hBm hLV MC h r1 r2 hk hs hok hm hbB;go_enter Tryz.func43,Tryz.ntmps43
 go_upto_region 2 with fail
 rw[HW1.out];clear c0 c1 c2 HW1;obtain⟨d0,d1,d2⟩:=HD.out;have hu:=HU.out;cases x1 with
 |true=>
  have hi:=adN hx1;rw[adk (.inl hi)]at hR;subst hR;clear qB cZ HQ;go_wp2;go_ret
  exact⟨rfl,HB1.out⟩
 |false=>
  have hi:=adM hx1;have hi':0<=lD:=by omega
  cases x2 with
  |true=>
   have hj:=adN hx2;rw[adk (.inr hj)]at hR;subst hR;clear qB cZ HQ;go_wp2;go_ret
   exact⟨rfl,HB1.out⟩
  |false=>
   have hj:=adM hx2;have hj':lD<1024:=by omega
   rw[ade (by omega)]at hR
   have HR:=ah hR;clear hi hj hR;by_cases h0:k=0
   ·have hk0:(k:Int)<=0:=by omega
    have tk:decide (0<k)=false:=ac5 (by omega)
    have hpv:Gr.aH Gr.N.id ns k=none:=by subst h0;rfl
    have hr2:=HR.out;rw[hpv,ade (by simp)]at hr2
    have HT:=ah (show LV≠0->R=LV from fun h=>by rw[<-hr2,adk h])
    have HT2:=ah (show LV=0->R=PV from fun h=>by rw[<-hr2,ade (by omega)])
    clear h0 hpv hr2
    go_upto_region 4 with fail
    go_quiet (fail)
    go_wp2_with fail;cases LV with
    |succ e=>
     have hr:=HT.out (by omega)
     have HRR:=ah hr;have hne:(((e+1:Nat):Int) !=0)=true:=by rw[adY];omega
     clear hr cZ;refine(qB.out nq).mono ?_;rintro e w2 ⟨rfl,rfl⟩;go_wp2;go_ret
     exact⟨by rw[HRR.out];rfl,below_drewN HB1.out nq⟩
    |zero=>
     have hr:=HT2.out rfl;have HRR:=ah hr;clear hr;refine(qB.out nq).mono ?_
     rintro e w2 ⟨rfl,rfl⟩;obtain⟨d0,d1,d2⟩:=HD.out;go_wp2_with fail
     refine(cZ.out nq).mono ?_;rintro e w3 ⟨rfl,hb3⟩
     have HB3:=ah (pV (below_drewN HB1.out nq) hb3);clear hb3;go_wp2;go_ret
     exact⟨by rw[HRR.out];rfl,HB3.out⟩
   obtain⟨m',hm'⟩: ∃m',k=m'+1:=⟨k - 1,by omega⟩
   have tk:decide (0<k)=true:=adb (by omega)
   have hkp:(0:Int)<k:=by omega
   have hsub:(k:Int) - 1=(m':Int):=by omega
   have hmn:(m':Int)<m:=by omega
   obtain⟨q,hq⟩: ∃q,ns[m']?=some q:=⟨_,dF (by have:=HM.out;omega)⟩
   have e0:=HQ.out m' q hq
   have hpv:Gr.aH Gr.N.id ns k=some q.id:=by rw[hm'];show ns[m']?.map Gr.N.id=_;rw[hq];rfl
   have hr2:=HR.out;rw[hpv]at hr2;obtain⟨y,hy⟩:=aj q.id;rw[hy]at e0 hr2
   clear h0 hq hpv hm' hy;by_cases hle:lD<=y
   ·have tl:decide (lD<=y)=true:=adb hle
    have hr:R=6:=by rw[<-hr2,adk (by simpa using hle)]
    have HRR:=ah hr;clear hr hr2 qB cZ
    go_upto_region 4 with fail
    go_quiet (fail)
    go_wp2;go_ret;exact⟨by rw[HRR.out];rfl,below_drewN HB1.out nq⟩
   have tl:decide (lD<=y)=false:=ac5 hle;have hle':y<lD:=by omega
   rw[ade (by simpa using hle)]at hr2
   have HT:=ah (show LV≠0->R=LV from fun h=>by rw[<-hr2,adk h])
   have HT2:=ah (show LV=0->R=PV from fun h=>by rw[<-hr2,ade (by omega)])
   clear hr2 hle
   go_upto_region 4 with fail
   go_quiet (fail)
   go_wp2_with fail;cases LV with
   |succ e=>
    have hr:=HT.out (by omega)
    have HRR:=ah hr;have hne:(((e+1:Nat):Int) !=0)=true:=by rw[adY];omega
    clear hr cZ;refine(qB.out nq).mono ?_;rintro e w2 ⟨rfl,rfl⟩;go_wp2;go_ret
    exact⟨by rw[HRR.out];rfl,below_drewN HB1.out nq⟩
   |zero=>
    have hr:=HT2.out rfl;have HRR:=ah hr;clear hr;refine(qB.out nq).mono ?_
    rintro e w2 ⟨rfl,rfl⟩;obtain⟨d0,d1,d2⟩:=HD.out;go_wp2_with fail
    refine(cZ.out nq).mono ?_;rintro e w3 ⟨rfl,hb3⟩
    have HB3:=ah (pV (below_drewN HB1.out nq) hb3);clear hb3;go_wp2;go_ret
    exact⟨by rw[HRR.out];rfl,HB3.out⟩
theorem bY.rel {W:World} {B:Nat} {A:Option Addr} {l:List Gr.R} (h:bY W B 5 (iP W B) A l) {k:Nat} {r:Gr.R} (hk:l[k]?=some r): ∃b o Ap cp,A=some ⟨b,o,none⟩/\b<B/\
  (W.cell? ⟨b,o+k*5,none⟩=some (.int .i64 r.id)/\W.cell? ⟨b,o+k*5+1,none⟩=some (ST r.type)/\W.cell? ⟨b,o+k*5+2,none⟩=some (.int .i64 r.src)/\W.cell? ⟨b,o+k*5+3,none⟩=some (.int .i64 r.dst)/\W.cell? ⟨b,o+k*5+4,none⟩=some (.slice Ap r.props.length cp))/\
  bY W B 6 (aX W B) Ap r.props:=by
 obtain⟨b,o,cs,hA,hb,⟨Ap,cp,rfl,h2⟩,-,hc⟩:=h k r hk
 exact⟨b,o,Ap,cp,hA,hb,⟨hc 0 _ rfl,hc 1 _ rfl,hc 2 _ rfl,hc 3 _ rfl,hc 4 _ rfl⟩,h2⟩
theorem akF (B:Nat) (A:Option Addr) (c:Nat) (rs:List Gr.R) (k:Nat) (r:Gr.R) (mb:Nat) (ids:List Int) (w:World) (h:bY w B 5 (iP w B) A rs) (hB:B<=w.heap.size) (hl:rs.length<=1073741824) (hs: ∀r∈rs,VR r) (hk:rs[k]?=some r) (hmb:eP w mb ids):
  Calls Tryz.prog 44 #[.slice A rs.length c,.int .i64 (k:Int),.map (some mb)] w fun e w'=>e=.returned (.int .i64 (Gr.jw ids (Gr.aH Gr.R.id rs k) r:Nat))/\Below w.heap.size w w':=by
 obtain⟨R,hR⟩:=aj (Gr.jw ids (Gr.aH Gr.R.id rs k) r);rw[hR];unfold Gr.jw at hR
 have hok:=hs r (adI hk);have hkl:k<rs.length:=(adw.1 hk).1;obtain⟨m,hm⟩:=aj rs.length
 rw[hm]at hl hkl⊢;obtain⟨b,o,Ap,cp,rfl,hbB,⟨c0,c1,c2,c3,c4⟩,r2⟩:=h.rel hk
 obtain⟨lD,WH,MF,MG,ps0⟩:=r;simp only at hR c0 c1 c2 c3 c4 r2
 obtain⟨z,hz⟩:=aj (⟨WH.toArray⟩:ByteArray);have hzd:z.data.toList=WH:=by rw[<-hz]
 unfold ST at c1;rw[hz]at c1
 obtain⟨W1,hW1⟩:=aj (w.alloc (.cells #[.int .i64 lD,.string z,.int .i64 MF,.int .i64 MG,.slice Ap ps0.length cp] 44))
 have hb1:Below w.heap.size w W1:=by rw[<-hW1];exact(Below.refl _ w).alloc (ac4 _) _
 have k1:au W1 w.heap.size 44 #[.int .i64 lD,.string z,.int .i64 MF,.int .i64 MG,.slice Ap ps0.length cp]:=by rw[<-hW1];exact au.new _ _ _
 have HD:=ah (cells5 k1);have hBm:=hb1.mono hB;have hgn:=Iu z;rw[hzd]at hgn
 have dQ:=ah (fun(W:World)=>hgn W (by rw[Lib.size_eq,hzd];exact hok.tl))
 have cZ:=ah (fun(q:Nat)=>aaL B Ap cp ps0 (W1.drewN q) ((r2.below hBm (aX.below hBm)).below (below_drewN (Below.refl B W1) q) (aX.below (below_drewN (Below.refl B W1) q))) (adg hB hb1.size) hok.pl hok.ps)
 obtain⟨GV,hGV⟩:=aj (Gr.bC WH);obtain⟨PV,MC⟩:=aj (Gr.lQ ps0);rw[hGV]at dQ hR
 rw[MC]at cZ hR;have hcm:=hmb.below hb1
 have mD:=ah (fun(q:Nat)=>(show eP (W1.drewN q) mb ids from⟨hcm.ex⟩).look (t:=80) Tryz.underlying80 hok.src)
 have HL2:=ah (fun(q:Nat)=>(show eP (W1.drewN q) mb ids from⟨hcm.ex⟩).look (t:=80) Tryz.underlying80 hok.dst)
 have hc1:ids.count MF=0↔MF∉ids:=List.count_eq_zero
 have hc2:ids.count MG=0↔MG∉ids:=List.count_eq_zero;obtain⟨n1,hn1⟩:=aj (ids.count MF)
 obtain⟨n2,hn2⟩:=aj (ids.count MG);rw[hn1]at mD hc1;rw[hn2]at HL2 hc2;have kV:=ah hc1
 have HC2:=ah hc2
 have HQ:Hid (∀(j:Nat) (q:Gr.R),rs[j]?=some q->W1.cell? ⟨b,o+j*5,none⟩=some (.int .i64 q.id)):=fun j q hq=>by
  obtain⟨b',o',_,_,he,hlt,⟨e0,-⟩,-⟩:=h.rel hq
  injection he with he
  injection he with he1 he2
  subst he1;subst he2;exact(hBm.cell (by exact hlt)).trans e0
 have HB1:=ah hb1;have HW1:=ah hW1;have HU:=ah CX;have HM:=ah hm
 have Dy:(k:Int)<m:=by omega
 obtain⟨x1,hx1⟩:=aj (decide (lD<0));obtain⟨x2,hx2⟩:=aj (decide ((2048:Int)<=lD))
 clear hW1 hb1 k1 hBm hGV MC h r2 hk hs hok hm hbB hmb hcm hc1 hc2 hn1 hn2 hgn hz hzd
 go_enter Tryz.func44,Tryz.ntmps44
 go_upto_region 2 with fail
 rw[HW1.out];clear c0 c1 c2 c3 c4 HW1;obtain⟨d0,d1,d2,d3,d4⟩:=HD.out;have hu:=HU.out
 cases x1 with
 |true=>
  have hi:=adN hx1;rw[adk (.inl hi)]at hR;subst hR;clear dQ cZ HQ;go_wp2;go_ret
  exact⟨rfl,HB1.out⟩
 |false=>
  have hi:=adM hx1;have hi':0<=lD:=by omega
  cases x2 with
  |true=>
   have hj:=adN hx2;rw[adk (.inr hj)]at hR;subst hR;clear dQ cZ HQ;go_wp2;go_ret
   exact⟨rfl,HB1.out⟩
  |false=>
   have hj:=adM hx2;have hj':lD<2048:=by omega
   rw[ade (by omega)]at hR
   have HR:=ah hR;clear hi hj hR;by_cases h0:k=0
   ·have hk0:(k:Int)<=0:=by omega
    have tk:decide (0<k)=false:=ac5 (by omega)
    have hpv:Gr.aH Gr.R.id rs k=none:=by subst h0;rfl
    have hr2:=HR.out;rw[hpv,ade (by simp)]at hr2
    have HT:=ah hr2;clear h0 hpv hr2
    go_upto_region 4 with fail
    go_quiet (fail)
    go_wp2_with fail;refine(dQ.out _).mono ?_;rintro e w2 ⟨rfl,rfl⟩;cases GV with
    |false=>
     have hr:=HT.out;rw[adk rfl]at hr;subst hr;clear cZ;go_wp2;go_ret
     exact⟨rfl,below_drewN HB1.out nq⟩
    |true=>
     have hr:=HT.out;rw[ade (by decide)]at hr
     have l1:=mD.out nq;have l2:=HL2.out nq;by_cases h1:n1=0
     ·have t1:((n1:Int) == 0)=true:=aeI.2 (by omega)
      rw[adk (.inl (kV.out.1 h1))]at hr;subst hr;clear cZ h1;go_wp2;go_ret
      exact⟨rfl,below_drewN HB1.out nq⟩
     have t1:((n1:Int) == 0)=false:=adh.2 (by omega)
     by_cases h2:n2=0
     ·have t2:((n2:Int) == 0)=true:=aeI.2 (by omega)
      rw[adk (.inr (HC2.out.1 h2))]at hr;subst hr;clear cZ h1 h2;go_wp2;go_ret
      exact⟨rfl,below_drewN HB1.out nq⟩
     have t2:((n2:Int) == 0)=false:=adh.2 (by omega)
     rw[ade (by rintro(h|h);exact h1 (kV.out.2 h);exact h2 (HC2.out.2 h))]at hr
     subst hr;clear h1 h2;go_wp2_with fail;refine(cZ.out nq).mono ?_
     rintro e w3 ⟨rfl,hb3⟩;have HB3:=ah (pV (below_drewN HB1.out nq) hb3);clear hb3;go_wp2
     go_ret;exact⟨rfl,HB3.out⟩
   obtain⟨m',hm'⟩: ∃m',k=m'+1:=⟨k - 1,by omega⟩
   have tk:decide (0<k)=true:=adb (by omega)
   have hkp:(0:Int)<k:=by omega
   have hsub:(k:Int) - 1=(m':Int):=by omega
   have hmn:(m':Int)<m:=by omega
   obtain⟨q,hq⟩: ∃q,rs[m']?=some q:=⟨_,dF (by have:=HM.out;omega)⟩
   have e0:=HQ.out m' q hq
   have hpv:Gr.aH Gr.R.id rs k=some q.id:=by rw[hm'];show rs[m']?.map Gr.R.id=_;rw[hq];rfl
   have hr2:=HR.out;rw[hpv]at hr2;obtain⟨y,hy⟩:=aj q.id;rw[hy]at e0 hr2
   clear h0 hq hpv hm' hy;by_cases hle:lD<=y
   ·have tl:decide (lD<=y)=true:=adb hle
    have hr:R=6:=by rw[<-hr2,adk (by simpa using hle)]
    have HRR:=ah hr;clear hr hr2 dQ cZ
    go_upto_region 4 with fail
    go_quiet (fail)
    go_wp2;go_ret;exact⟨by rw[HRR.out];rfl,below_drewN HB1.out nq⟩
   have tl:decide (lD<=y)=false:=ac5 hle;have hle':y<lD:=by omega
   rw[ade (by simpa using hle)]at hr2
   have HT:=ah hr2;clear hr2 hle
   go_upto_region 4 with fail
   go_quiet (fail)
   go_wp2_with fail;refine(dQ.out _).mono ?_;rintro e w2 ⟨rfl,rfl⟩;cases GV with
   |false=>
    have hr:=HT.out;rw[adk rfl]at hr;subst hr;clear cZ;go_wp2;go_ret
    exact⟨rfl,below_drewN HB1.out nq⟩
   |true=>
    have hr:=HT.out;rw[ade (by decide)]at hr
    have l1:=mD.out nq;have l2:=HL2.out nq;by_cases h1:n1=0
    ·have t1:((n1:Int) == 0)=true:=aeI.2 (by omega)
     rw[adk (.inl (kV.out.1 h1))]at hr;subst hr;clear cZ h1;go_wp2;go_ret
     exact⟨rfl,below_drewN HB1.out nq⟩
    have t1:((n1:Int) == 0)=false:=adh.2 (by omega)
    by_cases h2:n2=0
    ·have t2:((n2:Int) == 0)=true:=aeI.2 (by omega)
     rw[adk (.inr (HC2.out.1 h2))]at hr;subst hr;clear cZ h1 h2;go_wp2;go_ret
     exact⟨rfl,below_drewN HB1.out nq⟩
    have t2:((n2:Int) == 0)=false:=adh.2 (by omega)
    rw[ade (by rintro(h|h);exact h1 (kV.out.2 h);exact h2 (HC2.out.2 h))]at hr
    subst hr;clear h1 h2;go_wp2_with fail;refine(cZ.out nq).mono ?_;rintro e w3 ⟨rfl,hb3⟩
    have HB3:=ah (pV (below_drewN HB1.out nq) hb3);clear hb3;go_wp2;go_ret
    exact⟨rfl,HB3.out⟩
attribute [local go_sem] Oper.semAt_some
structure gB where
 p:Gr.P
 An:Option Addr
 cn:Nat
 At:Option Addr
 ct:Nat
def gB.cells (x:gB):Array Value:= #[ST x.p.key,.int .i64 x.p.val.kind,.int .i64 x.p.val.num,ST x.p.val.text,.slice x.An x.p.val.nums.length x.cn,.slice x.At x.p.val.texts.length x.ct]
def Fg (x:gB):Array Value:= #[.agg x.cells]
def gB.Rd (W:World) (B:Nat) (x:gB):Prop:=Reads W B 1 x.An x.p.val.nums.length (x.p.val.nums.map I64)/\Reads W B 1 x.At x.p.val.texts.length (x.p.val.texts.map ST)
def UR (W:World) (B:Nat) (l:List Gr.P) (pre:List gB) (x:gB):Prop:=(pre++[x]).map gB.p <+: l/\x.Rd W B
def UU (l:List Gr.P) (pre:List gB):Prop:=pre.map gB.p=l
theorem J3 {α β:Type} {l:List α} {f:α->List β} {k:Nat} {a:α} (h:l[k]?=some a):(l.take (k+1)).flatMap f=(l.take k).flatMap f++f a:=by
 rw[ae3,h];simp
theorem P5 {α β:Type} {l:List α} {f:α->List β} {k:Nat} {a:α} (h:l[k]?=some a):l.flatMap f=(l.take k).flatMap f ++(f a ++(l.drop (k+1)).flatMap f):=by
 obtain⟨hk,e⟩:=adw.1 h
 conv=>lhs;rw[<-aeN k l,afG,aez hk,e,ae2]
theorem abJ {α:Type} {l:List α} {k:Nat} {a:α} (h:l[k]?=some a):l=l.take k++a :: l.drop (k+1):=by
 obtain⟨hk,e⟩:=adw.1 h
 conv=>lhs;rw[<-aeN k l,aez hk,e]
theorem abK {α:Type} {pre a b:List α} {ps:List α} {j:Nat} {x:α} (h:pre=a++ps.take j) (hx:ps[j]?=some x):pre++[x] <+:(a ++(ps++b)):=by
 subst h;refine⟨ps.drop (j+1)++b, ?_⟩
 conv=>rhs;rw[abJ hx]
 simp
theorem IC {α:Type} {l:List α} {k:Nat} {a:α} (h:l[k]?=some a):l.take (k+1)=l.take k++[a]:=by
 rw[ae3,h];rfl
theorem abL (T n₁ B Bt:Nat) (g:Gr.G) (An Ar:Option Addr) (cn cr:Nat) (Ws:World)
  (hN:bY Ws B 3 (iO Ws B) An g.nodes) (hR:bY Ws B 5 (iP Ws B) Ar g.aA) (hok:DT g) (W1:World):
  Pj Tryz.prog T n₁ 97 #[.pointer (some ⟨Bt,0,none⟩)] Fg (fun _ _ _=>True) (UR Ws B (Gr.dX g)) (UU (Gr.dX g)) (fun V=>Below B Ws V/\au V Bt 26 #[.slice An g.nodes.length cn,.slice Ar g.aA.length cr]) W1:=by
 intro l J Fin hAux hJ hY Ld h0;refine callsIn_wide.2 ?_;have HX:=ah hAux;have HJ:=ah hJ
 have HY:=ah hY;have HE:=ah Ld;have VF:=ah h0;have HN:=ah hN;have HR:=ah hR
 have aV:=ah hok;obtain⟨nn,hnn⟩:=aj g.nodes.length;obtain⟨rn,hrn⟩:=aj g.aA.length
 have hnl:=hok.nl;have hrl:=hok.rl;rw[hnn]at HX hnl;rw[hrn]at HX hrl;have aC:=ah hnn
 have fP:=ah hrn;obtain⟨c0,c1⟩:=cells2 (HX.out _ _ h0).2
 have hall:Gr.dX g=g.nodes.flatMap Gr.N.props++g.aA.flatMap Gr.R.props:=rfl
 obtain⟨ALL,aek⟩:=aj (Gr.dX g);rw[aek]at HY HE hall;have WI:=ah hall
 clear hJ hY Ld hAux h0 hN hR hok hnn hrn hall aek;go_enter Tryz.func97,Tryz.ntmps97
 go_wp2_with fail
 go_loopg [14] nn (fun q x wr=> ∃(k:Nat) (pre:List gB),x=.int .i64 k/\k+q=nn/\J pre wr/\pre.map gB.p=(g.nodes.take k).flatMap Gr.N.props/\W1.heap.size<=wr.heap.size)
 case atStart=>exact⟨0,[],rfl,by omega,VF.out,rfl,ac4 _⟩
 obtain⟨k,pre,rfl,hk,hj,hpre,hsz⟩:=hrel;have zL:=ah hj;have Ji:=ah hpre;have HK:=ah hk
 have dZ:=ah (HX.out _ _ hj).1;obtain⟨c0',c1'⟩:=cells2 (HX.out _ _ hj).2
 clear hj hpre c0 c1;cases gk with
 |succ q=>
  have hkn:k<nn:=by omega
  have dH:(k:Int)<nn:=by omega
  obtain⟨n,hn⟩: ∃n,g.nodes[k]?=some n:=⟨_,dF (by rw[aC.out];exact hkn)⟩
  obtain⟨b,o,Al,cl,Ap,cp,rfl,hbB,⟨D0,D1,D2⟩,-,r2⟩:=HN.node hn;have hlt:b<B:=hbB
  have d0:=(dZ.cell (p:=⟨b,o+k*3,none⟩) hlt).trans D0
  have d1:=(dZ.cell (p:=⟨b,o+k*3+1,none⟩) hlt).trans D1
  have d2:=(dZ.cell (p:=⟨b,o+k*3+2,none⟩) hlt).trans D2
  obtain⟨WN,bQ⟩:=aj (wr.alloc (.cells #[.int .i64 n.id,.slice Al n.labels.length cl,.slice Ap n.props.length cp] 42))
  have fU:=ah bQ
  have jE:=ah (show aT T W1.heap.size wr WN by rw[<-bQ];exact(aT.refl _ _ _).alloc _)
  have bW:=ah (show au WN wr.heap.size 42 #[.int .i64 n.id,.slice Al n.labels.length cl,.slice Ap n.props.length cp] by rw[<-bQ];exact au.new _ _ _)
  have BD:=ah r2;have jU:=aV.ns n (adI hn);obtain⟨pn,hpn⟩:=aj n.props.length
  have hpl:=jU.pl;rw[hpn]at hpl d2 fU bW;have dY:=ah hpn
  have AZ:=ah (J3 (f:=Gr.N.props) hn);have og:=ah (P5 (f:=Gr.N.props) hn)
  clear bQ hbB D0 D1 D2 r2 jU hn hpn hk hkn hlt
  go_upto_region 3 with fail
  rw[fU.out];clear d0 d1 d2 c0' c1';obtain⟨k0,k1,k2⟩:=cells3 bW.out;go_wp2_with fail
  go_loopg [21] pn (fun q x wx=> ∃(j:Nat) (pre:List gB),x=.int .i64 j/\j+q=pn/\J pre wx/\pre.map gB.p=(g.nodes.take k).flatMap Gr.N.props++n.props.take j/\W1.heap.size<=wx.heap.size)
  case atStart=>exact⟨0,pre,rfl,by omega,HJ.out _ _ _ zL.out jE.out,by rw[Ji.out];simp,by rw[<-fU.out];simp;omega⟩
  obtain⟨j,pre',rfl,hj,hjj,hpre',hsz'⟩:=hrel;have MH:=ah hjj;have Gn:=ah hpre'
  have WJ:=ah hj;have uK:=ah (HX.out _ _ hjj).1;clear hjj hpre';cases gk with
  |succ q'=>
   have hjn:j<pn:=by omega
   have Az:(j:Int)<pn:=by omega
   obtain⟨p,hp⟩: ∃p,n.props[j]?=some p:=⟨_,dF (by rw[dY.out];exact hjn)⟩
   obtain⟨b',o',nK,lF,nM,lG,rfl,D9,⟨E0,E1,E2,E3,E4,E5⟩,q1,q2⟩:=BD.prop hp
   have hlt':b'<B:=D9;obtain⟨z,hz⟩:=aj (⟨p.key.toArray⟩:ByteArray)
   obtain⟨zt,dU⟩:=aj (⟨p.val.text.toArray⟩:ByteArray)
   have pq:ST p.key=.string z:=by unfold ST;rw[hz]
   have Gp:ST p.val.text=.string zt:=by unfold ST;rw[dU]
   rw[pq]at E0;rw[Gp]at E3;clear hz dU
   have e0:=(uK.cell (p:=⟨b',o'+j*6,none⟩) hlt').trans E0
   have e1:=(uK.cell (p:=⟨b',o'+j*6+1,none⟩) hlt').trans E1
   have e2:=(uK.cell (p:=⟨b',o'+j*6+2,none⟩) hlt').trans E2
   have e3:=(uK.cell (p:=⟨b',o'+j*6+3,none⟩) hlt').trans E3
   have e4:=(uK.cell (p:=⟨b',o'+j*6+4,none⟩) hlt').trans E4
   have e5:=(uK.cell (p:=⟨b',o'+j*6+5,none⟩) hlt').trans E5
   obtain⟨WY,yx⟩:=aj (wr.alloc (.cells #[.string z,.int .i64 p.val.kind,.int .i64 p.val.num,.string zt,.slice nK p.val.nums.length lF,.slice nM p.val.texts.length lG] 39))
   have hsame:aT T W1.heap.size wr WY:=by rw[<-yx];exact(aT.refl _ _ _).alloc _
   have hky:au WY wr.heap.size 39 #[.string z,.int .i64 p.val.kind,.int .i64 p.val.num,.string zt,.slice nK p.val.nums.length lF,.slice nM p.val.texts.length lG]:=by rw[<-yx];exact au.new _ _ _
   have hstep:UR Ws B ALL pre' ⟨p,nK,lF,nM,lG⟩:=by
    refine⟨?_,q1,q2⟩;rw[ad8,WI.out,og.out];rw[aeG,aeG];exact abK Gn.out hp
   obtain⟨fn,tmps,assign,body,hy,Gq⟩:=HY.out pre' ⟨p,nK,lF,nM,lG⟩ wr WY MH.out hsame trivial hstep
   simp only[Fg,gB.cells,pq,Gp]at hy Gq;clear pq Gp
   have Dz:=ah (show(Instr.yield l #[.agg #[.string z,.int .i64 p.val.kind,.int .i64 p.val.num,.string zt,.slice nK p.val.nums.length lF,.slice nM p.val.texts.length lG]]).run Tryz.prog WY=.ok (.round l fn tmps assign body) WY from hy)
   have iJ:=ah Gq;have WL:=ah yx;have WM:=ah hky;have iG:=ah (IC hp)
   have hzy:WY.heap.size=wr.heap.size+1:=by rw[<-yx];simp
   have KG:=ah hzy
   clear yx hsame hky hstep hy Gq q1 q2 D9 E0 E1 E2 E3 E4 E5 hlt' hp hjn hj hzy
   go_upto_region 6 with(fail)
   rw[show wr.alloc (.cells #[.string z,.int .i64 p.val.kind,.int .i64 p.val.num,.string zt,.slice nK p.val.nums.length lF,.slice nM p.val.texts.length lG] 39)=WY from WL.out]
   clear e0 e1 e2 e3 e4 e5;obtain⟨e0,e1,e2,e3,e4,e5⟩:=FV WM.out;have hy':=Dz.out
   refine(wpIn_wide (n:=8)).1 ?_
   gi_wp2
   refine iJ.mono ?_;rintro e W' (⟨rfl,hj,hk⟩|⟨rfl,hf⟩)
   ·have WO:=ah hj
    have hzw:=hk.size;rw[KG.out]at hzw;clear hk hj hy' e0 e1 e2 e3 e4 e5
    gi_wp2
    go_wp2
    go_roundg q'
    case measure=>omega
    exact⟨j+1,_,int_eq (by omega),by have:=WJ.out;omega,WO.out,by rw[ad8,Gn.out,iG.out,aeG];rfl,by omega⟩
   clear hy'
   gi_wp2
   go_wp2;refine bodyPost_ret (results_none rfl _ _ _) rfl ?_;exact⟨⟨_,rfl⟩,hf⟩
  |zero=>
   obtain rfl:j=pn:=by omega
   have hfin:n.props.take j=n.props:=ado (by rw[dY.out];exact ac4 _)
   have hpx:=Gn.out;rw[hfin]at hpx;have xR:=ah hpx;clear hfin hpx hj;go_wp2
   go_roundg q
   case measure=>omega
   exact⟨k+1,pre',int_eq (by omega),by have:=HK.out;omega,MH.out,by rw[xR.out,AZ.out],hsz'⟩
 |zero=>
  obtain rfl:k=nn:=by omega
  have hfin:g.nodes.take k=g.nodes:=ado (by rw[aC.out];exact ac4 _)
  have hpx:=Ji.out;rw[hfin]at hpx;have xR:=ah hpx;clear hfin hpx hk;go_wp2_with fail
  go_loopg [34] rn (fun q x wr=> ∃(k:Nat) (pre:List gB),x=.int .i64 k/\k+q=rn/\J pre wr/\pre.map gB.p=g.nodes.flatMap Gr.N.props ++(g.aA.take k).flatMap Gr.R.props/\W1.heap.size<=wr.heap.size)
  case atStart=>exact⟨0,pre,rfl,by omega,zL.out,by rw[xR.out];simp,hsz⟩
  clear c0' c1' hsz Ji xR zL HK dZ;obtain⟨k,pre,rfl,hk,hj,hpre,hsz⟩:=hrel;have zL:=ah hj
  have Ji:=ah hpre;have HK:=ah hk;have dZ:=ah (HX.out _ _ hj).1
  obtain⟨c0',c1'⟩:=cells2 (HX.out _ _ hj).2;clear hj hpre;cases gk with
  |succ q=>
   have hkn:k<rn:=by omega
   have dH:(k:Int)<rn:=by omega
   obtain⟨n,hn⟩: ∃n,g.aA[k]?=some n:=⟨_,dF (by rw[fP.out];exact hkn)⟩
   obtain⟨b,o,Ap,cp,rfl,hbB,⟨D0,D1,D2,D3,D4⟩,r2⟩:=HR.rel hn;have hlt:b<B:=hbB
   obtain⟨zy,hzy⟩:=aj (⟨n.type.toArray⟩:ByteArray);unfold ST at D1;rw[hzy]at D1
   clear hzy;have d0:=(dZ.cell (p:=⟨b,o+k*5,none⟩) hlt).trans D0
   have d1:=(dZ.cell (p:=⟨b,o+k*5+1,none⟩) hlt).trans D1
   have d2:=(dZ.cell (p:=⟨b,o+k*5+2,none⟩) hlt).trans D2
   have d3:=(dZ.cell (p:=⟨b,o+k*5+3,none⟩) hlt).trans D3
   have d4:=(dZ.cell (p:=⟨b,o+k*5+4,none⟩) hlt).trans D4
   obtain⟨WN,bQ⟩:=aj (wr.alloc (.cells #[.int .i64 n.id,.string zy,.int .i64 n.src,.int .i64 n.dst,.slice Ap n.props.length cp] 44))
   have fU:=ah bQ
   have jE:=ah (show aT T W1.heap.size wr WN by rw[<-bQ];exact(aT.refl _ _ _).alloc _)
   have bW:=ah (show au WN wr.heap.size 44 #[.int .i64 n.id,.string zy,.int .i64 n.src,.int .i64 n.dst,.slice Ap n.props.length cp] by rw[<-bQ];exact au.new _ _ _)
   have BD:=ah r2;have jU:=aV.rs n (adI hn);obtain⟨pn,hpn⟩:=aj n.props.length
   have hpl:=jU.pl;rw[hpn]at hpl d4 fU bW;have dY:=ah hpn
   have AZ:=ah (J3 (f:=Gr.R.props) hn);have og:=ah (P5 (f:=Gr.R.props) hn)
   clear bQ hbB D0 D1 D2 D3 D4 r2 jU hn hpn hk hkn hlt
   go_upto_region 12 with fail
   rw[fU.out];clear d0 d1 d2 d3 d4 c0' c1';obtain⟨k0,k1,k2,k3,k4⟩:=cells5 bW.out
   go_wp2_with fail
   go_loopg [41] pn (fun q x wx=> ∃(j:Nat) (pre:List gB),x=.int .i64 j/\j+q=pn/\J pre wx/\pre.map gB.p=g.nodes.flatMap Gr.N.props ++(g.aA.take k).flatMap Gr.R.props++n.props.take j/\W1.heap.size<=wx.heap.size)
   case atStart=>exact⟨0,pre,rfl,by omega,HJ.out _ _ _ zL.out jE.out,by rw[Ji.out];simp,by rw[<-fU.out];simp;omega⟩
   obtain⟨j,pre',rfl,hj,hjj,hpre',hsz'⟩:=hrel;have MH:=ah hjj;have Gn:=ah hpre'
   have WJ:=ah hj;have uK:=ah (HX.out _ _ hjj).1;clear hjj hpre';cases gk with
   |succ q'=>
    have hjn:j<pn:=by omega
    have Az:(j:Int)<pn:=by omega
    obtain⟨p,hp⟩: ∃p,n.props[j]?=some p:=⟨_,dF (by rw[dY.out];exact hjn)⟩
    obtain⟨b',o',nK,lF,nM,lG,rfl,D9,⟨E0,E1,E2,E3,E4,E5⟩,q1,q2⟩:=BD.prop hp
    have hlt':b'<B:=D9;obtain⟨z,hz⟩:=aj (⟨p.key.toArray⟩:ByteArray)
    obtain⟨zt,dU⟩:=aj (⟨p.val.text.toArray⟩:ByteArray)
    have pq:ST p.key=.string z:=by unfold ST;rw[hz]
    have Gp:ST p.val.text=.string zt:=by unfold ST;rw[dU]
    rw[pq]at E0;rw[Gp]at E3;clear hz dU
    have e0:=(uK.cell (p:=⟨b',o'+j*6,none⟩) hlt').trans E0
    have e1:=(uK.cell (p:=⟨b',o'+j*6+1,none⟩) hlt').trans E1
    have e2:=(uK.cell (p:=⟨b',o'+j*6+2,none⟩) hlt').trans E2
    have e3:=(uK.cell (p:=⟨b',o'+j*6+3,none⟩) hlt').trans E3
    have e4:=(uK.cell (p:=⟨b',o'+j*6+4,none⟩) hlt').trans E4
    have e5:=(uK.cell (p:=⟨b',o'+j*6+5,none⟩) hlt').trans E5
    obtain⟨WY,yx⟩:=aj (wr.alloc (.cells #[.string z,.int .i64 p.val.kind,.int .i64 p.val.num,.string zt,.slice nK p.val.nums.length lF,.slice nM p.val.texts.length lG] 39))
    have hsame:aT T W1.heap.size wr WY:=by rw[<-yx];exact(aT.refl _ _ _).alloc _
    have hky:au WY wr.heap.size 39 #[.string z,.int .i64 p.val.kind,.int .i64 p.val.num,.string zt,.slice nK p.val.nums.length lF,.slice nM p.val.texts.length lG]:=by rw[<-yx];exact au.new _ _ _
    have hstep:UR Ws B ALL pre' ⟨p,nK,lF,nM,lG⟩:=by
     refine⟨?_,q1,q2⟩;rw[ad8,WI.out,og.out];rw[<-aeG];exact abK Gn.out hp
    obtain⟨fn,tmps,assign,body,hy,Gq⟩:=HY.out pre' ⟨p,nK,lF,nM,lG⟩ wr WY MH.out hsame trivial hstep
    simp only[Fg,gB.cells,pq,Gp]at hy Gq;clear pq Gp
    have Dz:=ah (show(Instr.yield l #[.agg #[.string z,.int .i64 p.val.kind,.int .i64 p.val.num,.string zt,.slice nK p.val.nums.length lF,.slice nM p.val.texts.length lG]]).run Tryz.prog WY=.ok (.round l fn tmps assign body) WY from hy)
    have iJ:=ah Gq;have WL:=ah yx;have WM:=ah hky;have iG:=ah (IC hp)
    have hzy:WY.heap.size=wr.heap.size+1:=by rw[<-yx];simp
    have KG:=ah hzy
    clear yx hsame hky hstep hy Gq q1 q2 D9 E0 E1 E2 E3 E4 E5 hlt' hp hjn hj hzy
    go_upto_region 15 with(fail)
    rw[show wr.alloc (.cells #[.string z,.int .i64 p.val.kind,.int .i64 p.val.num,.string zt,.slice nK p.val.nums.length lF,.slice nM p.val.texts.length lG] 39)=WY from WL.out]
    clear e0 e1 e2 e3 e4 e5;obtain⟨e0,e1,e2,e3,e4,e5⟩:=FV WM.out;have hy':=Dz.out
    refine(wpIn_wide (n:=8)).1 ?_
    gi_wp2
    refine iJ.mono ?_;rintro e W' (⟨rfl,hj,hk⟩|⟨rfl,hf⟩)
    ·have WO:=ah hj
     have hzw:=hk.size;rw[KG.out]at hzw;clear hk hj hy' e0 e1 e2 e3 e4 e5
     gi_wp2
     go_wp2
     go_roundg q'
     case measure=>omega
     exact⟨j+1,_,int_eq (by omega),by have:=WJ.out;omega,WO.out,by rw[ad8,Gn.out,iG.out,aeG];rfl,by omega⟩
    clear hy'
    gi_wp2
    go_wp2;refine bodyPost_ret (results_none rfl _ _ _) rfl ?_;exact⟨⟨_,rfl⟩,hf⟩
   |zero=>
    obtain rfl:j=pn:=by omega
    have hfin:n.props.take j=n.props:=ado (by rw[dY.out];exact ac4 _)
    have hpx:=Gn.out;rw[hfin]at hpx;have xR:=ah hpx;clear hfin hpx hj;go_wp2
    go_roundg q
    case measure=>omega
    exact⟨k+1,pre',int_eq (by omega),by have:=HK.out;omega,MH.out,by rw[xR.out,AZ.out,aeG],hsz'⟩
  |zero=>
   obtain rfl:k=rn:=by omega
   have hfin:g.aA.take k=g.aA:=ado (by rw[fP.out];exact ac4 _)
   have hpx:=Ji.out;rw[hfin,<-WI.out]at hpx;have iF:=ah (HE.out _ _ zL.out hpx)
   clear hfin hpx hk;go_wp2
   go_end0
   exact⟨⟨_,rfl⟩,iF.out⟩
end Go.Proofs.YtkdakckjafomhaaGreatDoor
namespace Go.Proofs.YtkdakckjafomhaaGreatDoor
open Go.RowKit
def vC (w w':World):Prop:= ∀(g:Nat) (t:TypeId) (cs:Array Value),au w g t cs->t≠5->au w' g t cs
theorem vC.refl (w:World):vC w w:=fun _ _ _ h _=>h
theorem vC.trans {a b c:World} (h:vC a b) (k:vC b c):vC a c:=fun g t cs hb hne=>k g t cs (h g t cs hb hne) hne
theorem vC.of_append {w w':World} {B n:Nat} {v:Value} {xs:List Value} (h:w.ownsRow B 5 1 v n xs) (hg:w.grownBy w' v.ownBlock):vC w w':=fun g t cs hb hne=>hb.grown hg (fun e=>ES h hb hne.symm e.symm)
theorem UW:(Tryz.prog.info? 5).map (fun i=>(i.zero,i.size,i.bytes))=some (some (.int .u8 0),1,1):=by kernel_rfl
theorem akG (B:Nat) (A:Option Addr) (c n width:Nat) (x:Nat) (xs:List Value) (w:World) (hw:width<=8) (h:w.ownsRow B 5 1 (.slice A n c) n xs) (h1: ∀u∈xs,u.oneCell'=true) (hn:n<=1073741000) (hB:B<=w.heap.size) (hx:x<18446744073709551616):
  Calls Tryz.prog 222 #[.slice A n c,.int .i64 (width:Int),.int .u64 (x:Int)] w fun e w'=> ∃A' c' xs',e=.returned (.slice A' (n+width) c')/\w'.ownsRow B 5 1 (.slice A' (n+width) c') (n+width) xs'/\Below B w w'/\vC w w'/\ ∀u∈xs',u.oneCell'=true:=by
 have H:=ah h;have vV:=ah h1;clear h1;have hwi:(width:Int)<=8:=by omega
 have HX:=ah hx;clear h hx;go_enter Tryz.func222,Tryz.ntmps222;go_wp2_with fail
 go_loopg [0,7] width (fun g v s wr=> ∃(k:Nat) (A':Option Addr) (c':Nat) (xs':List Value),v=.slice A' (n+k) c'/\s=.int .i64 (8*(g:Int) - 8)/\k+g=width/\wr.ownsRow B 5 1 (.slice A' (n+k) c') (n+k) xs'/\Below B w wr/\vC w wr/\ ∀u∈xs',u.oneCell'=true)
 case atStart=>exact⟨0,A,c,xs,rfl,int_eq (by omega),by omega,H.out,Below.refl _ _,vC.refl _,vV.out⟩
 obtain⟨k,A',c',xs',rfl,rfl,hk,ho,hb,hkp,h1⟩:=hrel;have H1:=ah h1;clear h1;have HO:=ah ho
 have HB:=ah hb;have HKP:=ah hkp;have HK:=ah hk;clear ho hb hkp;cases gk with
 |zero=>
  obtain rfl:k=width:=by omega
  clear hk;go_wp2;go_ret;exact⟨A',c',xs',rfl,HO.out,HB.out,HKP.out,H1.out⟩
 |succ g=>
  have hs:(8*((g+1:Nat):Int) - 8)=((8*g:Nat):Int):=by omega
  rw[hs];obtain⟨s,hs'⟩:=aj (8*g);rw[hs'];have hsi:(s:Int)<=64:=by omega
  have hs0:(0:Int)<=s:=by omega
  have t0:decide ((0:Int)<=s)=true:=adb hs0;have HS:=ah hs';clear hs hs' hk
  have hnk:n+k<1073741824:=by have:=HK.out;omega
  have hBr:B<=wr.heap.size:=adg hB HB.size
  go_wp2_with (at_builtin;refine fD rfl (.tmp 15) (.tmp 20) 124 5 (.int .u8 0) 1 Tryz.underlying124 UW rfl (by decide) rfl B (.slice A' (n+k) c') (n+k) xs' wr rfl HO.out (.int .u8 ((x:Int) / 2 ^ s % 256)) rfl rfl hnk hBr ?_)
  intro v9 w9 aJ bI dD aB;obtain⟨A9,c9,rfl⟩:=aF aJ;have fJ:=ah aJ
  have bg:=ah (HB.trans aB);have anK:=ah (HKP.trans (vC.of_append HO.out bI))
  clear aJ bI dD aB hnk hBr;go_wp2
  go_roundg g
  case measure=>omega
  exact⟨k+1,A9,c9,_,rfl,int_eq (by have:=HS.out;omega),by have:=HK.out;omega,fJ.out,bg.out,anK.out,fun u hu=>by rcases aem.1 hu with h|h;exact H1.out u h;rw[ael.1 h];rfl⟩
structure rE (W:World) (B bw n:Nat):Prop where
 ex: ∃A c xs,au W bw 271 #[.slice A n c]/\W.ownsRow B 5 1 (.slice A n c) n xs/\ ∀u∈xs,u.oneCell'=true
 lo:B<=bw
theorem akH (n:Nat) (w:World) (hn:n=1\/n=2\/n=8):Calls Tryz.prog 221 #[.int .i64 (n:Int)] w fun e w'=>e=.returned (.bool true)/\w=w':=by
 rcases hn with rfl|rfl|rfl<;>
 ·go_enter Tryz.func221,Tryz.ntmps221
  go_wp2;go_ret;exact⟨rfl,rfl⟩
theorem J4 (B bw n width x:Nat) (w:World) (h:rE w B bw n) (hw:width=1\/width=2\/width=8) (hn:n<=1073741000) (hB:B<=w.heap.size) (hx:x<18446744073709551616):
  Calls Tryz.prog 183 #[.pointer (some ⟨bw,0,none⟩),.int .i64 (width:Int),.int .u64 (x:Int)] w fun e w'=>e=.returned (.tuple #[])/\rE w' B bw (n+width)/\Below B w w':=by
 obtain⟨A,c,xs,h1,h2,h3⟩:=h.ex;have HI:=ah (akH width w hw)
 have HL:=ah (akG B A c n width x xs w (by omega) h2 h3 hn hB hx)
 have hc:=h1.cell 0;simp only[adE,adn]at hc;have kF:=ah h.lo;have H3:=ah h3
 have H1:=ah h1;clear h h1 h2 h3 hw hx hn;go_enter Tryz.func183,Tryz.ntmps183
 go_wp2_with fail;refine HI.mono ?_;rintro e w1 ⟨rfl,rfl⟩;go_wp2_with fail
 refine HL.mono ?_;rintro e w2 ⟨A',c',xs',rfl,ho,hb,hk,h1'⟩
 have k2:=hk _ _ _ H1.out (by decide)
 have hc2:=k2.cell 0;simp only[adE,adn]at hc2;have hf2:=k2.frozen 0
 have hres:rE (w2.setCell ⟨bw,0,none⟩ (.slice A' (n+width) c')) B bw (n+width):=by
  refine⟨⟨A',c',xs',(k2.bP 0 _).cast (by simp), ?_,h1'⟩,kF.out⟩
  exact aW ho (row:=some bw) (wQ (mO _ _) (.inl rfl) _) (fun g cc t fz e1 e2=>by
   cases e1;have:=k2.symm.trans e2
   injection this with this
   injection this with _ ht
   rw[<-ht];decide)
 have kD:=ah hres
 have yA:=ah (hb.setCell (p:=⟨bw,0,none⟩) kF.out (.slice A' (n+width) c'))
 clear ho hb hk k2 hres hc h1';go_wp2
 go_end0
 exact⟨rfl,kD.out,yA.out⟩
theorem akI (B bw n:Nat) (z:ByteArray) (w:World) (h:rE w B bw n) (hz:z.size<=1073741) (hn:n<=1073741000) (hB:B<=w.heap.size):
  Calls Tryz.prog 223 #[.pointer (some ⟨bw,0,none⟩),.string z] w fun e w'=>e=.returned (.tuple #[])/\rE w' B bw (n+z.size)/\Below B w w':=by
 obtain⟨A,c,xs,h1,h2,h3⟩:=h.ex;obtain⟨i0,hi,hz0,hz1,hz2⟩:=info_parts UW
 have hc:=h1.cell 0;simp only[adE,adn]at hc;have kF:=ah h.lo;have H3:=ah h3
 have H1:=ah h1;have H2:=ah h2;have hsz:n+z.size<=140737488355328:=by omega
 have hml:n+z.size<=maxLen:=by unfold maxLen;omega
 have fF:=ah hsz;have BF:=ah hml;clear h h1 h2 h3 hz hn hsz hml
 go_enter Tryz.func223,Tryz.ntmps223
 go_wp2_with (at_builtin;refine Lib.wpList_append_own_string w rfl (.tmp 8) (.tmp 9) 124 9 rfl B 5 i0 Tryz.underlying124 Tryz.underlying9 hi hz0 hz1 hz2 (.slice A n c) n xs rfl H2.out z rfl BF.out fF.out hB ?_)
 intro v9 w9 aJ bI dD;obtain⟨A9,c9,rfl⟩:=aF aJ
 have k2:=H1.grown bI (fun e=>ES H2.out H1.out (by decide) e.symm)
 have hb:Below B w w9:=(Below.refl B w).grown bI hB (fun j e=>(H2.lt j e).1)
 have hc2:=k2.cell 0;simp only[adE,adn]at hc2;have hf2:=k2.frozen 0
 have hres:rE (w9.setCell ⟨bw,0,none⟩ (.slice A9 (n+z.size) c9)) B bw (n+z.size):=by
  refine⟨⟨A9,c9,xs++Lib.strCells z,(k2.bP 0 _).cast (by simp), ?_,fun u hu=>by rcases aem.1 hu with h|h;exact H3.out u h;exact Lib.strCells_oneCell z u h⟩,kF.out⟩
  exact aW aJ (row:=some bw) (wQ (mO _ _) (.inl rfl) _) (fun g cc t fz e1 e2=>by
   cases e1;have:=k2.symm.trans e2
   injection this with this
   injection this with _ ht
   rw[<-ht];decide)
 have kD:=ah hres
 have yA:=ah (hb.setCell (p:=⟨bw,0,none⟩) kF.out (.slice A9 (n+z.size) c9))
 clear aJ bI dD hb k2 hres hc;go_wp2
 go_end0
 exact⟨rfl,kD.out,yA.out⟩
theorem UY (B bw n:Nat) (w:World) (h:rE w B bw n) (hn:n<=1073741824):
  Calls Tryz.prog 186 #[.pointer (some ⟨bw,0,none⟩)] w fun e w'=> ∃A' c',e=.returned (.slice A' n c')/\Below w.heap.size w w':=by
 obtain⟨A,c,xs,h1,h2,h3⟩:=h.ex;have hc:=h1.cell 0;simp only[adE,adn]at hc
 have HC:=ah (akj w.heap.size A c n xs w (Reads.dI h2) h3 hn (ac4 _));clear h h1 h2 h3 hn
 go_enter Tryz.func186,Tryz.ntmps186;go_wp2_with fail;refine HC.mono ?_
 rintro e w2 ⟨v,rfl,ho,hb⟩;obtain⟨A',c',rfl⟩:=aF ho;clear ho;go_wp2;go_ret
 exact⟨A',c',rfl,hb⟩
theorem akJ (w:World):Calls Tryz.prog 182 #[] w fun e w'=>e=.returned (.pointer (some ⟨w.heap.size,0,none⟩))/\rE w' w.heap.size w.heap.size 0/\Below w.heap.size w w':=by
 go_enter Tryz.func182,Tryz.ntmps182;go_wp2;go_ret
 exact⟨rfl,⟨⟨none,0,[],au.new _ _ _,World.ownsRow_nil _ _ _ _,fun u hu=>by cases hu⟩,ac4 _⟩,(Below.refl _ _).alloc (ac4 _) _⟩
end Go.Proofs.YtkdakckjafomhaaGreatDoor
