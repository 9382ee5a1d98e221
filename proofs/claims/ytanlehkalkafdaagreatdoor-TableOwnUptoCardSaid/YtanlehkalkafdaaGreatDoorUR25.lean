/- Contracts and plain laws,part 25. -/
import Derived.Test.YtanlehkalkafdaaGreatDoorUR22
import Derived.Lib.AppendStr
set_option maxHeartbeats 64000000
set_option maxRecDepth 1000000
set_option linter.all false
namespace Go.Proofs.YtanlehkalkafdaaGreatDoor
open Go.RowKit
theorem Lst.node {W:World} {B:Nat} {A:Option Addr} {l:List Gr.N} (h:Lst W B 3 (NodeC W B) A l) {k:Nat} {n:Gr.N} (hk:l[k]?=some n): ∃b o Al cl Ap cp,A=some ⟨b,o,none⟩/\b<B/\
  (W.cell? ⟨b,o+k*3,none⟩=some (.int .i64 n.id)/\W.cell? ⟨b,o+k*3+1,none⟩=some (.slice Al n.labels.length cl)/\W.cell? ⟨b,o+k*3+2,none⟩=some (.slice Ap n.props.length cp))/\
  Reads W B 1 Al n.labels.length (n.labels.map ST)/\Lst W B 6 (PropC W B) Ap n.props:=by
 obtain⟨b,o,cs,hA,hb,⟨Al,cl,Ap,cp,rfl,h1,h2⟩,-,hc⟩:=h k n hk
 exact⟨b,o,Al,cl,Ap,cp,hA,hb,⟨hc 0 _ rfl,hc 1 _ rfl,hc 2 _ rfl⟩,h1,h2⟩
theorem checkNode_any (B:Nat) (A:Option Addr) (c:Nat) (ns:List Gr.N) (k:Nat) (n:Gr.N) (w:World) (h:Lst w B 3 (NodeC w B) A ns) (hB:B<=w.heap.size) (hl:ns.length<=1073741824) (hs: ∀n∈ns,NOk n) (hk:ns[k]?=some n):
  Calls Tryz.prog 45 #[.slice A ns.length c,.int .i64 (k:Int)] w fun e w'=>e=.returned (.int .i64 (Gr.nodeWrong (Gr.prevAt Gr.N.id ns k) n:Nat))/\Below w.heap.size w w':=by
 obtain⟨R,hR⟩:=aj (Gr.nodeWrong (Gr.prevAt Gr.N.id ns k) n);rw[hR]
 unfold Gr.nodeWrong at hR;have hok:=hs n (sK hk);have hkl:k<ns.length:=(rZ.1 hk).1
 obtain⟨m,hm⟩:=aj ns.length;rw[hm]at hl hkl⊢
 obtain⟨b,o,Al,cl,Ap,cp,rfl,hbB,⟨c0,c1,c2⟩,r1,r2⟩:=h.node hk;obtain⟨id0,ls0,ps0⟩:=n
 simp only at hR c0 c1 c2 r1 r2
 obtain⟨W1,hW1⟩:=aj (w.alloc (.cells #[.int .i64 id0,.slice Al ls0.length cl,.slice Ap ps0.length cp] 48))
 have hb1:Below w.heap.size w W1:=by rw[<-hW1];exact(Below.refl _ w).alloc (rM _) _
 have k1:Blk W1 w.heap.size 48 #[.int .i64 id0,.slice Al ls0.length cl,.slice Ap ps0.length cp]:=by rw[<-hW1];exact Blk.new _ _ _
 have HD:=ah (cells3 k1);have hBm:=hb1.mono hB
 have HLB:=ah (fun(q:Nat)=>checkLabels_any B Al cl ls0 (W1.drewN q) ((r1.below hBm).below (below_drewN (Below.refl B W1) q)) hok.ll hok.ls)
 have HPR:=ah (fun(q:Nat)=>checkProps_any B Ap cp ps0 (W1.drewN q) ((r2.below hBm (PropC.below hBm)).below (below_drewN (Below.refl B W1) q) (PropC.below (below_drewN (Below.refl B W1) q))) (rV hB hb1.size) hok.pl hok.ps)
 obtain⟨LV,hLV⟩:=aj (Gr.labelsWrong ls0);obtain⟨PV,hPV⟩:=aj (Gr.propsWrong ps0)
 rw[hLV]at HLB hR;rw[hPV]at HPR hR
 have HQ:Hid (∀(j:Nat) (q:Gr.N),ns[j]?=some q->W1.cell? ⟨b,o+j*3,none⟩=some (.int .i64 q.id)):=fun j q hq=>by
  obtain⟨b',o',_,_,_,_,he,hlt,⟨e0,-⟩,-⟩:=h.node hq
  injection he with he
  injection he with he1 he2
  subst he1;subst he2;exact(hBm.cell (by exact hlt)).trans e0
 have HB1:=ah hb1;have HW1:=ah hW1;have HU:=ah undef_nil;have HM:=ah hm
 have hkI:(k:Int)<m:=by omega
 obtain⟨x1,hx1⟩:=aj (decide (id0<0));obtain⟨x2,hx2⟩:=aj (decide ((1024:Int)<=id0))
 clear hW1 hb1 k1 hBm hLV hPV h r1 r2 hk hs hok hm hbB;go_enter Tryz.func45,Tryz.ntmps45
 go_upto_region 2 with fail
 rw[HW1.out];clear c0 c1 c2 HW1;obtain⟨d0,d1,d2⟩:=HD.out;have hu:=HU.out;cases x1 with
 |true=>
  have hi:=sQ hx1;rw[rY (.inl hi)]at hR;subst hR;clear HLB HPR HQ;go_wp2;go_ret
  exact⟨rfl,HB1.out⟩
 |false=>
  have hi:=sO hx1;have hi':0<=id0:=by omega
  cases x2 with
  |true=>
   have hj:=sQ hx2;rw[rY (.inr hj)]at hR;subst hR;clear HLB HPR HQ;go_wp2;go_ret
   exact⟨rfl,HB1.out⟩
  |false=>
   have hj:=sO hx2;have hj':id0<1024:=by omega
   rw[rU (by omega)]at hR
   have HR:=ah hR;clear hi hj hR;by_cases h0:k=0
   ·have hk0:(k:Int)<=0:=by omega
    have tk:decide (0<k)=false:=rO (by omega)
    have hpv:Gr.prevAt Gr.N.id ns k=none:=by subst h0;rfl
    have hr2:=HR.out;rw[hpv,rU (by simp)]at hr2
    have HT:=ah (show LV≠0->R=LV from fun h=>by rw[<-hr2,rY h])
    have HT2:=ah (show LV=0->R=PV from fun h=>by rw[<-hr2,rU (by omega)])
    clear h0 hpv hr2
    go_upto_region 4 with fail
    go_quiet (fail)
    go_wp2_with fail;cases LV with
    |succ e=>
     have hr:=HT.out (by omega)
     have HRR:=ah hr;have hne:(((e+1:Nat):Int) !=0)=true:=by rw[tH];omega
     clear hr HPR;refine(HLB.out nq).mono ?_;rintro e w2 ⟨rfl,rfl⟩;go_wp2;go_ret
     exact⟨by rw[HRR.out];rfl,below_drewN HB1.out nq⟩
    |zero=>
     have hr:=HT2.out rfl;have HRR:=ah hr;clear hr;refine(HLB.out nq).mono ?_
     rintro e w2 ⟨rfl,rfl⟩;obtain⟨d0,d1,d2⟩:=HD.out;go_wp2_with fail
     refine(HPR.out nq).mono ?_;rintro e w3 ⟨rfl,hb3⟩
     have HB3:=ah (bel_next (below_drewN HB1.out nq) hb3);clear hb3;go_wp2;go_ret
     exact⟨by rw[HRR.out];rfl,HB3.out⟩
   obtain⟨m',hm'⟩: ∃m',k=m'+1:=⟨k - 1,by omega⟩
   have tk:decide (0<k)=true:=rQ (by omega)
   have hkp:(0:Int)<k:=by omega
   have hsub:(k:Int) - 1=(m':Int):=by omega
   have hmn:(m':Int)<m:=by omega
   obtain⟨q,hq⟩: ∃q,ns[m']?=some q:=⟨_,ay (by have:=HM.out;omega)⟩
   have e0:=HQ.out m' q hq
   have hpv:Gr.prevAt Gr.N.id ns k=some q.id:=by rw[hm'];show ns[m']?.map Gr.N.id=_;rw[hq];rfl
   have hr2:=HR.out;rw[hpv]at hr2;obtain⟨y,hy⟩:=aj q.id;rw[hy]at e0 hr2
   clear h0 hq hpv hm' hy;by_cases hle:id0<=y
   ·have tl:decide (id0<=y)=true:=rQ hle
    have hr:R=6:=by rw[<-hr2,rY (by simpa using hle)]
    have HRR:=ah hr;clear hr hr2 HLB HPR
    go_upto_region 4 with fail
    go_quiet (fail)
    go_wp2;go_ret;exact⟨by rw[HRR.out];rfl,below_drewN HB1.out nq⟩
   have tl:decide (id0<=y)=false:=rO hle;have hle':y<id0:=by omega
   rw[rU (by simpa using hle)]at hr2
   have HT:=ah (show LV≠0->R=LV from fun h=>by rw[<-hr2,rY h])
   have HT2:=ah (show LV=0->R=PV from fun h=>by rw[<-hr2,rU (by omega)])
   clear hr2 hle
   go_upto_region 4 with fail
   go_quiet (fail)
   go_wp2_with fail;cases LV with
   |succ e=>
    have hr:=HT.out (by omega)
    have HRR:=ah hr;have hne:(((e+1:Nat):Int) !=0)=true:=by rw[tH];omega
    clear hr HPR;refine(HLB.out nq).mono ?_;rintro e w2 ⟨rfl,rfl⟩;go_wp2;go_ret
    exact⟨by rw[HRR.out];rfl,below_drewN HB1.out nq⟩
   |zero=>
    have hr:=HT2.out rfl;have HRR:=ah hr;clear hr;refine(HLB.out nq).mono ?_
    rintro e w2 ⟨rfl,rfl⟩;obtain⟨d0,d1,d2⟩:=HD.out;go_wp2_with fail
    refine(HPR.out nq).mono ?_;rintro e w3 ⟨rfl,hb3⟩
    have HB3:=ah (bel_next (below_drewN HB1.out nq) hb3);clear hb3;go_wp2;go_ret
    exact⟨by rw[HRR.out];rfl,HB3.out⟩
theorem Lst.rel {W:World} {B:Nat} {A:Option Addr} {l:List Gr.R} (h:Lst W B 5 (RelC W B) A l) {k:Nat} {r:Gr.R} (hk:l[k]?=some r): ∃b o Ap cp,A=some ⟨b,o,none⟩/\b<B/\
  (W.cell? ⟨b,o+k*5,none⟩=some (.int .i64 r.id)/\W.cell? ⟨b,o+k*5+1,none⟩=some (ST r.type)/\W.cell? ⟨b,o+k*5+2,none⟩=some (.int .i64 r.src)/\W.cell? ⟨b,o+k*5+3,none⟩=some (.int .i64 r.dst)/\W.cell? ⟨b,o+k*5+4,none⟩=some (.slice Ap r.props.length cp))/\
  Lst W B 6 (PropC W B) Ap r.props:=by
 obtain⟨b,o,cs,hA,hb,⟨Ap,cp,rfl,h2⟩,-,hc⟩:=h k r hk
 exact⟨b,o,Ap,cp,hA,hb,⟨hc 0 _ rfl,hc 1 _ rfl,hc 2 _ rfl,hc 3 _ rfl,hc 4 _ rfl⟩,h2⟩
theorem checkRel_any (B:Nat) (A:Option Addr) (c:Nat) (rs:List Gr.R) (k:Nat) (r:Gr.R) (mb:Nat) (ids:List Int) (w:World) (h:Lst w B 5 (RelC w B) A rs) (hB:B<=w.heap.size) (hl:rs.length<=1073741824) (hs: ∀r∈rs,ROk r) (hk:rs[k]?=some r) (hmb:CntI w mb ids):
  Calls Tryz.prog 46 #[.slice A rs.length c,.int .i64 (k:Int),.map (some mb)] w fun e w'=>e=.returned (.int .i64 (Gr.relWrong ids (Gr.prevAt Gr.R.id rs k) r:Nat))/\Below w.heap.size w w':=by
 obtain⟨R,hR⟩:=aj (Gr.relWrong ids (Gr.prevAt Gr.R.id rs k) r);rw[hR]
 unfold Gr.relWrong at hR;have hok:=hs r (sK hk);have hkl:k<rs.length:=(rZ.1 hk).1
 obtain⟨m,hm⟩:=aj rs.length;rw[hm]at hl hkl⊢
 obtain⟨b,o,Ap,cp,rfl,hbB,⟨c0,c1,c2,c3,c4⟩,r2⟩:=h.rel hk
 obtain⟨id0,ty0,src0,dst0,ps0⟩:=r;simp only at hR c0 c1 c2 c3 c4 r2
 obtain⟨z,hz⟩:=aj (⟨ty0.toArray⟩:ByteArray);have hzd:z.data.toList=ty0:=by rw[<-hz]
 unfold ST at c1;rw[hz]at c1
 obtain⟨W1,hW1⟩:=aj (w.alloc (.cells #[.int .i64 id0,.string z,.int .i64 src0,.int .i64 dst0,.slice Ap ps0.length cp] 55))
 have hb1:Below w.heap.size w W1:=by rw[<-hW1];exact(Below.refl _ w).alloc (rM _) _
 have k1:Blk W1 w.heap.size 55 #[.int .i64 id0,.string z,.int .i64 src0,.int .i64 dst0,.slice Ap ps0.length cp]:=by rw[<-hW1];exact Blk.new _ _ _
 have HD:=ah (cells5 k1);have hBm:=hb1.mono hB;have hgn:=goodName_any z;rw[hzd]at hgn
 have HGN:=ah (fun(W:World)=>hgn W (by rw[Lib.size_eq,hzd];exact hok.tl))
 have HPR:=ah (fun(q:Nat)=>checkProps_any B Ap cp ps0 (W1.drewN q) ((r2.below hBm (PropC.below hBm)).below (below_drewN (Below.refl B W1) q) (PropC.below (below_drewN (Below.refl B W1) q))) (rV hB hb1.size) hok.pl hok.ps)
 obtain⟨GV,hGV⟩:=aj (Gr.goodName ty0);obtain⟨PV,hPV⟩:=aj (Gr.propsWrong ps0)
 rw[hGV]at HGN hR;rw[hPV]at HPR hR;have hcm:=hmb.below hb1
 have HL1:=ah (fun(q:Nat)=>(show CntI (W1.drewN q) mb ids from⟨hcm.ex⟩).look (t:=90) Tryz.underlying90 hok.src)
 have HL2:=ah (fun(q:Nat)=>(show CntI (W1.drewN q) mb ids from⟨hcm.ex⟩).look (t:=90) Tryz.underlying90 hok.dst)
 have hc1:ids.count src0=0↔src0∉ids:=List.count_eq_zero
 have hc2:ids.count dst0=0↔dst0∉ids:=List.count_eq_zero
 obtain⟨n1,hn1⟩:=aj (ids.count src0);obtain⟨n2,hn2⟩:=aj (ids.count dst0)
 rw[hn1]at HL1 hc1;rw[hn2]at HL2 hc2;have HC1:=ah hc1;have HC2:=ah hc2
 have HQ:Hid (∀(j:Nat) (q:Gr.R),rs[j]?=some q->W1.cell? ⟨b,o+j*5,none⟩=some (.int .i64 q.id)):=fun j q hq=>by
  obtain⟨b',o',_,_,he,hlt,⟨e0,-⟩,-⟩:=h.rel hq
  injection he with he
  injection he with he1 he2
  subst he1;subst he2;exact(hBm.cell (by exact hlt)).trans e0
 have HB1:=ah hb1;have HW1:=ah hW1;have HU:=ah undef_nil;have HM:=ah hm
 have hkI:(k:Int)<m:=by omega
 obtain⟨x1,hx1⟩:=aj (decide (id0<0));obtain⟨x2,hx2⟩:=aj (decide ((2048:Int)<=id0))
 clear hW1 hb1 k1 hBm hGV hPV h r2 hk hs hok hm hbB hmb hcm hc1 hc2 hn1 hn2 hgn hz hzd
 go_enter Tryz.func46,Tryz.ntmps46
 go_upto_region 2 with fail
 rw[HW1.out];clear c0 c1 c2 c3 c4 HW1;obtain⟨d0,d1,d2,d3,d4⟩:=HD.out;have hu:=HU.out
 cases x1 with
 |true=>
  have hi:=sQ hx1;rw[rY (.inl hi)]at hR;subst hR;clear HGN HPR HQ;go_wp2;go_ret
  exact⟨rfl,HB1.out⟩
 |false=>
  have hi:=sO hx1;have hi':0<=id0:=by omega
  cases x2 with
  |true=>
   have hj:=sQ hx2;rw[rY (.inr hj)]at hR;subst hR;clear HGN HPR HQ;go_wp2;go_ret
   exact⟨rfl,HB1.out⟩
  |false=>
   have hj:=sO hx2;have hj':id0<2048:=by omega
   rw[rU (by omega)]at hR
   have HR:=ah hR;clear hi hj hR;by_cases h0:k=0
   ·have hk0:(k:Int)<=0:=by omega
    have tk:decide (0<k)=false:=rO (by omega)
    have hpv:Gr.prevAt Gr.R.id rs k=none:=by subst h0;rfl
    have hr2:=HR.out;rw[hpv,rU (by simp)]at hr2
    have HT:=ah hr2;clear h0 hpv hr2
    go_upto_region 4 with fail
    go_quiet (fail)
    go_wp2_with fail;refine(HGN.out _).mono ?_;rintro e w2 ⟨rfl,rfl⟩;cases GV with
    |false=>
     have hr:=HT.out;rw[rY rfl]at hr;subst hr;clear HPR;go_wp2;go_ret
     exact⟨rfl,below_drewN HB1.out nq⟩
    |true=>
     have hr:=HT.out;rw[rU (by decide)]at hr
     have l1:=HL1.out nq;have l2:=HL2.out nq;by_cases h1:n1=0
     ·have t1:((n1:Int) == 0)=true:=uw.2 (by omega)
      rw[rY (.inl (HC1.out.1 h1))]at hr;subst hr;clear HPR h1;go_wp2;go_ret
      exact⟨rfl,below_drewN HB1.out nq⟩
     have t1:((n1:Int) == 0)=false:=rX.2 (by omega)
     by_cases h2:n2=0
     ·have t2:((n2:Int) == 0)=true:=uw.2 (by omega)
      rw[rY (.inr (HC2.out.1 h2))]at hr;subst hr;clear HPR h1 h2;go_wp2;go_ret
      exact⟨rfl,below_drewN HB1.out nq⟩
     have t2:((n2:Int) == 0)=false:=rX.2 (by omega)
     rw[rU (by rintro(h|h);exact h1 (HC1.out.2 h);exact h2 (HC2.out.2 h))]at hr
     subst hr;clear h1 h2;go_wp2_with fail;refine(HPR.out nq).mono ?_
     rintro e w3 ⟨rfl,hb3⟩;have HB3:=ah (bel_next (below_drewN HB1.out nq) hb3);clear hb3
     go_wp2;go_ret;exact⟨rfl,HB3.out⟩
   obtain⟨m',hm'⟩: ∃m',k=m'+1:=⟨k - 1,by omega⟩
   have tk:decide (0<k)=true:=rQ (by omega)
   have hkp:(0:Int)<k:=by omega
   have hsub:(k:Int) - 1=(m':Int):=by omega
   have hmn:(m':Int)<m:=by omega
   obtain⟨q,hq⟩: ∃q,rs[m']?=some q:=⟨_,ay (by have:=HM.out;omega)⟩
   have e0:=HQ.out m' q hq
   have hpv:Gr.prevAt Gr.R.id rs k=some q.id:=by rw[hm'];show rs[m']?.map Gr.R.id=_;rw[hq];rfl
   have hr2:=HR.out;rw[hpv]at hr2;obtain⟨y,hy⟩:=aj q.id;rw[hy]at e0 hr2
   clear h0 hq hpv hm' hy;by_cases hle:id0<=y
   ·have tl:decide (id0<=y)=true:=rQ hle
    have hr:R=6:=by rw[<-hr2,rY (by simpa using hle)]
    have HRR:=ah hr;clear hr hr2 HGN HPR
    go_upto_region 4 with fail
    go_quiet (fail)
    go_wp2;go_ret;exact⟨by rw[HRR.out];rfl,below_drewN HB1.out nq⟩
   have tl:decide (id0<=y)=false:=rO hle;have hle':y<id0:=by omega
   rw[rU (by simpa using hle)]at hr2
   have HT:=ah hr2;clear hr2 hle
   go_upto_region 4 with fail
   go_quiet (fail)
   go_wp2_with fail;refine(HGN.out _).mono ?_;rintro e w2 ⟨rfl,rfl⟩;cases GV with
   |false=>
    have hr:=HT.out;rw[rY rfl]at hr;subst hr;clear HPR;go_wp2;go_ret
    exact⟨rfl,below_drewN HB1.out nq⟩
   |true=>
    have hr:=HT.out;rw[rU (by decide)]at hr
    have l1:=HL1.out nq;have l2:=HL2.out nq;by_cases h1:n1=0
    ·have t1:((n1:Int) == 0)=true:=uw.2 (by omega)
     rw[rY (.inl (HC1.out.1 h1))]at hr;subst hr;clear HPR h1;go_wp2;go_ret
     exact⟨rfl,below_drewN HB1.out nq⟩
    have t1:((n1:Int) == 0)=false:=rX.2 (by omega)
    by_cases h2:n2=0
    ·have t2:((n2:Int) == 0)=true:=uw.2 (by omega)
     rw[rY (.inr (HC2.out.1 h2))]at hr;subst hr;clear HPR h1 h2;go_wp2;go_ret
     exact⟨rfl,below_drewN HB1.out nq⟩
    have t2:((n2:Int) == 0)=false:=rX.2 (by omega)
    rw[rU (by rintro(h|h);exact h1 (HC1.out.2 h);exact h2 (HC2.out.2 h))]at hr
    subst hr;clear h1 h2;go_wp2_with fail;refine(HPR.out nq).mono ?_
    rintro e w3 ⟨rfl,hb3⟩;have HB3:=ah (bel_next (below_drewN HB1.out nq) hb3);clear hb3
    go_wp2;go_ret;exact⟨rfl,HB3.out⟩
attribute [local go_sem] Oper.semAt_some
structure PIt where
 p:Gr.P
 An:Option Addr
 cn:Nat
 At:Option Addr
 ct:Nat
def PIt.cells (x:PIt):Array Value:= #[ST x.p.key,.int .i64 x.p.val.kind,.int .i64 x.p.val.num,ST x.p.val.text,.slice x.An x.p.val.nums.length x.cn,.slice x.At x.p.val.texts.length x.ct]
def pEnc (x:PIt):Array Value:= #[.agg x.cells]
def PIt.Rd (W:World) (B:Nat) (x:PIt):Prop:=Reads W B 1 x.An x.p.val.nums.length (x.p.val.nums.map I64)/\Reads W B 1 x.At x.p.val.texts.length (x.p.val.texts.map ST)
def PStep (W:World) (B:Nat) (l:List Gr.P) (pre:List PIt) (x:PIt):Prop:=(pre++[x]).map PIt.p <+: l/\x.Rd W B
def PEnd (l:List Gr.P) (pre:List PIt):Prop:=pre.map PIt.p=l
theorem flatMap_take {α β:Type} {l:List α} {f:α->List β} {k:Nat} {a:α} (h:l[k]?=some a):(l.take (k+1)).flatMap f=(l.take k).flatMap f++f a:=by
 rw[uM,h];simp
theorem flatMap_split {α β:Type} {l:List α} {f:α->List β} {k:Nat} {a:α} (h:l[k]?=some a):l.flatMap f=(l.take k).flatMap f ++(f a ++(l.drop (k+1)).flatMap f):=by
 obtain⟨hk,e⟩:=rZ.1 h
 conv=>lhs;rw[<-uz k l,vM,tJ hk,e,uK]
theorem list_split {α:Type} {l:List α} {k:Nat} {a:α} (h:l[k]?=some a):l=l.take k++a :: l.drop (k+1):=by
 obtain⟨hk,e⟩:=rZ.1 h
 conv=>lhs;rw[<-uz k l,tJ hk,e]
theorem prefix_step {α:Type} {pre a b:List α} {ps:List α} {j:Nat} {x:α} (h:pre=a++ps.take j) (hx:ps[j]?=some x):pre++[x] <+:(a ++(ps++b)):=by
 subst h;refine⟨ps.drop (j+1)++b, ?_⟩
 conv=>rhs;rw[list_split hx]
 simp
theorem list_take {α:Type} {l:List α} {k:Nat} {a:α} (h:l[k]?=some a):l.take (k+1)=l.take k++[a]:=by
 rw[uM,h];rfl
theorem props_iter (T n₁ B Bt:Nat) (g:Gr.G) (An Ar:Option Addr) (cn cr:Nat) (Ws:World)
  (hN:Lst Ws B 3 (NodeC Ws B) An g.nodes) (hR:Lst Ws B 5 (RelC Ws B) Ar g.rels) (hok:GOk g) (W1:World):
  IterOK Tryz.prog T n₁ 93 #[.pointer (some ⟨Bt,0,none⟩)] pEnc (fun _ _ _=>True) (PStep Ws B (Gr.allProps g)) (PEnd (Gr.allProps g)) (fun V=>Below B Ws V/\Blk V Bt 25 #[.slice An g.nodes.length cn,.slice Ar g.rels.length cr]) W1:=by
 intro l J Fin hAux hJ hY hEnd h0;refine callsIn_wide.2 ?_;have HX:=ah hAux;have HJ:=ah hJ
 have HY:=ah hY;have HE:=ah hEnd;have HJ0:=ah h0;have HN:=ah hN;have HR:=ah hR
 have HOK:=ah hok;obtain⟨nn,hnn⟩:=aj g.nodes.length;obtain⟨rn,hrn⟩:=aj g.rels.length
 have hnl:=hok.nl;have hrl:=hok.rl;rw[hnn]at HX hnl;rw[hrn]at HX hrl;have HNN:=ah hnn
 have HRN:=ah hrn;obtain⟨c0,c1⟩:=cells2 (HX.out _ _ h0).2
 have hall:Gr.allProps g=g.nodes.flatMap Gr.N.props++g.rels.flatMap Gr.R.props:=rfl
 obtain⟨ALL,hALL⟩:=aj (Gr.allProps g);rw[hALL]at HY HE hall;have HALL:=ah hall
 clear hJ hY hEnd hAux h0 hN hR hok hnn hrn hall hALL;go_enter Tryz.func93,Tryz.ntmps93
 go_wp2_with fail
 go_loopg [14] nn (fun q x wr=> ∃(k:Nat) (pre:List PIt),x=.int .i64 k/\k+q=nn/\J pre wr/\pre.map PIt.p=(g.nodes.take k).flatMap Gr.N.props/\W1.heap.size<=wr.heap.size)
 case atStart=>exact⟨0,[],rfl,by omega,HJ0.out,rfl,rM _⟩
 obtain⟨k,pre,rfl,hk,hj,hpre,hsz⟩:=hrel;have HJR:=ah hj;have HPRE:=ah hpre;have HK:=ah hk
 have HBW:=ah (HX.out _ _ hj).1;obtain⟨c0',c1'⟩:=cells2 (HX.out _ _ hj).2
 clear hj hpre c0 c1;cases gk with
 |succ q=>
  have hkn:k<nn:=by omega
  have hknI:(k:Int)<nn:=by omega
  obtain⟨n,hn⟩: ∃n,g.nodes[k]?=some n:=⟨_,ay (by rw[HNN.out];exact hkn)⟩
  obtain⟨b,o,Al,cl,Ap,cp,rfl,hbB,⟨D0,D1,D2⟩,-,r2⟩:=HN.node hn;have hlt:b<B:=hbB
  have d0:=(HBW.cell (p:=⟨b,o+k*3,none⟩) hlt).trans D0
  have d1:=(HBW.cell (p:=⟨b,o+k*3+1,none⟩) hlt).trans D1
  have d2:=(HBW.cell (p:=⟨b,o+k*3+2,none⟩) hlt).trans D2
  obtain⟨WN,hWN⟩:=aj (wr.alloc (.cells #[.int .i64 n.id,.slice Al n.labels.length cl,.slice Ap n.props.length cp] 48))
  have HWN:=ah hWN
  have HSM:=ah (show Same1 T W1.heap.size wr WN by rw[<-hWN];exact(Same1.refl _ _ _).alloc _)
  have HK1:=ah (show Blk WN wr.heap.size 48 #[.int .i64 n.id,.slice Al n.labels.length cl,.slice Ap n.props.length cp] by rw[<-hWN];exact Blk.new _ _ _)
  have HRP:=ah r2;have hnok:=HOK.ns n (sK hn);obtain⟨pn,hpn⟩:=aj n.props.length
  have hpl:=hnok.pl;rw[hpn]at hpl d2 HWN HK1;have HPN:=ah hpn
  have HFL:=ah (flatMap_take (f:=Gr.N.props) hn)
  have HSP:=ah (flatMap_split (f:=Gr.N.props) hn)
  clear hWN hbB D0 D1 D2 r2 hnok hn hpn hk hkn hlt
  go_upto_region 3 with fail
  rw[HWN.out];clear d0 d1 d2 c0' c1';obtain⟨k0,k1,k2⟩:=cells3 HK1.out;go_wp2_with fail
  go_loopg [21] pn (fun q x wx=> ∃(j:Nat) (pre:List PIt),x=.int .i64 j/\j+q=pn/\J pre wx/\pre.map PIt.p=(g.nodes.take k).flatMap Gr.N.props++n.props.take j/\W1.heap.size<=wx.heap.size)
  case atStart=>exact⟨0,pre,rfl,by omega,HJ.out _ _ _ HJR.out HSM.out,by rw[HPRE.out];simp,by rw[<-HWN.out];simp;omega⟩
  obtain⟨j,pre',rfl,hj,hjj,hpre',hsz'⟩:=hrel;have HJX:=ah hjj;have HPX:=ah hpre'
  have HJN:=ah hj;have HBX2:=ah (HX.out _ _ hjj).1;clear hjj hpre';cases gk with
  |succ q'=>
   have hjn:j<pn:=by omega
   have hjnI:(j:Int)<pn:=by omega
   obtain⟨p,hp⟩: ∃p,n.props[j]?=some p:=⟨_,ay (by rw[HPN.out];exact hjn)⟩
   obtain⟨b',o',An',cn',At',ct',rfl,hbB',⟨E0,E1,E2,E3,E4,E5⟩,q1,q2⟩:=HRP.prop hp
   have hlt':b'<B:=hbB';obtain⟨z,hz⟩:=aj (⟨p.key.toArray⟩:ByteArray)
   obtain⟨zt,hzt⟩:=aj (⟨p.val.text.toArray⟩:ByteArray)
   have hzk:ST p.key=.string z:=by unfold ST;rw[hz]
   have hztk:ST p.val.text=.string zt:=by unfold ST;rw[hzt]
   rw[hzk]at E0;rw[hztk]at E3;clear hz hzt
   have e0:=(HBX2.cell (p:=⟨b',o'+j*6,none⟩) hlt').trans E0
   have e1:=(HBX2.cell (p:=⟨b',o'+j*6+1,none⟩) hlt').trans E1
   have e2:=(HBX2.cell (p:=⟨b',o'+j*6+2,none⟩) hlt').trans E2
   have e3:=(HBX2.cell (p:=⟨b',o'+j*6+3,none⟩) hlt').trans E3
   have e4:=(HBX2.cell (p:=⟨b',o'+j*6+4,none⟩) hlt').trans E4
   have e5:=(HBX2.cell (p:=⟨b',o'+j*6+5,none⟩) hlt').trans E5
   obtain⟨WY,hWY⟩:=aj (wr.alloc (.cells #[.string z,.int .i64 p.val.kind,.int .i64 p.val.num,.string zt,.slice An' p.val.nums.length cn',.slice At' p.val.texts.length ct'] 53))
   have hsame:Same1 T W1.heap.size wr WY:=by rw[<-hWY];exact(Same1.refl _ _ _).alloc _
   have hky:Blk WY wr.heap.size 53 #[.string z,.int .i64 p.val.kind,.int .i64 p.val.num,.string zt,.slice An' p.val.nums.length cn',.slice At' p.val.texts.length ct']:=by rw[<-hWY];exact Blk.new _ _ _
   have hstep:PStep Ws B ALL pre' ⟨p,An',cn',At',ct'⟩:=by
    refine⟨?_,q1,q2⟩;rw[uf,HALL.out,HSP.out];rw[sV,sV];exact prefix_step HPX.out hp
   obtain⟨fn,tmps,assign,body,hy,hRd⟩:=HY.out pre' ⟨p,An',cn',At',ct'⟩ wr WY HJX.out hsame trivial hstep
   simp only[pEnc,PIt.cells,hzk,hztk]at hy hRd;clear hzk hztk
   have HY1:=ah (show(Instr.yield l #[.agg #[.string z,.int .i64 p.val.kind,.int .i64 p.val.num,.string zt,.slice An' p.val.nums.length cn',.slice At' p.val.texts.length ct']]).run Tryz.prog WY=.ok (.round l fn tmps assign body) WY from hy)
   have HRD:=ah hRd;have HWY:=ah hWY;have HKY:=ah hky;have HTK:=ah (list_take hp)
   have hzy:WY.heap.size=wr.heap.size+1:=by rw[<-hWY];simp
   have HZY:=ah hzy
   clear hWY hsame hky hstep hy hRd q1 q2 hbB' E0 E1 E2 E3 E4 E5 hlt' hp hjn hj hzy
   go_upto_region 6 with(fail)
   rw[show wr.alloc (.cells #[.string z,.int .i64 p.val.kind,.int .i64 p.val.num,.string zt,.slice An' p.val.nums.length cn',.slice At' p.val.texts.length ct'] 53)=WY from HWY.out]
   clear e0 e1 e2 e3 e4 e5;obtain⟨e0,e1,e2,e3,e4,e5⟩:=cells6 HKY.out;have hy':=HY1.out
   refine(wpIn_wide (n:=8)).1 ?_
   gi_wp2
   refine HRD.mono ?_;rintro e W' (⟨rfl,hj,hk⟩|⟨rfl,hf⟩)
   ·have HJW:=ah hj
    have hzw:=hk.size;rw[HZY.out]at hzw;clear hk hj hy' e0 e1 e2 e3 e4 e5
    gi_wp2
    go_wp2
    go_roundg q'
    case measure=>omega
    exact⟨j+1,_,int_eq (by omega),by have:=HJN.out;omega,HJW.out,by rw[uf,HPX.out,HTK.out,sV];rfl,by omega⟩
   clear hy'
   gi_wp2
   go_wp2;refine bodyPost_ret (results_none rfl _ _ _) rfl ?_;exact⟨⟨_,rfl⟩,hf⟩
  |zero=>
   obtain rfl:j=pn:=by omega
   have hfin:n.props.take j=n.props:=sG (by rw[HPN.out];exact rM _)
   have hpx:=HPX.out;rw[hfin]at hpx;have HPF:=ah hpx;clear hfin hpx hj;go_wp2
   go_roundg q
   case measure=>omega
   exact⟨k+1,pre',int_eq (by omega),by have:=HK.out;omega,HJX.out,by rw[HPF.out,HFL.out],hsz'⟩
 |zero=>
  obtain rfl:k=nn:=by omega
  have hfin:g.nodes.take k=g.nodes:=sG (by rw[HNN.out];exact rM _)
  have hpx:=HPRE.out;rw[hfin]at hpx;have HPF:=ah hpx;clear hfin hpx hk;go_wp2_with fail
  go_loopg [34] rn (fun q x wr=> ∃(k:Nat) (pre:List PIt),x=.int .i64 k/\k+q=rn/\J pre wr/\pre.map PIt.p=g.nodes.flatMap Gr.N.props ++(g.rels.take k).flatMap Gr.R.props/\W1.heap.size<=wr.heap.size)
  case atStart=>exact⟨0,pre,rfl,by omega,HJR.out,by rw[HPF.out];simp,hsz⟩
  clear c0' c1' hsz HPRE HPF HJR HK HBW;obtain⟨k,pre,rfl,hk,hj,hpre,hsz⟩:=hrel
  have HJR:=ah hj;have HPRE:=ah hpre;have HK:=ah hk;have HBW:=ah (HX.out _ _ hj).1
  obtain⟨c0',c1'⟩:=cells2 (HX.out _ _ hj).2;clear hj hpre;cases gk with
  |succ q=>
   have hkn:k<rn:=by omega
   have hknI:(k:Int)<rn:=by omega
   obtain⟨n,hn⟩: ∃n,g.rels[k]?=some n:=⟨_,ay (by rw[HRN.out];exact hkn)⟩
   obtain⟨b,o,Ap,cp,rfl,hbB,⟨D0,D1,D2,D3,D4⟩,r2⟩:=HR.rel hn;have hlt:b<B:=hbB
   obtain⟨zy,hzy⟩:=aj (⟨n.type.toArray⟩:ByteArray);unfold ST at D1;rw[hzy]at D1
   clear hzy;have d0:=(HBW.cell (p:=⟨b,o+k*5,none⟩) hlt).trans D0
   have d1:=(HBW.cell (p:=⟨b,o+k*5+1,none⟩) hlt).trans D1
   have d2:=(HBW.cell (p:=⟨b,o+k*5+2,none⟩) hlt).trans D2
   have d3:=(HBW.cell (p:=⟨b,o+k*5+3,none⟩) hlt).trans D3
   have d4:=(HBW.cell (p:=⟨b,o+k*5+4,none⟩) hlt).trans D4
   obtain⟨WN,hWN⟩:=aj (wr.alloc (.cells #[.int .i64 n.id,.string zy,.int .i64 n.src,.int .i64 n.dst,.slice Ap n.props.length cp] 55))
   have HWN:=ah hWN
   have HSM:=ah (show Same1 T W1.heap.size wr WN by rw[<-hWN];exact(Same1.refl _ _ _).alloc _)
   have HK1:=ah (show Blk WN wr.heap.size 55 #[.int .i64 n.id,.string zy,.int .i64 n.src,.int .i64 n.dst,.slice Ap n.props.length cp] by rw[<-hWN];exact Blk.new _ _ _)
   have HRP:=ah r2;have hnok:=HOK.rs n (sK hn);obtain⟨pn,hpn⟩:=aj n.props.length
   have hpl:=hnok.pl;rw[hpn]at hpl d4 HWN HK1;have HPN:=ah hpn
   have HFL:=ah (flatMap_take (f:=Gr.R.props) hn)
   have HSP:=ah (flatMap_split (f:=Gr.R.props) hn)
   clear hWN hbB D0 D1 D2 D3 D4 r2 hnok hn hpn hk hkn hlt
   go_upto_region 12 with fail
   rw[HWN.out];clear d0 d1 d2 d3 d4 c0' c1';obtain⟨k0,k1,k2,k3,k4⟩:=cells5 HK1.out
   go_wp2_with fail
   go_loopg [41] pn (fun q x wx=> ∃(j:Nat) (pre:List PIt),x=.int .i64 j/\j+q=pn/\J pre wx/\pre.map PIt.p=g.nodes.flatMap Gr.N.props ++(g.rels.take k).flatMap Gr.R.props++n.props.take j/\W1.heap.size<=wx.heap.size)
   case atStart=>exact⟨0,pre,rfl,by omega,HJ.out _ _ _ HJR.out HSM.out,by rw[HPRE.out];simp,by rw[<-HWN.out];simp;omega⟩
   obtain⟨j,pre',rfl,hj,hjj,hpre',hsz'⟩:=hrel;have HJX:=ah hjj;have HPX:=ah hpre'
   have HJN:=ah hj;have HBX2:=ah (HX.out _ _ hjj).1;clear hjj hpre';cases gk with
   |succ q'=>
    have hjn:j<pn:=by omega
    have hjnI:(j:Int)<pn:=by omega
    obtain⟨p,hp⟩: ∃p,n.props[j]?=some p:=⟨_,ay (by rw[HPN.out];exact hjn)⟩
    obtain⟨b',o',An',cn',At',ct',rfl,hbB',⟨E0,E1,E2,E3,E4,E5⟩,q1,q2⟩:=HRP.prop hp
    have hlt':b'<B:=hbB';obtain⟨z,hz⟩:=aj (⟨p.key.toArray⟩:ByteArray)
    obtain⟨zt,hzt⟩:=aj (⟨p.val.text.toArray⟩:ByteArray)
    have hzk:ST p.key=.string z:=by unfold ST;rw[hz]
    have hztk:ST p.val.text=.string zt:=by unfold ST;rw[hzt]
    rw[hzk]at E0;rw[hztk]at E3;clear hz hzt
    have e0:=(HBX2.cell (p:=⟨b',o'+j*6,none⟩) hlt').trans E0
    have e1:=(HBX2.cell (p:=⟨b',o'+j*6+1,none⟩) hlt').trans E1
    have e2:=(HBX2.cell (p:=⟨b',o'+j*6+2,none⟩) hlt').trans E2
    have e3:=(HBX2.cell (p:=⟨b',o'+j*6+3,none⟩) hlt').trans E3
    have e4:=(HBX2.cell (p:=⟨b',o'+j*6+4,none⟩) hlt').trans E4
    have e5:=(HBX2.cell (p:=⟨b',o'+j*6+5,none⟩) hlt').trans E5
    obtain⟨WY,hWY⟩:=aj (wr.alloc (.cells #[.string z,.int .i64 p.val.kind,.int .i64 p.val.num,.string zt,.slice An' p.val.nums.length cn',.slice At' p.val.texts.length ct'] 53))
    have hsame:Same1 T W1.heap.size wr WY:=by rw[<-hWY];exact(Same1.refl _ _ _).alloc _
    have hky:Blk WY wr.heap.size 53 #[.string z,.int .i64 p.val.kind,.int .i64 p.val.num,.string zt,.slice An' p.val.nums.length cn',.slice At' p.val.texts.length ct']:=by rw[<-hWY];exact Blk.new _ _ _
    have hstep:PStep Ws B ALL pre' ⟨p,An',cn',At',ct'⟩:=by
     refine⟨?_,q1,q2⟩;rw[uf,HALL.out,HSP.out];rw[<-sV];exact prefix_step HPX.out hp
    obtain⟨fn,tmps,assign,body,hy,hRd⟩:=HY.out pre' ⟨p,An',cn',At',ct'⟩ wr WY HJX.out hsame trivial hstep
    simp only[pEnc,PIt.cells,hzk,hztk]at hy hRd;clear hzk hztk
    have HY1:=ah (show(Instr.yield l #[.agg #[.string z,.int .i64 p.val.kind,.int .i64 p.val.num,.string zt,.slice An' p.val.nums.length cn',.slice At' p.val.texts.length ct']]).run Tryz.prog WY=.ok (.round l fn tmps assign body) WY from hy)
    have HRD:=ah hRd;have HWY:=ah hWY;have HKY:=ah hky;have HTK:=ah (list_take hp)
    have hzy:WY.heap.size=wr.heap.size+1:=by rw[<-hWY];simp
    have HZY:=ah hzy
    clear hWY hsame hky hstep hy hRd q1 q2 hbB' E0 E1 E2 E3 E4 E5 hlt' hp hjn hj hzy
    go_upto_region 15 with(fail)
    rw[show wr.alloc (.cells #[.string z,.int .i64 p.val.kind,.int .i64 p.val.num,.string zt,.slice An' p.val.nums.length cn',.slice At' p.val.texts.length ct'] 53)=WY from HWY.out]
    clear e0 e1 e2 e3 e4 e5;obtain⟨e0,e1,e2,e3,e4,e5⟩:=cells6 HKY.out;have hy':=HY1.out
    refine(wpIn_wide (n:=8)).1 ?_
    gi_wp2
    refine HRD.mono ?_;rintro e W' (⟨rfl,hj,hk⟩|⟨rfl,hf⟩)
    ·have HJW:=ah hj
     have hzw:=hk.size;rw[HZY.out]at hzw;clear hk hj hy' e0 e1 e2 e3 e4 e5
     gi_wp2
     go_wp2
     go_roundg q'
     case measure=>omega
     exact⟨j+1,_,int_eq (by omega),by have:=HJN.out;omega,HJW.out,by rw[uf,HPX.out,HTK.out,sV];rfl,by omega⟩
    clear hy'
    gi_wp2
    go_wp2;refine bodyPost_ret (results_none rfl _ _ _) rfl ?_;exact⟨⟨_,rfl⟩,hf⟩
   |zero=>
    obtain rfl:j=pn:=by omega
    have hfin:n.props.take j=n.props:=sG (by rw[HPN.out];exact rM _)
    have hpx:=HPX.out;rw[hfin]at hpx;have HPF:=ah hpx;clear hfin hpx hj;go_wp2
    go_roundg q
    case measure=>omega
    exact⟨k+1,pre',int_eq (by omega),by have:=HK.out;omega,HJX.out,by rw[HPF.out,HFL.out,sV],hsz'⟩
  |zero=>
   obtain rfl:k=rn:=by omega
   have hfin:g.rels.take k=g.rels:=sG (by rw[HRN.out];exact rM _)
   have hpx:=HPRE.out;rw[hfin,<-HALL.out]at hpx;have HFIN:=ah (HE.out _ _ HJR.out hpx)
   clear hfin hpx hk;go_wp2
   go_end0
   exact⟨⟨_,rfl⟩,HFIN.out⟩
end Go.Proofs.YtanlehkalkafdaaGreatDoor
namespace Go.Proofs.YtanlehkalkafdaaGreatDoor
open Go.RowKit
def KeepB (w w':World):Prop:= ∀(g:Nat) (t:TypeId) (cs:Array Value),Blk w g t cs->t≠5->Blk w' g t cs
theorem KeepB.refl (w:World):KeepB w w:=fun _ _ _ h _=>h
theorem KeepB.trans {a b c:World} (h:KeepB a b) (k:KeepB b c):KeepB a c:=fun g t cs hb hne=>k g t cs (h g t cs hb hne) hne
theorem KeepB.of_append {w w':World} {B n:Nat} {v:Value} {xs:List Value} (h:w.ownsRow B 5 1 v n xs) (hg:w.grownBy w' v.ownBlock):KeepB w w':=fun g t cs hb hne=>hb.grown hg (fun e=>own_blk_ne h hb hne.symm e.symm)
theorem info_u8:(Tryz.prog.info? 5).map (fun i=>(i.zero,i.size,i.bytes))=some (some (.int .u8 0),1,1):=by kernel_rfl
theorem lay_any (B:Nat) (A:Option Addr) (c n width:Nat) (x:Nat) (xs:List Value) (w:World) (hw:width<=8) (h:w.ownsRow B 5 1 (.slice A n c) n xs) (h1: ∀u∈xs,u.oneCell'=true) (hn:n<=1073741000) (hB:B<=w.heap.size) (hx:x<18446744073709551616):
  Calls Tryz.prog 225 #[.slice A n c,.int .i64 (width:Int),.int .u64 (x:Int)] w fun e w'=> ∃A' c' xs',e=.returned (.slice A' (n+width) c')/\w'.ownsRow B 5 1 (.slice A' (n+width) c') (n+width) xs'/\Below B w w'/\KeepB w w'/\ ∀u∈xs',u.oneCell'=true:=by
 have H:=ah h;have HO1:=ah h1;clear h1;have hwi:(width:Int)<=8:=by omega
 have HX:=ah hx;clear h hx;go_enter Tryz.func225,Tryz.ntmps225;go_wp2_with fail
 go_loopg [0,7] width (fun g v s wr=> ∃(k:Nat) (A':Option Addr) (c':Nat) (xs':List Value),v=.slice A' (n+k) c'/\s=.int .i64 (8*(g:Int) - 8)/\k+g=width/\wr.ownsRow B 5 1 (.slice A' (n+k) c') (n+k) xs'/\Below B w wr/\KeepB w wr/\ ∀u∈xs',u.oneCell'=true)
 case atStart=>exact⟨0,A,c,xs,rfl,int_eq (by omega),by omega,H.out,Below.refl _ _,KeepB.refl _,HO1.out⟩
 obtain⟨k,A',c',xs',rfl,rfl,hk,ho,hb,hkp,h1⟩:=hrel;have H1:=ah h1;clear h1;have HO:=ah ho
 have HB:=ah hb;have HKP:=ah hkp;have HK:=ah hk;clear ho hb hkp;cases gk with
 |zero=>
  obtain rfl:k=width:=by omega
  clear hk;go_wp2;go_ret;exact⟨A',c',xs',rfl,HO.out,HB.out,HKP.out,H1.out⟩
 |succ g=>
  have hs:(8*((g+1:Nat):Int) - 8)=((8*g:Nat):Int):=by omega
  rw[hs];obtain⟨s,hs'⟩:=aj (8*g);rw[hs'];have hsi:(s:Int)<=64:=by omega
  have hs0:(0:Int)<=s:=by omega
  have t0:decide ((0:Int)<=s)=true:=rQ hs0;have HS:=ah hs';clear hs hs' hk
  have hnk:n+k<1073741824:=by have:=HK.out;omega
  have hBr:B<=wr.heap.size:=rV hB HB.size
  go_wp2_with (at_builtin;refine wpList_append_one rfl (.tmp 15) (.tmp 20) 104 5 (.int .u8 0) 1 Tryz.underlying104 info_u8 rfl (by decide) rfl B (.slice A' (n+k) c') (n+k) xs' wr rfl HO.out (.int .u8 ((x:Int) / 2 ^ s % 256)) rfl rfl hnk hBr ?_)
  intro v9 w9 hown9 hgr9 hwh9 hb9;obtain⟨A9,c9,rfl⟩:=own_form hown9;have HO9:=ah hown9
  have HB9:=ah (HB.trans hb9);have HKP9:=ah (HKP.trans (KeepB.of_append HO.out hgr9))
  clear hown9 hgr9 hwh9 hb9 hnk hBr;go_wp2
  go_roundg g
  case measure=>omega
  exact⟨k+1,A9,c9,_,rfl,int_eq (by have:=HS.out;omega),by have:=HK.out;omega,HO9.out,HB9.out,HKP9.out,fun u hu=>by rcases tZ.1 hu with h|h;exact H1.out u h;rw[ug.1 h];rfl⟩
structure Wrt (W:World) (B bw n:Nat):Prop where
 ex: ∃A c xs,Blk W bw 270 #[.slice A n c]/\W.ownsRow B 5 1 (.slice A n c) n xs/\ ∀u∈xs,u.oneCell'=true
 lo:B<=bw
theorem isWidth_any (n:Nat) (w:World) (hn:n=1\/n=2\/n=8):Calls Tryz.prog 224 #[.int .i64 (n:Int)] w fun e w'=>e=.returned (.bool true)/\w=w':=by
 rcases hn with rfl|rfl|rfl<;>
 ·go_enter Tryz.func224,Tryz.ntmps224
  go_wp2;go_ret;exact⟨rfl,rfl⟩
theorem wnum_any (B bw n width x:Nat) (w:World) (h:Wrt w B bw n) (hw:width=1\/width=2\/width=8) (hn:n<=1073741000) (hB:B<=w.heap.size) (hx:x<18446744073709551616):
  Calls Tryz.prog 182 #[.pointer (some ⟨bw,0,none⟩),.int .i64 (width:Int),.int .u64 (x:Int)] w fun e w'=>e=.returned (.tuple #[])/\Wrt w' B bw (n+width)/\Below B w w':=by
 obtain⟨A,c,xs,h1,h2,h3⟩:=h.ex;have HI:=ah (isWidth_any width w hw)
 have HL:=ah (lay_any B A c n width x xs w (by omega) h2 h3 hn hB hx)
 have hc:=h1.cell 0;simp only[sJ,sD]at hc;have HLO:=ah h.lo;have H3:=ah h3
 have H1:=ah h1;clear h h1 h2 h3 hw hx hn;go_enter Tryz.func182,Tryz.ntmps182
 go_wp2_with fail;refine HI.mono ?_;rintro e w1 ⟨rfl,rfl⟩;go_wp2_with fail
 refine HL.mono ?_;rintro e w2 ⟨A',c',xs',rfl,ho,hb,hk,h1'⟩
 have k2:=hk _ _ _ H1.out (by decide)
 have hc2:=k2.cell 0;simp only[sJ,sD]at hc2;have hf2:=k2.frozen 0
 have hres:Wrt (w2.setCell ⟨bw,0,none⟩ (.slice A' (n+width) c')) B bw (n+width):=by
  refine⟨⟨A',c',xs',(k2.set_ 0 _).cast (by simp), ?_,h1'⟩,HLO.out⟩
  exact own_kept_ty ho (row:=some bw) (only_setCell (only_refl _ _) (.inl rfl) _) (fun g cc t fz e1 e2=>by
   cases e1;have:=k2.symm.trans e2
   injection this with this
   injection this with _ ht
   rw[<-ht];decide)
 have HRES:=ah hres
 have HBF:=ah (hb.setCell (p:=⟨bw,0,none⟩) HLO.out (.slice A' (n+width) c'))
 clear ho hb hk k2 hres hc h1';go_wp2
 go_end0
 exact⟨rfl,HRES.out,HBF.out⟩
theorem wstr_any (B bw n:Nat) (z:ByteArray) (w:World) (h:Wrt w B bw n) (hz:z.size<=1073741) (hn:n<=1073741000) (hB:B<=w.heap.size):
  Calls Tryz.prog 226 #[.pointer (some ⟨bw,0,none⟩),.string z] w fun e w'=>e=.returned (.tuple #[])/\Wrt w' B bw (n+z.size)/\Below B w w':=by
 obtain⟨A,c,xs,h1,h2,h3⟩:=h.ex;obtain⟨i0,hi,hz0,hz1,hz2⟩:=info_parts info_u8
 have hc:=h1.cell 0;simp only[sJ,sD]at hc;have HLO:=ah h.lo;have H3:=ah h3
 have H1:=ah h1;have H2:=ah h2;have hsz:n+z.size<=140737488355328:=by omega
 have hml:n+z.size<=maxLen:=by unfold maxLen;omega
 have HSZ:=ah hsz;have HML:=ah hml;clear h h1 h2 h3 hz hn hsz hml
 go_enter Tryz.func226,Tryz.ntmps226
 go_wp2_with (at_builtin;refine Lib.wpList_append_own_string w rfl (.tmp 8) (.tmp 9) 104 9 rfl B 5 i0 Tryz.underlying104 Tryz.underlying9 hi hz0 hz1 hz2 (.slice A n c) n xs rfl H2.out z rfl HML.out HSZ.out hB ?_)
 intro v9 w9 hown9 hgr9 hwh9;obtain⟨A9,c9,rfl⟩:=own_form hown9
 have k2:=H1.grown hgr9 (fun e=>own_blk_ne H2.out H1.out (by decide) e.symm)
 have hb:Below B w w9:=(Below.refl B w).grown hgr9 hB (fun j e=>(H2.lt j e).1)
 have hc2:=k2.cell 0;simp only[sJ,sD]at hc2;have hf2:=k2.frozen 0
 have hres:Wrt (w9.setCell ⟨bw,0,none⟩ (.slice A9 (n+z.size) c9)) B bw (n+z.size):=by
  refine⟨⟨A9,c9,xs++Lib.strCells z,(k2.set_ 0 _).cast (by simp), ?_,fun u hu=>by rcases tZ.1 hu with h|h;exact H3.out u h;exact Lib.strCells_oneCell z u h⟩,HLO.out⟩
  exact own_kept_ty hown9 (row:=some bw) (only_setCell (only_refl _ _) (.inl rfl) _) (fun g cc t fz e1 e2=>by
   cases e1;have:=k2.symm.trans e2
   injection this with this
   injection this with _ ht
   rw[<-ht];decide)
 have HRES:=ah hres
 have HBF:=ah (hb.setCell (p:=⟨bw,0,none⟩) HLO.out (.slice A9 (n+z.size) c9))
 clear hown9 hgr9 hwh9 hb k2 hres hc;go_wp2
 go_end0
 exact⟨rfl,HRES.out,HBF.out⟩
theorem wbytes_any (B bw n:Nat) (w:World) (h:Wrt w B bw n) (hn:n<=1073741824):
  Calls Tryz.prog 185 #[.pointer (some ⟨bw,0,none⟩)] w fun e w'=> ∃A' c',e=.returned (.slice A' n c')/\Below w.heap.size w w':=by
 obtain⟨A,c,xs,h1,h2,h3⟩:=h.ex;have hc:=h1.cell 0;simp only[sJ,sD]at hc
 have HC:=ah (cloneBytes_any w.heap.size A c n xs w (Reads.of_own h2) h3 hn (rM _))
 clear h h1 h2 h3 hn;go_enter Tryz.func185,Tryz.ntmps185;go_wp2_with fail
 refine HC.mono ?_;rintro e w2 ⟨v,rfl,ho,hb⟩;obtain⟨A',c',rfl⟩:=own_form ho;clear ho
 go_wp2;go_ret;exact⟨A',c',rfl,hb⟩
theorem newWriter_any (w:World):Calls Tryz.prog 181 #[] w fun e w'=>e=.returned (.pointer (some ⟨w.heap.size,0,none⟩))/\Wrt w' w.heap.size w.heap.size 0/\Below w.heap.size w w':=by
 go_enter Tryz.func181,Tryz.ntmps181;go_wp2;go_ret
 exact⟨rfl,⟨⟨none,0,[],Blk.new _ _ _,World.ownsRow_nil _ _ _ _,fun u hu=>by cases hu⟩,rM _⟩,(Below.refl _ _).alloc (rM _) _⟩
end Go.Proofs.YtanlehkalkafdaaGreatDoor
