/- Lemmas. -/
import Derived.Test.YtdijgcnlbfgkdaaGreatDoorUP21
import Derived.Lib.AppendStr
set_option maxHeartbeats 64000000
set_option maxRecDepth 1000000
set_option linter.all false
namespace Go.Proofs.YtdijgcnlbfgkdaaGreatDoor
open Go.RowKit Go.Proofs.Tryz
def dD.rel {W:World} {B:Nat} {A:Option Addr} {l:List Gr.R} (h:dD W B 5 (lU W B) A l) {k:Nat} {r:Gr.R} (hk:l[k]?=some r): ∃b o Ap cp,A=some ⟨b,o,none⟩/\b<B/\
  (W.cell? ⟨b,o+k*5,none⟩=some (.int .i64 r.id)/\W.cell? ⟨b,o+k*5+1,none⟩=some (ST r.type)/\W.cell? ⟨b,o+k*5+2,none⟩=some (.int .i64 r.src)/\W.cell? ⟨b,o+k*5+3,none⟩=some (.int .i64 r.dst)/\W.cell? ⟨b,o+k*5+4,none⟩=some (.slice Ap r.props.length cp))/\
  dD W B 6 (bg W B) Ap r.props:=by
 obtain⟨b,o,cs,hA,hb,⟨Ap,cp,rfl,h2⟩,-,hc⟩:=h k r hk;exact⟨b,o,Ap,cp,hA,hb,⟨hc 0 _ rfl,hc 1 _ rfl,hc 2 _ rfl,hc 3 _ rfl,hc 4 _ rfl⟩,h2⟩
def ak5 (B:Nat) (A:Option Addr) (c:Nat) (rs:List Gr.R) (k:Nat) (r:Gr.R) (mb:Nat) (ids:List Int) (w:World) (h:dD w B 5 (lU w B) A rs) (hB:B<=w.heap.size) (hl:rs.length<=1073741824) (hs: ∀r∈rs,WE r) (hk:rs[k]?=some r) (hmb:gU w mb ids):
  Calls prog 53 #[.slice A rs.length c,.int .i64 (k:Int),.map (some mb)] w fun e w'=>e=.returned (.int .i64 (Gr.jM ids (Gr.aQ Gr.R.id rs k) r:Nat))/\Below w.heap.size w w':=by
 obtain⟨R,hR⟩:=aj (Gr.jM ids (Gr.aQ Gr.R.id rs k) r);rw[hR];unfold Gr.jM at hR;have hok:=hs r (aew hk);have hkl:k<rs.length:=(aeK.1 hk).1;obtain⟨m,hm⟩:=aj rs.length;rw[hm]at hl hkl⊢;obtain⟨b,o,Ap,cp,rfl,hbB,⟨c0,c1,c2,c3,c4⟩,r2⟩:=h.rel hk;obtain⟨mO,Yc,Nz,NC,ps0⟩:=r;simp only at hR c0 c1 c2 c3 c4 r2;obtain⟨z,hz⟩:=aj (⟨Yc.toArray⟩:ByteArray);have hzd:z.data.toList=Yc:=by rw[<-hz]
 unfold ST at c1;rw[hz]at c1;obtain⟨W1,hW1⟩:=aj (w.alloc (.cells #[.int .i64 mO,.string z,.int .i64 Nz,.int .i64 NC,.slice Ap ps0.length cp] 74));have hb1:Below w.heap.size w W1:=by rw[<-hW1];exact(aoa _ w).alloc (aej _) _
 have k1:ak W1 w.heap.size 74 #[.int .i64 mO,.string z,.int .i64 Nz,.int .i64 NC,.slice Ap ps0.length cp]:=by rw[<-hW1];exact ak.new _ _ _
 have HD:=ah (cells5 k1);have hBm:=hb1.mono hB;have hgn:=IL z;rw[hzd]at hgn;have gW:=ah (fun(W:World)=>hgn W (by rw[aof,hzd];exact hok.tl))
 have gJ:=ah (fun(q:Nat)=>ab8 B Ap cp ps0 (W1.drewN q) ((r2.below hBm (bg.below hBm)).below (below_drewN (aoa B W1) q) (bg.below (below_drewN (aoa B W1) q))) (aep hB hb1.size) hok.pl hok.ps)
 obtain⟨GV,hGV⟩:=aj (Gr.fD Yc);obtain⟨PV,Ny⟩:=aj (Gr.dJ ps0);rw[hGV]at gW hR;rw[Ny]at gJ hR;have hcm:=hmb.below hb1;have fB:=ah (fun(q:Nat)=>(show gU (W1.drewN q) mb ids from⟨hcm.ex⟩).look (t:=51) asx hok.src)
 have HL2:=ah (fun(q:Nat)=>(show gU (W1.drewN q) mb ids from⟨hcm.ex⟩).look (t:=51) asx hok.dst)
 have hc1:ids.count Nz=0↔Nz∉ids:=List.count_eq_zero;have hc2:ids.count NC=0↔NC∉ids:=List.count_eq_zero;obtain⟨n1,hn1⟩:=aj (ids.count Nz);obtain⟨n2,hn2⟩:=aj (ids.count NC);rw[hn1]at fB hc1;rw[hn2]at HL2 hc2;have lu:=ah hc1;have HC2:=ah hc2
 have HQ:Hid (∀(j:Nat) (q:Gr.R),rs[j]?=some q->W1.cell? ⟨b,o+j*5,none⟩=some (.int .i64 q.id)):=fun j q hq=>by
  obtain⟨b',o',_,_,he,hlt,⟨e0,-⟩,-⟩:=h.rel hq
  injection he with he
  injection he with he1 he2
  subst he1;subst he2;exact(hBm.cell (by exact hlt)).trans e0
 refine gq4 hb1 hW1 rG hm fun HB1 HW1 HU HM=>?_;have fQ:(k:Int)<m:=by omega
 obtain⟨x1,hx1⟩:=aj (decide (mO<0));obtain⟨x2,hx2⟩:=aj (decide ((2048:Int)<=mO));clear hW1 hb1 k1 hBm hGV Ny h r2 hk hs hok hm hbB hmb hcm hc1 hc2 hn1 hn2 hgn hz hzd;go_enter func53,ntmps53
 go_upto_region 2 with fail
 rw[HW1.out];clear c0 c1 c2 c3 c4 HW1;obtain⟨d0,d1,d2,d3,d4⟩:=HD.out;have hu:=HU.out;cases x1 with
 |true=>
  have hi:=aeL hx1;rw[aeu (.inl hi)]at hR;subst hR;clear gW gJ HQ;go_wp2;go_ret;exact⟨rfl,HB1.out⟩
 |false=>
  have hi:=aex hx1;have hi':0<=mO:=by omega
  cases x2 with
  |true=>
   have hj:=aeL hx2;rw[aeu (.inr hj)]at hR;subst hR;clear gW gJ HQ;go_wp2;go_ret;exact⟨rfl,HB1.out⟩
  |false=>
   have hj:=aex hx2;have hj':mO<2048:=by omega
   rw[aer (by omega)]at hR
   have HR:=ah hR;clear hi hj hR;by_cases h0:k=0
   ·have hk0:(k:Int)<=0:=by omega
    have tk:decide (0<k)=false:=dF (by omega)
    have hpv:Gr.aQ Gr.R.id rs k=none:=by subst h0;rfl
    have hr2:=HR.out;rw[hpv,aer (by simp)]at hr2
    have HT:=ah hr2;clear h0 hpv hr2
    go_upto_region 4 with fail
    go_quiet (fail)
    go_wp2_with fail;refine iq7 (gW.out _) ?_;cases GV with
    |false=>
     have hr:=HT.out;rw[aeu rfl]at hr;subst hr;clear gJ;go_wp2;go_ret;exact⟨rfl,below_drewN HB1.out nq⟩
    |true=>
     have hr:=HT.out;rw[aer (by decide)]at hr
     have l1:=fB.out nq;have l2:=HL2.out nq;by_cases h1:n1=0
     ·have t1:((n1:Int) == 0)=true:=afc.2 (by omega)
      rw[aeu (.inl (lu.out.1 h1))]at hr;subst hr;clear gJ h1;go_wp2;go_ret;exact⟨rfl,below_drewN HB1.out nq⟩
     have t1:((n1:Int) == 0)=false:=aek.2 (by omega)
     by_cases h2:n2=0
     ·have t2:((n2:Int) == 0)=true:=afc.2 (by omega)
      rw[aeu (.inr (HC2.out.1 h2))]at hr;subst hr;clear gJ h1 h2;go_wp2;go_ret;exact⟨rfl,below_drewN HB1.out nq⟩
     have t2:((n2:Int) == 0)=false:=aek.2 (by omega)
     rw[aer (by rintro(h|h);exact h1 (lu.out.2 h);exact h2 (HC2.out.2 h))]at hr
     subst hr;clear h1 h2;go_wp2_with fail;refine mq7 (gJ.out nq) fun w3 hb3=>?_;have HB3:=ah (rJ (below_drewN HB1.out nq) hb3);clear hb3;go_wp2;go_ret;exact⟨rfl,HB3.out⟩
   obtain⟨m',hm'⟩: ∃m',k=m'+1:=⟨k - 1,by omega⟩
   have tk:decide (0<k)=true:=aei (by omega)
   have hkp:(0:Int)<k:=by omega
   have hsub:(k:Int) - 1=(m':Int):=by omega
   have hmn:(m':Int)<m:=by omega
   obtain⟨q,hq⟩: ∃q,rs[m']?=some q:=⟨_,aen (by have:=HM.out;omega)⟩
   have e0:=HQ.out m' q hq;have hpv:Gr.aQ Gr.R.id rs k=some q.id:=by rw[hm'];show rs[m']?.map Gr.R.id=_;rw[hq];rfl
   have hr2:=HR.out;rw[hpv]at hr2;obtain⟨y,hy⟩:=aj q.id;rw[hy]at e0 hr2;clear h0 hq hpv hm' hy;by_cases hle:mO<=y
   ·have tl:decide (mO<=y)=true:=aei hle
    have hr:R=6:=by rw[<-hr2,aeu (by simpa using hle)]
    have HRR:=ah hr;clear hr hr2 gW gJ
    go_upto_region 4 with fail
    go_quiet (fail)
    go_wp2;go_ret;exact⟨by rw[HRR.out];rfl,below_drewN HB1.out nq⟩
   have tl:decide (mO<=y)=false:=dF hle;have hle':y<mO:=by omega
   rw[aer (by simpa using hle)]at hr2
   have HT:=ah hr2;clear hr2 hle
   go_upto_region 4 with fail
   go_quiet (fail)
   go_wp2_with fail;refine iq7 (gW.out _) ?_;cases GV with
   |false=>
    have hr:=HT.out;rw[aeu rfl]at hr;subst hr;clear gJ;go_wp2;go_ret;exact⟨rfl,below_drewN HB1.out nq⟩
   |true=>
    have hr:=HT.out;rw[aer (by decide)]at hr
    have l1:=fB.out nq;have l2:=HL2.out nq;by_cases h1:n1=0
    ·have t1:((n1:Int) == 0)=true:=afc.2 (by omega)
     rw[aeu (.inl (lu.out.1 h1))]at hr;subst hr;clear gJ h1;go_wp2;go_ret;exact⟨rfl,below_drewN HB1.out nq⟩
    have t1:((n1:Int) == 0)=false:=aek.2 (by omega)
    by_cases h2:n2=0
    ·have t2:((n2:Int) == 0)=true:=afc.2 (by omega)
     rw[aeu (.inr (HC2.out.1 h2))]at hr;subst hr;clear gJ h1 h2;go_wp2;go_ret;exact⟨rfl,below_drewN HB1.out nq⟩
    have t2:((n2:Int) == 0)=false:=aek.2 (by omega)
    rw[aer (by rintro(h|h);exact h1 (lu.out.2 h);exact h2 (HC2.out.2 h))]at hr
    subst hr;clear h1 h2;go_wp2_with fail;refine mq7 (gJ.out nq) fun w3 hb3=>?_;have HB3:=ah (rJ (below_drewN HB1.out nq) hb3);clear hb3;go_wp2;go_ret;exact⟨rfl,HB3.out⟩
attribute [local go_sem] ar4
structure iy where
 p:Gr.P
 An:Option Addr
 cn:Nat
 At:Option Addr
 ct:Nat
def iy.cells (x:iy):Array Value:= #[ST x.p.key,.int .i64 x.p.val.kind,.int .i64 x.p.val.num,ST x.p.val.text,.slice x.An x.p.val.nums.length x.cn,.slice x.At x.p.val.texts.length x.ct]
def F5 (x:iy):Array Value:= #[.agg x.cells]
def iy.Rd (W:World) (B:Nat) (x:iy):Prop:=Reads W B 1 x.An x.p.val.nums.length (x.p.val.nums.map I64)/\Reads W B 1 x.At x.p.val.texts.length (x.p.val.texts.map ST)
def Vw (W:World) (B:Nat) (l:List Gr.P) (pre:List iy) (x:iy):Prop:=(pre++[x]).map iy.p <+: l/\x.Rd W B
def Vx (l:List Gr.P) (pre:List iy):Prop:=pre.map iy.p=l
def KW {α β:Type} {l:List α} {f:α->List β} {k:Nat} {a:α} (h:l[k]?=some a):(l.take (k+1)).flatMap f=(l.take k).flatMap f++f a:=by
 rw[afS,h];simp
def Qs {α β:Type} {l:List α} {f:α->List β} {k:Nat} {a:α} (h:l[k]?=some a):l.flatMap f=(l.take k).flatMap f ++(f a ++(l.drop (k+1)).flatMap f):=by
 obtain⟨hk,e⟩:=aeK.1 h
 conv=>lhs;rw[<-afz k l,afR,afk hk,e,agF]
def acK {α:Type} {l:List α} {k:Nat} {a:α} (h:l[k]?=some a):l=l.take k++a :: l.drop (k+1):=by
 obtain⟨hk,e⟩:=aeK.1 h
 conv=>lhs;rw[<-afz k l,afk hk,e]
def acL {α:Type} {pre a b:List α} {ps:List α} {j:Nat} {x:α} (h:pre=a++ps.take j) (hx:ps[j]?=some x):pre++[x] <+:(a ++(ps++b)):=by
 subst h;refine⟨ps.drop (j+1)++b, ?_⟩
 conv=>rhs;rw[acK hx]
 simp
def IX {α:Type} {l:List α} {k:Nat} {a:α} (h:l[k]?=some a):l.take (k+1)=l.take k++[a]:=by
 rw[afS,h];rfl
def acM (T n₁ B Bt:Nat) (g:Gr.G) (An Ar:Option Addr) (cn cr:Nat) (Ws:World)
  (hN:dD Ws B 3 (lT Ws B) An g.nodes) (hR:dD Ws B 5 (lU Ws B) Ar g.ay) (hok:Jl g) (W1:World):
  UO prog T n₁ 161 #[.pointer (some ⟨Bt,0,none⟩)] F5 (fun _ _ _=>True) (Vw Ws B (Gr.jr g)) (Vx (Gr.jr g)) (fun V=>Below B Ws V/\ak V Bt 26 #[.slice An g.nodes.length cn,.slice Ar g.ay.length cr]) W1:=by
 intro l J Fin hAux hJ hY Md h0;refine as2.2 ?_;refine gq8 hAux hJ hY Md h0 hN hR hok fun HX HJ HY HE QT HN HR bF=>?_;obtain⟨nn,hnn⟩:=aj g.nodes.length;obtain⟨rn,hrn⟩:=aj g.ay.length;have hnl:=hok.nl;have hrl:=hok.rl;rw[hnn]at HX hnl;rw[hrn]at HX hrl;have aC:=ah hnn;have fH:=ah hrn;obtain⟨c0,c1⟩:=cells2 (HX.out _ _ h0).2;have hall:Gr.jr g=g.nodes.flatMap Gr.N.props++g.ay.flatMap Gr.R.props:=rfl;obtain⟨ALL,afA⟩:=aj (Gr.jr g);rw[afA]at HY HE hall;have Yd:=ah hall;clear hJ hY Md hAux h0 hN hR hok hnn hrn hall afA;go_enter func161,ntmps161;go_wp2_with fail
 go_loopg [14] nn (fun q x wr=> ∃(k:Nat) (pre:List iy),x=.int .i64 k/\k+q=nn/\J pre wr/\pre.map iy.p=(g.nodes.take k).flatMap Gr.N.props/\W1.heap.size<=wr.heap.size)
 case atStart=>exact⟨0,[],rfl,by omega,QT.out,rfl,aej _⟩
 obtain⟨k,pre,rfl,hk,hj,hpre,hsz⟩:=hrel;refine gq4 hj hpre hk (HX.out _ _ hj).1 fun Ag JM HK dG=>?_;obtain⟨c0',c1'⟩:=cells2 (HX.out _ _ hj).2;clear hj hpre c0 c1;cases gk with
 |succ q=>
  have hkn:k<nn:=by omega
  have dW:(k:Int)<nn:=by omega
  obtain⟨n,hn⟩: ∃n,g.nodes[k]?=some n:=⟨_,aen (by rw[aC.out];exact hkn)⟩
  obtain⟨b,o,Al,cl,Ap,cp,rfl,hbB,⟨D0,D1,D2⟩,-,r2⟩:=HN.node hn;have hlt:b<B:=hbB;have d0:=(dG.cell (p:=⟨b,o+k*3,none⟩) hlt).trans D0;have d1:=(dG.cell (p:=⟨b,o+k*3+1,none⟩) hlt).trans D1;have d2:=(dG.cell (p:=⟨b,o+k*3+2,none⟩) hlt).trans D2;obtain⟨WN,bM⟩:=aj (wr.alloc (.cells #[.int .i64 n.id,.slice Al n.labels.length cl,.slice Ap n.props.length cp] 37));have gY:=ah bM;have jT:=ah (show cO T W1.heap.size wr WN by rw[<-bM];exact(cO.refl _ _ _).alloc _)
  have dw:=ah (show ak WN wr.heap.size 37 #[.int .i64 n.id,.slice Al n.labels.length cl,.slice Ap n.props.length cp] by rw[<-bM];exact ak.new _ _ _)
  have zA:=ah r2;have kM:=bF.ns n (aew hn);obtain⟨pn,hpn⟩:=aj n.props.length;have hpl:=kM.pl;rw[hpn]at hpl d2 gY dw;refine gq3 hpn (KW (f:=Gr.N.props) hn) (Qs (f:=Gr.N.props) hn) fun iI Ad nS=>?_;clear bM hbB D0 D1 D2 r2 kM hn hpn hk hkn hlt
  go_upto_region 3 with fail
  rw[gY.out];clear d0 d1 d2 c0' c1';obtain⟨k0,k1,k2⟩:=cells3 dw.out;go_wp2_with fail
  go_loopg [21] pn (fun q x wx=> ∃(j:Nat) (pre:List iy),x=.int .i64 j/\j+q=pn/\J pre wx/\pre.map iy.p=(g.nodes.take k).flatMap Gr.N.props++n.props.take j/\W1.heap.size<=wx.heap.size)
  case atStart=>exact⟨0,pre,rfl,by omega,HJ.out _ _ _ Ag.out jT.out,by rw[JM.out];simp,by rw[<-gY.out];simp;omega⟩
  obtain⟨j,pre',rfl,hj,hjj,hpre',hsz'⟩:=hrel;refine gq4 hjj hpre' hj (HX.out _ _ hjj).1 fun ND iC Ye wC=>?_;clear hjj hpre';cases gk with
  |succ q'=>
   have hjn:j<pn:=by omega
   have BQ:(j:Int)<pn:=by omega
   obtain⟨p,hp⟩: ∃p,n.props[j]?=some p:=⟨_,aen (by rw[iI.out];exact hjn)⟩
   obtain⟨b',o',lI,jY,lJ,jZ,rfl,NG,⟨E0,E1,E2,E3,E4,E5⟩,q1,q2⟩:=zA.prop hp;have hlt':b'<B:=NG;obtain⟨z,hz⟩:=aj (⟨p.key.toArray⟩:ByteArray);obtain⟨zt,aK⟩:=aj (⟨p.val.text.toArray⟩:ByteArray);have fJ:ST p.key=.string z:=by unfold ST;rw[hz]
   have GY:ST p.val.text=.string zt:=by unfold ST;rw[aK]
   rw[fJ]at E0;rw[GY]at E3;clear hz aK;have e0:=(wC.cell (p:=⟨b',o'+j*6,none⟩) hlt').trans E0;have e1:=(wC.cell (p:=⟨b',o'+j*6+1,none⟩) hlt').trans E1;have e2:=(wC.cell (p:=⟨b',o'+j*6+2,none⟩) hlt').trans E2;have e3:=(wC.cell (p:=⟨b',o'+j*6+3,none⟩) hlt').trans E3;have e4:=(wC.cell (p:=⟨b',o'+j*6+4,none⟩) hlt').trans E4;have e5:=(wC.cell (p:=⟨b',o'+j*6+5,none⟩) hlt').trans E5;obtain⟨WY,zB⟩:=aj (wr.alloc (.cells #[.string z,.int .i64 p.val.kind,.int .i64 p.val.num,.string zt,.slice lI p.val.nums.length jY,.slice lJ p.val.texts.length jZ] 143));have hsame:cO T W1.heap.size wr WY:=by rw[<-zB];exact(cO.refl _ _ _).alloc _
   have hky:ak WY wr.heap.size 143 #[.string z,.int .i64 p.val.kind,.int .i64 p.val.num,.string zt,.slice lI p.val.nums.length jY,.slice lJ p.val.texts.length jZ]:=by rw[<-zB];exact ak.new _ _ _
   have hstep:Vw Ws B ALL pre' ⟨p,lI,jY,lJ,jZ⟩:=by
    refine⟨?_,q1,q2⟩;rw[afg,Yd.out,nS.out];rw[afu,afu];exact acL iC.out hp
   obtain⟨fn,tmps,assign,body,hy,GZ⟩:=HY.out pre' ⟨p,lI,jY,lJ,jZ⟩ wr WY ND.out hsame trivial hstep;simp only[F5,iy.cells,fJ,GY]at hy GZ;clear fJ GY;have LX:=ah (show(Instr.yield l #[.agg #[.string z,.int .i64 p.val.kind,.int .i64 p.val.num,.string zt,.slice lI p.val.nums.length jY,.slice lJ p.val.texts.length jZ]]).run prog WY=.ok (.round l fn tmps assign body) WY from hy)
   refine gq4 GZ zB hky (IX hp) fun qQ Yf Gq nK=>?_;have hzy:WY.heap.size=wr.heap.size+1:=by rw[<-zB];simp
   have LU:=ah hzy;clear zB hsame hky hstep hy GZ q1 q2 NG E0 E1 E2 E3 E4 E5 hlt' hp hjn hj hzy
   go_upto_region 6 with(fail)
   rw[show wr.alloc (.cells #[.string z,.int .i64 p.val.kind,.int .i64 p.val.num,.string zt,.slice lI p.val.nums.length jY,.slice lJ p.val.texts.length jZ] 143)=WY from Yf.out]
   clear e0 e1 e2 e3 e4 e5;obtain⟨e0,e1,e2,e3,e4,e5⟩:=Ah Gq.out;have hy':=LX.out;refine(ata (n:=8)).1 ?_
   gi_wp2
   refine qQ.mono ?_;rintro e W' (⟨rfl,hj,hk⟩|⟨rfl,hf⟩)
   ·have Gs:=ah hj
    have hzw:=hk.size;rw[LU.out]at hzw;clear hk hj hy' e0 e1 e2 e3 e4 e5
    gi_wp2
    go_wp2
    go_roundg q'
    case measure=>omega
    exact⟨j+1,_,int_eq (by omega),by have:=Ye.out;omega,Gs.out,by rw[afg,iC.out,nK.out,afu];rfl,by omega⟩
   clear hy'
   gi_wp2
   go_wp2;refine arW (asR rfl _ _ _) rfl ?_;exact⟨⟨_,rfl⟩,hf⟩
  |zero=>
   obtain rfl:j=pn:=by omega
   have hfin:n.props.take j=n.props:=aeG (by rw[iI.out];exact aej _)
   have hpx:=iC.out;rw[hfin]at hpx;have jy:=ah hpx;clear hfin hpx hj;go_wp2
   go_roundg q
   case measure=>omega
   exact⟨k+1,pre',int_eq (by omega),by have:=HK.out;omega,ND.out,by rw[jy.out,Ad.out],hsz'⟩
 |zero=>
  obtain rfl:k=nn:=by omega
  have hfin:g.nodes.take k=g.nodes:=aeG (by rw[aC.out];exact aej _)
  have hpx:=JM.out;rw[hfin]at hpx;have jy:=ah hpx;clear hfin hpx hk;go_wp2_with fail
  go_loopg [34] rn (fun q x wr=> ∃(k:Nat) (pre:List iy),x=.int .i64 k/\k+q=rn/\J pre wr/\pre.map iy.p=g.nodes.flatMap Gr.N.props ++(g.ay.take k).flatMap Gr.R.props/\W1.heap.size<=wr.heap.size)
  case atStart=>exact⟨0,pre,rfl,by omega,Ag.out,by rw[jy.out];simp,hsz⟩
  clear c0' c1' hsz JM jy Ag HK dG;obtain⟨k,pre,rfl,hk,hj,hpre,hsz⟩:=hrel;refine gq4 hj hpre hk (HX.out _ _ hj).1 fun Ag JM HK dG=>?_;obtain⟨c0',c1'⟩:=cells2 (HX.out _ _ hj).2;clear hj hpre;cases gk with
  |succ q=>
   have hkn:k<rn:=by omega
   have dW:(k:Int)<rn:=by omega
   obtain⟨n,hn⟩: ∃n,g.ay[k]?=some n:=⟨_,aen (by rw[fH.out];exact hkn)⟩
   obtain⟨b,o,Ap,cp,rfl,hbB,⟨D0,D1,D2,D3,D4⟩,r2⟩:=HR.rel hn;have hlt:b<B:=hbB;obtain⟨zy,hzy⟩:=aj (⟨n.type.toArray⟩:ByteArray);unfold ST at D1;rw[hzy]at D1;clear hzy;have d0:=(dG.cell (p:=⟨b,o+k*5,none⟩) hlt).trans D0;have d1:=(dG.cell (p:=⟨b,o+k*5+1,none⟩) hlt).trans D1;have d2:=(dG.cell (p:=⟨b,o+k*5+2,none⟩) hlt).trans D2;have d3:=(dG.cell (p:=⟨b,o+k*5+3,none⟩) hlt).trans D3;have d4:=(dG.cell (p:=⟨b,o+k*5+4,none⟩) hlt).trans D4;obtain⟨WN,bM⟩:=aj (wr.alloc (.cells #[.int .i64 n.id,.string zy,.int .i64 n.src,.int .i64 n.dst,.slice Ap n.props.length cp] 74));have gY:=ah bM;have jT:=ah (show cO T W1.heap.size wr WN by rw[<-bM];exact(cO.refl _ _ _).alloc _)
   have dw:=ah (show ak WN wr.heap.size 74 #[.int .i64 n.id,.string zy,.int .i64 n.src,.int .i64 n.dst,.slice Ap n.props.length cp] by rw[<-bM];exact ak.new _ _ _)
   have zA:=ah r2;have kM:=bF.rs n (aew hn);obtain⟨pn,hpn⟩:=aj n.props.length;have hpl:=kM.pl;rw[hpn]at hpl d4 gY dw;refine gq3 hpn (KW (f:=Gr.R.props) hn) (Qs (f:=Gr.R.props) hn) fun iI Ad nS=>?_;clear bM hbB D0 D1 D2 D3 D4 r2 kM hn hpn hk hkn hlt
   go_upto_region 12 with fail
   rw[gY.out];clear d0 d1 d2 d3 d4 c0' c1';obtain⟨k0,k1,k2,k3,k4⟩:=cells5 dw.out;go_wp2_with fail
   go_loopg [41] pn (fun q x wx=> ∃(j:Nat) (pre:List iy),x=.int .i64 j/\j+q=pn/\J pre wx/\pre.map iy.p=g.nodes.flatMap Gr.N.props ++(g.ay.take k).flatMap Gr.R.props++n.props.take j/\W1.heap.size<=wx.heap.size)
   case atStart=>exact⟨0,pre,rfl,by omega,HJ.out _ _ _ Ag.out jT.out,by rw[JM.out];simp,by rw[<-gY.out];simp;omega⟩
   obtain⟨j,pre',rfl,hj,hjj,hpre',hsz'⟩:=hrel;refine gq4 hjj hpre' hj (HX.out _ _ hjj).1 fun ND iC Ye wC=>?_;clear hjj hpre';cases gk with
   |succ q'=>
    have hjn:j<pn:=by omega
    have BQ:(j:Int)<pn:=by omega
    obtain⟨p,hp⟩: ∃p,n.props[j]?=some p:=⟨_,aen (by rw[iI.out];exact hjn)⟩
    obtain⟨b',o',lI,jY,lJ,jZ,rfl,NG,⟨E0,E1,E2,E3,E4,E5⟩,q1,q2⟩:=zA.prop hp;have hlt':b'<B:=NG;obtain⟨z,hz⟩:=aj (⟨p.key.toArray⟩:ByteArray);obtain⟨zt,aK⟩:=aj (⟨p.val.text.toArray⟩:ByteArray);have fJ:ST p.key=.string z:=by unfold ST;rw[hz]
    have GY:ST p.val.text=.string zt:=by unfold ST;rw[aK]
    rw[fJ]at E0;rw[GY]at E3;clear hz aK;have e0:=(wC.cell (p:=⟨b',o'+j*6,none⟩) hlt').trans E0;have e1:=(wC.cell (p:=⟨b',o'+j*6+1,none⟩) hlt').trans E1;have e2:=(wC.cell (p:=⟨b',o'+j*6+2,none⟩) hlt').trans E2;have e3:=(wC.cell (p:=⟨b',o'+j*6+3,none⟩) hlt').trans E3;have e4:=(wC.cell (p:=⟨b',o'+j*6+4,none⟩) hlt').trans E4;have e5:=(wC.cell (p:=⟨b',o'+j*6+5,none⟩) hlt').trans E5;obtain⟨WY,zB⟩:=aj (wr.alloc (.cells #[.string z,.int .i64 p.val.kind,.int .i64 p.val.num,.string zt,.slice lI p.val.nums.length jY,.slice lJ p.val.texts.length jZ] 143));have hsame:cO T W1.heap.size wr WY:=by rw[<-zB];exact(cO.refl _ _ _).alloc _
    have hky:ak WY wr.heap.size 143 #[.string z,.int .i64 p.val.kind,.int .i64 p.val.num,.string zt,.slice lI p.val.nums.length jY,.slice lJ p.val.texts.length jZ]:=by rw[<-zB];exact ak.new _ _ _
    have hstep:Vw Ws B ALL pre' ⟨p,lI,jY,lJ,jZ⟩:=by
     refine⟨?_,q1,q2⟩;rw[afg,Yd.out,nS.out];rw[<-afu];exact acL iC.out hp
    obtain⟨fn,tmps,assign,body,hy,GZ⟩:=HY.out pre' ⟨p,lI,jY,lJ,jZ⟩ wr WY ND.out hsame trivial hstep;simp only[F5,iy.cells,fJ,GY]at hy GZ;clear fJ GY;have LX:=ah (show(Instr.yield l #[.agg #[.string z,.int .i64 p.val.kind,.int .i64 p.val.num,.string zt,.slice lI p.val.nums.length jY,.slice lJ p.val.texts.length jZ]]).run prog WY=.ok (.round l fn tmps assign body) WY from hy)
    refine gq4 GZ zB hky (IX hp) fun qQ Yf Gq nK=>?_;have hzy:WY.heap.size=wr.heap.size+1:=by rw[<-zB];simp
    have LU:=ah hzy;clear zB hsame hky hstep hy GZ q1 q2 NG E0 E1 E2 E3 E4 E5 hlt' hp hjn hj hzy
    go_upto_region 15 with(fail)
    rw[show wr.alloc (.cells #[.string z,.int .i64 p.val.kind,.int .i64 p.val.num,.string zt,.slice lI p.val.nums.length jY,.slice lJ p.val.texts.length jZ] 143)=WY from Yf.out]
    clear e0 e1 e2 e3 e4 e5;obtain⟨e0,e1,e2,e3,e4,e5⟩:=Ah Gq.out;have hy':=LX.out;refine(ata (n:=8)).1 ?_
    gi_wp2
    refine qQ.mono ?_;rintro e W' (⟨rfl,hj,hk⟩|⟨rfl,hf⟩)
    ·have Gs:=ah hj
     have hzw:=hk.size;rw[LU.out]at hzw;clear hk hj hy' e0 e1 e2 e3 e4 e5
     gi_wp2
     go_wp2
     go_roundg q'
     case measure=>omega
     exact⟨j+1,_,int_eq (by omega),by have:=Ye.out;omega,Gs.out,by rw[afg,iC.out,nK.out,afu];rfl,by omega⟩
    clear hy'
    gi_wp2
    go_wp2;refine arW (asR rfl _ _ _) rfl ?_;exact⟨⟨_,rfl⟩,hf⟩
   |zero=>
    obtain rfl:j=pn:=by omega
    have hfin:n.props.take j=n.props:=aeG (by rw[iI.out];exact aej _)
    have hpx:=iC.out;rw[hfin]at hpx;have jy:=ah hpx;clear hfin hpx hj;go_wp2
    go_roundg q
    case measure=>omega
    exact⟨k+1,pre',int_eq (by omega),by have:=HK.out;omega,ND.out,by rw[jy.out,Ad.out,afu],hsz'⟩
  |zero=>
   obtain rfl:k=rn:=by omega
   have hfin:g.ay.take k=g.ay:=aeG (by rw[fH.out];exact aej _)
   have hpx:=JM.out;rw[hfin,<-Yd.out]at hpx;have G5:=ah (HE.out _ _ Ag.out hpx);clear hfin hpx hk;go_wp2
   go_end0
   exact⟨⟨_,rfl⟩,G5.out⟩
end Go.Proofs.YtdijgcnlbfgkdaaGreatDoor
namespace Go.Proofs.YtdijgcnlbfgkdaaGreatDoor
open Go.RowKit Go.Proofs.Tryz
def wR (w w':World):Prop:= ∀(g:Nat) (t:TypeId) (cs:Array Value),ak w g t cs->t≠5->ak w' g t cs
def wR.refl (w:World):wR w w:=fun _ _ _ h _=>h
def wR.trans {a b c:World} (h:wR a b) (k:wR b c):wR a c:=fun g t cs hb hne=>k g t cs (h g t cs hb hne) hne
def wR.of_append {w w':World} {B n:Nat} {v:Value} {xs:List Value} (h:w.ownsRow B 5 1 v n xs) (hg:w.grownBy w' v.ownBlock):wR w w':=fun g t cs hb hne=>hb.grown hg (fun e=>FD h hb hne.symm e.symm)
def Vy:(prog.info? 5).map (fun i=>(i.zero,i.size,i.bytes))=some (some (.int .u8 0),1,1):=by kernel_rfl
def ak6 (B:Nat) (A:Option Addr) (c n width:Nat) (x:Nat) (xs:List Value) (w:World) (hw:width<=8) (h:w.ownsRow B 5 1 (.slice A n c) n xs) (h1: ∀u∈xs,u.oneCell'=true) (hn:n<=1073741000) (hB:B<=w.heap.size) (hx:x<18446744073709551616):
  Calls prog 240 #[.slice A n c,.int .i64 (width:Int),.int .u64 (x:Int)] w fun e w'=> ∃A' c' xs',e=.returned (.slice A' (n+width) c')/\w'.ownsRow B 5 1 (.slice A' (n+width) c') (n+width) xs'/\Below B w w'/\wR w w'/\ ∀u∈xs',u.oneCell'=true:=by
 have H:=ah h;have lH:=ah h1;clear h1;have hwi:(width:Int)<=8:=by omega
 have HX:=ah hx;clear h hx;go_enter func240,ntmps240;go_wp2_with fail
 go_loopg [0,7] width (fun g v s wr=> ∃(k:Nat) (A':Option Addr) (c':Nat) (xs':List Value),v=.slice A' (n+k) c'/\s=.int .i64 (8*(g:Int) - 8)/\k+g=width/\wr.ownsRow B 5 1 (.slice A' (n+k) c') (n+k) xs'/\Below B w wr/\wR w wr/\ ∀u∈xs',u.oneCell'=true)
 case atStart=>exact⟨0,A,c,xs,rfl,int_eq (by omega),by omega,H.out,aoa _ _,wR.refl _,lH.out⟩
 obtain⟨k,A',c',xs',rfl,rfl,hk,ho,hb,hkp,h1⟩:=hrel;have H1:=ah h1;clear h1;refine gq4 ho hb hkp hk fun HO HB ru HK=>?_;clear ho hb hkp;cases gk with
 |zero=>
  obtain rfl:k=width:=by omega
  clear hk;go_wp2;go_ret;exact⟨A',c',xs',rfl,HO.out,HB.out,ru.out,H1.out⟩
 |succ g=>
  have hs:(8*((g+1:Nat):Int) - 8)=((8*g:Nat):Int):=by omega
  rw[hs];obtain⟨s,hs'⟩:=aj (8*g);rw[hs'];have hsi:(s:Int)<=64:=by omega
  have hs0:(0:Int)<=s:=by omega
  have t0:decide ((0:Int)<=s)=true:=aei hs0;have HS:=ah hs';clear hs hs' hk;have hnk:n+k<1073741824:=by have:=HK.out;omega
  have hBr:B<=wr.heap.size:=aep hB HB.size;go_wp2_with (at_builtin;refine jD rfl (.tmp 15) (.tmp 20) 76 5 (.int .u8 0) 1 asK Vy rfl (by decide) rfl B (.slice A' (n+k) c') (n+k) xs' wr rfl HO.out (.int .u8 ((x:Int) / 2 ^ s % 256)) rfl rfl hnk hBr ?_)
  intro v9 w9 aF aO bI aB;obtain⟨A9,c9,rfl⟩:=aH aF;refine gq3 aF (HB.trans aB) (ru.trans (wR.of_append HO.out aO)) fun oP cZ aoR=>?_;clear aF aO bI aB hnk hBr;go_wp2
  go_roundg g
  case measure=>omega
  exact⟨k+1,A9,c9,_,rfl,int_eq (by have:=HS.out;omega),by have:=HK.out;omega,oP.out,cZ.out,aoR.out,fun u hu=>by rcases afq.1 hu with h|h;exact H1.out u h;rw[afm.1 h];rfl⟩
structure tK (W:World) (B bw n:Nat):Prop where
 ex: ∃A c xs,ak W bw 287 #[.slice A n c]/\W.ownsRow B 5 1 (.slice A n c) n xs/\ ∀u∈xs,u.oneCell'=true
 lo:B<=bw
def ak7 (n:Nat) (w:World) (hn:n=1\/n=2\/n=8):Calls prog 239 #[.int .i64 (n:Int)] w fun e w'=>e=.returned (.bool true)/\w=w':=by
 rcases hn with rfl|rfl|rfl<;>
 ·go_enter func239,ntmps239
  go_wp2;go_ret;exact⟨rfl,rfl⟩
def KX (B bw n width x:Nat) (w:World) (h:tK w B bw n) (hw:width=1\/width=2\/width=8) (hn:n<=1073741000) (hB:B<=w.heap.size) (hx:x<18446744073709551616):
  Calls prog 205 #[.pointer (some ⟨bw,0,none⟩),.int .i64 (width:Int),.int .u64 (x:Int)] w fun e w'=>e=.returned (.tuple #[])/\tK w' B bw (n+width)/\Below B w w':=by
 obtain⟨A,c,xs,h1,h2,h3⟩:=h.ex;have HI:=ah (ak7 width w hw);have HL:=ah (ak6 B A c n width x xs w (by omega) h2 h3 hn hB hx)
 have hc:=h1.cell 0;simp only[aeN,aev]at hc;refine gq3 h.lo h3 h1 fun lg H3 H1=>?_;clear h h1 h2 h3 hw hx hn;go_enter func205,ntmps205;go_wp2_with fail;refine iq8 HI ?_;go_wp2_with fail;refine HL.mono ?_;rintro e w2 ⟨A',c',xs',rfl,ho,hb,hk,h1'⟩;have k2:=hk _ _ _ H1.out (by decide)
 have hc2:=k2.cell 0;simp only[aeN,aev]at hc2;have hf2:=k2.frozen 0
 have hres:tK (w2.setCell ⟨bw,0,none⟩ (.slice A' (n+width) c')) B bw (n+width):=by
  refine⟨⟨A',c',xs',(k2.aG 0 _).cast (by simp), ?_,h1'⟩,lg.out⟩
  exact eu ho (row:=some bw) (mX (iw _ _) (.inl rfl) _) (fun g cc t fz e1 e2=>by
   cases e1;have:=k2.symm.trans e2
   injection this with this
   injection this with _ ht
   rw[<-ht];decide)
 have jQ:=ah hres;have oN:=ah (hb.setCell (p:=⟨bw,0,none⟩) lg.out (.slice A' (n+width) c'));clear ho hb hk k2 hres hc h1';go_wp2
 go_end0
 exact⟨rfl,jQ.out,oN.out⟩
def ak8 (B bw n:Nat) (z:ByteArray) (w:World) (h:tK w B bw n) (hz:z.size<=1073741) (hn:n<=1073741000) (hB:B<=w.heap.size):
  Calls prog 241 #[.pointer (some ⟨bw,0,none⟩),.string z] w fun e w'=>e=.returned (.tuple #[])/\tK w' B bw (n+z.size)/\Below B w w':=by
 obtain⟨A,c,xs,h1,h2,h3⟩:=h.ex;obtain⟨i0,hi,hz0,hz1,hz2⟩:=asM Vy;have hc:=h1.cell 0;simp only[aeN,aev]at hc;refine gq4 h.lo h3 h1 h2 fun lg H3 H1 H2=>?_;have hsz:n+z.size<=140737488355328:=by omega
 have hml:n+z.size<=maxLen:=by unfold maxLen;omega
 have bf:=ah hsz;have CO:=ah hml;clear h h1 h2 h3 hz hn hsz hml;go_enter func241,ntmps241;go_wp2_with (at_builtin;refine Lib.wpList_append_own_string w rfl (.tmp 8) (.tmp 9) 76 9 rfl B 5 i0 asK asa hi hz0 hz1 hz2 (.slice A n c) n xs rfl H2.out z rfl CO.out bf.out hB ?_);intro v9 w9 aF aO bI;obtain⟨A9,c9,rfl⟩:=aH aF;have k2:=H1.grown aO (fun e=>FD H2.out H1.out (by decide) e.symm)
 have hb:Below B w w9:=(aoa B w).grown aO hB (fun j e=>(H2.lt j e).1)
 have hc2:=k2.cell 0;simp only[aeN,aev]at hc2;have hf2:=k2.frozen 0
 have hres:tK (w9.setCell ⟨bw,0,none⟩ (.slice A9 (n+z.size) c9)) B bw (n+z.size):=by
  refine⟨⟨A9,c9,xs++Lib.strCells z,(k2.aG 0 _).cast (by simp), ?_,fun u hu=>by rcases afq.1 hu with h|h;exact H3.out u h;exact Lib.strCells_oneCell z u h⟩,lg.out⟩
  exact eu aF (row:=some bw) (mX (iw _ _) (.inl rfl) _) (fun g cc t fz e1 e2=>by
   cases e1;have:=k2.symm.trans e2
   injection this with this
   injection this with _ ht
   rw[<-ht];decide)
 have jQ:=ah hres;have oN:=ah (hb.setCell (p:=⟨bw,0,none⟩) lg.out (.slice A9 (n+z.size) c9));clear aF aO bI hb k2 hres hc;go_wp2
 go_end0
 exact⟨rfl,jQ.out,oN.out⟩
def Vz (B bw n:Nat) (w:World) (h:tK w B bw n) (hn:n<=1073741824):
  Calls prog 208 #[.pointer (some ⟨bw,0,none⟩)] w fun e w'=> ∃A' c',e=.returned (.slice A' n c')/\Below w.heap.size w w':=by
 obtain⟨A,c,xs,h1,h2,h3⟩:=h.ex;have hc:=h1.cell 0;simp only[aeN,aev]at hc;have HC:=ah (akM w.heap.size A c n xs w (Reads.dZ h2) h3 hn (aej _));clear h h1 h2 h3 hn;go_enter func208,ntmps208;go_wp2_with fail;refine HC.mono ?_;rintro e w2 ⟨v,rfl,ho,hb⟩;obtain⟨A',c',rfl⟩:=aH ho;clear ho;go_wp2;go_ret;exact⟨A',c',rfl,hb⟩
def ak9 (w:World):Calls prog 204 #[] w fun e w'=>e=.returned (.pointer (some ⟨w.heap.size,0,none⟩))/\tK w' w.heap.size w.heap.size 0/\Below w.heap.size w w':=by
 go_enter func204,ntmps204;go_wp2;go_ret;exact⟨rfl,⟨⟨none,0,[],ak.new _ _ _,arU _ _ _ _,fun u hu=>by cases hu⟩,aej _⟩,(aoa _ _).alloc (aej _) _⟩
def uD (k:Int):Nat:=if au.nZ k=1 then 1 else 8
def VA (n:Int): ∃x:Nat,IntKind.u64.wrap n=(x:Int)/\x<18446744073709551616:=⟨au.u64 n,Un n,au.KE n⟩
def acN (B bw n:Nat) (k m:Int) (w:World) (h:tK w B bw n) (hk:au.In64 k) (hn:n<=1073741000) (hB:B<=w.heap.size):
  Calls prog 206 #[.pointer (some ⟨bw,0,none⟩),.int .i64 k,.int .i64 m] w fun e w'=>e=.returned (.tuple #[])/\tK w' B bw (n+uD k)/\Below B w w':=by
 have HB:=ah (Ur k w hk);obtain⟨x,hx,hlt⟩:=VA m;have H1:=ah (KX B bw n 1 x w h (.inl rfl) hn hB hlt);have H8:=ah (KX B bw n 8 x w h (.inr (.inr rfl)) hn hB hlt);obtain⟨b,hb⟩:=aj (au.nZ k);have HL:Hid (uD k=if b=1 then 1 else 8):=by show uD k=_;unfold uD;rw[hb]
 rw[hb]at HB;clear h hk hn hB hlt hb;by_cases h1:b=1
 ·have t1:(b == 1)=true:=afc.2 h1
  have hl:=HL.out;rw[aeu h1]at hl;rw[hl];clear h1 H8 hl;go_enter func206,ntmps206;go_wp2_with fail;refine iq8 HB ?_;go_wp2_with fail;refine tq8 H1 fun w2 hw hb=>?_;have HW:=ah hw;have aN:=ah hb;clear hw hb;go_wp2;refine arW (asR rfl _ _ _) rfl ?_;exact⟨rfl,HW.out,aN.out⟩
 have t1:(b == 1)=false:=aek.2 h1;have hl:=HL.out;rw[aer h1]at hl;rw[hl];clear h1 H1 hl;go_enter func206,ntmps206;go_wp2_with fail;refine iq8 HB ?_;go_wp2_with fail;refine tq8 H8 fun w2 hw hb=>?_;have HW:=ah hw;have aN:=ah hb;clear hw hb;go_wp2
 go_end0
 exact⟨rfl,HW.out,aN.out⟩
def acO (B bw n:Nat) (z:ByteArray) (w:World) (h:tK w B bw n) (hz:z.size<=1073741) (hn:n<=1073740000) (hB:B<=w.heap.size):
  Calls prog 207 #[.pointer (some ⟨bw,0,none⟩),.string z] w fun e w'=>e=.returned (.tuple #[])/\tK w' B bw (n+(2+z.size))/\Below B w w':=by
 have hzi:(z.size:Int)<=1073741:=by omega
 refine gq3 (KX B bw n 2 z.size w h (.inr (.inl rfl)) (by omega) hB (by omega)) (fun(W:World) (hw:tK W B bw (n+2)) (hb:B<=W.heap.size)=>ak8 B bw (n+2) z W hw hz (by omega) hb) hB fun H2 HS rW=>?_
 clear h hz hn hB;go_enter func207,ntmps207;go_wp2_with fail;refine tq8 H2 fun w1 hw hb=>?_;have HC:=ah (HS.out w1 hw (aep rW.out hb.size));have aN:=ah hb;clear hw hb;go_wp2_with fail;refine tq8 HC fun w2 hw hb=>?_;have HW:=ah hw;have HB2:=ah (aN.trans hb);clear hw hb;go_wp2
 go_end0
 exact⟨rfl,by rw[<-anL];exact HW.out,HB2.out⟩
def VB {l:List au.L} (h:au.oZ l=false): ∀t∈l,t.length<=1000:=by
 intro t ht;unfold au.oZ at h;rw[List.any_eq_false]at h;have:=h t ht;simp at this;exact this
def acP {l:List (List UInt8)} {k:Nat} {t:List UInt8} (h:l[k]?=some t):((l.take (k+1)).map fun t=>2+t.length).sum=((l.take k).map fun t=>2+t.length).sum+(2+t.length):=by
 rw[afS,h];simp
def VD {l:List (List UInt8)} (h: ∀t∈l,t.length<=1000):(l.map fun t=>2+t.length).sum<=1002*l.length:=by
 induction l with
 |nil=>simp
 |cons a l ih=>
  have:=ih fun t ht=>h t (by simp[ht])
  have:=h a (by simp)
  simp only[agQ,List.sum_cons,ae7];omega
def ala (B:Nat) (u:Value) (v:au.V) (w:World) (h:qM w B u v) (hB:B<=w.heap.size) (h0:au.check v=0):
  Calls prog 164 #[u] w fun e w'=> ∃A c,e=.returned (.tuple #[.slice A (Gr.qw v) c,.int .i64 0])/\Below w.heap.size w w':=by
 obtain⟨hp1,xG,-,EF,BR,htl,kK,-⟩:=au.TY h0;have hch:=fun(W:World) (hb:Below w.heap.size w W)=>check_any B u v W (h.below (hb.mono hB)) (aep hB hb.size)
 rw[h0]at hch;obtain⟨A1,c1,A2,c2,rfl,dK,dN⟩:=h.ex;have Yg:=ah h.kin;obtain⟨k0,n0,t0,ns,ts⟩:=v;simp only at hch dK dN hp1 xG EF BR htl kK Yg⊢;obtain⟨z,hz⟩:=aj (⟨t0.toArray⟩:ByteArray);have hzs:z.size=t0.length:=by rw[<-hz];exact dR _
 rw[hz]at hch⊢;obtain⟨nn,hnn⟩:=aj ns.length;obtain⟨tn,htn⟩:=aj ts.length;rw[hnn]at hch EF dK⊢;rw[htn]at hch BR dN⊢;obtain⟨W1,hW1⟩:=aj (w.alloc (.cells #[.int .i64 k0,.int .i64 n0,.string z,.slice A1 nn c1,.slice A2 tn c2] 43));have hb1:Below w.heap.size w W1:=by rw[<-hW1];exact(aoa _ w).alloc (aej _) _
 have k1:ak W1 w.heap.size 43 #[.int .i64 k0,.int .i64 n0,.string z,.slice A1 nn c1,.slice A2 tn c2]:=by rw[<-hW1];exact ak.new _ _ _
 refine gq7 (hch W1 hb1) k1 hb1 hW1 hB (dK.below (hb1.mono hB)) (dN.below (hb1.mono hB)) fun GU dw HB1 HW1 dG R1 R2=>?_
 have hE:Gr.qw ⟨k0,n0,t0,ns,ts⟩=if k0<4 then 1+uD k0 else if k0=4 then 3+z.size else 2+nn*uD k0+(ts.map fun t=>2+t.length).sum:=by
  unfold Gr.qw uD au.nZ;simp only;by_cases h4:k0<4
  ·rw[aeu h4,aeu h4,aer (by omega: ¬4<k0)]
   by_cases h1:k0=1
   ·rw[aeu h1,aeu h1]
   rw[aer h1,aer h1]
  rw[aer h4,aer h4];by_cases h5:k0=4
  ·rw[aeu h5,aeu h5,hzs]
  rw[aer h5,aer h5,aeu (show 4<k0 by omega),hnn]
  by_cases h6:k0=5
  ·rw[aeu h6,aeu (show k0 - 4=1 by omega)]
  rw[aer h6,aer (show¬k0 - 4=1 by omega)]
 obtain⟨E,G6⟩:=aj (Gr.qw ⟨k0,n0,t0,ns,ts⟩);rw[G6]at hE⊢;refine gq4 hE (VB kK) htn hnn fun HE G7 aW aC=>?_;have hzb:z.size<=1000:=by omega
 have HZB:=ah hzb;clear hch dK dN hb1 k1 hW1 h h0 hE G6 hz hzs hnn htn htl kK hB;go_enter func164,ntmps164
 go_upto_region 1 with fail
 rw[HW1.out];clear HW1;obtain⟨a0,a1,a2,a3,a4,-⟩:=gQ dw.out;go_wp2_with fail;refine mq8 GU fun w2 hb2=>?_;refine gq4 (rJ HB1.out hb2) (dw.below hb2 dw.lt) (R1.out.below (hb2.mono (aep dG.out HB1.size))) (R2.out.below (hb2.mono (aep dG.out HB1.size))) fun HB2 aP HR1 HR2=>?_;clear a0 a1 a2 a3 a4 hb2 GU R1 R2;go_wp2_with fail;refine tq7 (ak9 w2) fun w3 hw3 hb3=>?_;have hbl:w2.heap.size<=w3.heap.size:=hb3.size;have HB3:=ah hb3;obtain⟨a0,a1,a2,a3,a4,-⟩:=gQ (aP.below hb3 aP.lt);obtain⟨x0,hx0,hlt0⟩:=VA k0;have HN:=ah (KX w2.heap.size w2.heap.size 0 1 x0 w3 hw3 (.inl rfl) (by decide) hbl hlt0)
 clear hw3 hb3 hlt0;go_wp2_with fail;refine tq8 HN fun w4 hw4 hb4=>?_;have CP:=ah hw4;have HB4:=ah hb4;have hl4:=hb4.size;have Yh:w2.heap.size<=w4.heap.size:=aep hbl hl4;have AB:=ah (fun(W:World) (hb:Below w2.heap.size w3 W)=>gQ ((aP.below HB3.out aP.lt).below hb aP.lt))
 clear a0 a1 a2 a3 a4 hw4 hb4 HN;obtain⟨a0,a1,a2,a3,a4,-⟩:=AB.out w4 HB4.out;have hBB:B<=w2.heap.size:=aep dG.out HB2.size;by_cases h3:k0<=3
 ·have t3:decide (k0<=3)=true:=aei h3
  have iI:=ah (acN w2.heap.size w2.heap.size (0+1) k0 n0 w4 CP.out Yg.out (by decide) Yh)
  have afD:uD k0<=8:=by unfold uD;split<;>omega
  have EH:=ah (show E=0+1+uD k0 by rw[HE.out,aeu (by omega)])
  clear hx0;go_wp2_with fail;refine tq8 iI fun w5 hw5 hb5=>?_;have NH:=ah hw5;have dI:=ah (HB4.trans hb5);clear a0 a1 a2 a3 a4 hw5 hb5;have xg:=ah (Vz w2.heap.size w2.heap.size (0+1+uD k0) w5 NH.out (by omega))
  have oN:=ah (rJ HB2.out (HB3.trans dI.out));go_wp2_with fail;refine xg.mono ?_;rintro e w9 ⟨A',c',rfl,aB⟩;have cZ:=ah (rJ oN.out aB);clear aB;go_wp2
  go_ret2
  exact⟨A',c',by rw[EH.out];rfl,cZ.out⟩
 have t3:decide (k0<=3)=false:=dF h3;have h3':3<k0:=by omega
 by_cases h4:k0=4
 ·have t4:(k0 == 4)=true:=afc.2 h4
  have iI:=ah (acO w2.heap.size w2.heap.size (0+1) z w4 CP.out (by have:=HZB.out;omega) (by decide) Yh)
  have EH:=ah (show E=0+1+(2+z.size) by rw[HE.out,aer (by omega),aeu h4];omega)
  clear hx0 h4 h3;go_wp2_with fail;refine tq8 iI fun w5 hw5 hb5=>?_;have NH:=ah hw5;have dI:=ah (HB4.trans hb5);have hzz:=HZB.out;clear a0 a1 a2 a3 a4 hw5 hb5;have xg:=ah (Vz w2.heap.size w2.heap.size (0+1+(2+z.size)) w5 NH.out (by omega))
  have oN:=ah (rJ HB2.out (HB3.trans dI.out));go_wp2_with fail;refine xg.mono ?_;rintro e w9 ⟨A',c',rfl,aB⟩;have cZ:=ah (rJ oN.out aB);clear aB;go_wp2
  go_ret2
  exact⟨A',c',by rw[EH.out];rfl,cZ.out⟩
 have t4:(k0 == 4)=false:=aek.2 h4;have h5:4<k0:=by omega
 obtain⟨x1,hx1,hlt1⟩:=VA ((nn:Int)+(tn:Int));have iI:=ah (KX w2.heap.size w2.heap.size (0+1) 1 x1 w4 CP.out (.inl rfl) (by decide) Yh hlt1)
 have EH:=ah (show E=0+1+1+nn*uD k0+(ts.map fun t=>2+t.length).sum by rw[HE.out,aer (by omega),aer h4])
 obtain⟨L,hL⟩:=aj (uD k0);have afD:L<=8:=by rw[<-hL];unfold uD;split<;>omega
 have bY:=ah hL;rw[hL]at EH;clear hx0 h4 h3 hlt1 hL;go_wp2_with fail;refine tq8 iI fun w5 hw5 hb5=>?_;have tN:=ah hw5;have dI:=ah (HB4.trans hb5);clear a0 a1 a2 a3 a4 hw5 hb5 hx1 iI;obtain⟨a0,a1,a2,a3,a4,-⟩:=AB.out w5 dI.out;have aq9:(nn:Int)<=40:=by omega
 have ara:(tn:Int)<=40:=by omega
 go_wp2_with fail
 go_loopg [34] nn (fun g x wr=> ∃k:Nat,x=.int .i64 k/\k+g=nn/\tK wr w2.heap.size w2.heap.size (0+1+1+k*L)/\Below w2.heap.size w3 wr)
 case atStart=>exact⟨0,rfl,by omega,by simpa using tN.out,dI.out⟩
 obtain⟨k,rfl,hk,hwr,hbr⟩:=hrel;refine gq3 hwr hbr hk fun NI G8 HKK=>?_;clear hwr hbr a0 a1 a2 a3 a4;obtain⟨a0,a1,a2,a3,a4,-⟩:=AB.out wr G8.out;have aoS:w2.heap.size<=wr.heap.size:=aep hbl G8.size;have NJ:k*L<=40*8:=aoL (by omega) afD
 cases gk with
 |succ g=>
  have hkn:k<nn:=by omega
  have dW:(k:Int)<nn:=by omega
  obtain⟨p,o,x,rfl,qN,hx,hp⟩:=(HR1.below ((HB3.trans G8.out).mono hBB)).cell hkn;rw[aeY]at hx;obtain⟨y,hy,rfl⟩:=afr.1 hx;unfold I64 at hp;have iI:=ah (acN w2.heap.size w2.heap.size (0+1+1+k*L) k0 y wr NI.out Yg.out (by omega) aoS)
  rw[bY.out]at iI;clear hx hy hk hkn NJ;go_wp2_with fail;refine tq8 iI fun w6 hw6 hb6=>?_;have Gv:=ah hw6;have G9:=ah (G8.trans hb6);clear hw6 hb6 a0 a1 a2 a3 a4 hp;go_wp2
  go_roundg g
  case measure=>omega
  exact⟨k+1,int_eq (by omega),by have:=HKK.out;omega,by rw[an1,<-anL];exact Gv.out,G9.out⟩
 |zero=>
  obtain rfl:k=nn:=by omega
  clear hk;go_wp2_with fail
  go_loopg [47] tn (fun g x wx=> ∃j:Nat,x=.int .i64 j/\j+g=tn/\tK wx w2.heap.size w2.heap.size (0+1+1+k*L+((ts.take j).map fun t=>2+t.length).sum)/\Below w2.heap.size w3 wx)
  case atStart=>exact⟨0,rfl,by omega,by simpa using NI.out,G8.out⟩
  obtain⟨j,rfl,hj,hwr,hbr⟩:=hrel;rename_i wx;refine gq3 hwr hbr hj fun afE NK HJ=>?_;clear hwr hbr a0 a1 a2 a3 a4;obtain⟨a0,a1,a2,a3,a4,-⟩:=AB.out _ NK.out
  have hsum:((ts.take j).map fun t=>2+t.length).sum<=1002*40:=by
   have h1:=VD (l:=ts.take j) (fun t ht=>G7.out t (aoB ht))
   have h2:(ts.take j).length<=40:=by rw[afo];have:=aW.out;omega
   exact aep h1 (ag6 _ h2)
  cases gk with
  |succ g=>
   have hjn:j<tn:=by omega
   have BQ:(j:Int)<tn:=by omega
   obtain⟨p,o,x,rfl,qN,hx,hp⟩:=(HR2.below ((HB3.trans NK.out).mono hBB)).cell hjn;rw[aeY]at hx;obtain⟨y,hy,rfl⟩:=afr.1 hx;unfold ST at hp;obtain⟨zy,hzy⟩:=aj (⟨y.toArray⟩:ByteArray);rw[hzy]at hp;have hzl:zy.size=y.length:=by rw[<-hzy];exact dR _
   have hyl:=G7.out y (aew hy);refine gq3 (acO w2.heap.size w2.heap.size _ zy _ afE.out (by omega) (by omega) (aep hbl NK.size)) (acP hy) hzl fun iI jT yB=>?_
   clear hx hy hj hjn NJ hsum hzy hzl hyl;go_wp2_with fail;refine tq8 iI fun w6 hw6 hb6=>?_;have Gv:=ah hw6;have G9:=ah (NK.trans hb6);clear hw6 hb6 a0 a1 a2 a3 a4 hp;go_wp2
   go_roundg g
   case measure=>omega
   exact⟨j+1,int_eq (by omega),by have:=HJ.out;omega,by rw[jT.out,<-yB.out,<-anL];exact Gv.out,G9.out⟩
  |zero=>
   obtain rfl:j=tn:=by omega
   have hfin:ts.take j=ts:=aeG (by rw[aW.out];exact aej _)
   have Yi:=afE.out;rw[hfin]at Yi hsum;have NH:=ah Yi;clear hj hfin Yi;have xg:=ah (Vz w2.heap.size w2.heap.size _ _ NH.out (by omega))
   have oN:=ah (rJ HB2.out (HB3.trans NK.out));go_wp2_with fail;refine xg.mono ?_;rintro e w9 ⟨A',c',rfl,aB⟩;have cZ:=ah (rJ oN.out aB);clear aB;go_wp2
   go_ret2
   exact⟨A',c',by rw[EH.out];rfl,cZ.out⟩
def alb (B:Nat) (u:Value) (v:au.V) (w:World) (h:qM w B u v) (hB:B<=w.heap.size) (h0:au.check v=0):
  Calls prog 106 #[u] w fun e w'=>e=.returned (.int .i64 (Gr.qw v:Nat))/\Below w.heap.size w w':=by
 have he:=fun(W:World) (hb:Below w.heap.size w W)=>ala B u v W (h.below (hb.mono hB)) (aep hB hb.size) h0
 obtain⟨A1,c1,A2,c2,rfl,dK,dN⟩:=h.ex;obtain⟨W1,hW1⟩:=aj (w.alloc (.cells #[.int .i64 v.kind,.int .i64 v.num,.string ⟨v.text.toArray⟩,.slice A1 v.nums.length c1,.slice A2 v.texts.length c2] 43));have hb1:Below w.heap.size w W1:=by rw[<-hW1];exact(aoa _ w).alloc (aej _) _
 have k1:ak W1 w.heap.size 43 #[.int .i64 v.kind,.int .i64 v.num,.string ⟨v.text.toArray⟩,.slice A1 v.nums.length c1,.slice A2 v.texts.length c2]:=by rw[<-hW1];exact ak.new _ _ _
 refine gq3 (he W1 hb1) hW1 hb1 fun HE HW1 HB1=>?_;obtain⟨a0,a1,a2,a3,a4,-⟩:=gQ k1;clear he dK dN hW1 hb1 k1 h h0;go_enter func106,ntmps106
 go_upto_region 1 with fail
 rw[HW1.out];clear HW1;go_wp2_with fail;refine HE.mono ?_;rintro e w2 ⟨A',c',rfl,hb2⟩;have HB2:=ah (rJ HB1.out hb2);clear hb2;go_wp2;go_ret;exact⟨rfl,HB2.out⟩
end Go.Proofs.YtdijgcnlbfgkdaaGreatDoor
