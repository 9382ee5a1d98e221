/- Contracts and plain laws,part 29. -/
import Derived.Test.YtkdakckjafomhaaGreatDoorUW28
set_option maxHeartbeats 64000000
set_option maxRecDepth 1000000
set_option linter.all false
namespace Go.Proofs.YtkdakckjafomhaaGreatDoor
open Go.RowKit Go.Maps
structure vF (w:World) (u v:Value) (l:List Int) (V:World):Prop where
 box:au V w.heap.size 26 #[u,v]
 map:eP V (w.heap.size+1) l
 bel:Below w.heap.size w V
theorem vF.below {w V V':World} {u v:Value} {l:List Int} (h:vF w u v l V) (hb:Below V.heap.size V V'):vF w u v l V':=
 ⟨h.box.below hb h.box.lt,h.map.below hb,h.bel.trans (hb.mono h.bel.size)⟩
theorem vF.put {w V V':World} {u v:Value} {l l':List Int} (h:vF w u v l V) (hc:eP V' (w.heap.size+1) l') (hg:V.grownBy V' (some (w.heap.size+1))):vF w u v l' V':=
 ⟨h.box.grown hg (by simp),hc,h.bel.grown hg h.bel.size (fun j e=>by cases e;omega)⟩
theorem vF.start (w:World) (u v:Value):vF w u v [] ((w.alloc (.cells #[u,v] 26)).alloc (.map #[] 0)):=by
 have h1:=eP.made (w.alloc (.cells #[u,v] 26));rw[World.size_alloc]at h1
 exact⟨(au.new w _ _).alloc _,h1,((Below.refl _ w).alloc (ac4 _) _).alloc (by simp) _⟩
theorem abQ {g:Gr.G} {k e:Nat} {n:Gr.N} (hn:g.nodes[k]?=some n) (he:Gr.iM (Gr.aH Gr.N.id g.nodes k) n=e) (hne:e≠0) (h0: ∀j a,j<k->g.nodes[j]?=some a->Gr.iM (Gr.aH Gr.N.id g.nodes j) a=0):Gr.check g=(e,k):=by
 have:=Gr.TT Gr.iM Gr.N.id (i:=0) hn he hne h0;rw[afW]at this;unfold Gr.check
 rw[this,adk hne]
theorem abR {g:Gr.G} {k e:Nat} {r:Gr.R} (hz: ∀j a,g.nodes[j]?=some a->Gr.iM (Gr.aH Gr.N.id g.nodes j) a=0) (hn:g.aA[k]?=some r) (he:Gr.jw (g.nodes.map Gr.N.id) (Gr.aH Gr.R.id g.aA k) r=e) (hne:e≠0)
  (h0: ∀j a,j<k->g.aA[j]?=some a->Gr.jw (g.nodes.map Gr.N.id) (Gr.aH Gr.R.id g.aA j) a=0):Gr.check g=(e,g.nodes.length+k):=by
 unfold Gr.check
 rw[Gr.C9 Gr.iM Gr.N.id hz,ade (by decide),Gr.TT (Gr.jw (g.nodes.map Gr.N.id)) Gr.R.id (i:=g.nodes.length) hn he hne h0,adk hne]
theorem abS {g:Gr.G} (hz: ∀j a,g.nodes[j]?=some a->Gr.iM (Gr.aH Gr.N.id g.nodes j) a=0) (hr: ∀j a,g.aA[j]?=some a->Gr.jw (g.nodes.map Gr.N.id) (Gr.aH Gr.R.id g.aA j) a=0):
  Gr.check g=if 200<(Gr.dedup (Gr.ql g)).length\/200<(Gr.dedup (Gr.names2 g)).length\/200<(Gr.dedup (Gr.jP g)).length then(66,0) else if 262144<Gr.weight g then(67,0) else(0,0):=by
 unfold Gr.check
 rw[Gr.C9 Gr.iM Gr.N.id hz,ade (by decide),Gr.C9 (Gr.jw (g.nodes.map Gr.N.id)) Gr.R.id hr,ade (by decide)]
theorem abT (B:Nat) (u:Value) (g:Gr.G) (w:World) (h:jQ w B u g) (hB:B<=w.heap.size):
  Calls Tryz.prog 13 #[u] w fun e w'=>e=.returned (.tuple #[.int .i64 ((Gr.check g).1:Nat),.int .i64 ((Gr.check g).2:Nat)])/\Below w.heap.size w w':=by
 have HG:=ah h;have hok:=h.ok;obtain⟨An,cn,Ar,cr,rfl,hN,hR⟩:=h.ex
 have hmm:= @run_makeMap Tryz.prog;have HN:=ah hN;have HR:=ah hR;have aV:=ah hok
 obtain⟨nn,hnn⟩:=aj g.nodes.length;obtain⟨rn,hrn⟩:=aj g.aA.length;have hnl:=hok.nl
 have hrl:=hok.rl;rw[hnn]at hnl;rw[hrn]at hrl;rw[hnn,hrn]at HG;rw[hnn,hrn]
 have aC:=ah hnn;have fP:=ah hrn
 have qw:=ah (fun(V:World) (k:Nat) (n:Gr.N) (hb:Below B w V) (hn:g.nodes[k]?=some n) (hs:B<=V.heap.size)=>akE B An cn g.nodes k n V (hN.below hb (iO.below hb)) hs hok.nl hok.ns hn)
 have yh:=ah (fun(V:World) (k:Nat) (r:Gr.R) (mb:Nat) (ids:List Int) (hb:Below B w V) (hn:g.aA[k]?=some r) (hs:B<=V.heap.size) (hc:eP V mb ids)=>akF B Ar cr g.aA k r mb ids V (hR.below hb (iP.below hb)) hs hok.rl hok.rs hn hc)
 rw[hnn]at qw;rw[hrn]at yh;clear hN hR hok h hnn hrn
 have HST:=ah (vF.start w (.slice An nn cn) (.slice Ar rn cr))
 obtain⟨W1,hW1⟩:=aj ((w.alloc (.cells #[.slice An nn cn,.slice Ar rn cr] 26)).alloc (.map #[] 0))
 have HW1:=ah hW1;rw[hW1]at HST;clear hW1;obtain⟨c0,c1⟩:=cells2 HST.box
 go_enter Tryz.func13,Tryz.ntmps13
 go_upto_region 2 with fail
 rw[HW1.out];clear HW1;go_wp2_with fail
 go_loopg [15] nn (fun q x wr=> ∃k:Nat,x=.int .i64 k/\k+q=nn/\vF w (.slice An nn cn) (.slice Ar rn cr) ((g.nodes.map Gr.N.id).take k) wr/\ ∀j a,j<k->g.nodes[j]?=some a->Gr.iM (Gr.aH Gr.N.id g.nodes j) a=0)
 case atStart=>exact⟨0,rfl,by omega,HST.out,fun j a h=>by omega⟩
 obtain⟨k,rfl,hk,hrl,hz⟩:=hrel;have aO:=ah hrl;have HK:=ah hk;have HZ:=ah hz
 clear hrl hz c0 c1;cases gk with
 |succ q=>
  have hkn:k<nn:=by omega
  have dH:(k:Int)<nn:=by omega
  obtain⟨n,hn⟩: ∃n,g.nodes[k]?=some n:=⟨_,dF (by rw[aC.out];exact hkn)⟩
  obtain⟨b,o,Al,cl,Ap,cp,rfl,hbB,⟨D0,D1,D2⟩,-,-⟩:=HN.node hn;have hBW:=aO.bel.mono hB
  have d0:=(hBW.cell (p:=⟨b,o+k*3,none⟩) hbB).trans D0
  have d1:=(hBW.cell (p:=⟨b,o+k*3+1,none⟩) hbB).trans D1
  have d2:=(hBW.cell (p:=⟨b,o+k*3+2,none⟩) hbB).trans D2
  obtain⟨WN,bQ⟩:=aj (wr.alloc (.cells #[.int .i64 n.id,.slice Al n.labels.length cl,.slice Ap n.props.length cp] 42))
  have fU:=ah bQ
  have zU:=ah (show vF w _ _ _ WN by rw[<-bQ];exact aO.below ((Below.refl _ _).alloc (ac4 _) _))
  have bW:=ah (show au WN wr.heap.size 42 #[.int .i64 n.id,.slice Al n.labels.length cl,.slice Ap n.props.length cp] by rw[<-bQ];exact au.new _ _ _)
  have hcn:=qw.out WN k n (zU.bel.mono hB) hn (adg hB zU.bel.size)
  obtain⟨E,hE⟩:=aj (Gr.iM (Gr.aH Gr.N.id g.nodes k) n);rw[hE]at hcn;have HC:=ah hcn
  have HE:=ah hE;have BG:=ah hn;have aer:=(aV.ns n (adI hn)).id;have tH:=ah aer
  clear bQ hbB D0 D1 D2 hk hkn hBW hcn hE aer hn
  go_upto_region 5 with fail
  rw[fU.out];clear d0 d1 d2;obtain⟨c0,c1⟩:=cells2 zU.box;go_wp2_with fail
  refine HC.mono ?_;rintro e w2 ⟨rfl,hb⟩;have HR2:=ah (zU.below hb)
  have aY:=ah (bW.below hb bW.lt);clear hb c0 c1 HC;cases E with
  |succ e=>
   have hck:=abQ BG.out HE.out (by omega) HZ.out
   have bf:=ah hck;have hne:(((e+1:Nat):Int) !=0)=true:=by rw[adY];omega
   clear hck;go_wp2
   go_ret2
   exact⟨by rw[bf.out];rfl,HR2.bel⟩
  |zero=>
   have Gv:=ah (zf BG.out HZ.out HE.out);obtain⟨L,hL⟩:=aj ((g.nodes.map Gr.N.id).take k)
   have gY:L.length<1073741824:=by rw[<-hL,aeb,adU,aC.out];have:=HK.out;omega
   rw[hL]at HR2;obtain⟨N,hNc⟩:=aj (L.count n.id)
   have qX:N<=L.length:=by rw[<-hNc];exact afU
   have hlk:=HR2.map.look (t:=80) Tryz.underlying80 tH.out;rw[hNc]at hlk;have jF:=ah hNc
   have HL:=ah hL;have nG:=ah gY;have hNi:(N:Int)<=1073741824:=by omega
   obtain⟨d0,d1,d2⟩:=cells3 aY.out;clear hNc hL gY qX
   go_wp2_with (at_mapUpdate;refine PL _ rfl HR2.map (by have:=nG.out;omega) (.tmp 28) (.tmp 30) (.tmp 32) 80 rfl Tryz.underlying80 rfl n.id tH.out rfl (by rw[jF.out];rfl) ?_)
   intro w3 hc3 hg3;have HR3:=ah (HR2.put hc3 hg3);clear hc3 hg3 hlk d0 d1 d2;go_wp2
   go_roundg q
   case measure=>omega
   exact⟨k+1,int_eq (by omega),by have:=HK.out;omega,by rw[IC (a:=n.id) (by rw[adX,BG.out];rfl),HL.out];exact HR3.out,Gv.out⟩
 |zero=>
  obtain rfl:k=nn:=by omega
  have Jk: ∀j a,g.nodes[j]?=some a->Gr.iM (Gr.aH Gr.N.id g.nodes j) a=0:=fun j a ha=>HZ.out j a (by have:=(adw.1 ha).1;have:=aC.out;omega) ha
  have hfin:(g.nodes.map Gr.N.id).take k=g.nodes.map Gr.N.id:=ado (by rw[adU,aC.out];exact ac4 _)
  have hrl2:=aO.out;rw[hfin]at hrl2;have vX:=ah hrl2;have gy:=ah Jk
  obtain⟨c0,c1⟩:=cells2 hrl2.box;clear hfin hrl2 hk Jk aO HZ HST;go_wp2_with fail
  go_loopg [37] rn (fun q x wr=> ∃m:Nat,x=.int .i64 m/\m+q=rn/\vF w (.slice An k cn) (.slice Ar rn cr) (g.nodes.map Gr.N.id) wr/\ ∀j a,j<m->g.aA[j]?=some a->Gr.jw (g.nodes.map Gr.N.id) (Gr.aH Gr.R.id g.aA j) a=0)
  case atStart=>exact⟨0,rfl,by omega,vX.out,fun j a h=>by omega⟩
  obtain⟨m,rfl,hm,hrl,hz⟩:=hrel;have aO:=ah hrl;have HK:=ah hm;have HZ:=ah hz
  clear hrl hz c0 c1;cases gk with
  |succ q=>
   have hmn:m<rn:=by omega
   have aes:(m:Int)<rn:=by omega
   obtain⟨r,hr⟩: ∃r,g.aA[m]?=some r:=⟨_,dF (by rw[fP.out];exact hmn)⟩
   have hcr:=yh.out wr m r (w.heap.size+1) (g.nodes.map Gr.N.id) (aO.bel.mono hB) hr (adg hB aO.bel.size) aO.map
   obtain⟨E,hE⟩:=aj (Gr.jw (g.nodes.map Gr.N.id) (Gr.aH Gr.R.id g.aA m) r);rw[hE]at hcr
   have HC:=ah hcr;have HE:=ah hE;have BG:=ah hr;obtain⟨c0,c1⟩:=cells2 aO.box
   clear hm hmn hcr hE hr;go_wp2_with fail;refine HC.mono ?_;rintro e w2 ⟨rfl,hb⟩
   have HR2:=ah (aO.below hb);clear hb c0 c1 HC;obtain⟨c0,c1⟩:=cells2 HR2.box
   cases E with
   |succ e=>
    have hck:=abR gy.out BG.out HE.out (by omega) HZ.out
    have bf:=ah hck;have hne:(((e+1:Nat):Int) !=0)=true:=by rw[adY];omega
    clear hck
    go_upto_region 15 with fail
    go_quiet (fail)
    go_wp2
    go_ret2
    exact⟨by rw[bf.out,aC.out,aga];rfl,below_drewN HR2.bel nq⟩
   |zero=>
    have Gv:=ah (zf BG.out HZ.out HE.out);go_wp2
    go_roundg q
    case measure=>omega
    exact⟨m+1,int_eq (by omega),by have:=HK.out;omega,HR2.out,Gv.out⟩
  |zero=>
   obtain rfl:m=rn:=by omega
   have Gw: ∀j a,g.aA[j]?=some a->Gr.jw (g.nodes.map Gr.N.id) (Gr.aH Gr.R.id g.aA j) a=0:=fun j a ha=>HZ.out j a (by have:=(adw.1 ha).1;have:=fP.out;omega) ha
   have hrest:=abS gy.out Gw;have BH:Gr.uZ g.nodes:=⟨fun j n hn=>Gr.Pv.1 (gy.out j n hn)⟩
   have Ed:Gr.y9 (g.nodes.map Gr.N.id) g.aA:=⟨fun j n hn=>Gr.Px.1 (Gw j n hn)⟩
   have xM:=ah (Gr.aar BH Ed);have HPV:=ah (Gr.aas BH Ed);have dJ:=ah BH.Io
   have rF:=ah hrest
   have H1:=ah (fun(V:World) (hb:Below w.heap.size w V)=>akO B _ g V (HG.below (hb.mono hB)) (adg hB hb.size) (by have:=dJ.out;unfold Gr.ql;omega))
   have H2:=ah (fun(V:World) (hb:Below w.heap.size w V)=>akP B _ g V (HG.below (hb.mono hB)) (adg hB hb.size))
   have H3:=ah (fun(V:World) (hb:Below w.heap.size w V)=>U4 B _ g V (HG.below (hb.mono hB)) (adg hB hb.size) (by have:=xM.out;omega))
   have HW:=ah (fun(V:World) (hb:Below w.heap.size w V)=>akN B _ g V (HG.below (hb.mono hB)) (adg hB hb.size) HPV.out (by have:=xM.out;omega))
   obtain⟨l1,hl1⟩:=aj ((Gr.dedup (Gr.ql g)).length)
   obtain⟨l2,hl2⟩:=aj ((Gr.dedup (Gr.names2 g)).length)
   obtain⟨l3,hl3⟩:=aj ((Gr.dedup (Gr.jP g)).length);obtain⟨wt,hwt⟩:=aj (Gr.weight g)
   rw[hl1]at H1 rF;rw[hl2]at H2 rF;rw[hl3]at H3 rF;rw[hwt]at HW rF
   clear hm hrest BH Ed Gw hl1 hl2 hl3 hwt qw yh;obtain⟨c0,c1⟩:=cells2 aO.box
   go_wp2_with fail;refine wp_loop_rounds 4 ?_;rw[rounds_succ];go_wp2_with fail
   refine(H1.out wr aO.bel).mono ?_;rintro e w2 ⟨A1,d1,rfl,-,hb⟩
   have vY:=ah (aO.below hb);clear hb c0 c1;obtain⟨c0,c1⟩:=cells2 vY.box
   by_cases hq1:200<l1
   ·have t1:decide (200<l1)=true:=adb hq1
    have KL:(200:Int)<l1:=by omega
    have hck:Gr.check g=(66,0):=by rw[rF.out,adk (.inl hq1)]
    have bf:=ah hck;clear hck hq1 H1 H2 H3 HW;go_wp2
    go_ret2
    exact⟨by rw[bf.out];rfl,vY.bel⟩
   have t1:decide (200<l1)=false:=ac5 hq1;have KL:(l1:Int)<=200:=by omega
   go_wp2_with fail;rw[rounds_succ];go_wp2_with fail;refine(H2.out w2 vY.bel).mono ?_
   rintro e w3 ⟨A2,d2,rfl,-,hb⟩;have HS2:=ah (vY.below hb);clear hb c0 c1
   obtain⟨c0,c1⟩:=cells2 HS2.box;by_cases hq2:200<l2
   ·have t2:decide (200<l2)=true:=adb hq2
    have WX:(200:Int)<l2:=by omega
    have hck:Gr.check g=(66,0):=by rw[rF.out,adk (.inr (.inl hq2))]
    have bf:=ah hck;clear hck hq2 H1 H2 H3 HW;go_wp2
    go_ret2
    exact⟨by rw[bf.out];rfl,HS2.bel⟩
   have t2:decide (200<l2)=false:=ac5 hq2;have WX:(l2:Int)<=200:=by omega
   go_wp2_with fail;rw[rounds_succ];go_wp2_with fail;refine(H3.out w3 HS2.bel).mono ?_
   rintro e w4 ⟨A3,d3,rfl,-,hb⟩;have aZ:=ah (HS2.below hb);clear hb c0 c1
   obtain⟨c0,c1⟩:=cells2 aZ.box;by_cases hq3:200<l3
   ·have t3:decide (200<l3)=true:=adb hq3
    have WZ:(200:Int)<l3:=by omega
    have hck:Gr.check g=(66,0):=by rw[rF.out,adk (.inr (.inr hq3))]
    have bf:=ah hck;clear hck hq3 H1 H2 H3 HW;go_wp2
    go_ret2
    exact⟨by rw[bf.out];rfl,aZ.bel⟩
   have t3:decide (200<l3)=false:=ac5 hq3;have WZ:(l3:Int)<=200:=by omega
   go_wp2_with fail;rw[rounds_succ];go_wp2_with fail;refine(HW.out w4 aZ.bel).mono ?_
   rintro e w5 ⟨rfl,hb⟩;have qA:=ah (aZ.below hb);clear hb c0 c1;by_cases hq4:262144<wt
   ·have t4:decide (262144<wt)=true:=adb hq4
    have Xa:(262144:Int)<wt:=by omega
    have hck:Gr.check g=(67,0):=by rw[rF.out,ade (by omega),adk hq4]
    have bf:=ah hck;clear hck hq4 H1 H2 H3 HW;go_wp2
    go_ret2
    exact⟨by rw[bf.out];rfl,qA.bel⟩
   have t4:decide (262144<wt)=false:=ac5 hq4;have Xa:(wt:Int)<=262144:=by omega
   have hck:Gr.check g=(0,0):=by rw[rF.out,ade (by omega),ade hq4]
   have bf:=ah hck;clear hck hq4 H1 H2 H3 HW;go_wp2
   go_ret2
   exact⟨by rw[bf.out];rfl,qA.bel⟩
end Go.Proofs.YtkdakckjafomhaaGreatDoor
namespace Go.Proofs.YtkdakckjafomhaaGreatDoor
open Go.RowKit
theorem Cy.Ll.ok {v:ak.V} (h:Cy.Ll v):IX v:=
 ⟨⟨by have:=h.kin;omega,by have:=h.kin;omega⟩,h.num,h.nums,adg h.tl (by decide),adg h.nl (by decide),adg h.sl (by decide),fun t ht=>adg (h.sz t ht) (by decide)⟩
theorem Cy.Lm.ok {p:Gr.P} (h:Cy.Lm p):uF p:=⟨adg h.key (by decide),h.val.ok⟩
theorem Cy.QC.ok {n:Gr.N} (h:Cy.QC n):QE n:=
 ⟨⟨by have:=h.lo;omega,by have:=h.hi;omega⟩,adg h.ll (by decide),fun l hl=>adg (h.ls l hl) (by decide),adg h.pl (by decide),fun p hp=>(h.ps p hp).ok⟩
theorem Cy.QD.ok {n:Gr.R} (h:Cy.QD n):VR n:=
 ⟨⟨by have:=h.lo;omega,by have:=h.hi;omega⟩,adg h.tl (by decide),⟨by have:=h.src;omega,by have:=h.src;omega⟩,⟨by have:=h.dst;omega,by have:=h.dst;omega⟩,adg h.pl (by decide),fun p hp=>(h.ps p hp).ok⟩
theorem Cy.uD.ok {g:Gr.G} (h:Cy.uD g):DT g:=
 ⟨adg h.lens.1 (by decide),fun n hn=>(h.ns n hn).ok,adg h.lens.2 (by decide),fun n hn=>(h.rs n hn).ok⟩
theorem IE {β:Type} {W:World} {B e size n c:Nat} {A:Option Addr} {R:β->List Value->Prop} {l:List (β×List Value)} (h:W.ownsRow B e size (.slice A n c) n (l.flatMap Prod.snd)) (hn:l.length=n) (hs: ∀x∈l,x.2.length=size) (hR: ∀x∈l,R x.1 x.2):bY W W.heap.size size R A (l.map Prod.fst):=fun i a ha=>by
 rw[adX]at ha;obtain⟨x,hx,rfl⟩:=ae4.1 ha;have hi:=(adw.1 hx).1
 obtain⟨b,off,e,hb,hc⟩:=(Reads.dI h).2 (by omega)
 have hm:=adI hx;refine⟨b,off,x.2,e,hb,hR x hm,hs x hm,fun j u hu=> ?_⟩
 have hj:j<size:=by have:=(adw.1 hu).1;rw[hs x hm]at this;exact this
 have:=hc _ u ((flat_get (f:=Prod.snd) hs hx j hj).trans hu)
 rwa [<-amQ]at this
theorem fB.c {W:World} {B:Nat} {x:Gr.P×List Value} (h:fB W B x):aX W W.heap.size x.1 x.2:=by
 obtain⟨s,t,e,h1,h2⟩:=h;obtain⟨A1,c1,rfl⟩:=aF h1;obtain⟨A2,c2,rfl⟩:=aF h2
 exact⟨A1,c1,A2,c2,e,Reads.dI h1,Reads.dI h2⟩
theorem cu.lst {T:TypeId} {W:World} {B n c:Nat} {A:Option Addr} {ps:List Gr.P} (h:cu T W B (.slice A n c) ps):bY W W.heap.size 6 (aX W W.heap.size) A ps:=by
 obtain⟨l,rfl,h1,h2⟩:=h
 have e:(l.map Prod.fst).length=n:=by
  rcases h2.2 with⟨e,h0⟩|⟨g,cap,cur,e,-⟩
  ·injection e with _ e;rw[h0,e]
  injection e with _ e;exact e.symm
 rw[e]at h2
 exact IE h2 (by rw[<-e,adU]) (fun x hx=>(h1 x hx).len) (fun x hx=>(h1 x hx).c)
theorem je.c {W:World} {B:Nat} {x:Gr.N×List Value} (h:je W B x):iO W W.heap.size x.1 x.2:=by
 obtain⟨s,t,e,h1,h2⟩:=h;obtain⟨A1,c1,rfl⟩:=aF h1;obtain⟨A2,c2,rfl⟩:=h2.form
 exact⟨A1,c1,A2,c2,e,Reads.dI h1,h2.lst⟩
theorem jy.c {W:World} {B:Nat} {x:Gr.R×List Value} (h:jy W B x):iP W W.heap.size x.1 x.2:=by
 obtain⟨t,e,h2⟩:=h;obtain⟨A2,c2,rfl⟩:=h2.form;exact⟨A2,c2,e,h2.lst⟩
theorem dR.yC {W:World} {B:Nat} {u:Value} {g:Gr.G} (h:dR W B u g) (ok:DT g):jQ W W.heap.size u g:=by
 obtain⟨sn,sr,ln,lr,rfl,q1,q2,q3,q4,q5,q6⟩:=h;obtain⟨A1,c1,rfl⟩:=aF q3
 obtain⟨A2,c2,rfl⟩:=aF q6;refine⟨⟨A1,c1,A2,c2,rfl, ?_, ?_⟩,ok⟩
 ·have:=IE q3 (by rw[<-q1,adU]) (fun x hx=>(q2 x hx).len) (fun x hx=>(q2 x hx).c)
  rwa [q1]at this
 have:=IE q6 (by rw[<-q4,adU]) (fun x hx=>(q5 x hx).len) (fun x hx=>(q5 x hx).c)
 rwa [q4]at this
theorem dR.G0 (W:World) (B:Nat):dR W B (.agg #[.slice none 0 0,.slice none 0 0]) Gr.G0:=⟨_,_,[],[],rfl,rfl,by simp,World.ownsRow_nil _ _ _ _,rfl,by simp,World.ownsRow_nil _ _ _ _⟩
theorem dR.below {W W':World} {B:Nat} {u:Value} {g:Gr.G} (h:dR W B u g) (hb:Below W.heap.size W W'):dR W' B u g:=by
 have hk:Kt 0 0 W W':=Kt.of_below hb (afP _);obtain⟨sn,sr,ln,lr,e,q1,q2,q3,q4,q5,q6⟩:=h
 exact⟨sn,sr,ln,lr,e,q1,fun x hx=>(q2 x hx).kt hk (by decide) (by decide) (by decide),jf q3 hk (by decide),q4,fun x hx=>(q5 x hx).kt hk (by decide) (by decide) (by decide),jf q6 hk (by decide)⟩
theorem dR.lower {W:World} {B B':Nat} {u:Value} {g:Gr.G} (h:dR W B u g) (hb:B'<=B):dR W B' u g:=by
 obtain⟨sn,sr,ln,lr,e,q1,q2,q3,q4,q5,q6⟩:=h
 refine⟨sn,sr,ln,lr,e,q1,fun x hx=> ?_,iy q3 hb,q4,fun x hx=> ?_,iy q6 hb⟩
 ·obtain⟨s,t,e,o1,o2⟩:=q2 x hx
  exact⟨s,t,e,iy o1 hb,o2.base hb⟩
 obtain⟨t,e,o2⟩:=q5 x hx;exact⟨t,e,o2.base hb⟩
def abU (w:World) (R:Gr.G×Nat) (e:Ending) (w':World):Prop:= ∃u,e=.returned (.tuple #[u,.int .i64 (R.2:Nat)])/\dR w' w.heap.size u R.1/\Below w.heap.size w w'
theorem pW {fn:Func} {R:Ending->World->Prop} {tmps:Array Value} {W:World} {p q:Tmp} {b:Nat} {v0 v1 v2:Value} (hfn:fn.results= #[.cell p 26,.tmp q])
  (ht:tmps.getD p undef=.pointer (some ⟨b,0,none⟩)) (hq:tmps.getD q undef=v2) (hB:au W b 26 #[v0,v1]) (hR:R (.returned (.tuple #[.agg #[v0,v1],v2])) W):
  bodyPost Tryz.prog fn R .ret {tmps:=tmps,defers:=[]} W:=by
 obtain⟨c0,c1⟩:=cells2 hB;refine bodyPost_ret (v:=.tuple #[.agg #[v0,v1],v2]) ?_ rfl hR
 simp at ht hq;simp[results,hfn,go_sem,ht,hq,c0,c1]
theorem au.failed {w V:World} {u0 u1:Value} (h:au V w.heap.size 26 #[u0,u1]) (hb:Below w.heap.size w V) (v0 v1:Value):au ((V.setCell ⟨w.heap.size,0,none⟩ v0).setCell ⟨w.heap.size,1,none⟩ v1) w.heap.size 26 #[v0,v1]/\Below w.heap.size w ((V.setCell ⟨w.heap.size,0,none⟩ v0).setCell ⟨w.heap.size,1,none⟩ v1):=
 ⟨au.cast ((h.bP 0 v0).bP 1 v1) (by simp),(hb.setCell (p:=⟨w.heap.size,0,none⟩) (ac4 _) v0).setCell (p:=⟨w.heap.size,1,none⟩) (ac4 _) v1⟩
def akQ (R:List Gr.R×Nat) (w:World) (e:Ending) (w':World):Prop:=
 ∃v,e=.returned (.tuple #[v,.int .i64 (R.2:Nat)])/\gu w' w.heap.size v R.1/\Below w.heap.size w w'
structure Xb (w:World) (mt mb:Nat) (ids:List Int) (acc:List Gr.R) (v:Value) (V:World):Prop where
 bel:Below w.heap.size w V
 thr:eP V mt ids
 map:eP V mb (acc.map Gr.R.id)
 own:gu V w.heap.size v acc
theorem akR {W:World} {B n c:Nat} {A:Option Addr} {ns:List Gr.N} (h:eU W B (.slice A n c) ns) {k:Nat} {x:Gr.N} (hk:ns[k]?=some x):
  ∃b off Al ll cl Ap pl cp,A=some ⟨b,off,none⟩/\b<W.heap.size/\W.cell? ⟨b,off+k*3,none⟩=some (.int .i64 x.id)/\W.cell? ⟨b,off+k*3+1,none⟩=some (.slice Al ll cl)/\W.cell? ⟨b,off+k*3+2,none⟩=some (.slice Ap pl cp):=by
 obtain⟨ln,h1,h2,h3⟩:=h;obtain⟨A',c',e⟩:=aF h3
 injection e with e1 e2 e3
 subst e1 e2 e3
 have hl:=IE (R:=fun n cs=>je W B (n,cs)) h3 (by rw[<-h1,adU]) (fun x hx=>(h2 x hx).len) h2
 rw[h1]at hl;obtain⟨b,off,cs,e,hb,⟨s,t,ec,o1,o2⟩,-,hc⟩:=hl k x hk
 obtain⟨A1,c1,rfl⟩:=aF o1;obtain⟨A2,c2,rfl⟩:=o2.form;simp only at ec;subst ec
 exact⟨b,off,_,_,_,_,_,_,e,hb,hc 0 _ rfl,hc 1 _ rfl,hc 2 _ rfl⟩
theorem P6 {ids:List Int} {s:List UInt8} (h:Tb.known 1024 s=none):Tb.endP ids s=none:=by unfold Tb.endP;rw[h]
theorem abV {ids:List Int} {s:List UInt8} {n:Int} (h:Tb.known 1024 s=some n) (hn:ids.count n=0):Tb.endP ids s=none:=by
 unfold Tb.endP;rw[h];exact ade fun hm=>by have:=am7.2 hm;omega
theorem abW {ids:List Int} {s:List UInt8} {n:Int} (h:Tb.known 1024 s=some n) (hn:ids.count n≠0):Tb.endP ids s=some n:=by
 unfold Tb.endP;rw[h];exact adk (am7.1 (by omega))
theorem akS (B B1:Nat) (A An:Option Addr) (n c nn cn:Nat) (rows:List (List (List UInt8))) (ns:List Gr.N) (w:World) (h:kY w B (.slice A n c) rows) (hn:rows.length=n) (hnb:n<=16777217) (hrow: ∀r∈rows,Tb.Row r) (hB:B<=w.heap.size)
  (hns:eU w B1 (.slice An nn cn) ns) (hnn:ns.length=nn) (anQ:nn<=16777217) (hid: ∀n∈ns,ak.In64 n.id) (hL:Laid w):
  Calls Tryz.prog 11 #[.slice A n c,.slice An nn cn] w (akQ (Tb.oL (ns.map Gr.N.id) rows) w):=by
 obtain⟨R,hR⟩:=aj (Tb.oL (ns.map Gr.N.id) rows);rw[hR]
 have hh:=abB B A n c 4 rows ⟨#[58,73,68,44,58,83,84,65,82,84,44,58,69,78,68,44,58,84,89,80,69]⟩ Tb.iR w h hn (by omega) abD rfl (by decide) (by decide) (by decide) hrow hB hL
 unfold Tb.oL at hR;obtain⟨o,ho⟩:=aj (Tb.dK Tb.iR rows);rw[ho]at hR hh;have HH:=ah hh
 cases o with
 |none=>
  have hr:R=([],230):=hR.symm;subst hr;clear h hn hnb hrow hB hL hR hh ho hns hnn anQ hid
  go_enter Tryz.func11,Tryz.ntmps11;go_wp2_with fail;refine HH.mono ?_
  rintro e w1 ⟨A1,n1,c1,rfl,b1,-⟩;have HB1:=ah b1;clear b1 HH;go_wp2
  go_ret2
  exact⟨_,rfl,gu.nil _ _,HB1.out⟩
 |some ks=>
 obtain⟨ids,oz⟩:=aj (ns.map Gr.N.id)
 have hRR:Tb.qI ks (4+ks.length) ids rows.tail []=R:=by rw[<-oz];exact hR
 obtain⟨r0,rest,rfl⟩: ∃r0 rest,rows=r0 :: rest:=by
  cases rows with
  |nil=>cases ho
  |cons r0 rest=>exact⟨r0,rest,rfl⟩
 have hw0:r0.length=4+ks.length:=by
  rw[Tb.dK]at ho
  split at ho
  ·rename_i hc
   have e:=ad4 ho;have h1:=aeH List.length hc.1;rw[<-e,aej];rw[aeb]at h1
   have:Tb.iR.length=4:=rfl;omega
  cases ho
 obtain⟨b,off,Ar,cr,rfl,hbB,hcell,-,-,-⟩:=h.at (k:=0) rfl;rw[aft]at hcell
 obtain⟨kn,hkn⟩:=aj ks.length;obtain⟨wd,hwd⟩:=aj (4+ks.length);rw[hw0,hwd]at hcell
 rw[hwd]at hRR;have hwd2:wd=4+kn:=by omega
 obtain⟨m,hm⟩:=aj rest.length;have hnm:n=m+1:=by rw[<-hn,<-hm];rfl
 subst hnm;obtain⟨A',c',hf,hrc,hrm⟩:=h.form
 injection hf with hf1 hf2 hf3
 subst hf3;rw[hn]at hrc;have ad9:(1:Int)<=c:=by omega
 have HRW:=ah (show∀(k:Nat) r,rest[k]?=some r-> ∃Ar cr,w.cell? ⟨b,off+1+k,none⟩=some (.slice Ar r.length cr)/\r.length<=cr/\Reads w B 1 Ar r.length (r.map ST) from fun k r hk=>by
  obtain⟨b',off',Ar,cr,e,-,h1,h2,-,h3⟩:=h.at (k:=k+1) (r:=r) (by simpa using hk)
  injection e with e
  injection e with e1 e2
  subst e1 e2
  exact⟨Ar,cr,by rw[show off+1+k=off+(k+1) by omega];exact h1,h2,h3⟩)
 have jO:=ah hrow;have dh:=ah hB;have aK:=ah hbB;have HL:=ah hL;have HR:=ah hRR
 have HM:=ah hm;have oh:=ah hkn;have qJ:=ah hcell;have vZ:=ah hns;have aC:=ah hnn
 have sV:=ah hid;have MO:=ah oz;have hnb':m<=16777216:=by omega
 have hmm:= @run_makeMap Tryz.prog
 clear h hn hnb hrow hB hL hR hRR hh ho hw0 hbB hcell hkn hwd hm hf1 hf2 hrm hns hnn hid oz
 go_enter Tryz.func11,Tryz.ntmps11;go_wp2_with fail;refine HH.mono ?_
 rintro e w1 ⟨A1,n1,c1,rfl,b1,hks⟩;obtain⟨e1,hkr⟩:=hks ks rfl;rw[oh.out]at e1;subst e1
 obtain⟨W3,hW3⟩:=aj (w1.alloc (.map #[] 0));obtain⟨mt,hmt⟩:=aj w1.heap.size
 have hb3:Below w1.heap.size w1 W3:=hW3▸(Below.refl _ w1).alloc (ac4 _) _
 have jK:=ah (show eP W3 mt [] by rw[<-hW3,<-hmt];exact eP.made w1)
 have HB3:=ah (b1.trans (hb3.mono b1.size))
 have HMT:=ah (show w.heap.size<=mt by rw[<-hmt];exact b1.size)
 have o9:=ah (hkr.back (b1.mono dh.out));have HW3:=ah hW3;have wu:=ah hmm;have aeu:=ah hmt
 clear hb3 hW3 hks hkr b1 HH
 go_upto_region 5 with fail
 rw[HW3.out]
 try rw[aeu.out]
 clear HW3 hmm hmt aeu;go_wp2_with fail
 go_loopg [31] nn (fun q x wr=> ∃k:Nat,x=.int .i64 k/\k+q=nn/\Below w.heap.size w wr/\eP wr mt (ids.take k))
 case atStart=>exact⟨0,rfl,by omega,HB3.out,jK.out⟩
 obtain⟨k,rfl,hk,hb,hc⟩:=hrel;have HB:=ah hb;have HC:=ah hc;have HK:=ah hk
 clear hb hc HB3 jK;cases gk with
 |succ q=>
  have hkn:k<nn:=by omega
  have dH:(k:Int)<nn:=by omega
  obtain⟨x,hx⟩: ∃x,ns[k]?=some x:=⟨_,dF (by rw[aC.out];exact hkn)⟩
  obtain⟨nb,no,Al,ll,cl,Ap,pl,cp,rfl,hnb,e0,e1,e2⟩:=akR vZ.out hx
  have d0:=(HB.cell (p:=⟨nb,no+k*3,none⟩) hnb).trans e0
  have d1:=(HB.cell (p:=⟨nb,no+k*3+1,none⟩) hnb).trans e1
  have d2:=(HB.cell (p:=⟨nb,no+k*3+2,none⟩) hnb).trans e2
  have htk:ids.take (k+1)=ids.take k++[x.id]:=by rw[<-MO.out,ae3,adX,hx];rfl
  obtain⟨i,hi⟩:=aj x.id;rw[hi]at d0 htk
  have hxi:ak.In64 i:=by rw[<-hi];exact sV.out x (adI hx)
  obtain⟨WN,bQ⟩:=aj (wr.alloc (.cells #[.int .i64 i,.slice Al ll cl,.slice Ap pl cp] 42))
  obtain⟨nd,hnd⟩:=aj wr.heap.size
  have hbn:Below wr.heap.size wr WN:=bQ▸(Below.refl _ wr).alloc (ac4 _) _
  have anS:=ah (show au WN nd 42 #[.int .i64 i,.slice Al ll cl,.slice Ap pl cp] by rw[<-bQ,<-hnd];exact au.new _ _ _)
  have hcm:=HC.below hbn;obtain⟨LK,oq⟩:=aj (ids.take k);rw[oq]at hcm htk
  have vT:=hcm.look (t:=80) Tryz.underlying80 hxi
  have gY:LK.length<=16777217:=by rw[<-oq,aeb];omega
  obtain⟨N,hN⟩:=aj (LK.count i);have qX:N<=LK.length:=by rw[<-hN];exact afU
  rw[hN]at vT;have hNi:(N:Int)<=16777217:=by omega
  have HCM:=ah hcm;have jF:=ah hN;have Gl:=ah hxi;have nG:=ah gY;have iG:=ah htk
  have wC:=ah (HB.trans (hbn.mono HB.size));have fU:=ah bQ;have kZ:=ah hnd
  clear hx hnb e0 e1 e2 htk hi hxi bQ hnd hbn hcm oq gY qX hN hk
  go_upto_region 8 with fail
  rw[fU.out]
  try rw[kZ.out]
  clear fU d0 d1 d2;obtain⟨d0,d1,d2⟩:=cells3 anS.out
  go_wp2_with (at_mapUpdate;refine PL _ rfl HCM.out (by have:=nG.out;omega) (.tmp 35) (.tmp 37) (.tmp 39) 80 rfl Tryz.underlying80 rfl i Gl.out rfl (by rw[jF.out];rfl) ?_)
  intro w7 zO tC;have sW:=ah zO
  have bD:=ah (show Below w.heap.size w w7 from wC.trans ⟨tC.os,tC.tape,tC.output,tC.size,fun i hi=>tC.block i (adW hi wC.size) (fun e=>by cases e;have:=HMT.out;omega)⟩)
  clear zO tC vT d0 d1 d2;go_wp2
  go_roundg q
  case measure=>omega
  exact⟨k+1,int_eq (by omega),by have:=HK.out;omega,bD.out,by rw[iG.out];exact sW.out⟩
 |zero=>
  have hkn:nn=k:=by omega
  subst hkn;have hct:=HC.out;rw[ado (by rw[<-MO.out,adU,aC.out];exact ac4 _)]at hct
  obtain⟨W4,jG⟩:=aj (wr.alloc (.map #[] 0));obtain⟨mb,hmb⟩:=aj wr.heap.size
  have hb4:Below wr.heap.size wr W4:=jG▸(Below.refl _ wr).alloc (ac4 _) _
  have aZ:=ah (show Xb w mt mb ids [] (.slice none 0 0) W4 from⟨HB.trans (hb4.mono HB.size),hct.below hb4,by rw[<-jG,<-hmb];exact eP.made wr,gu.nil _ _⟩)
  have Bl:=ah (show w.heap.size<=mb by rw[<-hmb];exact HB.size)
  have QO:=ah (show mt≠mb from fun e=>by have:=hct.lt;omega)
  have hc3:W4.cell? ⟨b,off,none⟩=some (.slice Ar wd cr):=((HB.trans (hb4.mono HB.size)).cell (p:=⟨b,off,none⟩) (adW aK.out dh.out)).trans qJ.out
  have ou:=ah jG;have aev:=ah hmb;have hmm:=wu.out
  obtain⟨Aw,Gh⟩:=aj (if c=1 then some (⟨b,off,none⟩:Addr) else some ⟨b,off+1,none⟩)
  have WB:=ah (show 0<m->Aw=some ⟨b,off+1,none⟩ from fun h=>by rw[<-Gh,ade (by omega)])
  have L8:=ah Gh;clear Gh hct jG hmb hb4 hk HC
  go_upto_region 11 with fail
  rw[ou.out]
  try rw[aev.out]
  clear ou hmm aev
  go_upto_block 2 with fail
  rw[L8.out];clear L8;go_wp2_with fail
  go_loopg [4,45] m (fun q x y wr=> ∃k:Nat,∃acc A2 c2,x=.slice A2 acc.length c2/\y=.int .i64 k/\k+q=m/\acc.length<=k/\Xb w mt mb ids acc (.slice A2 acc.length c2) wr/\Hid (Tb.qI ks wd ids (rest.drop k) acc=R))
  case atStart=>exact⟨0,[],none,0,rfl,rfl,by omega,ac4 _,aZ.out,HR.out⟩
  obtain⟨k,acc,A2,c2,rfl,rfl,hk,hal,hs,he⟩:=hrel;have HS:=ah hs;have HK:=ah hk
  clear hs aZ HR hc3 HB;cases gk with
  |zero=>
   obtain rfl:k=m:=by omega
   have hr:R=(acc,0):=by
    have h:=he.out;rw[aeJ (by rw[HM.out];exact ac4 _)]at h
    exact h.symm
   subst hr;clear he hk hal;go_wp2
   go_ret2
   exact⟨_,rfl,HS.own,HS.bel⟩
  |succ q=>
   have hkn:k<m:=by omega
   have dH:(k:Int)<m:=by omega
   obtain rfl:=WB.out (by omega)
   obtain⟨r,hr⟩: ∃r,rest[k]?=some r:=⟨_,dF (by rw[HM.out];exact hkn)⟩
   obtain⟨A3,c3,hcr,Bo,hrr⟩:=HRW.out k r hr;have hrow:=jO.out r (afg _ (adI hr))
   obtain⟨rl,hrl⟩:=aj r.length;rw[hrl]at hcr Bo hrr;have hbw:=adW aK.out dh.out
   have WC:=(HS.bel.cell (p:=⟨b,off+1+k,none⟩) hbw).trans hcr
   have WE:=(HS.bel.cell (p:=⟨b,off,none⟩) hbw).trans qJ.out;have hp:=he.out
   rw[wV hr,Tb.qI,hrl]at hp;have hw1:w.heap.size<=wr.heap.size:=HS.bel.size
   by_cases lq:rl=wd
   case neg=>
    have hr2:R=([],231):=by rw[<-hp,adk lq]
    subst hr2;have t1:((rl:Int) !=wd)=true:=by rw[adY];omega
    clear he hp lq hr hrr hk hal hcr;go_wp2
    go_ret2
    exact⟨_,rfl,gu.nil _ _,HS.bel⟩
   subst lq;rw[ade (by simp)]at hp
   have t1:((rl:Int) !=rl)=false:=by simp
   obtain⟨b2,o2,rfl,hb2⟩:=hrr.blk (by omega)
   have Gi:=adW hb2 dh.out;obtain⟨f0,hf0⟩:=aj (r.getD 0 [])
   obtain⟨f1,hf1⟩:=aj (r.getD 1 []);obtain⟨f2,hf2⟩:=aj (r.getD 2 [])
   obtain⟨f3,hf3⟩:=aj (r.getD 3 []);obtain⟨q0,m0⟩:=hrr.fld (k:=0) (by omega)
   obtain⟨q1,m1⟩:=hrr.fld (k:=1) (by omega)
   obtain⟨q2,m2⟩:=hrr.fld (k:=2) (by omega)
   obtain⟨q3,m3⟩:=hrr.fld (k:=3) (by omega)
   rw[hf0]at q0 m0 hp;rw[hf1]at q1 m1 hp;rw[hf2]at q2 m2 hp;rw[hf3]at q3 m3 hp
   have s0:=hrow.2 f0 m0;have s1:=hrow.2 f1 m1;have s2:=hrow.2 f2 m2;have s3:=hrow.2 f3 m3
   obtain⟨z0,hz0⟩:=aj (⟨f0.toArray⟩:ByteArray)
   obtain⟨z1,hz1⟩:=aj (⟨f1.toArray⟩:ByteArray)
   obtain⟨z2,hz2⟩:=aj (⟨f2.toArray⟩:ByteArray)
   obtain⟨z3,hz3⟩:=aj (⟨f3.toArray⟩:ByteArray);have qY:z0.data.toList=f0:=by rw[<-hz0]
   have qZ:z1.data.toList=f1:=by rw[<-hz1]
   have Gx:z2.data.toList=f2:=by rw[<-hz2]
   have Ee:z3.data.toList=f3:=by rw[<-hz3]
   have hst3:ST f3=.string z3:=by rw[<-hz3];rfl
   rw[show ST f0=.string z0 by rw[<-hz0];rfl,aft]at q0
   rw[show ST f1=.string z1 by rw[<-hz1];rfl]at q1
   rw[show ST f2=.string z2 by rw[<-hz2];rfl]at q2
   rw[hst3]at q3;have Gj:=PW z0 2048 wr (by rw[Lib.size_eq,qY];omega) (HL.below HS.bel)
   have hkn2:=fun(V:World) (hb:Below w.heap.size w V)=>PW z1 1024 V (by rw[Lib.size_eq,qZ];omega) (HL.below hb)
   have Xc:=fun(V:World) (hb:Below w.heap.size w V)=>PW z2 1024 V (by rw[Lib.size_eq,Gx];omega) (HL.below hb)
   have hgn:=fun(V:World)=>Iu z3 V (by rw[Lib.size_eq,Ee];omega)
   rw[qY]at Gj;rw[qZ]at hkn2;rw[Gx]at Xc;rw[Ee]at hgn
   obtain⟨gb,hgb⟩:=aj (Gr.bC f3);rw[hgb]at hgn hp;have L9:=ah Gj;have Wx:=ah hkn2
   have aew:=ah Xc;have dQ:=ah hgn;have anT:=ah hst3
   have nI:=ah (fun(V:World) (Bq:Below w.heap.size w V)=>show V.cell? ⟨b2,o2,none⟩=some (.string z0)/\V.cell? ⟨b2,o2+1,none⟩=some (.string z1)/\V.cell? ⟨b2,o2+2,none⟩=some (.string z2)/\V.cell? ⟨b2,o2+3,none⟩=some (.string z3)/\V.cell? ⟨b,off+1+k,none⟩=some (.slice (some ⟨b2,o2,none⟩) rl c3) from
    ⟨(Bq.cell (p:=⟨b2,o2,none⟩) Gi).trans q0,(Bq.cell (p:=⟨b2,o2+1,none⟩) Gi).trans q1,(Bq.cell (p:=⟨b2,o2+2,none⟩) Gi).trans q2,(Bq.cell (p:=⟨b2,o2+3,none⟩) Gi).trans q3,(Bq.cell (p:=⟨b,off+1+k,none⟩) hbw).trans hcr⟩)
   have lC:=ah (fun(V:World) (hb:wr.grownBy V (some mb))=>show Below w.heap.size w V from HS.bel.trans ⟨hb.os,hb.tape,hb.output,hb.size,fun i hi=>hb.block i (by omega) (fun e=>by cases e;have:=Bl.out;omega)⟩)
   obtain⟨g0,g1,g2,g3,-⟩:=nI.out wr HS.bel;have HE:=ah hp;have HRR:=ah hrr
   have Bv:=ah hrow;have aO:=ah hrl;have hI1:(1:Int)<rl:=by omega
   have hI2:(2:Int)<rl:=by omega
   have hI3:(3:Int)<rl:=by omega
   have hI4:(4:Int)<=rl:=by omega
   have hI5:(4:Int)<=c3:=by omega
   have hI6:(rl:Int)<=c3:=by omega
   clear he hp hr hrr hk hcr q0 m0 q1 m1 q2 m2 q3 m3 s0 s1 s2 s3 hz0 hz1 hz2 hz3 qY qZ Gx Ee hst3 Gj hkn2 Xc hgn hf0 hf1 hf2 hf3 hrow hrl hb2 hgb
   go_wp2_with fail;refine L9.mono ?_;rintro e w5 ⟨x,bb,rfl,b5,hbb,hxx⟩
   have xQ:=ah (dL b5 (some mb));have BI:=ah (HS.map.below b5)
   have QW:=ah (HS.thr.below b5);clear g0 g1 g2 g3 WC WE b5 L9
   obtain⟨g0,g1,g2,g3,-⟩:=nI.out w5 (lC.out _ xQ.out);have he:=HE.out
   cases hkw:Tb.known 2048 f0 with
   |none=>
    rw[hkw]at he hbb;have hr2:R=([],62):=he.symm;subst hr2;obtain rfl:bb=false:=hbb
    clear he;go_wp2
    go_ret2
    exact⟨_,rfl,gu.nil _ _,lC.out _ xQ.out⟩
   |some id=>
   rw[hkw]at he hbb;obtain rfl:bb=true:=hbb;obtain rfl:x=id:=hxx id hkw;simp only at he
   obtain⟨hx0,hx1,hxi⟩:=Dp hkw (by decide)
   obtain⟨LK,oq⟩:=aj (acc.map Gr.R.id);have hcm:=BI.out;rw[oq]at he hcm
   have vT:=hcm.look (t:=80) Tryz.underlying80 hxi;obtain⟨N,hN⟩:=aj (LK.count x)
   have gY:LK.length<=16777216:=by rw[<-oq,adU];omega
   have qX:N<=LK.length:=by rw[<-hN];exact afU
   rw[hN]at vT;have hNi:(N:Int)<=16777216:=by omega
   have HCM:=ah hcm;have jF:=ah hN;have L6:=ah oq;have Gl:=ah hxi;have nG:=ah gY
   have HE2:=ah he;clear he hxx hkw hcm hN oq qX gY hxi HE hx0 hx1 BI
   go_wp2_with (at_mapUpdate;refine PL _ rfl HCM.out (by have:=nG.out;omega) (.tmp 65) (.tmp 66) (.tmp 68) 80 rfl Tryz.underlying80 rfl x Gl.out rfl (by rw[jF.out];rfl) ?_)
   intro w7 zO tC;have zQ:wr.grownBy w7 (some mb):=tZ xQ.out tC;have zS:=ah zQ
   have hlk2:=zO.look (t:=80) Tryz.underlying80 Gl.out;rw[apf,jF.out,aoI]at hlk2
   have sW:=ah zO;have HT7:=ah (QW.kept tC (fun e=>QO.out (ad4 e)))
   clear zO tC vT HCM g0 g1 g2 g3 xQ QW;obtain⟨g0,g1,g2,g3,-⟩:=nI.out w7 (lC.out _ zQ)
   by_cases hN0:N=0
   case neg=>
    have t2:decide ((1:Int)<((N+1:Nat):Int))=true:=adb (by omega)
    have hr2:R=([],7):=by
     rw[<-HE2.out,adk (am7.1 (by rw[jF.out];omega))]
    subst hr2;go_wp2
    go_ret2
    exact⟨_,rfl,gu.nil _ _,lC.out _ zQ⟩
   subst hN0;have t2:decide ((1:Int)<((0+1:Nat):Int))=false:=ac5 (by omega)
   have he:=HE2.out;rw[ade (fun h=>by have:=am7.2 h;rw[jF.out]at this;omega)]at he
   have ru:=ah he;clear he HE2 zQ;go_wp2_with fail
   refine(Wx.out w7 (lC.out _ zS.out)).mono ?_;rintro e w8 ⟨x1,y1,rfl,b8,hy1,hx1⟩
   have QX:=ah (EU zS.out b8);have HC8:=ah (sW.below b8);have HT8:=ah (HT7.below b8)
   have Dz:=ah hy1;have HX1:=ah hx1;clear g0 g1 g2 g3 hlk2 b8 zS sW HT7 t2 hy1 hx1 Wx
   obtain⟨g0,g1,g2,g3,-⟩:=nI.out w8 (lC.out _ QX.out);go_wp2_with fail
   refine(aew.out w8 (lC.out _ QX.out)).mono ?_;rintro e w9 ⟨x2,y2,rfl,b9,hy2,hx2⟩
   have kK:=ah (EU QX.out b9);have qP:=ah (HC8.below b9);have QY:=ah (HT8.below b9)
   clear g0 g1 g2 g3 b9 QX HC8 HT8 aew;obtain⟨g0,g1,g2,g3,-⟩:=nI.out w9 (lC.out _ kK.out)
   have hu:=lM;have he:=ru.out;cases hk1:Tb.known 1024 f1 with
   |none=>
    have hy:=Dz.out;rw[hk1]at hy;obtain rfl:y1=false:=hy
    have hr2:R=([],65):=by rw[<-he,P6 hk1]
    subst hr2;clear he hk1 hy2 hx2;go_wp2
    go_ret2
    exact⟨_,rfl,gu.nil _ _,lC.out _ kK.out⟩
   |some i1=>
   have hy:=Dz.out;rw[hk1]at hy;obtain rfl:y1=true:=hy;obtain rfl:x1=i1:=HX1.out i1 hk1
   cases hk2:Tb.known 1024 f2 with
   |none=>
    rw[hk2]at hy2;obtain rfl:y2=false:=hy2
    have hr2:R=([],65):=by
     rw[<-he,P6 hk2];cases Tb.endP ids f1<;>rfl
    subst hr2;clear he hk1 hk2 hx2;go_wp2
    go_ret2
    exact⟨_,rfl,gu.nil _ _,lC.out _ kK.out⟩
   |some i2=>
   rw[hk2]at hy2;obtain rfl:y2=true:=hy2;obtain rfl:x2=i2:=hx2 i2 hk2
   obtain⟨-,-,hi1⟩:=Dp hk1 (by decide)
   obtain⟨-,-,hi2⟩:=Dp hk2 (by decide)
   have hl1:=QY.look (t:=80) Tryz.underlying80 hi1
   have hl2:=QY.look (t:=80) Tryz.underlying80 hi2;obtain⟨N1,hN1⟩:=aj (ids.count x1)
   obtain⟨N2,BJ⟩:=aj (ids.count x2);rw[hN1]at hl1;rw[BJ]at hl2;by_cases h1:N1=0
   ·have hr2:R=([],65):=by rw[<-he,abV hk1 (hN1.trans h1)]
    subst hr2 h1;clear he hk1 hk2 hx2 hN1 BJ hi1 hi2;go_wp2
    go_ret2
    exact⟨_,rfl,gu.nil _ _,lC.out _ kK.out⟩
   by_cases h2:N2=0
   ·have hr2:R=([],65):=by
     rw[<-he,abV hk2 (BJ.trans h2)];cases Tb.endP ids f1<;>rfl
    have t1:((N1:Int) == 0)=false:=by rw[adh];omega
    subst hr2 h2;clear he hk1 hk2 hx2 hN1 BJ hi1 hi2;go_wp2
    go_ret2
    exact⟨_,rfl,gu.nil _ _,lC.out _ kK.out⟩
   rw[abW hk1 (hN1▸h1),abW hk2 (BJ▸h2)]at he;simp only at he
   have t1:((N1:Int) == 0)=false:=by rw[adh];omega
   have t2:((N2:Int) == 0)=false:=by rw[adh];omega
   have Jf:=ah he;clear he hk1 hk2 hx2 hN1 BJ hi1 hi2 h1 h2 ru;go_wp2_with fail
   refine(dQ.out _).mono ?_;rintro e w10 ⟨rfl,rfl⟩;clear hl1 hl2 t1 t2;have he:=Jf.out
   cases gb with
   |false=>
    have hr2:R=([],60):=by rw[<-he,adk rfl]
    subst hr2;clear he;go_wp2
    go_ret2
    exact⟨_,rfl,gu.nil _ _,lC.out _ kK.out⟩
   |true=>
   rw[ade (by decide)]at he
   obtain⟨Q,hQ⟩:=aj (Tb.bM ks (r.drop 4));obtain⟨ps,ep⟩:=Q;rw[hQ]at he
   have hpw:=lC.out _ kK.out
   have hdr:=(HRR.below (hpw.mono dh.out)).cut (k:=4) (c:=c3) (by omega) Bo
   obtain⟨Av,hAv⟩:=aj (if c3=4 then some (⟨b2,o2,none⟩:Addr) else some ⟨b2,o2+4,none⟩)
   rw[<-aq9,show rl - 4=n1 by omega,hAv]at hdr
   have hpr:=abl B A1 Av c1 (c3 - 4) n1 ks (r.drop 4) w9 (o9.below (hpw.mono dh.out)) hdr (by have h:=Bv.out.1;rw[aO.out]at h;omega) (fun f hf=>Bv.out.2 f (aoE hf)) (adg dh.out hpw.size) (HL.below hpw)
   rw[hQ]at hpr;have cZ:=ah hpr;have MB:=ah he;clear he hQ hdr hpr hpw Jf
   go_wp2_with fail;refine cZ.mono ?_;rintro e nN ⟨vp,rfl,op,b11⟩
   obtain⟨Ap,cp,rfl⟩:=op.form;have jS:=EU kK.out b11;have Md:=qP.below b11
   have aeA:=QY.below b11
   have hno:jy nN w.heap.size (⟨x,f3,x1,x2,ps⟩,[.int .i64 x,.string z3,.int .i64 x1,.int .i64 x2,.slice Ap ps.length cp]):=⟨_,by rw[<-anT.out],op.base (adg hw1 kK.size)⟩
   have hns:=HS.own.k0 (Kt.ad5 HS.map jS Bl.out);have Bz:=lC.out _ jS
   obtain⟨al,hal2⟩:=aj acc.length;obtain⟨ln,h1,h2,h3⟩:=hns;have lX:=ah hal2
   have jo:=ah (fun(v':Value) (w':World) (hg:nN.grownBy w' (Value.ownBlock (.slice A2 acc.length c2))) (ho:w'.ownsRow w.heap.size 44 5 v' (acc.length+1) (ln.flatMap Prod.snd++[.int .i64 x,.string z3,.int .i64 x1,.int .i64 x2,.slice Ap ps.length cp]))=>gu.put h1 h2 h3 hno Bz.size hg ho)
   rw[hal2]at h3 jo hal⊢;have H3:=ah h3;have Me:=ah Md;have aeB:=ah aeA;have Jh:=ah Bz
   have x9:al<536870912:=by omega
   have hszW:=Bz.size;clear g0 g1 g2 g3 op b11 jS Md aeA hno Bz hal2 h1 h2 h3 qP QY kK cZ
   obtain⟨g0,g1,g2,g3,-⟩:=nI.out nN Jh.out;by_cases nJ:ep=0
   case neg=>
    have t3:((ep:Int) !=0)=true:=by rw[adY];omega
    have hr2:R=([],ep):=by rw[<-MB.out,adk nJ]
    subst hr2;clear nJ;go_wp2
    go_ret2
    exact⟨_,rfl,gu.nil _ _,Jh.out⟩
   subst nJ;have he:=MB.out;rw[ade (by simp)]at he
   have HE6:=ah he;clear he MB
   go_wp2_with (at_builtin;refine JF rfl (.tmp 122) (.tmp 131) 24 44 (.agg #[.int .i64 0,.string ⟨#[]⟩,.int .i64 0,.int .i64 0,.slice none 0 0]) 5 64 Tryz.underlying24 Uh rfl (by decide) (by decide) rfl w.heap.size (.slice A2 al c2) al (ln.flatMap Prod.snd) nN rfl H3.out [.int .i64 x,.string z3,.int .i64 x1,.int .i64 x2,.slice Ap ps.length cp] _ rfl rfl (by simp[Value.oneCell']) rfl x9 hszW ?_)
   intro v12 w12 jT ig yu rC;obtain⟨yw,c12,rfl⟩:=aF jT
   have rD:=ah (show Xb w mt mb ids (acc++[⟨x,f3,x1,x2,ps⟩]) (.slice yw (al+1) c12) w12 from⟨Jh.trans rC,aeB.kept ig (Ue H3.out aeB.out),by rw[ad8,L6.out];exact Me.kept ig (Ue H3.out Me.out),jo.out _ _ ig jT⟩)
   have HLEN:=ah (show(acc++[(⟨x,f3,x1,x2,ps⟩:Gr.R)]).length=al+1 by rw[adf,lX.out];rfl)
   clear jT ig yu rC g0 g1 g2 g3;go_wp2
   go_roundg q
   case measure=>omega
   exact⟨k+1,acc++[⟨x,f3,x1,x2,ps⟩],yw,c12,by rw[HLEN.out],int_eq (by omega),by have:=HK.out;omega,by rw[HLEN.out];omega,by rw[HLEN.out];exact rD.out,HE6⟩
end Go.Proofs.YtkdakckjafomhaaGreatDoor
