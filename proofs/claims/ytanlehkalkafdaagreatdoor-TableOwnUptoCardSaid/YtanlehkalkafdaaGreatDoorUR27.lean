/- Contracts and plain laws,part 27. -/
import Derived.Test.YtanlehkalkafdaaGreatDoorUR26
set_option maxHeartbeats 64000000
set_option maxRecDepth 1000000
set_option linter.all false
namespace Go.Proofs.YtanlehkalkafdaaGreatDoor
open Go.RowKit Go.Maps
structure CkRel (w:World) (u v:Value) (l:List Int) (V:World):Prop where
 box:Blk V w.heap.size 25 #[u,v]
 map:CntI V (w.heap.size+1) l
 bel:Below w.heap.size w V
theorem CkRel.below {w V V':World} {u v:Value} {l:List Int} (h:CkRel w u v l V) (hb:Below V.heap.size V V'):CkRel w u v l V':=
 ⟨h.box.below hb h.box.lt,h.map.below hb,h.bel.trans (hb.mono h.bel.size)⟩
theorem CkRel.put {w V V':World} {u v:Value} {l l':List Int} (h:CkRel w u v l V) (hc:CntI V' (w.heap.size+1) l') (hg:V.grownBy V' (some (w.heap.size+1))):CkRel w u v l' V':=
 ⟨h.box.grown hg (by simp),hc,h.bel.grown hg h.bel.size (fun j e=>by cases e;omega)⟩
theorem CkRel.start (w:World) (u v:Value):CkRel w u v [] ((w.alloc (.cells #[u,v] 25)).alloc (.map #[] 0)):=by
 have h1:=CntI.made (w.alloc (.cells #[u,v] 25));rw[World.size_alloc]at h1
 exact⟨(Blk.new w _ _).alloc _,h1,((Below.refl _ w).alloc (rM _) _).alloc (by simp) _⟩
theorem check_nodes {g:Gr.G} {k e:Nat} {n:Gr.N} (hn:g.nodes[k]?=some n) (he:Gr.nodeWrong (Gr.prevAt Gr.N.id g.nodes k) n=e) (hne:e≠0) (h0: ∀j a,j<k->g.nodes[j]?=some a->Gr.nodeWrong (Gr.prevAt Gr.N.id g.nodes j) a=0):Gr.check g=(e,k):=by
 have:=Gr.first_bad Gr.nodeWrong Gr.N.id (i:=0) hn he hne h0;rw[wL]at this
 unfold Gr.check;rw[this,rY hne]
theorem check_rels {g:Gr.G} {k e:Nat} {r:Gr.R} (hz: ∀j a,g.nodes[j]?=some a->Gr.nodeWrong (Gr.prevAt Gr.N.id g.nodes j) a=0) (hn:g.rels[k]?=some r) (he:Gr.relWrong (g.nodes.map Gr.N.id) (Gr.prevAt Gr.R.id g.rels k) r=e) (hne:e≠0)
  (h0: ∀j a,j<k->g.rels[j]?=some a->Gr.relWrong (g.nodes.map Gr.N.id) (Gr.prevAt Gr.R.id g.rels j) a=0):Gr.check g=(e,g.nodes.length+k):=by
 unfold Gr.check
 rw[Gr.first_zero Gr.nodeWrong Gr.N.id hz,rU (by decide),Gr.first_bad (Gr.relWrong (g.nodes.map Gr.N.id)) Gr.R.id (i:=g.nodes.length) hn he hne h0,rY hne]
theorem check_rest {g:Gr.G} (hz: ∀j a,g.nodes[j]?=some a->Gr.nodeWrong (Gr.prevAt Gr.N.id g.nodes j) a=0) (hr: ∀j a,g.rels[j]?=some a->Gr.relWrong (g.nodes.map Gr.N.id) (Gr.prevAt Gr.R.id g.rels j) a=0):
  Gr.check g=if 200<(Gr.dedup (Gr.names1 g)).length\/200<(Gr.dedup (Gr.names2 g)).length\/200<(Gr.dedup (Gr.names3 g)).length then(66,0) else if 262144<Gr.weight g then(67,0) else(0,0):=by
 unfold Gr.check
 rw[Gr.first_zero Gr.nodeWrong Gr.N.id hz,rU (by decide),Gr.first_zero (Gr.relWrong (g.nodes.map Gr.N.id)) Gr.R.id hr,rU (by decide)]
theorem gCheck_any (B:Nat) (u:Value) (g:Gr.G) (w:World) (h:GIn w B u g) (hB:B<=w.heap.size):
  Calls Tryz.prog 19 #[u] w fun e w'=>e=.returned (.tuple #[.int .i64 ((Gr.check g).1:Nat),.int .i64 ((Gr.check g).2:Nat)])/\Below w.heap.size w w':=by
 have HG:=ah h;have hok:=h.ok;obtain⟨An,cn,Ar,cr,rfl,hN,hR⟩:=h.ex
 have hmm:= @run_makeMap Tryz.prog;have HN:=ah hN;have HR:=ah hR;have HOK:=ah hok
 obtain⟨nn,hnn⟩:=aj g.nodes.length;obtain⟨rn,hrn⟩:=aj g.rels.length;have hnl:=hok.nl
 have hrl:=hok.rl;rw[hnn]at hnl;rw[hrn]at hrl;rw[hnn,hrn]at HG;rw[hnn,hrn]
 have HNN:=ah hnn;have HRN:=ah hrn
 have HCN:=ah (fun(V:World) (k:Nat) (n:Gr.N) (hb:Below B w V) (hn:g.nodes[k]?=some n) (hs:B<=V.heap.size)=>checkNode_any B An cn g.nodes k n V (hN.below hb (NodeC.below hb)) hs hok.nl hok.ns hn)
 have HCR:=ah (fun(V:World) (k:Nat) (r:Gr.R) (mb:Nat) (ids:List Int) (hb:Below B w V) (hn:g.rels[k]?=some r) (hs:B<=V.heap.size) (hc:CntI V mb ids)=>checkRel_any B Ar cr g.rels k r mb ids V (hR.below hb (RelC.below hb)) hs hok.rl hok.rs hn hc)
 rw[hnn]at HCN;rw[hrn]at HCR;clear hN hR hok h hnn hrn
 have HST:=ah (CkRel.start w (.slice An nn cn) (.slice Ar rn cr))
 obtain⟨W1,hW1⟩:=aj ((w.alloc (.cells #[.slice An nn cn,.slice Ar rn cr] 25)).alloc (.map #[] 0))
 have HW1:=ah hW1;rw[hW1]at HST;clear hW1;obtain⟨c0,c1⟩:=cells2 HST.box
 go_enter Tryz.func19,Tryz.ntmps19
 go_upto_region 2 with fail
 rw[HW1.out];clear HW1;go_wp2_with fail
 go_loopg [15] nn (fun q x wr=> ∃k:Nat,x=.int .i64 k/\k+q=nn/\CkRel w (.slice An nn cn) (.slice Ar rn cr) ((g.nodes.map Gr.N.id).take k) wr/\ ∀j a,j<k->g.nodes[j]?=some a->Gr.nodeWrong (Gr.prevAt Gr.N.id g.nodes j) a=0)
 case atStart=>exact⟨0,rfl,by omega,HST.out,fun j a h=>by omega⟩
 obtain⟨k,rfl,hk,hrl,hz⟩:=hrel;have HRL:=ah hrl;have HK:=ah hk;have HZ:=ah hz
 clear hrl hz c0 c1;cases gk with
 |succ q=>
  have hkn:k<nn:=by omega
  have hknI:(k:Int)<nn:=by omega
  obtain⟨n,hn⟩: ∃n,g.nodes[k]?=some n:=⟨_,ay (by rw[HNN.out];exact hkn)⟩
  obtain⟨b,o,Al,cl,Ap,cp,rfl,hbB,⟨D0,D1,D2⟩,-,-⟩:=HN.node hn;have hBW:=HRL.bel.mono hB
  have d0:=(hBW.cell (p:=⟨b,o+k*3,none⟩) hbB).trans D0
  have d1:=(hBW.cell (p:=⟨b,o+k*3+1,none⟩) hbB).trans D1
  have d2:=(hBW.cell (p:=⟨b,o+k*3+2,none⟩) hbB).trans D2
  obtain⟨WN,hWN⟩:=aj (wr.alloc (.cells #[.int .i64 n.id,.slice Al n.labels.length cl,.slice Ap n.props.length cp] 48))
  have HWN:=ah hWN
  have HRN2:=ah (show CkRel w _ _ _ WN by rw[<-hWN];exact HRL.below ((Below.refl _ _).alloc (rM _) _))
  have HK1:=ah (show Blk WN wr.heap.size 48 #[.int .i64 n.id,.slice Al n.labels.length cl,.slice Ap n.props.length cp] by rw[<-hWN];exact Blk.new _ _ _)
  have hcn:=HCN.out WN k n (HRN2.bel.mono hB) hn (rV hB HRN2.bel.size)
  obtain⟨E,hE⟩:=aj (Gr.nodeWrong (Gr.prevAt Gr.N.id g.nodes k) n);rw[hE]at hcn
  have HC:=ah hcn;have HE:=ah hE;have HNK:=ah hn;have hnid:=(HOK.ns n (sK hn)).id
  have HID:=ah hnid;clear hWN hbB D0 D1 D2 hk hkn hBW hcn hE hnid hn
  go_upto_region 5 with fail
  rw[HWN.out];clear d0 d1 d2;obtain⟨c0,c1⟩:=cells2 HRN2.box;go_wp2_with fail
  refine HC.mono ?_;rintro e w2 ⟨rfl,hb⟩;have HR2:=ah (HRN2.below hb)
  have HK2:=ah (HK1.below hb HK1.lt);clear hb c0 c1 HC;cases E with
  |succ e=>
   have hck:=check_nodes HNK.out HE.out (by omega) HZ.out
   have HCK:=ah hck;have hne:(((e+1:Nat):Int) !=0)=true:=by rw[tH];omega
   clear hck;go_wp2
   go_ret2
   exact⟨by rw[HCK.out];rfl,HR2.bel⟩
  |zero=>
   have HMORE:=ah (first_more HNK.out HZ.out HE.out)
   obtain⟨L,hL⟩:=aj ((g.nodes.map Gr.N.id).take k)
   have hLl:L.length<1073741824:=by rw[<-hL,tK,sU,HNN.out];have:=HK.out;omega
   rw[hL]at HR2;obtain⟨N,hNc⟩:=aj (L.count n.id)
   have hNle:N<=L.length:=by rw[<-hNc];exact vP
   have hlk:=HR2.map.look (t:=90) Tryz.underlying90 HID.out;rw[hNc]at hlk
   have HNC:=ah hNc;have HL:=ah hL;have HLl:=ah hLl;have hNi:(N:Int)<=1073741824:=by omega
   obtain⟨d0,d1,d2⟩:=cells3 HK2.out;clear hNc hL hLl hNle
   go_wp2_with (at_mapUpdate;refine wpList_put_I _ rfl HR2.map (by have:=HLl.out;omega) (.tmp 28) (.tmp 30) (.tmp 32) 90 rfl Tryz.underlying90 rfl n.id HID.out rfl (by rw[HNC.out];rfl) ?_)
   intro w3 hc3 hg3;have HR3:=ah (HR2.put hc3 hg3);clear hc3 hg3 hlk d0 d1 d2;go_wp2
   go_roundg q
   case measure=>omega
   exact⟨k+1,int_eq (by omega),by have:=HK.out;omega,by rw[list_take (a:=n.id) (by rw[tu,HNK.out];rfl),HL.out];exact HR3.out,HMORE.out⟩
 |zero=>
  obtain rfl:k=nn:=by omega
  have hZN: ∀j a,g.nodes[j]?=some a->Gr.nodeWrong (Gr.prevAt Gr.N.id g.nodes j) a=0:=fun j a ha=>HZ.out j a (by have:=(rZ.1 ha).1;have:=HNN.out;omega) ha
  have hfin:(g.nodes.map Gr.N.id).take k=g.nodes.map Gr.N.id:=sG (by rw[sU,HNN.out];exact rM _)
  have hrl2:=HRL.out;rw[hfin]at hrl2;have HRF:=ah hrl2;have HZN:=ah hZN
  obtain⟨c0,c1⟩:=cells2 hrl2.box;clear hfin hrl2 hk hZN HRL HZ HST;go_wp2_with fail
  go_loopg [37] rn (fun q x wr=> ∃m:Nat,x=.int .i64 m/\m+q=rn/\CkRel w (.slice An k cn) (.slice Ar rn cr) (g.nodes.map Gr.N.id) wr/\ ∀j a,j<m->g.rels[j]?=some a->Gr.relWrong (g.nodes.map Gr.N.id) (Gr.prevAt Gr.R.id g.rels j) a=0)
  case atStart=>exact⟨0,rfl,by omega,HRF.out,fun j a h=>by omega⟩
  obtain⟨m,rfl,hm,hrl,hz⟩:=hrel;have HRL:=ah hrl;have HK:=ah hm;have HZ:=ah hz
  clear hrl hz c0 c1;cases gk with
  |succ q=>
   have hmn:m<rn:=by omega
   have hmnI:(m:Int)<rn:=by omega
   obtain⟨r,hr⟩: ∃r,g.rels[m]?=some r:=⟨_,ay (by rw[HRN.out];exact hmn)⟩
   have hcr:=HCR.out wr m r (w.heap.size+1) (g.nodes.map Gr.N.id) (HRL.bel.mono hB) hr (rV hB HRL.bel.size) HRL.map
   obtain⟨E,hE⟩:=aj (Gr.relWrong (g.nodes.map Gr.N.id) (Gr.prevAt Gr.R.id g.rels m) r)
   rw[hE]at hcr;have HC:=ah hcr;have HE:=ah hE;have HNK:=ah hr
   obtain⟨c0,c1⟩:=cells2 HRL.box;clear hm hmn hcr hE hr;go_wp2_with fail
   refine HC.mono ?_;rintro e w2 ⟨rfl,hb⟩;have HR2:=ah (HRL.below hb);clear hb c0 c1 HC
   obtain⟨c0,c1⟩:=cells2 HR2.box;cases E with
   |succ e=>
    have hck:=check_rels HZN.out HNK.out HE.out (by omega) HZ.out
    have HCK:=ah hck;have hne:(((e+1:Nat):Int) !=0)=true:=by rw[tH];omega
    clear hck
    go_upto_region 15 with fail
    go_quiet (fail)
    go_wp2
    go_ret2
    exact⟨by rw[HCK.out,HNN.out,vW];rfl,below_drewN HR2.bel nq⟩
   |zero=>
    have HMORE:=ah (first_more HNK.out HZ.out HE.out);go_wp2
    go_roundg q
    case measure=>omega
    exact⟨m+1,int_eq (by omega),by have:=HK.out;omega,HR2.out,HMORE.out⟩
  |zero=>
   obtain rfl:m=rn:=by omega
   have hZR: ∀j a,g.rels[j]?=some a->Gr.relWrong (g.nodes.map Gr.N.id) (Gr.prevAt Gr.R.id g.rels j) a=0:=fun j a ha=>HZ.out j a (by have:=(rZ.1 ha).1;have:=HRN.out;omega) ha
   have hrest:=check_rest HZN.out hZR
   have hNG:Gr.NodesGood g.nodes:=⟨fun j n hn=>Gr.nodeWrong_zero.1 (HZN.out j n hn)⟩
   have hRG:Gr.RelsGood (g.nodes.map Gr.N.id) g.rels:=⟨fun j n hn=>Gr.relWrong_zero.1 (hZR j n hn)⟩
   have HPL:=ah (Gr.props_len hNG hRG);have HPV:=ah (Gr.props_val hNG hRG)
   have HLL:=ah hNG.labels_len;have HREST:=ah hrest
   have H1:=ah (fun(V:World) (hb:Below w.heap.size w V)=>names1_any B _ g V (HG.below (hb.mono hB)) (rV hB hb.size) (by have:=HLL.out;unfold Gr.names1;omega))
   have H2:=ah (fun(V:World) (hb:Below w.heap.size w V)=>names2_any B _ g V (HG.below (hb.mono hB)) (rV hB hb.size))
   have H3:=ah (fun(V:World) (hb:Below w.heap.size w V)=>names3_any B _ g V (HG.below (hb.mono hB)) (rV hB hb.size) (by have:=HPL.out;omega))
   have HW:=ah (fun(V:World) (hb:Below w.heap.size w V)=>weight_any B _ g V (HG.below (hb.mono hB)) (rV hB hb.size) HPV.out (by have:=HPL.out;omega))
   obtain⟨l1,hl1⟩:=aj ((Gr.dedup (Gr.names1 g)).length)
   obtain⟨l2,hl2⟩:=aj ((Gr.dedup (Gr.names2 g)).length)
   obtain⟨l3,hl3⟩:=aj ((Gr.dedup (Gr.names3 g)).length);obtain⟨wt,hwt⟩:=aj (Gr.weight g)
   rw[hl1]at H1 HREST;rw[hl2]at H2 HREST;rw[hl3]at H3 HREST;rw[hwt]at HW HREST
   clear hm hrest hNG hRG hZR hl1 hl2 hl3 hwt HCN HCR;obtain⟨c0,c1⟩:=cells2 HRL.box
   go_wp2_with fail;refine wp_loop_rounds 4 ?_;rw[rounds_succ];go_wp2_with fail
   refine(H1.out wr HRL.bel).mono ?_;rintro e w2 ⟨A1,d1,rfl,-,hb⟩
   have HS1:=ah (HRL.below hb);clear hb c0 c1;obtain⟨c0,c1⟩:=cells2 HS1.box
   by_cases hq1:200<l1
   ·have t1:decide (200<l1)=true:=rQ hq1
    have t1i:(200:Int)<l1:=by omega
    have hck:Gr.check g=(66,0):=by rw[HREST.out,rY (.inl hq1)]
    have HCK:=ah hck;clear hck hq1 H1 H2 H3 HW;go_wp2
    go_ret2
    exact⟨by rw[HCK.out];rfl,HS1.bel⟩
   have t1:decide (200<l1)=false:=rO hq1;have t1i:(l1:Int)<=200:=by omega
   go_wp2_with fail;rw[rounds_succ];go_wp2_with fail;refine(H2.out w2 HS1.bel).mono ?_
   rintro e w3 ⟨A2,d2,rfl,-,hb⟩;have HS2:=ah (HS1.below hb);clear hb c0 c1
   obtain⟨c0,c1⟩:=cells2 HS2.box;by_cases hq2:200<l2
   ·have t2:decide (200<l2)=true:=rQ hq2
    have t2i:(200:Int)<l2:=by omega
    have hck:Gr.check g=(66,0):=by rw[HREST.out,rY (.inr (.inl hq2))]
    have HCK:=ah hck;clear hck hq2 H1 H2 H3 HW;go_wp2
    go_ret2
    exact⟨by rw[HCK.out];rfl,HS2.bel⟩
   have t2:decide (200<l2)=false:=rO hq2;have t2i:(l2:Int)<=200:=by omega
   go_wp2_with fail;rw[rounds_succ];go_wp2_with fail;refine(H3.out w3 HS2.bel).mono ?_
   rintro e w4 ⟨A3,d3,rfl,-,hb⟩;have HS3:=ah (HS2.below hb);clear hb c0 c1
   obtain⟨c0,c1⟩:=cells2 HS3.box;by_cases hq3:200<l3
   ·have t3:decide (200<l3)=true:=rQ hq3
    have t3i:(200:Int)<l3:=by omega
    have hck:Gr.check g=(66,0):=by rw[HREST.out,rY (.inr (.inr hq3))]
    have HCK:=ah hck;clear hck hq3 H1 H2 H3 HW;go_wp2
    go_ret2
    exact⟨by rw[HCK.out];rfl,HS3.bel⟩
   have t3:decide (200<l3)=false:=rO hq3;have t3i:(l3:Int)<=200:=by omega
   go_wp2_with fail;rw[rounds_succ];go_wp2_with fail;refine(HW.out w4 HS3.bel).mono ?_
   rintro e w5 ⟨rfl,hb⟩;have HS4:=ah (HS3.below hb);clear hb c0 c1;by_cases hq4:262144<wt
   ·have t4:decide (262144<wt)=true:=rQ hq4
    have t4i:(262144:Int)<wt:=by omega
    have hck:Gr.check g=(67,0):=by rw[HREST.out,rU (by omega),rY hq4]
    have HCK:=ah hck;clear hck hq4 H1 H2 H3 HW;go_wp2
    go_ret2
    exact⟨by rw[HCK.out];rfl,HS4.bel⟩
   have t4:decide (262144<wt)=false:=rO hq4;have t4i:(wt:Int)<=262144:=by omega
   have hck:Gr.check g=(0,0):=by rw[HREST.out,rU (by omega),rU hq4]
   have HCK:=ah hck;clear hck hq4 H1 H2 H3 HW;go_wp2
   go_ret2
   exact⟨by rw[HCK.out];rfl,HS4.bel⟩
end Go.Proofs.YtanlehkalkafdaaGreatDoor
namespace Go.Proofs.YtanlehkalkafdaaGreatDoor
open Go.RowKit
theorem Cy.VSz.ok {v:Cel.V} (h:Cy.VSz v):VOk v:=
 ⟨⟨by have:=h.kin;omega,by have:=h.kin;omega⟩,h.num,h.nums,rV h.tl (by decide),rV h.nl (by decide),rV h.sl (by decide),fun t ht=>rV (h.sz t ht) (by decide)⟩
theorem Cy.PSz.ok {p:Gr.P} (h:Cy.PSz p):POk p:=⟨rV h.key (by decide),h.val.ok⟩
theorem Cy.NSz.ok {n:Gr.N} (h:Cy.NSz n):NOk n:=
 ⟨⟨by have:=h.lo;omega,by have:=h.hi;omega⟩,rV h.ll (by decide),fun l hl=>rV (h.ls l hl) (by decide),rV h.pl (by decide),fun p hp=>(h.ps p hp).ok⟩
theorem Cy.RSz.ok {n:Gr.R} (h:Cy.RSz n):ROk n:=
 ⟨⟨by have:=h.lo;omega,by have:=h.hi;omega⟩,rV h.tl (by decide),⟨by have:=h.src;omega,by have:=h.src;omega⟩,⟨by have:=h.dst;omega,by have:=h.dst;omega⟩,rV h.pl (by decide),fun p hp=>(h.ps p hp).ok⟩
theorem Cy.GSz.ok {g:Gr.G} (h:Cy.GSz g):GOk g:=
 ⟨rV h.lens.1 (by decide),fun n hn=>(h.ns n hn).ok,rV h.lens.2 (by decide),fun n hn=>(h.rs n hn).ok⟩
theorem lst_own {β:Type} {W:World} {B e size n c:Nat} {A:Option Addr} {R:β->List Value->Prop} {l:List (β×List Value)} (h:W.ownsRow B e size (.slice A n c) n (l.flatMap Prod.snd)) (hn:l.length=n) (hs: ∀x∈l,x.2.length=size) (hR: ∀x∈l,R x.1 x.2):Lst W W.heap.size size R A (l.map Prod.fst):=fun i a ha=>by
 rw[tu]at ha;obtain⟨x,hx,rfl⟩:=uP.1 ha;have hi:=(rZ.1 hx).1
 obtain⟨b,off,e,hb,hc⟩:=(Reads.of_own h).2 (by omega)
 have hm:=sK hx;refine⟨b,off,x.2,e,hb,hR x hm,hs x hm,fun j u hu=> ?_⟩
 have hj:j<size:=by have:=(rZ.1 hu).1;rw[hs x hm]at this;exact this
 have:=hc _ u ((flat_get (f:=Prod.snd) hs hx j hj).trans hu)
 rwa [<-wV]at this
theorem PairOwn.c {W:World} {B:Nat} {x:Gr.P×List Value} (h:PairOwn W B x):PropC W W.heap.size x.1 x.2:=by
 obtain⟨s,t,e,h1,h2⟩:=h;obtain⟨A1,c1,rfl⟩:=own_form h1;obtain⟨A2,c2,rfl⟩:=own_form h2
 exact⟨A1,c1,A2,c2,e,Reads.of_own h1,Reads.of_own h2⟩
theorem PropsOwn.lst {T:TypeId} {W:World} {B n c:Nat} {A:Option Addr} {ps:List Gr.P} (h:PropsOwn T W B (.slice A n c) ps):Lst W W.heap.size 6 (PropC W W.heap.size) A ps:=by
 obtain⟨l,rfl,h1,h2⟩:=h
 have e:(l.map Prod.fst).length=n:=by
  rcases h2.2 with⟨e,h0⟩|⟨g,cap,cur,e,-⟩
  ·injection e with _ e;rw[h0,e]
  injection e with _ e;exact e.symm
 rw[e]at h2
 exact lst_own h2 (by rw[<-e,sU]) (fun x hx=>(h1 x hx).len) (fun x hx=>(h1 x hx).c)
theorem NodeOwn.c {W:World} {B:Nat} {x:Gr.N×List Value} (h:NodeOwn W B x):NodeC W W.heap.size x.1 x.2:=by
 obtain⟨s,t,e,h1,h2⟩:=h;obtain⟨A1,c1,rfl⟩:=own_form h1;obtain⟨A2,c2,rfl⟩:=h2.form
 exact⟨A1,c1,A2,c2,e,Reads.of_own h1,h2.lst⟩
theorem RelOwn.c {W:World} {B:Nat} {x:Gr.R×List Value} (h:RelOwn W B x):RelC W W.heap.size x.1 x.2:=by
 obtain⟨t,e,h2⟩:=h;obtain⟨A2,c2,rfl⟩:=h2.form;exact⟨A2,c2,e,h2.lst⟩
theorem GOwn.gin {W:World} {B:Nat} {u:Value} {g:Gr.G} (h:GOwn W B u g) (ok:GOk g):GIn W W.heap.size u g:=by
 obtain⟨sn,sr,ln,lr,rfl,q1,q2,q3,q4,q5,q6⟩:=h;obtain⟨A1,c1,rfl⟩:=own_form q3
 obtain⟨A2,c2,rfl⟩:=own_form q6;refine⟨⟨A1,c1,A2,c2,rfl, ?_, ?_⟩,ok⟩
 ·have:=lst_own q3 (by rw[<-q1,sU]) (fun x hx=>(q2 x hx).len) (fun x hx=>(q2 x hx).c)
  rwa [q1]at this
 have:=lst_own q6 (by rw[<-q4,sU]) (fun x hx=>(q5 x hx).len) (fun x hx=>(q5 x hx).c)
 rwa [q4]at this
theorem GOwn.G0 (W:World) (B:Nat):GOwn W B (.agg #[.slice none 0 0,.slice none 0 0]) Gr.G0:=⟨_,_,[],[],rfl,rfl,by simp,World.ownsRow_nil _ _ _ _,rfl,by simp,World.ownsRow_nil _ _ _ _⟩
theorem GOwn.below {W W':World} {B:Nat} {u:Value} {g:Gr.G} (h:GOwn W B u g) (hb:Below W.heap.size W W'):GOwn W' B u g:=by
 have hk:Kt 0 0 W W':=Kt.of_below hb (wG _);obtain⟨sn,sr,ln,lr,e,q1,q2,q3,q4,q5,q6⟩:=h
 exact⟨sn,sr,ln,lr,e,q1,fun x hx=>(q2 x hx).kt hk (by decide) (by decide) (by decide),own_kt q3 hk (by decide),q4,fun x hx=>(q5 x hx).kt hk (by decide) (by decide) (by decide),own_kt q6 hk (by decide)⟩
theorem GOwn.lower {W:World} {B B':Nat} {u:Value} {g:Gr.G} (h:GOwn W B u g) (hb:B'<=B):GOwn W B' u g:=by
 obtain⟨sn,sr,ln,lr,e,q1,q2,q3,q4,q5,q6⟩:=h
 refine⟨sn,sr,ln,lr,e,q1,fun x hx=> ?_,own_lower q3 hb,q4,fun x hx=> ?_,own_lower q6 hb⟩
 ·obtain⟨s,t,e,o1,o2⟩:=q2 x hx
  exact⟨s,t,e,own_lower o1 hb,o2.base hb⟩
 obtain⟨t,e,o2⟩:=q5 x hx;exact⟨t,e,o2.base hb⟩
def ParseRes (w:World) (R:Gr.G×Nat) (e:Ending) (w':World):Prop:= ∃u,e=.returned (.tuple #[u,.int .i64 (R.2:Nat)])/\GOwn w' w.heap.size u R.1/\Below w.heap.size w w'
theorem ret_gr2 {fn:Func} {R:Ending->World->Prop} {tmps:Array Value} {W:World} {p q:Tmp} {b:Nat} {v0 v1 v2:Value} (hfn:fn.results= #[.cell p 25,.tmp q])
  (ht:tmps.getD p undef=.pointer (some ⟨b,0,none⟩)) (hq:tmps.getD q undef=v2) (hB:Blk W b 25 #[v0,v1]) (hR:R (.returned (.tuple #[.agg #[v0,v1],v2])) W):
  bodyPost Tryz.prog fn R .ret {tmps:=tmps,defers:=[]} W:=by
 obtain⟨c0,c1⟩:=cells2 hB;refine bodyPost_ret (v:=.tuple #[.agg #[v0,v1],v2]) ?_ rfl hR
 simp at ht hq;simp[results,hfn,go_sem,ht,hq,c0,c1]
theorem Blk.failed {w V:World} {u0 u1:Value} (h:Blk V w.heap.size 25 #[u0,u1]) (hb:Below w.heap.size w V) (v0 v1:Value):Blk ((V.setCell ⟨w.heap.size,0,none⟩ v0).setCell ⟨w.heap.size,1,none⟩ v1) w.heap.size 25 #[v0,v1]/\Below w.heap.size w ((V.setCell ⟨w.heap.size,0,none⟩ v0).setCell ⟨w.heap.size,1,none⟩ v1):=
 ⟨Blk.cast ((h.set_ 0 v0).set_ 1 v1) (by simp),(hb.setCell (p:=⟨w.heap.size,0,none⟩) (rM _) v0).setCell (p:=⟨w.heap.size,1,none⟩) (rM _) v1⟩
def PrRes (R:List Gr.R×Nat) (w:World) (e:Ending) (w':World):Prop:=
 ∃v,e=.returned (.tuple #[v,.int .i64 (R.2:Nat)])/\RelsOwn w' w.heap.size v R.1/\Below w.heap.size w w'
structure RpS (w:World) (mt mb:Nat) (ids:List Int) (acc:List Gr.R) (v:Value) (V:World):Prop where
 bel:Below w.heap.size w V
 thr:CntI V mt ids
 map:CntI V mb (acc.map Gr.R.id)
 own:RelsOwn V w.heap.size v acc
theorem nodes_at {W:World} {B n c:Nat} {A:Option Addr} {ns:List Gr.N} (h:NodesOwn W B (.slice A n c) ns) {k:Nat} {x:Gr.N} (hk:ns[k]?=some x):
  ∃b off Al ll cl Ap pl cp,A=some ⟨b,off,none⟩/\b<W.heap.size/\W.cell? ⟨b,off+k*3,none⟩=some (.int .i64 x.id)/\W.cell? ⟨b,off+k*3+1,none⟩=some (.slice Al ll cl)/\W.cell? ⟨b,off+k*3+2,none⟩=some (.slice Ap pl cp):=by
 obtain⟨ln,h1,h2,h3⟩:=h;obtain⟨A',c',e⟩:=own_form h3
 injection e with e1 e2 e3
 subst e1 e2 e3
 have hl:=lst_own (R:=fun n cs=>NodeOwn W B (n,cs)) h3 (by rw[<-h1,sU]) (fun x hx=>(h2 x hx).len) h2
 rw[h1]at hl;obtain⟨b,off,cs,e,hb,⟨s,t,ec,o1,o2⟩,-,hc⟩:=hl k x hk
 obtain⟨A1,c1,rfl⟩:=own_form o1;obtain⟨A2,c2,rfl⟩:=o2.form;simp only at ec;subst ec
 exact⟨b,off,_,_,_,_,_,_,e,hb,hc 0 _ rfl,hc 1 _ rfl,hc 2 _ rfl⟩
theorem endP_none {ids:List Int} {s:List UInt8} (h:Tb.known 1024 s=none):Tb.endP ids s=none:=by unfold Tb.endP;rw[h]
theorem endP_out {ids:List Int} {s:List UInt8} {n:Int} (h:Tb.known 1024 s=some n) (hn:ids.count n=0):Tb.endP ids s=none:=by
 unfold Tb.endP;rw[h];exact rU fun hm=>by have:=wY.2 hm;omega
theorem endP_in {ids:List Int} {s:List UInt8} {n:Int} (h:Tb.known 1024 s=some n) (hn:ids.count n≠0):Tb.endP ids s=some n:=by
 unfold Tb.endP;rw[h];exact rY (wY.1 (by omega))
theorem parseRels_any (B B1:Nat) (A An:Option Addr) (n c nn cn:Nat) (rows:List (List (List UInt8))) (ns:List Gr.N) (w:World) (h:Rows2 w B (.slice A n c) rows) (hn:rows.length=n) (hnb:n<=16777217) (hrow: ∀r∈rows,Tb.Row r) (hB:B<=w.heap.size)
  (hns:NodesOwn w B1 (.slice An nn cn) ns) (hnn:ns.length=nn) (hnnb:nn<=16777217) (hid: ∀n∈ns,Cel.In64 n.id) (hL:Laid w):
  Calls Tryz.prog 34 #[.slice A n c,.slice An nn cn] w (PrRes (Tb.relsOf (ns.map Gr.N.id) rows) w):=by
 obtain⟨R,hR⟩:=aj (Tb.relsOf (ns.map Gr.N.id) rows);rw[hR]
 have hh:=header_any B A n c 4 rows ⟨#[58,73,68,44,58,83,84,65,82,84,44,58,69,78,68,44,58,84,89,80,69]⟩ Tb.headR w h hn (by omega) splitR_head rfl (by decide) (by decide) (by decide) hrow hB hL
 unfold Tb.relsOf at hR;obtain⟨o,ho⟩:=aj (Tb.headP Tb.headR rows);rw[ho]at hR hh
 have HH:=ah hh;cases o with
 |none=>
  have hr:R=([],230):=hR.symm;subst hr;clear h hn hnb hrow hB hL hR hh ho hns hnn hnnb hid
  go_enter Tryz.func34,Tryz.ntmps34;go_wp2_with fail;refine HH.mono ?_
  rintro e w1 ⟨A1,n1,c1,rfl,b1,-⟩;have HB1:=ah b1;clear b1 HH;go_wp2
  go_ret2
  exact⟨_,rfl,RelsOwn.nil _ _,HB1.out⟩
 |some ks=>
 obtain⟨ids,hids⟩:=aj (ns.map Gr.N.id)
 have hRR:Tb.relsP ks (4+ks.length) ids rows.tail []=R:=by rw[<-hids];exact hR
 obtain⟨r0,rest,rfl⟩: ∃r0 rest,rows=r0 :: rest:=by
  cases rows with
  |nil=>cases ho
  |cons r0 rest=>exact⟨r0,rest,rfl⟩
 have hw0:r0.length=4+ks.length:=by
  rw[Tb.headP]at ho
  split at ho
  ·rename_i hc
   have e:=tN ho;have h1:=uo List.length hc.1;rw[<-e,uJ];rw[tK]at h1
   have:Tb.headR.length=4:=rfl;omega
  cases ho
 obtain⟨b,off,Ar,cr,rfl,hbB,hcell,-,-,-⟩:=h.at (k:=0) rfl;rw[vw]at hcell
 obtain⟨kn,hkn⟩:=aj ks.length;obtain⟨wd,hwd⟩:=aj (4+ks.length);rw[hw0,hwd]at hcell
 rw[hwd]at hRR;have hwd2:wd=4+kn:=by omega
 obtain⟨m,hm⟩:=aj rest.length;have hnm:n=m+1:=by rw[<-hn,<-hm];rfl
 subst hnm;obtain⟨A',c',hf,hrc,hrm⟩:=h.form
 injection hf with hf1 hf2 hf3
 subst hf3;rw[hn]at hrc;have hrcI:(1:Int)<=c:=by omega
 have HRW:=ah (show∀(k:Nat) r,rest[k]?=some r-> ∃Ar cr,w.cell? ⟨b,off+1+k,none⟩=some (.slice Ar r.length cr)/\r.length<=cr/\Reads w B 1 Ar r.length (r.map ST) from fun k r hk=>by
  obtain⟨b',off',Ar,cr,e,-,h1,h2,-,h3⟩:=h.at (k:=k+1) (r:=r) (by simpa using hk)
  injection e with e
  injection e with e1 e2
  subst e1 e2
  exact⟨Ar,cr,by rw[show off+1+k=off+(k+1) by omega];exact h1,h2,h3⟩)
 have HROW:=ah hrow;have HBw:=ah hB;have HBB:=ah hbB;have HL:=ah hL;have HR:=ah hRR
 have HM:=ah hm;have HKN:=ah hkn;have HC0:=ah hcell;have HNS:=ah hns;have HNN:=ah hnn
 have HIN:=ah hid;have HIDS:=ah hids;have hnb':m<=16777216:=by omega
 have hmm:= @run_makeMap Tryz.prog
 clear h hn hnb hrow hB hL hR hRR hh ho hw0 hbB hcell hkn hwd hm hf1 hf2 hrm hns hnn hid hids
 go_enter Tryz.func34,Tryz.ntmps34;go_wp2_with fail;refine HH.mono ?_
 rintro e w1 ⟨A1,n1,c1,rfl,b1,hks⟩;obtain⟨e1,hkr⟩:=hks ks rfl;rw[HKN.out]at e1;subst e1
 obtain⟨W3,hW3⟩:=aj (w1.alloc (.map #[] 0));obtain⟨mt,hmt⟩:=aj w1.heap.size
 have hb3:Below w1.heap.size w1 W3:=hW3▸(Below.refl _ w1).alloc (rM _) _
 have HC3:=ah (show CntI W3 mt [] by rw[<-hW3,<-hmt];exact CntI.made w1)
 have HB3:=ah (b1.trans (hb3.mono b1.size))
 have HMT:=ah (show w.heap.size<=mt by rw[<-hmt];exact b1.size)
 have HKR:=ah (hkr.back (b1.mono HBw.out));have HW3:=ah hW3;have HMM:=ah hmm
 have HMTE:=ah hmt;clear hb3 hW3 hks hkr b1 HH
 go_upto_region 5 with fail
 rw[HW3.out]
 try rw[HMTE.out]
 clear HW3 hmm hmt HMTE;go_wp2_with fail
 go_loopg [31] nn (fun q x wr=> ∃k:Nat,x=.int .i64 k/\k+q=nn/\Below w.heap.size w wr/\CntI wr mt (ids.take k))
 case atStart=>exact⟨0,rfl,by omega,HB3.out,HC3.out⟩
 obtain⟨k,rfl,hk,hb,hc⟩:=hrel;have HB:=ah hb;have HC:=ah hc;have HK:=ah hk
 clear hb hc HB3 HC3;cases gk with
 |succ q=>
  have hkn:k<nn:=by omega
  have hknI:(k:Int)<nn:=by omega
  obtain⟨x,hx⟩: ∃x,ns[k]?=some x:=⟨_,ay (by rw[HNN.out];exact hkn)⟩
  obtain⟨nb,no,Al,ll,cl,Ap,pl,cp,rfl,hnb,e0,e1,e2⟩:=nodes_at HNS.out hx
  have d0:=(HB.cell (p:=⟨nb,no+k*3,none⟩) hnb).trans e0
  have d1:=(HB.cell (p:=⟨nb,no+k*3+1,none⟩) hnb).trans e1
  have d2:=(HB.cell (p:=⟨nb,no+k*3+2,none⟩) hnb).trans e2
  have htk:ids.take (k+1)=ids.take k++[x.id]:=by rw[<-HIDS.out,uM,tu,hx];rfl
  obtain⟨i,hi⟩:=aj x.id;rw[hi]at d0 htk
  have hxi:Cel.In64 i:=by rw[<-hi];exact HIN.out x (sK hx)
  obtain⟨WN,hWN⟩:=aj (wr.alloc (.cells #[.int .i64 i,.slice Al ll cl,.slice Ap pl cp] 48))
  obtain⟨nd,hnd⟩:=aj wr.heap.size
  have hbn:Below wr.heap.size wr WN:=hWN▸(Below.refl _ wr).alloc (rM _) _
  have HKN0:=ah (show Blk WN nd 48 #[.int .i64 i,.slice Al ll cl,.slice Ap pl cp] by rw[<-hWN,<-hnd];exact Blk.new _ _ _)
  have hcm:=HC.below hbn;obtain⟨LK,hLK⟩:=aj (ids.take k);rw[hLK]at hcm htk
  have hlk1:=hcm.look (t:=90) Tryz.underlying90 hxi
  have hLl:LK.length<=16777217:=by rw[<-hLK,tK];omega
  obtain⟨N,hN⟩:=aj (LK.count i);have hNle:N<=LK.length:=by rw[<-hN];exact vP
  rw[hN]at hlk1;have hNi:(N:Int)<=16777217:=by omega
  have HCM:=ah hcm;have HNC:=ah hN;have HXI:=ah hxi;have HLl:=ah hLl;have HTK:=ah htk
  have HBN:=ah (HB.trans (hbn.mono HB.size));have HWN:=ah hWN;have HND:=ah hnd
  clear hx hnb e0 e1 e2 htk hi hxi hWN hnd hbn hcm hLK hLl hNle hN hk
  go_upto_region 8 with fail
  rw[HWN.out]
  try rw[HND.out]
  clear HWN d0 d1 d2;obtain⟨d0,d1,d2⟩:=cells3 HKN0.out
  go_wp2_with (at_mapUpdate;refine wpList_put_I _ rfl HCM.out (by have:=HLl.out;omega) (.tmp 35) (.tmp 37) (.tmp 39) 90 rfl Tryz.underlying90 rfl i HXI.out rfl (by rw[HNC.out];rfl) ?_)
  intro w7 hc7 hg7;have HC7:=ah hc7
  have HB7:=ah (show Below w.heap.size w w7 from HBN.trans ⟨hg7.os,hg7.tape,hg7.output,hg7.size,fun i hi=>hg7.block i (sZ hi HBN.size) (fun e=>by cases e;have:=HMT.out;omega)⟩)
  clear hc7 hg7 hlk1 d0 d1 d2;go_wp2
  go_roundg q
  case measure=>omega
  exact⟨k+1,int_eq (by omega),by have:=HK.out;omega,HB7.out,by rw[HTK.out];exact HC7.out⟩
 |zero=>
  have hkn:nn=k:=by omega
  subst hkn;have hct:=HC.out;rw[sG (by rw[<-HIDS.out,sU,HNN.out];exact rM _)]at hct
  obtain⟨W4,hW4⟩:=aj (wr.alloc (.map #[] 0));obtain⟨mb,hmb⟩:=aj wr.heap.size
  have hb4:Below wr.heap.size wr W4:=hW4▸(Below.refl _ wr).alloc (rM _) _
  have HS3:=ah (show RpS w mt mb ids [] (.slice none 0 0) W4 from⟨HB.trans (hb4.mono HB.size),hct.below hb4,by rw[<-hW4,<-hmb];exact CntI.made wr,RelsOwn.nil _ _⟩)
  have HMB:=ah (show w.heap.size<=mb by rw[<-hmb];exact HB.size)
  have HMN:=ah (show mt≠mb from fun e=>by have:=hct.lt;omega)
  have hc3:W4.cell? ⟨b,off,none⟩=some (.slice Ar wd cr):=((HB.trans (hb4.mono HB.size)).cell (p:=⟨b,off,none⟩) (sZ HBB.out HBw.out)).trans HC0.out
  have HW4:=ah hW4;have HMBE:=ah hmb;have hmm:=HMM.out
  obtain⟨Aw,hAw⟩:=aj (if c=1 then some (⟨b,off,none⟩:Addr) else some ⟨b,off+1,none⟩)
  have HAW:=ah (show 0<m->Aw=some ⟨b,off+1,none⟩ from fun h=>by rw[<-hAw,rU (by omega)])
  have HAW2:=ah hAw;clear hAw hct hW4 hmb hb4 hk HC
  go_upto_region 11 with fail
  rw[HW4.out]
  try rw[HMBE.out]
  clear HW4 hmm HMBE
  go_upto_block 2 with fail
  rw[HAW2.out];clear HAW2;go_wp2_with fail
  go_loopg [4,45] m (fun q x y wr=> ∃k:Nat,∃acc A2 c2,x=.slice A2 acc.length c2/\y=.int .i64 k/\k+q=m/\acc.length<=k/\RpS w mt mb ids acc (.slice A2 acc.length c2) wr/\Hid (Tb.relsP ks wd ids (rest.drop k) acc=R))
  case atStart=>exact⟨0,[],none,0,rfl,rfl,by omega,rM _,HS3.out,HR.out⟩
  obtain⟨k,acc,A2,c2,rfl,rfl,hk,hal,hs,he⟩:=hrel;have HS:=ah hs;have HK:=ah hk
  clear hs HS3 HR hc3 HB;cases gk with
  |zero=>
   obtain rfl:k=m:=by omega
   have hr:R=(acc,0):=by
    have h:=he.out;rw[uq (by rw[HM.out];exact rM _)]at h
    exact h.symm
   subst hr;clear he hk hal;go_wp2
   go_ret2
   exact⟨_,rfl,HS.own,HS.bel⟩
  |succ q=>
   have hkn:k<m:=by omega
   have hknI:(k:Int)<m:=by omega
   obtain rfl:=HAW.out (by omega)
   obtain⟨r,hr⟩: ∃r,rest[k]?=some r:=⟨_,ay (by rw[HM.out];exact hkn)⟩
   obtain⟨A3,c3,hcr,hrc3,hrr⟩:=HRW.out k r hr;have hrow:=HROW.out r (uQ _ (sK hr))
   obtain⟨rl,hrl⟩:=aj r.length;rw[hrl]at hcr hrc3 hrr;have hbw:=sZ HBB.out HBw.out
   have hcr1:=(HS.bel.cell (p:=⟨b,off+1+k,none⟩) hbw).trans hcr
   have hc01:=(HS.bel.cell (p:=⟨b,off,none⟩) hbw).trans HC0.out;have hp:=he.out
   rw[dQ hr,Tb.relsP,hrl]at hp;have hw1:w.heap.size<=wr.heap.size:=HS.bel.size
   by_cases hlw:rl=wd
   case neg=>
    have hr2:R=([],231):=by rw[<-hp,rY hlw]
    subst hr2;have t1:((rl:Int) !=wd)=true:=by rw[tH];omega
    clear he hp hlw hr hrr hk hal hcr;go_wp2
    go_ret2
    exact⟨_,rfl,RelsOwn.nil _ _,HS.bel⟩
   subst hlw;rw[rU (by simp)]at hp
   have t1:((rl:Int) !=rl)=false:=by simp
   obtain⟨b2,o2,rfl,hb2⟩:=hrr.blk (by omega)
   have hb2w:=sZ hb2 HBw.out;obtain⟨f0,hf0⟩:=aj (r.getD 0 [])
   obtain⟨f1,hf1⟩:=aj (r.getD 1 []);obtain⟨f2,hf2⟩:=aj (r.getD 2 [])
   obtain⟨f3,hf3⟩:=aj (r.getD 3 []);obtain⟨q0,m0⟩:=hrr.fld (k:=0) (by omega)
   obtain⟨q1,m1⟩:=hrr.fld (k:=1) (by omega)
   obtain⟨q2,m2⟩:=hrr.fld (k:=2) (by omega)
   obtain⟨q3,m3⟩:=hrr.fld (k:=3) (by omega)
   rw[hf0]at q0 m0 hp;rw[hf1]at q1 m1 hp;rw[hf2]at q2 m2 hp;rw[hf3]at q3 m3 hp
   have s0:=hrow.2 f0 m0;have s1:=hrow.2 f1 m1;have s2:=hrow.2 f2 m2;have s3:=hrow.2 f3 m3
   obtain⟨z0,hz0⟩:=aj (⟨f0.toArray⟩:ByteArray)
   obtain⟨z1,hz1⟩:=aj (⟨f1.toArray⟩:ByteArray)
   obtain⟨z2,hz2⟩:=aj (⟨f2.toArray⟩:ByteArray)
   obtain⟨z3,hz3⟩:=aj (⟨f3.toArray⟩:ByteArray);have zd0:z0.data.toList=f0:=by rw[<-hz0]
   have zd1:z1.data.toList=f1:=by rw[<-hz1]
   have zd2:z2.data.toList=f2:=by rw[<-hz2]
   have zd3:z3.data.toList=f3:=by rw[<-hz3]
   have hst3:ST f3=.string z3:=by rw[<-hz3];rfl
   rw[show ST f0=.string z0 by rw[<-hz0];rfl,vw]at q0
   rw[show ST f1=.string z1 by rw[<-hz1];rfl]at q1
   rw[show ST f2=.string z2 by rw[<-hz2];rfl]at q2
   rw[hst3]at q3
   have hkn1:=known_any z0 2048 wr (by rw[Lib.size_eq,zd0];omega) (HL.below HS.bel)
   have hkn2:=fun(V:World) (hb:Below w.heap.size w V)=>known_any z1 1024 V (by rw[Lib.size_eq,zd1];omega) (HL.below hb)
   have hkn3:=fun(V:World) (hb:Below w.heap.size w V)=>known_any z2 1024 V (by rw[Lib.size_eq,zd2];omega) (HL.below hb)
   have hgn:=fun(V:World)=>goodName_any z3 V (by rw[Lib.size_eq,zd3];omega)
   rw[zd0]at hkn1;rw[zd1]at hkn2;rw[zd2]at hkn3;rw[zd3]at hgn
   obtain⟨gb,hgb⟩:=aj (Gr.goodName f3);rw[hgb]at hgn hp;have HKN1:=ah hkn1
   have HKN2:=ah hkn2;have HKN3:=ah hkn3;have HGN:=ah hgn;have HST3:=ah hst3
   have HCELL:=ah (fun(V:World) (hbV:Below w.heap.size w V)=>show V.cell? ⟨b2,o2,none⟩=some (.string z0)/\V.cell? ⟨b2,o2+1,none⟩=some (.string z1)/\V.cell? ⟨b2,o2+2,none⟩=some (.string z2)/\V.cell? ⟨b2,o2+3,none⟩=some (.string z3)/\V.cell? ⟨b,off+1+k,none⟩=some (.slice (some ⟨b2,o2,none⟩) rl c3) from
    ⟨(hbV.cell (p:=⟨b2,o2,none⟩) hb2w).trans q0,(hbV.cell (p:=⟨b2,o2+1,none⟩) hb2w).trans q1,(hbV.cell (p:=⟨b2,o2+2,none⟩) hb2w).trans q2,(hbV.cell (p:=⟨b2,o2+3,none⟩) hb2w).trans q3,(hbV.cell (p:=⟨b,off+1+k,none⟩) hbw).trans hcr⟩)
   have HBel:=ah (fun(V:World) (hb:wr.grownBy V (some mb))=>show Below w.heap.size w V from HS.bel.trans ⟨hb.os,hb.tape,hb.output,hb.size,fun i hi=>hb.block i (by omega) (fun e=>by cases e;have:=HMB.out;omega)⟩)
   obtain⟨g0,g1,g2,g3,-⟩:=HCELL.out wr HS.bel;have HE:=ah hp;have HRR:=ah hrr
   have HROW1:=ah hrow;have HRL:=ah hrl;have hI1:(1:Int)<rl:=by omega
   have hI2:(2:Int)<rl:=by omega
   have hI3:(3:Int)<rl:=by omega
   have hI4:(4:Int)<=rl:=by omega
   have hI5:(4:Int)<=c3:=by omega
   have hI6:(rl:Int)<=c3:=by omega
   clear he hp hr hrr hk hcr q0 m0 q1 m1 q2 m2 q3 m3 s0 s1 s2 s3 hz0 hz1 hz2 hz3 zd0 zd1 zd2 zd3 hst3 hkn1 hkn2 hkn3 hgn hf0 hf1 hf2 hf3 hrow hrl hb2 hgb
   go_wp2_with fail;refine HKN1.mono ?_;rintro e w5 ⟨x,bb,rfl,b5,hbb,hxx⟩
   have HG5:=ah (only_of_below b5 (some mb));have HC5:=ah (HS.map.below b5)
   have HT5:=ah (HS.thr.below b5);clear g0 g1 g2 g3 hcr1 hc01 b5 HKN1
   obtain⟨g0,g1,g2,g3,-⟩:=HCELL.out w5 (HBel.out _ HG5.out);have he:=HE.out
   cases hkw:Tb.known 2048 f0 with
   |none=>
    rw[hkw]at he hbb;have hr2:R=([],62):=he.symm;subst hr2;obtain rfl:bb=false:=hbb
    clear he;go_wp2
    go_ret2
    exact⟨_,rfl,RelsOwn.nil _ _,HBel.out _ HG5.out⟩
   |some id=>
   rw[hkw]at he hbb;obtain rfl:bb=true:=hbb;obtain rfl:x=id:=hxx id hkw;simp only at he
   obtain⟨hx0,hx1,hxi⟩:=known_in hkw (by decide)
   obtain⟨LK,hLK⟩:=aj (acc.map Gr.R.id);have hcm:=HC5.out;rw[hLK]at he hcm
   have hlk1:=hcm.look (t:=90) Tryz.underlying90 hxi;obtain⟨N,hN⟩:=aj (LK.count x)
   have hLl:LK.length<=16777216:=by rw[<-hLK,sU];omega
   have hNle:N<=LK.length:=by rw[<-hN];exact vP
   rw[hN]at hlk1;have hNi:(N:Int)<=16777216:=by omega
   have HCM:=ah hcm;have HNC:=ah hN;have HLK:=ah hLK;have HXI:=ah hxi;have HLl:=ah hLl
   have HE2:=ah he;clear he hxx hkw hcm hN hLK hNle hLl hxi HE hx0 hx1 HC5
   go_wp2_with (at_mapUpdate;refine wpList_put_I _ rfl HCM.out (by have:=HLl.out;omega) (.tmp 65) (.tmp 66) (.tmp 68) 90 rfl Tryz.underlying90 rfl x HXI.out rfl (by rw[HNC.out];rfl) ?_)
   intro w7 hc7 hg7;have hg7':wr.grownBy w7 (some mb):=only_trans HG5.out hg7
   have HG7:=ah hg7';have hlk2:=hc7.look (t:=90) Tryz.underlying90 HXI.out
   rw[Aa,HNC.out,zJ]at hlk2;have HC7:=ah hc7
   have HT7:=ah (HT5.kept hg7 (fun e=>HMN.out (tN e)))
   clear hc7 hg7 hlk1 HCM g0 g1 g2 g3 HG5 HT5
   obtain⟨g0,g1,g2,g3,-⟩:=HCELL.out w7 (HBel.out _ hg7');by_cases hN0:N=0
   case neg=>
    have t2:decide ((1:Int)<((N+1:Nat):Int))=true:=rQ (by omega)
    have hr2:R=([],7):=by
     rw[<-HE2.out,rY (wY.1 (by rw[HNC.out];omega))]
    subst hr2;go_wp2
    go_ret2
    exact⟨_,rfl,RelsOwn.nil _ _,HBel.out _ hg7'⟩
   subst hN0;have t2:decide ((1:Int)<((0+1:Nat):Int))=false:=rO (by omega)
   have he:=HE2.out;rw[rU (fun h=>by have:=wY.2 h;rw[HNC.out]at this;omega)]at he
   have HE3:=ah he;clear he HE2 hg7';go_wp2_with fail
   refine(HKN2.out w7 (HBel.out _ HG7.out)).mono ?_;rintro e w8 ⟨x1,y1,rfl,b8,hy1,hx1⟩
   have HG8:=ah (only_below HG7.out b8);have HC8:=ah (HC7.below b8)
   have HT8:=ah (HT7.below b8);have HY1:=ah hy1;have HX1:=ah hx1
   clear g0 g1 g2 g3 hlk2 b8 HG7 HC7 HT7 t2 hy1 hx1 HKN2
   obtain⟨g0,g1,g2,g3,-⟩:=HCELL.out w8 (HBel.out _ HG8.out);go_wp2_with fail
   refine(HKN3.out w8 (HBel.out _ HG8.out)).mono ?_;rintro e w9 ⟨x2,y2,rfl,b9,hy2,hx2⟩
   have HG9:=ah (only_below HG8.out b9);have HC9:=ah (HC8.below b9)
   have HT9:=ah (HT8.below b9);clear g0 g1 g2 g3 b9 HG8 HC8 HT8 HKN3
   obtain⟨g0,g1,g2,g3,-⟩:=HCELL.out w9 (HBel.out _ HG9.out);have hu:=undef_no
   have he:=HE3.out;cases hk1:Tb.known 1024 f1 with
   |none=>
    have hy:=HY1.out;rw[hk1]at hy;obtain rfl:y1=false:=hy
    have hr2:R=([],65):=by rw[<-he,endP_none hk1]
    subst hr2;clear he hk1 hy2 hx2;go_wp2
    go_ret2
    exact⟨_,rfl,RelsOwn.nil _ _,HBel.out _ HG9.out⟩
   |some i1=>
   have hy:=HY1.out;rw[hk1]at hy;obtain rfl:y1=true:=hy;obtain rfl:x1=i1:=HX1.out i1 hk1
   cases hk2:Tb.known 1024 f2 with
   |none=>
    rw[hk2]at hy2;obtain rfl:y2=false:=hy2
    have hr2:R=([],65):=by
     rw[<-he,endP_none hk2];cases Tb.endP ids f1<;>rfl
    subst hr2;clear he hk1 hk2 hx2;go_wp2
    go_ret2
    exact⟨_,rfl,RelsOwn.nil _ _,HBel.out _ HG9.out⟩
   |some i2=>
   rw[hk2]at hy2;obtain rfl:y2=true:=hy2;obtain rfl:x2=i2:=hx2 i2 hk2
   obtain⟨-,-,hi1⟩:=known_in hk1 (by decide)
   obtain⟨-,-,hi2⟩:=known_in hk2 (by decide)
   have hl1:=HT9.look (t:=90) Tryz.underlying90 hi1
   have hl2:=HT9.look (t:=90) Tryz.underlying90 hi2;obtain⟨N1,hN1⟩:=aj (ids.count x1)
   obtain⟨N2,hN2⟩:=aj (ids.count x2);rw[hN1]at hl1;rw[hN2]at hl2;by_cases h1:N1=0
   ·have hr2:R=([],65):=by rw[<-he,endP_out hk1 (hN1.trans h1)]
    subst hr2 h1;clear he hk1 hk2 hx2 hN1 hN2 hi1 hi2;go_wp2
    go_ret2
    exact⟨_,rfl,RelsOwn.nil _ _,HBel.out _ HG9.out⟩
   by_cases h2:N2=0
   ·have hr2:R=([],65):=by
     rw[<-he,endP_out hk2 (hN2.trans h2)];cases Tb.endP ids f1<;>rfl
    have t1:((N1:Int) == 0)=false:=by rw[rX];omega
    subst hr2 h2;clear he hk1 hk2 hx2 hN1 hN2 hi1 hi2;go_wp2
    go_ret2
    exact⟨_,rfl,RelsOwn.nil _ _,HBel.out _ HG9.out⟩
   rw[endP_in hk1 (hN1▸h1),endP_in hk2 (hN2▸h2)]at he;simp only at he
   have t1:((N1:Int) == 0)=false:=by rw[rX];omega
   have t2:((N2:Int) == 0)=false:=by rw[rX];omega
   have HE4:=ah he;clear he hk1 hk2 hx2 hN1 hN2 hi1 hi2 h1 h2 HE3;go_wp2_with fail
   refine(HGN.out _).mono ?_;rintro e w10 ⟨rfl,rfl⟩;clear hl1 hl2 t1 t2;have he:=HE4.out
   cases gb with
   |false=>
    have hr2:R=([],60):=by rw[<-he,rY rfl]
    subst hr2;clear he;go_wp2
    go_ret2
    exact⟨_,rfl,RelsOwn.nil _ _,HBel.out _ HG9.out⟩
   |true=>
   rw[rU (by decide)]at he
   obtain⟨Q,hQ⟩:=aj (Tb.propsP ks (r.drop 4));obtain⟨ps,ep⟩:=Q;rw[hQ]at he
   have hpw:=HBel.out _ HG9.out
   have hdr:=(HRR.below (hpw.mono HBw.out)).cut (k:=4) (c:=c3) (by omega) hrc3
   obtain⟨Av,hAv⟩:=aj (if c3=4 then some (⟨b2,o2,none⟩:Addr) else some ⟨b2,o2+4,none⟩)
   rw[<-Cb,show rl - 4=n1 by omega,hAv]at hdr
   have hpr:=tprops_any B A1 Av c1 (c3 - 4) n1 ks (r.drop 4) w9 (HKR.below (hpw.mono HBw.out)) hdr (by have h:=HROW1.out.1;rw[HRL.out]at h;omega) (fun f hf=>HROW1.out.2 f (yF hf)) (rV HBw.out hpw.size) (HL.below hpw)
   rw[hQ]at hpr;have HPR:=ah hpr;have HE5:=ah he;clear he hQ hdr hpr hpw HE4
   go_wp2_with fail;refine HPR.mono ?_;rintro e w11 ⟨vp,rfl,op,b11⟩
   obtain⟨Ap,cp,rfl⟩:=op.form;have hg11:=only_below HG9.out b11;have hc11:=HC9.below b11
   have ht11:=HT9.below b11
   have hno:RelOwn w11 w.heap.size (⟨x,f3,x1,x2,ps⟩,[.int .i64 x,.string z3,.int .i64 x1,.int .i64 x2,.slice Ap ps.length cp]):=⟨_,by rw[<-HST3.out],op.base (rV hw1 HG9.size)⟩
   have hns:=HS.own.k0 (Kt.map0 HS.map hg11 HMB.out);have hbel11:=HBel.out _ hg11
   obtain⟨al,hal2⟩:=aj acc.length;obtain⟨ln,h1,h2,h3⟩:=hns;have HAL:=ah hal2
   have HPUT:=ah (fun(v':Value) (w':World) (hg:w11.grownBy w' (Value.ownBlock (.slice A2 acc.length c2))) (ho:w'.ownsRow w.heap.size 55 5 v' (acc.length+1) (ln.flatMap Prod.snd++[.int .i64 x,.string z3,.int .i64 x1,.int .i64 x2,.slice Ap ps.length cp]))=>RelsOwn.put h1 h2 h3 hno hbel11.size hg ho)
   rw[hal2]at h3 HPUT hal⊢;have H3:=ah h3;have HC11:=ah hc11;have HT11:=ah ht11
   have HB11:=ah hbel11;have halb:al<536870912:=by omega
   have hszW:=hbel11.size
   clear g0 g1 g2 g3 op b11 hg11 hc11 ht11 hno hbel11 hal2 h1 h2 h3 HC9 HT9 HG9 HPR
   obtain⟨g0,g1,g2,g3,-⟩:=HCELL.out w11 HB11.out;by_cases hep:ep=0
   case neg=>
    have t3:((ep:Int) !=0)=true:=by rw[tH];omega
    have hr2:R=([],ep):=by rw[<-HE5.out,rY hep]
    subst hr2;clear hep;go_wp2
    go_ret2
    exact⟨_,rfl,RelsOwn.nil _ _,HB11.out⟩
   subst hep;have he:=HE5.out;rw[rU (by simp)]at he
   have HE6:=ah he;clear he HE5
   go_wp2_with (at_builtin;refine wpList_append_struct rfl (.tmp 122) (.tmp 131) 23 55 (.agg #[.int .i64 0,.string ⟨#[]⟩,.int .i64 0,.int .i64 0,.slice none 0 0]) 5 64 Tryz.underlying23 info_rel rfl (by decide) (by decide) rfl w.heap.size (.slice A2 al c2) al (ln.flatMap Prod.snd) w11 rfl H3.out [.int .i64 x,.string z3,.int .i64 x1,.int .i64 x2,.slice Ap ps.length cp] _ rfl rfl (by simp[Value.oneCell']) rfl halb hszW ?_)
   intro v12 w12 ho12 hg12 hw12 hb12;obtain⟨A12,c12,rfl⟩:=own_form ho12
   have HS12:=ah (show RpS w mt mb ids (acc++[⟨x,f3,x1,x2,ps⟩]) (.slice A12 (al+1) c12) w12 from⟨HB11.trans hb12,HT11.kept hg12 (own_ne_map H3.out HT11.out),by rw[uf,HLK.out];exact HC11.kept hg12 (own_ne_map H3.out HC11.out),HPUT.out _ _ hg12 ho12⟩)
   have HLEN:=ah (show(acc++[(⟨x,f3,x1,x2,ps⟩:Gr.R)]).length=al+1 by rw[rP,HAL.out];rfl)
   clear ho12 hg12 hw12 hb12 g0 g1 g2 g3;go_wp2
   go_roundg q
   case measure=>omega
   exact⟨k+1,acc++[⟨x,f3,x1,x2,ps⟩],A12,c12,by rw[HLEN.out],int_eq (by omega),by have:=HK.out;omega,by rw[HLEN.out];omega,by rw[HLEN.out];exact HS12.out,HE6⟩
end Go.Proofs.YtanlehkalkafdaaGreatDoor
