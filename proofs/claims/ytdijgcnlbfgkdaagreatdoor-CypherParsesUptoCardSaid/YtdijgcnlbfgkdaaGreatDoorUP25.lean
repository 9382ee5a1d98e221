/- Lemmas. -/
import Derived.Test.YtdijgcnlbfgkdaaGreatDoorUP24
set_option maxHeartbeats 64000000
set_option maxRecDepth 1000000
set_option linter.all false
namespace Go.Proofs.YtdijgcnlbfgkdaaGreatDoor
open Go.RowKit Go.Proofs.Tryz
def ak.others {w w':World} {g b:Nat} {t e:TypeId} {cs:Array Value} (h:ak w g t cs) (ho:Lib.OthersKept e (some b) w w') (hg:g≠b) (ht:t≠e):ak w' g t cs:=
 ho g _ h (fun x=>hg (aeM x)) (fun _ _ x=>ht (by cases x;rfl))
structure AQ (w:World) (b:Nat) (l:List UInt8) (V:World):Prop where
 bel:Below w.heap.size w V
 yK:oG b b l V
 lt:w.heap.size<=b
 sz:b<V.heap.size
def AQ.below {w V V':World} {b:Nat} {l:List UInt8} (h:AQ w b l V) (hb:Below V.heap.size V V'):AQ w b l V':=
 ⟨h.bel.trans (hb.mono h.bel.size),h.yK.below hb,h.lt,afn h.sz hb.size⟩
def AQ.put {w V V':World} {b:Nat} {l l':List UInt8} (h:AQ w b l V) (hl:oG b b l' V') (hb:Below b V V'):AQ w b l' V':=
 ⟨h.bel.trans (hb.mono h.lt),hl,h.lt,afn h.sz hb.size⟩
structure CY (w:World) (b nd:Nat) (T:TypeId) (gc nc:Array Value) (l:List UInt8) (V:World):Prop where
 s:AQ w b l V
 g:ak V w.heap.size 26 gc
 n:ak V nd T nc
 ne:nd≠b/\w.heap.size≠b/\T≠5
def CY.below {w V V':World} {b nd:Nat} {T:TypeId} {gc nc:Array Value} {l:List UInt8} (h:CY w b nd T gc nc l V) (hb:Below V.heap.size V V'):CY w b nd T gc nc l V':=
 ⟨h.s.below hb,h.g.below hb h.g.lt,h.n.below hb h.n.lt,h.ne⟩
def CY.put {w V V':World} {b nd:Nat} {T:TypeId} {gc nc:Array Value} {l l':List UInt8} (h:CY w b nd T gc nc l V) (hl:oG b b l' V') (hb:Below b V V') (ho:Lib.OthersKept 5 (some b) V V'):CY w b nd T gc nc l' V':=
 ⟨h.s.put hl hb,h.g.others ho h.ne.2.1 (by decide),h.n.others ho h.ne.1 h.ne.2.2,h.ne⟩
structure alh (n:Gr.N):Prop where
 pl:n.props.length<=16
 ps: ∀p∈n.props,VJ p
 ll:n.labels.length<=8
 ls: ∀l∈n.labels,l.length<=40
 ml:(Cy.x8 n.props).length<=1000
structure ali (r:Gr.R):Prop where
 tl:r.type.length<=40
 pl:r.props.length<=16
 ps: ∀p∈r.props,VJ p
 ml:(Cy.x8 r.props).length<=1000
structure acY (g:Gr.G):Prop where
 ck:(Gr.check g).1=0
 len:(Cy.print g).length<=8388608
 ns: ∀n∈g.nodes,alh n
 rs: ∀r∈g.ay,ali r
def VL (g:Gr.G):Cy.print g=g.nodes.flatMap Cy.sS++g.ay.flatMap Cy.wK:=by
 unfold Cy.print Cy.lines;rw[List.flatten_append,List.flatMap_def,List.flatMap_def]
def acZ {α:Type} (l:List α) (k:Nat) (f:α->List UInt8):((l.take k).flatMap f).length<=(l.flatMap f).length:=by
 conv=>rhs;rw[<-afz k l]
 rw[afR,aeo];omega
def alj (B:Nat) (u:Value) (g:Gr.G) (w:World) (h:nN w B u g) (hq:acY g) (hB:B<=w.heap.size) (hL:Laid w):
  Calls prog 8 #[u] w fun e w'=>e=.returned (.tuple #[.string ⟨(Cy.print g).toArray⟩,.int .i64 0])/\Below w.heap.size w w':=by
 refine gq3 h hL h.ok fun HG HL bF=>?_;have hck:=fun(V:World) (hb:Below w.heap.size w V)=>acU B u g V (h.below (hb.mono hB)) (aep hB hb.size)
 obtain⟨c2,hc2⟩:=aj ((Gr.check g).2);simp only[hq.ck,hc2]at hck;refine gq3 hq.len hq.ns hq.rs fun nR Yx zA=>?_;obtain⟨An,cn,Ar,cr,rfl,hN,hRl⟩:=h.ex;obtain⟨nn,hnn⟩:=aj g.nodes.length;obtain⟨rn,hrn⟩:=aj g.ay.length;rw[hnn,hrn]at hck⊢;obtain⟨W1,hW1⟩:=aj (w.alloc (.cells #[.slice An nn cn,.slice Ar rn cr] 26));have hb1:Below w.heap.size w W1:=by rw[<-hW1];exact(aoa _ w).alloc (aej _) _
 have k1:ak W1 w.heap.size 26 #[.slice An nn cn,.slice Ar rn cr]:=by rw[<-hW1];exact ak.new _ _ _
 refine gq6 hW1 k1 hb1 (hck W1 hb1) hN hRl fun HW1 dw HB1 bH HN aZ=>?_;have ari:nn<=1073741824:=by rw[<-hnn];exact bF.nl
 have arj:rn<=1073741824:=by rw[<-hrn];exact bF.rl
 refine gq3 hnn hrn hB fun aC fH eY=>?_;obtain⟨a0,a1⟩:=cells2 k1;clear h hL hck hq hN hRl hnn hrn hB hb1 hW1 k1 hc2;go_enter func8,ntmps8
 go_upto_region 1 with fail
 rw[HW1.out];clear HW1;go_wp2_with fail;refine mq8 bH fun w2 hb2=>?_;have HB2:=ah (HB1.trans (hb2.mono HB1.size));have aP:=ah (dw.below hb2 dw.lt);clear hb2 a0 a1 bH dw;obtain⟨a0,a1⟩:=cells2 aP.out;obtain⟨b,hbb⟩:=aj w2.heap.size;obtain⟨W3,hW3⟩:=aj (w2.alloc (.cells #[.pointer none,.slice none 0 0] 78));have HW3:=ah hW3;have jc:=ah (show AQ w b [] W3 by rw[<-hW3,<-hbb];exact⟨HB2.alloc HB2.size _,oG.fresh w2,HB2.size,by simp⟩)
 have dX:=ah (show ak W3 w.heap.size 26 #[.slice An nn cn,.slice Ar rn cr] by rw[<-hW3];exact aP.alloc _)
 have aN:=ah hbb;have hgb:=aP.lt;rw[hbb]at hgb;clear hW3
 go_upto_region 5 with fail
 rw[HW3.out]
 try rw[hbb]
 clear a0 a1 aP HW3 hbb;obtain⟨a0,a1⟩:=cells2 dX.out;have afM:b≠w.heap.size:=fun e=>by rw[e]at hgb;exact agt _ hgb
 go_wp2_with fail
 go_loopg [24] nn (fun q x wr=> ∃k:Nat,x=.int .i64 k/\k+q=nn/\AQ w b ((g.nodes.take k).flatMap Cy.sS) wr/\ak wr w.heap.size 26 #[.slice An nn cn,.slice Ar rn cr])
 case atStart=>exact⟨0,rfl,by omega,jc.out,dX.out⟩
 obtain⟨k,rfl,hk,hs,hkb⟩:=hrel;refine gq3 hs hk hkb fun HS HK HKB=>?_;clear a0 a1;obtain⟨a0,a1⟩:=cells2 hkb;clear hs hkb jc dX;cases gk with
 |succ q=>
  have hkn:k<nn:=by omega
  have dW:(k:Int)<nn:=by omega
  obtain⟨n,hn⟩: ∃n,g.nodes[k]?=some n:=⟨_,aen (by rw[aC.out];exact hkn)⟩
  have hft:=Uw hn Cy.sS
  have hpl:((g.nodes.take (k+1)).flatMap Cy.sS).length<=8388608:=by
   have h1:=acZ g.nodes (k+1) Cy.sS;have h2:=nR.out;rw[VL,aeo]at h2;omega
  rw[hft]at hpl;obtain⟨L,hL⟩:=aj ((g.nodes.take k).flatMap Cy.sS);rw[hL]at hpl hft HS;have hBW:=HS.bel.mono eY.out;obtain⟨nb,o,Al,cl,Ap,cp,rfl,hbB,⟨D0,D1,D2⟩,hlr,hpr⟩:=HN.node hn;have d0:=(hBW.cell (p:=⟨nb,o+k*3,none⟩) hbB).trans D0;have d1:=(hBW.cell (p:=⟨nb,o+k*3+1,none⟩) hbB).trans D1;have d2:=(hBW.cell (p:=⟨nb,o+k*3+2,none⟩) hbB).trans D2;obtain⟨ll,hll⟩:=aj n.labels.length;obtain⟨pl,Ho⟩:=aj n.props.length;rw[hll]at d1 hlr;rw[Ho]at d2;have hnp:=Yx.out n (aew hn);have ark:ll<=8:=by rw[<-hll];exact hnp.ll
  obtain⟨WN,bM⟩:=aj (wr.alloc (.cells #[.int .i64 n.id,.slice Al ll cl,.slice Ap pl cp] 37));have hbn:Below wr.heap.size wr WN:=by rw[<-bM];exact(aoa _ _).alloc (aej _) _
  have dB:=ah (HS.below hbn);have lK:=ah (HKB.below hbn HKB.lt);obtain⟨nd,hnd⟩:=aj wr.heap.size;have iR:=ah (show ak WN nd 37 #[.int .i64 n.id,.slice Al ll cl,.slice Ap pl cp] by rw[<-bM,<-hnd];exact ak.new _ _ _)
  have mG:=ah (show nd≠b/\nd≠w.heap.size by have:=HS.sz;have:=HS.lt;have:=HKB.lt;omega)
  have hnw:=fun(V:World) (hb:Below w.heap.size w V)=>VK n.id V (bF.ns n (aew hn)).id (HL.below hb)
  obtain⟨zi,hzi⟩:=aj (⟨(110 :: Lib.itoa n.id).toArray⟩:ByteArray);rw[hzi]at hnw;have EK:=ah hnw;have HZI:=ah hzi;have aoX:zi.size<=22:=by rw[<-hzi,dR,ae7];have:=KH (bF.ns n (aew hn)).id.1 (bF.ns n (aew hn)).id.2;omega
  refine gq8 bM hnp hpl hft hlr hpr hll Ho fun gY NQ NR Yy JC gJ bY Yz=>?_;clear hn hft hpl hL hBW hbB D0 D1 D2 hlr hpr hnp bM hbn hnw hzi HS HKB hll Ho hkn hk
  go_upto_region 8 with fail
  rw[gY.out]
  try rw[hnd]
  clear hnd a0 a1 d0 d1 d2;obtain⟨d0,d1,d2⟩:=cells3 iR.out;obtain⟨a0,a1⟩:=cells2 lK.out;go_wp2_with fail;refine mq7 (EK.out WN dB.bel) fun w4 hb4=>?_;have uX:=ah (show CY w b nd 37 #[.slice (some ⟨nb,o,none⟩) nn cn,.slice Ar rn cr] #[.int .i64 n.id,.slice Al ll cl,.slice Ap pl cp] L w4 from⟨dB.below hb4,lK.below hb4 lK.lt,iR.below hb4 iR.lt,mG.out.1,afM.symm,by decide⟩)
  clear hb4 dB lK iR a0 a1 d0 d1 d2 EK;have mM:L.length<=8388608:=by have:=NR.out;rw[aeo]at this;omega
  have hq1:(⟨#[67,82,69,65,84,69,32,40]⟩++zi:ByteArray).size<=30:=by rw[afU];show 8+zi.size<=30;omega
  have HW1:=ah (KG b b L (⟨#[67,82,69,65,84,69,32,40]⟩++zi) w4 uX.s.yK (by omega) (by omega) (anu uX.s.sz))
  go_wp2_with fail;refine HW1.mono ?_;rintro e w5 ⟨rfl,hl5,hb5,NS⟩;obtain⟨L1,hL1⟩:=aj (L ++(⟨#[67,82,69,65,84,69,32,40]⟩++zi:ByteArray).data.toList);rw[hL1]at hl5;have Hq:=ah (uX.put hl5 hb5 NS);have fB:=ah (show L1=L ++(Cy.uz++[32,40,110]++Lib.itoa n.id) by rw[<-hL1,<-HZI.out];simp[Cy.uz])
  clear hl5 hb5 NS hL1 uX HW1 hq1;obtain⟨d0,d1,d2⟩:=cells3 Hq.n;go_wp2_with fail
  go_loopg [36] ll (fun q x wl=> ∃j:Nat,x=.int .i64 j/\j+q=ll/\CY w b nd 37 #[.slice (some ⟨nb,o,none⟩) nn cn,.slice Ar rn cr] #[.int .i64 n.id,.slice Al ll cl,.slice Ap pl cp] (L1 ++(n.labels.take j).flatMap (fun l=>58 :: l)) wl)
  case atStart=>exact⟨0,rfl,by omega,by rw[agL,arG,afy];exact Hq.out⟩
  obtain⟨j,rfl,hj,hs⟩:=hrel;have HJ:=ah hj;have Hr:=ah hs;clear hs d0 d1 d2;cases gk with
  |succ qi=>
   have hjl:j<ll:=by omega
   have arl:(j:Int)<ll:=by omega
   obtain⟨pb,po,x,rfl,hpb,hx,hp⟩:=(JC.below (Hr.s.bel.mono eY.out)).cell hjl;rw[aeY]at hx;obtain⟨y,hy,rfl⟩:=afr.1 hx;unfold ST at hp;obtain⟨zy,hzy⟩:=aj (⟨y.toArray⟩:ByteArray);rw[hzy]at hp;have hyl:=NQ.ls y (aew hy);have arn:zy.size<=40:=by rw[<-hzy,dR];exact hyl
   have hlt:=Uw hy (fun l=>(58:UInt8) :: l)
   obtain⟨LJ,RU⟩: ∃LJ,L1 ++(n.labels.take j).flatMap (fun l=>58 :: l)=LJ:=⟨_,rfl⟩
   have aro:LJ.length<=8388608:=by
    have h1:=NR.out;have e:n.labels.flatMap (fun l=>58 :: l)=(n.labels.take j).flatMap (fun l=>58 :: l) ++(n.labels.drop j).flatMap (fun l=>58 :: l):=by rw[<-afR,afz]
    have h2:L++Cy.sS n=LJ ++((n.labels.drop j).flatMap (fun l=>58 :: l)++Cy.x8 n.props++[41,59,10]):=by
     unfold Cy.sS;rw[e,<-RU,fB.out];simp
    rw[h2,aeo]at h1;omega
   rw[RU]at Hr;have hq1:(⟨#[58]⟩++zy:ByteArray).size<=41:=by rw[afU];show 1+zy.size<=41;omega
   have HW1:=ah (KG b b LJ (⟨#[58]⟩++zy) wr Hr.s.yK (by omega) (by omega) (anu Hr.s.sz))
   have aA:=ah (show L1 ++(n.labels.take (j+1)).flatMap (fun l=>58 :: l)=LJ ++(⟨#[58]⟩++zy:ByteArray).data.toList by rw[hlt,<-RU,<-hzy];simp)
   clear hx hy hzy hyl hlt RU hjl hj hpb;go_wp2_with fail;refine HW1.mono ?_;rintro e w6 ⟨rfl,hl6,hb6,ho6⟩;have AU:=ah (Hr.put hl6 hb6 ho6);clear hl6 hb6 ho6;go_wp2
   go_roundg qi
   case measure=>omega
   exact⟨j+1,int_eq (by omega),by have:=HJ.out;omega,by rw[aA.out];exact AU.out⟩
  |zero=>
   obtain rfl:j=ll:=by omega
   have RV:=Hr.out;rw[aeG (by rw[bY.out];exact aej _)]at RV
   obtain⟨L2,hL2⟩: ∃L2,L1++n.labels.flatMap (fun l=>58 :: l)=L2:=⟨_,rfl⟩
   rw[hL2]at RV;have AU:=ah RV;have hpm:=fun(V:World) (hb:Below w.heap.size w V)=>acX B Ap cp n.props V (gJ.below (hb.mono eY.out) (bg.below (hb.mono eY.out))) (aep eY.out hb.size) NQ.pl NQ.ps NQ.ml (HL.below hb)
   rw[Yz.out]at hpm;obtain⟨zm,hzm⟩:=aj (⟨(Cy.x8 n.props).toArray⟩:ByteArray);rw[hzm]at hpm;have aoY:zm.size<=1000:=by rw[<-hzm,dR];exact NQ.ml
   have RX:=ah hpm;have NT:=ah (show L++Cy.sS n=L2 ++(zm ++⟨#[41,59,10]⟩:ByteArray).data.toList by rw[<-hL2,fB.out,<-hzm];simp[Cy.sS])
   have arp:L2.length<=8388608:=by
    have h1:=NR.out;rw[NT.out,aeo]at h1;omega
   have hq1:(zm ++⟨#[41,59,10]⟩:ByteArray).size<=1003:=by rw[afU];show zm.size+3<=1003;omega
   clear RV hL2 hpm hzm hj Hr;obtain⟨d0,d1,d2⟩:=cells3 AU.n;go_wp2_with fail;refine mq7 (RX.out wr AU.s.bel) fun w7 hb7=>?_;have YA:=ah (AU.below hb7);clear hb7 AU d0 d1 d2;have HW1:=ah (KG b b L2 (zm ++⟨#[41,59,10]⟩) w7 YA.s.yK (by omega) (by omega) (anu YA.s.sz))
   go_wp2_with fail;refine HW1.mono ?_;rintro e w8 ⟨rfl,rD,hb8,rE⟩;have jV:=ah (YA.put rD hb8 rE);clear rD hb8 rE;go_wp2
   go_roundg q
   case measure=>omega
   exact⟨k+1,int_eq (by omega),by have:=HK.out;omega,by rw[Yy.out,NT.out];exact jV.s,jV.g⟩
 |zero=>
  obtain rfl:k=nn:=by omega
  have hs:=HS.out;rw[aeG (by rw[aC.out];exact aej _)]at hs
  have sG:=ah hs;clear hs HS hk;go_wp2_with fail
  go_loopg [53] rn (fun q x wr=> ∃m:Nat,x=.int .i64 m/\m+q=rn/\AQ w b (g.nodes.flatMap Cy.sS ++(g.ay.take m).flatMap Cy.wK) wr/\ak wr w.heap.size 26 #[.slice An k cn,.slice Ar rn cr])
  case atStart=>exact⟨0,rfl,by omega,by rw[agL,arG,afy];exact sG.out,HKB.out⟩
  obtain⟨m,rfl,hm,hs,hkb⟩:=hrel;have gK:=ah hkb;clear hkb;have HS:=ah hs;have HM:=ah hm;clear hs sG HKB a0 a1;cases gk with
  |zero=>
   obtain rfl:m=rn:=by omega
   have hs:=HS.out;rw[aeG (by rw[fH.out];exact aej _),<-VL]at hs
   have HSF:=ah hs;have HC:=ah (aaZ b b (Cy.print g) wr hs.yK (anu hs.sz));clear hs HS hm;go_wp2_with fail;refine HC.mono ?_;rintro e w9 ⟨rfl,-,aB,-⟩;have cZ:=ah (HSF.bel.trans (aB.mono HSF.lt));clear aB;go_wp2
   go_ret2
   exact⟨rfl,cZ.out⟩
  |succ q=>
   have hmn:m<rn:=by omega
   have Yl:(m:Int)<rn:=by omega
   obtain⟨r,hr⟩: ∃r,g.ay[m]?=some r:=⟨_,aen (by rw[fH.out];exact hmn)⟩
   have hft:=Uw hr Cy.wK
   have hpl:(g.nodes.flatMap Cy.sS ++(g.ay.take (m+1)).flatMap Cy.wK).length<=8388608:=by
    have h1:=acZ g.ay (m+1) Cy.wK;have h2:=nR.out;rw[VL,aeo]at h2;rw[aeo];omega
   rw[hft,<-afu]at hpl;obtain⟨L,hL⟩:=aj (g.nodes.flatMap Cy.sS ++(g.ay.take m).flatMap Cy.wK);have Yy:=ah (show g.nodes.flatMap Cy.sS ++(g.ay.take (m+1)).flatMap Cy.wK=L++Cy.wK r by rw[hft,<-afu,hL])
   rw[hL]at hpl HS;have hBW:=HS.bel.mono eY.out;obtain⟨rb,o,Ap,cp,rfl,hbB,⟨D0,D1,D2,D3,D4⟩,hpr⟩:=aZ.rel hr;have d0:=(hBW.cell (p:=⟨rb,o+m*5,none⟩) hbB).trans D0;have d1:=(hBW.cell (p:=⟨rb,o+m*5+1,none⟩) hbB).trans D1;have d2:=(hBW.cell (p:=⟨rb,o+m*5+2,none⟩) hbB).trans D2;have d3:=(hBW.cell (p:=⟨rb,o+m*5+3,none⟩) hbB).trans D3;have d4:=(hBW.cell (p:=⟨rb,o+m*5+4,none⟩) hbB).trans D4;obtain⟨pl,Ho⟩:=aj r.props.length;rw[Ho]at d4;have YB:=zA.out r (aew hr);have hrk:=bF.rs r (aew hr);obtain⟨zt,aK⟩:=aj (⟨r.type.toArray⟩:ByteArray);unfold ST at d1;rw[aK]at d1;have arq:zt.size<=40:=by rw[<-aK,dR];exact YB.tl
   obtain⟨WN,bM⟩:=aj (wr.alloc (.cells #[.int .i64 r.id,.string zt,.int .i64 r.src,.int .i64 r.dst,.slice Ap pl cp] 74));have hbn:Below wr.heap.size wr WN:=by rw[<-bM];exact(aoa _ _).alloc (aej _) _
   have dB:=ah (HS.below hbn);have lK:=ah (gK.below hbn gK.lt);obtain⟨nd,hnd⟩:=aj wr.heap.size;have hk0:ak WN nd 74 #[.int .i64 r.id,.string zt,.int .i64 r.src,.int .i64 r.dst,.slice Ap pl cp]:=by rw[<-bM,<-hnd];exact ak.new _ _ _
   have hne:nd≠b:=by have:=HS.sz;omega
   have iR:=ah hk0;have mG:=ah hne;have e0:WN.cell? ⟨nd,0,none⟩=some (.int .i64 r.id):=hk0.cell 0;have e1:WN.cell? ⟨nd,1,none⟩=some (.string zt):=hk0.cell 1;have e2:WN.cell? ⟨nd,2,none⟩=some (.int .i64 r.src):=hk0.cell 2;have q0:=fun n os=>qy (w:=WN) hk0.lt e0 n os
   have q1:=fun n os=>qy (w:=WN) hk0.lt e1 n os
   have q2:=fun n os=>qy (w:=WN) hk0.lt e2 n os
   obtain⟨zs,hzs⟩:=aj (⟨(110 :: Lib.itoa r.src).toArray⟩:ByteArray);obtain⟨zi,hzi⟩:=aj (⟨(Lib.itoa r.id).toArray⟩:ByteArray);have JQ:=HL.below dB.bel;have EK:=ah (fun n os=>KQ (by have:=VK r.src (wide WN n os) hrk.src (JQ.below (zU WN n os));rw[hzs]at this;exact this))
   have JR:=ah (fun n os=>KQ (by have:=Ud r.id (wide WN n os) hrk.id.1 hrk.id.2 (JQ.below (zU WN n os));rw[hzi]at this;exact this))
   have ars:zs.size<=22:=by rw[<-hzs,dR,ae7];have:=KH hrk.src.1 hrk.src.2;omega
   have aoX:zi.size<=21:=by rw[<-hzi,dR];exact KH hrk.id.1 hrk.id.2
   have s1:(⟨#[67,82,69,65,84,69,32,40]⟩++zs:ByteArray).size<=30:=by rw[afU];show 8+zs.size<=30;omega
   have s2:(⟨#[67,82,69,65,84,69,32,40]⟩++zs ++⟨#[41,45,91,114]⟩:ByteArray).size<=34:=by rw[afU];show _+4<=34;omega
   have s3:(⟨#[67,82,69,65,84,69,32,40]⟩++zs ++⟨#[41,45,91,114]⟩++zi:ByteArray).size<=55:=by rw[afU];omega
   have s4:(⟨#[67,82,69,65,84,69,32,40]⟩++zs ++⟨#[41,45,91,114]⟩++zi ++⟨#[58]⟩:ByteArray).size<=56:=by rw[afU];show _+1<=56;omega
   have s5:(⟨#[67,82,69,65,84,69,32,40]⟩++zs ++⟨#[41,45,91,114]⟩++zi ++⟨#[58]⟩++zt:ByteArray).size<=96:=by rw[afU];omega
   have t1:(9223372036854775807<8+zs.size)=False:=aqp (by omega)
   have t2:(9223372036854775807<8+zs.size+4)=False:=aqp (by omega)
   have t3:(9223372036854775807<8+zs.size+4+zi.size)=False:=aqp (by omega)
   have t4:(9223372036854775807<8+zs.size+4+zi.size+1)=False:=aqp (by omega)
   have t5:(9223372036854775807<8+zs.size+4+zi.size+1+zt.size)=False:=aqp (by omega)
   have mM:L.length<=8388608:=by rw[aeo]at hpl;omega
   refine gq7 bM YB hrk hpl hpr Ho (And.intro hzs (And.intro hzi aK)) fun gY RY wZ NR gJ Yz HZ=>?_;clear hr hft hpl hL hBW hbB D0 D1 D2 D3 D4 hpr YB hrk bM hbn hk0 hne hzs hzi aK JQ HS Ho hmn hm
   go_upto_region 19 with fail
   rw[gY.out]
   try rw[hnd]
   clear hnd d0 d1 d2 d3 d4;refine abU 13 (by kernel_rfl) (by kernel_rfl) ?_
   simp only[ag7,agL,af9,afW]
   repeat (quiet_step (first|exact EK.out _ _|exact JR.out _ _|fail))
   refine atj ?_;rintro _ ⟨⟨qn,qos⟩,rfl⟩;obtain⟨WW,RZ⟩:=aj (wide WN qn qos);have hbw:=zU WN qn qos
   show wpList _ _ _ _ _ (wide WN qn qos)
   rw[RZ]at hbw⊢;have uX:=ah (show CY w b nd 74 #[.slice An k cn,.slice (some ⟨rb,o,none⟩) rn cr] #[.int .i64 r.id,.string zt,.int .i64 r.src,.int .i64 r.dst,.slice Ap pl cp] L WW from⟨dB.below hbw,lK.below hbw lK.lt,iR.below hbw iR.lt,mG.out,afM.symm,by decide⟩)
   clear RZ hbw dB lK iR e0 e1 e2 q0 q1 q2 t1 t2 t3 t4 t5 EK JR;obtain⟨zq,nO⟩:=aj (⟨#[67,82,69,65,84,69,32,40]⟩++zs ++⟨#[41,45,91,114]⟩++zi ++⟨#[58]⟩++zt:ByteArray);rw[nO]at s5;have HW1:=ah (KG b b L zq WW uX.s.yK (by omega) (by omega) (anu uX.s.sz))
   try rw[nO]
   have HZQ:=ah nO;clear nO s1 s2 s3 s4;go_wp2_with fail;refine HW1.mono ?_;rintro e w5 ⟨rfl,hl5,hb5,NS⟩;obtain⟨L1,hL1⟩:=aj (L++zq.data.toList);rw[hL1]at hl5;have Hq:=ah (uX.put hl5 hb5 NS);have fB:=ah (show L1=L ++(Cy.uz++[32,40,110]++Lib.itoa r.src++[41,45,91,114]++Lib.itoa r.id++[58]++r.type) by rw[<-hL1,<-HZQ.out,<-HZ.out.1,<-HZ.out.2.1,<-HZ.out.2.2];simp[Cy.uz])
   clear hl5 hb5 NS hL1 uX HW1;have hk0:=Hq.n;have e3:w5.cell? ⟨nd,3,none⟩=some (.int .i64 r.dst):=hk0.cell 3;have e4:w5.cell? ⟨nd,4,none⟩=some (.slice Ap pl cp):=hk0.cell 4;have q3:=fun n os=>qy (w:=w5) hk0.lt e3 n os
   have q4:=fun n os=>qy (w:=w5) hk0.lt e4 n os
   obtain⟨zd,hzd⟩:=aj (⟨(110 :: Lib.itoa r.dst).toArray⟩:ByteArray);obtain⟨zm,hzm⟩:=aj (⟨(Cy.x8 r.props).toArray⟩:ByteArray);have Ht:=fun n os=>Hq.s.bel.trans ((zU w5 n os).mono Hq.s.bel.size)
   have EK:=ah (fun n os=>KQ (by have:=VK r.dst (wide w5 n os) wZ.dst (HL.below (Ht n os));rw[hzd]at this;exact this))
   have RX:=ah (fun n os=>KQ (by have:=acX B Ap cp r.props (wide w5 n os) (gJ.below ((Ht n os).mono eY.out) (bg.below ((Ht n os).mono eY.out))) (aep eY.out (Ht n os).size) RY.pl RY.ps RY.ml (HL.below (Ht n os));rw[hzm,Yz.out]at this;exact this))
   have aru:zd.size<=22:=by rw[<-hzd,dR,ae7];have:=KH wZ.dst.1 wZ.dst.2;omega
   have aoY:zm.size<=1000:=by rw[<-hzm,dR];exact RY.ml
   have t1:(9223372036854775807<zm.size+4)=False:=aqp (by omega)
   have t2:(9223372036854775807<zm.size+4+zd.size)=False:=aqp (by omega)
   have t3:(9223372036854775807<zm.size+4+zd.size+3)=False:=aqp (by omega)
   have NT:=ah (show L++Cy.wK r=L1 ++(zm ++⟨#[93,45,62,40]⟩++zd ++⟨#[41,59,10]⟩:ByteArray).data.toList by rw[fB.out,<-hzm,<-hzd];simp[Cy.wK])
   have HZ2:=ah (And.intro hzd hzm);have Ym:=ah Ht;clear hk0 Ht hzd hzm
   go_upto_region 20 with fail
   refine abU 9 (by kernel_rfl) (by kernel_rfl) ?_
   simp only[ag7,agL,af9,afW]
   repeat (quiet_step (first|exact EK.out _ _|exact RX.out _ _|fail))
   refine atj ?_;rintro _ ⟨⟨YC,YD⟩,rfl⟩;obtain⟨WV,hWV⟩:=aj (wide w5 YC YD);have hbw:=zU w5 YC YD
   show wpList _ _ _ _ _ (wide w5 YC YD)
   rw[hWV]at hbw⊢;have AU:=ah (Hq.below hbw);clear hWV hbw e3 e4 q3 q4 t1 t2 t3 EK RX Ym;obtain⟨YE,Si⟩:=aj (zm ++⟨#[93,45,62,40]⟩++zd ++⟨#[41,59,10]⟩:ByteArray);have uI:=ah (show L++Cy.wK r=L1++YE.data.toList by rw[NT.out,Si])
   have arv:YE.size<=1040:=by rw[<-Si];simp only[afU];show zm.size+4+zd.size+3<=_;omega
   have arw:L1.length<=8388608:=by
    have h1:=NR.out;rw[uI.out,aeo]at h1;omega
   have HW2:=ah (KG b b L1 YE WV AU.s.yK (by omega) (by omega) (anu AU.s.sz))
   try rw[Si]
   clear Si NT;go_wp2_with fail;refine HW2.mono ?_;rintro e w8 ⟨rfl,rD,hb8,rE⟩;have jV:=ah (AU.put rD hb8 rE);clear rD hb8 rE;go_wp2
   go_roundg q
   case measure=>omega
   exact⟨m+1,int_eq (by omega),by have:=HM.out;omega,by rw[Yy.out,uI.out];exact jV.s,jV.g⟩
def JU:List UInt8:=[67,82,69,65,84,69,32,40,110,49,41,44,32,40,110,48,58,65,32,123,107,58,32,91,58,105,110,116,32,49,93,125,41,44,32,40,110,48,41,45,91,114,48,58,84,93,45,62,40,110,49,41,59]
def YF:List UInt8:=[67,82,69,65,84,69,32,40,110,48,58,65,32,123,107,58,32,91,58,105,110,116,32,49,93,125,41,59,10,67,82,69,65,84,69,32,40,110,49,41,59,10,67,82,69,65,84,69,32,40,110,48,41,45,91,114,48,58,84,93,45,62,40,110,49,41,59,10]
def Sj:List UInt8:=[67,82,69,65,84,69,32,40,110,48,41]
def CZ:Gr.N:=⟨0,[[65]],[⟨[107],⟨6,0,[],[1],[]⟩⟩]⟩
def C9:Gr.N:=⟨1,[],[]⟩
def BG:Gr.G:=⟨[CZ,C9],[⟨0,[84],0,1,[]⟩]⟩
def VN:Gr.G:=⟨[C9,CZ],[⟨0,[84],0,1,[]⟩]⟩
def alk:Gr.canon VN=BG:=by
 have e0:Gr.sQ CZ=CZ:=by
  have h1:Gr.vG [[65]]=[[65]]:=apf _;have h2:Gr.kV [⟨[107],⟨6,0,[],[1],[]⟩⟩]=[⟨[107],⟨6,0,[],[1],[]⟩⟩]:=apf _;unfold Gr.sQ CZ;rw[h1,h2]
 have e1:Gr.sQ C9=C9:=by
  have h1:Gr.vG []=[]:=an7;have h2:Gr.kV []=[]:=an7;unfold Gr.sQ C9;rw[h1,h2]
 have e2:Gr.vH ⟨0,[84],0,1,[]⟩=⟨0,[84],0,1,[]⟩:=by
  have h2:Gr.kV []=[]:=an7;unfold Gr.vH;rw[h2]
 have e3: [CZ,C9]=Gr.mY (fun a b:Int=>decide (a<=b)) Gr.N.id [C9,CZ]:=Vq KU (by decide) (List.Perm.swap _ _ _) (by decide)
 have e4:Gr.mY (fun a b:Int=>decide (a<=b)) Gr.R.id [(⟨0,[84],0,1,[]⟩:Gr.R)]=[⟨0,[84],0,1,[]⟩]:=apf _
 unfold Gr.canon VN BG;simp only[agQ,ahr,e0,e1,e2,e4];rw[<-e3]
def ac0:(Gr.check BG).1=0:=by kernel_rfl
def alm:(Lex.read JU).2=none:=by kernel_rfl
def aln:(Cy.patterns (Lex.read JU).1).map (Cy.make Gr.G0)=some (VN,0):=by kernel_rfl
def VO:Cy.parse JU=(BG,0):=by
 obtain⟨ps,h1,h2⟩:=afr.1 aln;unfold Cy.parse;simp only[alm,h1,h2,alk,ac0];simp
def alo:Cy.parse Sj=(Gr.G0,250):=by kernel_rfl
def ac1:Cy.print BG=YF:=by kernel_rfl
def alp:Cy.lit ⟨8,0,[],[],[]⟩=[91,58,116,101,120,116,93]:=by kernel_rfl
def alq (h:Jl BG):acY BG:=by
 refine⟨ac0,by rw[ac1];decide,fun n hn=> ?_,fun r hr=> ?_⟩
 ·have hk:=h.ns n hn
  simp only[BG,aga,anX,apz]at hn
  rcases hn with rfl|rfl
  ·refine⟨by decide,fun p hp=> ?_,by decide,by simp[CZ],aeL (by kernel_rfl)⟩
   have hp2:=hk.ps p hp;simp only[CZ,aga,anX,apz]at hp;subst hp;exact⟨hp2,by decide,⟨by kernel_rfl,Or.inl rfl,rfl,by decide,aeL (by kernel_rfl)⟩⟩
  exact⟨by decide,fun p hp=>by simp[C9]at hp,by decide,by simp[C9],aeL (by kernel_rfl)⟩
 simp only[BG,aga,anX,apz]at hr;subst hr;exact⟨by decide,by decide,fun p hp=>by simp at hp,aeL (by kernel_rfl)⟩
def alr (w:World) (hL: ∀V,Below w.heap.size w V->Laid V):Calls prog 4 #[] w fun e w'=>e=.returned (.bool true)/\Below w.heap.size w w':=by
 have hp1:=VI ⟨JU.toArray⟩ (by decide) w hL
 rw[show(⟨JU.toArray⟩:ByteArray).data.toList=JU from rfl,VO]at hp1
 have GX:=ah hp1;have HL:=ah hL;clear hp1 hL;go_enter func4,ntmps4;go_wp2_with fail;refine GX.mono ?_;rintro e w1 ⟨u,rfl,hg,hb⟩;have EM:=hg.CW (Cy.UL VO).1.ok
 obtain⟨A1,c1,A2,c2,Al,cl,g,rfl,rfl,hcell⟩: ∃A1 c1 A2 c2 Al cl g,u=.agg #[.slice A1 2 c1,.slice A2 1 c2]/\A1=some ⟨g,0,none⟩/\w1.cell? ⟨g,1,none⟩=some (.slice Al 1 cl):=by
  obtain⟨sn,sr,ln,lr,rfl,q1,q2,q3,q4,q5,q6⟩:=hg;obtain⟨A1,c1,rfl⟩:=aH q3;obtain⟨A2,c2,rfl⟩:=aH q6;cases ln with
  |nil=>cases q1
  |cons x r=>
   obtain⟨x0,cs⟩:=x;obtain⟨sl,sp,e,o1,-⟩:=q2 _ (aph ..);obtain⟨Al,cl,rfl⟩:=aH o1
   injection q1 with q1 _
   simp only at q1 e;subst q1 e;obtain⟨g,e,-,hc,-⟩:=yh q3 (t:=1) (by decide)
   exact⟨A1,c1,A2,c2,Al,cl,g,rfl,e,hc⟩
 have hb2:Below w1.heap.size w1 (w1.alloc (.cells #[.slice (some ⟨g,0,none⟩) 2 c1,.slice A2 1 c2] 26)):=(aoa _ _).alloc (aej _) _;obtain⟨d0,d1⟩:=cells2 (ak.new w1 26 #[.slice (some ⟨g,0,none⟩) 2 c1,.slice A2 1 c2]);have e1:(w1.alloc (.cells #[.slice (some ⟨g,0,none⟩) 2 c1,.slice A2 1 c2] 26)).cell? ⟨g,1,none⟩=some (.slice Al 1 cl):=(hb2.cell (arV w1 _ hcell)).trans hcell;have hpr:=alj w1.heap.size _ _ _ (EM.below hb2) (alq (Cy.UL VO).1.ok) (by simp) (HL.out _ (hb.trans (hb2.mono hb.size)))
 rw[ac1]at hpr;have gJ:=ah hpr;have HB2:=ah (hb.trans (hb2.mono hb.size));clear hg EM hb hb2 hcell hpr GX;go_wp2_with fail;refine mq8 gJ fun w3 b3=>?_;obtain⟨z2,hz2⟩:=aj (⟨YF.toArray⟩:ByteArray);rw[hz2];have t2:z2.toList=YF:=by rw[<-hz2];exact zV _
 have hb3:=HB2.trans (b3.mono HB2.size);have hp3:=VI ⟨Sj.toArray⟩ (by decide) w3 (fun V hV=>HL.out V (hb3.trans (hV.mono hb3.size)))
 rw[show(⟨Sj.toArray⟩:ByteArray).data.toList=Sj from rfl,alo]at hp3
 have Eo:=ah hp3;have HB3:=ah hb3;clear hz2 hp3 hb3 b3 gJ HB2;go_wp2_with fail;refine Eo.mono ?_;rintro e w4 ⟨u4,rfl,hg4,b4⟩
 obtain⟨A4,c4,A5,c5,rfl⟩: ∃A c B d,u4=.agg #[.slice A 0 c,.slice B 0 d]:=by
  obtain⟨sn,sr,ln,lr,rfl,-,-,h3,-,-,h6⟩:=hg4;obtain⟨A,c,rfl⟩:=aH h3;obtain⟨B,d,rfl⟩:=aH h6;exact⟨A,c,B,d,rfl⟩
 have hb4:Below w.heap.size w (w4.alloc (.cells #[.slice A4 0 c4,.slice A5 0 c5] 26)):=(HB3.trans (b4.mono HB3.size)).alloc (aep HB3.size b4.size) _;have YG:=acD 0 (.agg #[.int .i64 8,.int .i64 0,.string ⟨#[]⟩,.slice none 0 0,.slice none 0 0]) ⟨8,0,[],[],[]⟩ (w4.alloc (.cells #[.slice A4 0 c4,.slice A5 0 c5] 26)) ⟨⟨none,0,none,0,rfl,Reads.none_,Reads.none_⟩,⟨by decide,by decide⟩,⟨by decide,by decide⟩,by simp,by simp,by simp,by simp,by simp⟩ ⟨by kernel_rfl,Or.inr ⟨rfl,rfl⟩,rfl,anH _,aeL (by kernel_rfl)⟩ (anH _) (HL.out _ hb4)
 rw[alp]at YG;have Ak:=ah YG;have HB4:=ah hb4;clear hg4 b4 YG hb4 Eo HB3;go_wp2_with fail;refine mq8 Ak fun w5 b5=>?_;have dI:=ah (HB4.trans (b5.mono HB4.size));clear b5;go_wp2_with fail;go_ret;exact⟨rfl,dI.out⟩
def als (B:Nat) (A1 A2:Option Addr) (c1 c2 n:Nat) (ls:List (List UInt8)) (w:World) (h1:Reads w B 1 A1 n (ls.map ST)) (h2:Reads w B 1 A2 n (ls.map ST)) (hB:B<=w.heap.size) (hn:n<=1073741824):
  Calls prog 21 #[.slice A1 n c1,.slice A2 n c2] w fun e w'=>e=.returned (.bool true)/\Below w.heap.size w w':=by
 have H1:=ah h1;have H2:=ah h2;clear h1 h2 hB;go_enter func21,ntmps21;go_wp2_with fail
 go_loopg [5] n (fun g x wr=> ∃k m:Nat,x=.int .i64 k/\k+g=n/\w.drewN m=wr)
 case atStart=>exact⟨0,0,rfl,by omega,rfl⟩
 obtain⟨k,m,rfl,hk,rfl⟩:=hrel;cases gk with
 |zero=>
  obtain rfl:k=n:=by omega
  clear hk;go_wp2;go_ret;exact⟨rfl,below_drewN (aoa _ _) _⟩
 |succ g=>
  have hkn:k<n:=by omega
  have dW:(k:Int)<n:=by omega
  obtain⟨p,o,x,rfl,-,hx,hp⟩:=H1.cell hkn;obtain⟨p',o',x',rfl,-,hx',hp'⟩:=H2.cell hkn;rw[hx]at hx';obtain rfl:x=x':=aeM hx';rw[aeY]at hx;obtain⟨y,-,rfl⟩:=afr.1 hx;unfold ST at hp hp';have HK:=ah hk;clear hx hx' hk;go_wp2_with fail
  go_quiet (fail)
  go_wp2
  go_roundg g
  case measure=>omega
  exact⟨k+1,m+nq,int_eq' (by omega),by have:=HK.out;omega,rfl⟩
def ac2 (B:Nat) (A1 A2:Option Addr) (c1 c2 n:Nat) (ps:List Gr.P) (w:World) (h1:dD w B 6 (bg w B) A1 ps) (h2:dD w B 6 (bg w B) A2 ps) (hl:ps.length=n) (hok: ∀p∈ps,vT p) (hB:B<=w.heap.size) (hn:n<=1073741824):
  Calls prog 22 #[.slice A1 n c1,.slice A2 n c2] w fun e w'=>e=.returned (.bool true)/\Below w.heap.size w w':=by
 refine gq5 h1 h2 hl hok hB fun H1 H2 HL bF aN=>?_;have hu:=o9;clear h1 h2 hB hl hok;go_enter func22,ntmps22;go_wp2_with fail
 go_loopg [5] n (fun g x wr=> ∃k:Nat,x=.int .i64 k/\k+g=n/\Hid (Below w.heap.size w wr))
 case atStart=>exact⟨0,rfl,by omega,aoa _ _⟩
 obtain⟨k,rfl,hk,hb⟩:=hrel;have HB:Hid (Below w.heap.size w wr):=hb;clear hb;cases gk with
 |zero=>
  obtain rfl:k=n:=by omega
  clear hk;go_wp2;go_ret;exact⟨rfl,HB.out⟩
 |succ g=>
  have hkn:k<n:=by omega
  have dW:(k:Int)<n:=by omega
  obtain⟨p,hp⟩: ∃p,ps[k]?=some p:=⟨_,aen (by rw[HL.out];exact hkn)⟩
  have hBw:=HB.mono aN.out;obtain⟨b,o,An,cn,At,ct,rfl,hlt,⟨p0,p1,p2,p3,p4,p5⟩,ra,rb⟩:=(H1.below hBw (bg.below hBw)).prop hp;obtain⟨b',o',lI,jY,lJ,jZ,rfl,hlt',⟨q0,q1,q2,q3,q4,q5⟩,Dc,uY⟩:=(H2.below hBw (bg.below hBw)).prop hp;have iV:=bF.out p (aew hp);have hsz:=aep aN.out HB.size;have hvs:=fun(n:Nat) (os:Array Obj)=>KQ (ai2 B _ _ p.val (wide wr n os) ((zX (cn:=cn) (ct:=ct) iV.val ra rb).below ((zU wr n os).mono hsz)) ((zX (cn:=jY) (ct:=jZ) iV.val Dc uY).below ((zU wr n os).mono hsz)) (aep hsz (UZ wr n os)))
  simp only[ST]at p0 p3 q0 q3 hvs;obtain⟨z1,hz1⟩:=aj (⟨p.key.toArray⟩:ByteArray);obtain⟨z2,hz2⟩:=aj (⟨p.val.text.toArray⟩:ByteArray);rw[hz1]at p0 q0;rw[hz2]at p3 q3 hvs;have g0:=qy (afn hlt hsz) p0;have g1:=qy (afn hlt hsz) p1;have g2:=qy (afn hlt hsz) p2;have g3:=qy (afn hlt hsz) p3;have g4:=qy (afn hlt hsz) p4;have g5:=qy (afn hlt hsz) p5;have h0:=qy (afn hlt' hsz) q0;have h1:=qy (afn hlt' hsz) q1;have h2:=qy (afn hlt' hsz) q2;have h3:=qy (afn hlt' hsz) q3;have h4:=qy (afn hlt' hsz) q4;have h5:=qy (afn hlt' hsz) q5;have HVS:=ah hvs;have HK:=ah hk;clear ra rb Dc uY iV hvs hz1 hz2 hp p0 p1 p2 p3 p4 p5 q0 q1 q2 q3 q4 q5 hlt hlt' hk hsz hBw;go_wp2_with fail;refine ajW (by kernel_rfl) (by kernel_rfl) ?_
  repeat (quiet_step (first|exact HVS.out _ _|fail))
  refine atj ?_;rintro _ ⟨⟨qn,qos⟩,rfl⟩;have HB2:=ah (HB.trans ((zU wr qn qos).mono HB.size));clear g0 g1 g2 g3 g4 g5 h0 h1 h2 h3 h4 h5 HVS;go_wp2_with fail
  go_roundg g
  case measure=>omega
  exact⟨k+1,int_eq' (by omega),by have:=HK.out;omega,HB2.out⟩
structure vK (T:TypeId) (c1 c2:Array Value) (W:World) (b1 b2:Nat) (V:World):Prop where
 k1:ak V b1 T c1
 k2:ak V b2 T c2
 bel:Below W.heap.size W V
def vK.one (T:TypeId) (c1 c2:Array Value) (W:World):vK T c1 c2 W W.heap.size (W.heap.size+1) ((W.alloc (.cells c1 T)).alloc (.cells c2 T)).drew:=by
 have h2:=ak.new (W.alloc (.cells c1 T)) T c2;rw[asB]at h2;exact⟨(ak.new W T c1).alloc _,h2,(((aoa _ W).alloc (aej _) _).alloc (by simp) _).drew⟩
def vK.two (T:TypeId) (c1 c2:Array Value) (W:World):vK T c1 c2 W (W.heap.size+1) W.heap.size ((W.alloc (.cells c2 T)).alloc (.cells c1 T)).drew:=
 ⟨(vK.one T c2 c1 W).k2,(vK.one T c2 c1 W).k1,(vK.one T c2 c1 W).bel⟩
def alu (B:Nat) (u1 u2:Value) (g:Gr.G) (w:World) (h1:nN w B u1 g) (h2:nN w B u2 g) (hB:B<=w.heap.size):
  Calls prog 7 #[u1,u2] w fun e w'=>e=.returned (.bool true)/\Below w.heap.size w w':=by
 have hok:=h1.ok;obtain⟨A1,c1,A2,c2,rfl,n1,r1⟩:=h1.ex;obtain⟨A3,c3,A4,c4,rfl,n2,r2⟩:=h2.ex;obtain⟨n,hn⟩:=aj g.nodes.length;obtain⟨m,hm⟩:=aj g.ay.length;have hnl:n<=1073741824:=hn▸hok.nl;have hml:m<=1073741824:=hm▸hok.rl;rw[hn,hm];obtain⟨W1,hW1⟩:=aj ((w.alloc (.cells #[.slice A1 n c1,.slice A2 m c2] 26)).alloc (.cells #[.slice A3 n c3,.slice A4 m c4] 26));have hb1:Below w.heap.size w W1:=by rw[<-hW1];exact((aoa _ w).alloc (aej _) _).alloc (by simp) _
 have k1:ak W1 w.heap.size 26 #[.slice A1 n c1,.slice A2 m c2]:=by rw[<-hW1];exact(ak.new _ _ _).alloc _
 have k2:ak W1 (w.heap.size+1) 26 #[.slice A3 n c3,.slice A4 m c4]:=by
  rw[<-hW1];have:=ak.new (w.alloc (.cells #[.slice A1 n c1,.slice A2 m c2] 26)) 26 #[.slice A3 n c3,.slice A4 m c4]
  simpa using this
 refine gq6 (And.intro hn hm) hok hB (And.intro (And.intro n1 n2) (And.intro r1 r2)) hb1 (And.intro k1 k2) fun HN bF aN HP HB1 HK=>?_;obtain⟨a0,a1⟩:=cells2 k1;obtain⟨b0,b1⟩:=cells2 k2;have hu:=o9;clear h1 h2 hn hm hok hB n1 n2 r1 r2 hb1 k1 k2;go_enter func7,ntmps7;go_wp2_with fail
 go_loopg [5] n (fun kx x wr=> ∃k:Nat,x=.int .i64 k/\k+kx=n/\Hid (Below W1.heap.size W1 wr))
 case atStart=>exact⟨0,rfl,by omega,aoa _ _⟩
 obtain⟨k,rfl,hk,hb⟩:=hrel;have HB:Hid (Below W1.heap.size W1 wr):=hb;obtain⟨a0,a1⟩:=cells2 (HK.out.1.below HB.out HK.out.1.lt);obtain⟨b0,b1⟩:=cells2 (HK.out.2.below HB.out HK.out.2.lt);clear hb hW1;cases gk with
 |zero=>
  obtain rfl:k=n:=by omega
  clear hk;go_wp2_with fail
  go_loopg [8] m (fun kx x wx=> ∃j:Nat,x=.int .i64 j/\j+kx=m/\Hid (Below W1.heap.size W1 wx))
  case atStart=>exact⟨0,rfl,by omega,HB.out⟩
  obtain⟨j,rfl,hk,hb⟩:=hrel;clear HB;have HB:Hid (Below W1.heap.size W1 wr):=hb;obtain⟨a0,a1⟩:=cells2 (HK.out.1.below HB.out HK.out.1.lt);obtain⟨b0,b1⟩:=cells2 (HK.out.2.below HB.out HK.out.2.lt);clear hb;cases gk with
  |zero=>
   obtain rfl:j=m:=by omega
   have HF:=ah (HB1.trans (HB.mono HB1.size));clear hk;go_wp2_with fail;go_ret;exact⟨rfl,HF.out⟩
  |succ kq=>
   have hkn:j<m:=by omega
   have dW:(j:Int)<m:=by omega
   have pk:(0:Int)<=(j:Int):=by omega
   have tk:((j:Int)).toNat=j:=by omega
   obtain⟨p,hp⟩: ∃p,g.ay[j]?=some p:=⟨_,aen (by rw[HN.out.2];exact hkn)⟩
   have hBw:=(HB1.trans (HB.mono HB1.size)).mono aN.out;obtain⟨b,o,Ap,cp,rfl,hlt,⟨p0,p1,p2,p3,p4⟩,rb⟩:=(HP.out.2.1.below hBw (lU.below hBw)).rel hp;obtain⟨b',o',Hu,cp',rfl,hlt',⟨q0,q1,q2,q3,q4⟩,uY⟩:=(HP.out.2.2.below hBw (lU.below hBw)).rel hp;obtain⟨pl,hpl⟩:=aj p.props.length;obtain⟨zt,aK⟩:=aj (⟨p.type.toArray⟩:ByteArray);simp only[ST]at p1 q1;rw[aK]at p1 q1;rw[hpl]at p4 q4;have HX:=ah (And.intro hpl (And.intro hp (And.intro rb uY)));have HKK:=ah hk;clear hpl rb uY hp hBw hlt hlt' hk aK
   go_upto_region 12 with fail
   go_cut [9,10] (fun s6 s7 wx=> ∃b1 b2:Nat,s6=.pointer (some ⟨b1,0,none⟩)/\s7=.pointer (some ⟨b2,0,none⟩)/\vK 74 #[.int .i64 p.id,.string zt,.int .i64 p.src,.int .i64 p.dst,.slice Ap pl cp] #[.int .i64 p.id,.string zt,.int .i64 p.src,.int .i64 p.dst,.slice Hu pl cp'] wr b1 b2 wx)
   case first=>
    rename_i J K0 hJ hK;have nb:b≠wr.heap.size:=agH (arV wr _ p0);have nc:b'≠wr.heap.size:=agH (arV wr _ q0);have nd:w.heap.size≠wr.heap.size:=agH (arV wr _ a0);have ne:w.heap.size+1≠wr.heap.size:=agH (arV wr _ b0);have nf:b≠wr.heap.size+1:=agH (ag0 (arV wr _ p0));have ng:b'≠wr.heap.size+1:=agH (ag0 (arV wr _ q0));have nh:w.heap.size≠wr.heap.size+1:=agH (ag0 (arV wr _ a0));have ni:w.heap.size+1≠wr.heap.size+1:=agH (ag0 (arV wr _ b0))
    go_region_held3 (fun w'=>w'.cell? ⟨w.heap.size,1,none⟩=some (.slice (some ⟨b,o,none⟩) m c2)/\w'.cell? ⟨w.heap.size+1,1,none⟩=some (.slice (some ⟨b',o',none⟩) m c4)/\w'.cell? ⟨b,o+j*5,none⟩=some (.int .i64 p.id)/\w'.cell? ⟨b,o+j*5+1,none⟩=some (.string zt)/\w'.cell? ⟨b,o+j*5+2,none⟩=some (.int .i64 p.src)/\w'.cell? ⟨b,o+j*5+3,none⟩=some (.int .i64 p.dst)/\w'.cell? ⟨b,o+j*5+4,none⟩=some (.slice Ap pl cp)/\
     w'.cell? ⟨b',o'+j*5,none⟩=some (.int .i64 p.id)/\w'.cell? ⟨b',o'+j*5+1,none⟩=some (.string zt)/\w'.cell? ⟨b',o'+j*5+2,none⟩=some (.int .i64 p.src)/\w'.cell? ⟨b',o'+j*5+3,none⟩=some (.int .i64 p.dst)/\w'.cell? ⟨b',o'+j*5+4,none⟩=some (.slice Hu pl cp')) (go_keep) (fail)
    all_goals
     refine hK _ _ (Met.intro (hJ _ _ ?_))
     repeat apply Exists.intro
     first
      |exact⟨⟨_,_,rfl,rfl,vK.one _ _ _ _⟩,rfl⟩
      |exact⟨⟨_,_,rfl,rfl,vK.two _ _ _ _⟩,rfl⟩
   obtain⟨b1,b2,rfl,rfl,ht⟩:=hcut;obtain⟨d0,d1,d2,d3,d4⟩:=cells5 ht.k1;obtain⟨g0,g1,g2,g3,g4⟩:=cells5 ht.k2;have HB2:=ah (HB.trans (ht.bel.mono HB.size));have hbr:Below B wr wc:=ht.bel.mono (aep aN.out (aep HB1.size HB.size));have hsz:=aep aN.out (aep HB1.size HB2.size);obtain⟨hpl,hp,rb,uY⟩:=HX.out;have iV:=bF.rs p (aew hp);have nS:=ah (ac2 B Ap Hu cp cp' pl p.props wc (rb.below hbr (bg.below hbr)) (uY.below hbr (bg.below hbr)) hpl iV.ps hsz (hpl▸iV.pl));clear ht hbr hsz hpl hp rb uY iV HX p0 p1 p2 p3 p4 q0 q1 q2 q3 q4;go_wp2_with fail;refine mq8 nS fun w4 b4=>?_;have HB4:=ah (HB2.trans (b4.mono HB2.size));clear b4 nS;go_wp2_with fail
   go_roundg kq
   case measure=>omega
   exact⟨j+1,int_eq' (by omega),by have:=HKK.out;omega,HB4.out⟩
 |succ kq=>
  have hkn:k<n:=by omega
  have dW:(k:Int)<n:=by omega
  have pk:(0:Int)<=(k:Int):=by omega
  have tk:((k:Int)).toNat=k:=by omega
  obtain⟨p,hp⟩: ∃p,g.nodes[k]?=some p:=⟨_,aen (by rw[HN.out.1];exact hkn)⟩
  have hBw:=(HB1.trans (HB.mono HB1.size)).mono aN.out;obtain⟨b,o,Al,cl,Ap,cp,rfl,hlt,⟨p0,p1,p2⟩,ra,rb⟩:=(HP.out.1.1.below hBw (lT.below hBw)).node hp;obtain⟨b',o',YH,cl',Hu,cp',rfl,hlt',⟨q0,q1,q2⟩,Dc,uY⟩:=(HP.out.1.2.below hBw (lT.below hBw)).node hp;obtain⟨ll,hll⟩:=aj p.labels.length;obtain⟨pl,hpl⟩:=aj p.props.length;rw[hll]at p1 q1;rw[hpl]at p2 q2;have p0:wr.cell? _=_:=p0;have p1:wr.cell? _=_:=p1;have p2:wr.cell? _=_:=p2;have q0:wr.cell? _=_:=q0;have q1:wr.cell? _=_:=q1;have q2:wr.cell? _=_:=q2;have HX:=ah (And.intro (And.intro hll hpl) (And.intro hp (And.intro (And.intro ra rb) (And.intro Dc uY))));have HKK:=ah hk;clear hll hpl ra rb Dc uY hp hBw hlt hlt' hk
  go_upto_region 6 with fail
  go_cut [6,7] (fun s6 s7 wx=> ∃b1 b2:Nat,s6=.pointer (some ⟨b1,0,none⟩)/\s7=.pointer (some ⟨b2,0,none⟩)/\vK 37 #[.int .i64 p.id,.slice Al ll cl,.slice Ap pl cp] #[.int .i64 p.id,.slice YH ll cl',.slice Hu pl cp'] wr b1 b2 wx)
  case first=>
   rename_i J K0 hJ hK;have nb:b≠wr.heap.size:=agH (arV wr _ p0);have nc:b'≠wr.heap.size:=agH (arV wr _ q0);have nd:w.heap.size≠wr.heap.size:=agH (arV wr _ a0);have ne:w.heap.size+1≠wr.heap.size:=agH (arV wr _ b0);have nf:b≠wr.heap.size+1:=agH (ag0 (arV wr _ p0));have ng:b'≠wr.heap.size+1:=agH (ag0 (arV wr _ q0));have nh:w.heap.size≠wr.heap.size+1:=agH (ag0 (arV wr _ a0));have ni:w.heap.size+1≠wr.heap.size+1:=agH (ag0 (arV wr _ b0))
   go_region_held3 (fun w'=>w'.cell? ⟨w.heap.size,0,none⟩=some (.slice (some ⟨b,o,none⟩) n c1)/\w'.cell? ⟨w.heap.size+1,0,none⟩=some (.slice (some ⟨b',o',none⟩) n c3)/\w'.cell? ⟨b,o+k*3,none⟩=some (.int .i64 p.id)/\w'.cell? ⟨b,o+k*3+1,none⟩=some (.slice Al ll cl)/\w'.cell? ⟨b,o+k*3+2,none⟩=some (.slice Ap pl cp)/\
    w'.cell? ⟨b',o'+k*3,none⟩=some (.int .i64 p.id)/\w'.cell? ⟨b',o'+k*3+1,none⟩=some (.slice YH ll cl')/\w'.cell? ⟨b',o'+k*3+2,none⟩=some (.slice Hu pl cp')) (go_keep) (fail)
   all_goals
    refine hK _ _ (Met.intro (hJ _ _ ?_))
    repeat apply Exists.intro
    first
     |exact⟨⟨_,_,rfl,rfl,vK.one _ _ _ _⟩,rfl⟩
     |exact⟨⟨_,_,rfl,rfl,vK.two _ _ _ _⟩,rfl⟩
  obtain⟨b1,b2,rfl,rfl,ht⟩:=hcut;obtain⟨d0,d1,d2⟩:=cells3 ht.k1;obtain⟨g0,g1,g2⟩:=cells3 ht.k2;have HT:=ah ht;have HB2:=ah (HB.trans (ht.bel.mono HB.size));have hBw:=(HB1.trans (HB2.mono HB1.size)).mono aN.out;have hbr:Below B wr wc:=ht.bel.mono (aep aN.out (aep HB1.size HB.size));have hsz:=aep aN.out (aep HB1.size HB2.size);obtain⟨⟨hll,hpl⟩,hp,⟨ra,rb⟩,Dc,uY⟩:=HX.out;have iV:=bF.ns p (aew hp);rw[hll]at ra Dc;have HST:=ah (als B Al YH cl cl' ll p.labels wc ((show Reads wr _ _ _ _ _ from ra).below hbr) ((show Reads wr _ _ _ _ _ from Dc).below hbr) hsz (hll▸iV.ll))
  have nS:=ah (fun(V:World) (hb:Below wc.heap.size wc V)=>ac2 B Ap Hu cp cp' pl p.props V
   ((show dD wr _ _ _ _ _ from rb).below (hbr.trans (hb.mono hsz)) (bg.below (hbr.trans (hb.mono hsz)))) ((show dD wr _ _ _ _ _ from uY).below (hbr.trans (hb.mono hsz)) (bg.below (hbr.trans (hb.mono hsz)))) hpl iV.ps (aep hsz hb.size) (hpl▸iV.pl))
  clear ht hBw hbr hsz hll hpl hp ra rb Dc uY iV HX p0 p1 p2 q0 q1 q2;go_wp2_with fail;refine mq8 HST fun w3 b3=>?_;obtain⟨d0,d1,d2⟩:=cells3 (HT.k1.below b3 HT.k1.lt);obtain⟨g0,g1,g2⟩:=cells3 (HT.k2.below b3 HT.k2.lt);have HSQ:=ah (nS.out w3 b3);have HB3:=ah (HB2.trans (b3.mono HB2.size));clear b3 HST nS;go_wp2_with fail;refine mq8 HSQ fun w4 b4=>?_;have HB4:=ah (HB3.trans (b4.mono HB3.size));clear b4 HSQ;go_wp2_with fail
  go_roundg kq
  case measure=>omega
  exact⟨k+1,int_eq' (by omega),by have:=HKK.out;omega,HB4.out⟩
end Go.Proofs.YtdijgcnlbfgkdaaGreatDoor
