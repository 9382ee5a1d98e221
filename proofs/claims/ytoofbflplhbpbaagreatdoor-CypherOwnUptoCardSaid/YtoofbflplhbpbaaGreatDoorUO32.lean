/- Contracts and plain laws,part 32. -/
import Derived.Test.YtoofbflplhbpbaaGreatDoorUO31
set_option maxHeartbeats 64000000
set_option maxRecDepth 1000000
set_option linter.all false
namespace Go.Proofs.YtoofbflplhbpbaaGreatDoor
open Go.RowKit Go.Maps
theorem dW.grown {w w':World} {b:Nat} {l:List Int} {t:TypeId} {cs:Array Value} {g:Nat} (h:dW w b l) (hg:aj w g t cs):g≠b:=by
 rintro rfl;obtain ⟨n,D,-,⟨es,clock,hb,-⟩,-⟩:=h.ex;unfold aj at hg;rw [hg] at hb;cases hb
structure uD (w:World) (u v:Value) (l:List Int) (V:World):Prop where
 box:aj V w.heap.size 39 #[u,v]
 map:dW V (w.heap.size+1) l
 bel:Below w.heap.size w V
theorem uD.below {w V V':World} {u v:Value} {l:List Int} (h:uD w u v l V) (hb:Below V.heap.size V V'):uD w u v l V':=
 ⟨h.box.below hb h.box.lt,h.map.below hb,h.bel.trans (hb.mono h.bel.size)⟩
theorem uD.put {w V V':World} {u v:Value} {l l':List Int} (h:uD w u v l V) (hc:dW V' (w.heap.size+1) l') (hg:V.grownBy V' (some (w.heap.size+1))):uD w u v l' V':=
 ⟨h.box.grown hg (by simp),hc,h.bel.grown hg h.bel.size (fun j e=>by cases e;omega)⟩
theorem uD.start (w:World) (u v:Value):uD w u v [] ((w.alloc (.cells #[u,v] 39)).alloc (.map #[] 0)):=by
 have h1:=dW.made (w.alloc (.cells #[u,v] 39));rw [World.size_alloc] at h1
 exact ⟨(aj.new w _ _).alloc _,h1,((Below.refl _ w).alloc (ab1 _) _).alloc (by simp) _⟩
theorem aaU {g:Gr.G} {k e:Nat} {n:Gr.N} (hn:g.nodes[k]?=some n) (he:Gr.iI (Gr.aG Gr.N.id g.nodes k) n=e) (hne:e≠0) (h0: ∀j a,j<k->g.nodes[j]?=some a->Gr.iI (Gr.aG Gr.N.id g.nodes j) a=0):Gr.check g=(e,k):=by
 have:=Gr.QM Gr.iI Gr.N.id (i:=0) hn he hne h0;rw [akA] at this;unfold Gr.check
 rw [this,ab7 hne]
theorem aaV {g:Gr.G} {k e:Nat} {r:Gr.R} (hz: ∀j a,g.nodes[j]?=some a->Gr.iI (Gr.aG Gr.N.id g.nodes j) a=0) (hn:g.au[k]?=some r) (he:Gr.jf (g.nodes.map Gr.N.id) (Gr.aG Gr.R.id g.au k) r=e) (hne:e≠0)
  (h0: ∀j a,j<k->g.au[j]?=some a->Gr.jf (g.nodes.map Gr.N.id) (Gr.aG Gr.R.id g.au j) a=0):Gr.check g=(e,g.nodes.length+k):=by
 unfold Gr.check
 rw [Gr.Bh Gr.iI Gr.N.id hz,ab6 (by decide),Gr.QM (Gr.jf (g.nodes.map Gr.N.id)) Gr.R.id (i:=g.nodes.length) hn he hne h0,ab7 hne]
theorem aaW {g:Gr.G} (hz: ∀j a,g.nodes[j]?=some a->Gr.iI (Gr.aG Gr.N.id g.nodes j) a=0) (hr: ∀j a,g.au[j]?=some a->Gr.jf (g.nodes.map Gr.N.id) (Gr.aG Gr.R.id g.au j) a=0):
  Gr.check g=if 200<(Gr.dedup (Gr.oL g)).length\/200<(Gr.dedup (Gr.names2 g)).length\/200<(Gr.dedup (Gr.nS g)).length then (66,0) else if 262144<Gr.weight g then (67,0) else (0,0):=by
 unfold Gr.check
 rw [Gr.Bh Gr.iI Gr.N.id hz,ab6 (by decide),Gr.Bh (Gr.jf (g.nodes.map Gr.N.id)) Gr.R.id hr,ab6 (by decide)]
theorem aaX (B:Nat) (u:Value) (g:Gr.G) (w:World) (h:fE w B u g) (hB:B<=w.heap.size):
  Calls Tryz.prog 41 #[u] w fun e w'=>e= .returned (.tuple #[.int .i64 ((Gr.check g).1:Nat), .int .i64 ((Gr.check g).2:Nat)])/\Below w.heap.size w w':=by
 have HG:=ah h;have hok:=h.ok;obtain ⟨An,cn,Ar,cr,rfl,hN,hR⟩:=h.ex
 have hmm:= @run_makeMap Tryz.prog;have HN:=ah hN;have HR:=ah hR;have aK:=ah hok
 obtain ⟨nn,hnn⟩: ∃n,g.nodes.length=n:=⟨_,rfl⟩;obtain ⟨rn,hrn⟩: ∃n,g.au.length=n:=⟨_,rfl⟩
 have hnl:=hok.nl;have hrl:=hok.rl;rw [hnn] at hnl;rw [hrn] at hrl;rw [hnn,hrn] at HG
 rw [hnn,hrn];have ay:=ah hnn;have gy:=ah hrn
 have CJ:=ah (fun (V:World) (k:Nat) (n:Gr.N) (hb:Below B w V) (hn:g.nodes[k]?=some n) (hs:B<=V.heap.size)=>aiV B An cn g.nodes k n V (hN.below hb (gZ.below hb)) hs hok.nl hok.ns hn)
 have CO:=ah (fun (V:World) (k:Nat) (r:Gr.R) (mb:Nat) (ids:List Int) (hb:Below B w V) (hn:g.au[k]?=some r) (hs:B<=V.heap.size) (hc:dW V mb ids)=>aiW B Ar cr g.au k r mb ids V (hR.below hb (ig.below hb)) hs hok.rl hok.rs hn hc)
 rw [hnn] at CJ;rw [hrn] at CO;clear hN hR hok h hnn hrn
 have HST:=ah (uD.start w (.slice An nn cn) (.slice Ar rn cr))
 obtain ⟨W1,hW1⟩: ∃W1,(w.alloc (.cells #[.slice An nn cn, .slice Ar rn cr] 39)).alloc (.map #[] 0)=W1:=⟨_,rfl⟩
 have HW1:=ah hW1;rw [hW1] at HST;clear hW1;obtain ⟨c0,c1⟩:=cells2 HST.out.box
 go_enter Tryz.func41,Tryz.ntmps41
 go_upto_region 2 with fail
 rw [HW1.out];clear HW1;go_wp2_with fail
 go_loopg [15] nn (fun q x wr=> ∃k:Nat,x= .int .i64 k/\k+q=nn/\uD w (.slice An nn cn) (.slice Ar rn cr) ((g.nodes.map Gr.N.id).take k) wr/\ ∀j a,j<k->g.nodes[j]?=some a->Gr.iI (Gr.aG Gr.N.id g.nodes j) a=0)
 case atStart=>exact ⟨0,rfl,by omega,HST.out,fun j a h=>by omega⟩
 obtain ⟨k,rfl,hk,hrl,hz⟩:=hrel;have aW:=ah hrl;have HK:=ah hk;have HZ:=ah hz
 clear hrl hz c0 c1;cases gk with
 | succ q=>
  have hkn:k<nn:=by omega
  have dD:(k:Int)<nn:=by omega
  obtain ⟨n,hn⟩: ∃n,g.nodes[k]?=some n:=⟨_,ab2 (by rw [ay.out];exact hkn)⟩
  obtain ⟨b,o,Al,cl,Ap,cp,rfl,hbB,⟨D0,D1,D2⟩,-,-⟩:=HN.out.node hn
  have hBW:=aW.out.bel.mono hB;have d0:=(hBW.cell (p:=⟨b,o+k*3,none⟩) hbB).trans D0
  have d1:=(hBW.cell (p:=⟨b,o+k*3+1,none⟩) hbB).trans D1
  have d2:=(hBW.cell (p:=⟨b,o+k*3+2,none⟩) hbB).trans D2
  obtain ⟨WN,aX⟩: ∃W,wr.alloc (.cells #[.int .i64 n.id, .slice Al n.labels.length cl, .slice Ap n.props.length cp] 59)=W:=⟨_,rfl⟩
  have eG:=ah aX
  have yG:=ah (show uD w _ _ _ WN by rw [<-aX];exact aW.out.below ((Below.refl _ _).alloc (ab1 _) _))
  have aT:=ah (show aj WN wr.heap.size 59 #[.int .i64 n.id, .slice Al n.labels.length cl, .slice Ap n.props.length cp] by rw [<-aX];exact aj.new _ _ _)
  have hcn:=CJ.out WN k n (yG.out.bel.mono hB) hn (ab5 hB yG.out.bel.size)
  obtain ⟨E,hE⟩: ∃E,Gr.iI (Gr.aG Gr.N.id g.nodes k) n=E:=⟨_,rfl⟩;rw [hE] at hcn
  have HC:=ah hcn;have HE:=ah hE;have Ai:=ah hn;have adP:=(aK.out.ns n (acf hn)).id
  have GZ:=ah adP;clear aX hbB D0 D1 D2 hk hkn hBW hcn hE adP hn
  go_upto_region 5 with fail
  rw [eG.out];clear d0 d1 d2;obtain ⟨c0,c1⟩:=cells2 yG.out.box;go_wp2_with fail
  refine HC.out.mono ?_;rintro e w2 ⟨rfl,hb⟩;have HR2:=ah (yG.out.below hb)
  have aC:=ah (aT.out.below hb aT.out.lt);clear hb c0 c1 HC;cases E with
  | succ e=>
   have hck:=aaU Ai.out HE.out (by omega) HZ.out
   have aU:=ah hck;have hne:(((e+1:Nat):Int) !=0)=true:=by rw [acV];omega
   clear hck;go_wp2
   go_ret2
   exact ⟨by rw [aU.out];rfl,HR2.out.bel⟩
  | zero=>
   have Et:=ah (xO Ai.out HZ.out HE.out)
   obtain ⟨L,hL⟩: ∃L,(g.nodes.map Gr.N.id).take k=L:=⟨_,rfl⟩
   have kK:L.length<1073741824:=by rw [<-hL,acW,ace,ay.out];have:=HK.out;omega
   rw [hL] at HR2;obtain ⟨N,hNc⟩: ∃N,L.count n.id=N:=⟨_,rfl⟩
   have qj:N<=L.length:=by rw [<-hNc];exact akp
   have hlk:=HR2.out.map.look (t:=97) Tryz.underlying97 GZ.out;rw [hNc] at hlk
   have jc:=ah hNc;have HL:=ah hL;have tC:=ah kK;have hNi:(N:Int)<=1073741824:=by omega
   obtain ⟨d0,d1,d2⟩:=cells3 aC.out;clear hNc hL kK qj
   go_wp2_with (at_mapUpdate;refine Si _ rfl HR2.out.map (by have:=tC.out;omega) (.tmp 28) (.tmp 30) (.tmp 32) 97 rfl Tryz.underlying97 rfl n.id GZ.out rfl (by rw [jc.out];rfl) ?_)
   intro w3 hc3 hg3;have HR3:=ah (HR2.out.put hc3 hg3);clear hc3 hg3 hlk d0 d1 d2;go_wp2
   go_roundg q
   case measure=>omega
   exact ⟨k+1,int_eq (by omega),by have:=HK.out;omega,by rw [FV (a:=n.id) (by rw [acJ,Ai.out];rfl),HL.out];exact HR3.out,Et.out⟩
 | zero=>
  obtain rfl:k=nn:=by omega
  have G9: ∀j a,g.nodes[j]?=some a->Gr.iI (Gr.aG Gr.N.id g.nodes j) a=0:=fun j a ha=>HZ.out j a (by have:=(acy.1 ha).1;have:=ay.out;omega) ha
  have hfin:(g.nodes.map Gr.N.id).take k=g.nodes.map Gr.N.id:=acg (by rw [ace,ay.out];exact ab1 _)
  have hrl2:=aW.out;rw [hfin] at hrl2;have ny:=ah hrl2;have jD:=ah G9
  obtain ⟨c0,c1⟩:=cells2 hrl2.box;clear hfin hrl2 hk G9 aW HZ HST;go_wp2_with fail
  go_loopg [37] rn (fun q x wr=> ∃m:Nat,x= .int .i64 m/\m+q=rn/\uD w (.slice An k cn) (.slice Ar rn cr) (g.nodes.map Gr.N.id) wr/\ ∀j a,j<m->g.au[j]?=some a->Gr.jf (g.nodes.map Gr.N.id) (Gr.aG Gr.R.id g.au j) a=0)
  case atStart=>exact ⟨0,rfl,by omega,ny.out,fun j a h=>by omega⟩
  obtain ⟨m,rfl,hm,hrl,hz⟩:=hrel;have aW:=ah hrl;have HK:=ah hm;have HZ:=ah hz
  clear hrl hz c0 c1;cases gk with
  | succ q=>
   have hmn:m<rn:=by omega
   have O5:(m:Int)<rn:=by omega
   obtain ⟨r,hr⟩: ∃r,g.au[m]?=some r:=⟨_,ab2 (by rw [gy.out];exact hmn)⟩
   have hcr:=CO.out wr m r (w.heap.size+1) (g.nodes.map Gr.N.id) (aW.out.bel.mono hB) hr (ab5 hB aW.out.bel.size) aW.out.map
   obtain ⟨E,hE⟩: ∃E,Gr.jf (g.nodes.map Gr.N.id) (Gr.aG Gr.R.id g.au m) r=E:=⟨_,rfl⟩
   rw [hE] at hcr;have HC:=ah hcr;have HE:=ah hE;have Ai:=ah hr
   obtain ⟨c0,c1⟩:=cells2 aW.out.box;clear hm hmn hcr hE hr;go_wp2_with fail
   refine HC.out.mono ?_;rintro e w2 ⟨rfl,hb⟩;have HR2:=ah (aW.out.below hb)
   clear hb c0 c1 HC;obtain ⟨c0,c1⟩:=cells2 HR2.out.box;cases E with
   | succ e=>
    have hck:=aaV jD.out Ai.out HE.out (by omega) HZ.out
    have aU:=ah hck;have hne:(((e+1:Nat):Int) !=0)=true:=by rw [acV];omega
    clear hck
    go_upto_region 15 with fail
    go_quiet (fail)
    go_wp2
    go_ret2
    exact ⟨by rw [aU.out,ay.out,akB];rfl,below_drewN HR2.out.bel nq⟩
   | zero=>
    have Et:=ah (xO Ai.out HZ.out HE.out);go_wp2
    go_roundg q
    case measure=>omega
    exact ⟨m+1,int_eq (by omega),by have:=HK.out;omega,HR2.out,Et.out⟩
  | zero=>
   obtain rfl:m=rn:=by omega
   have Eu: ∀j a,g.au[j]?=some a->Gr.jf (g.nodes.map Gr.N.id) (Gr.aG Gr.R.id g.au j) a=0:=fun j a ha=>HZ.out j a (by have:=(acy.1 ha).1;have:=gy.out;omega) ha
   have hrest:=aaW jD.out Eu;have Aj:Gr.uw g.nodes:=⟨fun j n hn=>Gr.MV.1 (jD.out j n hn)⟩
   have CY:Gr.xH (g.nodes.map Gr.N.id) g.au:=⟨fun j n hn=>Gr.MW.1 (Eu j n hn)⟩
   have iP:=ah (Gr.YS Aj CY);have Ew:=ah (Gr.YT Aj CY);have dR:=ah Aj.YR;have qp:=ah hrest
   have H1:=ah (fun (V:World) (hb:Below w.heap.size w V)=>ai5 B _ g V (HG.out.below (hb.mono hB)) (ab5 hB hb.size) (by have:=dR.out;unfold Gr.oL;omega))
   have H2:=ah (fun (V:World) (hb:Below w.heap.size w V)=>ai6 B _ g V (HG.out.below (hb.mono hB)) (ab5 hB hb.size))
   have H3:=ah (fun (V:World) (hb:Below w.heap.size w V)=>ai7 B _ g V (HG.out.below (hb.mono hB)) (ab5 hB hb.size) (by have:=iP.out;omega))
   have HW:=ah (fun (V:World) (hb:Below w.heap.size w V)=>ai4 B _ g V (HG.out.below (hb.mono hB)) (ab5 hB hb.size) Ew.out (by have:=iP.out;omega))
   obtain ⟨l1,hl1⟩: ∃n,(Gr.dedup (Gr.oL g)).length=n:=⟨_,rfl⟩
   obtain ⟨l2,hl2⟩: ∃n,(Gr.dedup (Gr.names2 g)).length=n:=⟨_,rfl⟩
   obtain ⟨l3,hl3⟩: ∃n,(Gr.dedup (Gr.nS g)).length=n:=⟨_,rfl⟩
   obtain ⟨wt,hwt⟩: ∃n,Gr.weight g=n:=⟨_,rfl⟩;rw [hl1] at H1 qp;rw [hl2] at H2 qp
   rw [hl3] at H3 qp;rw [hwt] at HW qp;clear hm hrest Aj CY Eu hl1 hl2 hl3 hwt CJ CO
   obtain ⟨c0,c1⟩:=cells2 aW.out.box;go_wp2_with fail;refine wp_loop_rounds 4 ?_
   rw [rounds_succ];go_wp2_with fail;refine (H1.out wr aW.out.bel).mono ?_
   rintro e w2 ⟨A1,d1,rfl,-,hb⟩;have dP:=ah (aW.out.below hb);clear hb c0 c1
   obtain ⟨c0,c1⟩:=cells2 dP.out.box;by_cases hq1:200<l1
   ·have t1:decide (200<l1)=true:=abW hq1
    have VR:(200:Int)<l1:=by omega
    have hck:Gr.check g=(66,0):=by rw [qp.out,ab7 (.inl hq1)]
    have aU:=ah hck;clear hck hq1 H1 H2 H3 HW;go_wp2
    go_ret2
    exact ⟨by rw [aU.out];rfl,dP.out.bel⟩
   have t1:decide (200<l1)=false:=abX hq1;have VR:(l1:Int)<=200:=by omega
   go_wp2_with fail;rw [rounds_succ];go_wp2_with fail
   refine (H2.out w2 dP.out.bel).mono ?_;rintro e w3 ⟨A2,d2,rfl,-,hb⟩
   have HS2:=ah (dP.out.below hb);clear hb c0 c1;obtain ⟨c0,c1⟩:=cells2 HS2.out.box
   by_cases hq2:200<l2
   ·have t2:decide (200<l2)=true:=abW hq2
    have VT:(200:Int)<l2:=by omega
    have hck:Gr.check g=(66,0):=by rw [qp.out,ab7 (.inr (.inl hq2))]
    have aU:=ah hck;clear hck hq2 H1 H2 H3 HW;go_wp2
    go_ret2
    exact ⟨by rw [aU.out];rfl,HS2.out.bel⟩
   have t2:decide (200<l2)=false:=abX hq2;have VT:(l2:Int)<=200:=by omega
   go_wp2_with fail;rw [rounds_succ];go_wp2_with fail
   refine (H3.out w3 HS2.out.bel).mono ?_;rintro e w4 ⟨A3,d3,rfl,-,hb⟩
   have bK:=ah (HS2.out.below hb);clear hb c0 c1;obtain ⟨c0,c1⟩:=cells2 bK.out.box
   by_cases hq3:200<l3
   ·have t3:decide (200<l3)=true:=abW hq3
    have VU:(200:Int)<l3:=by omega
    have hck:Gr.check g=(66,0):=by rw [qp.out,ab7 (.inr (.inr hq3))]
    have aU:=ah hck;clear hck hq3 H1 H2 H3 HW;go_wp2
    go_ret2
    exact ⟨by rw [aU.out];rfl,bK.out.bel⟩
   have t3:decide (200<l3)=false:=abX hq3;have VU:(l3:Int)<=200:=by omega
   go_wp2_with fail;rw [rounds_succ];go_wp2_with fail
   refine (HW.out w4 bK.out.bel).mono ?_;rintro e w5 ⟨rfl,hb⟩
   have iM:=ah (bK.out.below hb);clear hb c0 c1;by_cases hq4:262144<wt
   ·have t4:decide (262144<wt)=true:=abW hq4
    have VW:(262144:Int)<wt:=by omega
    have hck:Gr.check g=(67,0):=by rw [qp.out,ab6 (by omega),ab7 hq4]
    have aU:=ah hck;clear hck hq4 H1 H2 H3 HW;go_wp2
    go_ret2
    exact ⟨by rw [aU.out];rfl,iM.out.bel⟩
   have t4:decide (262144<wt)=false:=abX hq4;have VW:(wt:Int)<=262144:=by omega
   have hck:Gr.check g=(0,0):=by rw [qp.out,ab6 (by omega),ab6 hq4]
   have aU:=ah hck;clear hck hq4 H1 H2 H3 HW;go_wp2
   go_ret2
   exact ⟨by rw [aU.out];rfl,iM.out.bel⟩
end Go.Proofs.YtoofbflplhbpbaaGreatDoor
namespace Go.Proofs.YtoofbflplhbpbaaGreatDoor
open Go.RowKit
theorem Cy.JB.ok {v:ak.V} (h:Cy.JB v):BN v:=
 ⟨⟨by have:=h.kin;omega,by have:=h.kin;omega⟩,h.num,h.nums,ab5 h.tl (by decide),ab5 h.nl (by decide),ab5 h.sl (by decide),fun t ht=>ab5 (h.sz t ht) (by decide)⟩
theorem Cy.sK.ok {p:Gr.P} (h:Cy.sK p):pV p:=⟨ab5 h.key (by decide),h.val.ok⟩
theorem Cy.Ud.ok {n:Gr.N} (h:Cy.Ud n):DW n:=
 ⟨⟨by have:=h.lo;omega,by have:=h.hi;omega⟩,ab5 h.ll (by decide),fun l hl=>ab5 (h.ls l hl) (by decide),ab5 h.pl (by decide),fun p hp=>(h.ps p hp).ok⟩
theorem Cy.Ue.ok {n:Gr.R} (h:Cy.Ue n):Gl n:=
 ⟨⟨by have:=h.lo;omega,by have:=h.hi;omega⟩,ab5 h.tl (by decide),⟨by have:=h.src;omega,by have:=h.src;omega⟩,⟨by have:=h.dst;omega,by have:=h.dst;omega⟩,ab5 h.pl (by decide),fun p hp=>(h.ps p hp).ok⟩
theorem Cy.qW.ok {g:Gr.G} (h:Cy.qW g):xZ g:=
 ⟨ab5 h.lens.1 (by decide),fun n hn=>(h.ns n hn).ok,ab5 h.lens.2 (by decide),fun n hn=>(h.rs n hn).ok⟩
theorem Ti {β:Type} {W:World} {B e size n c:Nat} {A:Option Addr} {R:β->List Value->Prop} {l:List (β×List Value)} (h:W.ownsRow B e size (.slice A n c) n (l.flatMap Prod.snd)) (hn:l.length=n) (hs: ∀x∈l,x.2.length=size) (hR: ∀x∈l,R x.1 x.2):cZ W W.heap.size size R A (l.map Prod.fst):=fun i a ha=>by
 rw [acJ] at ha;obtain ⟨x,hx,rfl⟩:=ac7.1 ha;have hi:=(acy.1 hx).1
 obtain ⟨b,off,e,hb,hc⟩:=(Reads.je h).2 (by omega)
 have hm:=acf hx;refine ⟨b,off,x.2,e,hb,hR x hm,hs x hm,fun j u hu=> ?_⟩
 have hj:j<size:=by have:=(acy.1 hu).1;rw [hs x hm] at this;exact this
 have:=hc _ u ((flat_get (f:=Prod.snd) hs hx j hj).trans hu)
 rwa [<-akR] at this
theorem dJ.c {W:World} {B:Nat} {x:Gr.P×List Value} (h:dJ W B x):aQ W W.heap.size x.1 x.2:=by
 obtain ⟨s,t,e,h1,h2⟩:=h;obtain ⟨A1,c1,rfl⟩:=aJ h1;obtain ⟨A2,c2,rfl⟩:=aJ h2
 exact ⟨A1,c1,A2,c2,e,Reads.je h1,Reads.je h2⟩
theorem aV.lst {T:TypeId} {W:World} {B n c:Nat} {A:Option Addr} {ps:List Gr.P} (h:aV T W B (.slice A n c) ps):cZ W W.heap.size 6 (aQ W W.heap.size) A ps:=by
 obtain ⟨l,rfl,h1,h2⟩:=h
 have e:(l.map Prod.fst).length=n:=by
  rcases h2.2 with ⟨e,h0⟩ |⟨g,cap,cur,e,-⟩
  ·injection e with _ e;rw [h0,e]
  injection e with _ e;exact e.symm
 rw [e] at h2
 exact Ti h2 (by rw [<-e,ace]) (fun x hx=>(h1 x hx).len) (fun x hx=>(h1 x hx).c)
theorem jA.c {W:World} {B:Nat} {x:Gr.N×List Value} (h:jA W B x):gZ W W.heap.size x.1 x.2:=by
 obtain ⟨s,t,e,h1,h2⟩:=h;obtain ⟨A1,c1,rfl⟩:=aJ h1;obtain ⟨A2,c2,rfl⟩:=h2.form
 exact ⟨A1,c1,A2,c2,e,Reads.je h1,h2.lst⟩
theorem jB.c {W:World} {B:Nat} {x:Gr.R×List Value} (h:jB W B x):ig W W.heap.size x.1 x.2:=by
 obtain ⟨t,e,h2⟩:=h;obtain ⟨A2,c2,rfl⟩:=h2.form;exact ⟨A2,c2,e,h2.lst⟩
theorem iy.yH {W:World} {B:Nat} {u:Value} {g:Gr.G} (h:iy W B u g) (ok:xZ g):fE W W.heap.size u g:=by
 obtain ⟨sn,sr,ln,lr,rfl,q1,q2,q3,q4,q5,q6⟩:=h;obtain ⟨A1,c1,rfl⟩:=aJ q3
 obtain ⟨A2,c2,rfl⟩:=aJ q6;refine ⟨⟨A1,c1,A2,c2,rfl, ?_, ?_⟩,ok⟩
 ·have:=Ti q3 (by rw [<-q1,ace]) (fun x hx=>(q2 x hx).len) (fun x hx=>(q2 x hx).c)
  rwa [q1] at this
 have:=Ti q6 (by rw [<-q4,ace]) (fun x hx=>(q5 x hx).len) (fun x hx=>(q5 x hx).c)
 rwa [q4] at this
theorem iy.G0 (W:World) (B:Nat):iy W B (.agg #[.slice none 0 0, .slice none 0 0]) Gr.G0:=⟨_,_, [], [],rfl,rfl,by simp,World.ownsRow_nil _ _ _ _,rfl,by simp,World.ownsRow_nil _ _ _ _⟩
theorem iy.below {W W':World} {B:Nat} {u:Value} {g:Gr.G} (h:iy W B u g) (hb:Below W.heap.size W W'):iy W' B u g:=by
 have hk:Kt 0 0 W W':=Kt.of_below hb (anN _);obtain ⟨sn,sr,ln,lr,e,q1,q2,q3,q4,q5,q6⟩:=h
 exact ⟨sn,sr,ln,lr,e,q1,fun x hx=>(q2 x hx).kt hk (by decide) (by decide) (by decide),nP q3 hk (by decide),q4,fun x hx=>(q5 x hx).kt hk (by decide) (by decide) (by decide),nP q6 hk (by decide)⟩
theorem iy.lower {W:World} {B B':Nat} {u:Value} {g:Gr.G} (h:iy W B u g) (hb:B'<=B):iy W B' u g:=by
 obtain ⟨sn,sr,ln,lr,e,q1,q2,q3,q4,q5,q6⟩:=h
 refine ⟨sn,sr,ln,lr,e,q1,fun x hx=> ?_,jX q3 hb,q4,fun x hx=> ?_,jX q6 hb⟩
 ·obtain ⟨s,t,e,o1,o2⟩:=q2 x hx
  exact ⟨s,t,e,jX o1 hb,o2.base hb⟩
 obtain ⟨t,e,o2⟩:=q5 x hx;exact ⟨t,e,o2.base hb⟩
theorem Cy.Tj: ∀(ps:List Gr.P) (seen:List Cy.L),Cy.dV seen ps=0->seen.Nodup->(seen ++ ps.map Gr.P.key).Nodup
 | [],seen,_,h=>by simpa using h
 | p :: r,seen,h,hs=>by
  rw [Cy.dV] at h
  split at h
  ·cases h
  split at h
  ·cases h
  rename_i hm
  split at h
  ·rename_i hc;exact absurd h hc
  have:=Tj r (seen ++ [p.key]) h (Cy.IK hs hm)
  simpa using this
theorem Cy.ai8 {g:Gr.G} {p:Cy.aZ} (hg:I5 g) (h:(Cy.add g p).2=0):I5 (Cy.add g p).1:=by
 unfold Cy.add at h⊢
 split at h
 ·rename_i hr
  rw [ab7 hr];unfold Cy.Bj at h⊢
  split at h
  ·rename_i hc;exact absurd h hc
  rename_i hc;rw [ab6 hc];cases hn:Cy.mX 114 2048 p.word with
  | none=>simp only [hn] at h;cases h
  | some n=>
   simp only [hn] at h⊢
   split at h
   ·cases h
   rename_i hid;rw [ab6 hid]
   split at h
   ·cases h
   rename_i hgn;rw [ab6 hgn]
   split at h
   ·rename_i hp;exact absurd h hp
   rename_i hp;rw [ab6 hp];refine ⟨hg.ni, ?_,hg.np,fun r hr=> ?_⟩
   ·show ((g.au ++ [_]).map Gr.R.id).Nodup
    rw [ade];exact Cy.IK hg.ri hid
   rcases acU.1 hr with hr | hr
   ·exact hg.rp r hr
   rw [adg.1 hr];have:=Cy.Tj p.props [] (Decidable.not_not.1 hp) aoJ
   simpa using this
 rename_i hr;rw [ab6 hr];unfold Cy.addNode at h⊢;cases hn:Cy.mX 110 1024 p.first with
 | none=>simp only [hn] at h;cases h
 | some n=>
  simp only [hn] at h⊢
  split at h
  ·cases h
  rename_i hid;rw [ab6 hid]
  split at h
  ·rename_i hp;exact absurd h hp
  rename_i hp;rw [ab6 hp];refine ⟨?_,hg.ri,fun r hr=> ?_,hg.rp⟩
  ·show ((g.nodes ++ [_]).map Gr.N.id).Nodup
   rw [ade];exact Cy.IK hg.ni hid
  rcases acU.1 hr with hr | hr
  ·exact hg.np r hr
  rw [adg.1 hr];have:=Cy.Tj p.props [] h aoJ
  simpa using this
theorem al4:I5 Gr.G0:=⟨aoJ,aoJ,by simp [Gr.G0],by simp [Gr.G0]⟩
structure CZ (w:World) (mk m1 m2:Nat) (ps:List Cy.aZ) (A:Option Addr) (n c:Nat) (g:Gr.G) (k:Nat) (V:World):Prop where
 KR:fF (w.heap.size+1) mk m1 m2 g (g.nodes.map Gr.N.id) (g.au.map Gr.R.id) V
 rows:nO V (w.heap.size+1) (.slice A n c) ps
 res:aj V w.heap.size 39 #[.slice none 0 0, .slice none 0 0]
 bel:Below w.heap.size w V
 mkd:Cy.make Gr.G0 ps=Cy.make g (ps.drop k)
 sz:Cy.qW g
 ds:I5 g
theorem nO.at {V:World} {B n c k:Nat} {A:Option Addr} {ps:List Cy.aZ} {p:Cy.aZ} (h:nO V B (.slice A n c) ps) (hn:ps.length=n) (hk:ps[k]?=some p): ∃g cs,A=some ⟨g,0,none⟩/\mM V B (p,cs)/\cs.length=5/\ ∀j,j<5->V.cell? ⟨g,k*5+j,none⟩=cs[j]?:=by
 obtain ⟨l,rfl,h1,h2⟩:=h;rw [hn] at h2;rw [acJ] at hk;obtain ⟨x,hx,rfl⟩:=ac7.1 hk
 have hlen: ∀y∈l,y.2.length=5:=fun y hy=>by
  obtain ⟨s,t,e,-,-⟩:=h1 y hy;rw [e];rfl
 have hm:=acf hx;have hkn:k<n:=by have:=(acy.1 hx).1;rw [ace] at hn;omega
 obtain ⟨g,e,-⟩:=qI h2 (t:=k*5) (by omega)
 refine ⟨g,x.2,e,h1 x hm,hlen x hm,fun j hj=> ?_⟩
 obtain ⟨g',e',-,hc,-⟩:=qI h2 (t:=k*5+j) (by omega)
 rw [e] at e';cases e';rw [hc,flat_get hlen hx j hj]
theorem nO.lower {W:World} {B B':Nat} {v:Value} {ps:List Cy.aZ} (h:nO W B v ps) (hb:B'<=B):nO W B' v ps:=by
 obtain ⟨l,e,h1,h2⟩:=h;refine ⟨l,e,fun x hx=> ?_,jX h2 hb⟩
 obtain ⟨s,t,e,o1,o2⟩:=h1 x hx;exact ⟨s,t,e,jX o1 hb,o2.base hb⟩
theorem CZ.next {w V V5 V6:World} {mk m1 m2 n c k:Nat} {ps:List Cy.aZ} {A:Option Addr} {g:Gr.G} {p:Cy.aZ} (h:CZ w mk m1 m2 ps A n c g k V) (hp:ps[k]?=some p) (hz:Cy.qH p) (b5:Below V.heap.size V V5) (k6:Kp (w.heap.size+1) V5 V6) (he:(Cy.add g p).2=0) (hm:fF (w.heap.size+1) mk m1 m2 (Cy.add g p).1 ((Cy.add g p).1.nodes.map Gr.N.id) ((Cy.add g p).1.au.map Gr.R.id) V6):CZ w mk m1 m2 ps A n c (Cy.add g p).1 (k+1) V6:=by
 have k5:Kp (w.heap.size+1) V V5:=Kp.of_below b5 h.KR.lt;have k7:=k5.trans k6
 refine ⟨hm,h.rows.kp k7,k7.keep _ _ _ _ h.res (by decide) (by decide) (by decide),h.bel.trans (k7.bel.mono (by omega)), ?_,Cy.ZE h.sz hz,Cy.ai8 h.ds he⟩
 rw [h.mkd,adC (acy.1 hp).1,(acy.1 hp).2,Cy.make,ab6 (by rw [he];decide)]
theorem CZ.stop {w V V5 V6:World} {mk m1 m2 n c k:Nat} {ps:List Cy.aZ} {A:Option Addr} {g:Gr.G} {p:Cy.aZ} (h:CZ w mk m1 m2 ps A n c g k V) (hp:ps[k]?=some p) (b5:Below V.heap.size V V5) (k6:Kp (w.heap.size+1) V5 V6) (he:(Cy.add g p).2≠0):
  Cy.make Gr.G0 ps=(Gr.G0,(Cy.add g p).2)/\aj V6 w.heap.size 39 #[.slice none 0 0, .slice none 0 0]/\Below w.heap.size w V6:=by
 have k7:=(Kp.of_below b5 h.KR.lt:Kp (w.heap.size+1) V V5).trans k6
 refine ⟨?_,k7.keep _ _ _ _ h.res (by decide) (by decide) (by decide),h.bel.trans (k7.bel.mono (by omega))⟩
 rw [h.mkd,adC (acy.1 hp).1,(acy.1 hp).2,Cy.make,ab7 he]
def ai9 (w:World) (R:Gr.G×Nat) (e:Ending) (w':World):Prop:= ∃u,e= .returned (.tuple #[u, .int .i64 (R.2:Nat)])/\iy w' w.heap.size u R.1/\Below w.heap.size w w'
theorem Jb {fn:Func} {R:Ending->World->Prop} {tmps:Array Value} {W:World} {p q:Tmp} {b:Nat} {v0 v1 v2:Value} (hfn:fn.results= #[.cell p 39, .tmp q])
  (ht:tmps.getD p undef= .pointer (some ⟨b,0,none⟩)) (hq:tmps.getD q undef=v2) (hB:aj W b 39 #[v0,v1]) (hR:R (.returned (.tuple #[.agg #[v0,v1],v2])) W):
  bodyPost Tryz.prog fn R .ret {tmps:=tmps,defers:= []} W:=by
 obtain ⟨c0,c1⟩:=cells2 hB;refine bodyPost_ret (v:= .tuple #[.agg #[v0,v1],v2]) ?_ rfl hR
 simp at ht hq;simp [results,hfn,go_sem,ht,hq,c0,c1]
theorem aj.failed {w V:World} {u0 u1:Value} (h:aj V w.heap.size 39 #[u0,u1]) (hb:Below w.heap.size w V) (v0 v1:Value):aj ((V.setCell ⟨w.heap.size,0,none⟩ v0).setCell ⟨w.heap.size,1,none⟩ v1) w.heap.size 39 #[v0,v1]/\Below w.heap.size w ((V.setCell ⟨w.heap.size,0,none⟩ v0).setCell ⟨w.heap.size,1,none⟩ v1):=
 ⟨aj.cast ((h.aS 0 v0).aS 1 v1) (by simp),(hb.setCell (p:=⟨w.heap.size,0,none⟩) (ab1 _) v0).setCell (p:=⟨w.heap.size,1,none⟩) (ab1 _) v1⟩
theorem FY (s:ByteArray) (hs:s.size<=1073741823) (w:World) (hL: ∀V,Below w.heap.size w V->Laid V):Calls Tryz.prog 23 #[.string s] w (ai9 w (Cy.parse s.data.toList)):=by
 obtain ⟨R,hR⟩: ∃R,Cy.parse s.data.toList=R:=⟨_,rfl⟩;rw [hR];unfold Cy.parse at hR
 have hb1:Below w.heap.size w (w.alloc (.cells #[.slice none 0 0, .slice none 0 0] 39)):=(Below.refl _ w).alloc (ab1 _) _
 have hk1:=aj.new w 39 #[.slice none 0 0, .slice none 0 0]
 obtain ⟨W1,hW1⟩: ∃x,w.alloc (.cells #[.slice none 0 0, .slice none 0 0] 39)=x:=⟨_,rfl⟩
 have hsz1:W1.heap.size=w.heap.size+1:=by rw [<-hW1];simp
 rw [hW1] at hb1 hk1;have HA:=ah (ahI s hs W1 (hL W1 hb1));have hok:=Cy.Zo s.data.toList
 have htl:=Cy.Zq s.data.toList
 obtain ⟨ts,oe,hrd⟩: ∃ts oe,Lex.read s.data.toList=(ts,oe):=⟨_,_,rfl⟩
 have herr:=fun (p e:Nat) (h:(Lex.read s.data.toList).2=some (p,e))=>Cy.Zr h
 rw [hrd] at HA hok htl hR herr;have HL:=ah hL;have HB1:=ah hb1;have aT:=ah hk1
 have dL:=ah hsz1;have aK:=ah hok;have jh:=ah htl;have HR:=ah hR;have HE:=ah herr
 clear herr hL hb1 hk1 hsz1 hok htl hR hrd hs;go_enter Tryz.func23,Tryz.ntmps23
 go_wp2_with fail;refine HA.out.mono ?_;rintro e w2 ⟨b2,hres⟩;clear HA
 have hk2:=aT.out.below b2 aT.out.lt;have hb2:=HB1.out.trans (b2.mono HB1.out.size)
 obtain ⟨a0,a1⟩:=cells2 hk2;have f0:=hk2.frozen 0;have f1:=hk2.frozen 1
 have rG:=ah (hk2.failed hb2);have aC:=ah hk2;have HB2:=ah hb2;clear hk2 hb2;cases oe with
 | some pe=>
  obtain ⟨p,e0⟩:=pe;subst hres;have he:R=(Gr.G0,e0):=HR.out.symm;subst he
  have hne:((e0:Int) !=0)=true:=by
   have:=HE.out p e0 rfl;simp;omega
  go_wp2_with fail
  exact Jb rfl (by simp) (by simp) (rG.out _ _).1 ⟨_,rfl,iy.G0 _ _,(rG.out _ _).2⟩
 | none=>
  obtain ⟨v2,rfl,o2⟩:=hres;obtain ⟨A2,c2,e2⟩:=aJ (show w2.ownsRow _ _ _ v2 _ _ from o2)
  obtain ⟨n,hn⟩: ∃n,ts.length=n:=⟨_,rfl⟩;rw [hn] at e2;subst e2
  have o3:w2.ownsRow W1.heap.size 138 4 (.slice A2 n c2) ts.length (oD ts):=o2
  rw [hn] at o3;have hrt:=Reads.je o3
  have HP:=ah (ah3 w2.heap.size A2 n c2 ts w2 hrt hn (hn▸jh.out) aK.out (ab1 _))
  obtain ⟨op,hop⟩: ∃op,Cy.patterns ts=op:=⟨_,rfl⟩;rw [hop] at HP;have JY:=ah hop
  clear o2 o3 hrt hn hop;go_wp2_with fail;refine HP.out.mono ?_;rintro e w3 ⟨b3,hres⟩
  clear HP;have hk3:=aC.out.below b3 aC.out.lt
  have hb3:=HB2.out.trans (b3.mono HB2.out.size);obtain ⟨a0,a1⟩:=cells2 hk3
  have f0:=hk3.frozen 0;have f1:=hk3.frozen 1;have rG:=ah (hk3.failed hb3);have bJ:=ah hk3
  have HB3:=ah hb3;clear hk3 hb3;cases op with
  | none=>
   subst hres
   have he:R=(Gr.G0,250):=by have:=HR.out;simp only [JY.out] at this;exact this.symm
   subst he;go_wp2_with fail
   exact Jb rfl (by simp) (by simp) (rG.out _ _).1 ⟨_,rfl,iy.G0 _ _,(rG.out _ _).2⟩
  | some ps=>
   obtain ⟨v3,rfl,o3⟩:=hres;obtain ⟨n3,hn3⟩: ∃n,ps.length=n:=⟨_,rfl⟩
   obtain ⟨A3,c3,e3⟩: ∃A c,v3= .slice A n3 c:=by
    obtain ⟨l,-,-,h⟩:=o3;obtain ⟨A,c,rfl⟩:=aJ h;exact ⟨A,c,by rw [hn3]⟩
   subst e3;have VX:=Cy.ZB JY.out aK.out jh.out
   have hR2:(if (Cy.make Gr.G0 ps).2≠0 then (Gr.G0,(Cy.make Gr.G0 ps).2) else if (Gr.check (Gr.canon (Cy.make Gr.G0 ps).1)).1≠0 then (Gr.G0,(Gr.check (Gr.canon (Cy.make Gr.G0 ps).1)).1) else (Gr.canon (Cy.make Gr.G0 ps).1,0))=R:=by have:=HR.out;simp only [JY.out] at this;exact this
   have hn31:n3<=16777216:=hn3▸ab5 VX.2 jh.out;have hmm:= @run_makeMap Tryz.prog
   obtain ⟨W4,yJ⟩: ∃x,((w3.alloc (.map #[] 0)).alloc (.map #[] 0)).alloc (.cells #[.slice none 0 0, .slice none 0 0, .map (some w3.heap.size), .map (some (w3.heap.size+1))] 99)=x:=⟨_,rfl⟩
   have hs4:CZ w (w3.heap.size+1+1) w3.heap.size (w3.heap.size+1) ps A3 n3 c3 Gr.G0 0 W4:=by
    have hlt:=bJ.out.lt
    have b4:Below w3.heap.size w3 ((w3.alloc (.map #[] 0)).alloc (.map #[] 0)):=((Below.refl _ w3).alloc (ab1 _) _).alloc (by simp) _
    have b5:Below w3.heap.size w3 W4:=yJ▸b4.alloc (by simp;omega) _
    have n1:dW W4 w3.heap.size []:=yJ▸((dW.made w3).below ((Below.refl _ _).alloc (ab1 _) _)).below ((Below.refl _ _).alloc (ab1 _) _)
    have n2:dW W4 (w3.heap.size+1) []:=by
     have:=(dW.made (w3.alloc (.map #[] 0))).below ((Below.refl _ _).alloc (ab1 _) (.cells #[.slice none 0 0, .slice none 0 0, .map (some w3.heap.size), .map (some (w3.heap.size+1))] 99))
     rw [yJ] at this
     simpa using this
    have hkm:aj W4 (w3.heap.size+1+1) 99 #[.slice none 0 0, .slice none 0 0, .map (some w3.heap.size), .map (some (w3.heap.size+1))]:=by
     have:=aj.new ((w3.alloc (.map #[] 0)).alloc (.map #[] 0)) 99 #[.slice none 0 0, .slice none 0 0, .map (some w3.heap.size), .map (some (w3.heap.size+1))]
     rw [yJ] at this
     simpa using this
    have hsz:=HB2.out.size
    refine ⟨⟨⟨_,_, [], [],hkm,rfl,by simp,World.ownsRow_nil _ _ _ _,rfl,by simp,World.ownsRow_nil _ _ _ _⟩,n1,n2,⟨by omega,by omega,by omega,by omega⟩⟩, ?_,bJ.out.below b5 bJ.out.lt,HB3.out.trans (b5.mono (by omega)),rfl,Cy.Rt,al4⟩
    exact (o3.lower (by omega)).kp (Kp.of_below b5 (ab1 w3.heap.size))
   have HS:=ah hs4;have O6:=ah VX.1;have VY:=ah hn3;have HR2:=ah hR2
   clear hs4 VX hn3 hR2 HR o3;go_wp2_with fail
   go_loopg [41] n3 (fun kx s41 wr=> ∃(k:Nat) (g:Gr.G),s41= .int .i64 k/\k+kx=n3/\CZ w (w3.heap.size+1+1) w3.heap.size (w3.heap.size+1) ps A3 n3 c3 g k wr)
   case atStart=>exact ⟨0,_,rfl,by omega,HS.out⟩
   obtain ⟨k,g,rfl,hk,hs⟩:=hrel;clear HS rG f0 f1 a0 a1 yJ;have HS:=ah hs;cases gk with
   | zero=>
    obtain rfl:k=n3:=by omega
    have hmk:Cy.make Gr.G0 ps=(g,0):=by rw [hs.mkd,ak0 (by rw [VY.out];exact ab1 _)];rfl
    obtain ⟨sn,sr,ln,lr,hkm,p1,p2,p3,p4,p5,p6⟩:=hs.KR.ex;obtain ⟨A1,c1,rfl⟩:=aJ p3
    obtain ⟨A2,c2,rfl⟩:=aJ p6;obtain ⟨e0,e1,-,-⟩:=cells4 hkm
    have hgo:iy wr (w.heap.size+1) (.agg #[.slice A1 g.nodes.length c1, .slice A2 g.au.length c2]) g:=⟨_,_,ln,lr,rfl,p1,p2,p3,p4,p5,p6⟩
    have HC:=ah (aiS wr.heap.size _ g wr (hgo.yH hs.sz.ok) (ab1 _) hs.ds);have VZ:=HR2.out
    rw [hmk,ab6 (by simp)] at VZ
    have HR3:=ah VZ;clear hmk hkm p1 p2 p3 p4 p5 p6 hgo VZ hs HR2;go_wp2_with fail
    refine HC.out.mono ?_;rintro e w7 ⟨u7,rfl,g7,b7⟩
    obtain ⟨A3,m3,c5,A4,m4,c6,rfl⟩: ∃A n c B m d,u7= .agg #[.slice A n c, .slice B m d]:=by
     obtain ⟨sn,sr,ln,lr,rfl,-,-,h3,-,-,h6⟩:=g7;obtain ⟨A,c,rfl⟩:=aJ h3
     obtain ⟨B,d,rfl⟩:=aJ h6;exact ⟨A,_,c,B,_,d,rfl⟩
    have hb8:Below w7.heap.size w7 (w7.alloc (.cells #[.slice A3 m3 c5, .slice A4 m4 c6] 39)):=(Below.refl _ _).alloc (ab1 _) _
    have hk8:=aj.new w7 39 #[.slice A3 m3 c5, .slice A4 m4 c6];have g8:=g7.below hb8
    have aU:=ah (aaX _ _ _ _ (g8.yH (Cy.ZG HS.out.sz).ok) (ab1 _))
    obtain ⟨e0,e1⟩:=cells2 hk8
    have hres:=(HS.out.res.below b7 HS.out.res.lt).below hb8 (HS.out.res.below b7 HS.out.res.lt).lt
    have HX:=ah (And.intro g8 (And.intro hk8 (And.intro hres (HS.out.bel.trans ((b7.trans (hb8.mono b7.size)).mono HS.out.bel.size)))))
    have hwr:=HS.out.bel.size;clear g7 b7 hb8 hk8 g8 hres HC;go_wp2_with fail
    refine aU.out.mono ?_;rintro e w9 ⟨rfl,b9⟩;clear aU;obtain ⟨g8,hk8,hres,hb8⟩:=HX.out
    have hk9:=hk8.below b9 hk8.lt;have pY:=hres.below b9 hres.lt
    have aF:=hb8.trans (b9.mono hb8.size);obtain ⟨e0,e1⟩:=cells2 hk9
    obtain ⟨a0,a1⟩:=cells2 pY;have f0:=pY.frozen 0;have f1:=pY.frozen 1
    have rG:=ah (pY.failed aF)
    have JU:=ah (((g8.below b9).kt (Kt.cell (base:=0) pY (anN _) 0 (.slice A3 m3 c5)) (by decide) (by decide) (by decide) (by decide) (by decide)).kt (Kt.cell (base:=0) (pY.aS 0 (.slice A3 m3 c5)) (anN _) 1 (.slice A4 m4 c6)) (by decide) (by decide) (by decide) (by decide) (by decide))
    obtain ⟨E,hE⟩: ∃E,(Gr.check (Gr.canon g)).1=E:=⟨_,rfl⟩;rw [hE];have O7:=HR3.out
    rw [hE] at O7;clear g8 hk8 hres hb8 hk9 pY aF b9 HX HR3;by_cases hE0:E=0
    ·subst hE0
     obtain rfl:R=(Gr.canon g,0):=O7.symm;go_wp2_with fail
     exact Jb rfl (by simp) (by simp) (rG.out _ _).1 ⟨_,rfl,JU.out.lower hwr,(rG.out _ _).2⟩
    obtain rfl:R=(Gr.G0,E):=by rw [ab7 hE0] at O7;exact O7.symm
    have hne:((E:Int) !=0)=true:=by simp;omega
    go_wp2_with fail
    exact Jb rfl (by simp) (by simp) (rG.out _ _).1 ⟨_,rfl,iy.G0 _ _,(rG.out _ _).2⟩
   | succ kq=>
    have hkn:k<n3:=by omega
    have qQ:(k:Int)<(n3:Int):=by omega
    obtain ⟨p,hp⟩: ∃p,ps[k]?=some p:=⟨_,ab2 (by rw [VY.out];exact hkn)⟩
    have hpz:=O6.out p (acf hp);obtain ⟨gp,cs,rfl,hpc,-,hcell⟩:=hs.rows.at VY.out hp
    obtain ⟨A1,c1,A2,c2,rfl,-,-⟩:=hpc.form;have q0:=hcell 0 (by decide)
    have q1:=hcell 1 (by decide)
    have q2:=hcell 2 (by decide)
    have q3:=hcell 3 (by decide)
    have q4:=hcell 4 (by decide)
    simp only [acB,ab9,akz] at q0 q1 q2 q3 q4
    have hb5:Below wr.heap.size wr (wr.alloc (.cells #[ST p.first,ST p.word,ST p.other, .slice A1 p.names.length c1, .slice A2 p.props.length c2] 102)):=(Below.refl _ wr).alloc (ab1 _) _
    have hk5:=aj.new wr 102 #[ST p.first,ST p.word,ST p.other, .slice A1 p.names.length c1, .slice A2 p.props.length c2]
    have V3:=hpc.kp (Kp.of_below hb5 hs.KR.lt);have V4:=hs.KR.below hb5
    have hl5: ∀V,Below (w.heap.size+1) (wr.alloc (.cells #[ST p.first,ST p.word,ST p.other, .slice A1 p.names.length c1, .slice A2 p.props.length c2] 102)) V->Laid V:=fun V hV=>HL.out V ((hs.bel.trans (hb5.mono hs.bel.size)).trans (hV.mono (by omega)))
    have hgl:=hs.sz.lens
    have hadd:Calls Tryz.prog (if p.rel then 50 else 49) #[.pointer (some ⟨w3.heap.size+1+1,0,none⟩), .agg #[ST p.first,ST p.word,ST p.other, .slice A1 p.names.length c1, .slice A2 p.props.length c2]] (wr.alloc (.cells #[ST p.first,ST p.word,ST p.other, .slice A1 p.names.length c1, .slice A2 p.props.length c2] 102)) (Nz (w.heap.size+1) (w3.heap.size+1+1) w3.heap.size (w3.heap.size+1) (Cy.add g p) (wr.alloc (.cells #[ST p.first,ST p.word,ST p.other, .slice A1 p.names.length c1, .slice A2 p.props.length c2] 102))):=by
     unfold Cy.add;by_cases hr:p.rel=true
     ·rw [ab7 hr,ab7 hr]
      exact aie V4 V3 hpz hr (by omega) (by omega) hl5
     rw [ab6 hr,ab6 hr];exact aic V4 V3 hpz (by omega) hl5
    have hrw:p.rel=true↔(⟨p.word.toArray⟩:ByteArray).toList≠ []:=by rw [xM];exact hpz.rw_
    simp only [ST] at q0 q1 q2 hb5 hk5 hadd
    obtain ⟨z1,hz1⟩: ∃z:ByteArray,(⟨p.first.toArray⟩:ByteArray)=z:=⟨_,rfl⟩
    obtain ⟨z2,hz2⟩: ∃z:ByteArray,(⟨p.word.toArray⟩:ByteArray)=z:=⟨_,rfl⟩
    obtain ⟨z3,hz3⟩: ∃z:ByteArray,(⟨p.other.toArray⟩:ByteArray)=z:=⟨_,rfl⟩
    obtain ⟨nl,hnl⟩: ∃x,p.names.length=x:=⟨_,rfl⟩
    obtain ⟨pl,hpl⟩: ∃x,p.props.length=x:=⟨_,rfl⟩;rw [hz1,hz2,hz3,hnl,hpl] at hb5 hk5 hadd
    rw [hz1] at q0;rw [hz2] at q1 hrw;rw [hz3] at q2;rw [hnl] at q3;rw [hpl] at q4
    obtain ⟨d0,d1,d2,d3,d4⟩:=cells5 hk5;have iO:=ah hs;have bZ:=ah hb5;have adQ:=ah hadd
    have HP:=ah hp;have adR:=ah hpz
    clear hs hb5 hadd hp hpz hk5 hz1 hz2 hz3 hnl hpl V3 V4 hl5 hgl hpc hcell
    obtain ⟨b,hb⟩: ∃b,z2.toList.isEmpty=b:=⟨_,rfl⟩
    have hpr:p.rel= !b:=by
     rw [<-hb];cases h:z2.toList with
     | nil=>rw [h] at hrw;cases hr:p.rel with
      | false=>rfl
      | true=>exact absurd rfl (hrw.1 hr)
     | cons x r=>exact hrw.2 (by rw [h];simp)
    have adS:=adQ;rw [hpr] at adS;have dG:=ah hpr;clear hrw hpr adQ
    have fin: ∀(e:Ending) (w6:World),Nz (w.heap.size+1) (w3.heap.size+1+1) w3.heap.size (w3.heap.size+1) (Cy.add g p) (wr.alloc (.cells #[.string z1, .string z2, .string z3, .slice A1 nl c1, .slice A2 pl c2] 102)) e w6->
      ∃E:Nat,e= .returned (.int .i64 (E:Nat))/\((E=0/\CZ w (w3.heap.size+1+1) w3.heap.size (w3.heap.size+1) ps (some ⟨gp,0,none⟩) n3 c3 (Cy.add g p).1 (k+1) w6)\/(E≠0/\R=(Gr.G0,E)/\aj w6 w.heap.size 39 #[.slice none 0 0, .slice none 0 0]/\Below w.heap.size w w6)):=fun e w6 h=>by
     obtain ⟨rfl,k6,hm6⟩:=h;refine ⟨_,rfl, ?_⟩;by_cases hE0:(Cy.add g p).2=0
     ·exact .inl ⟨hE0,iO.out.next HP.out adR.out bZ.out k6 hE0 (hm6 hE0)⟩
     obtain ⟨h1,h2,h3⟩:=iO.out.stop HP.out bZ.out k6 hE0;refine .inr ⟨hE0, ?_,h2,h3⟩
     have:=HR2.out;rw [h1,ab7 hE0] at this;exact this.symm
    have FIN:=ah fin;clear fin HR2 bZ HP adR iO;cases b
    all_goals
     go_wp2_with fail;refine adS.out.mono ?_;intro e w6 h6
     obtain ⟨E,rfl,⟨rfl,hs6⟩ |⟨hE,rfl,hk6,hb6⟩⟩:=FIN.out e w6 h6
     ·have kH:=ah hs6
      clear h6 hs6;go_wp2_with fail
      go_roundg kq
      case measure=>omega
      exact ⟨k+1,_,by simp,by omega,kH.out⟩
     have hne:((E:Int) !=0)=true:=by simp;omega
     obtain ⟨a0,a1⟩:=cells2 hk6;have f0:=hk6.frozen 0;have f1:=hk6.frozen 1
     have rG:=ah (hk6.failed hb6);clear hk6 hb6 h6 hE;go_wp2_with fail
     exact Jb rfl (by simp) (by simp) (rG.out _ _).1 ⟨_,rfl,iy.G0 _ _,(rG.out _ _).2⟩
end Go.Proofs.YtoofbflplhbpbaaGreatDoor
