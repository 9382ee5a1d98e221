/- Lemmas. -/
import Derived.Test.YtdijgcnlbfgkdaaGreatDoorUP22
set_option maxHeartbeats 64000000
set_option maxRecDepth 1000000
set_option linter.all false
namespace Go.Proofs.YtdijgcnlbfgkdaaGreatDoor
open Go.RowKit Go.Proofs.Tryz
attribute [local go_sem] ar4
def acQ (u v:Value) (w:World):
  Calls prog 103 #[.agg #[u,v]] w fun e w'=>e=.returned (.func (.func 161) #[] #[.pointer (some ⟨w.heap.size,0,none⟩)])/\w.alloc (.cells #[u,v] 26)=w':=by
 go_enter func103,ntmps103;go_wp2;go_ret;exact⟨rfl,rfl⟩
def afF (x:iy) (W:World):World:=W.alloc (.cells x.cells 143)
def VE {v:au.V} (h:au.check v=0):Gr.qw v<=41000:=by
 obtain⟨-,-,-,h1,h2,h3,h4,-⟩:=au.TY h;have hs:=VD (VB h4);have hm:v.nums.length*(if v.kind=5 then 1 else 8)<=40*8:=aoL h1 (by split<;>omega)
 have hs2:1002*v.texts.length<=1002*40:=ag6 _ h2;have hs3:=aep hs hs2;unfold Gr.qw
 split
 ·split<;>omega
 split
 ·omega
 exact aep (Nat.add_le_add (Nat.add_le_add_left hm 2) hs3) (by decide)
def KY (a b:List Gr.P):Gr.eP (a++b)=Gr.eP a+Gr.eP b:=by unfold Gr.eP;simp
def VF {l:List Gr.P} (h: ∀p∈l,au.check p.val=0):Gr.eP l<=41000*l.length:=by
 unfold Gr.eP
 induction l with
 |nil=>simp
 |cons a l ih=>
  have:=ih fun p hp=>h p (by simp[hp])
  have:=VE (h a (by simp))
  simp only[agQ,List.sum_cons,ae7];omega
def alc {V w':World} {b:Nat} {T:TypeId} {x:Value} (h:ak V b T #[x]) (hb:Hid (Below V.heap.size V w')):w'.cell? ⟨b,0,none⟩=some x/\w'.frozen? ⟨b,0,none⟩=false:=by
 have k:=h.below hb.out h.lt;exact⟨k.cell 0,k.frozen 0⟩
def ald (B:Nat) (u:Value) (g:Gr.G) (w:World) (h:nN w B u g) (hB:B<=w.heap.size) (hck: ∀p∈Gr.jr g,au.check p.val=0) (hlen:(Gr.jr g).length<=1073741824):
  Calls prog 55 #[u] w fun e w'=>e=.returned (.int .i64 (Gr.weight g:Nat))/\Below w.heap.size w w':=by
 have hok:=h.ok;obtain⟨An,cn,Ar,cr,rfl,hN,hR⟩:=h.ex;refine UQ func55 rfl ?_;simp only[ntmps55,apJ,ae7,afQ,Nat.reduceAdd,Nat.reduceSub,ap7,ap8,aqU,aon,agJ,anr];go_wp2_with (go_at_call 103;refine(acQ _ _ _).mono ?_;rintro e w' ⟨rfl,rfl⟩);obtain⟨W,hW⟩:=aj (((w.alloc (.cells #[.slice An g.nodes.length cn,.slice Ar g.ay.length cr] 26)).alloc (.cells #[.int .i64 0] 3)).alloc (.cells #[.slice An g.nodes.length cn,.slice Ar g.ay.length cr] 26));have hsz:W.heap.size=w.heap.size+3:=by rw[<-hW];simp
 have b1:ak W (w.heap.size+1) 3 #[.int .i64 0]:=by
  rw[<-hW];have:=(ak.new (w.alloc (.cells #[.slice An g.nodes.length cn,.slice Ar g.ay.length cr] 26)) 3 #[.int .i64 0]).alloc (.cells #[.slice An g.nodes.length cn,.slice Ar g.ay.length cr] 26)
  simpa using this
 have b2:ak W (w.heap.size+1+1) 26 #[.slice An g.nodes.length cn,.slice Ar g.ay.length cr]:=by
  rw[<-hW];have:=ak.new ((w.alloc (.cells #[.slice An g.nodes.length cn,.slice Ar g.ay.length cr] 26)).alloc (.cells #[.int .i64 0] 3)) 26 #[.slice An g.nodes.length cn,.slice Ar g.ay.length cr]
  simpa using this
 have bb:Below w.heap.size w W:=by rw[<-hW];exact(((aoa _ w).alloc (aej _) _).alloc (by simp) _).alloc (by simp;omega) _
 rw[hW];refine gq4 hN hR hok hck fun HN HR bF bH=>?_;obtain⟨nn,hnn⟩:=aj g.nodes.length;obtain⟨rn,hrn⟩:=aj g.ay.length;clear hW hN hR hok hck;refine(ata (n:=9)).1 ?_
 refine' UW 156 (gf:=161) (lb:= #[.pointer (some ⟨w.heap.size+1+1,0,none⟩)]) rfl (atd func161 (by kernel_rfl) rfl) (encs:=F5) (fun x=>rfl) (Pre:=fun _ _ _=>True) _ afF (fun x W=>(aoa _ W).alloc (aej _) _) (fun _ _ _ _ _ _ _ _=>trivial)
  (fun W1 hb hn=>acM 156 W.heap.size B (w.heap.size+1+1) g An Ar cn cr w HN.out HR.out bF.out W1)
  (fun pre V=>ak V (w.heap.size+1) 3 #[.int .i64 (Gr.eP (pre.map iy.p):Nat)]/\ak V (w.heap.size+1+1) 26 #[.slice An g.nodes.length cn,.slice Ar g.ay.length cr]/\Below w.heap.size w V)
  (fun c V=>False)
  ?hI ?hIx ?hAux ⟨b1,b2,bb⟩ ?assign ?body ?done ?stop
 case hI=>
  rintro pre A B' ⟨h1,h2,h3⟩ hs;exact⟨hs.blk h1 (by decide),hs.blk h2 (by decide),h3.trans (hs.below (by omega) h3.size)⟩
 case hIx=>
  rintro c A B' h hs;exact h
 case hAux=>
  rintro pre V ⟨-,h2,h3⟩;exact⟨h3.mono hB,h2⟩
 case assign=>
  intro l x V K hK;simp only[F5,iy.cells,ST]
  gi_wp2
  exact hK
 case body=>
  rintro l pre x W0 Va V ⟨h1,h2,h3⟩ hs1 hs2 hblk hvs - hstep hl hn0;have hs':=hs1.trans hs2;obtain⟨p,lI,jY,lJ,jZ⟩:=x;obtain⟨hpre,RJ,RN⟩:=hstep;have hmem:p∈Gr.jr g:=hpre.subset (by simp)
  have vV:vT p:=by
   unfold Gr.jr at hmem
   rcases afq.1 hmem with hm|hm
   ·obtain⟨n,hn,hp⟩:=ahd.1 hm
    exact(bF.ns n hn).ps p hp
   obtain⟨n,hn,hp⟩:=ahd.1 hm;exact(bF.rs n hn).ps p hp
  have hc0:=bH.out p hmem;have g1:=hs'.blk h1 (show 3≠156 by decide)
  have g2:=hs'.blk h2 (show 26≠156 by decide)
  have g3:=h3.trans (hs'.below (by omega) h3.size)
  have gt:=hblk Va.heap.size 143 _ (ak.new _ _ _)
  have hle:Gr.eP (pre.map iy.p)<=41000*1073741824:=by
   have q:=(hpre.length_le);rw[aeP,aeo,afP]at q;have q2:=VF (l:=pre.map iy.p) (fun y hy=>bH.out y (hpre.subset (by rw[afg];exact ap6 _ hy)))
   rw[aeP]at q2;refine aep q2 (ag6 _ (by omega))
  have hel:=VE hc0;have xA:=(zX (cn:=jY) (ct:=jZ) vV.val RJ RN).below (g3.mono hB);have hW:=fun(V':World) (hv:Below V.heap.size V V')=>alb B _ p.val V' (xA.below (hv.mono (aep hB g3.size))) (aep (aep hB g3.size) hv.size) hc0
  obtain⟨S,hS⟩:=aj (Gr.eP (pre.map iy.p));obtain⟨E,hE⟩:=aj (Gr.qw p.val);rw[hS]at g1 hle;rw[hE]at hW hel;refine gq5 hS hE g1 g2 g3 fun HS HE G1 G2 G3=>?_;simp only[iy.cells,ST]at gt hW;obtain⟨t0,t1,t2,t3,t4,t5⟩:=Ah gt;have c1:=g1.cell 0;simp only[aeN,aev]at c1;have f1:=g1.frozen 0;have HW:=ah hW;have RP:(S:Int)<=41000*1073741824:=by omega
  have hEi:(E:Int)<=41000:=by omega
  clear hs' hs1 hs2 hblk h1 h2 h3 hpre RJ RN hmem vV hc0 g1 g2 g3 gt hle hel xA hW hS hE b1 b2 bb;have hwr:IntKind.i64.wrap ((S:Int)+(E:Int))=(S:Int)+(E:Int):=as1 _ (by omega)
  have hmx:prog.follows .mixedOrders=true:=by kernel_rfl
  have hfw:Fence.wide.fn 106:=trivial
  gi_wp2
  gi_region_with_o (gi_at_call 106;refine(CallsIn.inRound l (as2.2 (HW.out _ (by first|exact aoa _ _|exact Below.drew (aoa _ _))))).mono ?_;rintro e w' ⟨rfl,hb⟩;have He:Hid (Below V.heap.size V w'):=(by first|exact hb|exact(Below.drew (aoa _ _)).trans hb);obtain⟨c2,f2⟩:=alc G1.out He;clear hb)
  all_goals
   refine⟨((KeepsOthers.of_grownBy (bV He.out none) (fun j o e=>by cases e)).from _).trans ((asY _ _ _).from _), ?_, ?_, ?_, ?_⟩
   ·refine(ny.yg (bV He.out none) (fun g c fz e=>by cases e)).trans (ny.yg (grownBy_set w' ⟨w.heap.size+1,0,none⟩ _) (fun g c fz e hc=> ?_))
    cases e;have:=G1.out.below He.out G1.out.lt;unfold ak at this;rw[show w'.heap[w.heap.size+1]?=_ from hc]at this
    cases this
   ·have:=(G1.out.below He.out G1.out.lt).aG 0 (.int .i64 ((S:Int)+(E:Int)))
    have hx:Gr.eP (List.map iy.p [⟨p,lI,jY,lJ,jZ⟩])=E:=by rw[<-HE.out];simp[Gr.eP]
    rw[afg,KY,HS.out,hx,ahn];exact this
   ·exact(G2.out.below He.out G2.out.lt).far (by simp) _
   exact(G3.out.trans (He.mono G3.out.size)).setCell (by simp) _
 case done=>
  rintro D xs V hD hend ⟨h1,h2,h3⟩ hK;unfold Vx at hend;rw[hend]at h1;have c1:=h1.cell 0;have f1:=h1.frozen 0;simp only[aeN,aev]at c1;refine gq5 h1 h3 hK hsz hD fun H1 H3 lY bf lD=>?_;clear h1 h2 h3 hend hK hsz hD b1 b2 bb;go_wp2;have n1:D≠w.heap.size+1:=by have:=bf.out;have:=lD.out;omega
  have hK2:(V.setCell ⟨w.heap.size+1,0,none⟩ (.int .i64 (Gr.eP (Gr.jr g):Nat))).heap[D]?=some (.deferred (some [])):=by
   rw[asP _ _ _ _ n1];exact lY.out
  have B1:=FN (o:=.deferred none) hK2 (H1.aG 0 (.int .i64 (Gr.eP (Gr.jr g):Nat)));have q1:=B1.cell 0;simp at q1;refine Qi hK2 (v:=.int .i64 (Gr.eP (Gr.jr g):Nat)) (by simp[results,results55,go_sem,q1]) ?_
  exact⟨rfl,Qh (H3.setCell (p:=⟨w.heap.size+1,0,none⟩) (by simp) _) (by have:=bf.out;have:=lD.out;omega)⟩
 rintro D c V hD h hK;exact h.elim
end Go.Proofs.YtdijgcnlbfgkdaaGreatDoor
namespace Go.Proofs.YtdijgcnlbfgkdaaGreatDoor
open Go.RowKit Go.Maps Go.Proofs.Tryz
structure oq (w:World) (u v:Value) (l:List (List UInt8)) (V:World):Prop where
 box:ak V w.heap.size 26 #[u,v]
 map:iO V (w.heap.size+1) l
 var:ak V (w.heap.size+1+1) 106 #[.map (some (w.heap.size+1))]
 bel:Below w.heap.size w V
def oq.below {w V V':World} {u v:Value} {l:List (List UInt8)} (h:oq w u v l V) (hb:Below V.heap.size V V'):oq w u v l V':=
 ⟨h.box.below hb h.box.lt,h.map.below hb,h.var.below hb h.var.lt,h.bel.trans (hb.mono h.bel.size)⟩
def oq.put {w V V':World} {u v:Value} {l l':List (List UInt8)} (h:oq w u v l V) (hc:iO V' (w.heap.size+1) l') (hg:V.grownBy V' (some (w.heap.size+1))):oq w u v l' V':=
 ⟨h.box.grown hg (by simp),hc,h.var.grown hg (by simp),h.bel.grown hg h.bel.size (fun j e=>by cases e;omega)⟩
def oq.start (w:World) (u v:Value):oq w u v [] (((w.alloc (.cells #[u,v] 26)).alloc (.map #[] 0)).alloc (.cells #[.map (some (w.heap.size+1))] 106)):=by
 have h1:=iO.made (w.alloc (.cells #[u,v] 26));have h2:=ak.new ((w.alloc (.cells #[u,v] 26)).alloc (.map #[] 0)) 106 #[.map (some (w.heap.size+1))];rw[asB]at h1;rw[asB,asB]at h2;exact⟨((ak.new w _ _).alloc _).alloc _,h1.below ((aoa _ _).alloc (aej _) _),h2,(((aoa _ w).alloc (aej _) _).alloc (by simp) _).alloc (by simp;omega) _⟩
def ale (B:Nat) (u:Value) (g:Gr.G) (w:World) (h:nN w B u g) (hB:B<=w.heap.size) (hlen:(Gr.rU g).length<=1073741824):
  Calls prog 54 #[u,.int .i64 1] w fun e w'=> ∃A c,e=.returned (.slice A (Gr.dedup (Gr.rU g)).length c)/\w'.ownsRow w.heap.size 9 1 (.slice A (Gr.dedup (Gr.rU g)).length c) (Gr.dedup (Gr.rU g)).length ((sortL (Gr.rU g)).map ST)/\Below w.heap.size w w':=by
 have hok:=h.ok;obtain⟨An,cn,Ar,cr,rfl,hN,hR⟩:=h.ex;have hmm:= @ate prog;have HN:=ah hN;have bF:=ah hok;obtain⟨nn,hnn⟩:=aj g.nodes.length;have hnl:=hok.nl;rw[hnn]at hnl⊢;have aC:=ah hnn;have bT:=ah hlen;clear hN hR hok h hnn hlen;have HST:=ah (oq.start w (.slice An nn cn) (.slice Ar g.ay.length cr));obtain⟨W1,hW1⟩:=aj (((w.alloc (.cells #[.slice An nn cn,.slice Ar g.ay.length cr] 26)).alloc (.map #[] 0)).alloc (.cells #[.map (some (w.heap.size+1))] 106));have HW1:=ah hW1;rw[hW1]at HST;clear hW1;obtain⟨c0,c1⟩:=cells2 HST.box;go_enter func54,ntmps54
 go_upto_region 4 with fail
 rw[HW1.out];clear HW1;go_wp2_with fail
 go_loopg [20] nn (fun q x wr=> ∃k:Nat,x=.int .i64 k/\k+q=nn/\oq w (.slice An nn cn) (.slice Ar g.ay.length cr) ((g.nodes.take k).flatMap Gr.N.labels) wr)
 case atStart=>exact⟨0,rfl,by omega,HST.out⟩
 obtain⟨k,rfl,hk,hrl⟩:=hrel;have aZ:=ah hrl;have HK:=ah hk;clear hrl c0 c1;cases gk with
 |succ q=>
  have hkn:k<nn:=by omega
  have dW:(k:Int)<nn:=by omega
  obtain⟨n,hn⟩: ∃n,g.nodes[k]?=some n:=⟨_,aen (by rw[aC.out];exact hkn)⟩
  obtain⟨b,o,Al,cl,Ap,cp,rfl,hbB,⟨D0,D1,D2⟩,r1,-⟩:=HN.node hn;have hBW:=aZ.bel.mono hB;have d0:=(hBW.cell (p:=⟨b,o+k*3,none⟩) hbB).trans D0;have d1:=(hBW.cell (p:=⟨b,o+k*3+1,none⟩) hbB).trans D1;have d2:=(hBW.cell (p:=⟨b,o+k*3+2,none⟩) hbB).trans D2;obtain⟨ln,hln⟩:=aj n.labels.length;have kM:=bF.ns n (aew hn);have hll:=kM.ll;rw[hln]at hll d1 r1;obtain⟨WN,bM⟩:=aj (wr.alloc (.cells #[.int .i64 n.id,.slice Al ln cl,.slice Ap n.props.length cp] 37));have gY:=ah bM;have fH:=ah (show oq w _ _ _ WN by rw[<-bM];exact aZ.below ((aoa _ _).alloc (aej _) _))
  have dw:=ah (show ak WN wr.heap.size 37 #[.int .i64 n.id,.slice Al ln cl,.slice Ap n.props.length cp] by rw[<-bM];exact ak.new _ _ _)
  refine gq5 r1 kM.ls hln (KW (f:=Gr.N.labels) hn) (Qs (f:=Gr.N.labels) hn) fun qQ HLS bY Ad nS=>?_;clear bM hbB D0 D1 D2 r1 kM hn hln hk hkn hBW
  go_upto_region 7 with fail
  rw[gY.out];clear d0 d1 d2;obtain⟨e0,e1,e2⟩:=cells3 dw.out;go_wp2_with fail
  go_loopg [27] ln (fun q x wx=> ∃j:Nat,x=.int .i64 j/\j+q=ln/\oq w (.slice (some ⟨b,o,none⟩) nn cn) (.slice Ar g.ay.length cr) ((g.nodes.take k).flatMap Gr.N.labels++n.labels.take j) wx)
  case atStart=>exact⟨0,rfl,by omega,by simpa using fH.out⟩
  obtain⟨j,rfl,hj,hrx⟩:=hrel;have Yj:=ah hrx;have HJ:=ah hj;clear hrx e0 e1 e2;cases gk with
  |succ q'=>
   have hjn:j<ln:=by omega
   have BQ:(j:Int)<ln:=by omega
   obtain⟨p,o',x,rfl,qN,hx,hp⟩:=(qQ.below (Yj.bel.mono hB)).cell hjn;rw[aeY]at hx;obtain⟨y,hy,rfl⟩:=afr.1 hx;unfold ST at hp;obtain⟨z,hz⟩:=aj (⟨y.toArray⟩:ByteArray);rw[hz]at hp;have hzd:z.data.toList=y:=by rw[<-hz]
   have hzs:z.size<=maxLen:=by
    have:=HLS.out y (aew hy);rw[aof,hzd];unfold maxLen;omega
   obtain⟨L,hL⟩:=aj ((g.nodes.take k).flatMap Gr.N.labels++n.labels.take j)
   have mM:L.length<1073741824:=by
    have h1:=bT.out;have h2:=afL List.length nS.out;have h3:=afL List.length (acK hy);simp only[aeo,ae7]at h2 h3;unfold Gr.rU at h1;rw[<-hL,aeo];omega
   have NM:=Yj;rw[hL]at NM;have hlk:=NM.map.look (t:=106) asf hzs;obtain⟨N,hNc⟩:=aj (L.count z.data.toList);have tJ:N<=L.length:=by rw[<-hNc];exact agV
   rw[hNc]at hlk;have v0:=NM.var.cell 0;simp only[aeN,aev]at v0;refine gq6 hNc hzd hzs (IX hy) hL mM fun jK HZD qJ aA HL vY=>?_;have hNi:(N:Int)<=1073741824:=by omega
   clear hx hy hz hzd hzs hj hjn hNc hL mM tJ;go_wp2_with (at_mapUpdate;refine Qn _ rfl NM.map (by have:=vY.out;omega) (.tmp 31) (.tmp 32) (.tmp 34) 106 rfl asf rfl z qJ.out rfl (by rw[jK.out];rfl) ?_)
   intro w1 hc1 hg1;have HR1:=ah (NM.put hc1 hg1);clear hc1 hg1 hlk v0 hp;go_wp2
   go_roundg q'
   case measure=>omega
   exact⟨j+1,int_eq (by omega),by have:=HJ.out;omega,by rw[aA.out,<-afu,HL.out,<-HZD.out];exact HR1.out⟩
  |zero=>
   obtain rfl:j=ln:=by omega
   have hfin:n.labels.take j=n.labels:=aeG (by rw[bY.out];exact aej _)
   have hrx:=Yj.out;rw[hfin,<-Ad.out]at hrx;have qj:=ah hrx;clear hfin hrx hj;go_wp2
   go_roundg q
   case measure=>omega
   exact⟨k+1,int_eq (by omega),by have:=HK.out;omega,qj.out⟩
 |zero=>
  obtain rfl:k=nn:=by omega
  have hfin:g.nodes.take k=g.nodes:=aeG (by rw[aC.out];exact aej _)
  have hrl:=aZ.out;rw[hfin]at hrl;have qj:=ah hrl;have v0:=hrl.var.cell 0;simp only[aeN,aev]at v0;have fK:=ah (Vu (w.heap.size+1) (Gr.rU g) wr hrl.map bT.out);clear hfin hrl hk;go_wp2_with fail;refine(Vt _ _).mono ?_;rintro e w2 ⟨rfl,rfl⟩;go_wp2_with fail;refine fK.mono ?_;rintro e w3 ⟨A,c,rfl,ho,hb⟩;have HO:=ah ho;have HB:=ah hb;clear ho hb v0;go_wp2;go_ret;have hbb:=qj.bel.alloc qj.bel.size (.cells #[.map (some (w.heap.size+1))] 106);exact⟨A,c,rfl,own_base HO.out hbb.size,hbb.trans (HB.mono hbb.size)⟩
def alf (B:Nat) (u:Value) (g:Gr.G) (w:World) (h:nN w B u g) (hB:B<=w.heap.size):
  Calls prog 54 #[u,.int .i64 2] w fun e w'=> ∃A c,e=.returned (.slice A (Gr.dedup (Gr.names2 g)).length c)/\w'.ownsRow w.heap.size 9 1 (.slice A (Gr.dedup (Gr.names2 g)).length c) (Gr.dedup (Gr.names2 g)).length ((sortL (Gr.names2 g)).map ST)/\Below w.heap.size w w':=by
 have hok:=h.ok;obtain⟨An,cn,Ar,cr,rfl,hN,hR⟩:=h.ex;have hmm:= @ate prog;have HR:=ah hR;have bF:=ah hok;obtain⟨rn,hrn⟩:=aj g.ay.length;have hrl:=hok.rl;rw[hrn]at hrl⊢;have fH:=ah hrn;clear hN hR hok h hrn;have HST:=ah (oq.start w (.slice An g.nodes.length cn) (.slice Ar rn cr));obtain⟨W1,hW1⟩:=aj (((w.alloc (.cells #[.slice An g.nodes.length cn,.slice Ar rn cr] 26)).alloc (.map #[] 0)).alloc (.cells #[.map (some (w.heap.size+1))] 106));have HW1:=ah hW1;rw[hW1]at HST;clear hW1;obtain⟨c0,c1⟩:=cells2 HST.box;go_enter func54,ntmps54
 go_upto_region 14 with fail
 rw[HW1.out];clear HW1;go_wp2_with fail
 go_loopg [42] rn (fun q x wr=> ∃k:Nat,x=.int .i64 k/\k+q=rn/\oq w (.slice An g.nodes.length cn) (.slice Ar rn cr) ((g.ay.take k).map Gr.R.type) wr)
 case atStart=>exact⟨0,rfl,by omega,HST.out⟩
 obtain⟨k,rfl,hk,hrl⟩:=hrel;have aZ:=ah hrl;have HK:=ah hk;clear hrl c0 c1;cases gk with
 |succ q=>
  have hkn:k<rn:=by omega
  have dW:(k:Int)<rn:=by omega
  obtain⟨n,hn⟩: ∃n,g.ay[k]?=some n:=⟨_,aen (by rw[fH.out];exact hkn)⟩
  obtain⟨b,o,Ap,cp,rfl,hbB,⟨D0,D1,D2,D3,D4⟩,-⟩:=HR.rel hn;obtain⟨z,hz⟩:=aj (⟨n.type.toArray⟩:ByteArray);unfold ST at D1;rw[hz]at D1;have hBW:=aZ.bel.mono hB;have d0:=(hBW.cell (p:=⟨b,o+k*5,none⟩) hbB).trans D0;have d1:=(hBW.cell (p:=⟨b,o+k*5+1,none⟩) hbB).trans D1;have d2:=(hBW.cell (p:=⟨b,o+k*5+2,none⟩) hbB).trans D2;have d3:=(hBW.cell (p:=⟨b,o+k*5+3,none⟩) hbB).trans D3;have d4:=(hBW.cell (p:=⟨b,o+k*5+4,none⟩) hbB).trans D4;have hzd:z.data.toList=n.type:=by rw[<-hz]
  have hzs:z.size<=maxLen:=by
   have:=(bF.rs n (aew hn)).tl;rw[aof,hzd];unfold maxLen;omega
  obtain⟨WN,bM⟩:=aj (wr.alloc (.cells #[.int .i64 n.id,.string z,.int .i64 n.src,.int .i64 n.dst,.slice Ap n.props.length cp] 74));have gY:=ah bM;have AO:=ah (show oq w _ _ _ WN by rw[<-bM];exact aZ.below ((aoa _ _).alloc (aej _) _))
  have dw:=ah (show ak WN wr.heap.size 74 #[.int .i64 n.id,.string z,.int .i64 n.src,.int .i64 n.dst,.slice Ap n.props.length cp] by rw[<-bM];exact ak.new _ _ _)
  obtain⟨L,hL⟩:=aj ((g.ay.take k).map Gr.R.type);have mM:L.length<1073741824:=by rw[<-hL,aeP,afo];omega
  rw[hL]at AO;have hlk:=AO.map.look (t:=106) asf hzs;obtain⟨N,hNc⟩:=aj (L.count z.data.toList);have tJ:N<=L.length:=by rw[<-hNc];exact agV
  rw[hNc]at hlk;have v0:=AO.var.cell 0;simp only[aeN,aev]at v0;refine gq6 hNc hzd hzs (IX hn) hL mM fun jK HZD qJ aA HL vY=>?_;have hNi:(N:Int)<=1073741824:=by omega
  clear bM hbB D0 D1 D2 D3 D4 hn hk hkn hBW hz hzd hzs hNc hL mM tJ
  go_upto_region 17 with fail
  rw[gY.out];clear d0 d1 d2 d3 d4;obtain⟨e0,e1,e2,e3,e4⟩:=cells5 dw.out;go_wp2_with (at_mapUpdate;refine Qn _ rfl AO.map (by have:=vY.out;omega) (.tmp 46) (.tmp 48) (.tmp 50) 106 rfl asf rfl z qJ.out rfl (by rw[jK.out];rfl) ?_)
  intro w1 hc1 hg1;have HR1:=ah (AO.put hc1 hg1);clear hc1 hg1 hlk v0 e0 e1 e2 e3 e4;go_wp2
  go_roundg q
  case measure=>omega
  exact⟨k+1,int_eq (by omega),by have:=HK.out;omega,by rw[aA.out,afg,HL.out];have h:=HR1.out;rw[HZD.out]at h;exact h⟩
 |zero=>
  obtain rfl:k=rn:=by omega
  have hfin:g.ay.take k=g.ay:=aeG (by rw[fH.out];exact aej _)
  have hrl:=aZ.out;rw[hfin]at hrl;have qj:=ah hrl;have v0:=hrl.var.cell 0;simp only[aeN,aev]at v0;have fK:=ah (Vu (w.heap.size+1) (Gr.names2 g) wr hrl.map (by unfold Gr.names2;rw[aeP,fH.out];omega))
  clear hfin hrl hk;go_wp2_with fail;refine(Vt _ _).mono ?_;rintro e w2 ⟨rfl,rfl⟩;go_wp2_with fail;refine fK.mono ?_;rintro e w3 ⟨A,c,rfl,ho,hb⟩;have HO:=ah ho;have HB:=ah hb;clear ho hb v0;go_wp2;go_ret;have hbb:=qj.bel.alloc qj.bel.size (.cells #[.map (some (w.heap.size+1))] 106);exact⟨A,c,rfl,own_base HO.out hbb.size,hbb.trans (HB.mono hbb.size)⟩
attribute [local go_sem] ar4
def alg (B:Nat) (u:Value) (g:Gr.G) (w:World) (h:nN w B u g) (hB:B<=w.heap.size) (hlen:(Gr.jr g).length<=1073741823):
  Calls prog 54 #[u,.int .i64 3] w fun e w'=> ∃A c,e=.returned (.slice A (Gr.dedup (Gr.qO g)).length c)/\w'.ownsRow w.heap.size 9 1 (.slice A (Gr.dedup (Gr.qO g)).length c) (Gr.dedup (Gr.qO g)).length ((sortL (Gr.qO g)).map ST)/\Below w.heap.size w w':=by
 have hok:=h.ok;obtain⟨An,cn,Ar,cr,rfl,hN,hR⟩:=h.ex;have hmm:= @ate prog;refine gq4 hN hR hok hlen fun HN HR bF HLEN=>?_;obtain⟨nn,hnn⟩:=aj g.nodes.length;obtain⟨rn,hrn⟩:=aj g.ay.length;have HIT:=ah (fun(T n₁ Bt:Nat) (W1:World)=>acM T n₁ B Bt g An Ar cn cr w hN hR hok W1)
 rw[hnn,hrn]at HIT;rw[hnn,hrn];clear hN hR hok h hlen;have HST:=ah (oq.start w (.slice An nn cn) (.slice Ar rn cr));obtain⟨W0,hW0⟩:=aj (((w.alloc (.cells #[.slice An nn cn,.slice Ar rn cr] 26)).alloc (.map #[] 0)).alloc (.cells #[.map (some (w.heap.size+1))] 106));have hz0:W0.heap.size=w.heap.size+3:=by rw[<-hW0];simp
 have HW0:=ah hW0;rw[hW0]at HST;clear hW0;obtain⟨c0,c1⟩:=cells2 HST.box;refine UQ func54 rfl ?_;simp only[ntmps54,apJ,ae7,afQ,Nat.reduceAdd,Nat.reduceSub,ap7,ap8,aqU,aon,agJ,anr]
 go_upto_region 20 with fail
 rw[HW0.out];clear HW0;go_wp2_with (go_at_call 103;refine(acQ _ _ _).mono ?_;rintro e w' ⟨rfl,rfl⟩);obtain⟨W,hW⟩:=aj (W0.alloc (.cells #[.slice An nn cn,.slice Ar rn cr] 26));have hsz:W.heap.size=w.heap.size+4:=by rw[<-hW,asB,hz0]
 have Yk:oq w (.slice An nn cn) (.slice Ar rn cr) [] W:=by rw[<-hW];exact HST.below ((aoa _ _).alloc (aej _) _)
 have hcap0:ak W W0.heap.size 26 #[.slice An nn cn,.slice Ar rn cr]:=by rw[<-hW];exact ak.new _ _ _
 rw[hW];rw[hz0]at hcap0;clear hW c0 c1;refine(ata (n:=9)).1 ?_
 refine' UW 156 (gf:=161) (lb:= #[.pointer (some ⟨w.heap.size+3,0,none⟩)]) rfl (atd func161 (by kernel_rfl) rfl) (encs:=F5) (fun x=>rfl) (Pre:=fun _ _ _=>True) _ afF (fun x W=>(aoa _ W).alloc (aej _) _) (fun _ _ _ _ _ _ _ _=>trivial)
  (fun W1 hb hn=>HIT.out 156 W.heap.size (w.heap.size+3) W1)
  (fun pre V=>oq w (.slice An nn cn) (.slice Ar rn cr) (pre.map fun x=>x.p.key) V/\ak V (w.heap.size+3) 26 #[.slice An nn cn,.slice Ar rn cr])
  (fun c V=>False)
  ?hI ?hIx ?hAux ⟨Yk,hcap0⟩ ?assign ?body ?done ?stop
 case hI=>
  rintro pre A B' ⟨h1,h2⟩ hs;exact⟨⟨hs.blk h1.box (by decide),hs.ach h1.map,hs.blk h1.var (by decide),h1.bel.trans (hs.below (by omega) h1.bel.size)⟩,hs.blk h2 (by decide)⟩
 case hIx=>
  rintro c A B' h hs;exact h
 case hAux=>
  rintro pre V ⟨h1,h2⟩;exact⟨h1.bel.mono hB,h2⟩
 case assign=>
  intro l x V K hK;simp only[F5,iy.cells,ST]
  gi_wp2
  exact hK
 case body=>
  rintro l pre x W0 Va V ⟨h1,h2⟩ hs1 hs2 hblk hvs - hstep hl hn0;have hs':=hs1.trans hs2;obtain⟨p,lI,jY,lJ,jZ⟩:=x;obtain⟨hpre,RJ,RN⟩:=hstep;have hmem:p∈Gr.jr g:=hpre.subset (by simp)
  have vV:vT p:=by
   unfold Gr.jr at hmem
   rcases afq.1 hmem with hm|hm
   ·obtain⟨n,hn,hp⟩:=ahd.1 hm
    exact(bF.ns n hn).ps p hp
   obtain⟨n,hn,hp⟩:=ahd.1 hm;exact(bF.rs n hn).ps p hp
  have g1:oq w (.slice An nn cn) (.slice Ar rn cr) (pre.map fun x=>x.p.key) V:=⟨hs'.blk h1.box (by decide),hs'.ach h1.map,hs'.blk h1.var (by decide),h1.bel.trans (hs'.below (by omega) h1.bel.size)⟩
  have g2:=hs'.blk h2 (show 26≠156 by decide)
  have gt:=hblk Va.heap.size 143 _ (ak.new _ _ _);obtain⟨z,hz⟩:=aj (⟨p.key.toArray⟩:ByteArray);have hzd:z.data.toList=p.key:=by rw[<-hz]
  have hzs:z.size<=maxLen:=by
   have:=vV.key;rw[aof,hzd];unfold maxLen;omega
  simp only[iy.cells,ST,hz]at gt;obtain⟨t0,t1,t2,t3,t4,t5⟩:=Ah gt;obtain⟨L,hL⟩: ∃L,pre.map (fun x=>x.p.key)=L:=⟨_,rfl⟩
  have mM:L.length<1073741824:=by
   have q:=hpre.length_le;have:=HLEN.out;rw[aeP,aeo,afP]at q;rw[<-hL,aeP];omega
  rw[hL]at g1;have hlk:=g1.map.look (t:=106) asf hzs;obtain⟨N,hNc⟩:=aj (L.count z.data.toList);have tJ:N<=L.length:=by rw[<-hNc];exact agV
  rw[hNc]at hlk;have v0:=g1.var.cell 0;simp only[aeN,aev]at v0;refine gq7 hNc hzd hzs hL mM g1 g2 fun jK HZD qJ HL vY G1 G2=>?_;have hNi:(N:Int)<=1073741824:=by omega
  clear hs' hs1 hs2 hblk h1 h2 hpre RJ RN hmem vV g1 g2 gt hz hzd hzs hNc tJ hL mM Yk hcap0
  gi_wp2_with (gi_at_mapUpdate;refine aki _ rfl G1.out.map (by have:=vY.out;omega) (.tmp 57) (.tmp 59) (.tmp 61) 106 rfl asf rfl z qJ.out rfl (by rw[jK.out];rfl) ?_)
  intro w1 hc1 hg1;have HR1:=ah (G1.out.put hc1 hg1);have dO:=ah hg1;clear hc1 hg1 hlk v0
  gi_wp2
  refine⟨KeepsFrom.of_grownBy dO.out (fun j e=>by cases e;omega),ny.yg dO.out (fun g' c fz e hc=> ?_), ?_,G2.out.grown dO.out (by simp)⟩
  ·cases e
   obtain⟨n',D',-,⟨es,clock,hbm,-⟩,-⟩:=G1.out.map.ex;rw[hbm]at hc;cases hc
  rw[afg,HL.out];have h:=HR1.out;rw[HZD.out]at h;exact h
 case done=>
  rintro D xs V hD hend ⟨h1,h2⟩ hK
  have hnm:xs.map (fun x=>x.p.key)=Gr.qO g:=by
   unfold Vx at hend;unfold Gr.qO;rw[<-hend,ahs];rfl
  rw[hnm]at h1;have qj:=ah h1;have v0:=h1.var.cell 0;simp only[aeN,aev]at v0;refine gq4 (Vu (w.heap.size+1) (Gr.qO g) V h1.map (by unfold Gr.qO;rw[aeP];have:=HLEN.out;omega)) hK hD hsz fun fK lY lD bf=>?_
  clear hnm h1 h2 hend hK hD hsz hz0 Yk hcap0;go_wp2_with fail;refine(Vt _ _).mono ?_;rintro e w2 ⟨rfl,rfl⟩;go_wp2_with fail;refine fK.mono ?_;rintro e w3 ⟨A,c,rfl,ho,hb⟩;have hDl:D<V.heap.size:=(afb.1 lY.out).1;have hK2:w3.heap[D]?=some (.deferred (some [])):=(hb.block D (by rw[asB];omega)).trans ((asU V _ D hDl).trans lY.out)
  have HO:=ah ho;have HB:=ah hb;clear ho hb v0;go_wp2;refine Qi hK2 (v:=.slice A (Gr.dedup (Gr.qO g)).length c) (by simp[results,results54,go_sem]) ?_
  have hbb:=qj.bel.alloc qj.bel.size (.cells #[.map (some (w.heap.size+1))] 106);exact⟨A,c,rfl,own_base (abL hK2 HO.out) hbb.size,Qh (hbb.trans (HB.mono hbb.size)) (by have:=bf.out;have:=lD.out;omega)⟩
 rintro D c V hD h hK;exact h.elim
end Go.Proofs.YtdijgcnlbfgkdaaGreatDoor
namespace Go.Proofs.YtdijgcnlbfgkdaaGreatDoor
open Go.RowKit Go.Maps Go.Proofs.Tryz
structure wS (w:World) (u v:Value) (l:List Int) (V:World):Prop where
 box:ak V w.heap.size 26 #[u,v]
 map:gU V (w.heap.size+1) l
 bel:Below w.heap.size w V
def wS.below {w V V':World} {u v:Value} {l:List Int} (h:wS w u v l V) (hb:Below V.heap.size V V'):wS w u v l V':=
 ⟨h.box.below hb h.box.lt,h.map.below hb,h.bel.trans (hb.mono h.bel.size)⟩
def wS.put {w V V':World} {u v:Value} {l l':List Int} (h:wS w u v l V) (hc:gU V' (w.heap.size+1) l') (hg:V.grownBy V' (some (w.heap.size+1))):wS w u v l' V':=
 ⟨h.box.grown hg (by simp),hc,h.bel.grown hg h.bel.size (fun j e=>by cases e;omega)⟩
def wS.start (w:World) (u v:Value):wS w u v [] ((w.alloc (.cells #[u,v] 26)).alloc (.map #[] 0)):=by
 have h1:=gU.made (w.alloc (.cells #[u,v] 26));rw[asB]at h1;exact⟨(ak.new w _ _).alloc _,h1,((aoa _ w).alloc (aej _) _).alloc (by simp) _⟩
def acR {g:Gr.G} {k e:Nat} {n:Gr.N} (hn:g.nodes[k]?=some n) (he:Gr.jo (Gr.aQ Gr.N.id g.nodes k) n=e) (hne:e≠0) (h0: ∀j a,j<k->g.nodes[j]?=some a->Gr.jo (Gr.aQ Gr.N.id g.nodes j) a=0):Gr.check g=(e,k):=by
 have:=Gr.Uy Gr.jo Gr.N.id (i:=0) hn he hne h0;rw[agO]at this;unfold Gr.check;rw[this,aeu hne]
def acS {g:Gr.G} {k e:Nat} {r:Gr.R} (hz: ∀j a,g.nodes[j]?=some a->Gr.jo (Gr.aQ Gr.N.id g.nodes j) a=0) (hn:g.ay[k]?=some r) (he:Gr.jM (g.nodes.map Gr.N.id) (Gr.aQ Gr.R.id g.ay k) r=e) (hne:e≠0)
  (h0: ∀j a,j<k->g.ay[j]?=some a->Gr.jM (g.nodes.map Gr.N.id) (Gr.aQ Gr.R.id g.ay j) a=0):Gr.check g=(e,g.nodes.length+k):=by
 unfold Gr.check;rw[Gr.DR Gr.jo Gr.N.id hz,aer (by decide),Gr.Uy (Gr.jM (g.nodes.map Gr.N.id)) Gr.R.id (i:=g.nodes.length) hn he hne h0,aeu hne]
def acT {g:Gr.G} (hz: ∀j a,g.nodes[j]?=some a->Gr.jo (Gr.aQ Gr.N.id g.nodes j) a=0) (hr: ∀j a,g.ay[j]?=some a->Gr.jM (g.nodes.map Gr.N.id) (Gr.aQ Gr.R.id g.ay j) a=0):
  Gr.check g=if 200<(Gr.dedup (Gr.rU g)).length\/200<(Gr.dedup (Gr.names2 g)).length\/200<(Gr.dedup (Gr.qO g)).length then(66,0) else if 262144<Gr.weight g then(67,0) else(0,0):=by
 unfold Gr.check;rw[Gr.DR Gr.jo Gr.N.id hz,aer (by decide),Gr.DR (Gr.jM (g.nodes.map Gr.N.id)) Gr.R.id hr,aer (by decide)]
def acU (B:Nat) (u:Value) (g:Gr.G) (w:World) (h:nN w B u g) (hB:B<=w.heap.size):
  Calls prog 15 #[u] w fun e w'=>e=.returned (.tuple #[.int .i64 ((Gr.check g).1:Nat),.int .i64 ((Gr.check g).2:Nat)])/\Below w.heap.size w w':=by
 have HG:=ah h;have hok:=h.ok;obtain⟨An,cn,Ar,cr,rfl,hN,hR⟩:=h.ex;have hmm:= @ate prog;refine gq3 hN hR hok fun HN HR bF=>?_;obtain⟨nn,hnn⟩:=aj g.nodes.length;obtain⟨rn,hrn⟩:=aj g.ay.length;have hnl:=hok.nl;have hrl:=hok.rl;rw[hnn]at hnl;rw[hrn]at hrl;rw[hnn,hrn]at HG;rw[hnn,hrn];refine gq4 hnn hrn (fun(V:World) (k:Nat) (n:Gr.N) (hb:Below B w V) (hn:g.nodes[k]?=some n) (hs:B<=V.heap.size)=>ak4 B An cn g.nodes k n V (hN.below hb (lT.below hb)) hs hok.nl hok.ns hn) (fun(V:World) (k:Nat) (r:Gr.R) (mb:Nat) (ids:List Int) (hb:Below B w V) (hn:g.ay[k]?=some r) (hs:B<=V.heap.size) (hc:gU V mb ids)=>ak5 B Ar cr g.ay k r mb ids V (hR.below hb (lU.below hb)) hs hok.rl hok.rs hn hc) fun aC fH wB zh=>?_
 rw[hnn]at wB;rw[hrn]at zh;clear hN hR hok h hnn hrn;have HST:=ah (wS.start w (.slice An nn cn) (.slice Ar rn cr));obtain⟨W1,hW1⟩:=aj ((w.alloc (.cells #[.slice An nn cn,.slice Ar rn cr] 26)).alloc (.map #[] 0));have HW1:=ah hW1;rw[hW1]at HST;clear hW1;obtain⟨c0,c1⟩:=cells2 HST.box;go_enter func15,ntmps15
 go_upto_region 2 with fail
 rw[HW1.out];clear HW1;go_wp2_with fail
 go_loopg [15] nn (fun q x wr=> ∃k:Nat,x=.int .i64 k/\k+q=nn/\wS w (.slice An nn cn) (.slice Ar rn cr) ((g.nodes.map Gr.N.id).take k) wr/\ ∀j a,j<k->g.nodes[j]?=some a->Gr.jo (Gr.aQ Gr.N.id g.nodes j) a=0)
 case atStart=>exact⟨0,rfl,by omega,HST.out,fun j a h=>by omega⟩
 obtain⟨k,rfl,hk,hrl,hz⟩:=hrel;refine gq3 hrl hk hz fun aZ HK HZ=>?_;clear hrl hz c0 c1;cases gk with
 |succ q=>
  have hkn:k<nn:=by omega
  have dW:(k:Int)<nn:=by omega
  obtain⟨n,hn⟩: ∃n,g.nodes[k]?=some n:=⟨_,aen (by rw[aC.out];exact hkn)⟩
  obtain⟨b,o,Al,cl,Ap,cp,rfl,hbB,⟨D0,D1,D2⟩,-,-⟩:=HN.node hn;have hBW:=aZ.bel.mono hB;have d0:=(hBW.cell (p:=⟨b,o+k*3,none⟩) hbB).trans D0;have d1:=(hBW.cell (p:=⟨b,o+k*3+1,none⟩) hbB).trans D1;have d2:=(hBW.cell (p:=⟨b,o+k*3+2,none⟩) hbB).trans D2;obtain⟨WN,bM⟩:=aj (wr.alloc (.cells #[.int .i64 n.id,.slice Al n.labels.length cl,.slice Ap n.props.length cp] 37));have gY:=ah bM;have AO:=ah (show wS w _ _ _ WN by rw[<-bM];exact aZ.below ((aoa _ _).alloc (aej _) _))
  have dw:=ah (show ak WN wr.heap.size 37 #[.int .i64 n.id,.slice Al n.labels.length cl,.slice Ap n.props.length cp] by rw[<-bM];exact ak.new _ _ _)
  have hcn:=wB.out WN k n (AO.bel.mono hB) hn (aep hB AO.bel.size);obtain⟨E,hE⟩:=aj (Gr.jo (Gr.aQ Gr.N.id g.nodes k) n);rw[hE]at hcn;refine gq3 hcn hE hn fun HC HE CQ=>?_;have afG:=(bF.ns n (aew hn)).id;have JJ:=ah afG;clear bM hbB D0 D1 D2 hk hkn hBW hcn hE afG hn
  go_upto_region 5 with fail
  rw[gY.out];clear d0 d1 d2;obtain⟨c0,c1⟩:=cells2 AO.box;go_wp2_with fail;refine mq8 HC fun w2 hb=>?_;have HR2:=ah (AO.below hb);have aP:=ah (dw.below hb dw.lt);clear hb c0 c1 HC;cases E with
  |succ e=>
   have hck:=acR CQ.out HE.out (by omega) HZ.out
   have bH:=ah hck;have hne:(((e+1:Nat):Int) !=0)=true:=by rw[afd];omega
   clear hck;go_wp2
   go_ret2
   exact⟨by rw[bH.out];rfl,HR2.bel⟩
  |zero=>
   have Hf:=ah (zW CQ.out HZ.out HE.out);obtain⟨L,hL⟩:=aj ((g.nodes.map Gr.N.id).take k);have mM:L.length<1073741824:=by rw[<-hL,afo,aeP,aC.out];have:=HK.out;omega
   rw[hL]at HR2;obtain⟨N,hNc⟩:=aj (L.count n.id);have tJ:N<=L.length:=by rw[<-hNc];exact agV
   have hlk:=HR2.map.look (t:=51) asx JJ.out;rw[hNc]at hlk;refine gq3 hNc hL mM fun jK HL vY=>?_;have hNi:(N:Int)<=1073741824:=by omega
   obtain⟨d0,d1,d2⟩:=cells3 aP.out;clear hNc hL mM tJ;go_wp2_with (at_mapUpdate;refine U9 _ rfl HR2.map (by have:=vY.out;omega) (.tmp 28) (.tmp 30) (.tmp 32) 51 rfl asx rfl n.id JJ.out rfl (by rw[jK.out];rfl) ?_)
   intro w3 hc3 hg3;have HR3:=ah (HR2.put hc3 hg3);clear hc3 hg3 hlk d0 d1 d2;go_wp2
   go_roundg q
   case measure=>omega
   exact⟨k+1,int_eq (by omega),by have:=HK.out;omega,by rw[IX (a:=n.id) (by rw[aeY,CQ.out];rfl),HL.out];exact HR3.out,Hf.out⟩
 |zero=>
  obtain rfl:k=nn:=by omega
  have JO: ∀j a,g.nodes[j]?=some a->Gr.jo (Gr.aQ Gr.N.id g.nodes j) a=0:=fun j a ha=>HZ.out j a (by have:=(aeK.1 ha).1;have:=aC.out;omega) ha
  have hfin:(g.nodes.map Gr.N.id).take k=g.nodes.map Gr.N.id:=aeG (by rw[aeP,aC.out];exact aej _)
  have hrl2:=aZ.out;rw[hfin]at hrl2;have qj:=ah hrl2;have jA:=ah JO;obtain⟨c0,c1⟩:=cells2 hrl2.box;clear hfin hrl2 hk JO aZ HZ HST;go_wp2_with fail
  go_loopg [37] rn (fun q x wr=> ∃m:Nat,x=.int .i64 m/\m+q=rn/\wS w (.slice An k cn) (.slice Ar rn cr) (g.nodes.map Gr.N.id) wr/\ ∀j a,j<m->g.ay[j]?=some a->Gr.jM (g.nodes.map Gr.N.id) (Gr.aQ Gr.R.id g.ay j) a=0)
  case atStart=>exact⟨0,rfl,by omega,qj.out,fun j a h=>by omega⟩
  obtain⟨m,rfl,hm,hrl,hz⟩:=hrel;refine gq3 hrl hm hz fun aZ HK HZ=>?_;clear hrl hz c0 c1;cases gk with
  |succ q=>
   have hmn:m<rn:=by omega
   have Yl:(m:Int)<rn:=by omega
   obtain⟨r,hr⟩: ∃r,g.ay[m]?=some r:=⟨_,aen (by rw[fH.out];exact hmn)⟩
   have hcr:=zh.out wr m r (w.heap.size+1) (g.nodes.map Gr.N.id) (aZ.bel.mono hB) hr (aep hB aZ.bel.size) aZ.map;obtain⟨E,hE⟩:=aj (Gr.jM (g.nodes.map Gr.N.id) (Gr.aQ Gr.R.id g.ay m) r);rw[hE]at hcr;refine gq3 hcr hE hr fun HC HE CQ=>?_;obtain⟨c0,c1⟩:=cells2 aZ.box;clear hm hmn hcr hE hr;go_wp2_with fail;refine mq8 HC fun w2 hb=>?_;have HR2:=ah (aZ.below hb);clear hb c0 c1 HC;obtain⟨c0,c1⟩:=cells2 HR2.box;cases E with
   |succ e=>
    have hck:=acS jA.out CQ.out HE.out (by omega) HZ.out
    have bH:=ah hck;have hne:(((e+1:Nat):Int) !=0)=true:=by rw[afd];omega
    clear hck
    go_upto_region 15 with fail
    go_quiet (fail)
    go_wp2
    go_ret2
    exact⟨by rw[bH.out,aC.out,ahn];rfl,below_drewN HR2.bel nq⟩
   |zero=>
    have Hf:=ah (zW CQ.out HZ.out HE.out);go_wp2
    go_roundg q
    case measure=>omega
    exact⟨m+1,int_eq (by omega),by have:=HK.out;omega,HR2.out,Hf.out⟩
  |zero=>
   obtain rfl:m=rn:=by omega
   have Hg: ∀j a,g.ay[j]?=some a->Gr.jM (g.nodes.map Gr.N.id) (Gr.aQ Gr.R.id g.ay j) a=0:=fun j a ha=>HZ.out j a (by have:=(aeK.1 ha).1;have:=fH.out;omega) ha
   have hrest:=acT jA.out Hg;have CU:Gr.x9 g.nodes:=⟨fun j n hn=>Gr.Qa.1 (jA.out j n hn)⟩
   have EI:Gr.Bq (g.nodes.map Gr.N.id) g.ay:=⟨fun j n hn=>Gr.Qb.1 (Hg j n hn)⟩
   refine gq4 (Gr.abp CU EI) (Gr.abq CU EI) CU.abo hrest fun nR Ym bY tV=>?_;refine gq4 (fun(V:World) (hb:Below w.heap.size w V)=>ale B _ g V (HG.below (hb.mono hB)) (aep hB hb.size) (by have:=bY.out;unfold Gr.rU;omega)) (fun(V:World) (hb:Below w.heap.size w V)=>alf B _ g V (HG.below (hb.mono hB)) (aep hB hb.size)) (fun(V:World) (hb:Below w.heap.size w V)=>alg B _ g V (HG.below (hb.mono hB)) (aep hB hb.size) (by have:=nR.out;omega)) (fun(V:World) (hb:Below w.heap.size w V)=>ald B _ g V (HG.below (hb.mono hB)) (aep hB hb.size) Ym.out (by have:=nR.out;omega)) fun H1 H2 H3 HW=>?_
   obtain⟨l1,hl1⟩:=aj ((Gr.dedup (Gr.rU g)).length);obtain⟨l2,hl2⟩:=aj ((Gr.dedup (Gr.names2 g)).length);obtain⟨l3,hl3⟩:=aj ((Gr.dedup (Gr.qO g)).length);obtain⟨wt,hwt⟩:=aj (Gr.weight g);rw[hl1]at H1 tV;rw[hl2]at H2 tV;rw[hl3]at H3 tV;rw[hwt]at HW tV;clear hm hrest CU EI Hg hl1 hl2 hl3 hwt wB zh;obtain⟨c0,c1⟩:=cells2 aZ.box;go_wp2_with fail;refine atg 4 ?_;rw[as8];go_wp2_with fail;refine(H1.out wr aZ.bel).mono ?_;rintro e w2 ⟨A1,d1,rfl,-,hb⟩;have dH:=ah (aZ.below hb);clear hb c0 c1;obtain⟨c0,c1⟩:=cells2 dH.box;by_cases hq1:200<l1
   ·have t1:decide (200<l1)=true:=aei hq1
    have Yn:(200:Int)<l1:=by omega
    have hck:Gr.check g=(66,0):=by rw[tV.out,aeu (.inl hq1)]
    have bH:=ah hck;clear hck hq1 H1 H2 H3 HW;go_wp2
    go_ret2
    exact⟨by rw[bH.out];rfl,dH.bel⟩
   have t1:decide (200<l1)=false:=dF hq1;have Yn:(l1:Int)<=200:=by omega
   go_wp2_with fail;rw[as8];go_wp2_with fail;refine(H2.out w2 dH.bel).mono ?_;rintro e w3 ⟨A2,d2,rfl,-,hb⟩;have HS2:=ah (dH.below hb);clear hb c0 c1;obtain⟨c0,c1⟩:=cells2 HS2.box;by_cases hq2:200<l2
   ·have t2:decide (200<l2)=true:=aei hq2
    have Yo:(200:Int)<l2:=by omega
    have hck:Gr.check g=(66,0):=by rw[tV.out,aeu (.inr (.inl hq2))]
    have bH:=ah hck;clear hck hq2 H1 H2 H3 HW;go_wp2
    go_ret2
    exact⟨by rw[bH.out];rfl,HS2.bel⟩
   have t2:decide (200<l2)=false:=dF hq2;have Yo:(l2:Int)<=200:=by omega
   go_wp2_with fail;rw[as8];go_wp2_with fail;refine(H3.out w3 HS2.bel).mono ?_;rintro e w4 ⟨A3,d3,rfl,-,hb⟩;have bK:=ah (HS2.below hb);clear hb c0 c1;obtain⟨c0,c1⟩:=cells2 bK.box;by_cases hq3:200<l3
   ·have t3:decide (200<l3)=true:=aei hq3
    have Yp:(200:Int)<l3:=by omega
    have hck:Gr.check g=(66,0):=by rw[tV.out,aeu (.inr (.inr hq3))]
    have bH:=ah hck;clear hck hq3 H1 H2 H3 HW;go_wp2
    go_ret2
    exact⟨by rw[bH.out];rfl,bK.bel⟩
   have t3:decide (200<l3)=false:=dF hq3;have Yp:(l3:Int)<=200:=by omega
   go_wp2_with fail;rw[as8];go_wp2_with fail;refine mq7 (HW.out w4 bK.bel) fun w5 hb=>?_;have gG:=ah (bK.below hb);clear hb c0 c1;by_cases hq4:262144<wt
   ·have t4:decide (262144<wt)=true:=aei hq4
    have Yq:(262144:Int)<wt:=by omega
    have hck:Gr.check g=(67,0):=by rw[tV.out,aer (by omega),aeu hq4]
    have bH:=ah hck;clear hck hq4 H1 H2 H3 HW;go_wp2
    go_ret2
    exact⟨by rw[bH.out];rfl,gG.bel⟩
   have t4:decide (262144<wt)=false:=dF hq4;have Yq:(wt:Int)<=262144:=by omega
   have hck:Gr.check g=(0,0):=by rw[tV.out,aer (by omega),aer hq4]
   have bH:=ah hck;clear hck hq4 H1 H2 H3 HW;go_wp2
   go_ret2
   exact⟨by rw[bH.out];rfl,gG.bel⟩
end Go.Proofs.YtdijgcnlbfgkdaaGreatDoor
