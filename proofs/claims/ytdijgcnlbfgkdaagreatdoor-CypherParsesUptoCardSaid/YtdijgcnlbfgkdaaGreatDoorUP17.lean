/- Lemmas. -/
import Derived.Test.YtdijgcnlbfgkdaaGreatDoorUP16
import Derived.Sort.LotA
import Derived.Shelf.SlGeneric
set_option maxHeartbeats 64000000
set_option maxRecDepth 1000000
set_option linter.all false
namespace Go.Proofs.YtdijgcnlbfgkdaaGreatDoor
open Go.RowKit Go.Proofs.Tryz
def gU.isMap {w:World} {b:Nat} {l:List Int} (h:gU w b l): ∀c t fz,w.heap[b]?≠some (.cells c t fz):=fun c t fz e=>by
 obtain⟨n,D,-,⟨es,cl,h1,-⟩,-⟩:=h.ex;rw[h1]at e;cases e
def iP (W:World) (B:Nat) (x:Gr.N×List Value):Prop:=
 ∃sl sp,x.2=[.int .i64 x.1.id,sl,sp]/\W.ownsRow B 9 1 sl x.1.labels.length (x.1.labels.map ST)/\aT 143 W B sp x.1.props
def iQ (W:World) (B:Nat) (x:Gr.R×List Value):Prop:=
 ∃sp,x.2=[.int .i64 x.1.id,ST x.1.type,.int .i64 x.1.src,.int .i64 x.1.dst,sp]/\aT 143 W B sp x.1.props
def iP.kp {base B:Nat} {x:Gr.N×List Value} {w w':World} (h:iP w B x) (hk:Kp base w w'):iP w' B x:=by
 obtain⟨s,t,e,h1,h2⟩:=h;exact⟨s,t,e,nG h1 hk (by decide) (by decide) (by decide),h2.kp hk (by decide) (by decide) (by decide)⟩
def iQ.kp {base B:Nat} {x:Gr.R×List Value} {w w':World} (h:iQ w B x) (hk:Kp base w w'):iQ w' B x:=by
 obtain⟨t,e,h2⟩:=h;exact⟨t,e,h2.kp hk (by decide) (by decide) (by decide)⟩
structure gZ (base mk m1 m2:Nat) (g:Gr.G) (ni ri:List Int) (V:World):Prop where
 ex: ∃(sn sr:Value) (ln:List (Gr.N×List Value)) (lr:List (Gr.R×List Value)),ak V mk 53 #[sn,sr,.map (some m1),.map (some m2)]/\
  ln.map Prod.fst=g.nodes/\(∀x∈ln,iP V base x)/\V.ownsRow base 37 3 sn g.nodes.length (ln.flatMap Prod.snd)/\
  lr.map Prod.fst=g.ay/\(∀x∈lr,iQ V base x)/\V.ownsRow base 74 5 sr g.ay.length (lr.flatMap Prod.snd)
 n1:gU V m1 ni
 n2:gU V m2 ri
 bs:base<=mk/\base<=m1/\base<=m2/\m1≠m2
def gZ.below {base mk m1 m2:Nat} {g:Gr.G} {ni ri:List Int} {V V':World} (h:gZ base mk m1 m2 g ni ri V) (hb:Below V.heap.size V V'):gZ base mk m1 m2 g ni ri V':=by
 obtain⟨sn,sr,ln,lr,h1,h2,h3,h4,h5,h6,h7⟩:=h.ex;have hk:Kp base V V':=Kp.of_below hb (aep h.bs.1 (anu h1.lt));exact⟨⟨sn,sr,ln,lr,h1.below hb h1.lt,h2,fun x hx=>(h3 x hx).kp hk,eu h4 (bV hb none) (fun g c t fz hr=>by cases hr),h5,fun x hx=>(h6 x hx).kp hk,eu h7 (bV hb none) (fun g c t fz hr=>by cases hr)⟩,h.n1.below hb,h.n2.below hb,h.bs⟩
def gZ.lt {base mk m1 m2:Nat} {g:Gr.G} {ni ri:List Int} {V:World} (h:gZ base mk m1 m2 g ni ri V):base<=V.heap.size:=by
 obtain⟨sn,sr,ln,lr,h1,-⟩:=h.ex;exact aep h.bs.1 (anu h1.lt)
def gZ.XH {base m:Nat} {l:List Int} {V V':World} (h:gU V m l) (hs:base<=V.heap.size) (hm:base<=m) (hg:V.grownBy V' (some m)):Kp base V V':=
 Kp.yg hg hs hm fun c t fz e=>absurd e (h.isMap c t fz)
def gZ.rows {base mk m1 m2 m:Nat} {l:List Int} {g:Gr.G} {ni ri:List Int} {V V':World} (h:gZ base mk m1 m2 g ni ri V) (hm:gU V m l) (hb:base<=m) (hg:V.grownBy V' (some m)):
  ∃(sn sr:Value) (ln:List (Gr.N×List Value)) (lr:List (Gr.R×List Value)),ak V' mk 53 #[sn,sr,.map (some m1),.map (some m2)]/\
  ln.map Prod.fst=g.nodes/\(∀x∈ln,iP V' base x)/\V'.ownsRow base 37 3 sn g.nodes.length (ln.flatMap Prod.snd)/\
  lr.map Prod.fst=g.ay/\(∀x∈lr,iQ V' base x)/\V'.ownsRow base 74 5 sr g.ay.length (lr.flatMap Prod.snd):=by
 obtain⟨sn,sr,ln,lr,h1,h2,h3,h4,h5,h6,h7⟩:=h.ex;have hk:Kp base V V':=gZ.XH hm h.lt hb hg
 have hty: ∀(T:TypeId) g c t fz,some m=some g->V.heap[g]?=some (.cells c t fz)->t≠T:=fun T g c t fz e hc=>by
  cases e;exact absurd hc (hm.isMap c t fz)
 exact⟨sn,sr,ln,lr,h1.grown hg (fun e=>by cases e;exact hm.isMap _ _ _ h1),h2,fun x hx=>(h3 x hx).kp hk,eu h4 hg (hty _),h5,fun x hx=>(h6 x hx).kp hk,eu h7 hg (hty _)⟩
def gZ.aov {base mk m1 m2:Nat} {g:Gr.G} {ni ni' ri:List Int} {V V':World} (h:gZ base mk m1 m2 g ni ri V) (hc:gU V' m1 ni') (hg:V.grownBy V' (some m1)):gZ base mk m1 m2 g ni' ri V':=
 ⟨h.rows h.n1 h.bs.2.1 hg,hc,h.n2.kept hg (fun e=>h.bs.2.2.2 (aeM e).symm),h.bs⟩
def gZ.aow {base mk m1 m2:Nat} {g:Gr.G} {ni ri ri':List Int} {V V':World} (h:gZ base mk m1 m2 g ni ri V) (hc:gU V' m2 ri') (hg:V.grownBy V' (some m2)):gZ base mk m1 m2 g ni ri' V':=
 ⟨h.rows h.n2 h.bs.2.2.1 hg,h.n1.kept hg (fun e=>h.bs.2.2.2 (aeM e)),hc,h.bs⟩
def gZ.cells {base mk m1 m2:Nat} {g:Gr.G} {ni ri:List Int} {V:World} (h:gZ base mk m1 m2 g ni ri V):V.cell? ⟨mk,2,none⟩=some (.map (some m1))/\V.cell? ⟨mk,3,none⟩=some (.map (some m2)):=by
 obtain⟨sn,sr,ln,lr,h1,-⟩:=h.ex;exact⟨h1.cell 2,h1.cell 3⟩
def ako (o:Int×Nat) (w:World) (e:Ending) (w':World):Prop:=e=.returned (.tuple #[.int .i64 o.1,.int .i64 (o.2:Nat)])/\Below w.heap.size w w'
def acp {base mk m1 m2:Nat} {g:Gr.G} {ri:List Int} (z:ByteArray) (w:World) (h:gZ base mk m1 m2 g (g.nodes.map Gr.N.id) ri w) (hs:z.size<=16777216) (hn:g.nodes.length<=16777216) (hL:Laid w):
  Calls prog 41 #[.pointer (some ⟨mk,0,none⟩),.string z] w (ako (Cy.endP g z.data.toList) w):=by
 obtain⟨o,ho⟩:=aj (Cy.endP g z.data.toList);rw[ho];unfold Cy.endP at ho;have hid:=Vd z 110 1024 w (by omega) ⟨by decide,by decide⟩ hL
 obtain⟨oi,hoi⟩:=aj (Cy.nM 110 1024 z.data.toList);rw[hoi]at hid ho;refine gq5 hid ho h hn rG fun HI HO HS HN HU=>?_;clear hid ho h hoi hL hn;go_enter func41,ntmps41;go_wp2_with fail;refine HI.mono ?_;rintro e w1 ⟨n,b,rfl,hb,hm⟩;have HB:=ah hb;have dH:=ah (HS.below hb);clear hb HS;cases oi with
 |none=>
  subst hm;have he:=HO.out;subst he;go_wp2
  go_ret2
  exact⟨rfl,HB.out⟩
 |some i=>
 obtain⟨rfl,rfl,hi,hi0⟩:=hm;have he:=HO.out
 try simp only at he
 have HE:=ah he;have xH:=ah hi;obtain⟨c2,c3⟩:=dH.cells;have hlk:=dH.n1.look (t:=51) asx hi;obtain⟨N,hN⟩:=aj ((g.nodes.map Gr.N.id).count n);rw[hN]at hlk;have jK:=ah hN;clear he HO hi hi0 hN;by_cases hN0:N=0
 ·subst hN0
  have hx:o=(0,65):=by rw[<-HE.out,aer (fun h=>by have:=aht.2 h;rw[jK.out]at this;omega)]
  subst hx;clear HE;go_wp2
  go_ret2
  exact⟨rfl,HB.out⟩
 have hx:o=(n,0):=by rw[<-HE.out,aeu (aht.1 (by rw[jK.out];omega))]
 subst hx;have t1:((N:Int) == 0)=false:=by rw[aek];omega
 clear HE hN0;go_wp2
 go_ret2
 exact⟨rfl,HB.out⟩
def Kp.dZ {base e sz n:Nat} {v:Value} {xs:List Value} {w w':World} (h:w.ownsRow base e sz v n xs) (he:e=37\/e=74) (hb:base<=w.heap.size) (hg:w.grownBy w' v.ownBlock):Kp base w w':=by
 cases hv:v.ownBlock with
 |none=>
  rw[hv]at hg;exact Kp.of_below ⟨hg.os,hg.tape,hg.output,hg.size,fun k hk=>hg.block k hk (by simp)⟩ hb
 |some i=>
  rw[hv]at hg;obtain⟨hi,c,hc⟩:=mW h i hv;refine Kp.yg hg hb hi fun c' t fz e'=> ?_
  rw[hc]at e';cases e';exact .inr he
def Qo {base e sz n m:Nat} {v:Value} {xs:List Value} {l:List Int} {w:World} (h:w.ownsRow base e sz v n xs) (hm:gU w m l):some m≠v.ownBlock:=fun e'=>by
 obtain⟨-,c,hc⟩:=mW h m e'.symm;exact hm.isMap _ _ _ hc
def BD {base e e' sz n b:Nat} {v:Value} {xs:List Value} {cs:Array Value} {w:World} (h:w.ownsRow base e sz v n xs) (hm:ak w b e' cs) (hne:e'≠e):some b≠v.ownBlock:=fun x=>by
 obtain⟨-,c,hc⟩:=mW h b x.symm;have:=hm.symm.trans hc;cases this;exact hne rfl
def IV {w w':World} {base e e' size n size' n':Nat} {v v':Value} {xs xs':List Value} (h:w.ownsRow base e size v n xs) (hv:w.ownsRow base e' size' v' n' xs') (hg:w.grownBy w' v'.ownBlock) (hne:e'≠e):w'.ownsRow base e size v n xs:=
 eu h hg fun g c t fz hr hc=>by
  obtain⟨-,c',hc'⟩:=mW hv g hr;rw[hc']at hc;cases hc;exact hne
def zY {w:World} {base e e' size n b i:Nat} {v u:Value} {xs:List Value} {cs:Array Value} (h:w.ownsRow base e size v n xs) (hb:ak w b e' cs) (hne:e'≠e):(w.setCell ⟨b,i,none⟩ u).ownsRow base e size v n xs:=
 eu h (grownBy_set w ⟨b,i,none⟩ u) fun g c t fz hr hc=>by
  cases hr;have:=hb.symm.trans hc;cases this;exact hne
def Kp.set {w:World} {base b i:Nat} {u:Value} {cs:Array Value} (hb:ak w b 53 cs) (hB:base<=b):Kp base w (w.setCell ⟨b,i,none⟩ u):=
 Kp.yg (grownBy_set w ⟨b,i,none⟩ u) (aep hB (anu hb.lt)) hB fun c t fz hc=>by
  have:=hb.symm.trans hc;cases this;exact .inl rfl
section
variable {base mk m1 m2:Nat} {g:Gr.G} {ni ri:List Int} {W w9:World} {sn sr v':Value} {ln:List (Gr.N×List Value)} {lr:List (Gr.R×List Value)} {cs:List Value}
  (h:gZ base mk m1 m2 g ni ri W) (h1:ak W mk 53 #[sn,sr,.map (some m1),.map (some m2)])
  (h2:ln.map Prod.fst=g.nodes) (h3: ∀x∈ln,iP W base x) (h4:W.ownsRow base 37 3 sn g.nodes.length (ln.flatMap Prod.snd))
  (h5:lr.map Prod.fst=g.ay) (h6: ∀x∈lr,iQ W base x) (h7:W.ownsRow base 74 5 sr g.ay.length (lr.flatMap Prod.snd))
include h h1 h2 h3 h4 h5 h6 h7
def gZ.node {n:Gr.N} (hn:iP W base (n,cs)) (hg:W.grownBy w9 sn.ownBlock) (ho:w9.ownsRow base 37 3 v' (g.nodes.length+1) (ln.flatMap Prod.snd++cs)):
  gZ base mk m1 m2 ⟨g.nodes++[n],g.ay⟩ ni ri (w9.setCell ⟨mk,0,none⟩ v')/\Kp base W (w9.setCell ⟨mk,0,none⟩ v'):=by
 have hk9:ak w9 mk _ _:=h1.grown hg (BD h4 h1 (by decide))
 have hkp:Kp base W (w9.setCell ⟨mk,0,none⟩ v'):=(Kp.dZ h4 (.inl rfl) h.lt hg).trans (Kp.set hk9 h.bs.1);refine⟨⟨⟨v',sr,ln++[(n,cs)],lr,by simpa using hk9.aG 0 v',by rw[afg,h2];rfl,fun x hx=> ?_, ?_,h5,fun x hx=>(h6 x hx).kp hkp,zY (IV h7 h4 hg (by decide)) hk9 (by decide)⟩, ?_, ?_,h.bs⟩,hkp⟩
 ·rcases afq.1 hx with hx|hx
  ·exact(h3 x hx).kp hkp
  rw[afm.1 hx];exact hn.kp hkp
 ·have:=zY (i:=0) (u:=v') ho hk9 (by decide)
  rw[aeo,afR]
  simpa using this
 ·exact(h.n1.kept hg (Qo h4 h.n1)).kept (grownBy_set _ _ _) (fun e=>by have:=aeM e;subst this;exact h.n1.isMap _ _ _ h1)
 exact(h.n2.kept hg (Qo h4 h.n2)).kept (grownBy_set _ _ _) (fun e=>by have:=aeM e;subst this;exact h.n2.isMap _ _ _ h1)
def gZ.rel {n:Gr.R} (hn:iQ W base (n,cs)) (hg:W.grownBy w9 sr.ownBlock) (ho:w9.ownsRow base 74 5 v' (g.ay.length+1) (lr.flatMap Prod.snd++cs)):
  gZ base mk m1 m2 ⟨g.nodes,g.ay++[n]⟩ ni ri (w9.setCell ⟨mk,1,none⟩ v')/\Kp base W (w9.setCell ⟨mk,1,none⟩ v'):=by
 have hk9:ak w9 mk _ _:=h1.grown hg (BD h7 h1 (by decide))
 have hkp:Kp base W (w9.setCell ⟨mk,1,none⟩ v'):=(Kp.dZ h7 (.inr rfl) h.lt hg).trans (Kp.set hk9 h.bs.1);refine⟨⟨⟨sn,v',ln,lr++[(n,cs)],by simpa using hk9.aG 1 v',h2,fun x hx=>(h3 x hx).kp hkp,zY (IV h4 h7 hg (by decide)) hk9 (by decide),by rw[afg,h5];rfl,fun x hx=> ?_, ?_⟩, ?_, ?_,h.bs⟩,hkp⟩
 ·rcases afq.1 hx with hx|hx
  ·exact(h6 x hx).kp hkp
  rw[afm.1 hx];exact hn.kp hkp
 ·have:=zY (i:=1) (u:=v') ho hk9 (by decide)
  rw[aeo,afR]
  simpa using this
 ·exact(h.n1.kept hg (Qo h7 h.n1)).kept (grownBy_set _ _ _) (fun e=>by have:=aeM e;subst this;exact h.n1.isMap _ _ _ h1)
 exact(h.n2.kept hg (Qo h7 h.n2)).kept (grownBy_set _ _ _) (fun e=>by have:=aeM e;subst this;exact h.n2.isMap _ _ _ h1)
end
def Ve:(prog.info? 37).map (fun i=>(i.zero,i.size,i.bytes))=some (some (.agg #[.int .i64 0,.slice none 0 0,.slice none 0 0]),3,56):=by kernel_rfl
def Vf:(prog.info? 74).map (fun i=>(i.zero,i.size,i.bytes))=some (some (.agg #[.int .i64 0,.string ⟨#[]⟩,.int .i64 0,.int .i64 0,.slice none 0 0]),5,64):=by kernel_rfl
def Qp (base mk m1 m2:Nat) (R:Gr.G×Nat) (w:World) (e:Ending) (w':World):Prop:=
 e=.returned (.int .i64 (R.2:Nat))/\Kp base w w'/\(R.2=0->gZ base mk m1 m2 R.1 (R.1.nodes.map Gr.N.id) (R.1.ay.map Gr.R.id) w')
def pF.form {W:World} {B:Nat} {p:Cy.aI} {cs:List Value} (h:pF W B (p,cs)): ∃A1 c1 A2 c2,cs=[ST p.first,ST p.word,ST p.other,.slice A1 p.names.length c1,.slice A2 p.props.length c2]/\
  W.ownsRow B 9 1 (.slice A1 p.names.length c1) p.names.length (p.names.map ST)/\aT 165 W B (.slice A2 p.props.length c2) p.props:=by
 obtain⟨s,t,e,h1,h2⟩:=h;obtain⟨A1,c1,rfl⟩:=aH h1;obtain⟨A2,c2,rfl⟩:=h2.form;exact⟨A1,c1,A2,c2,e,h1,h2⟩
def cells4 {W:World} {b:Nat} {T:TypeId} {v0 v1 v2 v3:Value} (h:ak W b T #[v0,v1,v2,v3]):
  W.cell? ⟨b,0,none⟩=some v0/\W.cell? ⟨b,1,none⟩=some v1/\W.cell? ⟨b,2,none⟩=some v2/\W.cell? ⟨b,3,none⟩=some v3:=
 ⟨h.cell 0,h.cell 1,h.cell 2,h.cell 3⟩
def akp {base mk m1 m2:Nat} {g:Gr.G} {p:Cy.aI} {cs:List Value} {w:World} (h:gZ base mk m1 m2 g (g.nodes.map Gr.N.id) (g.ay.map Gr.R.id) w) (hp:pF w base (p,cs)) (hs:Cy.rH p) (hn:g.nodes.length<=16777216)
  (hL: ∀V,Below base w V->Laid V):Calls prog 12 #[.pointer (some ⟨mk,0,none⟩),.agg cs.toArray] w (Qp base mk m1 m2 (Cy.addNode g p) w):=by
 obtain⟨R,hR⟩:=aj (Cy.addNode g p);rw[hR];unfold Cy.addNode at hR;obtain⟨An,cn,Ap,cp,rfl,hnm,hpp⟩:=hp.form;obtain⟨nl,hnl⟩:=aj p.names.length;obtain⟨pl,hpl⟩:=aj p.props.length;rw[hnl]at hnm⊢;rw[hpl]at hpp⊢;obtain⟨zf,jC⟩:=aj (⟨p.first.toArray⟩:ByteArray);obtain⟨zw,hzw⟩:=aj (⟨p.word.toArray⟩:ByteArray);obtain⟨zo,kL⟩:=aj (⟨p.other.toArray⟩:ByteArray);have e1:ST p.first=.string zf:=by rw[<-jC];rfl
 have e2:ST p.word=.string zw:=by rw[<-hzw];rfl
 have e3:ST p.other=.string zo:=by rw[<-kL];rfl
 rw[e1,e2,e3];have uS:zf.data.toList=p.first:=by rw[<-jC]
 have Rl:zf.size<=16777216:=by rw[<-jC,dR];exact hs.first
 obtain⟨WN,bM⟩:=aj (w.alloc (.cells #[.string zf,.string zw,.string zo,.slice An nl cn,.slice Ap pl cp] 56));have hbn:Below w.heap.size w WN:=by rw[<-bM];exact(aoa _ _).alloc (aej _) _
 obtain⟨pb,hpb⟩:=aj w.heap.size;have hk0:ak WN pb 56 #[.string zf,.string zw,.string zo,.slice An nl cn,.slice Ap pl cp]:=by rw[<-bM,<-hpb];exact ak.new _ _ _
 have hid:=Vd zf 110 1024 WN (by omega) ⟨by decide,by decide⟩ (hL WN (hbn.mono h.lt))
 rw[uS]at hid;obtain⟨oi,hoi⟩:=aj (Cy.nM 110 1024 p.first);rw[hoi]at hid hR;have Aw:Kp base w WN:=Kp.of_below hbn h.lt;refine gq9 hid hR (h.below hbn) Aw hk0 (nG hnm Aw (by decide) (by decide) (by decide)) (hpp.kp Aw (by decide) (by decide) (by decide)) bM hs fun HI HR dB ru HKB qU y7 gY bf=>?_
 refine gq3 hnl hpl hn fun jf nR gW=>?_;have aqW:nl<=16777216:=by rw[<-hnl];exact hs.nl
 have hmm:= @ate prog;clear h hp hs hn hL hR hnm hpp hnl hpl jC hzw kL e1 e2 e3 uS Rl bM hbn hk0 hid hoi Aw;go_enter func12,ntmps12
 go_upto_region 1 with fail
 rw[gY.out]
 try rw[hpb]
 clear hpb gY;obtain⟨d0,d1,d2,d3,d4⟩:=cells5 HKB.out;go_wp2_with fail;refine HI.mono ?_;rintro e w1 ⟨n,b,rfl,hb,hm⟩;refine gq5 (ru.trans (Kp.of_below hb dB.lt)) (dB.below hb) (HKB.below hb HKB.lt) (nG qU.out (Kp.of_below hb dB.lt) (by decide) (by decide) (by decide)) (y7.kp (Kp.of_below hb dB.lt) (by decide) (by decide) (by decide)) fun dw dH HKB1 MS MV=>?_
 clear hb dB HKB qU y7 d0 d1 d2 d3 d4 ru;cases oi with
 |none=>
  subst hm;have he:=HR.out;subst he;go_wp2;go_ret;exact⟨rfl,dw.out,fun h=>absurd h (show(61:Nat)≠0 by decide)⟩
 |some i=>
 obtain⟨rfl,rfl,hi,hi0⟩:=hm;have he:=HR.out
 try simp only at he
 have HE:=ah he;have xH:=ah hi;obtain⟨c2,c3⟩:=dH.cells;have hlk:=dH.n1.look (t:=51) asx hi;obtain⟨N,hN⟩:=aj ((g.nodes.map Gr.N.id).count n);have tJ:N<=g.nodes.length:=by rw[<-hN];exact aep agV (by rw[aeP];exact aej _)
 have hNi:(N:Int)<=16777216:=by have:=gW.out;omega
 rw[hN]at hlk;have jK:=ah hN;clear he HR hi hi0 hN tJ;go_wp2_with (at_mapUpdate;refine U9 _ rfl dH.n1 (by rw[aeP];have:=gW.out;omega) (.tmp 23) (.tmp 24) (.tmp 26) 51 rfl asx rfl n xH.out rfl (by rw[jK.out];rfl) ?_)
 intro w2 hc2 hg2;have hkp:=gZ.XH dH.n1 dH.lt dH.bs.2.1 hg2;have aP:=ah (dw.trans hkp);have HS2:=ah (dH.aov hc2 hg2);have MW:some pb≠some m1:=fun e=>by cases e;exact dH.n1.isMap _ _ _ HKB1.out
 refine gq3 (HKB1.grown hg2 MW) (nG MS.out hkp (by decide) (by decide) (by decide)) (MV.kp hkp (by decide) (by decide) (by decide)) fun HKB2 JF MX=>?_
 clear hc2 hg2 hkp MW c2 c3 hlk dH HKB1 MS MV dw;obtain⟨c2,c3⟩:=HS2.cells;have hlk:=HS2.n1.look (t:=51) asx xH.out;rw[aoV,jK.out,aoz]at hlk;by_cases hN0:N=0
 case neg=>
  have t1:decide ((1:Int)<((N+1:Nat):Int))=true:=aei (by omega)
  have hx:R=(g,7):=by rw[<-HE.out,aeu (aht.1 (by rw[jK.out];omega))]
  subst hx;go_wp2;go_ret;exact⟨rfl,aP.out,fun h=>absurd h (show(7:Nat)≠0 by decide)⟩
 subst hN0;have t1:decide ((1:Int)<((0+1:Nat):Int))=false:=dF (by omega)
 have he:=HE.out;rw[aer (fun h=>by have:=aht.2 h;rw[jK.out]at this;omega)]at he
 obtain⟨D,hD⟩:=aj (Cy.wO [] p.names);rw[hD]at he;have HE2:=ah he;have HD:=ah hD;obtain⟨W3,hW3⟩:=aj (w2.alloc (.map #[] 0));obtain⟨sb,hsb⟩:=aj w2.heap.size;have jk:=ah (show iO W3 sb [] by rw[<-hW3,<-hsb];exact iO.made w2)
 have HB3:=ah (show Below w2.heap.size w2 W3 by rw[<-hW3];exact(aoa _ w2).alloc (aej _) _)
 have HW3:=ah hW3;have vZ:=ah hsb;clear he hD hW3 HE
 go_upto_region 8 with fail
 rw[HW3.out]
 try rw[hsb]
 clear hsb HW3 c2 c3 hlk t1 hmm;obtain⟨d0,d1,d2,d3,d4⟩:=cells5 (HKB2.below HB3.out HKB2.lt);go_wp2_with fail;clear d0 d1 d2 d3 d4
 go_loopg [38] nl (fun q x wl=> ∃j:Nat,x=.int .i64 j/\j+q=nl/\Below w2.heap.size w2 wl/\iO wl sb (p.names.take j)/\Hid (Cy.wO (p.names.take j) (p.names.drop j)=D))
 case atStart=>exact⟨0,rfl,by omega,HB3.out,jk.out,HD.out⟩
 obtain⟨j,rfl,hj,hb,hc,Ro⟩:=hrel;refine gq3 hj hb hc fun HJ HB HC=>?_;clear hb hc HB3 jk;cases gk with
 |succ q=>
  have hjn:j<nl:=by omega
  have BQ:(j:Int)<nl:=by omega
  obtain⟨y,hy⟩: ∃y,p.names[j]?=some y:=⟨_,aen (by rw[jf.out];exact hjn)⟩
  obtain⟨lb,lo,x,rfl,qN,hx,hc⟩:=((Reads.dZ JF.out).below HB.out).cell hjn;rw[aeY,hy]at hx;cases hx;obtain⟨z,hz⟩:=aj (⟨y.toArray⟩:ByteArray);unfold ST at hc;rw[hz]at hc;have hys:y.length<=16777216:=bf.ns y (aew hy);have hzs:z.size<=16777216:=by rw[<-hz,dR];exact hys
  have HZD:=ah (show z.data.toList=y by rw[<-hz])
  have nK:=ah (show p.names.take (j+1)=p.names.take j++[y] by rw[afS,hy];rfl)
  have hdr:p.names.drop j=y :: p.names.drop (j+1):=by
   rw[afk (by rw[jf.out];exact hjn)]
   congr 1
   exact aeM ((aen _).symm.trans hy)
  have hdj:_=D:=Ro;rw[hdr,Cy.wO]at hdj;have hgn:=IL z wr (by omega)
  rw[show z.data.toList=y from HZD.out]at hgn
  obtain⟨GB,mJ⟩:=aj (Gr.fD y);rw[mJ]at hgn hdj;refine gq3 hdj hgn hzs fun HD2 MZ qJ=>?_;clear hy qN hz hys hzs hdr hdj hgn mJ Ro hj;go_wp2_with fail;refine iq8 MZ ?_;cases GB with
  |false=>
   have hd:D=60:=by rw[<-HD2.out,aeu rfl]
   subst hd;have hx:R=(g,60):=by rw[<-HE2.out,aeu (by decide)]
   subst hx;have qZ:=ah (aP.trans (Kp.of_below HB.out HS2.lt));clear hc;go_wp2;go_ret;exact⟨rfl,qZ.out,fun h=>absurd h (show(60:Nat)≠0 by decide)⟩
  |true=>
  have hd:=HD2.out;rw[aer (by decide)]at hd
  have HD3:=ah hd;have hlk:=HC.look (t:=106) asf (s:=z) (by have:=qJ.out;unfold maxLen;omega)
  rw[show z.data.toList=y from HZD.out]at hlk
  obtain⟨N,hN⟩:=aj ((p.names.take j).count y);have tJ:N<=j:=by rw[<-hN];exact aep agV (by rw[afo];omega)
  have hNi:(N:Int)<=16777216:=by omega
  rw[hN]at hlk;have Rq:=ah hN;clear hd hN tJ HD2 MZ;go_wp2_with (at_mapUpdate;refine Qn _ rfl HC.out (by rw[afo];omega) (.tmp 45) (.tmp 46) (.tmp 48) 106 rfl asf rfl z (by have:=qJ.out;unfold maxLen;omega) rfl (by rw[show z.data.toList=y from HZD.out,Rq.out];rfl) ?_)
  intro w5 hc5 hg5;rw[show z.data.toList=y from HZD.out]at hc5
  have dI:=ah (show Below w2.heap.size w2 w5 from HB.trans ⟨hg5.os,hg5.tape,hg5.output,hg5.size,fun i hi=>hg5.block i (afn hi HB.size) (fun e=>by cases e;have:=vZ.out;omega)⟩)
  have xJ:=ah hc5;have hlk2:=hc5.look (t:=106) asf (s:=z) (by have:=qJ.out;unfold maxLen;omega)
  rw[show z.data.toList=y from HZD.out,aoV,Rq.out,aoz]at hlk2
  clear hc5 hg5 hlk hc;by_cases hN0:N=0
  case neg=>
   have t1:decide ((1:Int)<((N+1:Nat):Int))=true:=aei (by omega)
   have hd:D=7:=by rw[<-HD3.out,aeu (aht.1 (by rw[Rq.out];omega))]
   subst hd;have hx:R=(g,7):=by rw[<-HE2.out,aeu (by decide)]
   subst hx;have qZ:=ah (aP.trans (Kp.of_below dI.out HS2.lt));go_wp2;go_ret;exact⟨rfl,qZ.out,fun h=>absurd h (show(7:Nat)≠0 by decide)⟩
  subst hN0;have t1:decide ((1:Int)<((0+1:Nat):Int))=false:=dF (by omega)
  have hd:=HD3.out;rw[aer (fun h=>by have:=aht.2 h;rw[Rq.out]at this;omega)]at hd
  have HD4:=ah hd;clear hd HD3;go_wp2
  go_roundg q
  case measure=>omega
  exact⟨j+1,int_eq (by omega),by have:=HJ.out;omega,dI.out,by rw[nK.out];exact xJ.out,by rw[nK.out];exact HD4.out⟩
 |zero=>
  obtain rfl:j=nl:=by omega
  have hd:_=D:=Ro;rw[agS (by rw[jf.out];exact aej _)]at hd
  have hd0:D=0:=by rw[<-hd];simp[Cy.wO]
  subst hd0;have he:=HE2.out;rw[aer (by simp)]at he
  obtain⟨PW,wo⟩:=aj (Cy.dJ [] p.props);have iU:=ah (HS2.below HB.out);have Rt:Kp base w2 wr:=Kp.of_below HB.out HS2.lt;have rY:=ah (aP.trans Rt);have aeZ:=MX.kp Rt (by decide) (by decide) (by decide)
  have ae0:=ah (nG JF.out Rt (by decide) (by decide) (by decide))
  have XI:=HKB2.below HB.out HKB2.lt;have hmp:=aco base Ap pl cp p.props wr aeZ nR.out (by rw[<-nR.out];exact bf.pl) bf.ps iU.lt
  rw[wo]at hmp he;refine gq3 hmp he XI fun wu JA XJ=>?_;obtain⟨d0,d1,d2,d3,d4⟩:=cells5 XI;clear hd he wo Rt aeZ XI hmp HE2 HKB2 JF MX HS2 aP Ro hj;go_wp2_with fail;refine wu.mono ?_;rintro e w7 ⟨v,rfl,hb7,hy7,Ci⟩
  obtain⟨ps',Av,vn,vc,hps,rfl,hpo⟩: ∃(ps':List Gr.P) (Av:Option Addr) (vn vc:Nat),(PW=0->ps'=p.props)/\v=.slice Av vn vc/\aT 143 w7 base (.slice Av vn vc) ps':=by
   by_cases h0:PW=0
   ·have ho:=hy7 h0
    obtain⟨A',c',rfl⟩:=ho.form;exact⟨p.props,A',_,c',fun _=>rfl,rfl,ho⟩
   rw[Ci h0];exact⟨[],none,0,0,fun h=>absurd h h0,rfl,aT.nil _ _ _⟩
  have XK:Kp base wr w7:=Kp.of_below hb7 iU.lt;have hs7:=iU.below hb7;have Na:=XJ.below hb7 XJ.lt;have ae2:=nG ae0.out XK (by decide) (by decide) (by decide)
  have hbd:Below w7.heap.size w7 (w7.drewN 1):=(aoa _ w7).drew;have GK:=hs7.below hbd;obtain⟨sn,sr,ln,lr,h1,h2,h3,h4,h5,h6,h7⟩:=GK.ex;obtain⟨Nn,Nc,rfl⟩:=aH h4;obtain⟨Rn,Rc,rfl⟩:=aH h7;obtain⟨gn,hgn⟩:=aj g.nodes.length;have hkd:=Kp.of_below hbd hs7.lt;have y8:=ah ((rY.trans XK).trans hkd);have hno:iP (w7.drewN 1) base (⟨n,p.names,ps'⟩,[.int .i64 n,.slice An j cn,.slice Av vn vc]):=⟨_,_,rfl,by rw[show p.names.length=j from jf.out];exact nG ae2 hkd (by decide) (by decide) (by decide),hpo.kp hkd (by decide) (by decide) (by decide)⟩
  have iR:=ah (fun(w9:World) (v':Value) (ho:w9.ownsRow base 37 3 v' (g.nodes.length+1) (ln.flatMap Prod.snd++[.int .i64 n,.slice An j cn,.slice Av vn vc])) (hg:(w7.drewN 1).grownBy w9 (Value.ownBlock (.slice Nn g.nodes.length Nc)))=>gZ.node GK h1 h2 h3 h4 h5 h6 h7 hno hg ho)
  have uT:=ah (fun(w9:World) (hg:(w7.drewN 1).grownBy w9 (Value.ownBlock (.slice Nn g.nodes.length Nc)))=>h1.grown hg (BD h4 h1 (by decide)))
  have XL:gn<536870912:=by have:=gW.out;omega
  rw[hgn]at h1 h4 iR uT;have H4:=ah (show(w7.drewN 1).ownsRow base 37 3 (.slice Nn gn Nc) gn (ln.flatMap Prod.snd) from h4)
  have aqX:=ah hgn;have Ri:=ah hps;have XM:base<=(w7.drewN 1).heap.size:=hs7.lt;obtain⟨c0,c1,c2,c3⟩:=cells4 (show ak w7 mk _ _ from h1)
  have c0a:(w7.alloc (.cells #[.int .i64 n,.slice An j cn,.slice Av vn vc] 37)).cell? ⟨mk,0,none⟩=some (.slice Nn gn Nc):=(ak.alloc (show ak w7 mk _ _ from h1) _).cell 0
  clear d0 d1 d2 d3 d4;obtain⟨d0,d1,d2,d3,d4⟩:=cells5 Na;clear hy7 Ci hb7 XK hs7 Na ae2 h1 h2 h3 h4 h5 h6 h7 hgn hno hpo hps hbd GK hkd ae0 XJ iU rY wu;go_wp2_with fail
  go_region_law (first|(refine FV rfl (.tmp 65) (.tmp 71) 23 37 (.agg #[.int .i64 0,.slice none 0 0,.slice none 0 0]) 3 56 as6 Ve rfl (by decide) (by decide) rfl base (.slice Nn gn Nc) gn (ln.flatMap Prod.snd) (w7.drewN 1) rfl H4.out [.int .i64 n,.slice An j cn,.slice Av vn vc] _ rfl rfl (by simp[Value.oneCell']) rfl XL XM ?_;intro v9 w9 aF aO bI aB;obtain⟨A9,c9,rfl⟩:=aH aF;have GL:=uT.out w9 aO;have XO:=GL.cell 0;have XP:=GL.frozen 0)|fail)
  all_goals
   obtain⟨hms,fV⟩:=iR.out w9 (.slice A9 (gn+1) c9) aF aO;have Cm:=ah hms;have qZ:=ah (y8.trans fV);have hx:R=(⟨g.nodes++[⟨n,p.names,p.props⟩],g.ay⟩,PW):=JA.symm;subst hx;clear hms fV aF aO bI aB GL XO XP c0 c1 c2 c3 c0a d0 d1 d2 d3 d4 JA;go_wp2;go_ret;exact⟨rfl,qZ.out,fun h=>by have h1:=Cm.out;rw[Ri.out h]at h1;simpa using h1⟩
end Go.Proofs.YtdijgcnlbfgkdaaGreatDoor
namespace Go.Proofs.YtdijgcnlbfgkdaaGreatDoor
open Go.RowKit Go.Proofs.Tryz
def akq {base mk m1 m2:Nat} {g:Gr.G} {p:Cy.aI} {cs:List Value} {w:World} (h:gZ base mk m1 m2 g (g.nodes.map Gr.N.id) (g.ay.map Gr.R.id) w) (hp:pF w base (p,cs)) (hs:Cy.rH p) (hrel:p.rel=true) (hn:g.nodes.length<=16777216) (hr:g.ay.length<=16777216)
  (hL: ∀V,Below base w V->Laid V):Calls prog 13 #[.pointer (some ⟨mk,0,none⟩),.agg cs.toArray] w (Qp base mk m1 m2 (Cy.zS g p) w):=by
 obtain⟨R,hR⟩:=aj (Cy.zS g p);rw[hR];unfold Cy.zS at hR;obtain⟨x,hx⟩:=hs.one hrel;obtain⟨An,cn,Ap,cp,rfl,hnm,hpp⟩:=hp.form;rw[hx]at hnm;rw[hx]at hR;rw[show p.names.length=1 by rw[hx];rfl]
 obtain⟨pl,hpl⟩:=aj p.props.length;rw[hpl]at hpp⊢;obtain⟨zf,jC⟩:=aj (⟨p.first.toArray⟩:ByteArray);obtain⟨zw,hzw⟩:=aj (⟨p.word.toArray⟩:ByteArray);obtain⟨zo,kL⟩:=aj (⟨p.other.toArray⟩:ByteArray);obtain⟨zx,hzx⟩:=aj (⟨x.toArray⟩:ByteArray);have e1:ST p.first=.string zf:=by rw[<-jC];rfl
 have e2:ST p.word=.string zw:=by rw[<-hzw];rfl
 have e3:ST p.other=.string zo:=by rw[<-kL];rfl
 have e4:ST x=.string zx:=by rw[<-hzx];rfl
 rw[e1,e2,e3];have uS:zf.data.toList=p.first:=by rw[<-jC]
 have JG:zw.data.toList=p.word:=by rw[<-hzw]
 have JH:zo.data.toList=p.other:=by rw[<-kL]
 have Rl:zf.size<=16777216:=by rw[<-jC,dR];exact hs.first
 have hzws:zw.size<=16777216:=by rw[<-hzw,dR];exact hs.word
 have ae3:zo.size<=16777216:=by rw[<-kL,dR];exact hs.other
 have ae4:zx.size<=16777216:=by rw[<-hzx,dR];exact hs.ns x (by rw[hx];simp)
 obtain⟨WN,bM⟩:=aj (w.alloc (.cells #[.string zf,.string zw,.string zo,.slice An 1 cn,.slice Ap pl cp] 56));have hbn:Below w.heap.size w WN:=by rw[<-bM];exact(aoa _ _).alloc (aej _) _
 obtain⟨pb,hpb⟩:=aj w.heap.size;have hk0:ak WN pb 56 #[.string zf,.string zw,.string zo,.slice An 1 cn,.slice Ap pl cp]:=by rw[<-bM,<-hpb];exact ak.new _ _ _
 have Aw:Kp base w WN:=Kp.of_below hbn h.lt;have he:=acp zf WN (h.below hbn) Rl hn (hL WN Aw.bel);rw[uS]at he;obtain⟨o1,XQ,ho1⟩: ∃a b,Cy.endP g p.first=(a,b):=⟨_,_,rfl⟩;rw[ho1]at he hR;refine gq9 he hR (h.below hbn) Aw hk0 (nG hnm Aw (by decide) (by decide) (by decide)) (hpp.kp Aw (by decide) (by decide) (by decide)) bM hs fun HI HR dB ru HKB qU y7 gY bf=>?_
 refine gq9 hpl hn hr hL JG JH hzx e4 hzws fun nR gW uO Jf HZW HZO yR HEX CB=>?_;have HOS:=ah ae3;have JI:=ah ae4;clear h hp hs hn hr hL hR hrel hx hnm hpp hpl jC hzw kL hzx e1 e2 e3 e4 uS JG JH Rl hzws ae3 ae4 bM hbn hk0 he ho1 Aw;go_enter func13,ntmps13
 go_upto_region 1 with fail
 rw[gY.out]
 try rw[hpb]
 clear hpb gY;obtain⟨d0,d1,d2,d3,d4⟩:=cells5 HKB.out;go_wp2_with fail;refine mq8 HI fun w1 hb=>?_;have hkp:=Kp.of_below hb dB.lt;refine gq5 (ru.trans hkp) (dB.below hb) (HKB.below hb HKB.lt) (nG qU.out hkp (by decide) (by decide) (by decide)) (y7.kp hkp (by decide) (by decide) (by decide)) fun dw dH HKB1 MS MV=>?_
 clear hb hkp dB HKB qU y7 d0 d1 d2 d3 d4 ru;by_cases ho1:XQ=0
 case neg=>
  have t1:((XQ:Int) !=0)=true:=by rw[afd];omega
  have hx:R=(g,XQ):=by rw[<-HR.out,aeu ho1]
  subst hx;have lH:=ah ho1;clear ho1;go_wp2;go_ret;exact⟨rfl,dw.out,fun h=>absurd h lH.out⟩
 subst ho1;have he:=HR.out;rw[aer (by simp)]at he
 have hid:=Vd zw 114 2048 w1 (by have:=CB.out;omega) ⟨by decide,by decide⟩ (Jf.out w1 dw.bel)
 rw[show zw.data.toList=p.word from HZW.out]at hid
 obtain⟨oi,hoi⟩:=aj (Cy.nM 114 2048 p.word);rw[hoi]at hid he;have HR2:=ah he;have JJ:=ah hid;clear he hid hoi HR HI;obtain⟨d0,d1,d2,d3,d4⟩:=cells5 HKB1.out;go_wp2_with fail;refine JJ.mono ?_;rintro e w2 ⟨n,b,rfl,hb,hm⟩;have hkp:=Kp.of_below hb dH.lt;refine gq5 (dw.trans hkp) (dH.below hb) (HKB1.below hb HKB1.lt) (nG MS.out hkp (by decide) (by decide) (by decide)) (MV.kp hkp (by decide) (by decide) (by decide)) fun aP HS2 HKB2 JF MX=>?_
 clear hb hkp dH HKB1 MS MV d0 d1 d2 d3 d4 dw;cases oi with
 |none=>
  subst hm;have he:=HR2.out;subst he;go_wp2;go_ret;exact⟨rfl,aP.out,fun h=>absurd h (show(62:Nat)≠0 by decide)⟩
 |some i=>
 obtain⟨rfl,rfl,hi,hi0⟩:=hm;have he:=HR2.out
 try simp only at he
 have HE:=ah he;have xH:=ah hi;obtain⟨c2,c3⟩:=HS2.cells;have hlk:=HS2.n2.look (t:=51) asx hi;obtain⟨N,hN⟩:=aj ((g.ay.map Gr.R.id).count n);have tJ:N<=g.ay.length:=by rw[<-hN];exact aep agV (by rw[aeP];exact aej _)
 have hNi:(N:Int)<=16777216:=by have:=uO.out;omega
 rw[hN]at hlk;have jK:=ah hN;clear he HR2 hi hi0 hN tJ;go_wp2_with (at_mapUpdate;refine U9 _ rfl HS2.n2 (by rw[aeP];have:=uO.out;omega) (.tmp 32) (.tmp 33) (.tmp 35) 51 rfl asx rfl n xH.out rfl (by rw[jK.out];rfl) ?_)
 intro w3 hc3 hg3;have hkp:=gZ.XH HS2.n2 HS2.lt HS2.bs.2.2.1 hg3;have dX:=ah (aP.trans hkp);have bK:=ah (HS2.aow hc3 hg3);have MW:some pb≠some m2:=fun e=>by cases e;exact HS2.n2.isMap _ _ _ HKB2.out
 refine gq3 (HKB2.grown hg3 MW) (nG JF.out hkp (by decide) (by decide) (by decide)) (MX.kp hkp (by decide) (by decide) (by decide)) fun HKB3 ae5 ae6=>?_
 clear hc3 hg3 hkp MW c2 c3 hlk HS2 HKB2 JF MX aP;obtain⟨c2,c3⟩:=bK.cells;have hlk:=bK.n2.look (t:=51) asx xH.out;rw[aoV,jK.out,aoz]at hlk;by_cases hN0:N=0
 case neg=>
  have t1:decide ((1:Int)<((N+1:Nat):Int))=true:=aei (by omega)
  have hx:R=(g,7):=by rw[<-HE.out,aeu (aht.1 (by rw[jK.out];omega))]
  subst hx;go_wp2;go_ret;exact⟨rfl,dX.out,fun h=>absurd h (show(7:Nat)≠0 by decide)⟩
 subst hN0;have t1:decide ((1:Int)<((0+1:Nat):Int))=false:=dF (by omega)
 have he:=HE.out;rw[aer (fun h=>by have:=aht.2 h;rw[jK.out]at this;omega)]at he
 rw[show([x]:List (List UInt8)).headD []=x from rfl]at he
 obtain⟨GB,mJ⟩:=aj (Gr.fD x);obtain⟨lb,lo,x',hAn,qN,hx',hcx⟩:=(Reads.dZ ae5.out).cell (show 0<([x]:List (List UInt8)).length from Nat.one_pos)
 cases hx';subst hAn;rw[show ST x=.string zx from HEX.out,agw]at hcx
 have hgn:=IL zx w3 (by have:=JI.out;omega)
 rw[show zx.data.toList=x by rw[<-yR.out],mJ]at hgn
 rw[mJ]at he;refine gq3 he hgn hcx fun HE2 MZ oO=>?_;obtain⟨d0,d1,d2,d3,d4⟩:=cells5 HKB3.out;clear he hgn mJ HE;go_wp2_with fail;refine iq8 MZ ?_;clear t1 hlk;cases GB with
 |false=>
  have hx:R=(g,60):=by rw[<-HE2.out,aeu rfl]
  subst hx;go_wp2;go_ret;exact⟨rfl,dX.out,fun h=>absurd h (show(60:Nat)≠0 by decide)⟩
 |true=>
 have he:=HE2.out;rw[aer (by simp)]at he
 obtain⟨PW,wo⟩:=aj (Cy.dJ [] p.props);have hmp:=aco base Ap pl cp p.props w3 ae6.out nR.out (by rw[<-nR.out];exact bf.pl) bf.ps bK.lt
 rw[wo]at hmp he;have wu:=ah hmp;have dU:=ah he;clear he hmp wo HE2 MZ;go_wp2_with fail;refine wu.mono ?_;rintro e w5 ⟨v,rfl,hb5,XR,hn5⟩;have hkp:=Kp.of_below hb5 bK.lt;have pV:=ah (dX.trans hkp);by_cases hw0:PW=0
 case neg=>
  have t1:((PW:Int) !=0)=true:=by rw[afd];omega
  have hx:R=(g,PW):=by rw[<-dU.out,aeu hw0]
  subst hx;have HW0:=ah hw0;clear hw0 XR hn5 hb5 hkp;go_wp2;go_ret;exact⟨rfl,pV.out,fun h=>absurd h HW0.out⟩
 subst hw0;have hpo:=XR rfl;obtain⟨Av,vc,rfl⟩:=hpo.form;rw[show p.props.length=pl from nR.out]at hpo⊢
 have he:=dU.out;rw[aer (by simp)]at he
 have dQ:=ah (bK.below hb5);have Ru:=ah (HKB3.below hb5 HKB3.lt);have ae8:=(hb5.cell (p:=⟨lb,lo,none⟩) qN).trans oO.out;have aoA:=ah hpo;have hen:=acp zo w5 dQ.out HOS.out gW.out (Jf.out w5 pV.bel);rw[show zo.data.toList=p.other from HZO.out]at hen
 obtain⟨o2,o2e,ho2⟩: ∃a b,Cy.endP g p.other=(a,b):=⟨_,_,rfl⟩;rw[ho2]at hen he;refine gq3 hen he ae8 fun xK jh ae9=>?_;have gu:=ah (show lb<w5.heap.size from afn qN hb5.size)
 clear hpo he hen ho2 ae8 XR hn5 hb5 hkp c2 c3 d0 d1 d2 d3 d4 hcx qN oO bK HKB3 ae5 ae6 dX wu dU;obtain⟨d0,d1,d2,d3,d4⟩:=cells5 Ru.out;go_wp2_with fail;refine mq8 xK fun w7 hb7=>?_;have hkp:=Kp.of_below hb7 dQ.lt;have hs7:=dQ.below hb7;have Na:=Ru.below hb7 Ru.lt;have hcx:=(hb7.cell (p:=⟨lb,lo,none⟩) gu.out).trans ae9.out;have hbd:Below w7.heap.size w7 (w7.drewN 1):=(aoa _ w7).drew;have GK:=hs7.below hbd;obtain⟨sn,sr,ln,lr,h1,h2,h3,h4,h5,h6,h7⟩:=GK.ex;obtain⟨Nn,Nc,rfl⟩:=aH h4;obtain⟨Rn,Rc,rfl⟩:=aH h7;obtain⟨gn,hgn⟩:=aj g.ay.length;have hkd:=Kp.of_below hbd hs7.lt;have y8:=ah ((pV.trans hkp).trans hkd);have hno:iQ (w7.drewN 1) base (⟨n,x,o1,o2,p.props⟩,[.int .i64 n,.string zx,.int .i64 o1,.int .i64 o2,.slice Av pl vc]):=⟨_,by rw[<-HEX.out],(aoA.kp hkp (by decide) (by decide) (by decide)).kp hkd (by decide) (by decide) (by decide)⟩
 have iR:=ah (fun(w9:World) (v':Value) (ho:w9.ownsRow base 74 5 v' (g.ay.length+1) (lr.flatMap Prod.snd++[.int .i64 n,.string zx,.int .i64 o1,.int .i64 o2,.slice Av pl vc])) (hg:(w7.drewN 1).grownBy w9 (Value.ownBlock (.slice Rn g.ay.length Rc)))=>gZ.rel GK h1 h2 h3 h4 h5 h6 h7 hno hg ho)
 have uT:=ah (fun(w9:World) (hg:(w7.drewN 1).grownBy w9 (Value.ownBlock (.slice Rn g.ay.length Rc)))=>h1.grown hg (BD h7 h1 (by decide)))
 have XL:gn<536870912:=by have:=uO.out;omega
 rw[hgn]at h1 h7 iR uT;have H4:=ah (show(w7.drewN 1).ownsRow base 74 5 (.slice Rn gn Rc) gn (lr.flatMap Prod.snd) from h7)
 have XM:base<=(w7.drewN 1).heap.size:=hs7.lt;obtain⟨c0,c1,c2,c3⟩:=cells4 (show ak w7 mk _ _ from h1)
 have c0a:(w7.alloc (.cells #[.int .i64 n,.string zx,.int .i64 o1,.int .i64 o2,.slice Av pl vc] 74)).cell? ⟨mk,1,none⟩=some (.slice Rn gn Rc):=(ak.alloc (show ak w7 mk _ _ from h1) _).cell 1
 clear d0 d1 d2 d3 d4;obtain⟨d0,d1,d2,d3,d4⟩:=cells5 Na;clear hkp hs7 Na hb7 h1 h2 h3 h4 h5 h6 h7 hgn hno hbd GK hkd dQ Ru pV ae9 gu xK;go_wp2_with fail
 go_region_law (first|(refine FV rfl (.tmp 70) (.tmp 80) 24 74 (.agg #[.int .i64 0,.string ⟨#[]⟩,.int .i64 0,.int .i64 0,.slice none 0 0]) 5 64 as7 Vf rfl (by decide) (by decide) rfl base (.slice Rn gn Rc) gn (lr.flatMap Prod.snd) (w7.drewN 1) rfl H4.out [.int .i64 n,.string zx,.int .i64 o1,.int .i64 o2,.slice Av pl vc] _ rfl rfl (by simp[Value.oneCell']) rfl XL XM ?_;intro v9 w9 aF aO bI aB;obtain⟨A9,c9,rfl⟩:=aH aF;have GL:=uT.out w9 aO;have XO:=GL.cell 1;have XP:=GL.frozen 1)|fail)
 all_goals
  obtain⟨hms,fV⟩:=iR.out w9 (.slice A9 (gn+1) c9) aF aO;have Cm:=ah hms;have qZ:=ah (y8.trans fV);have hx:R=(⟨g.nodes,g.ay++[⟨n,x,o1,o2,p.props⟩]⟩,o2e):=jh.symm;subst hx;clear hms fV aF aO bI aB GL XO XP c0 c1 c2 c3 c0a d0 d1 d2 d3 d4 hcx jh;go_wp2;go_ret;exact⟨rfl,qZ.out,fun h=>by have h1:=Cm.out;simpa using h1⟩
end Go.Proofs.YtdijgcnlbfgkdaaGreatDoor
namespace Go.Proofs.YtdijgcnlbfgkdaaGreatDoor.ig
open Go Go.Proofs.Tryz
variable {α:Type} {le:α->α->Bool}
structure Tot (le:α->α->Bool):Prop where
 trans: ∀{a b c},le a b=true->le b c=true->le a c=true
 total: ∀{a b},le a b=false->le b a=true
abbrev bJ (le:α->α->Bool) (l:List α):Prop:=l.Pairwise (fun a b=>le a b=true)
def Vg {A:List α} (_hT:Tot le) (h:bJ le A) {i:Nat} {x:α} (hx:A[i]?=some x) {z:α} (hz:z∈A.take (i+1)):z=x\/le z x=true:=by
 obtain⟨j,hj,rfl⟩:=agM hz;rw[apK];rw[afo]at hj;obtain⟨hi,hx⟩:=aeK.1 hx
 rcases ahi j i with hlt|hge
 ·right
  rw[<-hx];exact ao3.1 h j i (by omega) hi hlt
 left
 have:j=i:=by omega
 subst this;exact hx
def Vh {A:List α} (_hT:Tot le) (h:bJ le A) {i:Nat} {x:α} (hx:A[i]?=some x) {z:α} (hz:z∈A.drop i):z=x\/le x z=true:=by
 obtain⟨j,hj,rfl⟩:=agM hz;rw[List.getElem_drop];rw[ae1]at hj;obtain⟨hi,hx⟩:=aeK.1 hx
 rcases afY j with rfl|hp
 ·left;simpa using hx
 right
 rw[<-hx];exact ao3.1 h i (i+j) hi (by omega) (by omega)
def le_refl (hT:Tot le) (a:α):le a a=true:=by
 cases h:le a a with
 |true=>rfl
 |false=>have h':=hT.total h;rw[h]at h';exact h'
def IW {a b:α} (hT:Tot le) (h:a=b\/le a b=true):le a b=true:=h.elim (fun e=>e▸le_refl hT _) id
def Vj {A:List α} (h:bJ le A) (i:Nat): ∀x∈A.take i,∀y∈A.drop i,le x y=true:=by
 have h':=h;rw[<-afz i A,bJ,aok]at h';exact h'.2.2
def acr {B:List α} {e:α} (hT:Tot le) (hB:bJ le B) {i:Nat} (h1:i=0\/ ∃x,B[i - 1]?=some x/\le x e=true) (h2:i=B.length\/ ∃y,B[i]?=some y/\le e y=true):bJ le (B.take i++e :: B.drop i):=by
 have hc:=Vj hB i;have hs:=hB;rw[<-afz i B,bJ,aok]at hs;obtain⟨ha,hb,-⟩:=hs;rw[bJ,aok];refine⟨ha,List.pairwise_cons.2 ⟨fun x hx=> ?_,hb⟩,fun x hx y hy=> ?_⟩
 ·rcases h2 with rfl|⟨y,hy,hey⟩
  ·simp at hx
  exact hT.trans hey (IW hT ((Vh hT hB hy hx).imp Eq.symm id))
 rcases aga.1 hy with rfl|hy
 ·rcases h1 with rfl|⟨z,hz,hze⟩
  ·simp at hx
  rcases afY i with rfl|hp
  ·simp at hx
  refine hT.trans (IW hT (Vg hT hB hz (z:=x) ?_)) hze
  rwa [aqi hp]
 exact hc x hx y hy
def acs {B:List α} {e:α} (i:Nat):(B.take i++e :: B.drop i).Perm (e :: B):=by
 have:=List.perm_middle (a:=e) (l₁:=B.take i) (l₂:=B.drop i)
 rwa [afz]at this
def akr {A B S1 S2:List α} (hT:Tot le) (hA:bJ le A) (hB:bJ le B) {i j:Nat}
  (h1:i=0\/j=B.length\/ ∃x y,A[i - 1]?=some x/\B[j]?=some y/\le x y=true)
  (h2:i=A.length\/j=0\/ ∃x y,B[j - 1]?=some x/\A[i]?=some y/\le x y=true)
  (p1:S1.Perm (A.take i++B.take j)) (s1:bJ le S1) (p2:S2.Perm (A.drop i++B.drop j)) (s2:bJ le S2):bJ le (S1++S2)/\(S1++S2).Perm (A++B):=by
 constructor
 ·rw[bJ,aok]
  refine⟨s1,s2,fun x hx y hy=> ?_⟩
  have hx:=p1.mem_iff.1 hx;have hy:=p2.mem_iff.1 hy
  rcases afq.1 hx with hx|hx
  ·rcases afq.1 hy with hy|hy
   ·exact Vj hA i x hx y hy
   rcases h1 with rfl|rfl|⟨u,v,hu,hv,huv⟩
   ·simp at hx
   ·simp at hy
   rcases afY i with rfl|hp
   ·simp at hx
   refine hT.trans (IW hT (Vg hT hA hu (z:=x) ?_)) (hT.trans huv (IW hT ((Vh hT hB hv hy).imp Eq.symm id)))
   rwa [aqi hp]
  rcases afq.1 hy with hy|hy
  ·rcases h2 with rfl|rfl|⟨u,v,hu,hv,huv⟩
   ·simp at hy
   ·simp at hx
   rcases afY j with rfl|hp
   ·simp at hx
   refine hT.trans (IW hT (Vg hT hB hu (z:=x) ?_)) (hT.trans huv (IW hT ((Vh hT hA hv hy).imp Eq.symm id)))
   rwa [aqi hp]
  exact Vj hB j x hx y hy
 refine(p1.append p2).trans ?_;have e1:A++B=(A.take i++A.drop i) ++(B.take j++B.drop j):=by rw[afz,afz]
 rw[e1,afu,afu];refine List.Perm.append_left _ ?_;rw[<-afu,<-afu];exact List.Perm.append_right _ List.perm_append_comm
end Go.Proofs.YtdijgcnlbfgkdaaGreatDoor.ig
namespace Go.Proofs.YtdijgcnlbfgkdaaGreatDoor.ig
open Go Go.Sort Go.Proofs.Tryz
variable {α:Type} [Inhabited α] {le:α->α->Bool}
def get_at {d:Array α} {p s:List α} {x:α} (h:d.toList=p++x :: s) {i:Nat} (hi:p.length=i):d[i]! =x/\i<d.size:=by
 have hl:=afL List.length h;simp only[agR,aeo,ae7]at hl;have hlt:i<d.size:=by omega
 refine⟨?_,hlt⟩;rw[aob d i hlt,<-aoZ];have:d.toList[i]?=some x:=by rw[h,ag1 (by omega),hi,aqh];rfl
 rw[aen (by simpa using hlt)]at this
 exact aeM this
def Dz {d:Array α} {l:List α} (h:d.toList=l) {i:Nat} {x:α} (hx:l[i]?=some x):d[i]! =x/\i<d.size:=by
 obtain⟨hi,hx⟩:=aeK.1 hx;have hlt:i<d.size:=by rw[<-h]at hi;simpa using hi
 refine⟨?_,hlt⟩;rw[aob d i hlt,<-aoZ,<-hx]
 congr 1
def Vk {d:Array α} {p q s:List α} {x y:α} (h:d.toList=p++x ::(q++y :: s)) {i j:Nat} (hi:p.length=i) (hj:p.length+1+q.length=j):
  (swp d i j).toList=p++y ::(q++x :: s)/\(swp d j i).toList=p++y ::(q++x :: s):=by
 have h1:=(get_at h hi).1;have h2:=(get_at (d:=d) (p:=p++x :: q) (s:=s) (x:=y) (by rw[h];simp) (i:=j) (by simp only[aeo,ae7];omega)).1
 unfold swp;rw[h1,h2];simp only[aqm];rw[h];subst hi hj;have e: ∀(u v:α) (z:List α),(p++u ::(q++z)).set p.length v=p++v ::(q++z):=fun u v z=>by rw[ap0 _ _ (by omega),aqh,aeD]
 have e2: ∀(u v w:α),(p++u ::(q++w :: s)).set (p.length+1+q.length) v=p++u ::(q++v :: s):=fun u v w=>by
  rw[ap0 _ _ (by omega),show p.length+1+q.length - p.length=q.length+1 by omega,aeE,ap0 _ _ (by omega),aqh,aeD]
 exact⟨by rw[e,e2],by rw[e2,e]⟩
omit [Inhabited α]
def Ch (le:α->α->Bool) (w:Nat) (l:List α):Prop:= ∀k,bJ le ((l.drop (k*w)).take w)
def Ch.head {w:Nat} {l:List α} (h:Ch le w l):bJ le (l.take w):=by simpa using h 0
def Ch.tail {w:Nat} {l:List α} (h:Ch le w l):Ch le w (l.drop w):=fun k=>by
 have:=h (k+1);rw[ahu,an8,<-an1];exact this
def Ch.nil (w:Nat):Ch le w []:=fun k=>by simp
def Ch.snoc {w k0:Nat} {p c:List α} (h:Ch le w p) (hp:p.length=k0*w) (hc:bJ le c) (hl:c.length<=w):Ch le w (p++c):=fun k=>by
 rcases Nat.lt_trichotomy k k0 with hk|rfl|hk
 ·have:k*w+w<=k0*w:=by have:=ahg w (show k+1<=k0 from hk);rwa [an1]at this
  rw[List.drop_append_of_le_length (by omega),ap9 (by rw[ae1];omega)]
  exact h k
 ·rw[<-hp,aoK,aeG hl]
  exact hc
 have:k0*w+w<=k*w:=by have:=ahg w (show k0+1<=k from hk);rwa [an1]at this
 rw[af8 (by rw[aeo];omega)]
 simp
def Ch.all {w:Nat} {l:List α} (h:Ch le w l) (hl:l.length<=w):bJ le l:=by
 have:=h.head
 rwa [aeG hl]at this
variable [Inhabited α]
def DW {d:Array α} {p l r:List α} {a t:Nat} (h:d.toList=p ++(l++r)) (hp:p.length=a) (h1:a<=t) (h2:t<a+l.length):l[t - a]?=some d[t]!/\t<d.size:=by
 have e:d.toList[t]?=l[t - a]?:=by rw[h,ag1 (by omega),hp,anD (by omega)]
 obtain⟨x,hx⟩: ∃x,l[t - a]?=some x:=⟨_,aen (by omega)⟩
 rw[hx]at e;obtain⟨e1,e2⟩:=Dz rfl e;exact⟨by rw[hx,e1],e2⟩
def aks {d:Array α} {p B s:List α} {e:α} {a b i:Nat} (hT:Tot le) (h:d.toList=p ++(e ::(B++s))) (hp:p.length=a) (hb:a+1+B.length=b) (hB:bJ le B) (hi:a+1<=i) (hi2:i<=b) (h1:i=a+1\/le d[i - 1]! e=true) (h2:i=b\/le e d[i]! =true):
  bJ le (B.take (i -(a+1))++e :: B.drop (i -(a+1)))/\(B.take (i -(a+1))++e :: B.drop (i -(a+1))).Perm (e :: B):=by
 have h':d.toList=(p++[e]) ++(B++s):=by rw[h];simp
 have hp':(p++[e]).length=a+1:=by rw[aeo,hp];rfl
 refine⟨acr hT hB ?_ ?_,acs _⟩
 ·rcases h1 with rfl|h1
  ·exact .inl (aqh _)
  by_cases h0:i=a+1
  ·exact .inl (by omega)
  exact .inr ⟨_,by rw[show i -(a+1) - 1=i - 1 -(a+1) by omega];exact(DW h' hp' (by omega) (by omega)).1,h1⟩
 rcases h2 with rfl|h2
 ·exact .inl (by omega)
 by_cases h0:i=b
 ·exact .inl (by omega)
 exact .inr ⟨_,(DW h' hp' (by omega) (by omega)).1,h2⟩
def akt {d:Array α} {p A s:List α} {e:α} {a m i:Nat} (hT:Tot le) (h:d.toList=p ++(A++e :: s)) (hp:p.length=a) (hm:a+A.length=m) (hA:bJ le A) (hi:a<=i) (hi2:i<=m) (h1:i=a\/le d[i - 1]! e=true) (h2:i=m\/le e d[i]! =true):
  bJ le (A.take (i - a)++e :: A.drop (i - a))/\(A.take (i - a)++e :: A.drop (i - a)).Perm (A++[e]):=by
 refine⟨acr hT hA ?_ ?_,(acs _).trans (List.perm_append_singleton e A).symm⟩
 ·rcases h1 with rfl|h1
  ·exact .inl (aqh _)
  by_cases h0:i=a
  ·exact .inl (by omega)
  exact .inr ⟨_,by rw[show i - a - 1=i - 1 - a by omega];exact(DW h hp (by omega) (by omega)).1,h1⟩
 rcases h2 with rfl|h2
 ·exact .inl (by omega)
 by_cases h0:i=m
 ·exact .inl (by omega)
 exact .inr ⟨_,(DW h hp (by omega) (by omega)).1,h2⟩
def aku {d:Array α} {p A B s:List α} {a m b mid st:Nat} (h:d.toList=p ++(A ++(B++s))) (hp:p.length=a) (hm:a+A.length=m) (hb:m+B.length=b) (hs0:a<=st) (hs1:st<=m) (hs2:st<=mid) (hs3:mid+m - st<=b)
  (h1:st=a\/mid+m - st=b\/le d[st - 1]! d[mid+m - 1 -(st - 1)]! =true) (h2:st=m\/st=mid\/le d[mid+m - 1 - st]! d[st]! =true):
  (st - a=0\/mid - st=B.length\/ ∃x y,A[st - a - 1]?=some x/\B[mid - st]?=some y/\le x y=true)/\
  (st - a=A.length\/mid - st=0\/ ∃x y,B[mid - st - 1]?=some x/\A[st - a]?=some y/\le x y=true):=by
 have h':d.toList=(p++A) ++(B++s):=by rw[h];simp
 have hp':(p++A).length=m:=by rw[aeo,hp];exact hm
 constructor
 ·by_cases e1:st=a
  ·exact .inl (by omega)
  by_cases e2:mid+m - st=b
  ·exact .inr (.inl (by omega))
  refine .inr (.inr ⟨_,_, ?_, ?_,(h1.resolve_left e1).resolve_left e2⟩)
  ·rw[show st - a - 1=st - 1 - a by omega];exact(DW h hp (by omega) (by omega)).1
  rw[show mid - st=mid+m - 1 -(st - 1) - m by omega];exact(DW h' hp' (by omega) (by omega)).1
 by_cases e1:st=m
 ·exact .inl (by omega)
 by_cases e2:st=mid
 ·exact .inr (.inl (by omega))
 refine .inr (.inr ⟨_,_, ?_, ?_,(h2.resolve_left e1).resolve_left e2⟩)
 ·rw[show mid - st - 1=mid+m - 1 - st - m by omega];exact(DW h' hp' (by omega) (by omega)).1
 exact(DW h hp (by omega) (by omega)).1
omit [Inhabited α] in
def akv {lt:α->α->Bool} (hT:Tot le) (hcf: ∀x y,lt x y= !le y x):SWO lt:=by
 refine⟨fun x=>by rw[hcf,le_refl hT];rfl,fun x y z h1 h2=> ?_,fun x y z h1 h2=> ?_⟩
 ·rw[hcf]at h1 h2⊢
  simp only[aom]at h1 h2⊢;cases h:le z x with
  |false=>rfl
  |true=>rw[hT.trans (hT.total h2) h]at h1;exact Bool.noConfusion h1
 rw[hcf]at h1 h2⊢;simp only[Bool.not_eq_false']at h1 h2⊢;exact hT.trans h2 h1
def akw {lt:α->α->Bool} {d d':Array α} {a b:Nat} {p x s:List α} (h:PermIn a b d d') (hs:SortedIn lt a b d') (hcf: ∀x y,lt x y= !le y x) (hl:d.toList=p ++(x++s)) (ha:p.length=a) (hx:a+x.length=b):
  ∃x',d'.toList=p ++(x' ++ s)/\bJ le x'/\x'.Perm x:=by
 obtain⟨h1,h2,h3⟩:=h;have hlen:=afL List.length hl;simp only[agR,aeo]at hlen;have hd: ∀i,i<d.size->d.toList[i]?=some d[i]!:=fun i hi=>by rw[aob d i hi,<-aoZ,aen]
 have hd': ∀i,i<d.size->d'.toList[i]?=some d'[i]!:=fun i hi=>by rw[aob d' i (by omega),<-aoZ,aen]
 have e: ∀(c:Array α),(c.extract a b).toList=(c.toList.drop a).take (b - a):=fun c=>by rw[Array.toList_extract,aqA]
 have hp:d'.toList.take a=p:=by
  refine apL fun i=> ?_
  rcases ahi i a with hi|hi
  ·rw[ape hi,hd' i (by omega),h2 i (.inl hi),<-hd i (by omega),hl,anD (by omega)]
  rw[ag2 (by rw[afo];omega),ag2 (by omega)]
 have hq:d'.toList.drop b=s:=by
  refine apL fun i=> ?_
  rw[aot]
  rcases ahi (b+i) d.size with hi|hi
  ·rw[hd' _ hi,h2 _ (.inr (by omega)),<-hd _ hi,hl,ag1 (by omega),ag1 (by omega)]
   congr 1
   omega
  rw[ag2 (by rw[agR];omega),ag2 (by omega)]
 refine⟨(d'.toList.drop a).take (b - a), ?_, ?_, ?_⟩
 ·conv=>lhs;rw[<-afz a d'.toList,<-afz (b - a) (d'.toList.drop a),ahu]
  rw[hp,show a+(b - a)=b by omega,hq]
 ·refine ao3.2 fun i j hi hj hij=> ?_
  simp only[afo,ae1,agR]at hi hj;have:=hs (a+i) (a+j) (by omega) (by omega) (by omega)
  rw[hcf,Bool.not_eq_false']at this
  simpa[apK,List.getElem_drop,aob d' (a+i) (by omega),aob d' (a+j) (by omega)] using this
 rw[e,e]at h3;refine h3.trans ?_;rw[hl,show(p ++(x++s)).drop a=x++s by rw[<-ha,aoK],show b - a=x.length by omega,aqn]
end Go.Proofs.YtdijgcnlbfgkdaaGreatDoor.ig
namespace Go.Proofs.YtdijgcnlbfgkdaaGreatDoor.ig
open Go Go.Shelf Go.Proofs.Tryz
def jX (ρ:Ren):Operand->Operand
 |.func f=> .func (ρ.f f)
 |x=>x
def Ew (ρ:Ren):Callee->Callee
 |.value f=> .value (jX ρ f)
 |x=>x
def DX (ρ:Ren):Op->Op
 |.move x=> .move (jX ρ x)
 |.assign x=> .assign (jX ρ x)
 |.pick a b c=> .pick (jX ρ a) (jX ρ b) (jX ρ c)
 |.load t a=> .load (ρ.t t) (jX ρ a)
 |.store t a v=> .store (ρ.t t) (jX ρ a) (jX ρ v)
 |.binOp o t x y u=> .binOp o (ρ.t t) (jX ρ x) (jX ρ y) (ρ.t u)
 |.unOp o t x=> .unOp o (ρ.t t) (jX ρ x)
 |.convert s d x=> .convert (ρ.t s) (ρ.t d) (jX ρ x)
 |.indexAddr t x i=> .indexAddr (ρ.t t) (jX ρ x) (jX ρ i)
 |.call c=> .call ⟨Ew ρ c.callee,(c.args.toList.map (jX ρ)).toArray,(c.argTypes.toList.map ρ.t).toArray⟩
 |o=>o
def Ey (ρ:Ren) (o:Oper):Oper:=⟨o.dst,DX ρ o.op,ρ.t o.type,o.pos,o.after,o.guard⟩
def sF (ρ:Ren):Code->Code
 |.region i ops d=> .region i (ops.toList.map (Ey ρ)).toArray d
 |.seq a b=> .seq (sF ρ a) (sF ρ b)
 |.cond c a b=> .cond (jX ρ c) (sF ρ a) (sF ρ b)
 |.block i b=> .block i (sF ρ b)
 |.loop b=> .loop (sF ρ b)
 |.scope b=> .scope (sF ρ b)
 |c=>c
def Bd (P:Program) (ρ:Ren) (i:Nat) (f:Func):Prop:= ∃(nm:String) (tg ps rt:Array TypeId),(nm == "runtime.NumGoroutine")=false/\P.funcs[ρ.f i]?=some {f with name:=nm,targs:=tg,params:=ps,resultTypes:=rt,body:=f.body.map (sF ρ)}
def Bd.enters {P:Program} {ρ:Ren} {i:Nat} {f:Func} {c:Code} (h:Bd P ρ i f) (hb:f.body=some c): ∀args w,(callFunc (ρ.f i) args).run P w=.ok (.enter (ρ.f i) args) w:=by
 obtain⟨nm,tg,ps,rt,hn,hf⟩:=h;exact atd hf hn (c:=sF ρ c) (by rw[hb];rfl)
end Go.Proofs.YtdijgcnlbfgkdaaGreatDoor.ig
