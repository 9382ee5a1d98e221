/- Contracts and plain laws,part 24. -/
import Derived.Test.YtoofbflplhbpbaaGreatDoorUO23
set_option maxHeartbeats 64000000
set_option maxRecDepth 1000000
set_option linter.all false
namespace Go.Proofs.YtoofbflplhbpbaaGreatDoor
open Go.RowKit
theorem dW.isMap {w:World} {b:Nat} {l:List Int} (h:dW w b l): ∀c t fz,w.heap[b]?≠some (.cells c t fz):=fun c t fz e=>by
 obtain ⟨n,D,-,⟨es,cl,h1,-⟩,-⟩:=h.ex;rw [h1] at e;cases e
def jA (W:World) (B:Nat) (x:Gr.N×List Value):Prop:=
 ∃sl sp,x.2= [.int .i64 x.1.id,sl,sp]/\W.ownsRow B 9 1 sl x.1.labels.length (x.1.labels.map ST)/\aV 61 W B sp x.1.props
def jB (W:World) (B:Nat) (x:Gr.R×List Value):Prop:=
 ∃sp,x.2= [.int .i64 x.1.id,ST x.1.type, .int .i64 x.1.src, .int .i64 x.1.dst,sp]/\aV 61 W B sp x.1.props
theorem jA.kp {base B:Nat} {x:Gr.N×List Value} {w w':World} (h:jA w B x) (hk:Kp base w w'):jA w' B x:=by
 obtain ⟨s,t,e,h1,h2⟩:=h
 exact ⟨s,t,e,oH h1 hk (by decide) (by decide) (by decide),h2.kp hk (by decide) (by decide) (by decide)⟩
theorem jB.kp {base B:Nat} {x:Gr.R×List Value} {w w':World} (h:jB w B x) (hk:Kp base w w'):jB w' B x:=by
 obtain ⟨t,e,h2⟩:=h;exact ⟨t,e,h2.kp hk (by decide) (by decide) (by decide)⟩
structure fF (base mk m1 m2:Nat) (g:Gr.G) (ni ri:List Int) (V:World):Prop where
 ex: ∃(sn sr:Value) (ln:List (Gr.N×List Value)) (lr:List (Gr.R×List Value)),aj V mk 99 #[sn,sr, .map (some m1), .map (some m2)]/\
  ln.map Prod.fst=g.nodes/\(∀x∈ln,jA V base x)/\V.ownsRow base 59 3 sn g.nodes.length (ln.flatMap Prod.snd)/\
  lr.map Prod.fst=g.au/\(∀x∈lr,jB V base x)/\V.ownsRow base 63 5 sr g.au.length (lr.flatMap Prod.snd)
 n1:dW V m1 ni
 n2:dW V m2 ri
 bs:base<=mk/\base<=m1/\base<=m2/\m1≠m2
theorem fF.below {base mk m1 m2:Nat} {g:Gr.G} {ni ri:List Int} {V V':World} (h:fF base mk m1 m2 g ni ri V) (hb:Below V.heap.size V V'):fF base mk m1 m2 g ni ri V':=by
 obtain ⟨sn,sr,ln,lr,h1,h2,h3,h4,h5,h6,h7⟩:=h.ex
 have hk:Kp base V V':=Kp.of_below hb (ab5 h.bs.1 (alS h1.lt))
 exact ⟨⟨sn,sr,ln,lr,h1.below hb h1.lt,h2,fun x hx=>(h3 x hx).kp hk,dS h4 (iT hb none) (fun g c t fz hr=>by cases hr),h5,fun x hx=>(h6 x hx).kp hk,dS h7 (iT hb none) (fun g c t fz hr=>by cases hr)⟩,h.n1.below hb,h.n2.below hb,h.bs⟩
theorem fF.lt {base mk m1 m2:Nat} {g:Gr.G} {ni ri:List Int} {V:World} (h:fF base mk m1 m2 g ni ri V):base<=V.heap.size:=by
 obtain ⟨sn,sr,ln,lr,h1,-⟩:=h.ex;exact ab5 h.bs.1 (alS h1.lt)
theorem fF.Vf {base m:Nat} {l:List Int} {V V':World} (h:dW V m l) (hs:base<=V.heap.size) (hm:base<=m) (hg:V.grownBy V' (some m)):Kp base V V':=
 Kp.vN hg hs hm fun c t fz e=>absurd e (h.isMap c t fz)
theorem fF.rows {base mk m1 m2 m:Nat} {l:List Int} {g:Gr.G} {ni ri:List Int} {V V':World} (h:fF base mk m1 m2 g ni ri V) (hm:dW V m l) (hb:base<=m) (hg:V.grownBy V' (some m)):
  ∃(sn sr:Value) (ln:List (Gr.N×List Value)) (lr:List (Gr.R×List Value)),aj V' mk 99 #[sn,sr, .map (some m1), .map (some m2)]/\
  ln.map Prod.fst=g.nodes/\(∀x∈ln,jA V' base x)/\V'.ownsRow base 59 3 sn g.nodes.length (ln.flatMap Prod.snd)/\
  lr.map Prod.fst=g.au/\(∀x∈lr,jB V' base x)/\V'.ownsRow base 63 5 sr g.au.length (lr.flatMap Prod.snd):=by
 obtain ⟨sn,sr,ln,lr,h1,h2,h3,h4,h5,h6,h7⟩:=h.ex;have hk:Kp base V V':=fF.Vf hm h.lt hb hg
 have hty: ∀(T:TypeId) g c t fz,some m=some g->V.heap[g]?=some (.cells c t fz)->t≠T:=fun T g c t fz e hc=>by
  cases e;exact absurd hc (hm.isMap c t fz)
 exact ⟨sn,sr,ln,lr,h1.grown hg (fun e=>by cases e;exact hm.isMap _ _ _ h1),h2,fun x hx=>(h3 x hx).kp hk,dS h4 hg (hty _),h5,fun x hx=>(h6 x hx).kp hk,dS h7 hg (hty _)⟩
theorem fF.alB {base mk m1 m2:Nat} {g:Gr.G} {ni ni' ri:List Int} {V V':World} (h:fF base mk m1 m2 g ni ri V) (hc:dW V' m1 ni') (hg:V.grownBy V' (some m1)):fF base mk m1 m2 g ni' ri V':=
 ⟨h.rows h.n1 h.bs.2.1 hg,hc,h.n2.kept hg (fun e=>h.bs.2.2.2 (acE e).symm),h.bs⟩
theorem fF.alC {base mk m1 m2:Nat} {g:Gr.G} {ni ri ri':List Int} {V V':World} (h:fF base mk m1 m2 g ni ri V) (hc:dW V' m2 ri') (hg:V.grownBy V' (some m2)):fF base mk m1 m2 g ni ri' V':=
 ⟨h.rows h.n2 h.bs.2.2.1 hg,h.n1.kept hg (fun e=>h.bs.2.2.2 (acE e)),hc,h.bs⟩
theorem fF.cells {base mk m1 m2:Nat} {g:Gr.G} {ni ri:List Int} {V:World} (h:fF base mk m1 m2 g ni ri V):V.cell? ⟨mk,2,none⟩=some (.map (some m1))/\V.cell? ⟨mk,3,none⟩=some (.map (some m2)):=by
 obtain ⟨sn,sr,ln,lr,h1,-⟩:=h.ex;exact ⟨h1.cell 2,h1.cell 3⟩
def aib (o:Int×Nat) (w:World) (e:Ending) (w':World):Prop:=e= .returned (.tuple #[.int .i64 o.1, .int .i64 (o.2:Nat)])/\Below w.heap.size w w'
theorem aap {base mk m1 m2:Nat} {g:Gr.G} {ri:List Int} (z:ByteArray) (w:World) (h:fF base mk m1 m2 g (g.nodes.map Gr.N.id) ri w) (hs:z.size<=16777216) (hn:g.nodes.length<=16777216) (hL:Laid w):
  Calls Tryz.prog 92 #[.pointer (some ⟨mk,0,none⟩), .string z] w (aib (Cy.endP g z.data.toList) w):=by
 obtain ⟨o,ho⟩: ∃o,Cy.endP g z.data.toList=o:=⟨_,rfl⟩;rw [ho];unfold Cy.endP at ho
 have hid:=Sm z 110 1024 w (by omega) ⟨by decide,by decide⟩ hL
 obtain ⟨oi,hoi⟩: ∃oi,Cy.mX 110 1024 z.data.toList=oi:=⟨_,rfl⟩;rw [hoi] at hid ho
 have HI:=ah hid;have HO:=ah ho;have HS:=ah h;have HN:=ah hn;have HU:=ah ug
 clear hid ho h hoi hL hn;go_enter Tryz.func92,Tryz.ntmps92;go_wp2_with fail
 refine HI.out.mono ?_;rintro e w1 ⟨n,b,rfl,hb,hm⟩;have HB:=ah hb
 have dP:=ah (HS.out.below hb);clear hb HS;cases oi with
 | none=>
  subst hm;have he:=HO.out;subst he;go_wp2
  go_ret2
  exact ⟨rfl,HB.out⟩
 | some i=>
 obtain ⟨rfl,rfl,hi,hi0⟩:=hm;have he:=HO.out
 try simp only at he
 have HE:=ah he;have uS:=ah hi;obtain ⟨c2,c3⟩:=dP.out.cells
 have hlk:=dP.out.n1.look (t:=97) Tryz.underlying97 hi
 obtain ⟨N,hN⟩: ∃N,(g.nodes.map Gr.N.id).count n=N:=⟨_,rfl⟩;rw [hN] at hlk;have jc:=ah hN
 clear he HO hi hi0 hN;by_cases hN0:N=0
 ·subst hN0
  have hx:o=(0,65):=by rw [<-HE.out,ab6 (fun h=>by have:=akN.2 h;rw [jc.out] at this;omega)]
  subst hx;clear HE;go_wp2
  go_ret2
  exact ⟨rfl,HB.out⟩
 have hx:o=(n,0):=by rw [<-HE.out,ab7 (akN.1 (by rw [jc.out];omega))]
 subst hx;have t1:((N:Int) == 0)=false:=by rw [ab3];omega
 clear HE hN0;go_wp2
 go_ret2
 exact ⟨rfl,HB.out⟩
theorem Kp.je {base e sz n:Nat} {v:Value} {xs:List Value} {w w':World} (h:w.ownsRow base e sz v n xs) (he:e=59\/e=63) (hb:base<=w.heap.size) (hg:w.grownBy w' v.ownBlock):Kp base w w':=by
 cases hv:v.ownBlock with
 | none=>
  rw [hv] at hg
  exact Kp.of_below ⟨hg.os,hg.tape,hg.output,hg.size,fun k hk=>hg.block k hk (by simp)⟩ hb
 | some i=>
  rw [hv] at hg;obtain ⟨hi,c,hc⟩:=mG h i hv;refine Kp.vN hg hb hi fun c' t fz e'=> ?_
  rw [hc] at e';cases e';exact .inr he
theorem Nw {base e sz n m:Nat} {v:Value} {xs:List Value} {l:List Int} {w:World} (h:w.ownsRow base e sz v n xs) (hm:dW w m l):some m≠v.ownBlock:=fun e'=>by
 obtain ⟨-,c,hc⟩:=mG h m e'.symm;exact hm.isMap _ _ _ hc
theorem Ny {base e e' sz n b:Nat} {v:Value} {xs:List Value} {cs:Array Value} {w:World} (h:w.ownsRow base e sz v n xs) (hm:aj w b e' cs) (hne:e'≠e):some b≠v.ownBlock:=fun x=>by
 obtain ⟨-,c,hc⟩:=mG h b x.symm;have:=hm.symm.trans hc;cases this;exact hne rfl
theorem aaq {w w':World} {base e e' size n size' n':Nat} {v v':Value} {xs xs':List Value} (h:w.ownsRow base e size v n xs) (hv:w.ownsRow base e' size' v' n' xs') (hg:w.grownBy w' v'.ownBlock) (hne:e'≠e):w'.ownsRow base e size v n xs:=
 dS h hg fun g c t fz hr hc=>by
  obtain ⟨-,c',hc'⟩:=mG hv g hr;rw [hc'] at hc;cases hc;exact hne
theorem BF {w:World} {base e e' size n b i:Nat} {v u:Value} {xs:List Value} {cs:Array Value} (h:w.ownsRow base e size v n xs) (hb:aj w b e' cs) (hne:e'≠e):(w.setCell ⟨b,i,none⟩ u).ownsRow base e size v n xs:=
 dS h (grownBy_set w ⟨b,i,none⟩ u) fun g c t fz hr hc=>by
  cases hr;have:=hb.symm.trans hc;cases this;exact hne
theorem Kp.set {w:World} {base b i:Nat} {u:Value} {cs:Array Value} (hb:aj w b 99 cs) (hB:base<=b):Kp base w (w.setCell ⟨b,i,none⟩ u):=
 Kp.vN (grownBy_set w ⟨b,i,none⟩ u) (ab5 hB (alS hb.lt)) hB fun c t fz hc=>by
  have:=hb.symm.trans hc;cases this;exact .inl rfl
section
variable {base mk m1 m2:Nat} {g:Gr.G} {ni ri:List Int} {W w9:World} {sn sr v':Value} {ln:List (Gr.N×List Value)} {lr:List (Gr.R×List Value)} {cs:List Value}
  (h:fF base mk m1 m2 g ni ri W) (h1:aj W mk 99 #[sn,sr, .map (some m1), .map (some m2)])
  (h2:ln.map Prod.fst=g.nodes) (h3: ∀x∈ln,jA W base x) (h4:W.ownsRow base 59 3 sn g.nodes.length (ln.flatMap Prod.snd))
  (h5:lr.map Prod.fst=g.au) (h6: ∀x∈lr,jB W base x) (h7:W.ownsRow base 63 5 sr g.au.length (lr.flatMap Prod.snd))
include h h1 h2 h3 h4 h5 h6 h7
theorem fF.node {n:Gr.N} (hn:jA W base (n,cs)) (hg:W.grownBy w9 sn.ownBlock) (ho:w9.ownsRow base 59 3 v' (g.nodes.length+1) (ln.flatMap Prod.snd ++ cs)):
  fF base mk m1 m2 ⟨g.nodes ++ [n],g.au⟩ ni ri (w9.setCell ⟨mk,0,none⟩ v')/\Kp base W (w9.setCell ⟨mk,0,none⟩ v'):=by
 have hk9:aj w9 mk _ _:=h1.grown hg (Ny h4 h1 (by decide))
 have hkp:Kp base W (w9.setCell ⟨mk,0,none⟩ v'):=(Kp.je h4 (.inl rfl) h.lt hg).trans (Kp.set hk9 h.bs.1)
 refine ⟨⟨⟨v',sr,ln ++ [(n,cs)],lr,by simpa using hk9.aS 0 v',by rw [ade,h2];rfl,fun x hx=> ?_, ?_,h5,fun x hx=>(h6 x hx).kp hkp,BF (aaq h7 h4 hg (by decide)) hk9 (by decide)⟩, ?_, ?_,h.bs⟩,hkp⟩
 ·rcases acU.1 hx with hx | hx
  ·exact (h3 x hx).kp hkp
  rw [adg.1 hx];exact hn.kp hkp
 ·have:=BF (i:=0) (u:=v') ho hk9 (by decide)
  rw [dA,ad4]
  simpa using this
 ·exact (h.n1.kept hg (Nw h4 h.n1)).kept (grownBy_set _ _ _) (fun e=>by have:=acE e;subst this;exact h.n1.isMap _ _ _ h1)
 exact (h.n2.kept hg (Nw h4 h.n2)).kept (grownBy_set _ _ _) (fun e=>by have:=acE e;subst this;exact h.n2.isMap _ _ _ h1)
theorem fF.rel {n:Gr.R} (hn:jB W base (n,cs)) (hg:W.grownBy w9 sr.ownBlock) (ho:w9.ownsRow base 63 5 v' (g.au.length+1) (lr.flatMap Prod.snd ++ cs)):
  fF base mk m1 m2 ⟨g.nodes,g.au ++ [n]⟩ ni ri (w9.setCell ⟨mk,1,none⟩ v')/\Kp base W (w9.setCell ⟨mk,1,none⟩ v'):=by
 have hk9:aj w9 mk _ _:=h1.grown hg (Ny h7 h1 (by decide))
 have hkp:Kp base W (w9.setCell ⟨mk,1,none⟩ v'):=(Kp.je h7 (.inr rfl) h.lt hg).trans (Kp.set hk9 h.bs.1)
 refine ⟨⟨⟨sn,v',ln,lr ++ [(n,cs)],by simpa using hk9.aS 1 v',h2,fun x hx=>(h3 x hx).kp hkp,BF (aaq h4 h7 hg (by decide)) hk9 (by decide),by rw [ade,h5];rfl,fun x hx=> ?_, ?_⟩, ?_, ?_,h.bs⟩,hkp⟩
 ·rcases acU.1 hx with hx | hx
  ·exact (h6 x hx).kp hkp
  rw [adg.1 hx];exact hn.kp hkp
 ·have:=BF (i:=1) (u:=v') ho hk9 (by decide)
  rw [dA,ad4]
  simpa using this
 ·exact (h.n1.kept hg (Nw h7 h.n1)).kept (grownBy_set _ _ _) (fun e=>by have:=acE e;subst this;exact h.n1.isMap _ _ _ h1)
 exact (h.n2.kept hg (Nw h7 h.n2)).kept (grownBy_set _ _ _) (fun e=>by have:=acE e;subst this;exact h.n2.isMap _ _ _ h1)
end
theorem aar:(Tryz.prog.info? 59).map (fun i=>(i.zero,i.size,i.bytes))=some (some (.agg #[.int .i64 0, .slice none 0 0, .slice none 0 0]),3,56):=by kernel_rfl
theorem aas:(Tryz.prog.info? 63).map (fun i=>(i.zero,i.size,i.bytes))=some (some (.agg #[.int .i64 0, .string ⟨#[]⟩, .int .i64 0, .int .i64 0, .slice none 0 0]),5,64):=by kernel_rfl
def Nz (base mk m1 m2:Nat) (R:Gr.G×Nat) (w:World) (e:Ending) (w':World):Prop:=
 e= .returned (.int .i64 (R.2:Nat))/\Kp base w w'/\(R.2=0->fF base mk m1 m2 R.1 (R.1.nodes.map Gr.N.id) (R.1.au.map Gr.R.id) w')
theorem mM.form {W:World} {B:Nat} {p:Cy.aZ} {cs:List Value} (h:mM W B (p,cs)): ∃A1 c1 A2 c2,cs= [ST p.first,ST p.word,ST p.other, .slice A1 p.names.length c1, .slice A2 p.props.length c2]/\
  W.ownsRow B 9 1 (.slice A1 p.names.length c1) p.names.length (p.names.map ST)/\aV 212 W B (.slice A2 p.props.length c2) p.props:=by
 obtain ⟨s,t,e,h1,h2⟩:=h;obtain ⟨A1,c1,rfl⟩:=aJ h1;obtain ⟨A2,c2,rfl⟩:=h2.form
 exact ⟨A1,c1,A2,c2,e,h1,h2⟩
theorem cells4 {W:World} {b:Nat} {T:TypeId} {v0 v1 v2 v3:Value} (h:aj W b T #[v0,v1,v2,v3]):
  W.cell? ⟨b,0,none⟩=some v0/\W.cell? ⟨b,1,none⟩=some v1/\W.cell? ⟨b,2,none⟩=some v2/\W.cell? ⟨b,3,none⟩=some v3:=
 ⟨h.cell 0,h.cell 1,h.cell 2,h.cell 3⟩
theorem aic {base mk m1 m2:Nat} {g:Gr.G} {p:Cy.aZ} {cs:List Value} {w:World} (h:fF base mk m1 m2 g (g.nodes.map Gr.N.id) (g.au.map Gr.R.id) w) (hp:mM w base (p,cs)) (hs:Cy.qH p) (hn:g.nodes.length<=16777216)
  (hL: ∀V,Below base w V->Laid V):Calls Tryz.prog 49 #[.pointer (some ⟨mk,0,none⟩), .agg cs.toArray] w (Nz base mk m1 m2 (Cy.addNode g p) w):=by
 obtain ⟨R,hR⟩: ∃R,Cy.addNode g p=R:=⟨_,rfl⟩;rw [hR];unfold Cy.addNode at hR
 obtain ⟨An,cn,Ap,cp,rfl,hnm,hpp⟩:=hp.form;obtain ⟨nl,hnl⟩: ∃n,p.names.length=n:=⟨_,rfl⟩
 obtain ⟨pl,hpl⟩: ∃n,p.props.length=n:=⟨_,rfl⟩;rw [hnl] at hnm⊢;rw [hpl] at hpp⊢
 obtain ⟨zf,uT⟩: ∃z:ByteArray,(⟨p.first.toArray⟩:ByteArray)=z:=⟨_,rfl⟩
 obtain ⟨zw,hzw⟩: ∃z:ByteArray,(⟨p.word.toArray⟩:ByteArray)=z:=⟨_,rfl⟩
 obtain ⟨zo,Ed⟩: ∃z:ByteArray,(⟨p.other.toArray⟩:ByteArray)=z:=⟨_,rfl⟩
 have e1:ST p.first= .string zf:=by rw [<-uT];rfl
 have e2:ST p.word= .string zw:=by rw [<-hzw];rfl
 have e3:ST p.other= .string zo:=by rw [<-Ed];rfl
 rw [e1,e2,e3];have J4:zf.data.toList=p.first:=by rw [<-uT]
 have OB:zf.size<=16777216:=by rw [<-uT,bf];exact hs.first
 obtain ⟨WN,aX⟩: ∃W,w.alloc (.cells #[.string zf, .string zw, .string zo, .slice An nl cn, .slice Ap pl cp] 102)=W:=⟨_,rfl⟩
 have hbn:Below w.heap.size w WN:=by rw [<-aX];exact (Below.refl _ _).alloc (ab1 _) _
 obtain ⟨pb,hpb⟩: ∃x,w.heap.size=x:=⟨_,rfl⟩
 have hk0:aj WN pb 102 #[.string zf, .string zw, .string zo, .slice An nl cn, .slice Ap pl cp]:=by rw [<-aX,<-hpb];exact aj.new _ _ _
 have hid:=Sm zf 110 1024 WN (by omega) ⟨by decide,by decide⟩ (hL WN (hbn.mono h.lt))
 rw [J4] at hid;obtain ⟨oi,hoi⟩: ∃oi,Cy.mX 110 1024 p.first=oi:=⟨_,rfl⟩;rw [hoi] at hid hR
 have yC:Kp base w WN:=Kp.of_below hbn h.lt;have HI:=ah hid;have HR:=ah hR
 have bU:=ah (h.below hbn);have Cb:=ah yC;have HKB:=ah hk0
 have sV:=ah (oH hnm yC (by decide) (by decide) (by decide))
 have uU:=ah (hpp.kp yC (by decide) (by decide) (by decide))
 have eG:=ah aX;have dL:=ah hs;have zT:=ah hnl;have iP:=ah hpl;have jE:=ah hn
 have anC:nl<=16777216:=by rw [<-hnl];exact hs.nl
 have hmm:= @run_makeMap Tryz.prog
 clear h hp hs hn hL hR hnm hpp hnl hpl uT hzw Ed e1 e2 e3 J4 OB aX hbn hk0 hid hoi yC
 go_enter Tryz.func49,Tryz.ntmps49
 go_upto_region 1 with fail
 rw [eG.out]
 try rw [hpb]
 clear hpb eG;obtain ⟨d0,d1,d2,d3,d4⟩:=cells5 HKB.out;go_wp2_with fail
 refine HI.out.mono ?_;rintro e w1 ⟨n,b,rfl,hb,hm⟩
 have aT:=ah (Cb.out.trans (Kp.of_below hb bU.out.lt));have dP:=ah (bU.out.below hb)
 have HKB1:=ah (HKB.out.below hb HKB.out.lt)
 have J5:=ah (oH sV.out (Kp.of_below hb bU.out.lt) (by decide) (by decide) (by decide))
 have J6:=ah (uU.out.kp (Kp.of_below hb bU.out.lt) (by decide) (by decide) (by decide))
 clear hb bU HKB sV uU d0 d1 d2 d3 d4 Cb;cases oi with
 | none=>
  subst hm;have he:=HR.out;subst he;go_wp2;go_ret
  exact ⟨rfl,aT.out,fun h=>absurd h (show (61:Nat)≠0 by decide)⟩
 | some i=>
 obtain ⟨rfl,rfl,hi,hi0⟩:=hm;have he:=HR.out
 try simp only at he
 have HE:=ah he;have uS:=ah hi;obtain ⟨c2,c3⟩:=dP.out.cells
 have hlk:=dP.out.n1.look (t:=97) Tryz.underlying97 hi
 obtain ⟨N,hN⟩: ∃N,(g.nodes.map Gr.N.id).count n=N:=⟨_,rfl⟩
 have qj:N<=g.nodes.length:=by rw [<-hN];exact ab5 akp (by rw [ace];exact ab1 _)
 have hNi:(N:Int)<=16777216:=by have:=jE.out;omega
 rw [hN] at hlk;have jc:=ah hN;clear he HR hi hi0 hN qj
 go_wp2_with (at_mapUpdate;refine Si _ rfl dP.out.n1 (by rw [ace];have:=jE.out;omega) (.tmp 23) (.tmp 24) (.tmp 26) 97 rfl Tryz.underlying97 rfl n uS.out rfl (by rw [jc.out];rfl) ?_)
 intro w2 hc2 hg2;have hkp:=fF.Vf dP.out.n1 dP.out.lt dP.out.bs.2.1 hg2
 have aC:=ah (aT.out.trans hkp);have HS2:=ah (dP.out.alB hc2 hg2)
 have J7:some pb≠some m1:=fun e=>by cases e;exact dP.out.n1.isMap _ _ _ HKB1.out
 have HKB2:=ah (HKB1.out.grown hg2 J7)
 have GX:=ah (oH J5.out hkp (by decide) (by decide) (by decide))
 have J8:=ah (J6.out.kp hkp (by decide) (by decide) (by decide))
 clear hc2 hg2 hkp J7 c2 c3 hlk dP HKB1 J5 J6 aT;obtain ⟨c2,c3⟩:=HS2.out.cells
 have hlk:=HS2.out.n1.look (t:=97) Tryz.underlying97 uS.out;rw [amC,jc.out,al5] at hlk
 by_cases hN0:N=0
 case neg=>
  have t1:decide ((1:Int)<((N+1:Nat):Int))=true:=abW (by omega)
  have hx:R=(g,7):=by rw [<-HE.out,ab7 (akN.1 (by rw [jc.out];omega))]
  subst hx;go_wp2;go_ret;exact ⟨rfl,aC.out,fun h=>absurd h (show (7:Nat)≠0 by decide)⟩
 subst hN0;have t1:decide ((1:Int)<((0+1:Nat):Int))=false:=abX (by omega)
 have he:=HE.out;rw [ab6 (fun h=>by have:=akN.2 h;rw [jc.out] at this;omega)] at he
 obtain ⟨D,hD⟩: ∃D,Cy.y8 [] p.names=D:=⟨_,rfl⟩;rw [hD] at he;have HE2:=ah he
 have HD:=ah hD;obtain ⟨W3,hW3⟩: ∃W,w2.alloc (.map #[] 0)=W:=⟨_,rfl⟩
 obtain ⟨sb,hsb⟩: ∃x,w2.heap.size=x:=⟨_,rfl⟩
 have HC3:=ah (show gK W3 sb [] by rw [<-hW3,<-hsb];exact gK.made w2)
 have HB3:=ah (show Below w2.heap.size w2 W3 by rw [<-hW3];exact (Below.refl _ w2).alloc (ab1 _) _)
 have HW3:=ah hW3;have GY:=ah hsb;clear he hD hW3 HE
 go_upto_region 8 with fail
 rw [HW3.out]
 try rw [hsb]
 clear hsb HW3 c2 c3 hlk t1 hmm
 obtain ⟨d0,d1,d2,d3,d4⟩:=cells5 (HKB2.out.below HB3.out HKB2.out.lt);go_wp2_with fail
 clear d0 d1 d2 d3 d4
 go_loopg [38] nl (fun q x wl=> ∃j:Nat,x= .int .i64 j/\j+q=nl/\Below w2.heap.size w2 wl/\gK wl sb (p.names.take j)/\Hid (Cy.y8 (p.names.take j) (p.names.drop j)=D))
 case atStart=>exact ⟨0,rfl,by omega,HB3.out,HC3.out,HD.out⟩
 obtain ⟨j,rfl,hj,hb,hc,OC⟩:=hrel;have HJ:=ah hj;have HB:=ah hb;have HC:=ah hc
 clear hb hc HB3 HC3;cases gk with
 | succ q=>
  have hjn:j<nl:=by omega
  have DU:(j:Int)<nl:=by omega
  obtain ⟨y,hy⟩: ∃y,p.names[j]?=some y:=⟨_,ab2 (by rw [zT.out];exact hjn)⟩
  obtain ⟨lb,lo,x,rfl,pU,hx,hc⟩:=((Reads.je GX.out).below HB.out).cell hjn
  rw [acJ,hy] at hx;cases hx
  obtain ⟨z,hz⟩: ∃z:ByteArray,(⟨y.toArray⟩:ByteArray)=z:=⟨_,rfl⟩;unfold ST at hc
  rw [hz] at hc;have hys:y.length<=16777216:=dL.out.ns y (acf hy)
  have hzs:z.size<=16777216:=by rw [<-hz,bf];exact hys
  have HZD:=ah (show z.data.toList=y by rw [<-hz])
  have iD:=ah (show p.names.take (j+1)=p.names.take j ++ [y] by rw [adZ,hy];rfl)
  have hdr:p.names.drop j=y :: p.names.drop (j+1):=by
   rw [adC (by rw [zT.out];exact hjn)]
   congr 1
   exact acE ((ab2 _).symm.trans hy)
  have hdj:_=D:=OC;rw [hdr,Cy.y8] at hdj;have hgn:=FM z wr (by omega)
  rw [show z.data.toList=y from HZD.out] at hgn
  obtain ⟨GB,Ad⟩: ∃b,Gr.dw y=b:=⟨_,rfl⟩;rw [Ad] at hgn hdj;have HD2:=ah hdj
  have Cc:=ah hgn;have lJ:=ah hzs;clear hy pU hz hys hzs hdr hdj hgn Ad OC hj
  go_wp2_with fail;refine Cc.out.mono ?_;rintro e w4 ⟨rfl,rfl⟩;cases GB with
  | false=>
   have hd:D=60:=by rw [<-HD2.out,ab7 rfl]
   subst hd;have hx:R=(g,60):=by rw [<-HE2.out,ab7 (by decide)]
   subst hx;have Aa:=ah (aC.out.trans (Kp.of_below HB.out HS2.out.lt));clear hc;go_wp2
   go_ret;exact ⟨rfl,Aa.out,fun h=>absurd h (show (60:Nat)≠0 by decide)⟩
  | true=>
  have hd:=HD2.out;rw [ab6 (by decide)] at hd
  have HD3:=ah hd
  have hlk:=HC.out.look (t:=150) Tryz.underlying150 (s:=z) (by have:=lJ.out;unfold maxLen;omega)
  rw [show z.data.toList=y from HZD.out] at hlk
  obtain ⟨N,hN⟩: ∃N,(p.names.take j).count y=N:=⟨_,rfl⟩
  have qj:N<=j:=by rw [<-hN];exact ab5 akp (by rw [acW];omega)
  have hNi:(N:Int)<=16777216:=by omega
  rw [hN] at hlk;have OD:=ah hN;clear hd hN qj HD2 Cc
  go_wp2_with (at_mapUpdate;refine Nv _ rfl HC.out (by rw [acW];omega) (.tmp 45) (.tmp 46) (.tmp 48) 150 rfl Tryz.underlying150 rfl z (by have:=lJ.out;unfold maxLen;omega) rfl (by rw [show z.data.toList=y from HZD.out,OD.out];rfl) ?_)
  intro w5 hc5 hg5;rw [show z.data.toList=y from HZD.out] at hc5
  have bZ:=ah (show Below w2.heap.size w2 w5 from HB.out.trans ⟨hg5.os,hg5.tape,hg5.output,hg5.size,fun i hi=>hg5.block i (adf hi HB.out.size) (fun e=>by cases e;have:=GY.out;omega)⟩)
  have Ee:=ah hc5
  have hlk2:=hc5.look (t:=150) Tryz.underlying150 (s:=z) (by have:=lJ.out;unfold maxLen;omega)
  rw [show z.data.toList=y from HZD.out,amC,OD.out,al5] at hlk2
  clear hc5 hg5 hlk hc;by_cases hN0:N=0
  case neg=>
   have t1:decide ((1:Int)<((N+1:Nat):Int))=true:=abW (by omega)
   have hd:D=7:=by rw [<-HD3.out,ab7 (akN.1 (by rw [OD.out];omega))]
   subst hd;have hx:R=(g,7):=by rw [<-HE2.out,ab7 (by decide)]
   subst hx;have Aa:=ah (aC.out.trans (Kp.of_below bZ.out HS2.out.lt));go_wp2;go_ret
   exact ⟨rfl,Aa.out,fun h=>absurd h (show (7:Nat)≠0 by decide)⟩
  subst hN0;have t1:decide ((1:Int)<((0+1:Nat):Int))=false:=abX (by omega)
  have hd:=HD3.out;rw [ab6 (fun h=>by have:=akN.2 h;rw [OD.out] at this;omega)] at hd
  have HD4:=ah hd;clear hd HD3;go_wp2
  go_roundg q
  case measure=>omega
  exact ⟨j+1,int_eq (by omega),by have:=HJ.out;omega,bZ.out,by rw [iD.out];exact Ee.out,by rw [iD.out];exact HD4.out⟩
 | zero=>
  obtain rfl:j=nl:=by omega
  have hd:_=D:=OC;rw [ak0 (by rw [zT.out];exact ab1 _)] at hd
  have hd0:D=0:=by rw [<-hd];simp [Cy.y8]
  subst hd0;have he:=HE2.out;rw [ab6 (by simp)] at he
  obtain ⟨PW,J9⟩: ∃x,Cy.dV [] p.props=x:=⟨_,rfl⟩;have kH:=ah (HS2.out.below HB.out)
  have OE:Kp base w2 wr:=Kp.of_below HB.out HS2.out.lt;have qZ:=ah (aC.out.trans OE)
  have acX:=J8.out.kp OE (by decide) (by decide) (by decide)
  have acY:=ah (oH GX.out OE (by decide) (by decide) (by decide))
  have Vg:=HKB2.out.below HB.out HKB2.out.lt
  have hmp:=aao base Ap pl cp p.props wr acX iP.out (by rw [<-iP.out];exact dL.out.pl) dL.out.ps kH.out.lt
  rw [J9] at hmp he;have tH:=ah hmp;have GK:=ah he;have Vh:=ah Vg
  obtain ⟨d0,d1,d2,d3,d4⟩:=cells5 Vg
  clear hd he J9 OE acX Vg hmp HE2 HKB2 GX J8 HS2 aC OC hj;go_wp2_with fail
  refine tH.out.mono ?_;rintro e w7 ⟨v,rfl,hb7,hy7,qg⟩
  obtain ⟨ps',Av,vn,vc,hps,rfl,hpo⟩: ∃(ps':List Gr.P) (Av:Option Addr) (vn vc:Nat),(PW=0->ps'=p.props)/\v= .slice Av vn vc/\aV 61 w7 base (.slice Av vn vc) ps':=by
   by_cases h0:PW=0
   ·have ho:=hy7 h0
    obtain ⟨A',c',rfl⟩:=ho.form;exact ⟨p.props,A',_,c',fun _=>rfl,rfl,ho⟩
   rw [qg h0];exact ⟨[],none,0,0,fun h=>absurd h h0,rfl,aV.nil _ _ _⟩
  have Vj:Kp base wr w7:=Kp.of_below hb7 kH.out.lt;have hs7:=kH.out.below hb7
  have Ko:=Vh.out.below hb7 Vh.out.lt
  have ac0:=oH acY.out Vj (by decide) (by decide) (by decide)
  have hbd:Below w7.heap.size w7 (w7.drewN 1):=(Below.refl _ w7).drew
  have Ef:=hs7.below hbd;obtain ⟨sn,sr,ln,lr,h1,h2,h3,h4,h5,h6,h7⟩:=Ef.ex
  obtain ⟨Nn,Nc,rfl⟩:=aJ h4;obtain ⟨Rn,Rc,rfl⟩:=aJ h7
  obtain ⟨gn,hgn⟩: ∃x,g.nodes.length=x:=⟨_,rfl⟩;have hkd:=Kp.of_below hbd hs7.lt
  have Ae:=ah ((qZ.out.trans Vj).trans hkd)
  have hno:jA (w7.drewN 1) base (⟨n,p.names,ps'⟩, [.int .i64 n, .slice An j cn, .slice Av vn vc]):=⟨_,_,rfl,by rw [show p.names.length=j from zT.out];exact oH ac0 hkd (by decide) (by decide) (by decide),hpo.kp hkd (by decide) (by decide) (by decide)⟩
  have kW:=ah (fun (w9:World) (v':Value) (ho:w9.ownsRow base 59 3 v' (g.nodes.length+1) (ln.flatMap Prod.snd ++ [.int .i64 n, .slice An j cn, .slice Av vn vc])) (hg:(w7.drewN 1).grownBy w9 (Value.ownBlock (.slice Nn g.nodes.length Nc)))=>fF.node Ef h1 h2 h3 h4 h5 h6 h7 hno hg ho)
  have Kq:=ah (fun (w9:World) (hg:(w7.drewN 1).grownBy w9 (Value.ownBlock (.slice Nn g.nodes.length Nc)))=>h1.grown hg (Ny h4 h1 (by decide)))
  have Vk:gn<536870912:=by have:=jE.out;omega
  rw [hgn] at h1 h4 kW Kq
  have H4:=ah (show (w7.drewN 1).ownsRow base 59 3 (.slice Nn gn Nc) gn (ln.flatMap Prod.snd) from h4)
  have anD:=ah hgn;have nX:=ah hps;have Vl:base<=(w7.drewN 1).heap.size:=hs7.lt
  obtain ⟨c0,c1,c2,c3⟩:=cells4 (show aj w7 mk _ _ from h1)
  have c0a:(w7.alloc (.cells #[.int .i64 n, .slice An j cn, .slice Av vn vc] 59)).cell? ⟨mk,0,none⟩=some (.slice Nn gn Nc):=(aj.alloc (show aj w7 mk _ _ from h1) _).cell 0
  clear d0 d1 d2 d3 d4;obtain ⟨d0,d1,d2,d3,d4⟩:=cells5 Ko
  clear hy7 qg hb7 Vj hs7 Ko ac0 h1 h2 h3 h4 h5 h6 h7 hgn hno hpo hps hbd Ef hkd acY Vh kH qZ tH
  go_wp2_with fail
  go_region_law (first |(refine FQ rfl (.tmp 65) (.tmp 71) 36 59 (.agg #[.int .i64 0, .slice none 0 0, .slice none 0 0]) 3 56 Tryz.underlying36 aar rfl (by decide) (by decide) rfl base (.slice Nn gn Nc) gn (ln.flatMap Prod.snd) (w7.drewN 1) rfl H4.out [.int .i64 n, .slice An j cn, .slice Av vn vc] _ rfl rfl (by simp [Value.oneCell']) rfl Vk Vl ?_;intro v9 w9 aN bC dO aF;obtain ⟨A9,c9,rfl⟩:=aJ aN;have Eh:=Kq.out w9 bC;have Vm:=Eh.cell 0;have Vo:=Eh.frozen 0) | fail)
  all_goals
   obtain ⟨hms,zZ⟩:=kW.out w9 (.slice A9 (gn+1) c9) aN bC;have Vp:=ah hms
   have Aa:=ah (Ae.out.trans zZ)
   have hx:R=(⟨g.nodes ++ [⟨n,p.names,p.props⟩],g.au⟩,PW):=GK.out.symm;subst hx
   clear hms zZ aN bC dO aF Eh Vm Vo c0 c1 c2 c3 c0a d0 d1 d2 d3 d4 GK;go_wp2;go_ret
   exact ⟨rfl,Aa.out,fun h=>by have h1:=Vp.out;rw [nX.out h] at h1;simpa using h1⟩
end Go.Proofs.YtoofbflplhbpbaaGreatDoor
namespace Go.Proofs.YtoofbflplhbpbaaGreatDoor
open Go.RowKit
theorem aie {base mk m1 m2:Nat} {g:Gr.G} {p:Cy.aZ} {cs:List Value} {w:World} (h:fF base mk m1 m2 g (g.nodes.map Gr.N.id) (g.au.map Gr.R.id) w) (hp:mM w base (p,cs)) (hs:Cy.qH p) (hrel:p.rel=true) (hn:g.nodes.length<=16777216) (hr:g.au.length<=16777216)
  (hL: ∀V,Below base w V->Laid V):Calls Tryz.prog 50 #[.pointer (some ⟨mk,0,none⟩), .agg cs.toArray] w (Nz base mk m1 m2 (Cy.Bj g p) w):=by
 obtain ⟨R,hR⟩: ∃R,Cy.Bj g p=R:=⟨_,rfl⟩;rw [hR];unfold Cy.Bj at hR
 obtain ⟨x,hx⟩:=hs.one hrel;obtain ⟨An,cn,Ap,cp,rfl,hnm,hpp⟩:=hp.form;rw [hx] at hnm
 rw [hx] at hR;rw [show p.names.length=1 by rw [hx];rfl]
 obtain ⟨pl,hpl⟩: ∃n,p.props.length=n:=⟨_,rfl⟩;rw [hpl] at hpp⊢
 obtain ⟨zf,uT⟩: ∃z:ByteArray,(⟨p.first.toArray⟩:ByteArray)=z:=⟨_,rfl⟩
 obtain ⟨zw,hzw⟩: ∃z:ByteArray,(⟨p.word.toArray⟩:ByteArray)=z:=⟨_,rfl⟩
 obtain ⟨zo,Ed⟩: ∃z:ByteArray,(⟨p.other.toArray⟩:ByteArray)=z:=⟨_,rfl⟩
 obtain ⟨zx,hzx⟩: ∃z:ByteArray,(⟨x.toArray⟩:ByteArray)=z:=⟨_,rfl⟩
 have e1:ST p.first= .string zf:=by rw [<-uT];rfl
 have e2:ST p.word= .string zw:=by rw [<-hzw];rfl
 have e3:ST p.other= .string zo:=by rw [<-Ed];rfl
 have e4:ST x= .string zx:=by rw [<-hzx];rfl
 rw [e1,e2,e3];have J4:zf.data.toList=p.first:=by rw [<-uT]
 have ac1:zw.data.toList=p.word:=by rw [<-hzw]
 have ac2:zo.data.toList=p.other:=by rw [<-Ed]
 have OB:zf.size<=16777216:=by rw [<-uT,bf];exact hs.first
 have hzws:zw.size<=16777216:=by rw [<-hzw,bf];exact hs.word
 have ac3:zo.size<=16777216:=by rw [<-Ed,bf];exact hs.other
 have ac4:zx.size<=16777216:=by rw [<-hzx,bf];exact hs.ns x (by rw [hx];simp)
 obtain ⟨WN,aX⟩: ∃W,w.alloc (.cells #[.string zf, .string zw, .string zo, .slice An 1 cn, .slice Ap pl cp] 102)=W:=⟨_,rfl⟩
 have hbn:Below w.heap.size w WN:=by rw [<-aX];exact (Below.refl _ _).alloc (ab1 _) _
 obtain ⟨pb,hpb⟩: ∃x,w.heap.size=x:=⟨_,rfl⟩
 have hk0:aj WN pb 102 #[.string zf, .string zw, .string zo, .slice An 1 cn, .slice Ap pl cp]:=by rw [<-aX,<-hpb];exact aj.new _ _ _
 have yC:Kp base w WN:=Kp.of_below hbn h.lt
 have he:=aap zf WN (h.below hbn) OB hn (hL WN yC.bel);rw [J4] at he
 obtain ⟨o1,Vq,ho1⟩: ∃a b,Cy.endP g p.first=(a,b):=⟨_,_,rfl⟩;rw [ho1] at he hR
 have HI:=ah he;have HR:=ah hR;have bU:=ah (h.below hbn);have Cb:=ah yC;have HKB:=ah hk0
 have sV:=ah (oH hnm yC (by decide) (by decide) (by decide))
 have uU:=ah (hpp.kp yC (by decide) (by decide) (by decide))
 have eG:=ah aX;have dL:=ah hs;have iP:=ah hpl;have jE:=ah hn;have Gt:=ah hr
 have jC:=ah hL;have HZW:=ah ac1;have HZO:=ah ac2;have sW:=ah hzx;have HEX:=ah e4
 have OG:=ah hzws;have HOS:=ah ac3;have HXS:=ah ac4
 clear h hp hs hn hr hL hR hrel hx hnm hpp hpl uT hzw Ed hzx e1 e2 e3 e4 J4 ac1 ac2 OB hzws ac3 ac4 aX hbn hk0 he ho1 yC
 go_enter Tryz.func50,Tryz.ntmps50
 go_upto_region 1 with fail
 rw [eG.out]
 try rw [hpb]
 clear hpb eG;obtain ⟨d0,d1,d2,d3,d4⟩:=cells5 HKB.out;go_wp2_with fail
 refine HI.out.mono ?_;rintro e w1 ⟨rfl,hb⟩;have hkp:=Kp.of_below hb bU.out.lt
 have aT:=ah (Cb.out.trans hkp);have dP:=ah (bU.out.below hb)
 have HKB1:=ah (HKB.out.below hb HKB.out.lt)
 have J5:=ah (oH sV.out hkp (by decide) (by decide) (by decide))
 have J6:=ah (uU.out.kp hkp (by decide) (by decide) (by decide))
 clear hb hkp bU HKB sV uU d0 d1 d2 d3 d4 Cb;by_cases ho1:Vq=0
 case neg=>
  have t1:((Vq:Int) !=0)=true:=by rw [acV];omega
  have hx:R=(g,Vq):=by rw [<-HR.out,ab7 ho1]
  subst hx;have mY:=ah ho1;clear ho1;go_wp2;go_ret
  exact ⟨rfl,aT.out,fun h=>absurd h mY.out⟩
 subst ho1;have he:=HR.out;rw [ab6 (by simp)] at he
 have hid:=Sm zw 114 2048 w1 (by have:=OG.out;omega) ⟨by decide,by decide⟩ (jC.out w1 aT.out.bel)
 rw [show zw.data.toList=p.word from HZW.out] at hid
 obtain ⟨oi,hoi⟩: ∃oi,Cy.mX 114 2048 p.word=oi:=⟨_,rfl⟩;rw [hoi] at hid he;have HR2:=ah he
 have GZ:=ah hid;clear he hid hoi HR HI;obtain ⟨d0,d1,d2,d3,d4⟩:=cells5 HKB1.out
 go_wp2_with fail;refine GZ.out.mono ?_;rintro e w2 ⟨n,b,rfl,hb,hm⟩
 have hkp:=Kp.of_below hb dP.out.lt;have aC:=ah (aT.out.trans hkp)
 have HS2:=ah (dP.out.below hb);have HKB2:=ah (HKB1.out.below hb HKB1.out.lt)
 have GX:=ah (oH J5.out hkp (by decide) (by decide) (by decide))
 have J8:=ah (J6.out.kp hkp (by decide) (by decide) (by decide))
 clear hb hkp dP HKB1 J5 J6 d0 d1 d2 d3 d4 aT;cases oi with
 | none=>
  subst hm;have he:=HR2.out;subst he;go_wp2;go_ret
  exact ⟨rfl,aC.out,fun h=>absurd h (show (62:Nat)≠0 by decide)⟩
 | some i=>
 obtain ⟨rfl,rfl,hi,hi0⟩:=hm;have he:=HR2.out
 try simp only at he
 have HE:=ah he;have uS:=ah hi;obtain ⟨c2,c3⟩:=HS2.out.cells
 have hlk:=HS2.out.n2.look (t:=97) Tryz.underlying97 hi
 obtain ⟨N,hN⟩: ∃N,(g.au.map Gr.R.id).count n=N:=⟨_,rfl⟩
 have qj:N<=g.au.length:=by rw [<-hN];exact ab5 akp (by rw [ace];exact ab1 _)
 have hNi:(N:Int)<=16777216:=by have:=Gt.out;omega
 rw [hN] at hlk;have jc:=ah hN;clear he HR2 hi hi0 hN qj
 go_wp2_with (at_mapUpdate;refine Si _ rfl HS2.out.n2 (by rw [ace];have:=Gt.out;omega) (.tmp 32) (.tmp 33) (.tmp 35) 97 rfl Tryz.underlying97 rfl n uS.out rfl (by rw [jc.out];rfl) ?_)
 intro w3 hc3 hg3;have hkp:=fF.Vf HS2.out.n2 HS2.out.lt HS2.out.bs.2.2.1 hg3
 have bJ:=ah (aC.out.trans hkp);have bK:=ah (HS2.out.alC hc3 hg3)
 have J7:some pb≠some m2:=fun e=>by cases e;exact HS2.out.n2.isMap _ _ _ HKB2.out
 have HKB3:=ah (HKB2.out.grown hg3 J7)
 have ac5:=ah (oH GX.out hkp (by decide) (by decide) (by decide))
 have ac6:=ah (J8.out.kp hkp (by decide) (by decide) (by decide))
 clear hc3 hg3 hkp J7 c2 c3 hlk HS2 HKB2 GX J8 aC;obtain ⟨c2,c3⟩:=bK.out.cells
 have hlk:=bK.out.n2.look (t:=97) Tryz.underlying97 uS.out;rw [amC,jc.out,al5] at hlk
 by_cases hN0:N=0
 case neg=>
  have t1:decide ((1:Int)<((N+1:Nat):Int))=true:=abW (by omega)
  have hx:R=(g,7):=by rw [<-HE.out,ab7 (akN.1 (by rw [jc.out];omega))]
  subst hx;go_wp2;go_ret;exact ⟨rfl,bJ.out,fun h=>absurd h (show (7:Nat)≠0 by decide)⟩
 subst hN0;have t1:decide ((1:Int)<((0+1:Nat):Int))=false:=abX (by omega)
 have he:=HE.out;rw [ab6 (fun h=>by have:=akN.2 h;rw [jc.out] at this;omega)] at he
 rw [show ([x]:List (List UInt8)).headD []=x from rfl] at he
 obtain ⟨GB,Ad⟩: ∃b,Gr.dw x=b:=⟨_,rfl⟩
 obtain ⟨lb,lo,x',hAn,pU,hx',hcx⟩:=(Reads.je ac5.out).cell (show 0<([x]:List (List UInt8)).length from Nat.one_pos)
 cases hx';subst hAn;rw [show ST x= .string zx from HEX.out,akz] at hcx
 have hgn:=FM zx w3 (by have:=HXS.out;omega)
 rw [show zx.data.toList=x by rw [<-sW.out],Ad] at hgn
 rw [Ad] at he;have HE2:=ah he;have Cc:=ah hgn;have HCX:=ah hcx
 obtain ⟨d0,d1,d2,d3,d4⟩:=cells5 HKB3.out;clear he hgn Ad HE;go_wp2_with fail
 refine Cc.out.mono ?_;rintro e w4 ⟨rfl,rfl⟩;clear t1 hlk;cases GB with
 | false=>
  have hx:R=(g,60):=by rw [<-HE2.out,ab7 rfl]
  subst hx;go_wp2;go_ret;exact ⟨rfl,bJ.out,fun h=>absurd h (show (60:Nat)≠0 by decide)⟩
 | true=>
 have he:=HE2.out;rw [ab6 (by simp)] at he
 obtain ⟨PW,J9⟩: ∃x,Cy.dV [] p.props=x:=⟨_,rfl⟩
 have hmp:=aao base Ap pl cp p.props w3 ac6.out iP.out (by rw [<-iP.out];exact dL.out.pl) dL.out.ps bK.out.lt
 rw [J9] at hmp he;have tH:=ah hmp;have fJ:=ah he;clear he hmp J9 HE2 Cc;go_wp2_with fail
 refine tH.out.mono ?_;rintro e w5 ⟨v,rfl,hb5,Vr,yD⟩;have hkp:=Kp.of_below hb5 bK.out.lt
 have dY:=ah (bJ.out.trans hkp);by_cases hw0:PW=0
 case neg=>
  have t1:((PW:Int) !=0)=true:=by rw [acV];omega
  have hx:R=(g,PW):=by rw [<-fJ.out,ab7 hw0]
  subst hx;have HW0:=ah hw0;clear hw0 Vr yD hb5 hkp;go_wp2;go_ret
  exact ⟨rfl,dY.out,fun h=>absurd h HW0.out⟩
 subst hw0;have hpo:=Vr rfl;obtain ⟨Av,vc,rfl⟩:=hpo.form
 rw [show p.props.length=pl from iP.out] at hpo⊢
 have he:=fJ.out;rw [ab6 (by simp)] at he
 have iO:=ah (bK.out.below hb5);have OH:=ah (HKB3.out.below hb5 HKB3.out.lt)
 have ac8:=(hb5.cell (p:=⟨lb,lo,none⟩) pU).trans HCX.out;have alH:=ah hpo
 have hen:=aap zo w5 iO.out HOS.out jE.out (jC.out w5 dY.out.bel)
 rw [show zo.data.toList=p.other from HZO.out] at hen
 obtain ⟨o2,o2e,ho2⟩: ∃a b,Cy.endP g p.other=(a,b):=⟨_,_,rfl⟩;rw [ho2] at hen he
 have uV:=ah hen;have nV:=ah he;have ac9:=ah ac8
 have HPB:=ah (show lb<w5.heap.size from adf pU hb5.size)
 clear hpo he hen ho2 ac8 Vr yD hb5 hkp c2 c3 d0 d1 d2 d3 d4 hcx pU HCX bK HKB3 ac5 ac6 bJ tH fJ
 obtain ⟨d0,d1,d2,d3,d4⟩:=cells5 OH.out;go_wp2_with fail;refine uV.out.mono ?_
 rintro e w7 ⟨rfl,hb7⟩;have hkp:=Kp.of_below hb7 iO.out.lt;have hs7:=iO.out.below hb7
 have Ko:=OH.out.below hb7 OH.out.lt
 have hcx:=(hb7.cell (p:=⟨lb,lo,none⟩) HPB.out).trans ac9.out
 have hbd:Below w7.heap.size w7 (w7.drewN 1):=(Below.refl _ w7).drew
 have Ef:=hs7.below hbd;obtain ⟨sn,sr,ln,lr,h1,h2,h3,h4,h5,h6,h7⟩:=Ef.ex
 obtain ⟨Nn,Nc,rfl⟩:=aJ h4;obtain ⟨Rn,Rc,rfl⟩:=aJ h7
 obtain ⟨gn,hgn⟩: ∃x,g.au.length=x:=⟨_,rfl⟩;have hkd:=Kp.of_below hbd hs7.lt
 have Ae:=ah ((dY.out.trans hkp).trans hkd)
 have hno:jB (w7.drewN 1) base (⟨n,x,o1,o2,p.props⟩, [.int .i64 n, .string zx, .int .i64 o1, .int .i64 o2, .slice Av pl vc]):=⟨_,by rw [<-HEX.out],(alH.out.kp hkp (by decide) (by decide) (by decide)).kp hkd (by decide) (by decide) (by decide)⟩
 have kW:=ah (fun (w9:World) (v':Value) (ho:w9.ownsRow base 63 5 v' (g.au.length+1) (lr.flatMap Prod.snd ++ [.int .i64 n, .string zx, .int .i64 o1, .int .i64 o2, .slice Av pl vc])) (hg:(w7.drewN 1).grownBy w9 (Value.ownBlock (.slice Rn g.au.length Rc)))=>fF.rel Ef h1 h2 h3 h4 h5 h6 h7 hno hg ho)
 have Kq:=ah (fun (w9:World) (hg:(w7.drewN 1).grownBy w9 (Value.ownBlock (.slice Rn g.au.length Rc)))=>h1.grown hg (Ny h7 h1 (by decide)))
 have Vk:gn<536870912:=by have:=Gt.out;omega
 rw [hgn] at h1 h7 kW Kq
 have H4:=ah (show (w7.drewN 1).ownsRow base 63 5 (.slice Rn gn Rc) gn (lr.flatMap Prod.snd) from h7)
 have Vl:base<=(w7.drewN 1).heap.size:=hs7.lt
 obtain ⟨c0,c1,c2,c3⟩:=cells4 (show aj w7 mk _ _ from h1)
 have c0a:(w7.alloc (.cells #[.int .i64 n, .string zx, .int .i64 o1, .int .i64 o2, .slice Av pl vc] 63)).cell? ⟨mk,1,none⟩=some (.slice Rn gn Rc):=(aj.alloc (show aj w7 mk _ _ from h1) _).cell 1
 clear d0 d1 d2 d3 d4;obtain ⟨d0,d1,d2,d3,d4⟩:=cells5 Ko
 clear hkp hs7 Ko hb7 h1 h2 h3 h4 h5 h6 h7 hgn hno hbd Ef hkd iO OH dY ac9 HPB uV
 go_wp2_with fail
 go_region_law (first |(refine FQ rfl (.tmp 70) (.tmp 80) 37 63 (.agg #[.int .i64 0, .string ⟨#[]⟩, .int .i64 0, .int .i64 0, .slice none 0 0]) 5 64 Tryz.underlying37 aas rfl (by decide) (by decide) rfl base (.slice Rn gn Rc) gn (lr.flatMap Prod.snd) (w7.drewN 1) rfl H4.out [.int .i64 n, .string zx, .int .i64 o1, .int .i64 o2, .slice Av pl vc] _ rfl rfl (by simp [Value.oneCell']) rfl Vk Vl ?_;intro v9 w9 aN bC dO aF;obtain ⟨A9,c9,rfl⟩:=aJ aN;have Eh:=Kq.out w9 bC;have Vm:=Eh.cell 1;have Vo:=Eh.frozen 1) | fail)
 all_goals
  obtain ⟨hms,zZ⟩:=kW.out w9 (.slice A9 (gn+1) c9) aN bC;have Vp:=ah hms
  have Aa:=ah (Ae.out.trans zZ)
  have hx:R=(⟨g.nodes,g.au ++ [⟨n,x,o1,o2,p.props⟩]⟩,o2e):=nV.out.symm;subst hx
  clear hms zZ aN bC dO aF Eh Vm Vo c0 c1 c2 c3 c0a d0 d1 d2 d3 d4 hcx nV;go_wp2;go_ret
  exact ⟨rfl,Aa.out,fun h=>by have h1:=Vp.out;simpa using h1⟩
end Go.Proofs.YtoofbflplhbpbaaGreatDoor
namespace Go.Proofs.YtoofbflplhbpbaaGreatDoor.fG
open Go
variable {α:Type} {le:α->α->Bool}
structure Tot (le:α->α->Bool):Prop where
 trans: ∀{a b c},le a b=true->le b c=true->le a c=true
 total: ∀{a b},le a b=false->le b a=true
abbrev bg (le:α->α->Bool) (l:List α):Prop:=l.Pairwise (fun a b=>le a b=true)
theorem Sr {A:List α} (_hT:Tot le) (h:bg le A) {i:Nat} {x:α} (hx:A[i]?=some x) {z:α} (hz:z∈A.take (i+1)):z=x\/le z x=true:=by
 obtain ⟨j,hj,rfl⟩:=ad2 hz;rw [amA];rw [acW] at hj;obtain ⟨hi,hx⟩:=acy.1 hx
 rcases akZ j i with hlt | hge
 ·right
  rw [<-hx];exact alu.1 h j i (by omega) hi hlt
 left
 have:j=i:=by omega
 subst this;exact hx
theorem Sv {A:List α} (_hT:Tot le) (h:bg le A) {i:Nat} {x:α} (hx:A[i]?=some x) {z:α} (hz:z∈A.drop i):z=x\/le x z=true:=by
 obtain ⟨j,hj,rfl⟩:=ad2 hz;rw [List.getElem_drop];rw [acM] at hj;obtain ⟨hi,hx⟩:=acy.1 hx
 rcases aed j with rfl | hp
 ·left;simpa using hx
 right
 rw [<-hx];exact alu.1 h i (i+j) hi (by omega) (by omega)
theorem le_refl (hT:Tot le) (a:α):le a a=true:=by
 cases h:le a a with
 | true=>rfl
 | false=>have h':=hT.total h;rw [h] at h';exact h'
theorem FU {a b:α} (hT:Tot le) (h:a=b\/le a b=true):le a b=true:=h.elim (fun e=>e▸le_refl hT _) id
theorem Sz {A:List α} (h:bg le A) (i:Nat): ∀x∈A.take i,∀y∈A.drop i,le x y=true:=by
 have h':=h;rw [<-adE i A,bg,alK] at h';exact h'.2.2
theorem aat {B:List α} {e:α} (hT:Tot le) (hB:bg le B) {i:Nat} (h1:i=0\/ ∃x,B[i - 1]?=some x/\le x e=true) (h2:i=B.length\/ ∃y,B[i]?=some y/\le e y=true):bg le (B.take i ++ e :: B.drop i):=by
 have hc:=Sz hB i;have hs:=hB;rw [<-adE i B,bg,alK] at hs;obtain ⟨ha,hb,-⟩:=hs;rw [bg,alK]
 refine ⟨ha,List.pairwise_cons.2 ⟨fun x hx=> ?_,hb⟩,fun x hx y hy=> ?_⟩
 ·rcases h2 with rfl |⟨y,hy,hey⟩
  ·simp at hx
  exact hT.trans hey (FU hT ((Sv hT hB hy hx).imp Eq.symm id))
 rcases adK.1 hy with rfl | hy
 ·rcases h1 with rfl |⟨z,hz,hze⟩
  ·simp at hx
  rcases aed i with rfl | hp
  ·simp at hx
  refine hT.trans (FU hT (Sr hT hB hz (z:=x) ?_)) hze
  rwa [aoI hp]
 exact hc x hx y hy
theorem aau {B:List α} {e:α} (i:Nat):(B.take i ++ e :: B.drop i).Perm (e :: B):=by
 have:=List.perm_middle (a:=e) (l₁:=B.take i) (l₂:=B.drop i)
 rwa [adE] at this
theorem aif {A B S1 S2:List α} (hT:Tot le) (hA:bg le A) (hB:bg le B) {i j:Nat}
  (h1:i=0\/j=B.length\/ ∃x y,A[i - 1]?=some x/\B[j]?=some y/\le x y=true)
  (h2:i=A.length\/j=0\/ ∃x y,B[j - 1]?=some x/\A[i]?=some y/\le x y=true)
  (p1:S1.Perm (A.take i ++ B.take j)) (s1:bg le S1) (p2:S2.Perm (A.drop i ++ B.drop j)) (s2:bg le S2):bg le (S1 ++ S2)/\(S1 ++ S2).Perm (A ++ B):=by
 constructor
 ·rw [bg,alK]
  refine ⟨s1,s2,fun x hx y hy=> ?_⟩
  have hx:=p1.mem_iff.1 hx;have hy:=p2.mem_iff.1 hy
  rcases acU.1 hx with hx | hx
  ·rcases acU.1 hy with hy | hy
   ·exact Sz hA i x hx y hy
   rcases h1 with rfl | rfl |⟨u,v,hu,hv,huv⟩
   ·simp at hx
   ·simp at hy
   rcases aed i with rfl | hp
   ·simp at hx
   refine hT.trans (FU hT (Sr hT hA hu (z:=x) ?_)) (hT.trans huv (FU hT ((Sv hT hB hv hy).imp Eq.symm id)))
   rwa [aoI hp]
  rcases acU.1 hy with hy | hy
  ·rcases h2 with rfl | rfl |⟨u,v,hu,hv,huv⟩
   ·simp at hy
   ·simp at hx
   rcases aed j with rfl | hp
   ·simp at hx
   refine hT.trans (FU hT (Sr hT hB hu (z:=x) ?_)) (hT.trans huv (FU hT ((Sv hT hA hv hy).imp Eq.symm id)))
   rwa [aoI hp]
  exact Sz hB j x hx y hy
 refine (p1.append p2).trans ?_
 have e1:A ++ B=(A.take i ++ A.drop i) ++(B.take j ++ B.drop j):=by rw [adE,adE]
 rw [e1,acF,acF];refine List.Perm.append_left _ ?_;rw [<-acF,<-acF]
 exact List.Perm.append_right _ List.perm_append_comm
end Go.Proofs.YtoofbflplhbpbaaGreatDoor.fG
