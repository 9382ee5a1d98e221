/- Contracts and plain laws,part 45. -/
import Derived.Test.YtoofbflplhbpbaaGreatDoorUO43
set_option maxHeartbeats 64000000
set_option maxRecDepth 1000000
set_option linter.all false
namespace Go.Proofs.YtoofbflplhbpbaaGreatDoor
open Go.RowKit
structure Hole (M N:Nat) (W w:World):Prop where
 os:w.os=W.os
 tape:w.tape=W.tape
 output:w.output=W.output
 size:W.heap.size<=w.heap.size
 block: ∀k,k<W.heap.size->(k<M\/N<=k)->w.heap[k]?=W.heap[k]?
theorem Hole.refl (M N:Nat) (w:World):Hole M N w w:=⟨rfl,rfl,rfl,ab1 _,fun _ _ _=>rfl⟩
section
variable {M N:Nat} {W w w':World}
theorem Hole.below (h:Hole M N W w) (hM:M<=W.heap.size):Below M W w:=⟨h.os,h.tape,h.output,h.size,fun k hk=>h.block k (by omega) (.inl hk)⟩
theorem Hole.grown {row:Option Nat} (h:Hole M N W w) (k:w.grownBy w' row) (hr: ∀g,row=some g->(M<=g/\g<N)\/W.heap.size<=g):Hole M N W w':=
 ⟨k.os.trans h.os,k.tape.trans h.tape,k.output.trans h.output,ab5 h.size k.size,fun i hi hn=>(k.block i (adf hi h.size) (fun e=>by have:=hr i e.symm;omega)).trans (h.block i hi hn)⟩
theorem Hole.alloc (h:Hole M N W w) (o:Obj):Hole M N W (w.alloc o):=h.grown (vH (fO w none) o) (fun g e=>by cases e)
theorem Hole.drew (h:Hole M N W w):Hole M N W w.drew:=⟨h.os,h.tape,h.output,h.size,h.block⟩
theorem Hole.set (h:Hole M N W w) {p:Addr} (hp:M<=p.block/\p.block<N) (u:Value):Hole M N W (w.setCell p u):=
 h.grown (Fh (fO w (some p.block)) (.inl rfl) u) (fun g e=>by cases e;exact .inl hp)
theorem Hole.own {B e sz n:Nat} {v:Value} {xs:List Value} (h:Hole M N W w) (ho:W.ownsRow B e sz v n xs) (hB:N<=B):w.ownsRow B e sz v n xs:=by
 refine ⟨ho.1, ?_⟩
 rcases ho.2 with hn |⟨g,cap,cur,rfl,hg,hc,rest⟩
 ·exact .inl hn
 exact .inr ⟨g,cap,cur,rfl,hg,(h.block g (acI.1 hc).1 (.inr (by omega))).trans hc,rest⟩
theorem Hole.blk {g:Nat} {t:TypeId} {cs:Array Value} (h:Hole M N W w) (hb:aj W g t cs) (hg:N<=g):aj w g t cs:=(h.block g hb.lt (.inr hg)).trans hb
end
def Wr (t:TypeId) (k:Nat):Prop:=t=9\/(t=59/\k % 3=0)\/(t=61/\k % 6=0)\/(t=63/\k % 5=1)
structure iV (M N:Nat) (W w:World):Prop where
 hole:Hole M N W w
 blk: ∀g t cs,aj W g t cs-> ∃cs',aj w g t cs'/\cs'.size=cs.size/\ ∀k,¬Wr t k->cs'[k]?=cs[k]?
section
variable {M N g k:Nat} {W w:World} {t:TypeId} {cs:Array Value}
theorem iV.refl (M N:Nat) (W:World):iV M N W W:=⟨Hole.refl _ _ _,fun _ _ cs h=>⟨cs,h,rfl,fun _ _=>rfl⟩⟩
theorem iV.cell (h:iV M N W w) (hb:aj W g t cs) (hk: ¬Wr t k):w.cell? ⟨g,k,none⟩=cs[k]?:=by
 obtain ⟨cs',h1,-,h2⟩:=h.blk g t cs hb;rw [h1.cell,h2 k hk]
theorem iV.store (h:iV M N W w) (hb:aj W g t cs) (hk:Wr t k) (hl:k<cs.size) (hg:M<=g/\g<N):
  (∃u,w.cell? ⟨g,k,none⟩=some u)/\w.frozen? ⟨g,k,none⟩=false/\ ∀u,iV M N W (w.setCell ⟨g,k,none⟩ u):=by
 obtain ⟨cs',h1,h2,h3⟩:=h.blk g t cs hb
 refine ⟨⟨cs'[k]'(by omega),by rw [h1.cell,aeF (by omega)]⟩,h1.frozen k,fun u=>⟨h.hole.set hg u,fun g' t' c' hb'=> ?_⟩⟩
 by_cases e:g'=g
 ·subst e
  have e2:=hb.symm.trans hb'
  injection e2 with e2
  injection e2 with e3 e4
  subst e3 e4;refine ⟨_,h1.aS k u,by simpa using h2,fun j hj=> ?_⟩
  rw [ani (fun e:k=j=>hj (e▸hk)),h3 j hj]
 obtain ⟨d,d1,d2,d3⟩:=h.blk g' t' c' hb';exact ⟨d,d1.far (p:=⟨g,k,none⟩) e u,d2,d3⟩
theorem iV.drewN (h:iV M N W w) (n:Nat):iV M N W (w.drewN n):=⟨⟨h.hole.os,h.hole.tape,h.hole.output,h.hole.size,h.hole.block⟩,h.blk⟩
theorem iV.whole (h:iV M N W w) (hb:aj W g t cs) (hk: ∀k,¬Wr t k):aj w g t cs:=by
 obtain ⟨cs',h1,-,h2⟩:=h.blk g t cs hb
 rwa [show cs'=cs from Array.ext_getElem? fun k=>h2 k (hk k)] at h1
end
theorem NV {W:World} {B e k n c t:Nat} {A:Option Addr} {xs:List Value} (h:W.ownsRow B e k (.slice A n c) n xs) (ht:t<n*k):
  ∃g cs,A=some ⟨g,0,none⟩/\B<=g/\g<W.heap.size/\aj W g e cs/\n*k<=cs.size/\ ∀j,j<n*k->cs[j]?=xs[j]?:=by
 rcases h.2 with ⟨_,hn⟩ |⟨g,cap,cur,he,hg,hc,h1,h2,h3,h4⟩
 ·subst hn;simp at ht
 injection he with e1 e2 e3
 subst e1 e3;have hb:aj W g e cur:=hc;have hle:n*k<=cur.size:=by rw [h3];exact akh k h1
 exact ⟨g,cur,rfl,hg,hb.lt,hb,hle,fun j hj=>by rw [<-h4,ame hj,ak4]⟩
def F7 (M N:Nat) (W:World) (A:Option Addr) (n:Nat):Prop:= ∀k,k<n-> ∃g cs,A=some ⟨g,0,none⟩/\(M<=g/\g<N)/\aj W g 9 cs/\k<cs.size
def F8 (M N:Nat) (W:World) (A:Option Addr) (n:Nat):Prop:= ∀k,k<n-> ∃g cs At tn ct,A=some ⟨g,0,none⟩/\(M<=g/\g<N)/\aj W g 61 cs/\k*6<cs.size/\cs[k*6+5]?=some (.slice At tn ct)/\tn<=1073741824/\F7 M N W At tn
structure XG (M N:Nat) (W:World) (An:Option Addr) (nn:Nat) (Ar:Option Addr) (rn:Nat):Prop where
 node: ∀i,i<nn-> ∃g cs Al ln cl Ap pn cp,An=some ⟨g,0,none⟩/\(M<=g/\g<N)/\aj W g 59 cs/\i*3<cs.size/\cs[i*3+1]?=some (.slice Al ln cl)/\cs[i*3+2]?=some (.slice Ap pn cp)/\ln<=1073741824/\pn<=1073741824/\F7 M N W Al ln/\F8 M N W Ap pn
 rel: ∀i,i<rn-> ∃g cs Ap pn cp,Ar=some ⟨g,0,none⟩/\(M<=g/\g<N)/\aj W g 63 cs/\i*5+1<cs.size/\cs[i*5+4]?=some (.slice Ap pn cp)/\pn<=1073741824/\F8 M N W Ap pn
section
variable {M N:Nat} {X W:World} (hN:X.heap.size<=N) (hb:Below X.heap.size X W)
include hN hb
theorem F7.of {A:Option Addr} {n c:Nat} {xs:List Value} (h:X.ownsRow M 9 1 (.slice A n c) n xs):F7 M N W A n:=fun k hk=>by
 obtain ⟨g,cs,e,h1,h2,h3,h4,-⟩:=NV h (t:=k) (by omega)
 exact ⟨g,cs,e,⟨h1,by omega⟩,h3.below hb h2,by omega⟩
theorem F8.of {A:Option Addr} {n c:Nat} {ps:List Gr.P} (h:aV 61 X M (.slice A n c) ps) (hn:ps.length=n) (ht: ∀p∈ps,p.val.texts.length<=1073741824):F8 M N W A n:=fun k hk=>by
 obtain ⟨l,e,h1,h2⟩:=h;rw [hn] at h2
 obtain ⟨g,cs,e1,g1,g2,g3,g4,g5⟩:=NV h2 (t:=k*6) (by omega)
 have hll:l.length=n:=by rw [<-hn,<-e,ace]
 obtain ⟨x,hx⟩: ∃x,l[k]?=some x:=⟨_,ab2 (by omega)⟩
 obtain ⟨s,t,ex,o1,o2⟩:=h1 x (acf hx)
 have h6: ∀y∈l,y.2.length=6:=fun y hy=>by
  obtain ⟨_,_,ey,-,-⟩:=h1 y hy;rw [ey];rfl
 have hg:=flat_get (f:=Prod.snd) (l:=l) (k:=6) h6 hx 5 (by decide)
 rw [ex] at hg;obtain ⟨At,ct,rfl⟩:=aJ o2
 refine ⟨g,cs,At,_,ct,e1,⟨g1,by omega⟩,g3.below hb g2,by omega,by rw [g5 _ (by omega),hg];rfl,ht x.1 (e▸aln (acf hx)),F7.of hN hb o2⟩
end
theorem XG.of {M:Nat} {X:World} {u:Value} {g:Gr.G} (h:iy X M u g) (hs: ∀n∈g.nodes,n.labels.length<=1073741824/\n.props.length<=1073741824) (hr: ∀n∈g.au,n.props.length<=1073741824) (ht: ∀p∈Gr.fH g,p.val.texts.length<=1073741824):
  ∃An cn Ar cr,u= .agg #[.slice An g.nodes.length cn, .slice Ar g.au.length cr]/\ ∀N W,X.heap.size<=N->Below X.heap.size X W->XG M N W An g.nodes.length Ar g.au.length:=by
 obtain ⟨sn,sr,ln,lr,rfl,q1,q2,q3,q4,q5,q6⟩:=h;obtain ⟨An,cn,rfl⟩:=aJ q3
 obtain ⟨Ar,cr,rfl⟩:=aJ q6
 refine ⟨An,cn,Ar,cr,rfl,fun N W hN hb=>⟨fun i hi=> ?_,fun i hi=> ?_⟩⟩
 ·obtain ⟨g',cs,e1,g1,g2,g3,g4,g5⟩:=NV q3 (t:=i*3) (by omega)
  have hll:ln.length=g.nodes.length:=by rw [<-q1,ace]
  obtain ⟨x,hx⟩: ∃x,ln[i]?=some x:=⟨_,ab2 (by omega)⟩
  have hm:=acf hx;have hmn:x.1∈g.nodes:=q1▸aln hm;obtain ⟨sl,sp,ex,o1,o2⟩:=q2 x hm
  have h3: ∀y∈ln,y.2.length=3:=fun y hy=>(q2 y hy).len
  have k1:=flat_get (f:=Prod.snd) (l:=ln) (k:=3) h3 hx 1 (by decide)
  have k2:=flat_get (f:=Prod.snd) (l:=ln) (k:=3) h3 hx 2 (by decide)
  rw [ex] at k1 k2;obtain ⟨Al,cl,rfl⟩:=aJ o1;obtain ⟨Ap,cp,rfl⟩:=o2.form
  exact ⟨g',cs,Al,_,cl,Ap,_,cp,e1,⟨g1,by omega⟩,g3.below hb g2,by omega,by rw [g5 _ (by omega),k1];rfl,by rw [g5 _ (by omega),k2];rfl,(hs _ hmn).1,(hs _ hmn).2,F7.of hN hb o1,
   F8.of hN hb o2 rfl fun p hp=>ht p (akY _ (ad1.2 ⟨x.1,hmn,hp⟩))⟩
 obtain ⟨g',cs,e1,g1,g2,g3,g4,g5⟩:=NV q6 (t:=i*5) (by omega)
 have hll:lr.length=g.au.length:=by rw [<-q4,ace]
 obtain ⟨x,hx⟩: ∃x,lr[i]?=some x:=⟨_,ab2 (by omega)⟩
 have hm:=acf hx;have hmn:x.1∈g.au:=q4▸aln hm;obtain ⟨sp,ex,o2⟩:=q5 x hm
 have h5: ∀y∈lr,y.2.length=5:=fun y hy=>(q5 y hy).len
 have k4:=flat_get (f:=Prod.snd) (l:=lr) (k:=5) h5 hx 4 (by decide)
 rw [ex] at k4;obtain ⟨Ap,cp,rfl⟩:=o2.form
 exact ⟨g',cs,Ap,_,cp,e1,⟨g1,by omega⟩,g3.below hb g2,by omega,by rw [g5 _ (by omega),k4];rfl,hr _ hmn,F8.of hN hb o2 rfl fun p hp=>ht p (alv _ (ad1.2 ⟨x.1,hmn,hp⟩))⟩
theorem aV.hole {T:TypeId} {M N B:Nat} {W w:World} {v:Value} {ps:List Gr.P} (h:aV T W B v ps) (hh:Hole M N W w) (hB:N<=B):aV T w B v ps:=by
 obtain ⟨l,e,h1,h2⟩:=h
 exact ⟨l,e,fun x hx=>by
  obtain ⟨s,t,e,o1,o2⟩:=h1 x hx
  exact ⟨s,t,e,hh.own o1 hB,hh.own o2 hB⟩,hh.own h2 hB⟩
theorem iy.hole {M N B:Nat} {W w:World} {u:Value} {g:Gr.G} (h:iy W B u g) (hh:Hole M N W w) (hB:N<=B):iy w B u g:=by
 obtain ⟨sn,sr,ln,lr,e,q1,q2,q3,q4,q5,q6⟩:=h
 exact ⟨sn,sr,ln,lr,e,q1,fun x hx=>by
  obtain ⟨s,t,e,o1,o2⟩:=q2 x hx
  exact ⟨s,t,e,hh.own o1 hB,o2.hole hh hB⟩,hh.own q3 hB,q4,fun x hx=>by
  obtain ⟨t,e,o2⟩:=q5 x hx
  exact ⟨t,e,o2.hole hh hB⟩,hh.own q6 hB⟩
theorem vT (k:Nat): ¬Wr 39 k:=by rintro (h |⟨h,-⟩ |⟨h,-⟩ |⟨h,-⟩)<;>cases h
theorem abR (k:Nat):Wr 9 k:= .inl rfl
theorem aj0 (i:Nat):Wr 59 (i*3):= .inr (.inl ⟨rfl,by omega⟩)
theorem abS (i:Nat): ¬Wr 59 (i*3+1):=by rintro (h |⟨h,g⟩ |⟨h,g⟩ |⟨h,g⟩)<;>first|omega|cases h
theorem NW (i:Nat): ¬Wr 59 (i*3+2):=by rintro (h |⟨h,g⟩ |⟨h,g⟩ |⟨h,g⟩)<;>first|omega|cases h
theorem abT (i:Nat):Wr 61 (i*6):= .inr (.inr (.inl ⟨rfl,by omega⟩))
theorem abU (i:Nat): ¬Wr 61 (i*6+5):=by rintro (h |⟨h,g⟩ |⟨h,g⟩ |⟨h,g⟩)<;>first|omega|cases h
theorem aj1 (i:Nat):Wr 63 (i*5+1):= .inr (.inr (.inr ⟨rfl,by omega⟩))
theorem abV (i:Nat): ¬Wr 63 (i*5+4):=by rintro (h |⟨h,g⟩ |⟨h,g⟩ |⟨h,g⟩)<;>first|omega|cases h
theorem aj2 (u:Value) (g:Gr.G) (w:World) (h:fE w w.heap.size u g) (hL:Laid w):
  Calls Tryz.prog 11 #[u] w fun e w'=>e= .returned (.bool true)/\Below w.heap.size w w':=by
 have hok:=h.ok;obtain ⟨nn,hnn⟩: ∃n,g.nodes.length=n:=⟨_,rfl⟩
 obtain ⟨rn,hrn⟩: ∃n,g.au.length=n:=⟨_,rfl⟩;obtain ⟨A1,c1,A2,c2,rfl⟩:=h.form hnn hrn
 obtain ⟨W1,hW1⟩: ∃W,w.alloc (.cells #[.slice A1 nn c1, .slice A2 rn c2] 39)=W:=⟨_,rfl⟩
 have hb1:Below w.heap.size w W1:=hW1▸(Below.refl _ w).alloc (ab1 _) _
 have hk1:aj W1 w.heap.size 39 #[.slice A1 nn c1, .slice A2 rn c2]:=hW1▸aj.new _ _ _
 have iF:=ah (Jd W1 (fun V hV=>hL.below (hb1.trans (hV.mono hb1.size))))
 have HW1:=ah hW1;have HB1:=ah hb1;have aT:=ah hk1
 have HG:=ah (fun (V:World) (hb:Below w.heap.size w V)=>h.below hb)
 have aK:=ah hok;have HL:=ah hL;have ay:=ah (And.intro hnn hrn);have KW:=ah (abP g)
 clear h hok hnn hrn hW1 hb1 hk1 hL;go_enter Tryz.func11,Tryz.ntmps11
 go_upto_region 1 with fail
 rw [HW1.out];clear HW1;go_wp2_with fail;refine iF.out.mono ?_;rintro e w2 ⟨rfl,b2⟩
 have HB2:=ah (HB1.out.trans (b2.mono HB1.out.size))
 have aC:=ah (aT.out.below b2 aT.out.lt);clear b2 iF;obtain ⟨c0,c1⟩:=cells2 aC.out
 obtain ⟨E,hE⟩: ∃E,(Gr.check g).1=E:=⟨_,rfl⟩
 have iQ:=abQ w.heap.size _ g w2 (HG.out w2 HB2.out) HB2.out.size
 obtain ⟨z,hz⟩: ∃z:ByteArray,(⟨(Cy.lC g).1.toArray⟩:ByteArray)=z:=⟨_,rfl⟩
 rw [KW.out.2,hE,hz] at iQ;have og:=ah iQ;have HE:=ah hE;have HZ:=ah hz;clear iQ hE hz
 go_wp2_with fail;refine og.out.mono ?_;rintro e w3 ⟨rfl,b3⟩
 have HB3:=ah (HB2.out.trans (b3.mono HB2.out.size))
 have bJ:=ah (aC.out.below b3 aC.out.lt);clear b3 c0 c1 og;cases E with
 | succ e=>
  have hne:(((e+1:Nat):Int) !=0)=true:=by rw [acV];omega
  go_wp2;go_ret;exact ⟨rfl,HB3.out⟩
 | zero=>
  have hgood:=Gr.xJ.1 HE.out;have wX:=NT hgood aK.out;have iQ:=NS wX aK.out
  have hzd:z.data.toList=Cy.print g:=by
   rw [<-HZ.out,iQ.2.1]
  have hps:=fun (V:World) (hb:Below w.heap.size w V)=>FY z (by rw [Lib.size_eq,hzd];have:=iQ.2.2.1;omega) V (fun X hX=>HL.out.below (hb.trans (hX.mono hb.size)))
  rw [hzd,iQ.2.2.2] at hps;have nX:=ah hps
  have dL:=ah (show (∀n∈g.nodes,n.labels.length<=1073741824/\n.props.length<=1073741824)/\(∀n∈g.au,n.props.length<=1073741824)/\ ∀p∈Gr.fH g,p.val.texts.length<=1073741824 from by
   have sm:=TM hgood
   refine ⟨fun n hn=>⟨ab5 (sm.l n hn) (by decide),ab5 (sm.np n hn) (by decide)⟩,fun n hn=>ab5 (sm.rp n hn) (by decide),fun p hp=> ?_⟩
   have hk:BN p.val:=by
    rcases acU.1 hp with h1 | h1
    ·obtain ⟨n,hn,hq⟩:=ad1.1 h1
     exact ((aK.out.ns n hn).ps p hq).val
    obtain ⟨n,hn,hq⟩:=ad1.1 h1;exact ((aK.out.rs n hn).ps p hq).val
   exact hk.sl)
  clear hgood wX iQ hzd hps HZ;go_wp2_with fail;refine (nX.out w3 HB3.out).mono ?_
  rintro e w4 ⟨u4,rfl,hg4,b4⟩
  obtain ⟨An,cn,Ar,cr,rfl,hxg⟩:=XG.of hg4 dL.out.1 dL.out.2.1 dL.out.2.2
  rw [ay.out.1,ay.out.2] at hxg⊢
  obtain ⟨W5,iG⟩: ∃W,w4.alloc (.cells #[.slice An nn cn, .slice Ar rn cr] 39)=W:=⟨_,rfl⟩
  obtain ⟨xb,hxb⟩: ∃x,w4.heap.size=x:=⟨_,rfl⟩
  have hb5:Below w4.heap.size w4 W5:=iG▸(Below.refl _ w4).alloc (ab1 _) _
  have sN:=ah (show aj W5 xb 39 #[.slice An nn cn, .slice Ar rn cr] by rw [<-iG,<-hxb];exact aj.new _ _ _)
  have h35:Below w3.heap.size w3 W5:=b4.trans (hb5.mono b4.size)
  have bZ:=ah (HB3.out.trans (h35.mono HB3.out.size))
  have dY:=ah (bJ.out.below h35 bJ.out.lt)
  have HXG:=ah (fun (W:World) (hb:Below W5.heap.size W5 W)=>hxg w4.heap.size W (ab1 _) (hb5.trans (hb.mono hb5.size)))
  have Xm:=ah (And.intro h35 hb5);have yF:=ah iG;have HXB:=ah hxb
  clear hg4 hxg hb5 h35 iG hxb b4
  go_upto_region 7 with fail
  rw [yF.out,HXB.out];clear yF;go_wp2_with fail;refine (nX.out W5 bZ.out).mono ?_
  rintro e w6 ⟨u6,rfl,uO,b6⟩;have oq:=uO.yH aK.out
  obtain ⟨A5,c5,A6,c6,rfl⟩:=oq.form ay.out.1 ay.out.2
  obtain ⟨W,hW⟩: ∃W,w6.alloc (.cells #[.slice A5 nn c5, .slice A6 rn c6] 39)=W:=⟨_,rfl⟩
  obtain ⟨yb,hyb⟩: ∃x,w6.heap.size=x:=⟨_,rfl⟩
  have hb7:Below w6.heap.size w6 W:=hW▸(Below.refl _ w6).alloc (ab1 _) _
  have h57:Below W5.heap.size W5 W:=b6.trans (hb7.mono b6.size)
  have zN:=ah (show aj W yb 39 #[.slice A5 nn c5, .slice A6 rn c6] by rw [<-hW,<-hyb];exact aj.new _ _ _)
  have yS:=ah (sN.out.below h57 sN.out.lt);have Ae:=ah (dY.out.below h57 dY.out.lt)
  have AB:=ah (bZ.out.trans (h57.mono bZ.out.size));have HX:=ah (HXG.out W h57)
  have HY:=ah (uO.below hb7)
  have PD:=ah (show w3.heap.size<=W.heap.size/\w4.heap.size<=W5.heap.size from ⟨ab5 Xm.out.1.size h57.size,Xm.out.2.size⟩)
  obtain ⟨M,hM⟩: ∃M,w3.heap.size=M:=⟨_,rfl⟩
  have amW:=ah (show w.heap.size<=M from hM▸HB3.out.size)
  rw [HXB.out] at HX PD;rw [hM] at HX PD;have HO:=ah (iV.refl M xb W)
  have ES:(nn:Int)<=1073741824:=by have:=aK.out.nl;have:=ay.out;omega
  have hrI:(rn:Int)<=1073741824:=by have:=aK.out.rl;have:=ay.out;omega
  have HW:=ah hW;have HYB:=ah hyb;clear oq uO b6 hb7 h57 hW hyb hM nX HXG Xm sN
  go_upto_region 8 with fail
  rw [HW.out,HYB.out];clear HW HYB HXB;obtain ⟨c0,c1⟩:=cells2 yS.out;go_wp2_with fail
  clear c0 c1
  go_loopg [37] nn (fun q x wr=> ∃i:Nat,x= .int .i64 i/\i+q=nn/\Hid (iV M xb W wr))
  case atStart=>exact ⟨0,rfl,by omega,HO.out⟩
  obtain ⟨i,rfl,hi,hs⟩:=hrel;have HS:Hid (iV M xb W wr):=hs;clear hs HO
  obtain ⟨c0,c1⟩:=cells2 (HS.out.whole yS.out vT);cases gk with
  | succ q=>
   have hin:i<nn:=by omega
   have G6:(i:Int)<nn:=by omega
   have pi:(0:Int)<=(i:Int):=by omega
   have ti:((i:Int)).toNat=i:=by omega
   obtain ⟨gn,cs,Al,ln,cl,Ap,pn,cp,rfl,hgn,hbk,hsz,e1,e2,hln,hpn,hsl,hpp⟩:=HX.out.node i hin
   obtain ⟨⟨u0,d0⟩,f0,Lu⟩:=HS.out.store hbk (aj0 i) hsz hgn
   have mY:=ah (Lu (.int .i64 (-1)));have HN:=ah (And.intro hbk (And.intro e1 e2))
   have HSL:=ah hsl;have uU:=ah hpp;have HI:=ah hi;have aoB:(ln:Int)<=1073741824:=by omega
   have amX:(pn:Int)<=1073741824:=by omega
   clear hbk hsz e1 e2 hsl hpp Lu hi hgn
   go_upto_region 12 with fail
   obtain ⟨w1,hw1⟩: ∃x,wr.setCell ⟨gn,i*3,none⟩ (.int .i64 (-1))=x:=⟨_,rfl⟩
   rw [hw1] at mY⊢;clear c0 c1 d0 f0 hw1 HS
   obtain ⟨c0,c1⟩:=cells2 (mY.out.whole yS.out vT)
   have d1:w1.cell? ⟨gn,i*3+1,none⟩=some (.slice Al ln cl):=(mY.out.cell HN.out.1 (abS i)).trans HN.out.2.1
   go_wp2_with fail;clear c0 c1 d1
   go_loopg [52] ln (fun q x wr=> ∃k:Nat,x= .int .i64 k/\k+q=ln/\Hid (iV M xb W wr))
   case atStart=>exact ⟨0,rfl,by omega,mY.out⟩
   obtain ⟨k,rfl,hk,hs⟩:=hrel;have HS:Hid (iV M xb W wr):=hs;clear hs mY
   obtain ⟨c0,c1⟩:=cells2 (HS.out.whole yS.out vT)
   have d1:wr.cell? ⟨gn,i*3+1,none⟩=some (.slice Al ln cl):=(HS.out.cell HN.out.1 (abS i)).trans HN.out.2.1
   have d2:wr.cell? ⟨gn,i*3+2,none⟩=some (.slice Ap pn cp):=(HS.out.cell HN.out.1 (NW i)).trans HN.out.2.2
   cases gk with
   | succ q2=>
    have hkn:k<ln:=by omega
    have dD:(k:Int)<ln:=by omega
    have pk:(0:Int)<=(k:Int):=by omega
    have tk:((k:Int)).toNat=k:=by omega
    obtain ⟨g2,cs2,rfl,hg2,hb2,hs2⟩:=HSL.out k hkn
    obtain ⟨⟨u0,d0⟩,f0,hO2⟩:=HS.out.store hb2 (abR k) hs2 hg2
    have iK:=ah (hO2 (.string ⟨#[42]⟩));have HK:=ah hk;clear hb2 hs2 hO2 hk hg2;go_wp2
    go_roundg q2
    case measure=>omega
    exact ⟨k+1,int_eq (by omega),by have:=HK.out;omega,iK.out⟩
   | zero=>
    obtain rfl:k=ln:=by omega
    go_wp2_with fail;clear c0 c1 d1 d2
    go_loopg [71] pn (fun q x wr=> ∃k:Nat,x= .int .i64 k/\k+q=pn/\Hid (iV M xb W wr))
    case atStart=>exact ⟨0,rfl,by omega,HS.out⟩
    obtain ⟨k,rfl,hk,hs⟩:=hrel;have HS:Hid (iV M xb W wr):=hs;clear hs
    obtain ⟨c0,c1⟩:=cells2 (HS.out.whole yS.out vT)
    have d2:wr.cell? ⟨gn,i*3+2,none⟩=some (.slice Ap pn cp):=(HS.out.cell HN.out.1 (NW i)).trans HN.out.2.2
    cases gk with
    | zero=>
     go_wp2
     go_roundg q
     case measure=>omega
     exact ⟨i+1,int_eq (by omega),by have:=HI.out;omega,HS.out⟩
    | succ q2=>
     have hkn:k<pn:=by omega
     have dD:(k:Int)<pn:=by omega
     have pk:(0:Int)<=(k:Int):=by omega
     have tk:((k:Int)).toNat=k:=by omega
     obtain ⟨g3,cs3,At,tn,ct,rfl,hg3,hb3,hs3,e5,htn,hst⟩:=uU.out k hkn
     obtain ⟨⟨u0,d0⟩,f0,hO2⟩:=HS.out.store hb3 (abT k) hs3 hg3
     have iK:=ah (hO2 (.string ⟨#[42]⟩));have HP:=ah (And.intro hb3 e5);have HST:=ah hst
     have HK:=ah hk;have aoC:(tn:Int)<=1073741824:=by omega
     clear hb3 hs3 hO2 hk hg3 e5 hst
     go_upto_region 21 with fail
     obtain ⟨w5,hw5⟩: ∃x,wr.setCell ⟨g3,k*6,none⟩ (.string ⟨#[42]⟩)=x:=⟨_,rfl⟩
     rw [hw5] at iK⊢;clear c0 c1 d0 d2 f0 hw5 HS
     obtain ⟨c0,c1⟩:=cells2 (iK.out.whole yS.out vT)
     have d2:w5.cell? ⟨gn,i*3+2,none⟩=some (.slice (some ⟨g3,0,none⟩) pn cp):=(iK.out.cell HN.out.1 (NW i)).trans HN.out.2.2
     have d5:w5.cell? ⟨g3,k*6+5,none⟩=some (.slice At tn ct):=(iK.out.cell HP.out.1 (abU k)).trans HP.out.2
     go_wp2_with fail;clear c0 c1 d2 d5
     go_loopg [95] tn (fun q x wr=> ∃k:Nat,x= .int .i64 k/\k+q=tn/\Hid (iV M xb W wr))
     case atStart=>exact ⟨0,rfl,by omega,iK.out⟩
     obtain ⟨j,rfl,hj,hs⟩:=hrel;have HS:Hid (iV M xb W wr):=hs;clear hs iK
     obtain ⟨c0,c1⟩:=cells2 (HS.out.whole yS.out vT)
     have d2:wr.cell? ⟨gn,i*3+2,none⟩=some (.slice (some ⟨g3,0,none⟩) pn cp):=(HS.out.cell HN.out.1 (NW i)).trans HN.out.2.2
     have d5:wr.cell? ⟨g3,k*6+5,none⟩=some (.slice At tn ct):=(HS.out.cell HP.out.1 (abU k)).trans HP.out.2
     cases gk with
     | zero=>
      go_wp2
      go_roundg q2
      case measure=>omega
      exact ⟨k+1,int_eq (by omega),by have:=HK.out;omega,HS.out⟩
     | succ q3=>
      have hjn:j<tn:=by omega
      have DU:(j:Int)<tn:=by omega
      have pj:(0:Int)<=(j:Int):=by omega
      have tj:((j:Int)).toNat=j:=by omega
      obtain ⟨g4,cs4,rfl,hg4,hb4,hs4⟩:=HST.out j hjn
      obtain ⟨⟨u0,d0⟩,f0,hO3⟩:=HS.out.store hb4 (abR j) hs4 hg4
      have HO3:=ah (hO3 (.string ⟨#[42]⟩));have HJ:=ah hj;clear hb4 hs4 hO3 hj hg4;go_wp2
      go_roundg q3
      case measure=>omega
      exact ⟨j+1,int_eq (by omega),by have:=HJ.out;omega,HO3.out⟩
  | zero=>
   obtain rfl:i=nn:=by omega
   go_wp2_with fail;clear c0 c1
   go_loopg [117] rn (fun q x wr=> ∃i:Nat,x= .int .i64 i/\i+q=rn/\Hid (iV M xb W wr))
   case atStart=>exact ⟨0,rfl,by omega,HS.out⟩
   obtain ⟨i,rfl,hi,hs⟩:=hrel;have HS:Hid (iV M xb W wr):=hs;clear hs
   obtain ⟨c0,c1⟩:=cells2 (HS.out.whole yS.out vT);cases gk with
   | zero=>
    have hbM:=HS.out.hole.below PD.out.1;have EU:=ah (AB.out.trans (hbM.mono amW.out))
    have PE:=ah (HS.out.whole Ae.out vT);have am0:=ah (HS.out.whole zN.out vT)
    have hgy:=(HY.out.hole HS.out.hole PD.out.2).yH aK.out
    have iJ:=ah (NK wr.heap.size _ _ g wr hgy ((HG.out wr EU.out).more EU.out.size) (ab1 _))
    obtain rfl:rn=i:=by omega
    clear hi hbM hgy c0 c1;obtain ⟨c0,c1⟩:=cells2 am0.out;obtain ⟨d0,d1⟩:=cells2 PE.out
    go_wp2_with fail;refine iJ.out.mono ?_;rintro e w9 ⟨rfl,b9⟩
    have dh:=ah (EU.out.trans (b9.mono EU.out.size));clear b9;go_wp2;go_ret
    exact ⟨rfl,dh.out⟩
   | succ q=>
    have hin:i<rn:=by omega
    have G6:(i:Int)<rn:=by omega
    have pi:(0:Int)<=(i:Int):=by omega
    have ti:((i:Int)).toNat=i:=by omega
    obtain ⟨gn,cs,Ap,pn,cp,rfl,hgn,hbk,hsz,e4,hpn,hpp⟩:=HX.out.rel i hin
    obtain ⟨⟨u0,d0⟩,f0,Lu⟩:=HS.out.store hbk (aj1 i) hsz hgn
    have mY:=ah (Lu (.string ⟨#[42]⟩));have HN:=ah (And.intro hbk e4);have uU:=ah hpp
    have HI:=ah hi;have amX:(pn:Int)<=1073741824:=by omega
    clear hbk hsz e4 hpp Lu hi hgn
    go_upto_region 32 with fail
    obtain ⟨w1,hw1⟩: ∃x,wr.setCell ⟨gn,i*5+1,none⟩ (.string ⟨#[42]⟩)=x:=⟨_,rfl⟩
    rw [hw1] at mY⊢;clear c0 c1 d0 f0 hw1 HS
    obtain ⟨c0,c1⟩:=cells2 (mY.out.whole yS.out vT)
    have d4:w1.cell? ⟨gn,i*5+4,none⟩=some (.slice Ap pn cp):=(mY.out.cell HN.out.1 (abV i)).trans HN.out.2
    go_wp2_with fail;clear c0 c1 d4
    go_loopg [132] pn (fun q x wr=> ∃k:Nat,x= .int .i64 k/\k+q=pn/\Hid (iV M xb W wr))
    case atStart=>exact ⟨0,rfl,by omega,mY.out⟩
    obtain ⟨k,rfl,hk,hs⟩:=hrel;have HS:Hid (iV M xb W wr):=hs;clear hs mY
    obtain ⟨c0,c1⟩:=cells2 (HS.out.whole yS.out vT)
    have d4:wr.cell? ⟨gn,i*5+4,none⟩=some (.slice Ap pn cp):=(HS.out.cell HN.out.1 (abV i)).trans HN.out.2
    cases gk with
    | zero=>
     go_wp2
     go_roundg q
     case measure=>omega
     exact ⟨i+1,int_eq (by omega),by have:=HI.out;omega,HS.out⟩
    | succ q2=>
     have hkn:k<pn:=by omega
     have dD:(k:Int)<pn:=by omega
     have pk:(0:Int)<=(k:Int):=by omega
     have tk:((k:Int)).toNat=k:=by omega
     obtain ⟨g3,cs3,At,tn,ct,rfl,hg3,hb3,hs3,-,-,-⟩:=uU.out k hkn
     obtain ⟨⟨u0,d0⟩,f0,hO2⟩:=HS.out.store hb3 (abT k) hs3 hg3
     have iK:=ah (hO2 (.string ⟨#[42]⟩));have HK:=ah hk;clear hb3 hs3 hO2 hk hg3;go_wp2
     go_roundg q2
     case measure=>omega
     exact ⟨k+1,int_eq (by omega),by have:=HK.out;omega,iK.out⟩
end Go.Proofs.YtoofbflplhbpbaaGreatDoor
