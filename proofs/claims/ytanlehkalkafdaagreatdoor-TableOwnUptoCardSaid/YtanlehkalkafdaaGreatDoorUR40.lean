/- Contracts and plain laws,part 40. -/
import Derived.Test.YtanlehkalkafdaaGreatDoorUR38
set_option maxHeartbeats 64000000
set_option maxRecDepth 1000000
set_option linter.all false
namespace Go.Proofs.YtanlehkalkafdaaGreatDoor
open Go.RowKit
structure Hole (M N:Nat) (W w:World):Prop where
 os:w.os=W.os
 tape:w.tape=W.tape
 output:w.output=W.output
 size:W.heap.size<=w.heap.size
 block: ∀k,k<W.heap.size->(k<M\/N<=k)->w.heap[k]?=W.heap[k]?
theorem Hole.refl (M N:Nat) (w:World):Hole M N w w:=⟨rfl,rfl,rfl,rM _,fun _ _ _=>rfl⟩
section
variable {M N:Nat} {W w w':World}
theorem Hole.below (h:Hole M N W w) (hM:M<=W.heap.size):Below M W w:=⟨h.os,h.tape,h.output,h.size,fun k hk=>h.block k (by omega) (.inl hk)⟩
theorem Hole.grown {row:Option Nat} (h:Hole M N W w) (k:w.grownBy w' row) (hr: ∀g,row=some g->(M<=g/\g<N)\/W.heap.size<=g):Hole M N W w':=
 ⟨k.os.trans h.os,k.tape.trans h.tape,k.output.trans h.output,rV h.size k.size,fun i hi hn=>(k.block i (sZ hi h.size) (fun e=>by have:=hr i e.symm;omega)).trans (h.block i hi hn)⟩
theorem Hole.set (h:Hole M N W w) {p:Addr} (hp:M<=p.block/\p.block<N) (u:Value):Hole M N W (w.setCell p u):=
 h.grown (only_setCell (only_refl w (some p.block)) (.inl rfl) u) (fun g e=>by cases e;exact .inl hp)
theorem Hole.own {B e sz n:Nat} {v:Value} {xs:List Value} (h:Hole M N W w) (ho:W.ownsRow B e sz v n xs) (hB:N<=B):w.ownsRow B e sz v n xs:=by
 refine⟨ho.1, ?_⟩
 rcases ho.2 with hn|⟨g,cap,cur,rfl,hg,hc,rest⟩
 ·exact .inl hn
 exact .inr ⟨g,cap,cur,rfl,hg,(h.block g (sW.1 hc).1 (.inr (by omega))).trans hc,rest⟩
end
end Go.Proofs.YtanlehkalkafdaaGreatDoor
namespace Go.Proofs.YtanlehkalkafdaaGreatDoor
open Go.RowKit
def aW (t:TypeId) (k:Nat):Prop:=t=9\/t=2\/(t=48/\k % 3=0)\/(t=53/\k % 6=0)\/(t=55/\k % 5=1)
structure aI (M N:Nat) (W w:World):Prop where
 hole:Hole M N W w
 blk: ∀g t cs,Blk W g t cs-> ∃cs',Blk w g t cs'/\cs'.size=cs.size/\ ∀k,¬aW t k->cs'[k]?=cs[k]?
section
variable {M N g k:Nat} {W w:World} {t:TypeId} {cs:Array Value}
theorem aI.refl (M N:Nat) (W:World):aI M N W W:=⟨Hole.refl _ _ _,fun _ _ cs h=>⟨cs,h,rfl,fun _ _=>rfl⟩⟩
theorem aI.cell (h:aI M N W w) (hb:Blk W g t cs) (hk: ¬aW t k):w.cell? ⟨g,k,none⟩=cs[k]?:=by
 obtain⟨cs',h1,-,h2⟩:=h.blk g t cs hb;rw[h1.cell,h2 k hk]
theorem aI.store (h:aI M N W w) (hb:Blk W g t cs) (hk:aW t k) (hl:k<cs.size) (hg:M<=g/\g<N):
  (∃u,w.cell? ⟨g,k,none⟩=some u)/\w.frozen? ⟨g,k,none⟩=false/\ ∀u,aI M N W (w.setCell ⟨g,k,none⟩ u):=by
 obtain⟨cs',h1,h2,h3⟩:=h.blk g t cs hb
 refine⟨⟨cs'[k]'(by omega),by rw[h1.cell,vK (by omega)]⟩,h1.frozen k,fun u=>⟨h.hole.set hg u,fun g' t' c' hb'=> ?_⟩⟩
 by_cases e:g'=g
 ·subst e
  have e2:=hb.symm.trans hb'
  injection e2 with e2
  injection e2 with e3 e4
  subst e3 e4;refine⟨_,h1.set_ k u,by simpa using h2,fun j hj=> ?_⟩
  rw[Ae (fun e:k=j=>hj (e▸hk)),h3 j hj]
 obtain⟨d,d1,d2,d3⟩:=h.blk g' t' c' hb';exact⟨d,d1.far (p:=⟨g,k,none⟩) e u,d2,d3⟩
theorem aI.whole (h:aI M N W w) (hb:Blk W g t cs) (hk: ∀k,¬aW t k):Blk w g t cs:=by
 obtain⟨cs',h1,-,h2⟩:=h.blk g t cs hb
 rwa [show cs'=cs from Array.ext_getElem? fun k=>h2 k (hk k)]at h1
end
theorem gu {W:World} {B e k n c t:Nat} {A:Option Addr} {xs:List Value} (h:W.ownsRow B e k (.slice A n c) n xs) (ht:t<n*k):
  ∃g cs,A=some ⟨g,0,none⟩/\B<=g/\g<W.heap.size/\Blk W g e cs/\n*k<=cs.size/\ ∀j,j<n*k->cs[j]?=xs[j]?:=by
 rcases h.2 with⟨_,hn⟩|⟨g,cap,cur,he,hg,hc,h1,h2,h3,h4⟩
 ·subst hn;simp at ht
 injection he with e1 e2 e3
 subst e1 e3;have hb:Blk W g e cur:=hc;have hle:n*k<=cur.size:=by rw[h3];exact vU k h1
 exact⟨g,cur,rfl,hg,hb.lt,hb,hle,fun j hj=>by rw[<-h4,xK hj,wU]⟩
def jd (M N:Nat) (W:World) (A:Option Addr) (n:Nat):Prop:= ∀k,k<n-> ∃g cs,A=some ⟨g,0,none⟩/\(M<=g/\g<N)/\Blk W g 9 cs/\k<cs.size
def je (M N:Nat) (W:World) (A:Option Addr) (n:Nat):Prop:= ∀k,k<n-> ∃g cs,A=some ⟨g,0,none⟩/\(M<=g/\g<N)/\Blk W g 2 cs/\k<cs.size
def fO (M N:Nat) (W:World) (A:Option Addr) (n:Nat):Prop:= ∀k,k<n-> ∃g cs At tn ct,A=some ⟨g,0,none⟩/\(M<=g/\g<N)/\Blk W g 53 cs/\k*6<cs.size/\cs[k*6+4]?=some (.slice At tn ct)/\tn<=1073741824/\je M N W At tn
structure kP (M N:Nat) (W:World) (An:Option Addr) (nn:Nat) (Ar:Option Addr) (rn:Nat):Prop where
 node: ∀i,i<nn-> ∃g cs Al ln cl Ap pn cp,An=some ⟨g,0,none⟩/\(M<=g/\g<N)/\Blk W g 48 cs/\i*3<cs.size/\cs[i*3+1]?=some (.slice Al ln cl)/\cs[i*3+2]?=some (.slice Ap pn cp)/\ln<=1073741824/\pn<=1073741824/\jd M N W Al ln/\fO M N W Ap pn
 rel: ∀i,i<rn-> ∃g cs Ap pn cp,Ar=some ⟨g,0,none⟩/\(M<=g/\g<N)/\Blk W g 55 cs/\i*5+1<cs.size/\cs[i*5+4]?=some (.slice Ap pn cp)/\pn<=1073741824/\fO M N W Ap pn
section
variable {M N:Nat} {X W:World} (hN:X.heap.size<=N) (hb:Below X.heap.size X W)
include hN hb
theorem jd.of {A:Option Addr} {n c:Nat} {xs:List Value} (h:X.ownsRow M 9 1 (.slice A n c) n xs):jd M N W A n:=fun k hk=>by
 obtain⟨g,cs,e,h1,h2,h3,h4,-⟩:=gu h (t:=k) (by omega)
 exact⟨g,cs,e,⟨h1,by omega⟩,h3.below hb h2,by omega⟩
theorem je.of {A:Option Addr} {n c:Nat} {xs:List Value} (h:X.ownsRow M 2 1 (.slice A n c) n xs):je M N W A n:=fun k hk=>by
 obtain⟨g,cs,e,h1,h2,h3,h4,-⟩:=gu h (t:=k) (by omega)
 exact⟨g,cs,e,⟨h1,by omega⟩,h3.below hb h2,by omega⟩
theorem fO.of {A:Option Addr} {n c:Nat} {ps:List Gr.P} (h:PropsOwn 53 X M (.slice A n c) ps) (hn:ps.length=n) (ht: ∀p∈ps,p.val.nums.length<=1073741824):fO M N W A n:=fun k hk=>by
 obtain⟨l,e,h1,h2⟩:=h;rw[hn]at h2
 obtain⟨g,cs,e1,g1,g2,g3,g4,g5⟩:=gu h2 (t:=k*6) (by omega)
 have hll:l.length=n:=by rw[<-hn,<-e,sU]
 obtain⟨x,hx⟩: ∃x,l[k]?=some x:=⟨_,ay (by omega)⟩
 obtain⟨s,t,ex,o1,o2⟩:=h1 x (sK hx)
 have h6: ∀y∈l,y.2.length=6:=fun y hy=>by
  obtain⟨_,_,ey,-,-⟩:=h1 y hy;rw[ey];rfl
 have hg:=flat_get (f:=Prod.snd) (l:=l) (k:=6) h6 hx 4 (by decide)
 rw[ex]at hg;obtain⟨At,ct,rfl⟩:=own_form o1
 refine⟨g,cs,At,_,ct,e1,⟨g1,by omega⟩,g3.below hb g2,by omega,by rw[g5 _ (by omega),hg];rfl,ht x.1 (e▸uX (sK hx)),je.of hN hb o1⟩
end
theorem kP.of {M:Nat} {X:World} {u:Value} {g:Gr.G} (h:GOwn X M u g) (hs: ∀n∈g.nodes,n.labels.length<=1073741824/\n.props.length<=1073741824) (hr: ∀n∈g.rels,n.props.length<=1073741824) (ht: ∀p∈Gr.allProps g,p.val.nums.length<=1073741824):
  ∃An cn Ar cr,u=.agg #[.slice An g.nodes.length cn,.slice Ar g.rels.length cr]/\ ∀N W,X.heap.size<=N->Below X.heap.size X W->kP M N W An g.nodes.length Ar g.rels.length:=by
 obtain⟨sn,sr,ln,lr,rfl,q1,q2,q3,q4,q5,q6⟩:=h;obtain⟨An,cn,rfl⟩:=own_form q3
 obtain⟨Ar,cr,rfl⟩:=own_form q6
 refine⟨An,cn,Ar,cr,rfl,fun N W hN hb=>⟨fun i hi=> ?_,fun i hi=> ?_⟩⟩
 ·obtain⟨g',cs,e1,g1,g2,g3,g4,g5⟩:=gu q3 (t:=i*3) (by omega)
  have hll:ln.length=g.nodes.length:=by rw[<-q1,sU]
  obtain⟨x,hx⟩: ∃x,ln[i]?=some x:=⟨_,ay (by omega)⟩
  have hm:=sK hx;have hmn:x.1∈g.nodes:=q1▸uX hm;obtain⟨sl,sp,ex,o1,o2⟩:=q2 x hm
  have h3: ∀y∈ln,y.2.length=3:=fun y hy=>(q2 y hy).len
  have k1:=flat_get (f:=Prod.snd) (l:=ln) (k:=3) h3 hx 1 (by decide)
  have k2:=flat_get (f:=Prod.snd) (l:=ln) (k:=3) h3 hx 2 (by decide)
  rw[ex]at k1 k2;obtain⟨Al,cl,rfl⟩:=own_form o1;obtain⟨Ap,cp,rfl⟩:=o2.form
  exact⟨g',cs,Al,_,cl,Ap,_,cp,e1,⟨g1,by omega⟩,g3.below hb g2,by omega,by rw[g5 _ (by omega),k1];rfl,by rw[g5 _ (by omega),k2];rfl,(hs _ hmn).1,(hs _ hmn).2,jd.of hN hb o1,
   fO.of hN hb o2 rfl fun p hp=>ht p (wZ _ (uF.2 ⟨x.1,hmn,hp⟩))⟩
 obtain⟨g',cs,e1,g1,g2,g3,g4,g5⟩:=gu q6 (t:=i*5) (by omega)
 have hll:lr.length=g.rels.length:=by rw[<-q4,sU]
 obtain⟨x,hx⟩: ∃x,lr[i]?=some x:=⟨_,ay (by omega)⟩
 have hm:=sK hx;have hmn:x.1∈g.rels:=q4▸uX hm;obtain⟨sp,ex,o2⟩:=q5 x hm
 have h5: ∀y∈lr,y.2.length=5:=fun y hy=>(q5 y hy).len
 have k4:=flat_get (f:=Prod.snd) (l:=lr) (k:=5) h5 hx 4 (by decide)
 rw[ex]at k4;obtain⟨Ap,cp,rfl⟩:=o2.form
 exact⟨g',cs,Ap,_,cp,e1,⟨g1,by omega⟩,g3.below hb g2,by omega,by rw[g5 _ (by omega),k4];rfl,hr _ hmn,fO.of hN hb o2 rfl fun p hp=>ht p (yB _ (uF.2 ⟨x.1,hmn,hp⟩))⟩
theorem PropsOwn.jf {T:TypeId} {M N B:Nat} {W w:World} {v:Value} {ps:List Gr.P} (h:PropsOwn T W B v ps) (hh:Hole M N W w) (hB:N<=B):PropsOwn T w B v ps:=by
 obtain⟨l,e,h1,h2⟩:=h
 exact⟨l,e,fun x hx=>by
  obtain⟨s,t,e,o1,o2⟩:=h1 x hx
  exact⟨s,t,e,hh.own o1 hB,hh.own o2 hB⟩,hh.own h2 hB⟩
theorem GOwn.jf {M N B:Nat} {W w:World} {u:Value} {g:Gr.G} (h:GOwn W B u g) (hh:Hole M N W w) (hB:N<=B):GOwn w B u g:=by
 obtain⟨sn,sr,ln,lr,e,q1,q2,q3,q4,q5,q6⟩:=h
 exact⟨sn,sr,ln,lr,e,q1,fun x hx=>by
  obtain⟨s,t,e,o1,o2⟩:=q2 x hx
  exact⟨s,t,e,hh.own o1 hB,o2.jf hh hB⟩,hh.own q3 hB,q4,fun x hx=>by
  obtain⟨t,e,o2⟩:=q5 x hx
  exact⟨t,e,o2.jf hh hB⟩,hh.own q6 hB⟩
end Go.Proofs.YtanlehkalkafdaaGreatDoor
namespace Go.Proofs.YtanlehkalkafdaaGreatDoor
open Go.RowKit
theorem bn (k:Nat): ¬aW 25 k:=by rintro(h|h|⟨h,-⟩|⟨h,-⟩|⟨h,-⟩)<;>exact absurd h (by decide)
theorem oP (k:Nat):aW 9 k:=.inl rfl
theorem oQ (k:Nat):aW 2 k:=.inr (.inl rfl)
theorem oU (i:Nat):aW 48 (i*3):=.inr (.inr (.inl ⟨rfl,by omega⟩))
theorem lW (i:Nat): ¬aW 48 (i*3+1):=by
 rintro(h|h|⟨-,h⟩|⟨h,-⟩|⟨h,-⟩)
 ·exact absurd h (by decide)
 ·exact absurd h (by decide)
 ·omega
 ·exact absurd h (by decide)
 exact absurd h (by decide)
theorem jg (i:Nat): ¬aW 48 (i*3+2):=by
 rintro(h|h|⟨-,h⟩|⟨h,-⟩|⟨h,-⟩)
 ·exact absurd h (by decide)
 ·exact absurd h (by decide)
 ·omega
 ·exact absurd h (by decide)
 exact absurd h (by decide)
theorem lX (i:Nat):aW 53 (i*6):=.inr (.inr (.inr (.inl ⟨rfl,by omega⟩)))
theorem lY (i:Nat): ¬aW 53 (i*6+4):=by
 rintro(h|h|⟨h,-⟩|⟨-,h⟩|⟨h,-⟩)
 ·exact absurd h (by decide)
 ·exact absurd h (by decide)
 ·exact absurd h (by decide)
 ·omega
 exact absurd h (by decide)
theorem oV (i:Nat):aW 55 (i*5+1):=.inr (.inr (.inr (.inr ⟨rfl,by omega⟩)))
theorem lZ (i:Nat): ¬aW 55 (i*5+4):=by
 rintro(h|h|⟨h,-⟩|⟨h,-⟩|⟨-,h⟩)
 ·exact absurd h (by decide)
 ·exact absurd h (by decide)
 ·exact absurd h (by decide)
 ·exact absurd h (by decide)
 omega
theorem oW (u:Value) (g:Gr.G) (w:World) (h:GIn w w.heap.size u g) (hL:Laid w):
  Calls Tryz.prog 8 #[u] w fun e w'=>e=.returned (.bool true)/\Below w.heap.size w w':=by
 have hok:=h.ok;obtain⟨nn,hnn⟩:=aj g.nodes.length;obtain⟨rn,hrn⟩:=aj g.rels.length
 obtain⟨A1,c1,A2,c2,rfl⟩:=h.form hnn hrn
 obtain⟨W1,hW1⟩:=aj (w.alloc (.cells #[.slice A1 nn c1,.slice A2 rn c2] 25))
 have hb1:Below w.heap.size w W1:=hW1▸(Below.refl _ w).alloc (rM _) _
 have hk1:Blk W1 w.heap.size 25 #[.slice A1 nn c1,.slice A2 rn c2]:=hW1▸Blk.new _ _ _
 have HSP:=ah (jG W1 (fun V hV=>hL.below (hb1.trans (hV.mono hb1.size))))
 have HW1:=ah hW1;have HB1:=ah hb1;have HK1:=ah hk1
 have HG:=ah (fun(V:World) (hb:Below w.heap.size w V)=>h.below hb)
 have HOK:=ah hok;have HL:=ah hL;have HNN:=ah (And.intro hnn hrn)
 clear h hok hnn hrn hW1 hb1 hk1 hL;go_enter Tryz.func8,Tryz.ntmps8
 go_upto_region 1 with fail
 rw[HW1.out];clear HW1;go_wp2_with fail;refine HSP.mono ?_;rintro e w2 ⟨rfl,b2⟩
 have HB2:=ah (HB1.trans (b2.mono HB1.size));have HK2:=ah (HK1.below b2 HK1.lt)
 clear b2 HSP;obtain⟨c0,c1⟩:=cells2 HK2.out;obtain⟨E,hE⟩:=aj ((Gr.check g).1)
 have fJ:=lV w.heap.size _ g w2 (HG.out w2 HB2.out) HB2.size
 obtain⟨za,hza⟩:=aj (⟨(Tb.printR g).1.1.toArray⟩:ByteArray)
 obtain⟨zb,hzb⟩:=aj (⟨(Tb.printR g).1.2.toArray⟩:ByteArray)
 have hpe:(Tb.printR g).2=(Gr.check g).1:=by
  unfold Tb.printR
  split
  ·next h=>exact h.symm
  rfl
 rw[hza,hzb,hpe,hE]at fJ;have HRP:=ah fJ;have HE:=ah hE;have HZ:=ah (And.intro hza hzb)
 clear fJ hE hza hzb hpe;go_wp2_with fail;refine HRP.mono ?_;rintro e w3 ⟨rfl,b3⟩
 have HB3:=ah (HB2.trans (b3.mono HB2.size));have HK3:=ah (HK2.below b3 HK2.lt)
 clear b3 c0 c1 HRP;cases E with
 |succ e=>
  have hne:(((e+1:Nat):Int) !=0)=true:=by rw[tH];omega
  go_wp2;go_ret;exact⟨rfl,HB3.out⟩
 |zero=>
  have hgood:=Gr.check_good.1 HE.out;have hrt:=right_table (fine_of hgood HOK.out)
  have hzd:za.data.toList=(Tb.print g).1:=by rw[<-HZ.out.1,hrt.2.1]
  have hyd:zb.data.toList=(Tb.print g).2:=by rw[<-HZ.out.2,hrt.2.1]
  have hps:=fun(V:World) (hb:Below w.heap.size w V)=>iZ za zb (by rw[Lib.size_eq,hzd];exact rV hrt.2.2.1 (by decide)) (by rw[Lib.size_eq,hyd];exact rV hrt.2.2.2.1 (by decide)) V (fun X hX=>HL.below (hb.trans (hX.mono hb.size)))
  rw[hzd,hyd,hrt.2.2.2.2]at hps;have dJ:=ah hps
  have HSZ:=ah (show(∀n∈g.nodes,n.labels.length<=1073741824/\n.props.length<=1073741824)/\(∀n∈g.rels,n.props.length<=1073741824)/\ ∀p∈Gr.allProps g,p.val.nums.length<=1073741824 from by
   have sm:=small_of_good hgood
   refine⟨fun n hn=>⟨rV (sm.l n hn) (by decide),rV (sm.np n hn) (by decide)⟩,fun n hn=>rV (sm.rp n hn) (by decide),fun p hp=> ?_⟩
   have hk:VOk p.val:=by
    rcases tZ.1 hp with h1|h1
    ·obtain⟨n,hn,hq⟩:=uF.1 h1
     exact((HOK.ns n hn).ps p hq).val
    obtain⟨n,hn,hq⟩:=uF.1 h1;exact((HOK.rs n hn).ps p hq).val
   exact hk.nl)
  clear hgood hrt hzd hyd hps HZ;go_wp2_with fail;refine(dJ.out w3 HB3.out).mono ?_
  rintro e w4 ⟨u4,rfl,hg4,b4⟩
  obtain⟨An,cn,Ar,cr,rfl,hxg⟩:=kP.of hg4 HSZ.out.1 HSZ.out.2.1 HSZ.out.2.2
  rw[HNN.out.1,HNN.out.2]at hxg⊢
  obtain⟨W5,hW5⟩:=aj (w4.alloc (.cells #[.slice An nn cn,.slice Ar rn cr] 25))
  obtain⟨xb,hxb⟩:=aj w4.heap.size
  have hb5:Below w4.heap.size w4 W5:=hW5▸(Below.refl _ w4).alloc (rM _) _
  have HKX:=ah (show Blk W5 xb 25 #[.slice An nn cn,.slice Ar rn cr] by rw[<-hW5,<-hxb];exact Blk.new _ _ _)
  have h35:Below w3.heap.size w3 W5:=b4.trans (hb5.mono b4.size)
  have HB5:=ah (HB3.trans (h35.mono HB3.size));have HK5:=ah (HK3.below h35 HK3.lt)
  have HXG:=ah (fun(W:World) (hb:Below W5.heap.size W5 W)=>hxg w4.heap.size W (rM _) (hb5.trans (hb.mono hb5.size)))
  have kQ:=ah (And.intro h35 hb5);have HW5:=ah hW5;have HXB:=ah hxb
  clear hg4 hxg hb5 h35 hW5 hxb b4
  go_upto_region 7 with fail
  rw[HW5.out,HXB.out];clear HW5;go_wp2_with fail;refine(dJ.out W5 HB5.out).mono ?_
  rintro e w6 ⟨u6,rfl,hg6,b6⟩;have aV:=hg6.gin HOK.out
  obtain⟨A5,c5,A6,c6,rfl⟩:=aV.form HNN.out.1 HNN.out.2
  obtain⟨W,hW⟩:=aj (w6.alloc (.cells #[.slice A5 nn c5,.slice A6 rn c6] 25))
  obtain⟨yb,hyb⟩:=aj w6.heap.size
  have hb7:Below w6.heap.size w6 W:=hW▸(Below.refl _ w6).alloc (rM _) _
  have h57:Below W5.heap.size W5 W:=b6.trans (hb7.mono b6.size)
  have HKY:=ah (show Blk W yb 25 #[.slice A5 nn c5,.slice A6 rn c6] by rw[<-hW,<-hyb];exact Blk.new _ _ _)
  have cO:=ah (HKX.below h57 HKX.lt);have HK7:=ah (HK5.below h57 HK5.lt)
  have HB7:=ah (HB5.trans (h57.mono HB5.size));have HX:=ah (HXG.out W h57)
  have HY:=ah (hg6.below hb7)
  have HMN:=ah (show w3.heap.size<=W.heap.size/\w4.heap.size<=W5.heap.size from⟨rV kQ.out.1.size h57.size,kQ.out.2.size⟩)
  obtain⟨M,hM⟩:=aj w3.heap.size;have qy:=ah (show w.heap.size<=M from hM▸HB3.size)
  rw[HXB.out]at HX HMN;rw[hM]at HX HMN;have HO:=ah (aI.refl M xb W)
  have hnI:(nn:Int)<=1073741824:=by have:=HOK.nl;have:=HNN.out;omega
  have ru:(rn:Int)<=1073741824:=by have:=HOK.rl;have:=HNN.out;omega
  have HW:=ah hW;have HYB:=ah hyb;clear aV hg6 b6 hb7 h57 hW hyb hM dJ HXG kQ HKX
  go_upto_region 8 with fail
  rw[HW.out,HYB.out];clear HW HYB HXB;obtain⟨c0,c1⟩:=cells2 cO.out;go_wp2_with fail
  clear c0 c1
  go_loopg [41] nn (fun q x wr=> ∃i:Nat,x=.int .i64 i/\i+q=nn/\Hid (aI M xb W wr))
  case atStart=>exact⟨0,rfl,by omega,HO.out⟩
  obtain⟨i,rfl,hi,hs⟩:=hrel;have HS:Hid (aI M xb W wr):=hs;clear hs HO
  obtain⟨c0,c1⟩:=cells2 (HS.whole cO.out bn);cases gk with
  |succ q=>
   have hin:i<nn:=by omega
   have hinI:(i:Int)<nn:=by omega
   have pi:(0:Int)<=(i:Int):=by omega
   have ti:((i:Int)).toNat=i:=by omega
   obtain⟨gn,cs,Al,ln,cl,Ap,pn,cp,rfl,hgn,hbk,hsz,e1,e2,hln,hpn,hsl,hpp⟩:=HX.node i hin
   obtain⟨⟨u0,d0⟩,f0,iT⟩:=HS.store hbk (oU i) hsz hgn;have HO1:=ah (iT (.int .i64 (-1)))
   have HN:=ah (And.intro hbk (And.intro e1 e2));have HSL:=ah hsl;have HPP:=ah hpp
   have HI:=ah hi;have rC:(ln:Int)<=1073741824:=by omega
   have qA:(pn:Int)<=1073741824:=by omega
   clear hbk hsz e1 e2 hsl hpp iT hi hgn
   go_upto_region 12 with fail
   obtain⟨w1,hw1⟩:=aj (wr.setCell ⟨gn,i*3,none⟩ (.int .i64 (-1)));rw[hw1]at HO1⊢
   clear c0 c1 d0 f0 hw1 HS;obtain⟨c0,c1⟩:=cells2 (HO1.whole cO.out bn)
   have d1:w1.cell? ⟨gn,i*3+1,none⟩=some (.slice Al ln cl):=(HO1.cell HN.out.1 (lW i)).trans HN.out.2.1
   go_wp2_with fail;clear c0 c1 d1
   go_loopg [56] ln (fun q x wr=> ∃k:Nat,x=.int .i64 k/\k+q=ln/\Hid (aI M xb W wr))
   case atStart=>exact⟨0,rfl,by omega,HO1.out⟩
   obtain⟨k,rfl,hk,hs⟩:=hrel;have HS:Hid (aI M xb W wr):=hs;clear hs HO1
   obtain⟨c0,c1⟩:=cells2 (HS.whole cO.out bn)
   have d1:wr.cell? ⟨gn,i*3+1,none⟩=some (.slice Al ln cl):=(HS.cell HN.out.1 (lW i)).trans HN.out.2.1
   have d2:wr.cell? ⟨gn,i*3+2,none⟩=some (.slice Ap pn cp):=(HS.cell HN.out.1 (jg i)).trans HN.out.2.2
   cases gk with
   |succ q2=>
    have hkn:k<ln:=by omega
    have hknI:(k:Int)<ln:=by omega
    have pk:(0:Int)<=(k:Int):=by omega
    have tk:((k:Int)).toNat=k:=by omega
    obtain⟨g2,cs2,rfl,hg2,hb2,hs2⟩:=HSL.out k hkn
    obtain⟨⟨u0,d0⟩,f0,hO2⟩:=HS.store hb2 (oP k) hs2 hg2
    have HO2:=ah (hO2 (.string ⟨#[42]⟩));have HK:=ah hk;clear hb2 hs2 hO2 hk hg2;go_wp2
    go_roundg q2
    case measure=>omega
    exact⟨k+1,int_eq (by omega),by have:=HK.out;omega,HO2.out⟩
   |zero=>
    obtain rfl:k=ln:=by omega
    go_wp2_with fail;clear c0 c1 d1 d2
    go_loopg [75] pn (fun q x wr=> ∃k:Nat,x=.int .i64 k/\k+q=pn/\Hid (aI M xb W wr))
    case atStart=>exact⟨0,rfl,by omega,HS.out⟩
    obtain⟨k,rfl,hk,hs⟩:=hrel;have HS:Hid (aI M xb W wr):=hs;clear hs
    obtain⟨c0,c1⟩:=cells2 (HS.whole cO.out bn)
    have d2:wr.cell? ⟨gn,i*3+2,none⟩=some (.slice Ap pn cp):=(HS.cell HN.out.1 (jg i)).trans HN.out.2.2
    cases gk with
    |zero=>
     go_wp2
     go_roundg q
     case measure=>omega
     exact⟨i+1,int_eq (by omega),by have:=HI.out;omega,HS.out⟩
    |succ q2=>
     have hkn:k<pn:=by omega
     have hknI:(k:Int)<pn:=by omega
     have pk:(0:Int)<=(k:Int):=by omega
     have tk:((k:Int)).toNat=k:=by omega
     obtain⟨g3,qB,At,tn,ct,rfl,hg3,hb3,hs3,e5,htn,hst⟩:=HPP.out k hkn
     obtain⟨⟨u0,d0⟩,f0,hO2⟩:=HS.store hb3 (lX k) hs3 hg3
     have HO2:=ah (hO2 (.string ⟨#[42]⟩));have HP:=ah (And.intro hb3 e5);have HST:=ah hst
     have HK:=ah hk;have rD:(tn:Int)<=1073741824:=by omega
     clear hb3 hs3 hO2 hk hg3 e5 hst
     go_upto_region 21 with fail
     obtain⟨w5,hw5⟩:=aj (wr.setCell ⟨g3,k*6,none⟩ (.string ⟨#[42]⟩));rw[hw5]at HO2⊢
     clear c0 c1 d0 d2 f0 hw5 HS;obtain⟨c0,c1⟩:=cells2 (HO2.whole cO.out bn)
     have d2:w5.cell? ⟨gn,i*3+2,none⟩=some (.slice (some ⟨g3,0,none⟩) pn cp):=(HO2.cell HN.out.1 (jg i)).trans HN.out.2.2
     have d5:w5.cell? ⟨g3,k*6+4,none⟩=some (.slice At tn ct):=(HO2.cell HP.out.1 (lY k)).trans HP.out.2
     go_wp2_with fail;clear c0 c1 d2 d5
     go_loopg [99] tn (fun q x wr=> ∃k:Nat,x=.int .i64 k/\k+q=tn/\Hid (aI M xb W wr))
     case atStart=>exact⟨0,rfl,by omega,HO2.out⟩
     obtain⟨j,rfl,hj,hs⟩:=hrel;have HS:Hid (aI M xb W wr):=hs;clear hs HO2
     obtain⟨c0,c1⟩:=cells2 (HS.whole cO.out bn)
     have d2:wr.cell? ⟨gn,i*3+2,none⟩=some (.slice (some ⟨g3,0,none⟩) pn cp):=(HS.cell HN.out.1 (jg i)).trans HN.out.2.2
     have d5:wr.cell? ⟨g3,k*6+4,none⟩=some (.slice At tn ct):=(HS.cell HP.out.1 (lY k)).trans HP.out.2
     cases gk with
     |zero=>
      go_wp2
      go_roundg q2
      case measure=>omega
      exact⟨k+1,int_eq (by omega),by have:=HK.out;omega,HS.out⟩
     |succ q3=>
      have hjn:j<tn:=by omega
      have hjnI:(j:Int)<tn:=by omega
      have pj:(0:Int)<=(j:Int):=by omega
      have tj:((j:Int)).toNat=j:=by omega
      obtain⟨g4,rE,rfl,hg4,hb4,hs4⟩:=HST.out j hjn
      obtain⟨⟨u0,d0⟩,f0,hO3⟩:=HS.store hb4 (oQ j) hs4 hg4
      have HO3:=ah (hO3 (.int .i64 (-7)));have HJ:=ah hj;clear hb4 hs4 hO3 hj hg4;go_wp2
      go_roundg q3
      case measure=>omega
      exact⟨j+1,int_eq (by omega),by have:=HJ.out;omega,HO3.out⟩
  |zero=>
   obtain rfl:i=nn:=by omega
   go_wp2_with fail;clear c0 c1
   go_loopg [121] rn (fun q x wr=> ∃i:Nat,x=.int .i64 i/\i+q=rn/\Hid (aI M xb W wr))
   case atStart=>exact⟨0,rfl,by omega,HS.out⟩
   obtain⟨i,rfl,hi,hs⟩:=hrel;have HS:Hid (aI M xb W wr):=hs;clear hs
   obtain⟨c0,c1⟩:=cells2 (HS.whole cO.out bn);cases gk with
   |zero=>
    have nX:=HS.hole.below HMN.out.1;have jA:=ah (HB7.trans (nX.mono qy.out))
    have qC:=ah (HS.whole HK7.out bn);have qE:=ah (HS.whole HKY.out bn)
    have nY:=(HY.jf HS.hole HMN.out.2).gin HOK.out
    have HSM:=ah (refSame_any wr.heap.size _ _ g wr nY ((HG.out wr jA.out).more jA.size) (rM _))
    obtain rfl:rn=i:=by omega
    clear hi nX nY c0 c1;obtain⟨c0,c1⟩:=cells2 qE.out;obtain⟨d0,d1⟩:=cells2 qC.out
    go_wp2_with fail;refine HSM.mono ?_;rintro e w9 ⟨rfl,b9⟩
    have HB9:=ah (jA.trans (b9.mono jA.size));clear b9;go_wp2;go_ret;exact⟨rfl,HB9.out⟩
   |succ q=>
    have hin:i<rn:=by omega
    have hinI:(i:Int)<rn:=by omega
    have pi:(0:Int)<=(i:Int):=by omega
    have ti:((i:Int)).toNat=i:=by omega
    obtain⟨gn,cs,Ap,pn,cp,rfl,hgn,hbk,hsz,e4,hpn,hpp⟩:=HX.rel i hin
    obtain⟨⟨u0,d0⟩,f0,iT⟩:=HS.store hbk (oV i) hsz hgn
    have HO1:=ah (iT (.string ⟨#[42]⟩));have HN:=ah (And.intro hbk e4);have HPP:=ah hpp
    have HI:=ah hi;have qA:(pn:Int)<=1073741824:=by omega
    clear hbk hsz e4 hpp iT hi hgn
    go_upto_region 32 with fail
    obtain⟨w1,hw1⟩:=aj (wr.setCell ⟨gn,i*5+1,none⟩ (.string ⟨#[42]⟩));rw[hw1]at HO1⊢
    clear c0 c1 d0 f0 hw1 HS;obtain⟨c0,c1⟩:=cells2 (HO1.whole cO.out bn)
    have d4:w1.cell? ⟨gn,i*5+4,none⟩=some (.slice Ap pn cp):=(HO1.cell HN.out.1 (lZ i)).trans HN.out.2
    go_wp2_with fail;clear c0 c1 d4
    go_loopg [136] pn (fun q x wr=> ∃k:Nat,x=.int .i64 k/\k+q=pn/\Hid (aI M xb W wr))
    case atStart=>exact⟨0,rfl,by omega,HO1.out⟩
    obtain⟨k,rfl,hk,hs⟩:=hrel;have HS:Hid (aI M xb W wr):=hs;clear hs HO1
    obtain⟨c0,c1⟩:=cells2 (HS.whole cO.out bn)
    have d4:wr.cell? ⟨gn,i*5+4,none⟩=some (.slice Ap pn cp):=(HS.cell HN.out.1 (lZ i)).trans HN.out.2
    cases gk with
    |zero=>
     go_wp2
     go_roundg q
     case measure=>omega
     exact⟨i+1,int_eq (by omega),by have:=HI.out;omega,HS.out⟩
    |succ q2=>
     have hkn:k<pn:=by omega
     have hknI:(k:Int)<pn:=by omega
     have pk:(0:Int)<=(k:Int):=by omega
     have tk:((k:Int)).toNat=k:=by omega
     obtain⟨g3,qB,At,tn,ct,rfl,hg3,hb3,hs3,-,-,-⟩:=HPP.out k hkn
     obtain⟨⟨u0,d0⟩,f0,hO2⟩:=HS.store hb3 (lX k) hs3 hg3
     have HO2:=ah (hO2 (.string ⟨#[42]⟩));have HK:=ah hk;clear hb3 hs3 hO2 hk hg3;go_wp2
     go_roundg q2
     case measure=>omega
     exact⟨k+1,int_eq (by omega),by have:=HK.out;omega,HO2.out⟩
end Go.Proofs.YtanlehkalkafdaaGreatDoor
