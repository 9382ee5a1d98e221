/- Lemmas. -/
import Derived.Test.YtdijgcnlbfgkdaaGreatDoorUP23
set_option maxHeartbeats 64000000
set_option maxRecDepth 1000000
set_option linter.all false
namespace Go.Proofs.YtdijgcnlbfgkdaaGreatDoor
open Go.RowKit Go.Proofs.Tryz
def Cy.L8.ok {v:au.V} (h:Cy.L8 v):QM v:=
 ⟨⟨by have:=h.kin;omega,by have:=h.kin;omega⟩,h.num,h.nums,aep h.tl (by decide),aep h.nl (by decide),aep h.sl (by decide),fun t ht=>aep (h.sz t ht) (by decide)⟩
def Cy.rV.ok {p:Gr.P} (h:Cy.rV p):vT p:=⟨aep h.key (by decide),h.val.ok⟩
def Cy.WB.ok {n:Gr.N} (h:Cy.WB n):QO n:=
 ⟨⟨by have:=h.lo;omega,by have:=h.hi;omega⟩,aep h.ll (by decide),fun l hl=>aep (h.ls l hl) (by decide),aep h.pl (by decide),fun p hp=>(h.ps p hp).ok⟩
def Cy.WC.ok {n:Gr.R} (h:Cy.WC n):WE n:=
 ⟨⟨by have:=h.lo;omega,by have:=h.hi;omega⟩,aep h.tl (by decide),⟨by have:=h.src;omega,by have:=h.src;omega⟩,⟨by have:=h.dst;omega,by have:=h.dst;omega⟩,aep h.pl (by decide),fun p hp=>(h.ps p hp).ok⟩
def Cy.qP.ok {g:Gr.G} (h:Cy.qP g):Jl g:=
 ⟨aep h.lens.1 (by decide),fun n hn=>(h.ns n hn).ok,aep h.lens.2 (by decide),fun n hn=>(h.rs n hn).ok⟩
def VG {β:Type} {W:World} {B e size n c:Nat} {A:Option Addr} {R:β->List Value->Prop} {l:List (β×List Value)} (h:W.ownsRow B e size (.slice A n c) n (l.flatMap Prod.snd)) (hn:l.length=n) (hs: ∀x∈l,x.2.length=size) (hR: ∀x∈l,R x.1 x.2):dD W W.heap.size size R A (l.map Prod.fst):=fun i a ha=>by
 rw[aeY]at ha;obtain⟨x,hx,rfl⟩:=afr.1 ha;have hi:=(aeK.1 hx).1;obtain⟨b,off,e,hb,hc⟩:=(Reads.dZ h).2 (by omega)
 have hm:=aew hx;refine⟨b,off,x.2,e,hb,hR x hm,hs x hm,fun j u hu=> ?_⟩
 have hj:j<size:=by have:=(aeK.1 hu).1;rw[hs x hm]at this;exact this
 have:=hc _ u ((flat_get (f:=Prod.snd) hs hx j hj).trans hu)
 rwa [<-anL]at this
def eG.c {W:World} {B:Nat} {x:Gr.P×List Value} (h:eG W B x):bg W W.heap.size x.1 x.2:=by
 obtain⟨s,t,e,h1,h2⟩:=h;obtain⟨A1,c1,rfl⟩:=aH h1;obtain⟨A2,c2,rfl⟩:=aH h2;exact⟨A1,c1,A2,c2,e,Reads.dZ h1,Reads.dZ h2⟩
def aT.lst {T:TypeId} {W:World} {B n c:Nat} {A:Option Addr} {ps:List Gr.P} (h:aT T W B (.slice A n c) ps):dD W W.heap.size 6 (bg W W.heap.size) A ps:=by
 obtain⟨l,rfl,h1,h2⟩:=h
 have e:(l.map Prod.fst).length=n:=by
  rcases h2.2 with⟨e,h0⟩|⟨g,cap,cur,e,-⟩
  ·injection e with _ e;rw[h0,e]
  injection e with _ e;exact e.symm
 rw[e]at h2;exact VG h2 (by rw[<-e,aeP]) (fun x hx=>(h1 x hx).len) (fun x hx=>(h1 x hx).c)
def iP.c {W:World} {B:Nat} {x:Gr.N×List Value} (h:iP W B x):lT W W.heap.size x.1 x.2:=by
 obtain⟨s,t,e,h1,h2⟩:=h;obtain⟨A1,c1,rfl⟩:=aH h1;obtain⟨A2,c2,rfl⟩:=h2.form;exact⟨A1,c1,A2,c2,e,Reads.dZ h1,h2.lst⟩
def iQ.c {W:World} {B:Nat} {x:Gr.R×List Value} (h:iQ W B x):lU W W.heap.size x.1 x.2:=by
 obtain⟨t,e,h2⟩:=h;obtain⟨A2,c2,rfl⟩:=h2.form;exact⟨A2,c2,e,h2.lst⟩
def dV.CW {W:World} {B:Nat} {u:Value} {g:Gr.G} (h:dV W B u g) (ok:Jl g):nN W W.heap.size u g:=by
 obtain⟨sn,sr,ln,lr,rfl,q1,q2,q3,q4,q5,q6⟩:=h;obtain⟨A1,c1,rfl⟩:=aH q3;obtain⟨A2,c2,rfl⟩:=aH q6;refine⟨⟨A1,c1,A2,c2,rfl, ?_, ?_⟩,ok⟩
 ·have:=VG q3 (by rw[<-q1,aeP]) (fun x hx=>(q2 x hx).len) (fun x hx=>(q2 x hx).c)
  rwa [q1]at this
 have:=VG q6 (by rw[<-q4,aeP]) (fun x hx=>(q5 x hx).len) (fun x hx=>(q5 x hx).c)
 rwa [q4]at this
def dV.G0 (W:World) (B:Nat):dV W B (.agg #[.slice none 0 0,.slice none 0 0]) Gr.G0:=⟨_,_,[],[],rfl,rfl,by simp,arU _ _ _ _,rfl,by simp,arU _ _ _ _⟩
def dV.below {W W':World} {B:Nat} {u:Value} {g:Gr.G} (h:dV W B u g) (hb:Below W.heap.size W W'):dV W' B u g:=by
 have hk:Kt 0 0 W W':=Kt.of_below hb (anH _);obtain⟨sn,sr,ln,lr,e,q1,q2,q3,q4,q5,q6⟩:=h;exact⟨sn,sr,ln,lr,e,q1,fun x hx=>(q2 x hx).kt hk (by decide) (by decide) (by decide),oh q3 hk (by decide),q4,fun x hx=>(q5 x hx).kt hk (by decide) (by decide) (by decide),oh q6 hk (by decide)⟩
def dV.lower {W:World} {B B':Nat} {u:Value} {g:Gr.G} (h:dV W B u g) (hb:B'<=B):dV W B' u g:=by
 obtain⟨sn,sr,ln,lr,e,q1,q2,q3,q4,q5,q6⟩:=h;refine⟨sn,sr,ln,lr,e,q1,fun x hx=> ?_,jL q3 hb,q4,fun x hx=> ?_,jL q6 hb⟩
 ·obtain⟨s,t,e,o1,o2⟩:=q2 x hx
  exact⟨s,t,e,jL o1 hb,o2.base hb⟩
 obtain⟨t,e,o2⟩:=q5 x hx;exact⟨t,e,o2.base hb⟩
def Cy.VH: ∀(ps:List Gr.P) (seen:List Cy.L),Cy.dJ seen ps=0->seen.Nodup->(seen++ps.map Gr.P.key).Nodup
 |[],seen,_,h=>by simpa using h
 |p :: r,seen,h,hs=>by
  rw[Cy.dJ]at h
  split at h
  ·cases h
  split at h
  ·cases h
  rename_i hm
  split at h
  ·rename_i hc;exact absurd h hc
  have:=VH r (seen++[p.key]) h (Cy.KO hs hm)
  simpa using this
def Cy.acV {g:Gr.G} {p:Cy.aI} (hg:FZ g) (h:(Cy.add g p).2=0):FZ (Cy.add g p).1:=by
 unfold Cy.add at h⊢
 split at h
 ·rename_i hr
  rw[aeu hr];unfold Cy.zS at h⊢
  split at h
  ·rename_i hc;exact absurd h hc
  rename_i hc;rw[aer hc];cases hn:Cy.nM 114 2048 p.word with
  |none=>simp only[hn]at h;cases h
  |some n=>
   simp only[hn]at h⊢
   split at h
   ·cases h
   rename_i hid;rw[aer hid]
   split at h
   ·cases h
   rename_i hgn;rw[aer hgn]
   split at h
   ·rename_i hp;exact absurd h hp
   rename_i hp;rw[aer hp];refine⟨hg.ni, ?_,hg.np,fun r hr=> ?_⟩
   ·show((g.ay++[_]).map Gr.R.id).Nodup
    rw[afg];exact Cy.KO hg.ri hid
   rcases afq.1 hr with hr|hr
   ·exact hg.rp r hr
   rw[afm.1 hr];have:=Cy.VH p.props [] (asJ.1 hp) aqo
   simpa using this
 rename_i hr;rw[aer hr];unfold Cy.addNode at h⊢;cases hn:Cy.nM 110 1024 p.first with
 |none=>simp only[hn]at h;cases h
 |some n=>
  simp only[hn]at h⊢
  split at h
  ·cases h
  rename_i hid;rw[aer hid]
  split at h
  ·rename_i hp;exact absurd h hp
  rename_i hp;rw[aer hp];refine⟨?_,hg.ri,fun r hr=> ?_,hg.rp⟩
  ·show((g.nodes++[_]).map Gr.N.id).Nodup
   rw[afg];exact Cy.KO hg.ni hid
  rcases afq.1 hr with hr|hr
  ·exact hg.np r hr
  rw[afm.1 hr];have:=Cy.VH p.props [] h aqo
  simpa using this
def afH:FZ Gr.G0:=⟨aqo,aqo,by simp[Gr.G0],by simp[Gr.G0]⟩
structure EJ (w:World) (mk m1 m2:Nat) (ps:List Cy.aI) (A:Option Addr) (n c:Nat) (g:Gr.G) (k:Nat) (V:World):Prop where
 NP:gZ (w.heap.size+1) mk m1 m2 g (g.nodes.map Gr.N.id) (g.ay.map Gr.R.id) V
 rows:qA V (w.heap.size+1) (.slice A n c) ps
 res:ak V w.heap.size 26 #[.slice none 0 0,.slice none 0 0]
 bel:Below w.heap.size w V
 mkd:Cy.make Gr.G0 ps=Cy.make g (ps.drop k)
 sz:Cy.qP g
 ds:FZ g
def qA.at {V:World} {B n c k:Nat} {A:Option Addr} {ps:List Cy.aI} {p:Cy.aI} (h:qA V B (.slice A n c) ps) (hn:ps.length=n) (hk:ps[k]?=some p): ∃g cs,A=some ⟨g,0,none⟩/\pF V B (p,cs)/\cs.length=5/\ ∀j,j<5->V.cell? ⟨g,k*5+j,none⟩=cs[j]?:=by
 obtain⟨l,rfl,h1,h2⟩:=h;rw[hn]at h2;rw[aeY]at hk;obtain⟨x,hx,rfl⟩:=afr.1 hk
 have hlen: ∀y∈l,y.2.length=5:=fun y hy=>by
  obtain⟨s,t,e,-,-⟩:=h1 y hy;rw[e];rfl
 have hm:=aew hx;have hkn:k<n:=by have:=(aeK.1 hx).1;rw[aeP]at hn;omega
 obtain⟨g,e,-⟩:=yh h2 (t:=k*5) (by omega)
 refine⟨g,x.2,e,h1 x hm,hlen x hm,fun j hj=> ?_⟩
 obtain⟨g',e',-,hc,-⟩:=yh h2 (t:=k*5+j) (by omega)
 rw[e]at e';cases e';rw[hc,flat_get hlen hx j hj]
def qA.lower {W:World} {B B':Nat} {v:Value} {ps:List Cy.aI} (h:qA W B v ps) (hb:B'<=B):qA W B' v ps:=by
 obtain⟨l,e,h1,h2⟩:=h;refine⟨l,e,fun x hx=> ?_,jL h2 hb⟩
 obtain⟨s,t,e,o1,o2⟩:=h1 x hx;exact⟨s,t,e,jL o1 hb,o2.base hb⟩
def EJ.next {w V V5 V6:World} {mk m1 m2 n c k:Nat} {ps:List Cy.aI} {A:Option Addr} {g:Gr.G} {p:Cy.aI} (h:EJ w mk m1 m2 ps A n c g k V) (hp:ps[k]?=some p) (hz:Cy.rH p) (b5:Below V.heap.size V V5) (k6:Kp (w.heap.size+1) V5 V6) (he:(Cy.add g p).2=0) (hm:gZ (w.heap.size+1) mk m1 m2 (Cy.add g p).1 ((Cy.add g p).1.nodes.map Gr.N.id) ((Cy.add g p).1.ay.map Gr.R.id) V6):EJ w mk m1 m2 ps A n c (Cy.add g p).1 (k+1) V6:=by
 have k5:Kp (w.heap.size+1) V V5:=Kp.of_below b5 h.NP.lt;have k7:=k5.trans k6;refine⟨hm,h.rows.kp k7,k7.keep _ _ _ _ h.res (by decide) (by decide) (by decide),h.bel.trans (k7.bel.mono (by omega)), ?_,Cy.UJ h.sz hz,Cy.acV h.ds he⟩
 rw[h.mkd,afk (aeK.1 hp).1,(aeK.1 hp).2,Cy.make,aer (by rw[he];decide)]
def EJ.stop {w V V5 V6:World} {mk m1 m2 n c k:Nat} {ps:List Cy.aI} {A:Option Addr} {g:Gr.G} {p:Cy.aI} (h:EJ w mk m1 m2 ps A n c g k V) (hp:ps[k]?=some p) (b5:Below V.heap.size V V5) (k6:Kp (w.heap.size+1) V5 V6) (he:(Cy.add g p).2≠0):
  Cy.make Gr.G0 ps=(Gr.G0,(Cy.add g p).2)/\ak V6 w.heap.size 26 #[.slice none 0 0,.slice none 0 0]/\Below w.heap.size w V6:=by
 have k7:=(Kp.of_below b5 h.NP.lt:Kp (w.heap.size+1) V V5).trans k6;refine⟨?_,k7.keep _ _ _ _ h.res (by decide) (by decide) (by decide),h.bel.trans (k7.bel.mono (by omega))⟩
 rw[h.mkd,afk (aeK.1 hp).1,(aeK.1 hp).2,Cy.make,aeu he]
def acW (w:World) (R:Gr.G×Nat) (e:Ending) (w':World):Prop:= ∃u,e=.returned (.tuple #[u,.int .i64 (R.2:Nat)])/\dV w' w.heap.size u R.1/\Below w.heap.size w w'
def vJ {fn:Func} {R:Ending->World->Prop} {tmps:Array Value} {W:World} {p q:Tmp} {b:Nat} {v0 v1 v2:Value} (hfn:fn.results= #[.cell p 26,.tmp q])
  (ht:tmps.getD p undef=.pointer (some ⟨b,0,none⟩)) (hq:tmps.getD q undef=v2) (hB:ak W b 26 #[v0,v1]) (hR:R (.returned (.tuple #[.agg #[v0,v1],v2])) W):
  bodyPost prog fn R .ret {tmps:=tmps,defers:=[]} W:=by
 obtain⟨c0,c1⟩:=cells2 hB;refine arW (v:=.tuple #[.agg #[v0,v1],v2]) ?_ rfl hR;simp at ht hq;simp[results,hfn,go_sem,ht,hq,c0,c1]
def ak.failed {w V:World} {u0 u1:Value} (h:ak V w.heap.size 26 #[u0,u1]) (hb:Below w.heap.size w V) (v0 v1:Value):ak ((V.setCell ⟨w.heap.size,0,none⟩ v0).setCell ⟨w.heap.size,1,none⟩ v1) w.heap.size 26 #[v0,v1]/\Below w.heap.size w ((V.setCell ⟨w.heap.size,0,none⟩ v0).setCell ⟨w.heap.size,1,none⟩ v1):=
 ⟨ak.cast ((h.aG 0 v0).aG 1 v1) (by simp),(hb.setCell (p:=⟨w.heap.size,0,none⟩) (aej _) v0).setCell (p:=⟨w.heap.size,1,none⟩) (aej _) v1⟩
def VI (s:ByteArray) (hs:s.size<=1073741823) (w:World) (hL: ∀V,Below w.heap.size w V->Laid V):Calls prog 5 #[.string s] w (acW w (Cy.parse s.data.toList)):=by
 obtain⟨R,hR⟩:=aj (Cy.parse s.data.toList);rw[hR];unfold Cy.parse at hR;have hb1:Below w.heap.size w (w.alloc (.cells #[.slice none 0 0,.slice none 0 0] 26)):=(aoa _ w).alloc (aej _) _;have hk1:=ak.new w 26 #[.slice none 0 0,.slice none 0 0];obtain⟨W1,hW1⟩:=aj (w.alloc (.cells #[.slice none 0 0,.slice none 0 0] 26));have hsz1:W1.heap.size=w.heap.size+1:=by rw[<-hW1];simp
 rw[hW1]at hb1 hk1;have HA:=ah (ajV s hs W1 (hL W1 hb1));have hok:=Cy.UD s.data.toList;have htl:=Cy.UE s.data.toList;obtain⟨ts,oe,hrd⟩: ∃ts oe,Lex.read s.data.toList=(ts,oe):=⟨_,_,rfl⟩;have herr:=fun(p e:Nat) (h:(Lex.read s.data.toList).2=some (p,e))=>Cy.UF h
 rw[hrd]at HA hok htl hR herr;refine gq8 hL hb1 hk1 hsz1 hok htl hR herr fun HL HB1 dw bf bF kJ HR HE=>?_;clear herr hL hb1 hk1 hsz1 hok htl hR hrd hs;go_enter func5,ntmps5;go_wp2_with fail;refine HA.mono ?_;rintro e w2 ⟨b2,hres⟩;clear HA;have hk2:=dw.below b2 dw.lt;have hb2:=HB1.trans (b2.mono HB1.size);obtain⟨a0,a1⟩:=cells2 hk2;have f0:=hk2.frozen 0;have f1:=hk2.frozen 1;refine gq3 (hk2.failed hb2) hk2 hb2 fun uV aP HB2=>?_;clear hk2 hb2;cases oe with
 |some pe=>
  obtain⟨p,e0⟩:=pe;subst hres;have he:R=(Gr.G0,e0):=HR.symm;subst he
  have hne:((e0:Int) !=0)=true:=by
   have:=HE.out p e0 rfl;simp;omega
  go_wp2_with fail;exact vJ rfl (by simp) (by simp) (uV.out _ _).1 ⟨_,rfl,dV.G0 _ _,(uV.out _ _).2⟩
 |none=>
  obtain⟨v2,rfl,o2⟩:=hres;obtain⟨A2,c2,e2⟩:=aH (show w2.ownsRow _ _ _ v2 _ _ from o2)
  obtain⟨n,hn⟩:=aj ts.length;rw[hn]at e2;subst e2;have o3:w2.ownsRow W1.heap.size 94 4 (.slice A2 n c2) ts.length (nC ts):=o2;rw[hn]at o3;have hrt:=Reads.dZ o3;have HP:=ah (akh w2.heap.size A2 n c2 ts w2 hrt hn (hn▸kJ.out) bF.out (aej _));obtain⟨op,hop⟩:=aj (Cy.patterns ts);rw[hop]at HP;have MQ:=ah hop;clear o2 o3 hrt hn hop;go_wp2_with fail;refine HP.mono ?_;rintro e w3 ⟨b3,hres⟩;clear HP;have hk3:=aP.below b3 aP.lt;have hb3:=HB2.trans (b3.mono HB2.size);obtain⟨a0,a1⟩:=cells2 hk3;have f0:=hk3.frozen 0;have f1:=hk3.frozen 1;refine gq3 (hk3.failed hb3) hk3 hb3 fun uV dX HB3=>?_;clear hk3 hb3;cases op with
  |none=>
   subst hres;have he:R=(Gr.G0,250):=by have:=HR.out;simp only[MQ.out]at this;exact this.symm
   subst he;go_wp2_with fail;exact vJ rfl (by simp) (by simp) (uV.out _ _).1 ⟨_,rfl,dV.G0 _ _,(uV.out _ _).2⟩
  |some ps=>
   obtain⟨v3,rfl,o3⟩:=hres;obtain⟨n3,hn3⟩:=aj ps.length
   obtain⟨A3,c3,e3⟩: ∃A c,v3=.slice A n3 c:=by
    obtain⟨l,-,-,h⟩:=o3;obtain⟨A,c,rfl⟩:=aH h;exact⟨A,c,by rw[hn3]⟩
   subst e3;have Hl:=Cy.UH MQ.out bF.out kJ.out;have hR2:(if(Cy.make Gr.G0 ps).2≠0 then(Gr.G0,(Cy.make Gr.G0 ps).2) else if(Gr.check (Gr.canon (Cy.make Gr.G0 ps).1)).1≠0 then(Gr.G0,(Gr.check (Gr.canon (Cy.make Gr.G0 ps).1)).1) else(Gr.canon (Cy.make Gr.G0 ps).1,0))=R:=by have:=HR.out;simp only[MQ.out]at this;exact this
   have hn31:n3<=16777216:=hn3▸aep Hl.2 kJ.out;have hmm:= @ate prog;obtain⟨W4,tX⟩:=aj (((w3.alloc (.map #[] 0)).alloc (.map #[] 0)).alloc (.cells #[.slice none 0 0,.slice none 0 0,.map (some w3.heap.size),.map (some (w3.heap.size+1))] 53))
   have hs4:EJ w (w3.heap.size+1+1) w3.heap.size (w3.heap.size+1) ps A3 n3 c3 Gr.G0 0 W4:=by
    have hlt:=dX.lt;have b4:Below w3.heap.size w3 ((w3.alloc (.map #[] 0)).alloc (.map #[] 0)):=((aoa _ w3).alloc (aej _) _).alloc (by simp) _
    have b5:Below w3.heap.size w3 W4:=tX▸b4.alloc (by simp;omega) _
    have n1:gU W4 w3.heap.size []:=tX▸((gU.made w3).below ((aoa _ _).alloc (aej _) _)).below ((aoa _ _).alloc (aej _) _)
    have n2:gU W4 (w3.heap.size+1) []:=by
     have:=(gU.made (w3.alloc (.map #[] 0))).below ((aoa _ _).alloc (aej _) (.cells #[.slice none 0 0,.slice none 0 0,.map (some w3.heap.size),.map (some (w3.heap.size+1))] 53));rw[tX]at this
     simpa using this
    have hkm:ak W4 (w3.heap.size+1+1) 53 #[.slice none 0 0,.slice none 0 0,.map (some w3.heap.size),.map (some (w3.heap.size+1))]:=by
     have:=ak.new ((w3.alloc (.map #[] 0)).alloc (.map #[] 0)) 53 #[.slice none 0 0,.slice none 0 0,.map (some w3.heap.size),.map (some (w3.heap.size+1))];rw[tX]at this
     simpa using this
    have hsz:=HB2.size;refine⟨⟨⟨_,_,[],[],hkm,rfl,by simp,arU _ _ _ _,rfl,by simp,arU _ _ _ _⟩,n1,n2,⟨by omega,by omega,by omega,by omega⟩⟩, ?_,dX.below b5 dX.lt,HB3.trans (b5.mono (by omega)),rfl,Cy.Qd,afH⟩
    exact(o3.lower (by omega)).kp (Kp.of_below b5 (aej w3.heap.size))
   refine gq4 hs4 Hl.1 hn3 hR2 fun HS Yr CX HR2=>?_;clear hs4 Hl hn3 hR2 HR o3;go_wp2_with fail
   go_loopg [41] n3 (fun kx s41 wr=> ∃(k:Nat) (g:Gr.G),s41=.int .i64 k/\k+kx=n3/\EJ w (w3.heap.size+1+1) w3.heap.size (w3.heap.size+1) ps A3 n3 c3 g k wr)
   case atStart=>exact⟨0,_,rfl,by omega,HS.out⟩
   obtain⟨k,g,rfl,hk,hs⟩:=hrel;clear HS uV f0 f1 a0 a1 tX;have HS:=ah hs;cases gk with
   |zero=>
    obtain rfl:k=n3:=by omega
    have hmk:Cy.make Gr.G0 ps=(g,0):=by rw[hs.mkd,agS (by rw[CX.out];exact aej _)];rfl
    obtain⟨sn,sr,ln,lr,hkm,p1,p2,p3,p4,p5,p6⟩:=hs.NP.ex;obtain⟨A1,c1,rfl⟩:=aH p3;obtain⟨A2,c2,rfl⟩:=aH p6;obtain⟨e0,e1,-,-⟩:=cells4 hkm;have hgo:dV wr (w.heap.size+1) (.agg #[.slice A1 g.nodes.length c1,.slice A2 g.ay.length c2]) g:=⟨_,_,ln,lr,rfl,p1,p2,p3,p4,p5,p6⟩;have HC:=ah (ak1 wr.heap.size _ g wr (hgo.CW hs.sz.ok) (aej _) hs.ds);have Yt:=HR2.out;rw[hmk,aer (by simp)]at Yt
    have HR3:=ah Yt;clear hmk hkm p1 p2 p3 p4 p5 p6 hgo Yt hs HR2;go_wp2_with fail;refine HC.mono ?_;rintro e w7 ⟨u7,rfl,g7,b7⟩
    obtain⟨A3,m3,c5,A4,m4,c6,rfl⟩: ∃A n c B m d,u7=.agg #[.slice A n c,.slice B m d]:=by
     obtain⟨sn,sr,ln,lr,rfl,-,-,h3,-,-,h6⟩:=g7;obtain⟨A,c,rfl⟩:=aH h3;obtain⟨B,d,rfl⟩:=aH h6;exact⟨A,_,c,B,_,d,rfl⟩
    have hb8:Below w7.heap.size w7 (w7.alloc (.cells #[.slice A3 m3 c5,.slice A4 m4 c6] 26)):=(aoa _ _).alloc (aej _) _;have hk8:=ak.new w7 26 #[.slice A3 m3 c5,.slice A4 m4 c6];have g8:=g7.below hb8;have bH:=ah (acU _ _ _ _ (g8.CW (Cy.UK HS.sz).ok) (aej _));obtain⟨e0,e1⟩:=cells2 hk8;have hres:=(HS.res.below b7 HS.res.lt).below hb8 (HS.res.below b7 HS.res.lt).lt;have HX:=ah (And.intro g8 (And.intro hk8 (And.intro hres (HS.bel.trans ((b7.trans (hb8.mono b7.size)).mono HS.bel.size)))));have hwr:=HS.bel.size;clear g7 b7 hb8 hk8 g8 hres HC;go_wp2_with fail;refine mq8 bH fun w9 b9=>?_;clear bH;obtain⟨g8,hk8,hres,hb8⟩:=HX.out;have hk9:=hk8.below b9 hk8.lt;have jW:=hres.below b9 hres.lt;have aB:=hb8.trans (b9.mono hb8.size);obtain⟨e0,e1⟩:=cells2 hk9;obtain⟨a0,a1⟩:=cells2 jW;have f0:=jW.frozen 0;have f1:=jW.frozen 1;have uV:=ah (jW.failed aB);have pY:=ah (((g8.below b9).kt (Kt.cell (base:=0) jW (anH _) 0 (.slice A3 m3 c5)) (by decide) (by decide) (by decide) (by decide) (by decide)).kt (Kt.cell (base:=0) (jW.aG 0 (.slice A3 m3 c5)) (anH _) 1 (.slice A4 m4 c6)) (by decide) (by decide) (by decide) (by decide) (by decide))
    obtain⟨E,hE⟩:=aj ((Gr.check (Gr.canon g)).1);rw[hE];have RQ:=HR3.out;rw[hE]at RQ;clear g8 hk8 hres hb8 hk9 jW aB b9 HX HR3;by_cases hE0:E=0
    ·subst hE0
     obtain rfl:R=(Gr.canon g,0):=RQ.symm;go_wp2_with fail;exact vJ rfl (by simp) (by simp) (uV.out _ _).1 ⟨_,rfl,pY.lower hwr,(uV.out _ _).2⟩
    obtain rfl:R=(Gr.G0,E):=by rw[aeu hE0]at RQ;exact RQ.symm
    have hne:((E:Int) !=0)=true:=by simp;omega
    go_wp2_with fail;exact vJ rfl (by simp) (by simp) (uV.out _ _).1 ⟨_,rfl,dV.G0 _ _,(uV.out _ _).2⟩
   |succ kq=>
    have hkn:k<n3:=by omega
    have fQ:(k:Int)<(n3:Int):=by omega
    obtain⟨p,hp⟩: ∃p,ps[k]?=some p:=⟨_,aen (by rw[CX.out];exact hkn)⟩
    have hpz:=Yr.out p (aew hp);obtain⟨gp,cs,rfl,hpc,-,hcell⟩:=hs.rows.at CX.out hp;obtain⟨A1,c1,A2,c2,rfl,-,-⟩:=hpc.form;have q0:=hcell 0 (by decide)
    have q1:=hcell 1 (by decide)
    have q2:=hcell 2 (by decide)
    have q3:=hcell 3 (by decide)
    have q4:=hcell 4 (by decide)
    simp only[aeQ,aev,agw]at q0 q1 q2 q3 q4;have hb5:Below wr.heap.size wr (wr.alloc (.cells #[ST p.first,ST p.word,ST p.other,.slice A1 p.names.length c1,.slice A2 p.props.length c2] 56)):=(aoa _ wr).alloc (aej _) _;have hk5:=ak.new wr 56 #[ST p.first,ST p.word,ST p.other,.slice A1 p.names.length c1,.slice A2 p.props.length c2];have Yu:=hpc.kp (Kp.of_below hb5 hs.NP.lt);have Yv:=hs.NP.below hb5;have hl5: ∀V,Below (w.heap.size+1) (wr.alloc (.cells #[ST p.first,ST p.word,ST p.other,.slice A1 p.names.length c1,.slice A2 p.props.length c2] 56)) V->Laid V:=fun V hV=>HL.out V ((hs.bel.trans (hb5.mono hs.bel.size)).trans (hV.mono (by omega)))
    have hgl:=hs.sz.lens
    have hadd:Calls prog (if p.rel then 13 else 12) #[.pointer (some ⟨w3.heap.size+1+1,0,none⟩),.agg #[ST p.first,ST p.word,ST p.other,.slice A1 p.names.length c1,.slice A2 p.props.length c2]] (wr.alloc (.cells #[ST p.first,ST p.word,ST p.other,.slice A1 p.names.length c1,.slice A2 p.props.length c2] 56)) (Qp (w.heap.size+1) (w3.heap.size+1+1) w3.heap.size (w3.heap.size+1) (Cy.add g p) (wr.alloc (.cells #[ST p.first,ST p.word,ST p.other,.slice A1 p.names.length c1,.slice A2 p.props.length c2] 56))):=by
     unfold Cy.add;by_cases hr:p.rel=true
     ·rw[aeu hr,aeu hr]
      exact akq Yv Yu hpz hr (by omega) (by omega) hl5
     rw[aer hr,aer hr];exact akp Yv Yu hpz (by omega) hl5
    have hrw:p.rel=true↔(⟨p.word.toArray⟩:ByteArray).toList≠ []:=by rw[zV];exact hpz.rw_
    simp only[ST]at q0 q1 q2 hb5 hk5 hadd;obtain⟨z1,hz1⟩:=aj (⟨p.first.toArray⟩:ByteArray);obtain⟨z2,hz2⟩:=aj (⟨p.word.toArray⟩:ByteArray);obtain⟨z3,hz3⟩:=aj (⟨p.other.toArray⟩:ByteArray);obtain⟨nl,hnl⟩:=aj p.names.length;obtain⟨pl,hpl⟩:=aj p.props.length;rw[hz1,hz2,hz3,hnl,hpl]at hb5 hk5 hadd;rw[hz1]at q0;rw[hz2]at q1 hrw;rw[hz3]at q2;rw[hnl]at q3;rw[hpl]at q4;obtain⟨d0,d1,d2,d3,d4⟩:=cells5 hk5;refine gq5 hs hb5 hadd hp hpz fun dQ dI afI HP afJ=>?_;clear hs hb5 hadd hp hpz hk5 hz1 hz2 hz3 hnl hpl Yu Yv hl5 hgl hpc hcell;obtain⟨b,hb⟩:=aj z2.toList.isEmpty
    have hpr:p.rel= !b:=by
     rw[<-hb];cases h:z2.toList with
     |nil=>rw[h]at hrw;cases hr:p.rel with
      |false=>rfl
      |true=>exact absurd rfl (hrw.1 hr)
     |cons x r=>exact hrw.2 (by rw[h];simp)
    have afK:=afI;rw[hpr]at afK;have gJ:=ah hpr;clear hrw hpr afI
    have fin: ∀(e:Ending) (w6:World),Qp (w.heap.size+1) (w3.heap.size+1+1) w3.heap.size (w3.heap.size+1) (Cy.add g p) (wr.alloc (.cells #[.string z1,.string z2,.string z3,.slice A1 nl c1,.slice A2 pl c2] 56)) e w6->
      ∃E:Nat,e=.returned (.int .i64 (E:Nat))/\((E=0/\EJ w (w3.heap.size+1+1) w3.heap.size (w3.heap.size+1) ps (some ⟨gp,0,none⟩) n3 c3 (Cy.add g p).1 (k+1) w6)\/(E≠0/\R=(Gr.G0,E)/\ak w6 w.heap.size 26 #[.slice none 0 0,.slice none 0 0]/\Below w.heap.size w w6)):=fun e w6 h=>by
     obtain⟨rfl,k6,hm6⟩:=h;refine⟨_,rfl, ?_⟩;by_cases hE0:(Cy.add g p).2=0
     ·exact .inl ⟨hE0,dQ.next HP.out afJ.out dI.out k6 hE0 (hm6 hE0)⟩
     obtain⟨h1,h2,h3⟩:=dQ.stop HP.out dI.out k6 hE0;refine .inr ⟨hE0, ?_,h2,h3⟩;have:=HR2.out;rw[h1,aeu hE0]at this;exact this.symm
    have FIN:=ah fin;clear fin HR2 dI HP afJ dQ;cases b
    all_goals
     go_wp2_with fail;refine afK.mono ?_;intro e w6 h6;obtain⟨E,rfl,⟨rfl,hs6⟩|⟨hE,rfl,hk6,hb6⟩⟩:=FIN.out e w6 h6
     ·have iU:=ah hs6
      clear h6 hs6;go_wp2_with fail
      go_roundg kq
      case measure=>omega
      exact⟨k+1,_,by simp,by omega,iU.out⟩
     have hne:((E:Int) !=0)=true:=by simp;omega
     obtain⟨a0,a1⟩:=cells2 hk6;have f0:=hk6.frozen 0;have f1:=hk6.frozen 1;have uV:=ah (hk6.failed hb6);clear hk6 hb6 h6 hE;go_wp2_with fail;exact vJ rfl (by simp) (by simp) (uV.out _ _).1 ⟨_,rfl,dV.G0 _ _,(uV.out _ _).2⟩
structure VJ (p:Gr.P):Prop where
 ok:vT p
 key:p.key.length<=40
 val:LoV p.val
def VK (n:Int) (w:World) (hn:au.In64 n) (hL:Laid w):
  Calls prog 24 #[.int .i64 n] w fun e w'=>e=.returned (.string ⟨(110 :: Lib.itoa n).toArray⟩)/\Below w.heap.size w w':=by
 have hc:=Ud n w hn.1 hn.2 hL;have hl:=KH hn.1 hn.2;obtain⟨z,hz⟩:=aj (⟨(Lib.itoa n).toArray⟩:ByteArray);have hzs:z.size<=21:=by rw[<-hz,dR];exact hl
 have HR:=ah (show(⟨(110 :: Lib.itoa n).toArray⟩:ByteArray)=⟨#[110]⟩++z by rw[<-hz];apply aho;simp)
 rw[hz]at hc;have HC:=ah hc;clear hc hl hz;go_enter func24,ntmps24;go_wp2_with fail;refine mq8 HC fun w' hb=>?_;have HB:=ah hb;clear hb;go_wp2;go_ret;exact⟨by rw[HR.out];rfl,HB.out⟩
def acX (B:Nat) (A:Option Addr) (c:Nat) (ps:List Gr.P) (w:World) (h:dD w B 6 (bg w B) A ps) (hB:B<=w.heap.size) (hl:ps.length<=16) (hs: ∀p∈ps,VJ p) (hm:(Cy.x8 ps).length<=1000) (hL:Laid w):
  Calls prog 25 #[.slice A ps.length c] w fun e w'=>e=.returned (.string ⟨(Cy.x8 ps).toArray⟩)/\Below w.heap.size w w':=by
 obtain⟨R,hR⟩:=aj (Cy.x8 ps);rw[hR]at hm⊢;unfold Cy.x8 at hR;have HM:=ah hm;clear hm;obtain⟨n,hn⟩:=aj ps.length;rw[hn]at hl⊢;refine gq6 h hs hn hL hB hR fun HH HS HN HL eY HR=>?_;clear h hs hL hB hR;by_cases h0:ps=[]
 ·have hn0:n=0:=by rw[<-hn,h0];rfl
  subst hn0;have HF:=ah (show R=[] by rw[<-HR.out,aeu h0])
  clear h0 hn;go_enter func25,ntmps25;go_wp2;go_ret;exact⟨by rw[HF.out];rfl,aoa _ _⟩
 have hpos:0<n:=by rw[<-hn];exact afB.2 h0
 have hne:(n == 0)=false:=aek.2 (by omega)
 have hni:(0:Int)<n:=by omega
 have arb:(n:Int)<=16:=by omega
 have ard:((n:Int) == 0)=false:=aek.2 (by omega)
 have HF:=ah (show R=[32,123]++Cy.join [44,32] (ps.map Cy.Bo)++[125] by rw[<-HR.out,aer h0])
 have HJL:=ah (show(Cy.join [44,32] (ps.map Cy.Bo)).length<=1000 by have h1:=HM.out;rw[HF.out]at h1;simp only[aeo,ae7]at h1;omega)
 clear h0 hn hpos HR;go_enter func25,ntmps25;go_wp2_with fail
 go_loopg [13,3] n (fun g x y wr=> ∃(k c:Nat) (A:Option Addr),x=.int .i64 k/\y=.slice A k c/\k+g=n/\PR w ((ps.take k).map Cy.Bo) A k c wr)
 case atStart=>exact⟨0,0,none,rfl,rfl,by omega,rfl,arU _ _ _ _,aoa _ _⟩
 obtain⟨k,ca,A2,rfl,rfl,hk,hrel⟩:=hrel;have HK:=ah hk;cases gk with
 |zero=>
  obtain rfl:k=n:=by omega
  rw[aeG (by have:=HN.out;omega)]at hrel
  have HQ:=ah hrel;have hjc:=ab6 w.heap.size 9 A2 ca _ wr k HQ.len (by omega) HQ.own (by have:=HJL.out;omega)
  obtain⟨jz,hjz⟩:=aj (⟨(Cy.join [44,32] (ps.map Cy.Bo)).toArray⟩:ByteArray);rw[hjz]at hjc;have hjs:jz.size<=1000:=by rw[<-hjz,dR];exact HJL.out
  have qj:=ah (show(⟨R.toArray⟩:ByteArray)=⟨#[32,123]⟩++jz ++⟨#[125]⟩ by apply aho;rw[HF.out,<-hjz];simp)
  have X9:=ah hjc;clear hjc hjz hrel hk;have hq2:(⟨#[32,123]⟩++jz:ByteArray).size<=1002:=by rw[afU];show 2+jz.size<=1002;omega
  go_wp2_with fail;refine mq8 X9 fun w4 hb4=>?_;have oN:=ah (HQ.bel.trans (hb4.mono HQ.bel.size));clear hb4;go_wp2;go_ret;exact⟨by rw[qj.out];rfl,oN.out⟩
 |succ g=>
  have hkn:k<n:=by omega
  have dW:(k:Int)<n:=by omega
  obtain⟨p,hp⟩: ∃p,ps[k]?=some p:=⟨_,aen (by rw[HN.out];exact hkn)⟩
  have hmt:=map_take hp Cy.Bo;obtain⟨LL,Ns⟩:=aj ((ps.take k).map Cy.Bo);rw[Ns]at hrel hmt;have HQ:=ah hrel;have X7:=ah hmt;have hB:=eY.out;have Ai:=HH.below (HQ.bel.mono hB) (bg.below (HQ.bel.mono hB));obtain⟨b,o,An,cn,At,ct,rfl,hbB,⟨c0,c1,c2,c3,c4,c5⟩,r1,r2⟩:=Ai.prop hp;have hpp:=HS.out p (aew hp);obtain⟨z,hz⟩:=aj (⟨p.key.toArray⟩:ByteArray);obtain⟨zt,aK⟩:=aj (⟨p.val.text.toArray⟩:ByteArray);unfold ST at c0 c3;rw[hz]at c0;rw[aK]at c3;clear hp hk hkn hmt Ns hrel;obtain⟨W1,hW1⟩:=aj (wr.alloc (.cells #[.string z,.int .i64 p.val.kind,.int .i64 p.val.num,.string zt,.slice An p.val.nums.length cn,.slice At p.val.texts.length ct] 143));have hb1:Below wr.heap.size wr W1:=by rw[<-hW1];exact(aoa _ wr).alloc (aej _) _
  have k1:ak W1 wr.heap.size 143 #[.string z,.int .i64 p.val.kind,.int .i64 p.val.num,.string zt,.slice An p.val.nums.length cn,.slice At p.val.texts.length ct]:=by rw[<-hW1];exact ak.new _ _ _
  have hBr:B<=wr.heap.size:=aep hB HQ.bel.size;have Yw:=ah (HQ.below hb1);have xA:=(zX (cn:=cn) (ct:=ct) hpp.ok.val r1 r2).below (hb1.mono hBr);unfold ST at xA;rw[aK]at xA;have hcall:=acD B _ p.val W1 xA hpp.val (aep hBr hb1.size) (HL.below Yw.bel);obtain⟨zl,hzl⟩:=aj (⟨(Cy.lit p.val).toArray⟩:ByteArray);rw[hzl]at hcall;refine gq3 hcall hW1 k1 fun HC HW1 dw=>?_;have hzs:z.size<=40:=by rw[<-hz,dR];exact hpp.key
  have arf:zl.size<=1000:=by rw[<-hzl,dR];exact hpp.val.len
  have Ri:=ah (show(⟨(Cy.Bo p).toArray⟩:ByteArray)=z ++⟨#[58,32]⟩++zl by unfold Cy.Bo;apply aho;rw[<-hz,<-hzl];simp)
  have hq2:(z ++⟨#[58,32]⟩:ByteArray).size<=42:=by rw[afU];show z.size+2<=42;omega
  clear hW1 hb1 k1 xA hcall hz aK Ai r1 r2 hBr hbB hpp hzl HQ
  go_upto_region 7 with fail
  rw[HW1.out];clear c0 c1 c2 c3 c4 c5 HW1;obtain⟨d0,d1,d2,d3,d4,d5⟩:=Ah dw.out;go_wp2_with fail;refine mq8 HC fun w3 hb3=>?_;have Az:=ah (Yw.below hb3);have dX:=ah (dw.below hb3 dw.lt);clear hb3 Yw d0 d1 d2 d3 d4 d5 HC;obtain⟨d0,d1,d2,d3,d4,d5⟩:=Ah dX.out;have hbg:=Az.bel.size;have hkl:k<1073741824:=by omega
  go_upto_region 8 with fail
  go_wp2_with (at_builtin;refine jD ?a1 (.tmp 23) (.tmp 29) 34 9 (.string ⟨#[]⟩) 16 ?a2 ?a3 ?a4 ?a5 ?a6 w.heap.size (.slice A2 k ca) k (LL.map ST) w3 ?a7 ?a8 (.string (z ++⟨#[58,32]⟩++zl)) ?a9 ?a10 ?a11 ?a12 ?a13)
  case a2=>exact ar0
  case a3=>exact DK
  case a5=>decide
  case a8=>exact Az.own
  case a11=>exact hkl
  case a12=>exact hbg
  all_goals first|rfl|skip
  intro v9 w9 aF aO bI aB;obtain⟨A9,c9,rfl⟩:=aH aF;have oC:=ah (Az.next Ri.out aF aB X7.out);clear aF aO bI aB d0 d1 d2 d3 d4 d5;go_wp2
  go_roundg g
  case measure=>omega
  exact⟨k+1,c9,A9,int_eq (by omega),rfl,by have:=HK.out;omega,oC.out⟩
end Go.Proofs.YtdijgcnlbfgkdaaGreatDoor
