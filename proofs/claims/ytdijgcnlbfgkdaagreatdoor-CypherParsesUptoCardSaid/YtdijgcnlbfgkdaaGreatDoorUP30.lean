/- Lemmas. -/
import Derived.Test.YtdijgcnlbfgkdaaGreatDoorUP24
import Derived.Test.YtdijgcnlbfgkdaaGreatDoorUP26
import Derived.Test.YtdijgcnlbfgkdaaGreatDoorUP29
set_option maxHeartbeats 64000000
set_option maxRecDepth 1000000
set_option linter.all false
namespace Go.Proofs.YtdijgcnlbfgkdaaGreatDoor
open Go.RowKit Go.Proofs.Tryz
variable {q:Nat}
attribute [local go_sem] ar4
def Cy.Ld {f:Cy.Cu->Cy.Cu} (hb: ∀s,s.bad=true->(f s).bad=true) (hl: ∀s,(f s).bad=true\/(f s).l.length<s.l.length) {n:Nat} {s:Cy.Cu} (h:s.bad=true\/s.l.length<=n):(f s).bad=true\/(f s).l.length<n:=by
 rcases h with h|h
 ·exact .inl (hb s h)
 rcases hl s with h2|h2
 ·exact .inl h2
 exact .inr (by omega)
def Cy.le_step {f:Cy.Cu->Cy.Cu} (hb: ∀s,s.bad=true->(f s).bad=true) (hl: ∀s,(f s).bad=true\/(f s).l.length<=s.l.length) {n:Nat} {s:Cy.Cu} (h:s.bad=true\/s.l.length<=n):(f s).bad=true\/(f s).l.length<=n:=by
 rcases h with h|h
 ·exact .inl (hb s h)
 rcases hl s with h2|h2
 ·exact .inl h2
 exact .inr (by omega)
def Cy.V3 {n:Nat} {s:Cy.Cu} (h:s.bad=true\/s.l.length<n):s.bad=true\/s.l.length<=n:=h.imp id anu
def Cy.adE: ∀(f:Nat) (s:Cy.Cu) (acc:List Gr.P),(Cy.qF f s acc).2.bad=true\/(Cy.qF f s acc).2.l.length<=s.l.length
 |0,s,_=> .inr (aej _)
 |f+1,s,acc=>by
  rw[Cy.qF]
  split
  ·exact .inr (aej _)
  simp only
  rcases Cy.adw (decide (0<acc.length)) s with h|h
  ·rw[Cy.I7 h];exact .inl h
  rcases Cy.adE f (Cy.vM (decide (0<acc.length)) s).2 (acc++[(Cy.vM (decide (0<acc.length)) s).1]) with h2|h2
  ·exact .inl h2
  exact .inr (by omega)
def Cy.alY (s:Cy.Cu):(Cy.kX s).2.bad=true\/(Cy.kX s).2.l.length<=s.l.length:=by
 unfold Cy.kX
 split
 ·simp only
  refine Cy.V3 (Cy.Ld (fun _=>Cy.bW) (Cy.uF [125]) ?_)
  rcases Cy.uF [123] s with h|h
  ·rw[Cy.I7 h];exact .inl h
  rcases Cy.adE ((Cy.aV [123] s).l.length+1) (Cy.aV [123] s) [] with h2|h2
  ·exact .inl h2
  exact .inr (by omega)
 exact .inr (aej _)
def Cy.adF: ∀(f:Nat) (s:Cy.Cu) (acc:List Cy.L),(Cy.qG f s acc).2.bad=true\/(Cy.qG f s acc).2.l.length<=s.l.length
 |0,s,_=> .inr (aej _)
 |f+1,s,acc=>by
  rw[Cy.qG]
  split
  ·rcases Cy.adC s with h|h
   ·rw[Cy.I9 h];exact .inl h
   rcases Cy.adF f (Cy.dA (Cy.aV [58] s)).2 (acc++[(Cy.dA (Cy.aV [58] s)).1]) with h2|h2
   ·exact .inl h2
   exact .inr (by omega)
  exact .inr (aej _)
def Cy.mL {m:Cy.L} {n:Nat} {s:Cy.Cu} (h:s.bad=true\/s.l.length<=n):(Cy.aV m s).bad=true\/(Cy.aV m s).l.length<=n:=Cy.V3 (Cy.Ld (fun _=>Cy.bW) (Cy.uF m) h)
def Cy.wL {n:Nat} {s:Cy.Cu} (h:s.bad=true\/s.l.length<=n):(Cy.dA s).2.bad=true\/(Cy.dA s).2.l.length<=n:=Cy.V3 (Cy.Ld (f:=fun s=>(Cy.dA s).2) (fun _=>Cy.oz) Cy.Ja h)
def Cy.pL {n:Nat} {s:Cy.Cu} (h:s.bad=true\/s.l.length<=n):(Cy.kX s).2.bad=true\/(Cy.kX s).2.l.length<=n:=Cy.le_step (f:=fun s=>(Cy.kX s).2) (fun _=>Cy.I8) Cy.alY h
def Cy.adG (s:Cy.Cu):(Cy.pI s).2.bad=true\/(Cy.pI s).2.l.length<s.l.length:=by
 have h0:s.bad=true\/s.l.length<=s.l.length:=.inr (aej _);unfold Cy.pI
 split
 ·unfold Cy.D6 Cy.F7 Cy.I5 Cy.I4 Cy.relE
  have a1:=Cy.mL (m:=[40]) h0;have a2:=Cy.wL a1;have a3:=Cy.mL (m:=[41]) a2;have a4:=Cy.mL (m:=[45]) a3;have a5:=Cy.mL (m:=[91]) a4;have a6:=Cy.wL a5;have a7:=Cy.mL (m:=[58]) a6;have a8:=Cy.wL a7;have a9:=Cy.pL a8;have b1:=Cy.mL (m:=[93]) a9;have b2:=Cy.mL (m:=[45,62]) b1;have b3:=Cy.mL (m:=[40]) b2;have b4:=Cy.wL b3;clear a1 a2 a3 a4 a5 a6 a7 a8 a9 b1 b2 b3;simp only;exact Cy.Ld (fun _=>Cy.bW) (Cy.uF [41]) b4
 unfold Cy.D7;simp only;refine Cy.Ld (fun _=>Cy.bW) (Cy.uF [41]) (Cy.pL ?_)
 have h1:=Cy.wL (Cy.mL (m:=[40]) h0)
 rcases h1 with h|h
 ·rw[Cy.I9 h];exact .inl h
 rcases Cy.adF ((Cy.dA (Cy.aV [40] s)).2.l.length+1) (Cy.dA (Cy.aV [40] s)).2 [] with h2|h2
 ·exact .inl h2
 exact .inr (by omega)
def Cy.alZ {s:Cy.Cu} (h:Cy.isC [44] s=false): ∀(f:Nat) (acc:List Cy.aI),Cy.vN f s acc=(acc,s)
 |0,_=>rfl
 |f+1,acc=>by rw[Cy.vN,h];rfl
def sJ (W:World) (B:Nat) (x:Cy.aI×List Value):Prop:=
 ∃sn sp,x.2=[.bool x.1.rel,ST x.1.first,ST x.1.word,ST x.1.other,sn,sp]/\W.ownsRow B 9 1 sn x.1.names.length (x.1.names.map ST)/\aT 143 W B sp x.1.props
def sJ.step {w w':World} {B b:Nat} {x:Cy.aI×List Value} (h:sJ w B x) (hg:w.grownBy w' (some b)) (hb:b<B):sJ w' B x:=by
 obtain⟨s,t,e,h1,h2⟩:=h;exact⟨s,t,e,fP h1 hg hb,h2.step hg hb⟩
def aT.al0 {w w':World} {B:Nat} {row:Option Nat} {v:Value} {ps:List Gr.P} (h:aT 143 w B v ps) (hg:w.grownBy w' row) (hty: ∀g c t fz,row=some g->w.heap[g]?=some (.cells c t fz)->t=68):aT 143 w' B v ps:=by
 obtain⟨l,e,h1,h2⟩:=h;exact⟨l,e,fun x hx=>(h1 x hx).row hg fun g c t fz hr hc=>by rw[hty g c t fz hr hc];exact⟨by decide,by decide⟩,eu h2 hg fun g c t fz hr hc=>by rw[hty g c t fz hr hc];decide⟩
def sJ.row {w w':World} {B:Nat} {row:Option Nat} {x:Cy.aI×List Value} (h:sJ w B x) (hg:w.grownBy w' row) (hty: ∀g c t fz,row=some g->w.heap[g]?=some (.cells c t fz)->t=68):sJ w' B x:=by
 obtain⟨s,t,e,h1,h2⟩:=h;exact⟨s,t,e,eu h1 hg fun g c t fz hr hc=>by rw[hty g c t fz hr hc];decide,h2.al0 hg hty⟩
def kF (W:World) (B:Nat) (v:Value) (pl:List Cy.aI):Prop:=
 ∃l:List (Cy.aI×List Value),l.map Prod.fst=pl/\(∀x∈l,sJ W B x)/\W.ownsRow B 68 6 v pl.length (l.flatMap Prod.snd)
def kF.step {w w':World} {B b:Nat} {v:Value} {pl:List Cy.aI} (h:kF w B v pl) (hg:w.grownBy w' (some b)) (hb:b<B):kF w' B v pl:=by
 obtain⟨l,e,h1,h2⟩:=h;exact⟨l,e,fun x hx=>(h1 x hx).step hg hb,fP h2 hg hb⟩
def kF.put {w w':World} {B:Nat} {v v':Value} {pl:List Cy.aI} {p:Cy.aI} {cs:List Value} {l:List (Cy.aI×List Value)} (hl:l.map Prod.fst=pl) (h1: ∀x∈l,sJ w B x) (hp:sJ w B (p,cs))
  (hv:w.ownsRow B 68 6 v pl.length (l.flatMap Prod.snd)) (hg:w.grownBy w' v.ownBlock) (hown:w'.ownsRow B 68 6 v' (pl.length+1) (l.flatMap Prod.snd++cs)):kF w' B v' (pl++[p]):=by
 have hty: ∀g c t fz,v.ownBlock=some g->w.heap[g]?=some (.cells c t fz)->t=68:=fun g c t fz hr hc=>by
  obtain⟨-,c',hc'⟩:=mW hv g hr;rw[hc']at hc;cases hc;rfl
 refine⟨l++[(p,cs)],by rw[afg,hl];rfl,fun x hx=> ?_, ?_⟩
 ·rcases afq.1 hx with hx|hx
  ·exact(h1 x hx).row hg hty
  rw[afm.1 hx];exact hp.row hg hty
 rw[aeo,afR]
 simpa using hown
def adH:(prog.info? 68).map (fun i=>(i.zero,i.size,i.bytes))=some (some (.agg #[.bool false,.string ⟨#[]⟩,.string ⟨#[]⟩,.string ⟨#[]⟩,.slice none 0 0,.slice none 0 0]),6,104):=by kernel_rfl
def V4 (w:World) (x:List Cy.aI×Bool) (e:Ending) (w':World):Prop:= ∃A c,e=.returned (.tuple #[.slice A x.1.length c,.bool x.2])/\kF w' (w.heap.size+1) (.slice A x.1.length c) x.1/\Below w.heap.size w w'
def Cy.al1 {s:Cy.Cu} (h:s.l=[]\/s.bad=true): ∀(f:Nat) (acc:List Cy.aI),(f=0->s.bad=true)->Cy.pJ f s acc=(acc, !s.bad)
 |0,_,h0=>by rw[Cy.pJ,h0 rfl];rfl
 |f+1,acc,_=>by rw[Cy.pJ,aeu h]
def CS.at {b:Nat} {s:Cy.Cu} {w:World} (h:CS q b s w): ∃k:Nat,w.cell? ⟨b,1,none⟩=some (.int .i64 (k:Nat))/\k<=q/\(s.l=[]↔k=q):=by
 obtain⟨A,n,c,k,ts,hk,h1,h2,h3,h4,h5⟩:=h.ex;obtain⟨A',c',v1,v2,ht⟩:=h.tot;have e:=(hk.cell 0).symm.trans (ht.cell 0);simp only[aeN,aev,afs,Value.slice.injEq]at e;obtain⟨-,rfl,-⟩:=e;refine⟨k,hk.cell 1,h3, ?_⟩;rw[<-h2,aqc];omega
def al2 (B:Nat) (A:Option Addr) (n c:Nat) (ts:List Lex.Tok) (w:World) (hr:Reads w B 4 A n (nC ts)) (hB:B<=w.heap.size) (hn:ts.length=n) (hn2:n<=16777216) (hok: ∀t∈ts,Cy.lS t):
  Calls prog 17 #[.slice A n c] w (V4 w (Cy.pJ (ts.length+1) ⟨ts,false⟩ [])):=by
 obtain⟨b,hb⟩:=aj w.heap.size;obtain⟨W1,hW1⟩:=aj (w.alloc (.cells #[.slice A n c,.int .i64 0,.bool false] 131));obtain⟨W2,hW2⟩:=aj (W1.alloc (.cells #[] 68));have hb1:Below w.heap.size w W1:=hW1▸(aoa _ w).alloc (aej _) _;have hb2:Below W1.heap.size W1 W2:=hW2▸(aoa _ W1).alloc (aej _) _;have hs1:W1.heap.size=b+1:=by rw[<-hW1,<-hb];simp
 have hk1:ak W1 b 131 #[.slice A n c,.int .i64 ((0:Nat):Int),.bool false]:=by rw[<-hW1,<-hb];exact ak.new _ _ _
 have hc1:CS n b ⟨ts,false⟩ W1:=⟨⟨A,n,c,0,ts,hk1,hn,rfl,anH _,hn2,(hr.below (hb1.mono hB)).more (by omega)⟩,hok,A,c,_,_,hk1⟩
 have HC2:=ah (hc1.kept hb2);have HP2:=ah (show kF W2 (b+1) (.slice (some ⟨b+1,0,none⟩) ([]:List Cy.aI).length 0) [] from⟨[],rfl,by simp,by rw[<-hW2,<-hs1];exact IG W1 _ _ 6 (aej _)⟩)
 have HB2:=ah (show Below b w W2/\b+1<=W2.heap.size from⟨hb▸hb1.trans (hb2.mono (by omega)),hs1▸hb2.size⟩)
 refine gq4 hW1 hW2 hb hs1 fun HW1 HW2 kN dH=>?_;obtain⟨R,hR⟩:=aj (Cy.pJ (ts.length+1) ⟨ts,false⟩ []);rw[hR];have HR:=ah hR;have G7:=ah (And.intro hn hn2);have Df:(n:Int)<=16777216:=by omega
 clear hr hB hn hok hb hW1 hW2 hb1 hb2 hs1 hk1 hc1 hR;go_enter func17,ntmps17
 go_upto_region 2 with fail
 rw[HW1.out,kN.out];clear HW1
 go_upto_region 3 with fail
 rw[HW2.out,dH.out];clear HW2
 go_loopg [5] (ts.length+1) (fun g x5 wr=> ∃(sx:Cy.Cu) (acc:List Cy.aI) (A5:Option Addr) (c5:Nat),x5=.slice A5 acc.length c5/\CS n b sx wr/\kF wr (b+1) (.slice A5 acc.length c5) acc/\Hid (Below b w wr/\b+1<=wr.heap.size)/\Hid (Cy.pJ g sx acc=R)/\Hid (sx.bad=true\/sx.l.length<g)/\Hid (sx.bad=true\/acc.length+sx.l.length<=16777216))
 case atStart=>exact⟨⟨ts,false⟩,[],_,_,rfl,HC2.out,HP2.out,HB2.out,HR.out,.inr (aeX _),.inr (by have:=G7.out;simp;omega)⟩
 obtain⟨sx,acc,A5,c5,rfl,hc,hp,aN,HE,HF,HN⟩:=hrel;have aN:Hid (Below b w wr/\b+1<=wr.heap.size):=aN;have HE:Hid (Cy.pJ gk sx acc=R):=HE;have HF:Hid (sx.bad=true\/sx.l.length<gk):=HF;have HN:Hid (sx.bad=true\/acc.length+sx.l.length<=16777216):=HN;have a2:=hc.bad;obtain⟨k,a1,hkq,hke⟩:=hc.at;refine gq3 hc hp hke fun oO iC HKE=>?_;clear hc hp hke HC2 HP2 HB2 HR;obtain⟨bd,hbd⟩:=aj sx.bad;rw[hbd]at a2;have dY:=ah hbd;clear hbd;have dW:(k:Int)<=n:=by omega
 by_cases hend:sx.l=[]\/sx.bad=true
 ·have HX:=ah (show R=(acc, !sx.bad) by
   rw[<-HE.out]
   exact Cy.al1 hend gk acc (fun h0=>by
    rcases HF.out with h|h
    ·exact h
    omega))
  have hfin:V4 w R (.returned (.tuple #[.slice A5 acc.length c5,.bool (!bd)])) (wr.drewN 1)/\True:=⟨by rw[HX.out,dY.out];exact⟨A5,c5,rfl,by rw[kN.out];exact iC.out,by rw[kN.out];exact below_drewN aN.out.1 1⟩,trivial⟩
  have JR:=ah (fun q=>show V4 w R (.returned (.tuple #[.slice A5 acc.length c5,.bool (!bd)])) (wr.drewN q) from by rw[HX.out,dY.out];exact⟨A5,c5,rfl,by rw[kN.out];exact iC.out,by rw[kN.out];exact below_drewN aN.out.1 q⟩)
  rcases hend with h|h
  ·have hkn:=HKE.out.1 h
   have t1:decide (k<n)=false:=dF (by omega)
   have SK: ¬(k:Int)<n:=by omega
   clear h hkn hfin
   rcases bd with _|_
   all_goals
    go_wp2_with fail
    go_quiet (fail)
    go_wp2
    go_ret2
    exact JR.out _
  rw[dY.out]at h;subst h;clear hfin;by_cases hlt:k<n
  ·have t1:decide (k<n)=true:=aei hlt
   have SK:(k:Int)<n:=by omega
   clear hlt;go_wp2_with fail
   go_quiet (fail)
   go_wp2
   go_ret2
   exact JR.out _
  have t1:decide (k<n)=false:=dF hlt;have SK: ¬(k:Int)<n:=by omega
  clear hlt;go_wp2_with fail
  go_quiet (fail)
  go_wp2
  go_ret2
  exact JR.out _
 have hnb:sx.bad=false:=by
  cases hb:sx.bad with
  |false=>rfl
  |true=>exact absurd (.inr hb) hend
 obtain rfl:bd=false:=dY.symm.trans hnb
 have hkn:k<n:=by
  rcases ahi k n with h|h
  ·exact h
  exact absurd (.inl (HKE.out.2 (by omega))) hend
 have t1:decide (k<n)=true:=aei hkn;have SK:(k:Int)<n:=by omega
 obtain⟨f,rfl⟩: ∃f,gk=f+1:=by
  rcases HF.out with h|h
  ·rw[hnb]at h;cases h
  exact⟨gk - 1,by omega⟩
 have hE:=HE.out;rw[Cy.pJ,aer hend]at hE
 have hacc:acc.length+sx.l.length<=16777216:=by
  rcases HN.out with h|h
  ·rw[hnb]at h;cases h
  exact h
 have hfl:sx.l.length<f+1:=by
  rcases HF.out with h|h
  ·rw[hnb]at h;cases h
  exact h
 have hwl:=Cy.Ja sx;obtain⟨xw,hxw⟩:=aj (Cy.dA sx);obtain⟨wd,s1⟩:=xw;have hwc:=BJ b sx wr oO.out;rw[hxw]at hE hwl hwc
 try simp only at hE hwl
 obtain⟨zw,hzw⟩:=aj (⟨wd.toArray⟩:ByteArray);unfold ST at hwc;simp only[hzw]at hwc;have Ze:=ah hwc;have hzl:zw.toList=wd:=by rw[aod,<-hzw]
 clear hend hnb hkn hxw hwc hzw;by_cases hcr:wd=Cy.uz
 case neg=>
  rw[aeu hcr]at hE;have HX:=ah hE;have tC:(zw.toList ==[67,82,69,65,84,69])=false:=by rw[aek,hzl];exact hcr
  clear hcr hE hzl hacc hfl hwl;go_wp2_with fail;refine tq8 Ze fun w9 h9 g9=>?_;have HPY:=ah (iC.step g9 (aeX b));have xg:=ah (show Below b w w9 from aN.out.1.trans ⟨g9.os,g9.tape,g9.output,g9.size,fun i hi=>g9.block i (by have:=aN.out.2;omega) (fun e=>by cases e;omega)⟩)
  clear h9 g9;go_wp2
  go_ret2
  exact⟨A5,c5,by rw[<-HX.out];rfl,by rw[<-HX.out,kN.out];exact HPY.out,by rw[kN.out];exact xg.out⟩
 case pos=>
 rw[aer (by rw[hcr];simp)]at hE
 try simp only at hE
 have tC:(zw.toList ==[67,82,69,65,84,69])=true:=by rw[afc,hzl];exact hcr
 obtain⟨xp,hxp⟩:=aj (Cy.pI s1);have hpl:=Cy.adG s1;obtain⟨p,s2⟩:=xp;obtain⟨F,hF⟩:=aj s1.l.length;obtain⟨Y,hY⟩:=aj (Cy.vN F s2 (acc++[p]));rw[hxp,hF]at hE hpl
 try simp only at hE hpl
 rw[hY]at hE;refine gq3 hE hY hacc fun mF HY zF=>?_;have HWL:=ah (show s1.bad=true\/F<sx.l.length by rw[<-hF];exact hwl)
 refine gq3 hpl hfl (fun(V:World) (hV:CS n b s1 V)=>hxp▸adD b s1 V hV) fun nR Ad vX=>?_
 have agx:=ah (show s1.bad=true->s2.bad=true from fun h=>by have:=Cy.Qv h;rw[hxp]at this;exact this)
 clear hcr hE hzl hacc hfl hwl hxp hpl hY hF HE;go_wp2_with fail;refine tq8 Ze fun w8 h8 g8=>?_;have tY:=ah h8;have Oq:=ah (iC.step g8 (aeX b));have iH:=ah (show Below b w w8 from aN.out.1.trans ⟨g8.os,g8.tape,g8.output,g8.size,fun i hi=>g8.block i (by have:=aN.out.2;omega) (fun e=>by cases e;omega)⟩)
 have bf:=ah (aep aN.out.2 g8.size);clear h8 g8 iC oO aN Ze a1 a2;have iC:=ah Oq.out;clear Oq;go_wp2_with fail;refine(vX.out w8 tY.out).mono ?_;rintro e nT ⟨u,rfl,Zf,h20,g20⟩;obtain⟨sn,sp,rfl,o1,o2⟩:=Zf;obtain⟨A1,c1,rfl⟩:=aH o1;obtain⟨A2,c2,rfl⟩:=o2.Ec;obtain⟨zf,jC⟩:=aj (⟨p.first.toArray⟩:ByteArray);obtain⟨zw,hzw⟩:=aj (⟨p.word.toArray⟩:ByteArray);obtain⟨zo,kL⟩:=aj (⟨p.other.toArray⟩:ByteArray);have e1:ST p.first=.string zf:=by unfold ST;rw[jC]
 have e2:ST p.word=.string zw:=by unfold ST;rw[hzw]
 have e3:ST p.other=.string zo:=by unfold ST;rw[kL]
 rw[e1,e2,e3];obtain⟨nU,uZ⟩:=aj (nT.alloc (.cells #[.bool p.rel,.string zf,.string zw,.string zo,.slice A1 p.names.length c1,.slice A2 p.props.length c2] 68));obtain⟨pb,hpb⟩:=aj nT.heap.size;have AY:Below nT.heap.size nT nU:=uZ▸(aoa _ nT).alloc (aej _) _;have oQ:nT.grownBy nU (some b):=bV AY _;have Ot:b+1<=w8.heap.size:=bf.out;have hpc:sJ nT (b+1) (p,[.bool p.rel,.string zf,.string zw,.string zo,.slice A1 p.names.length c1,.slice A2 p.props.length c2]):=⟨_,_,by rw[e1,e2,e3],own_base o1 (by omega),o2.base (by omega)⟩
 refine gq3 (hpc.step oQ (aeX b)) ((iC.step g20 (aeX b)).step oQ (aeX b)) (h20.kept AY) fun y5 iT Ou=>?_;have dG:=ah (show Below b w nU/\b+1<=nU.heap.size from⟨iH.trans ⟨(aS g20 oQ).os,(aS g20 oQ).tape,(aS g20 oQ).output,(aS g20 oQ).size,fun i hi=>(aS g20 oQ).block i (by omega) (fun e=>by cases e;omega)⟩,aep Ot (aS g20 oQ).size⟩)
 have ru:=ah (show ak nU pb 68 #[.bool p.rel,.string zf,.string zw,.string zo,.slice A1 p.names.length c1,.slice A2 p.props.length c2] by rw[<-uZ,<-hpb];exact ak.new _ _ _)
 have ET:=ah uZ;have gu:=ah hpb;clear h20 g20 o1 o2 jC hzw kL e1 e2 e3 uZ hpb AY oQ hpc Ot bf iC iH
 go_upto_region 7 with fail
 rw[ET.out,gu.out];clear ET;obtain⟨⟨a0,a1,a2,a3,a4,a5⟩,-⟩:=jE ru.out;obtain⟨ll,q1,q2,q3⟩:=iT.out;obtain⟨al,hal⟩:=aj acc.length;have q3:nU.ownsRow (b+1) 68 6 (.slice A5 al c5) al (ll.flatMap Prod.snd):=by rw[<-hal];exact q3
 have Cc:al<536870912:=by have:=zF.out;omega
 have Gx:b+1<=nU.heap.size:=dG.out.2;refine gq4 hal q1 q2 q3 fun fZ H1 H2 H3=>?_
 try rw[hal]
 clear q1 q2 q3 hal;go_wp2_with (at_builtin;refine DJ rfl (.tmp 32) (.tmp 34) 63 68 (.agg #[.bool false,.string ⟨#[]⟩,.string ⟨#[]⟩,.string ⟨#[]⟩,.slice none 0 0,.slice none 0 0]) 6 104 underlying63 adH rfl (by decide) (by decide) rfl (b+1) (.slice A5 al c5) al (ll.flatMap Prod.snd) nU rfl H3.out [.bool p.rel,.string zf,.string zw,.string zo,.slice A1 p.names.length c1,.slice A2 p.props.length c2] _ rfl rfl (by simp[Value.oneCell']) rfl Cc Gx ?_)
 intro v9 w9 aF aO bI aB;obtain⟨A9,c9,rfl⟩:=aH aF;have su:(acc++[p]).length=al+1:=by rw[aeo,fZ.out];rfl
 refine gq3 su (kF.put (v:=.slice A5 acc.length c5) (v':=.slice A9 (al+1) c9) (pl:=acc) H1.out H2.out y5.out (by rw[fZ.out];exact H3.out) (by rw[fZ.out];exact aO) (by rw[fZ.out];exact aF)) (Ou.below aB (aeX b)) fun HLEN oM iD=>?_
 have cZ:=ah (show Below b w w9/\b+1<=w9.heap.size from⟨dG.out.1.trans (aB.mono (ahy b)),aep dG.out.2 aB.size⟩)
 clear aF aO bI aB su H1 H2 H3 y5 iT Ou dG ru a0 a1 a2 a3 a4 a5 Cc Gx
 have jJ:=ah (show(s2.bad=true\/(s2.l.length<=F/\F<sx.l.length))/\(s2.bad=true\/(acc++[p]).length+s2.l.length<=16777216) from by
  have h1:=nR.out;have h2:=HWL.out;have h3:=zF.out;rw[HLEN.out];have h4:=fZ.out
  rcases h1 with h1|h1
  ·exact⟨.inl h1,.inl h1⟩
  rcases h2 with h2|h2
  ·exact⟨.inl (agx.out h2),.inl (agx.out h2)⟩
  exact⟨.inr ⟨by omega,h2⟩,.inr (by omega)⟩)
 obtain⟨lx,hlx⟩:=aj sx.l.length;rw[hlx]at jJ;have jS:=ah hlx;clear hlx;clear vX tY t1 SK tC;go_wp2_with fail
 go_loopg [5] F (fun g x5 wr=> ∃(sx:Cy.Cu) (acc:List Cy.aI) (A5:Option Addr) (c5:Nat),x5=.slice A5 acc.length c5/\CS n b sx wr/\kF wr (b+1) (.slice A5 acc.length c5) acc/\Hid (Below b w wr/\b+1<=wr.heap.size)/\Hid (Cy.vN g sx acc=Y)/\Hid (sx.bad=true\/sx.l.length<=g)/\Hid (sx.bad=true\/(sx.l.length<=F/\F<lx))/\Hid (sx.bad=true\/acc.length+sx.l.length<=16777216))
 case atStart=>exact⟨s2,acc++[p],A9,c9,by rw[HLEN.out],iD.out,by rw[HLEN.out];exact oM.out,cZ.out,HY.out,jJ.out.1.imp id (fun h=>h.1),jJ.out.1,jJ.out.2⟩
 obtain⟨sy,xO,A5,c5,rfl,hc,hp,aN,HE,HF,HF2,HN⟩:=hrel;have aN:Hid (Below b w wr/\b+1<=wr.heap.size):=aN;have HE:Hid (Cy.vN gk sy xO=Y):=HE;have HF:Hid (sy.bad=true\/sy.l.length<=gk):=HF;have HF2:Hid (sy.bad=true\/(sy.l.length<=F/\F<lx)):=HF2;have HN:Hid (sy.bad=true\/xO.length+sy.l.length<=16777216):=HN;have oO:=ah hc;have iC:=ah hp;clear hc hp HY iD oM cZ;have hI:=F8 b ⟨#[44]⟩ sy wr oO.out;obtain⟨bi,hbi⟩:=aj (Cy.isC (⟨#[44]⟩:ByteArray).data.toList sy);rw[hbi]at hI;have HI:=ah hI;have sH:=ah hbi;clear hI hbi;go_wp2_with fail;refine tq8 HI fun w8 h8 g8=>?_;have tY:=ah h8;have Oq:=ah (iC.step g8 (aeX b));have iH:=ah (show Below b w w8 from aN.out.1.trans ⟨g8.os,g8.tape,g8.output,g8.size,fun i hi=>g8.block i (by have:=aN.out.2;omega) (fun e=>by cases e;omega)⟩)
 have bf:=ah (aep aN.out.2 g8.size);clear h8 g8 iC oO aN HI;have iC:=ah Oq.out;clear Oq;cases bi with
 |false=>
  have wF:=ah (show Y=(xO,sy) by rw[<-HE.out];exact Cy.alZ sH.out gk xO)
  have HM:=ah (jP b ⟨#[59]⟩ sy w8 tY.out);go_wp2_with fail;refine tq8 HM fun w9 h9 g9=>?_;have iD:=ah h9;have oM:=ah (iC.step g9 (aeX b));have cZ:=ah (show Below b w w9/\b+1<=w9.heap.size from⟨iH.trans ⟨g9.os,g9.tape,g9.output,g9.size,fun i hi=>g9.block i (by have:=bf.out;omega) (fun e=>by cases e;omega)⟩,aep bf.out g9.size⟩)
  have uQ:=ah (show Cy.pJ f (Cy.aV [59] sy) xO=R by have:=mF.out;rw[wF.out]at this;exact this)
  have uT:=ah (fun(h:sy.bad=true)=>show(Cy.aV [59] sy).bad=true from Cy.bW h)
  have agy:=ah (Cy.uF [59] sy);clear h9 g9 HM;go_wp2
  go_roundg f
  case measure=>omega
  refine⟨Cy.aV [59] sy,xO,A5,c5,rfl,iD.out,oM.out,cZ.out,uQ.out, ?_, ?_⟩
  ·rcases HF2.out with h|h
   ·exact .inl (uT.out h)
   rcases agy.out with h2|h2
   ·exact .inl h2
   exact .inr (by have:=Ad.out;have:=jS.out;omega)
  rcases HN.out with h|h
  ·exact .inl (uT.out h)
  rcases agy.out with h2|h2
  ·exact .inl h2
  exact .inr (by omega)
 |true=>
  obtain⟨f2,rfl⟩: ∃f2,gk=f2+1:=by
   rcases HF.out with h|h
   ·have:=Cy.D8 (m:=(⟨#[44]⟩:ByteArray).data.toList) h
    rw[sH.out]at this;cases this
   cases gk with
   |succ f2=>exact⟨f2,rfl⟩
   |zero=>
    have h0:sy.l=[]:=aeI (by omega)
    have h1:Cy.isC (⟨#[44]⟩:ByteArray).data.toList sy=false:=by unfold Cy.isC;rw[h0];simp
    rw[sH.out]at h1;cases h1
  have hnb:sy.bad=false:=by
   cases hb:sy.bad with
   |false=>rfl
   |true=>have:=Cy.D8 (m:=(⟨#[44]⟩:ByteArray).data.toList) hb;rw[sH.out]at this;cases this
  have hE:=HE.out;rw[Cy.vN,aeu sH.out]at hE;obtain⟨s3,hs3⟩:=aj (Cy.aV [44] sy);obtain⟨xp,hxp⟩:=aj (Cy.pI s3);have hpl:=Cy.adG s3;have hml:=Cy.uF [44] sy;obtain⟨p2,s4⟩:=xp;rw[hs3]at hE hml;rw[hxp]at hE hpl
  try simp only at hE hpl
  have hacc:xO.length+sy.l.length<=16777216:=by
   rcases HN.out with h|h
   ·rw[hnb]at h;cases h
   exact h
  have hf2:sy.l.length<=F/\F<lx:=by
   rcases HF2.out with h|h
   ·rw[hnb]at h;cases h
   exact h
  have agz:sy.l.length<=f2+1:=by
   rcases HF.out with h|h
   ·rw[hnb]at h;cases h
   exact h
  have agA:s4.bad=true\/s4.l.length+1<sy.l.length:=by
   rcases hml with h|h
   ·exact .inl (by have:=Cy.Qv h;rw[hxp]at this;exact this)
   rcases hpl with h2|h2
   ·exact .inl h2
   exact .inr (by omega)
  refine gq5 hE hacc (And.intro hf2 agz) agA (fun(V:World) (hV:CS n b s3 V)=>hxp▸adD b s3 V hV) fun HE2 zF JX qQ vX=>?_
  have HM:=ah (show _ from hs3▸jP b ⟨#[44]⟩ sy w8 tY.out)
  clear hnb hE hs3 hxp hpl hml hacc hf2 agz agA HE HF HF2 HN;go_wp2_with fail;refine tq8 HM fun w9 h9 g9=>?_;have iD:=ah (show CS n b s3 w9 from h9)
  have agB:=ah (iC.step g9 (aeX b));have agC:=ah (show Below b w w9 from iH.trans ⟨g9.os,g9.tape,g9.output,g9.size,fun i hi=>g9.block i (by have:=bf.out;omega) (fun e=>by cases e;omega)⟩)
  have agD:=ah (aep bf.out g9.size);clear h9 g9 iC iH bf HM tY;refine gq4 agB.out agC.out agD.out (vX.out w9 iD.out) fun iC iH bf apB=>?_;clear agB agC agD iD vX;go_wp2_with fail;refine(apB.out).mono ?_;rintro e nT ⟨u,rfl,Zf,h20,g20⟩;obtain⟨sn,sp,rfl,o1,o2⟩:=Zf;obtain⟨A1,c1,rfl⟩:=aH o1;obtain⟨A2,c2,rfl⟩:=o2.Ec;obtain⟨zf,jC⟩:=aj (⟨p2.first.toArray⟩:ByteArray);obtain⟨zw,hzw⟩:=aj (⟨p2.word.toArray⟩:ByteArray);obtain⟨zo,kL⟩:=aj (⟨p2.other.toArray⟩:ByteArray);have e1:ST p2.first=.string zf:=by unfold ST;rw[jC]
  have e2:ST p2.word=.string zw:=by unfold ST;rw[hzw]
  have e3:ST p2.other=.string zo:=by unfold ST;rw[kL]
  rw[e1,e2,e3];obtain⟨nU,uZ⟩:=aj (nT.alloc (.cells #[.bool p2.rel,.string zf,.string zw,.string zo,.slice A1 p2.names.length c1,.slice A2 p2.props.length c2] 68));obtain⟨pb,hpb⟩:=aj nT.heap.size;have AY:Below nT.heap.size nT nU:=uZ▸(aoa _ nT).alloc (aej _) _;have oQ:nT.grownBy nU (some b):=bV AY _;have Ot:b+1<=w9.heap.size:=bf.out;have hpc:sJ nT (b+1) (p2,[.bool p2.rel,.string zf,.string zw,.string zo,.slice A1 p2.names.length c1,.slice A2 p2.props.length c2]):=⟨_,_,by rw[e1,e2,e3],own_base o1 (by omega),o2.base (by omega)⟩
  refine gq3 (hpc.step oQ (aeX b)) ((iC.step g20 (aeX b)).step oQ (aeX b)) (h20.kept AY) fun y5 iT Ou=>?_;have dG:=ah (show Below b w nU/\b+1<=nU.heap.size from⟨iH.trans ⟨(aS g20 oQ).os,(aS g20 oQ).tape,(aS g20 oQ).output,(aS g20 oQ).size,fun i hi=>(aS g20 oQ).block i (by omega) (fun e=>by cases e;omega)⟩,aep Ot (aS g20 oQ).size⟩)
  have ru:=ah (show ak nU pb 68 #[.bool p2.rel,.string zf,.string zw,.string zo,.slice A1 p2.names.length c1,.slice A2 p2.props.length c2] by rw[<-uZ,<-hpb];exact ak.new _ _ _)
  have ET:=ah uZ;have gu:=ah hpb;clear h20 g20 o1 o2 jC hzw kL e1 e2 e3 uZ hpb AY oQ hpc Ot bf iC iH
  go_upto_region 11 with fail
  rw[ET.out,gu.out];clear ET;obtain⟨⟨a0,a1,a2,a3,a4,a5⟩,-⟩:=jE ru.out;obtain⟨ll,q1,q2,q3⟩:=iT.out;obtain⟨al,hal⟩:=aj xO.length;have q3:nU.ownsRow (b+1) 68 6 (.slice A5 al c5) al (ll.flatMap Prod.snd):=by rw[<-hal];exact q3
  have Cc:al<536870912:=by have:=zF.out;omega
  have Gx:b+1<=nU.heap.size:=dG.out.2;refine gq4 hal q1 q2 q3 fun fZ H1 H2 H3=>?_
  try rw[hal]
  clear q1 q2 q3 hal;go_wp2_with (at_builtin;refine DJ rfl (.tmp 42) (.tmp 44) 63 68 (.agg #[.bool false,.string ⟨#[]⟩,.string ⟨#[]⟩,.string ⟨#[]⟩,.slice none 0 0,.slice none 0 0]) 6 104 underlying63 adH rfl (by decide) (by decide) rfl (b+1) (.slice A5 al c5) al (ll.flatMap Prod.snd) nU rfl H3.out [.bool p2.rel,.string zf,.string zw,.string zo,.slice A1 p2.names.length c1,.slice A2 p2.props.length c2] _ rfl rfl (by simp[Value.oneCell']) rfl Cc Gx ?_)
  intro v9 w9 aF aO bI aB;obtain⟨A9,c9,rfl⟩:=aH aF;have su:(xO++[p2]).length=al+1:=by rw[aeo,fZ.out];rfl
  refine gq3 su (kF.put (v:=.slice A5 xO.length c5) (v':=.slice A9 (al+1) c9) (pl:=xO) H1.out H2.out y5.out (by rw[fZ.out];exact H3.out) (by rw[fZ.out];exact aO) (by rw[fZ.out];exact aF)) (Ou.below aB (aeX b)) fun HLEN oM iD=>?_
  have cZ:=ah (show Below b w w9/\b+1<=w9.heap.size from⟨dG.out.1.trans (aB.mono (ahy b)),aep dG.out.2 aB.size⟩)
  clear aF aO bI aB su H1 H2 H3 y5 iT Ou dG ru a0 a1 a2 a3 a4 a5 Cc Gx;go_wp2
  go_roundg f2
  case measure=>omega
  exact⟨s4,xO++[p2],A9,c9,by rw[HLEN.out],iD.out,by rw[HLEN.out];exact oM.out,cZ.out,HE2.out,qQ.imp id (fun h=>by have:=JX.out;omega),qQ.imp id (fun h=>by have:=JX.out;omega),qQ.imp id (fun h=>by rw[HLEN.out];have:=fZ.out;have:=zF.out;omega)⟩
end Go.Proofs.YtdijgcnlbfgkdaaGreatDoor
namespace Go.Proofs.YtdijgcnlbfgkdaaGreatDoor
open Go.RowKit Go.Proofs.Tryz
attribute [local go_sem] ar4
def Ed (B:Nat) (R:Gr.G×Nat) (w:World) (e:Ending) (w':World):Prop:=
 ∃A1 n1 c1 A2 n2 c2,e=.returned (.tuple #[.agg #[.slice A1 n1 c1,.slice A2 n2 c2],.int .i64 (R.2:Nat)])/\Kp B w w'/\(R.2=0->dV w' B (.agg #[.slice A1 n1 c1,.slice A2 n2 c2]) R.1/\R.1.nodes.length=n1/\R.1.ay.length=n2)
structure WS (w V:World) (b:Nat) (An:Option Addr) (nn cn:Nat) (Ar:Option Addr) (rn cr:Nat) (cs:Array Value):Prop where
 k0:ak V b 26 #[.slice An nn cn,.slice Ar rn cr]
 k1:ak V (b+1) 68 cs
 k2: ∃u0 u1,ak V (b+1+1) 26 #[u0,u1]
 bel:Below w.heap.size w V
 sz:w.heap.size=b
def WS.below {w V V':World} {b:Nat} {An:Option Addr} {nn cn:Nat} {Ar:Option Addr} {rn cr:Nat} {cs:Array Value} (h:WS w V b An nn cn Ar rn cr cs) (hb:Below V.heap.size V V'):WS w V' b An nn cn Ar rn cr cs:=by
 obtain⟨u0,u1,hk⟩:=h.k2;exact⟨h.k0.below hb h.k0.lt,h.k1.below hb h.k1.lt,⟨u0,u1,hk.below hb hk.lt⟩,h.bel.trans (hb.mono h.bel.size),h.sz⟩
def WS.out {w V:World} {b:Nat} {An:Option Addr} {nn cn:Nat} {Ar:Option Addr} {rn cr:Nat} {cs:Array Value} (h:WS w V b An nn cn Ar rn cr cs):
  V.cell? ⟨b,0,none⟩=some (.slice An nn cn)/\V.cell? ⟨b,1,none⟩=some (.slice Ar rn cr)/\(∃u,V.cell? ⟨b+1+1,0,none⟩=some u)/\(∃u,V.cell? ⟨b+1+1,1,none⟩=some u)/\V.frozen? ⟨b+1+1,0,none⟩=false/\V.frozen? ⟨b+1+1,1,none⟩=false:=by
 obtain⟨u0,u1,hk⟩:=h.k2;exact⟨h.k0.cell 0,h.k0.cell 1,⟨_,hk.cell 0⟩,⟨_,hk.cell 1⟩,hk.frozen 0,hk.frozen 1⟩
def WS.bad {w V:World} {b B:Nat} {An:Option Addr} {nn cn:Nat} {Ar:Option Addr} {rn cr:Nat} {cs:Array Value} (h:WS w V b An nn cn Ar rn cr cs) (hB:B<=w.heap.size) {R:Gr.G×Nat} (he:R.2≠0) {A1 n1 c1 A2 n2 c2} (u0 u1:Value):
  Ed B R w (.returned (.tuple #[.agg #[.slice A1 n1 c1,.slice A2 n2 c2],.int .i64 (R.2:Nat)])) ((V.setCell ⟨b+1+1,0,none⟩ u0).setCell ⟨b+1+1,1,none⟩ u1):=
 ⟨A1,n1,c1,A2,n2,c2,rfl,Kp.of_below ((h.bel.setCell (p:=⟨b+1+1,0,none⟩) (by have:=h.sz;show w.heap.size<=b+1+1;omega) u0).setCell (p:=⟨b+1+1,1,none⟩) (by have:=h.sz;show w.heap.size<=b+1+1;omega) u1) hB,fun h0=>absurd h0 he⟩
def iP.V7 {W:World} {B:Nat} {x:Gr.N×List Value} (h:iP W B x):x.2.length=3/\x.2[0]?=some (.int .i64 x.1.id):=by
 obtain⟨s,t,e,-⟩:=h;rw[e];exact⟨rfl,rfl⟩
def iQ.V7 {W:World} {B:Nat} {x:Gr.R×List Value} (h:iQ W B x):x.2.length=5/\x.2[0]?=some (.int .i64 x.1.id):=by
 obtain⟨s,e,-⟩:=h;rw[e];exact⟨rfl,rfl⟩
def adI {α:Type} {W:World} {B e sz n c:Nat} {A:Option Addr} {l:List (α×List Value)} {f:α->Int} {xs:List α} (h:W.ownsRow B e sz (.slice A n c) n (l.flatMap Prod.snd)) (hl:l.map Prod.fst=xs) (hn:xs.length=n)
  (hx: ∀x∈l,x.2.length=sz/\x.2[0]?=some (.int .i64 (f x.1))):Ids W sz A (xs.map f):=fun i x hi=>by
 rw[<-hl,ahs,aeY]at hi;obtain⟨y,hy,rfl⟩:=afr.1 hi;have hll:l.length=n:=by rw[<-hn,<-hl,aeP]
 rw[<-hll]at h;obtain⟨b,off,cs,e,hlt,hr,-,hc⟩:=dD.dZ (R:=fun a cs=>cs=a.2) (f:=Prod.snd) h (fun x hm=>(hx x hm).1) (fun _ _=>rfl) i y hy
 subst hr;exact⟨b,off,e,hlt,by have:=hc 0 _ (hx y (aew hy)).2;simpa using this⟩
def dV.ids {W:World} {B:Nat} {An:Option Addr} {nn cn:Nat} {Ar:Option Addr} {rn cr:Nat} {g:Gr.G} (h:dV W B (.agg #[.slice An nn cn,.slice Ar rn cr]) g) (hn:g.nodes.length=nn) (hr:g.ay.length=rn) (hn2:nn<=16777216) (hr2:rn<=16777216):La W An nn Ar rn g:=by
 obtain⟨sn,sr,ln,lr,e,q1,q2,q3,q4,q5,q6⟩:=h
 injection e with e
 simp only[arI,aqv,apg,arT]at e;obtain⟨rfl,rfl⟩:=e;rw[hn]at q3;rw[hr]at q6;exact⟨adI q3 q1 hn fun x hm=>(q2 x hm).V7,adI q6 q4 hr fun x hm=>(q5 x hm).V7,⟨hn,hn2⟩,⟨hr,hr2⟩⟩
def Cy.V8 (c:UInt8) (m:Int) (l:Cy.L):Cy.nM c m l=if Cy.iK c m l<0 then none else some (Cy.iK c m l):=by
 unfold Cy.iK;cases h:Cy.nM c m l with
 |none=>rfl
 |some n=>
  have:=(Cy.KN h).1
  show some n=if n<0 then none else some n
  rw[aer (show¬n<0 by omega)]
def Kp.put {w V:World} {B b i:Nat} (h:Kp B w V) (hb:w.heap.size<=b) (hB:B<=w.heap.size) (u:Value):Kp B w (V.setCell ⟨b,i,none⟩ u):=
 ⟨h.bel.setCell (p:=⟨b,i,none⟩) (aep hB hb) u,fun k c t fz hc h1 h2 h3=>by
  have hk:=h.keep k c t fz hc h1 h2 h3;have hlt:=(afb.1 hc).1;rw[(grownBy_set V ⟨b,i,none⟩ u).block k (afb.1 hk).1 (fun e=>by have e:=aeM e;dsimp only at e;omega)]
  exact hk⟩
section
variable {B:Nat} {g:Gr.G} {V w9:World} {sn sr v':Value} {ln:List (Gr.N×List Value)} {lr:List (Gr.R×List Value)} {cs:List Value}
  (h2:ln.map Prod.fst=g.nodes) (h3: ∀x∈ln,iP V B x) (h4:V.ownsRow B 37 3 sn g.nodes.length (ln.flatMap Prod.snd))
  (h5:lr.map Prod.fst=g.ay) (h6: ∀x∈lr,iQ V B x) (h7:V.ownsRow B 74 5 sr g.ay.length (lr.flatMap Prod.snd)) (hB:B<=V.heap.size)
include h2 h3 h4 h5 h6 h7 hB
def dV.node {n:Gr.N} (hn:iP V B (n,cs)) (hg:V.grownBy w9 sn.ownBlock) (ho:w9.ownsRow B 37 3 v' (g.nodes.length+1) (ln.flatMap Prod.snd++cs)):
  dV w9 B (.agg #[v',sr]) ⟨g.nodes++[n],g.ay⟩/\Kp B V w9:=by
 have hk:Kp B V w9:=Kp.dZ h4 (.inl rfl) hB hg;refine⟨⟨v',sr,ln++[(n,cs)],lr,rfl,by rw[afg,h2];rfl,fun x hx=> ?_,by rw[aeo,afR];simpa using ho,h5,fun x hx=>(h6 x hx).kp hk,IV h7 h4 hg (by decide)⟩,hk⟩
 rcases afq.1 hx with hx|hx
 ·exact(h3 x hx).kp hk
 rw[afm.1 hx];exact hn.kp hk
def dV.rel {n:Gr.R} (hn:iQ V B (n,cs)) (hg:V.grownBy w9 sr.ownBlock) (ho:w9.ownsRow B 74 5 v' (g.ay.length+1) (lr.flatMap Prod.snd++cs)):
  dV w9 B (.agg #[sn,v']) ⟨g.nodes,g.ay++[n]⟩/\Kp B V w9:=by
 have hk:Kp B V w9:=Kp.dZ h7 (.inr rfl) hB hg;refine⟨⟨sn,v',ln,lr++[(n,cs)],rfl,h2,fun x hx=>(h3 x hx).kp hk,IV h4 h7 hg (by decide),by rw[afg,h5];rfl,fun x hx=> ?_,by rw[aeo,afR];simpa using ho⟩,hk⟩
 rcases afq.1 hx with hx|hx
 ·exact(h6 x hx).kp hk
 rw[afm.1 hx];exact hn.kp hk
end
structure Ii (w:World) (B:Nat) (An:Option Addr) (nn cn:Nat) (Ar:Option Addr) (rn cr:Nat) (g:Gr.G) (p:Cy.aI) (cs:List Value):Prop where
 own:dV w B (.agg #[.slice An nn cn,.slice Ar rn cr]) g
 hn:g.nodes.length=nn/\nn<=16777216
 hr:g.ay.length=rn/\rn<=16777216
 pat:sJ w B (p,cs)
 sz:Cy.rH p
 hB:B<=w.heap.size
def WS.new (w:World) (An:Option Addr) (nn cn:Nat) (Ar:Option Addr) (rn cr:Nat) (cs:Array Value) (u0 u1:Value):
  WS w (((w.alloc (.cells #[.slice An nn cn,.slice Ar rn cr] 26)).alloc (.cells cs 68)).alloc (.cells #[u0,u1] 26)) w.heap.size An nn cn Ar rn cr cs:=by
 obtain⟨W1,h1⟩:=aj (w.alloc (.cells #[.slice An nn cn,.slice Ar rn cr] 26));obtain⟨W2,h2⟩:=aj (W1.alloc (.cells cs 68));rw[h1,h2];have b1:Below w.heap.size w W1:=h1▸(aoa _ w).alloc (aej _) _;have b2:Below W1.heap.size W1 W2:=h2▸(aoa _ W1).alloc (aej _) _;have b3:Below W2.heap.size W2 (W2.alloc (.cells #[u0,u1] 26)):=(aoa _ W2).alloc (aej _) _;have s1:W1.heap.size=w.heap.size+1:=by rw[<-h1];simp
 have s2:W2.heap.size=w.heap.size+1+1:=by rw[<-h2];simp[s1]
 have k0:ak W1 w.heap.size 26 #[.slice An nn cn,.slice Ar rn cr]:=by rw[<-h1];exact ak.new _ _ _
 have k1:ak W2 (w.heap.size+1) 68 cs:=by rw[<-h2,<-s1];exact ak.new _ _ _
 have k0':=k0.below b2 k0.lt;exact⟨k0'.below b3 k0'.lt,k1.below b3 k1.lt,⟨u0,u1,by rw[<-s2];exact ak.new _ _ _⟩,(b1.trans (b2.mono b1.size)).trans (b3.mono (by omega)),rfl⟩
def WS.exit {w V:World} {b B e:Nat} {An:Option Addr} {nn cn:Nat} {Ar:Option Addr} {rn cr:Nat} {cs:Array Value} (h:WS w V b An nn cn Ar rn cr cs) (hB:B<=w.heap.size) {R:Gr.G×Nat} (hR:R.2=e) (he:e≠0) {tmps:Array Value} {fn:Func} (hfn:fn.results= #[.cell 4 26,.tmp 5])
  (ht:tmps.getD 4 undef=.pointer (some ⟨b+1+1,0,none⟩)) (hq:tmps.getD 5 undef=.int .i64 (e:Nat)):
  bodyPost prog fn (Ed B R w) .ret {tmps:=tmps,defers:=[]} ((V.setCell ⟨b+1+1,0,none⟩ (.slice An nn cn)).setCell ⟨b+1+1,1,none⟩ (.slice Ar rn cr)):=by
 obtain⟨u0,u1,hk⟩:=h.k2;subst hR;exact vJ hfn ht hq (by simpa using(hk.aG 0 (.slice An nn cn)).aG 1 (.slice Ar rn cr)) (h.bad hB he _ _)
end Go.Proofs.YtdijgcnlbfgkdaaGreatDoor
namespace Go.Proofs.YtdijgcnlbfgkdaaGreatDoor
open Go.RowKit Go.Proofs.Tryz
attribute [local go_sem] ar4
def al3 {B:Nat} {An:Option Addr} {nn cn:Nat} {Ar:Option Addr} {rn cr:Nat} {g:Gr.G} {p:Cy.aI} {cs:List Value} {w:World} (h:Ii w B An nn cn Ar rn cr g p cs) (hrel:p.rel=false):
  Calls prog 18 #[.agg #[.slice An nn cn,.slice Ar rn cr],.agg cs.toArray] w (Ed B (Cy.addNode g p) w):=by
 obtain⟨R,hR⟩:=aj (Cy.addNode g p);rw[hR];unfold Cy.addNode at hR;rw[Cy.V8]at hR;obtain⟨sn,sp,ecs,o1,o2⟩:=h.pat
 dsimp only at ecs o1 o2
 subst ecs;obtain⟨A1,c1,rfl⟩:=aH o1;obtain⟨A2,c2,rfl⟩:=o2.Ec;obtain⟨nl,hnl⟩:=aj p.names.length;obtain⟨pl,hpl⟩:=aj p.props.length;rw[hnl]at o1⊢;rw[hpl]at o2⊢;obtain⟨zf,jC⟩:=aj (⟨p.first.toArray⟩:ByteArray);obtain⟨zw,hzw⟩:=aj (⟨p.word.toArray⟩:ByteArray);obtain⟨zo,kL⟩:=aj (⟨p.other.toArray⟩:ByteArray);have e1:ST p.first=.string zf:=by unfold ST;rw[jC]
 have e2:ST p.word=.string zw:=by unfold ST;rw[hzw]
 have e3:ST p.other=.string zo:=by unfold ST;rw[kL]
 rw[e1,e2,e3,hrel];have uS:zf.data.toList=p.first:=by rw[<-jC]
 obtain⟨b,hb⟩:=aj w.heap.size;have hws:=WS.new w An nn cn Ar rn cr #[.bool false,.string zf,.string zw,.string zo,.slice A1 nl c1,.slice A2 pl c2] (.slice none 0 0) (.slice none 0 0);rw[hb]at hws;obtain⟨W,hW⟩:=aj (((w.alloc (.cells #[.slice An nn cn,.slice Ar rn cr] 26)).alloc (.cells #[.bool false,.string zf,.string zw,.string zo,.slice A1 nl c1,.slice A2 pl c2] 68)).alloc (.cells #[.slice none 0 0,.slice none 0 0] 26));rw[hW]at hws;obtain⟨n,hn⟩:=aj (Cy.iK 110 1024 p.first);rw[hn]at hR;have hi:=KZ zf 110 1024 W (by rw[aof,uS];have:=h.sz.first;omega)
 rw[uS,hn]at hi;have hgi:=(h.own.ids h.hn.1 h.hr.1 h.hn.2 h.hr.2).below hws.bel;refine gq9 hws hi hgi hR h o1 o2 hnl hpl fun CB HI SL HR HH lH lW jf nR=>?_;refine gq3 hW hb rG fun HW kN HU=>?_;obtain⟨⟨d0,d1,d2,d3,d4,d5⟩,-⟩:=jE hws.k1;clear h hR o1 o2 hnl hpl jC hzw kL e1 e2 e3 uS hb hws hW hi hgi hn hrel;go_enter func18,ntmps18
 go_upto_region 1 with fail
 rw[HW.out,kN.out];clear HW;go_wp2_with fail;refine mq8 HI fun w1 b1=>?_;have dH:=ah (CB.below b1);have dO:=ah (SL.below b1);clear b1 d0 d1 d2 d3 d4 d5 HI;obtain⟨c0,c1',⟨u0,r0⟩,⟨u1,r1⟩,f0,f1⟩:=dH.out.out;have eY:=ah HH.hB;by_cases hneg:n<0
 ·have hx:R=(g,61):=by rw[<-HR.out,aeu hneg]
  subst hx;go_wp2_with fail;exact dH.exit eY.out rfl (show(61:Nat)≠0 by decide) rfl (by simp) (by simp)
 have hr2:=HR.out;rw[aer hneg]at hr2
 try simp only at hr2
 have hm:=ac3 An Ar nn cn rn cr (g.nodes.map Gr.N.id) n w1 dO.n (by rw[aeP];exact dO.nl.1) dO.nl.2
 obtain⟨t,ht⟩:=aj (decide (n∈g.nodes.map Gr.N.id));rw[ht]at hm;refine gq3 hm ht hr2 fun HM HT HR2=>?_;have hn0:0<=n:=by omega
 clear hr2 hm ht HR;go_wp2_with fail;refine mq8 HM fun w2 b2=>?_;have HS2:=ah (dH.below b2);have HG2:=ah (dO.below b2);clear b2 c0 c1' r0 r1 f0 f1 HM dH dO;cases t with
 |true=>
  have hx:R=(g,7):=by rw[<-HR2.out,aeu (aeL HT.out)]
  subst hx;obtain⟨c0,c1',⟨u0,r0⟩,⟨u1,r1⟩,f0,f1⟩:=HS2.out.out;go_wp2_with fail;exact HS2.exit eY.out rfl (show(7:Nat)≠0 by decide) rfl (by simp) (by simp)
 |false=>
 have hr3:=HR2.out;rw[aer (aex HT.out)]at hr3;obtain⟨D,hD⟩:=aj (Cy.wO [] p.names);rw[hD]at hr3;have HR3:=ah hr3;have HD:=ah hD;clear hr3 hD HR2 HT;have ao8:(nl:Int)<=16777216:=by have:=jf.out;have:=HH.sz.nl;omega
 have qU:=ah (fun(V:World) (hb:Below w.heap.size w V) (k:Nat) (y:Cy.L) (hk:p.names[k]?=some y)=>show∃(lb lo:Nat) (z:ByteArray),A1=some ⟨lb,lo,none⟩/\z.data.toList=y/\z.size<=16777216/\V.cell? ⟨lb,lo+k,none⟩=some (.string z) from by
  obtain⟨lb,lo,x,e,qN,hx,hc⟩:=((Reads.dZ lH.out).below hb).cell (k:=k) (by have:=(aeK.1 hk).1;have:=jf.out;omega)
  rw[aeY,hk]at hx;cases hx
  exact⟨lb,lo,⟨y.toArray⟩,e,rfl,by rw[dR];exact HH.sz.ns y (aew hk),hc⟩)
 obtain⟨⟨d0,d1,d2,d3,d4,d5⟩,-⟩:=jE HS2.k1;go_wp2_with fail;clear d0 d1 d2 d3 d4 d5
 go_loopg [7] nl (fun q x wr=> ∃k:Nat,x=.int .i64 k/\k+q=nl/\Hid (Below w2.heap.size w2 wr)/\Hid (Cy.wO (p.names.take k) (p.names.drop k)=D))
 case atStart=>exact⟨0,rfl,by omega,aoa _ _,HD.out⟩
 obtain⟨k,rfl,hk,hb,he⟩:=hrel;have HB:Hid (Below w2.heap.size w2 wr):=hb;have HE:Hid (Cy.wO (p.names.take k) (p.names.drop k)=D):=he;have HK:=ah hk;have iJ:=ah (HS2.below HB.out);obtain⟨⟨d0,d1,d2,d3,d4,d5⟩,-⟩:=jE iJ.k1;clear hb he HD;cases gk with
 |zero=>
  obtain rfl:k=nl:=by omega
  have hd0:D=0:=by
   have he:=HE.out;rw[agS (by rw[jf.out];exact aej _)]at he
   rw[<-he];simp[Cy.wO]
  obtain⟨PW,wo⟩:=aj (Cy.dJ [] p.props);have hr:=HR3.out;rw[hd0,aer (by simp),wo]at hr
  have hpw:=ac8 B A2 pl c2 p.props wr (lW.kp (Kp.of_below iJ.bel eY.out) (by decide) (by decide) (by decide)) nR.out (by rw[<-nR.out];exact HH.sz.pl) HH.sz.ps
  rw[wo]at hpw;have iT:=ah hpw;have HRR:=ah hr;clear hd0 hr hpw wo hk HE HR3 HK HS2 HG2;go_wp2_with fail;refine mq8 iT fun w7 b7=>?_;have dL:=ah (iJ.below b7);clear b7 d0 d1 d2 d3 d4 d5 iJ iT HB;obtain⟨sn,sr,ln,lr,eg,q1,q2,q3,q4,q5,q6⟩:=HH.own.below dL.bel
  injection eg with eg
  simp only[arI,aqv,apg,arT]at eg;obtain⟨rfl,rfl⟩:=eg;have Ov:B<=w7.heap.size:=aep eY.out dL.bel.size;have vW:Kp B w w7:=Kp.of_below dL.bel eY.out;have hno:iP w7 B (⟨n,p.names,p.props⟩,[.int .i64 n,.slice A1 k c1,.slice A2 pl c2]):=⟨_,_,rfl,by rw[show p.names.length=k from jf.out];exact nG lH.out vW (by decide) (by decide) (by decide),lW.kp vW (by decide) (by decide) (by decide)⟩
  have iR:=ah (fun(w9:World) (v':Value) (hg:w7.grownBy w9 (Value.ownBlock (.slice An nn cn))) (ho:w9.ownsRow B 37 3 v' (g.nodes.length+1) (ln.flatMap Prod.snd++[.int .i64 n,.slice A1 k c1,.slice A2 pl c2]))=>dV.node q1 q2 q3 q4 q5 q6 Ov hno hg ho)
  have uT:=ah (fun(w9:World) (hg:w7.grownBy w9 (Value.ownBlock (.slice An nn cn)))=>show ak w9 b 26 #[.slice An nn cn,.slice Ar rn cr]/\ ∃u0 u1,ak w9 (b+1+1) 26 #[u0,u1] from by
   obtain⟨u0,u1,hk2⟩:=dL.k2
   exact⟨dL.k0.grown hg (BD q3 dL.k0 (by decide)),u0,u1,hk2.grown hg (BD q3 hk2 (by decide))⟩)
  rw[HH.hn.1]at q3 iR;have H4:=ah q3;have y8:=ah vW;obtain⟨⟨d0,d1,d2,d3,d4,d5⟩,-⟩:=jE dL.k1;obtain⟨c0,c1',⟨u0,r0⟩,⟨u1,r1⟩,f0,f1⟩:=dL.out.out;have hnb:nn<536870912:=by have:=HH.hn.2;omega
  clear q1 q2 q3 q4 q5 q6 vW hno r0 r1 f0 f1;go_wp2_with (at_builtin;refine DJ rfl (.tmp 62) (.tmp 69) 23 37 (.agg #[.int .i64 0,.slice none 0 0,.slice none 0 0]) 3 56 as6 Ve rfl (by decide) (by decide) rfl B (.slice An nn cn) nn (ln.flatMap Prod.snd) w7 rfl H4.out [.int .i64 n,.slice A1 k c1,.slice A2 pl c2] _ rfl rfl (by simp[Value.oneCell']) rfl hnb Ov ?_)
  intro v9 w9 aF aO bI aB;obtain⟨A9,c9,rfl⟩:=aH aF;obtain⟨bC,hk9⟩:=iR.out w9 (.slice A9 (nn+1) c9) aO aF;obtain⟨kb,v0,v1,kr⟩:=uT.out w9 aO;obtain⟨w10,zJ⟩:=aj (w9.setCell ⟨b,0,none⟩ (.slice A9 (nn+1) c9));have Ox:ak w10 b 26 #[.slice A9 (nn+1) c9,.slice Ar rn cr]:=by rw[<-zJ];simpa using kb.aG 0 (.slice A9 (nn+1) c9)
  have Di:ak w10 (b+1+1) 26 #[v0,v1]:=by rw[<-zJ];exact kr.far (p:=⟨b,0,none⟩) (show b+1+1≠b by omega) _
  have qc:=bC.kt (Kt.cell (base:=0) kb (anH _) 0 (.slice A9 (nn+1) c9)) (by decide) (by decide) (by decide) (by decide) (by decide)
  have hk10:=(y8.trans hk9).put (b:=b) (i:=0) (by have:=dL.sz;omega) eY.out (.slice A9 (nn+1) c9)
  rw[zJ]at qc hk10
  have G5:=ah (show ak ((w10.setCell ⟨b+1+1,0,none⟩ (.slice A9 (nn+1) c9)).setCell ⟨b+1+1,1,none⟩ (.slice Ar rn cr)) (b+1+1) 26 #[.slice A9 (nn+1) c9,.slice Ar rn cr]/\Ed B R w (.returned (.tuple #[.agg #[.slice A9 (nn+1) c9,.slice Ar rn cr],.int .i64 (R.2:Nat)])) ((w10.setCell ⟨b+1+1,0,none⟩ (.slice A9 (nn+1) c9)).setCell ⟨b+1+1,1,none⟩ (.slice Ar rn cr)) from by
   have ks:=Di.aG 0 (.slice A9 (nn+1) c9);refine⟨by simpa using ks.aG 1 (.slice Ar rn cr),_,_,_,_,_,_,rfl,(hk10.put (b:=b+1+1) (i:=0) (by have:=dL.sz;omega) eY.out _).put (b:=b+1+1) (i:=1) (by have:=dL.sz;omega) eY.out _,fun _=>⟨?_, ?_, ?_⟩⟩
   ·rw[<-HRR.out]
    exact(qc.kt (Kt.cell (base:=0) Di (anH _) 0 _) (by decide) (by decide) (by decide) (by decide) (by decide)).kt (Kt.cell (base:=0) ks (anH _) 1 _) (by decide) (by decide) (by decide) (by decide) (by decide)
   ·rw[<-HRR.out];simp[HH.hn.1]
   rw[<-HRR.out];exact HH.hr.1)
  refine gq3 Ox Di zJ fun HKB gK agE=>?_;have hc0:=kb.cell 0;have hf0:=kb.frozen 0;have hR2:R.2=PW:=by rw[<-HRR.out]
  have HR2:=ah hR2;clear aF aO bI aB bC hk9 kb kr Ox Di qc hk10 zJ hR2 c0 c1' d0 d1 d2 d3 d4 d5 iR uT H4
  go_upto_region 19 with fail
  rw[agE.out];obtain⟨c0,c1'⟩:=cells2 HKB.out;have r0:=gK.cell 0;have r1:=gK.cell 1;have f0:=gK.frozen 0;have f1:=gK.frozen 1;clear hc0 hf0 agE;go_wp2_with fail;exact vJ (v2:=.int .i64 (PW:Nat)) rfl (by simp) (by simp) G5.out.1 (by have h:=G5.out.2;rw[HR2.out]at h;exact h)
 |succ q=>
  have hkn:k<nl:=by omega
  have dW:(k:Int)<nl:=by omega
  obtain⟨y,hy⟩: ∃y,p.names[k]?=some y:=⟨_,aen (by rw[jf.out];exact hkn)⟩
  have hdr:p.names.drop k=y :: p.names.drop (k+1):=by
   rw[afk (by rw[jf.out];exact hkn)]
   congr 1
   exact aeM ((aen _).symm.trans hy)
  have htk:p.names.take (k+1)=p.names.take k++[y]:=by rw[afS,hy];rfl
  have he:=HE.out;rw[hdr,Cy.wO,<-htk]at he;obtain⟨lb,lo,z,rfl,hzd,hzs,hc⟩:=qU.out wr iJ.bel k y hy;have tk:((k:Int)).toNat=k:=by omega
  have hk0:(0:Int)<=k:=by omega
  have tw:IntKind.i64.wrap ((k:Int)+1)=(k:Int)+1:=by unfold IntKind.wrap;simp[IntKind.signed,IntKind.bits];omega
  obtain⟨GB,mJ⟩:=aj (Gr.fD y);rw[mJ]at he;have hgn:=IZ z wr (by omega)
  rw[hzd,mJ]at hgn;refine gq5 hgn he hzd hy hkn fun gW HE2 HZD HY lK=>?_;clear hkn hy hdr htk he hzd hzs hgn mJ hk HE;go_wp2_with fail;refine mq8 gW fun w3 b3=>?_;have HB3:=ah (HB.trans (b3.mono HB.size));have bK:=ah (iJ.below b3);clear b3 d0 d1 d2 d3 d4 d5 hc iJ;cases GB with
  |false=>
   have hd:D=60:=by rw[<-HE2.out,aeu rfl]
   have hx:R=(g,60):=by rw[<-HR3.out,hd,aeu (by decide)]
   subst hx;obtain⟨c0,c1',⟨u0,r0⟩,⟨u1,r1⟩,f0,f1⟩:=bK.out.out;go_wp2_with fail;exact bK.exit eY.out rfl (show(60:Nat)≠0 by decide) rfl (by simp) (by simp)
  |true=>
  have he:=HE2.out;rw[aer (by decide)]at he
  have dU:=ah he;clear he HE2 gW;go_wp2_with fail
  go_loopg [8] k (fun q x wr=> ∃j:Nat,x=.int .i64 j/\j+q=k/\Hid (Below w3.heap.size w3 wr)/\ ∀i a,i<j->p.names[i]?=some a->a≠y)
  case atStart=>exact⟨0,rfl,by omega,aoa _ _,fun i a h=>by omega⟩
  obtain⟨j,rfl,hj,hb,hz⟩:=hrel;have Zg:Hid (Below w3.heap.size w3 wr):=hb;refine gq3 hz hj (bK.below Zg.out) fun HZ HJ SN=>?_;obtain⟨⟨d0,d1,d2,d3,d4,d5⟩,-⟩:=jE SN.k1;clear hz hb;cases gk with
  |zero=>
   obtain rfl:j=k:=by omega
   have he:=dU.out
   rw[aer (fun hm=>by
    obtain⟨i,hi,hai⟩:=ao0.1 hm;rw[afo]at hi
    exact HZ.out i y (by omega) (by rw[aen (by omega),<-hai,apK]) rfl)]at he
   have jh:=ah he;have t1:decide ((j:Int)<j)=false:=dF (by omega)
   clear he dU HZ hj;go_wp2
   go_roundg q
   case measure=>omega
   exact⟨j+1,int_eq (by omega),by have:=HK.out;omega,HB3.trans (Zg.mono HB3.size),jh.out⟩
  |succ q2=>
   have hjk:j<k:=by omega
   have YJ:(j:Int)<k:=by omega
   obtain⟨a,ha⟩: ∃a,p.names[j]?=some a:=⟨_,aen (by have:=jf.out;have:=lK.out;omega)⟩
   obtain⟨lb',lo',zk,eA,fJ,-,hck⟩:=qU.out wr SN.bel k y HY.out
   injection eA with eA
   injection eA with e1 e2
   subst e1;subst e2;obtain⟨lb',lo',zj,eA,hzj,-,hcj⟩:=qU.out wr SN.bel j a ha
   injection eA with eA
   injection eA with e1 e2
   subst e1;subst e2;have tj:((j:Int)).toNat=j:=by omega
   have hj0:(0:Int)<=j:=by omega
   have hjn:(j:Int)<nl:=by omega
   have twj:IntKind.i64.wrap ((j:Int)+1)=(j:Int)+1:=by unfold IntKind.wrap;simp[IntKind.signed,IntKind.bits];omega
   obtain⟨bb,hbb⟩:=aj (zj.toList == zk.toList);have hbk:bb=decide (a=y):=by rw[<-hbb,aod,aod,hzj,fJ,afN,afc,aqr]
   refine gq3 hbk ha hjk fun dP HA YK=>?_;clear hzj fJ ha hbk hj hjk;cases bb with
   |true=>
    have hd:D=7:=by
     rw[<-dU.out,aeu];rw[<-aeL dP.symm];exact aew (i:=j) (by rw[apr,aeu YK.out];exact HA.out)
    have hx:R=(g,7):=by rw[<-HR3.out,hd,aeu (by decide)]
    subst hx;go_wp2_with fail
    go_quiet (fail)
    have HSX:=ah (SN.below ((below_drewN (aoa _ _) nq)));obtain⟨c0,c1',⟨u0,r0⟩,⟨u1,r1⟩,f0,f1⟩:=HSX.out.out;go_wp2_with fail;exact HSX.exit eY.out rfl (show(7:Nat)≠0 by decide) rfl (by simp) (by simp)
   |false=>
    have mG:=ah (aex dP.symm);go_wp2_with fail
    go_quiet (fail)
    go_wp2
    go_roundg q2
    case measure=>omega
    case rel=>exact⟨j+1,int_eq (by omega),by have:=HJ.out;omega,below_drewN Zg.out _,fun i x hi hx=>by
     rcases aoD.1 hi with h|h
     ·exact HZ.out i x h hx
     rw[h,HA.out]at hx
     exact aeM hx▸mG.out⟩
end Go.Proofs.YtdijgcnlbfgkdaaGreatDoor
