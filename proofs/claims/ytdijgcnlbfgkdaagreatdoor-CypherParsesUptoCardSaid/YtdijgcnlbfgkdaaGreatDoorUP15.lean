/- Lemmas. -/
import Derived.Test.YtdijgcnlbfgkdaaGreatDoorUP14
import Derived.RegionDies
set_option maxHeartbeats 64000000
set_option maxRecDepth 1000000
set_option linter.all false
namespace Go.Proofs.YtdijgcnlbfgkdaaGreatDoor
open Go.RowKit Go.Proofs.Tryz
def aT.form {T:TypeId} {W:World} {B:Nat} {v:Value} {ps:List Gr.P} (h:aT T W B v ps): ∃A c,v=.slice A ps.length c:=by
 obtain⟨l,-,-,h3⟩:=h;exact aH h3
structure eH (w:World) (b:Nat) (f wd ot:ByteArray) (ns:List (List UInt8)) (ps:List Gr.P) (V:World):Prop where
 ex: ∃sn sp,ak V w.heap.size 56 #[.string f,.string wd,.string ot,sn,sp]/\V.ownsRow (w.heap.size+1) 9 1 sn ns.length (ns.map ST)/\aT 165 V (w.heap.size+1) sp ps
 gr:w.grownBy V (some b)
def eH.lt {w V:World} {b:Nat} {f wd ot:ByteArray} {ns:List (List UInt8)} {ps:List Gr.P} (h:eH w b f wd ot ns ps V):w.heap.size<V.heap.size:=by
 obtain⟨sn,sp,h1,-⟩:=h.ex;exact h1.lt
def eH.step {w V V':World} {b:Nat} {f wd ot:ByteArray} {ns:List (List UInt8)} {ps:List Gr.P} (h:eH w b f wd ot ns ps V) (hb:b<w.heap.size) (hg:V.grownBy V' (some b)):eH w b f wd ot ns ps V':=by
 obtain⟨sn,sp,h1,h2,h3⟩:=h.ex;exact⟨⟨sn,sp,h1.grown hg (fun e=>by have:=aeM e;omega),fP h2 hg (by omega),h3.step hg (by omega)⟩,aS h.gr hg⟩
def eH.cells {w V:World} {b:Nat} {f wd ot:ByteArray} {ns:List (List UInt8)} {ps:List Gr.P} (h:eH w b f wd ot ns ps V): ∃A1 c1 A2 c2,ak V w.heap.size 56 #[.string f,.string wd,.string ot,.slice A1 ns.length c1,.slice A2 ps.length c2]/\
  V.ownsRow (w.heap.size+1) 9 1 (.slice A1 ns.length c1) ns.length (ns.map ST)/\aT 165 V (w.heap.size+1) (.slice A2 ps.length c2) ps:=by
 obtain⟨sn,sp,h1,h2,h3⟩:=h.ex;obtain⟨A1,c1,rfl⟩:=aH h2;obtain⟨A2,c2,rfl⟩:=h3.form;exact⟨A1,c1,A2,c2,h1,h2,h3⟩
def BA {W:World} {b:Nat} {v0 v1 v2 v3 v4:Value} (h:ak W b 56 #[v0,v1,v2,v3,v4]):
  W.cell? ⟨b,0,none⟩=some v0/\W.cell? ⟨b,1,none⟩=some v1/\W.cell? ⟨b,2,none⟩=some v2/\W.cell? ⟨b,3,none⟩=some v3/\W.cell? ⟨b,4,none⟩=some v4/\
  W.frozen? ⟨b,0,none⟩=false/\W.frozen? ⟨b,1,none⟩=false/\W.frozen? ⟨b,2,none⟩=false/\W.frozen? ⟨b,3,none⟩=false/\W.frozen? ⟨b,4,none⟩=false:=
 ⟨h.cell 0,h.cell 1,h.cell 2,h.cell 3,h.cell 4,h.frozen 0,h.frozen 1,h.frozen 2,h.frozen 3,h.frozen 4⟩
section
variable {w V:World} {b:Nat} {f wd ot:ByteArray} {ns:List (List UInt8)} {ps:List Gr.P}
def eH.aG {f' wd' MP:ByteArray} (h:eH w b f wd ot ns ps V) (i:Nat) (u:Value) (hi: ∀sn sp:Value,(#[.string f,.string wd,.string ot,sn,sp]:Array Value).setIfInBounds i u= #[.string f',.string wd',.string MP,sn,sp]):eH w b f' wd' MP ns ps (V.setCell ⟨w.heap.size,i,none⟩ u):=by
 obtain⟨sn,sp,h1,h2,h3⟩:=h.ex;have hset:=grownBy_set V ⟨w.heap.size,i,none⟩ u;exact⟨⟨sn,sp,(h1.aG i u).cast (hi sn sp),fP h2 hset (aeX _),h3.step hset (aeX _)⟩,vC h.gr hset (fun i e=>by cases e;exact aej _)⟩
def eH.set0 (h:eH w b f wd ot ns ps V) (z:ByteArray):eH w b z wd ot ns ps (V.setCell ⟨w.heap.size,0,none⟩ (.string z)):=h.aG 0 _ fun sn sp=>by simp
def eH.set1 (h:eH w b f wd ot ns ps V) (z:ByteArray):eH w b f z ot ns ps (V.setCell ⟨w.heap.size,1,none⟩ (.string z)):=h.aG 1 _ fun sn sp=>by simp
def eH.set2 (h:eH w b f wd ot ns ps V) (z:ByteArray):eH w b f wd z ns ps (V.setCell ⟨w.heap.size,2,none⟩ (.string z)):=h.aG 2 _ fun sn sp=>by simp
def eH.aeJ {ps':List Gr.P} {u:Value} (h:eH w b f wd ot ns ps V) (hp:aT 165 V (w.heap.size+1) u ps'):eH w b f wd ot ns ps' (V.setCell ⟨w.heap.size,4,none⟩ u):=by
 obtain⟨sn,sp,h1,h2,h3⟩:=h.ex;have hset:=grownBy_set V ⟨w.heap.size,4,none⟩ u;exact⟨⟨sn,u,(h1.aG 4 u).cast (by simp),fP h2 hset (aeX _),hp.step hset (aeX _)⟩,vC h.gr hset (fun i e=>by cases e;exact aej _)⟩
def eH.Xb {ns':List (List UInt8)} {u:Value} (h:eH w b f wd ot ns ps V) (hp:V.ownsRow (w.heap.size+1) 9 1 u ns'.length (ns'.map ST)):eH w b f wd ot ns' ps (V.setCell ⟨w.heap.size,3,none⟩ u):=by
 obtain⟨sn,sp,h1,h2,h3⟩:=h.ex;have hset:=grownBy_set V ⟨w.heap.size,3,none⟩ u;exact⟨⟨u,sp,(h1.aG 3 u).cast (by simp),fP hp hset (aeX _),h3.step hset (aeX _)⟩,vC h.gr hset (fun i e=>by cases e;exact aej _)⟩
def eH.name {V':World} {x:List UInt8} {A1 A2:Option Addr} {c1 c2:Nat} {v:Value} (h:eH w b f wd ot ns [] V) (hb:b<w.heap.size)
  (hk:ak V w.heap.size 56 #[.string f,.string wd,.string ot,.slice A1 ns.length c1,.slice A2 0 c2]) (hs:V.ownsRow (w.heap.size+1) 9 1 (.slice A1 ns.length c1) ns.length (ns.map ST)) (hp:aT 165 V (w.heap.size+1) (.slice A2 0 c2) [])
  (hown:V'.ownsRow (w.heap.size+1) 9 1 v (ns.length+1) (ns.map ST++[ST x])) (hg:V.grownBy V' (Value.slice A1 ns.length c1).ownBlock) (hbl:Below (w.heap.size+1) V V'):eH w b f wd ot (ns++[x]) [] (V'.setCell ⟨w.heap.size,3,none⟩ v):=by
 obtain⟨l,e,-,h3⟩:=hp;obtain rfl:=ao6.1 e;have hgr:w.grownBy V' (some b):=⟨hbl.os.trans h.gr.os,hbl.tape.trans h.gr.tape,hbl.output.trans h.gr.output,aep h.gr.size hbl.size,fun i hi hne=>(hbl.block i (by omega)).trans (h.gr.block i hi hne)⟩
 have hset:=grownBy_set V' ⟨w.heap.size,3,none⟩ v;refine⟨⟨v,.slice A2 0 c2,((hk.below hbl (aeX _)).aG 3 v).cast (by simp), ?_,[],rfl,by simp,fP (eu h3 hg fun g c t fz hr hc=> ?_) hset (aeX _)⟩,vC hgr hset (fun i e=>by cases e;exact aej _)⟩
 ·have:=fP hown hset (aeX _)
  rw[aeo,afg];exact this
 obtain⟨-,c',hc'⟩:=mW hs g hr;rw[hc']at hc;cases hc
 decide
end
def U5 (W:World) (B:Nat) (u:Value) (p:Cy.aI):Prop:=
 ∃sn sp,u=.agg #[ST p.first,ST p.word,ST p.other,sn,sp]/\W.ownsRow B 9 1 sn p.names.length (p.names.map ST)/\aT 165 W B sp p.props
def akc (w:World) (base e:Nat) (u:Value) (hb:base<=w.heap.size):(w.alloc (.cells #[u] e)).ownsRow base e 1 (.slice (some ⟨w.heap.size,0,none⟩) 1 1) 1 [u]:=
 ⟨rfl,.inr ⟨w.heap.size,1,#[u],rfl,hb,atC w _,aej _,by unfold maxLen;omega,rfl,rfl⟩⟩
def eH.told {q0:Nat×Nat} {w V W:World} {b:Nat} {f wd ot:ByteArray} {ns:List (List UInt8)} {ps:List Gr.P} {r:List Lex.Tok} {sn sp:Value} {p:Cy.aI} (h:eH w b f wd ot ns ps V) (hb:b<w.heap.size) (hr:RS q0 b r V)
  (h2:V.ownsRow (w.heap.size+1) 9 1 sn ns.length (ns.map ST)) (h3:aT 165 V (w.heap.size+1) sp ps) (hg:V.grownBy W (some w.heap.size))
  (e1:ST p.first=.string f) (e2:ST p.word=.string wd) (e3:ST p.other=.string ot) (e4:p.names=ns) (e5:p.props=ps):
  U4 q0 b w (fun W u p=>U5 W w.heap.size u p) (some (p,r)) (.returned (.agg #[.string f,.string wd,.string ot,sn,sp])) W:=
 ⟨vC h.gr hg (fun i e=>by cases e;exact aej _),_,rfl,⟨sn,sp,by rw[e1,e2,e3],by rw[e4];exact own_base (fP h2 hg (aeX _)) (ahy _),by rw[e5];exact(h3.step hg (aeX _)).base (ahy _)⟩,hr.grown hg hb⟩
def U6 {fn:Func} {R:Ending->World->Prop} {tmps:Array Value} {W:World} {b:Nat} {v0 v1 v2 v3 v4:Value} (hfn:fn.results= #[.cell 2 56])
  (ht:tmps.getD 2 undef=.pointer (some ⟨b,0,none⟩)) (hB:ak W b 56 #[v0,v1,v2,v3,v4]) (hR:R (.returned (.agg #[v0,v1,v2,v3,v4])) W):
  bodyPost prog fn R .ret {tmps:=tmps,defers:=[]} W:=by
 have c0:=hB.cell 0;have c1:=hB.cell 1;have c2:=hB.cell 2;have c3:=hB.cell 3;have c4:=hB.cell 4;simp at c0 c1 c2 c3 c4;refine arW (v:=.agg #[v0,v1,v2,v3,v4]) ?_ rfl hR;simp at ht;simp[results,hfn,go_sem,ht,c0,c1,c2,c3,c4]
def U7 {W:World} {b:Nat} {v0 v1 v2 v3 v4:Value} (h:ak W b 56 #[v0,v1,v2,v3,v4]):
  ak (((((W.setCell ⟨b,0,none⟩ v0).setCell ⟨b,1,none⟩ v1).setCell ⟨b,2,none⟩ v2).setCell ⟨b,3,none⟩ v3).setCell ⟨b,4,none⟩ v4) b 56 #[v0,v1,v2,v3,v4]:=h.aeC
def akd {r r' r'':List Lex.Tok} {ps:List Gr.P} (h1:Cy.qx r=some (ps,r')) (h2:Cy.mark [41] r'=some r''):(r.headD sV).text=[123]↔(Cy.mark [123] r).isSome=true:=by
 cases r with
 |nil=>simp[sV,Cy.mark]
 |cons t l=>
  rw[an2]
  constructor
  ·intro ht
   by_cases hk:t.kind=5
   ·rw[Cy.mark,aeu ⟨hk,ht⟩];rfl
   exfalso
   have hm:Cy.mark [123] (t :: l)=none:=by rw[Cy.mark,aer (fun x=>hk x.1)]
   unfold Cy.qx at h1;rw[hm]at h1;cases h1;rw[Cy.mark,aer (fun x=>hk x.1)]at h2
   cases h2
  intro hm;rw[Cy.mark]at hm
  split at hm
  ·rename_i h;exact h.2
  cases hm
def acd {q0:Nat×Nat} {b:Nat} {l:List Lex.Tok} {w:World} (h:RS q0 b l w):
  Calls prog 36 #[.pointer (some ⟨b,0,none⟩)] w (U4 q0 b w (fun W u p=>U5 W w.heap.size u p) (Cy.wM l)):=by
 obtain⟨o,ho⟩:=aj (Cy.wM l);rw[ho];unfold Cy.wM at ho;have hu:=rG;have aA:=ah h.lt;have hr1:=h.kept ((aoa _ w).alloc (aej _) (.cells #[.string ⟨#[]⟩,.string ⟨#[]⟩,.string ⟨#[]⟩,.slice none 0 0,.slice none 0 0] 56));obtain⟨W1,hW1⟩:=aj (w.alloc (.cells #[.string ⟨#[]⟩,.string ⟨#[]⟩,.string ⟨#[]⟩,.slice none 0 0,.slice none 0 0] 56));rw[hW1]at hr1;have jc:=ah (show eH w b ⟨#[]⟩ ⟨#[]⟩ ⟨#[]⟩ [] [] W1 by rw[<-hW1];exact⟨⟨_,_,ak.new _ _ _,arU _ _ _ _,aT.nil _ _ _⟩,Bj (iw _ _) _⟩)
 refine gq3 hr1 hW1 ho fun HR0 HW1 Jw=>?_;clear h hr1 hW1 ho;go_enter func36,ntmps36
 go_upto_region 1 with fail
 rw[HW1.out];clear HW1;cases hc:Cy.mark [40] l with
 |none=>
  have HM:=ah (kD (z:=⟨#[40]⟩) HR0.out hc);have he:=Jw.out
  try simp only at he
  rw[hc]at he
  try simp only at he
  have HO:=ah he;clear hc he;go_wp2_with fail;refine tq8 HM fun wa1 hr hg=>?_;have HG:=ah (jc.step aA.out hg).gr;clear hr hg;go_wp2_with fail;refine iq7 (og _ _) ?_;exact⟨rfl,HG.out,by rw[<-HO.out]⟩
 |some l1=>
 have HM:=ah (kW (z:=⟨#[40]⟩) HR0.out hc);have he:=Jw.out
 try simp only at he
 rw[hc]at he
 try simp only at he
 have mF:=ah he;clear hc he;go_wp2_with fail;refine tq8 HM fun wa1 hr hg=>?_;have HR1:=ah hr;have dH:=ah (jc.step aA.out hg);clear hr hg HM HR0 jc Jw;go_wp2_with fail;refine iq7 (nD _ _) ?_;cases hc:Cy.dS l1 with
 |none=>
  have HM:=ah (FQ HR1.out hc);have he:=mF.out
  try simp only at he
  rw[hc]at he
  try simp only at he
  have HO:=ah he;clear hc he;go_wp2_with fail;refine mq8 HM fun Xc hg=>?_;exact⟨rfl,(dH.step aA.out hg).gr,by rw[<-HO.out]⟩
 |some q2=>
 obtain⟨fw,l2⟩:=q2;have hwd:=FP HR1.out hc;obtain⟨yU,Xd⟩:=aj (⟨fw.toArray⟩:ByteArray);rw[Xd]at hwd;have HM:=ah hwd;have Xe:=ah Xd;have he:=mF.out
 try simp only at he
 rw[hc]at he
 try simp only at he
 have HE2:=ah he;clear hc he hwd Xd;go_wp2_with fail;refine tq8 HM fun Xc hr hg=>?_;have hs1:=dH.step aA.out hg;obtain⟨A1,c1,A2,c2,hbk,-,-⟩:=hs1.cells;obtain⟨a0,a1,a2,a3,a4,f0,f1,f2,f3,f4⟩:=BA hbk;obtain⟨W2,hW⟩:=aj (Xc.setCell ⟨w.heap.size,0,none⟩ (.string yU));have HS2:=ah (show eH w b yU ⟨#[]⟩ ⟨#[]⟩ [] [] W2 by rw[<-hW];exact hs1.set0 yU)
 have HR2:=ah (show RS q0 b l2 W2 by rw[<-hW];exact hr.grown (grownBy_set Xc ⟨w.heap.size,0,none⟩ _) aA.out)
 have HW:=ah hW;clear hr hg hs1 hbk hW HM HR1 dH mF
 go_upto_block 0 with fail
 rw[HW.out];clear HW a0 a1 a2 a3 a4 f0 f1 f2 f3 f4;obtain⟨E,hE⟩:=aj (Cy.sU (l2.length+1) l2 []);have he:=HE2.out
 try simp only at he
 rw[hE]at he;have HX:=ah he;have HEL:=ah hE;clear he hE HE2;go_wp2_with fail
 go_loopg [12] (l2.length+1) (fun g x wr=> ∃l' acc,RS q0 b l' wr/\eH w b yU ⟨#[]⟩ ⟨#[]⟩ acc [] wr/\l'.length<g/\Hid (Cy.sU g l' acc=E)/\acc.length+l'.length<=16777216)
 case atStart=>exact⟨l2,[],HR2.out,HS2.out,by omega,HEL.out,by have:=HR2.len;simp;omega⟩
 obtain⟨l',acc,hr,hs,kK,HE,hal⟩:=hrel;refine gq4 hr hs hal kK fun HR HS fZ uI=>?_;clear hr hs hal HEL HR2 HS2;cases gk with
 |zero=>omega
 |succ f=>
 have he:_=E:=HE;rw[Cy.sU]at he;clear kK HE;cases hc:Cy.mark [58] l' with
 |some l3=>
  rw[hc]at he
  try simp only at he
  refine gq3 (kW (z:=⟨#[58]⟩) HR.out hc) he (Cy.iM hc).2 fun HM HE rZ=>?_;clear hc he;go_wp2_with fail;refine tq8 HM fun wm hr hg=>?_;have Es:=ah hr;have tH:=ah (HS.step aA.out hg);clear hr hg HR HS HM;obtain⟨A1,c1,A2,c2,hbk,hon,hop⟩:=tH.cells;refine gq3 hbk hon hop fun dP sD MQ=>?_;obtain⟨al,hal⟩:=aj acc.length;have oL:=ah hal;have a3:wm.cell? ⟨w.heap.size,3,none⟩=some (.slice A1 al c1):=by rw[<-hal];exact hbk.cell 3
  have f3:=hbk.frozen 3;have hbw:=hbk.lt;clear hbk hon hop hal;cases hc:Cy.dS l3 with
  |none=>
   have he:=HE.out;rw[hc]at he;have HO:=ah (show none=o by rw[<-HX.out,<-he])
   have HM:=ah (FQ (Es.kept (w':=wm.drew) (below_drewN (aoa _ _) 1)) hc);clear hc he;go_wp2_with fail;have HG:=ah (show w.grownBy wm.drew (some b) from wH tH.gr 1)
   go_region_dies
   all_goals (refine HM.mono ?_;rintro e w7 ⟨rfl,qg⟩;exact⟨rfl,aS HG.out qg,by rw[<-HO.out]⟩)
  |some q=>
   obtain⟨x,l4⟩:=q;have he:=HE.out;rw[hc]at he
   try simp only at he
   have HE2:=ah he;have MO:=ah (Cy.Bv hc Es.ok).2.2.1;have hwd:=FP (Es.kept (w':=wm.drew) (below_drewN (aoa _ _) 1)) hc;obtain⟨zx,hzx⟩:=aj (⟨x.toArray⟩:ByteArray);rw[hzx]at hwd;have HM:=ah hwd;have HZ:=ah hzx;have HSd:=ah (show eH w b yU ⟨#[]⟩ ⟨#[]⟩ acc [] wm.drew from tH.step aA.out (wH (iw wm (some b)) 1))
   have HKK:Hid (∀w',wm.drew.grownBy w' (some b)->w'.cell? ⟨w.heap.size,3,none⟩=some (.slice A1 al c1)/\w'.frozen? ⟨w.heap.size,3,none⟩=false):=fun w' hg=>by
    have hk:=(show ak wm.drew _ _ _ from dP.out).grown hg (fun e=>by have:=aeM e;have:=aA.out;omega)
    exact⟨(hk.cell 3).trans (by rw[<-oL.out];rfl),hk.frozen 3⟩
   have hall:al<1073741824:=by have:=fZ.out;have:=oL.out;omega
   clear hc he hwd hzx HE;go_wp2_with fail
   go_region_law (first|(refine IU 87 rfl (by go_simp) (akb HM.out) ?_;rintro _ w7 ⟨rfl,Et,qg⟩;have vW:=(HKK.out _ qg).1;have dL:=ah (HSd.step aA.out qg);have yV:=ah (fP sD.out (aS (wH (iw wm (some b)) 1) qg) (ag0 aA.out));have jB:=ah Et;have QZ:=dL.lt;clear Et)|(refine PZ rfl (.tmp 14) (.tmp 17) 34 9 (.string ⟨#[]⟩) 16 ar0 DK rfl (by decide) rfl (w.heap.size+1) (.slice A1 al c1) al (acc.map ST) _ rfl (by rw[<-oL.out];exact yV.out) (.string zx) rfl rfl hall QZ ?_;intro v9 w9 aF aO bI aB;obtain⟨A9,c9,rfl⟩:=aH aF;have hk9:w9.cell? ⟨w.heap.size,3,none⟩=some (.slice A1 al c1):=(aB.cell (aeX _)).trans (HKK.out _ qg).1;have Xf:w9.frozen? ⟨w.heap.size,3,none⟩=false:=(aB.frozen (aeX _)).trans (HKK.out _ qg).2))
   all_goals
    have hg':wm.grownBy w7 (some b):=aS (wH (iw wm (some b)) 1) qg;have iI:=ah (dL.name aA.out (x:=x) (v:=.slice A9 (al+1) c9) (dP.grown hg' (fun e=>by have:=aeM e;have:=aA.out;omega)) (fP sD.out hg' (ag0 aA.out)) (MQ.step hg' (ag0 aA.out)) (by rw[oL.out,show ST x=.string zx by rw[<-HZ.out];rfl];exact aF) (by rw[oL.out];exact aO) aB)
    have fH:=ah ((jB.below aB (ag0 aA.out)).grown (grownBy_set w9 ⟨w.heap.size,3,none⟩ (.slice A9 (al+1) c9)) aA.out);clear hg' aF aO bI aB hk9 Xf vW qg;go_wp2
    go_roundg f
    case measure=>omega
    exact⟨l4,acc++[x],fH.out,iI.out,by have:=uI.out;have:=rZ.out;have:=MO.out;omega,HE2,by have:=fZ.out;have:=rZ.out;have:=MO.out;rw[aeo,afP];omega⟩
 |none=>
 rw[hc]at he;have gV:=HX.out;rw[<-he]at gV
 try simp only at gV
 refine gq3 gV (kD (z:=⟨#[58]⟩) HR.out hc) he fun HE HM yX=>?_;clear hc he gV HX;go_wp2_with fail;refine tq8 HM fun wm hr hg=>?_;have Es:=ah hr;have tH:=ah (HS.step aA.out hg);clear hr hg HR HS HM
 go_upto_region 5 with fail
 go_cut [3] (fun s3 wx=> ∃lb:Bool,s3=.bool lb/\RS q0 b l' wx/\eH w b yU ⟨#[]⟩ ⟨#[]⟩ acc [] wx/\Hid (lb=true↔acc≠ []\/(l'.headD sV).text=[123]))
 case first=>
  obtain⟨A1,c1,A2,c2,hbk,-,-⟩:=tH.cells;obtain⟨al,hal⟩:=aj acc.length;have a3:wm.cell? ⟨w.heap.size,3,none⟩=some (.slice A1 al c1):=by rw[<-hal];exact hbk.cell 3
  have f3:=hbk.frozen 3;clear hbk;by_cases h0:acc=[]
  ·have anZ:al=0:=by rw[<-hal,h0];rfl
   subst anZ;have HP:=ah (IK b l' wm Es.out);obtain⟨t,ht⟩:=aj (l'.headD sV);rw[ht]at HP;unfold vU at HP;obtain⟨zt,aK⟩:=aj (⟨t.text.toArray⟩:ByteArray);rw[aK]at HP;have lZ:zt.data.toList=t.text:=by rw[<-aK]
   obtain⟨tb,htb⟩:=aj (zt.toList ==[123])
   have Xg:Hid (tb=true↔acc≠ []\/(l'.headD sV).text=[123]):=ah (by
    rw[<-htb,afc,aod,lZ,h0,ht]
    simp)
   have hfd: ∀w:World,(Instr.field 94 (.agg #[.int .i64 (t.kind:Int),.string zt,.int .i64 t.num,.int .i64 (t.pos:Int)]) 1).run prog w=.ok (.string zt) w:=fun _=>by kernel_rfl
   clear h0 hal ht aK lZ;go_wp2_with fail;refine mq8 HP fun wp hb=>?_;have HB:=ah hb;clear hb;go_wp2_with fail;go_meet;exact⟨tb,by first|rfl|(rw[htb]),Es.kept HB.out,tH.step aA.out (bV HB.out _),Xg⟩
  have hpos:0<al:=by rw[<-hal];exact afB.2 h0
  have t0:decide (0<al)=true:=aei hpos;have aqV:(0:Int)<al:=by omega
  have H0:=ah h0;clear h0 hal;go_wp2_with fail;go_meet;exact⟨true,rfl,Es.out,tH.out,ah ⟨fun _=> .inl H0.out,fun _=>rfl⟩⟩
 case rest=>
 obtain⟨lb,rfl,hr,hs,Xg⟩:=hcut;have HR:=ah hr;have HS:=ah hs;clear hr hs Es tH;have HP:=ah (ab9 HR.out);cases hc:Cy.qx l' with
 |none=>
  have he:=HE.out
  try simp only at he
  rw[hc]at he
  try simp only at he
  have HO:=ah he;rw[hc]at HP;clear hc he;go_wp2_with fail;refine HP.mono ?_;rintro e Q5 ⟨hg,rfl⟩;exact⟨rfl,(HS.step aA.out hg).gr,by rw[<-HO.out]⟩
 |some q3=>
 obtain⟨ps,l3⟩:=q3;have he:=HE.out
 try simp only at he
 rw[hc]at he
 try simp only at he
 have dU:=ah he;rw[hc]at HP;have eU:=ah hc;clear hc he;go_wp2_with fail;refine HP.mono ?_;rintro e Q5 ⟨hg,u,rfl,hp,hr⟩;have hs1:=HS.step aA.out hg;have hpb:aT 165 Q5 (w.heap.size+1) u ps:=hp.base (by have:=HS.lt;omega)
 obtain⟨Au,cu,rfl⟩:=hpb.form;obtain⟨A1,c1,A2,c2,hbk,-,-⟩:=hs1.cells;obtain⟨a0,a1,a2,a3,a4,f0,f1,f2,f3,f4⟩:=BA hbk;obtain⟨W3,hW⟩:=aj (Q5.setCell ⟨w.heap.size,4,none⟩ (.slice Au ps.length cu));have bK:=ah (show eH w b yU ⟨#[]⟩ ⟨#[]⟩ acc ps W3 by rw[<-hW];exact hs1.aeJ hpb)
 have HR3:=ah (show RS q0 b l3 W3 by rw[<-hW];exact hr.grown (grownBy_set Q5 ⟨w.heap.size,4,none⟩ _) aA.out)
 have HW:=ah hW;clear hr hg hs1 hp hpb hbk hW HP HR HS HE
 go_upto_region 7 with fail
 rw[HW.out];clear HW a0 a1 a2 a3 a4 f0 f1 f2 f3 f4;cases hc:Cy.mark [41] l3 with
 |none=>
  have HM:=ah (kD (z:=⟨#[41]⟩) HR3.out hc);have he:=dU.out
  try simp only at he
  rw[hc]at he
  try simp only at he
  have HO:=ah he;clear hc he;go_wp2_with fail;refine tq8 HM fun wa4 hr hg=>?_;have HG:=ah (bK.step aA.out hg).gr;clear hr hg;go_wp2_with fail;refine iq7 (og _ _) ?_;exact⟨rfl,HG.out,by rw[<-HO.out]⟩
 |some l4=>
 have HM:=ah (kW (z:=⟨#[41]⟩) HR3.out hc);have he:=dU.out
 try simp only at he
 rw[hc]at he
 try simp only at he
 have jh:=ah he;have Q7:=ah hc;clear hc he;go_wp2_with fail;refine tq8 HM fun wa4 hr hg=>?_;have HR4:=ah hr;have gG:=ah (bK.step aA.out hg);clear hr hg HM HR3 bK dU;go_wp2_with fail;refine iq7 (nD _ _) ?_
 have hlb:lb=true↔(acc≠ []\/(Cy.mark [123] l').isSome=true):=by
  rw[Xg.out,akd eU.out Q7.out]
 have he:=jh.out;cases lb with
 |true=>
  rw[aeu (hlb.1 rfl)]at he;have HO:=ah he;clear he hlb eU Q7;obtain⟨A1,c1,A2,c2,hbk,gq,xG⟩:=gG.cells;obtain⟨a0,a1,a2,a3,a4,f0,f1,f2,f3,f4⟩:=BA hbk;refine gq3 hbk gq xG fun dP jV yY=>?_;clear hbk gq xG;go_wp2;exact U6 rfl rfl (U7 dP.out) (by rw[<-HO.out];exact gG.told aA.out HR4.out jV.out yY.out (Ql (iw _ _) _ _ _ _ _) (by rw[<-Xe.out];rfl) rfl rfl rfl rfl)
 |false=>
 rw[aer (fun x=>by have:=hlb.2 x;cases this)]at he
 cases hc:Cy.mark [45] l4 with
 |none=>
  have HM:=ah (kD (z:=⟨#[45]⟩) HR4.out hc);rw[hc]at he;have HO:=ah he;clear hc he hlb eU Q7;go_wp2_with fail;refine tq8 HM fun wz hr hg=>?_;have HRz:=ah hr;have HSz:=ah (gG.step aA.out hg);clear hr hg HM HR4 gG;obtain⟨A1,c1,A2,c2,hbk,gq,xG⟩:=HSz.cells;obtain⟨a0,a1,a2,a3,a4,f0,f1,f2,f3,f4⟩:=BA hbk;refine gq3 hbk gq xG fun dP jV yY=>?_;clear hbk gq xG;go_wp2;exact U6 rfl rfl (U7 dP.out) (by rw[<-HO.out];exact HSz.told aA.out HRz.out jV.out yY.out (Ql (iw _ _) _ _ _ _ _) (by rw[<-Xe.out];rfl) rfl rfl rfl rfl)
 |some l5=>
 have HM:=ah (kW (z:=⟨#[45]⟩) HR4.out hc);rw[hc]at he
 try simp only at he
 unfold Cy.IJ at he;have yT:=ah he;clear hc he hlb eU Q7 jh;go_wp2_with fail;refine tq8 HM fun wz hr hg=>?_;have qV:=ah hr;have dQ:=ah (gG.step aA.out hg);clear hr hg HM HR4 gG;cases hc:Cy.mark [91] l5 with
 |none=>
  have HM:=ah (kD (z:=⟨#[91]⟩) qV.out hc);have he:=yT.out
  try simp only at he
  rw[hc]at he
  try simp only at he
  have HO:=ah he;clear hc he;go_wp2_with fail;refine tq8 HM fun wa6 hr hg=>?_;have HG:=ah (dQ.step aA.out hg).gr;clear hr hg;go_wp2_with fail;refine iq7 (og _ _) ?_;exact⟨rfl,HG.out,by rw[<-HO.out]⟩
 |some l6=>
 have HM:=ah (kW (z:=⟨#[91]⟩) qV.out hc);have he:=yT.out
 try simp only at he
 rw[hc]at he
 try simp only at he
 have JA:=ah he;clear hc he;go_wp2_with fail;refine tq8 HM fun wa6 hr hg=>?_;have oJ:=ah hr;have iU:=ah (dQ.step aA.out hg);clear hr hg HM qV dQ yT;go_wp2_with fail;refine iq7 (nD _ _) ?_;cases hc:Cy.dS l6 with
 |none=>
  have HM:=ah (FQ oJ.out hc);have he:=JA.out
  try simp only at he
  rw[hc]at he
  try simp only at he
  have HO:=ah he;clear hc he;go_wp2_with fail;refine mq8 HM fun Xh hg=>?_;exact⟨rfl,(iU.step aA.out hg).gr,by rw[<-HO.out]⟩
 |some q7=>
 obtain⟨rw,l7⟩:=q7;have hwd:=FP oJ.out hc;obtain⟨zrw,hzrw⟩:=aj (⟨rw.toArray⟩:ByteArray);rw[hzrw]at hwd;have HM:=ah hwd;have an5:=ah hzrw;have he:=JA.out
 try simp only at he
 rw[hc]at he
 try simp only at he
 have Xi:=ah he;clear hc he hwd hzrw;go_wp2_with fail;refine tq8 HM fun Xh hr hg=>?_;have hs1:=iU.step aA.out hg;obtain⟨A1,c1,A2,c2,hbk,-,-⟩:=hs1.cells;obtain⟨a0,a1,a2,a3,a4,f0,f1,f2,f3,f4⟩:=BA hbk;obtain⟨W7,hW⟩:=aj (Xh.setCell ⟨w.heap.size,1,none⟩ (.string zrw));have dL:=ah (show eH w b yU zrw ⟨#[]⟩ acc ps W7 by rw[<-hW];exact hs1.set1 zrw)
 have jB:=ah (show RS q0 b l7 W7 by rw[<-hW];exact hr.grown (grownBy_set Xh ⟨w.heap.size,1,none⟩ _) aA.out)
 have HW:=ah hW;clear hr hg hs1 hbk hW HM oJ iU JA
 go_upto_region 12 with fail
 rw[HW.out];clear HW a0 a1 a2 a3 a4 f0 f1 f2 f3 f4;cases hc:Cy.mark [58] l7 with
 |none=>
  have HM:=ah (kD (z:=⟨#[58]⟩) jB.out hc);have he:=Xi.out
  try simp only at he
  rw[hc]at he
  try simp only at he
  have HO:=ah he;clear hc he;go_wp2_with fail;refine tq8 HM fun wa8 hr hg=>?_;have HG:=ah (dL.step aA.out hg).gr;clear hr hg;go_wp2_with fail;refine iq7 (og _ _) ?_;exact⟨rfl,HG.out,by rw[<-HO.out]⟩
 |some l8=>
 have HM:=ah (kW (z:=⟨#[58]⟩) jB.out hc);have he:=Xi.out
 try simp only at he
 rw[hc]at he
 try simp only at he
 have Xj:=ah he;clear hc he;go_wp2_with fail;refine tq8 HM fun wa8 hr hg=>?_;have fF:=ah hr;have Xk:=ah (dL.step aA.out hg);clear hr hg HM jB dL Xi;go_wp2_with fail;refine iq7 (nD _ _) ?_;cases hc:Cy.dS l8 with
 |none=>
  have HM:=ah (FQ fF.out hc);have he:=Xj.out
  try simp only at he
  rw[hc]at he;have HO:=ah he;clear hc he;go_wp2_with fail;refine mq8 HM fun wt hg=>?_;exact⟨rfl,(Xk.step aA.out hg).gr,by rw[<-HO.out]⟩
 |some qt=>
 obtain⟨ty,lt⟩:=qt;have hwd:=FP fF.out hc;obtain⟨Q8,Xl⟩:=aj (⟨ty.toArray⟩:ByteArray);rw[Xl]at hwd;have HM:=ah hwd;have he:=Xj.out
 try simp only at he
 rw[hc]at he
 try simp only at he
 have Xm:=ah he;have hty:ST ty=.string Q8:=by rw[<-Xl];rfl
 have HTY:=ah hty;clear hc he hwd Xl hty;go_wp2_with fail;refine tq8 HM fun wt hr hg=>?_;have hs1:=Xk.step aA.out hg;have hlit:=akc wt (w.heap.size+1) 9 (.string Q8) hs1.lt;have hb2:Below wt.heap.size wt (wt.alloc (.cells #[.string Q8] 9)):=(aoa _ _).alloc (aej _) _;have hs2:=hs1.step aA.out (bV hb2 _);obtain⟨A1,c1,A2,c2,hbk,-,-⟩:=hs2.cells;obtain⟨a0,a1,a2,a3,a4,f0,f1,f2,f3,f4⟩:=BA hbk;obtain⟨Wt,hW⟩:=aj ((wt.alloc (.cells #[.string Q8] 9)).setCell ⟨w.heap.size,3,none⟩ (.slice (some ⟨wt.heap.size,0,none⟩) 1 1));have Q9:=ah (show eH w b yU zrw ⟨#[]⟩ [ty] ps Wt by rw[<-hW];exact hs2.Xb (ns':=[ty]) (by rw[agQ,ahr,HTY.out];exact hlit))
 have HRt:=ah (show RS q0 b lt Wt by rw[<-hW];exact(hr.kept hb2).grown (grownBy_set _ ⟨w.heap.size,3,none⟩ _) aA.out)
 have HW:=ah hW;clear hr hg hs1 hs2 hbk hW HM hb2 hlit fF Xk Xj
 go_upto_region 14 with fail
 rw[HW.out];clear HW a0 a1 a2 a3 a4 f0 f1 f2 f3 f4;have HP:=ah (ab9 HRt.out);cases hc:Cy.qx lt with
 |none=>
  have he:=Xm.out
  try simp only at he
  rw[hc]at he
  try simp only at he
  have HO:=ah he;rw[hc]at HP;clear hc he;go_wp2_with fail;refine HP.mono ?_;rintro e Rf ⟨hg,rfl⟩;exact⟨rfl,(Q9.step aA.out hg).gr,by rw[<-HO.out]⟩
 |some q10=>
 obtain⟨JB,l10⟩:=q10;have he:=Xm.out
 try simp only at he
 rw[hc]at he
 try simp only at he
 have Xn:=ah he;rw[hc]at HP;clear hc he;go_wp2_with fail;refine HP.mono ?_;rintro e Rf ⟨hg,u,rfl,hp,hr⟩;have hs1:=Q9.step aA.out hg;have hpb:aT 165 Rf (w.heap.size+1) u JB:=hp.base (by have:=Q9.lt;omega)
 obtain⟨Au,cu,rfl⟩:=hpb.form;obtain⟨A1,c1,A2,c2,hbk,-,-⟩:=hs1.cells;obtain⟨a0,a1,a2,a3,a4,f0,f1,f2,f3,f4⟩:=BA hbk;obtain⟨W10,hW⟩:=aj (Rf.setCell ⟨w.heap.size,4,none⟩ (.slice Au JB.length cu));have Xo:=ah (show eH w b yU zrw ⟨#[]⟩ [ty] JB W10 by rw[<-hW];exact hs1.aeJ hpb)
 have Ce:=ah (show RS q0 b l10 W10 by rw[<-hW];exact hr.grown (grownBy_set Rf ⟨w.heap.size,4,none⟩ _) aA.out)
 have HW:=ah hW;clear hr hg hs1 hp hpb hbk hW HP HRt Q9 Xm
 go_upto_region 15 with fail
 rw[HW.out];clear HW a0 a1 a2 a3 a4 f0 f1 f2 f3 f4;cases hc:Cy.mark [93] l10 with
 |none=>
  have HM:=ah (kD (z:=⟨#[93]⟩) Ce.out hc);have he:=Xn.out
  try simp only at he
  rw[hc]at he
  try simp only at he
  have HO:=ah he;clear hc he;go_wp2_with fail;refine tq8 HM fun an9 hr hg=>?_;have HG:=ah (Xo.step aA.out hg).gr;clear hr hg;go_wp2_with fail;refine iq7 (og _ _) ?_;exact⟨rfl,HG.out,by rw[<-HO.out]⟩
 |some l11=>
 have HM:=ah (kW (z:=⟨#[93]⟩) Ce.out hc);have he:=Xn.out
 try simp only at he
 rw[hc]at he
 try simp only at he
 have Xp:=ah he;clear hc he;go_wp2_with fail;refine tq8 HM fun an9 hr hg=>?_;have qX:=ah hr;have yZ:=ah (Xo.step aA.out hg);clear hr hg HM Ce Xo Xn;go_wp2_with fail;refine iq7 (nD _ _) ?_;cases hc:Cy.mark [45,62] l11 with
 |none=>
  have HM:=ah (kD (z:=⟨#[45,62]⟩) qX.out hc);have he:=Xp.out
  try simp only at he
  rw[hc]at he
  try simp only at he
  have HO:=ah he;clear hc he;go_wp2_with fail;refine tq8 HM fun aoc hr hg=>?_;have HG:=ah (yZ.step aA.out hg).gr;clear hr hg;go_wp2_with fail;refine iq7 (og _ _) ?_;exact⟨rfl,HG.out,by rw[<-HO.out]⟩
 |some l12=>
 have HM:=ah (kW (z:=⟨#[45,62]⟩) qX.out hc);have he:=Xp.out
 try simp only at he
 rw[hc]at he
 try simp only at he
 have Xq:=ah he;clear hc he;go_wp2_with fail;refine tq8 HM fun aoc hr hg=>?_;have Xr:=ah hr;have Xt:=ah (yZ.step aA.out hg);clear hr hg HM qX yZ Xp;go_wp2_with fail;refine iq7 (nD _ _) ?_;cases hc:Cy.mark [40] l12 with
 |none=>
  have HM:=ah (kD (z:=⟨#[40]⟩) Xr.out hc);have he:=Xq.out
  try simp only at he
  rw[hc]at he
  try simp only at he
  have HO:=ah he;clear hc he;go_wp2_with fail;refine tq8 HM fun aoe hr hg=>?_;have HG:=ah (Xt.step aA.out hg).gr;clear hr hg;go_wp2_with fail;refine iq7 (og _ _) ?_;exact⟨rfl,HG.out,by rw[<-HO.out]⟩
 |some l13=>
 have HM:=ah (kW (z:=⟨#[40]⟩) Xr.out hc);have he:=Xq.out
 try simp only at he
 rw[hc]at he
 try simp only at he
 have Xu:=ah he;clear hc he;go_wp2_with fail;refine tq8 HM fun aoe hr hg=>?_;have Xv:=ah hr;have Xw:=ah (Xt.step aA.out hg);clear hr hg HM Xr Xt Xq;go_wp2_with fail;refine iq7 (nD _ _) ?_;cases hc:Cy.dS l13 with
 |none=>
  have HM:=ah (FQ Xv.out hc);have he:=Xu.out
  try simp only at he
  rw[hc]at he
  try simp only at he
  have HO:=ah he;clear hc he;go_wp2_with fail;refine mq8 HM fun Xx hg=>?_;exact⟨rfl,(Xw.step aA.out hg).gr,by rw[<-HO.out]⟩
 |some q14=>
 obtain⟨ow,Xy⟩:=q14;have hwd:=FP Xv.out hc;obtain⟨Xz,XA⟩:=aj (⟨ow.toArray⟩:ByteArray);rw[XA]at hwd;have HM:=ah hwd;have aoi:=ah XA;have he:=Xu.out
 try simp only at he
 rw[hc]at he
 try simp only at he
 have aeO:=ah he;clear hc he hwd XA;go_wp2_with fail;refine tq8 HM fun Xx hr hg=>?_;have hs1:=Xw.step aA.out hg;obtain⟨A1,c1,A2,c2,hbk,-,-⟩:=hs1.cells;obtain⟨a0,a1,a2,a3,a4,f0,f1,f2,f3,f4⟩:=BA hbk;obtain⟨W14,hW⟩:=aj (Xx.setCell ⟨w.heap.size,2,none⟩ (.string Xz));have XB:=ah (show eH w b yU zrw Xz [ty] JB W14 by rw[<-hW];exact hs1.set2 Xz)
 have XC:=ah (show RS q0 b Xy W14 by rw[<-hW];exact hr.grown (grownBy_set Xx ⟨w.heap.size,2,none⟩ _) aA.out)
 have HW:=ah hW;clear hr hg hs1 hbk hW HM Xv Xw Xu
 go_upto_region 19 with fail
 rw[HW.out];clear HW a0 a1 a2 a3 a4 f0 f1 f2 f3 f4;have HX:=ah (show(Cy.mark [41] Xy).map (fun l=>((⟨true,fw,rw,ow,[ty],JB⟩:Cy.aI),l))=o from aeO.out)
 cases hc:Cy.mark [41] Xy with
 |none=>
  have HM:=ah (kD (z:=⟨#[41]⟩) XC.out hc);have he:=HX.out;rw[hc]at he;have HO:=ah (show none=o from he)
  clear hc he;go_wp2_with fail;refine tq8 HM fun wy hr hg=>?_;have HG:=ah (XB.step aA.out hg).gr;clear hr hg;go_wp2_with fail;refine iq7 (og _ _) ?_;exact⟨rfl,HG.out,by rw[<-HO.out]⟩
 |some lz=>
 have HM:=ah (kW (z:=⟨#[41]⟩) XC.out hc);have he:=HX.out;rw[hc]at he;have HO:=ah (show some ((⟨true,fw,rw,ow,[ty],JB⟩:Cy.aI),lz)=o from he)
 clear hc he;go_wp2_with fail;refine tq8 HM fun wy hr hg=>?_;have HRy:=ah hr;have HSy:=ah (XB.step aA.out hg);clear hr hg HM XC XB aeO HX;go_wp2_with fail;refine iq7 (nD _ _) ?_;obtain⟨A1,c1,A2,c2,hbk,gq,xG⟩:=HSy.cells;obtain⟨a0,a1,a2,a3,a4,f0,f1,f2,f3,f4⟩:=BA hbk;refine gq3 hbk gq xG fun dP jV yY=>?_;clear hbk gq xG;go_wp2;exact U6 rfl rfl (U7 dP.out) (by rw[<-HO.out];exact HSy.told aA.out HRy.out jV.out yY.out (Ql (iw _ _) _ _ _ _ _) (by rw[<-Xe.out];rfl) (by rw[<-an5.out];rfl) (by rw[<-aoi.out];rfl) rfl rfl)
end Go.Proofs.YtdijgcnlbfgkdaaGreatDoor
