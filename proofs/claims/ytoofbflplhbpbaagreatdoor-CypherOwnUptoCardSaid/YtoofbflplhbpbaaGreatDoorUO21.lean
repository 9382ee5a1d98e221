/- Contracts and plain laws,part 21. -/
import Derived.Test.YtoofbflplhbpbaaGreatDoorUO20
import Derived.RegionDies
set_option maxHeartbeats 64000000
set_option maxRecDepth 1000000
set_option linter.all false
namespace Go.Proofs.YtoofbflplhbpbaaGreatDoor
open Go.RowKit
theorem aV.form {T:TypeId} {W:World} {B:Nat} {v:Value} {ps:List Gr.P} (h:aV T W B v ps): ∃A c,v= .slice A ps.length c:=by
 obtain ⟨l,-,-,h3⟩:=h;exact aJ h3
structure dN (w:World) (b:Nat) (f wd ot:ByteArray) (ns:List (List UInt8)) (ps:List Gr.P) (V:World):Prop where
 ex: ∃sn sp,aj V w.heap.size 102 #[.string f, .string wd, .string ot,sn,sp]/\V.ownsRow (w.heap.size+1) 9 1 sn ns.length (ns.map ST)/\aV 212 V (w.heap.size+1) sp ps
 gr:w.grownBy V (some b)
theorem dN.lt {w V:World} {b:Nat} {f wd ot:ByteArray} {ns:List (List UInt8)} {ps:List Gr.P} (h:dN w b f wd ot ns ps V):w.heap.size<V.heap.size:=by
 obtain ⟨sn,sp,h1,-⟩:=h.ex;exact h1.lt
theorem dN.step {w V V':World} {b:Nat} {f wd ot:ByteArray} {ns:List (List UInt8)} {ps:List Gr.P} (h:dN w b f wd ot ns ps V) (hb:b<w.heap.size) (hg:V.grownBy V' (some b)):dN w b f wd ot ns ps V':=by
 obtain ⟨sn,sp,h1,h2,h3⟩:=h.ex
 exact ⟨⟨sn,sp,h1.grown hg (fun e=>by have:=acE e;omega),iw h2 hg (by omega),h3.step hg (by omega)⟩,dU h.gr hg⟩
theorem dN.cells {w V:World} {b:Nat} {f wd ot:ByteArray} {ns:List (List UInt8)} {ps:List Gr.P} (h:dN w b f wd ot ns ps V): ∃A1 c1 A2 c2,aj V w.heap.size 102 #[.string f, .string wd, .string ot, .slice A1 ns.length c1, .slice A2 ps.length c2]/\
  V.ownsRow (w.heap.size+1) 9 1 (.slice A1 ns.length c1) ns.length (ns.map ST)/\aV 212 V (w.heap.size+1) (.slice A2 ps.length c2) ps:=by
 obtain ⟨sn,sp,h1,h2,h3⟩:=h.ex;obtain ⟨A1,c1,rfl⟩:=aJ h2;obtain ⟨A2,c2,rfl⟩:=h3.form
 exact ⟨A1,c1,A2,c2,h1,h2,h3⟩
theorem zC {W:World} {b:Nat} {v0 v1 v2 v3 v4:Value} (h:aj W b 102 #[v0,v1,v2,v3,v4]):
  W.cell? ⟨b,0,none⟩=some v0/\W.cell? ⟨b,1,none⟩=some v1/\W.cell? ⟨b,2,none⟩=some v2/\W.cell? ⟨b,3,none⟩=some v3/\W.cell? ⟨b,4,none⟩=some v4/\
  W.frozen? ⟨b,0,none⟩=false/\W.frozen? ⟨b,1,none⟩=false/\W.frozen? ⟨b,2,none⟩=false/\W.frozen? ⟨b,3,none⟩=false/\W.frozen? ⟨b,4,none⟩=false:=
 ⟨h.cell 0,h.cell 1,h.cell 2,h.cell 3,h.cell 4,h.frozen 0,h.frozen 1,h.frozen 2,h.frozen 3,h.frozen 4⟩
section
variable {w V:World} {b:Nat} {f wd ot:ByteArray} {ns:List (List UInt8)} {ps:List Gr.P}
theorem dN.aS {f' wd' ot':ByteArray} (h:dN w b f wd ot ns ps V) (i:Nat) (u:Value) (hi: ∀sn sp:Value,(#[.string f, .string wd, .string ot,sn,sp]:Array Value).setIfInBounds i u= #[.string f', .string wd', .string ot',sn,sp]):dN w b f' wd' ot' ns ps (V.setCell ⟨w.heap.size,i,none⟩ u):=by
 obtain ⟨sn,sp,h1,h2,h3⟩:=h.ex;have hset:=grownBy_set V ⟨w.heap.size,i,none⟩ u
 exact ⟨⟨sn,sp,(h1.aS i u).cast (hi sn sp),iw h2 hset (adH _),h3.step hset (adH _)⟩,xA h.gr hset (fun i e=>by cases e;exact ab1 _)⟩
theorem dN.set0 (h:dN w b f wd ot ns ps V) (z:ByteArray):dN w b z wd ot ns ps (V.setCell ⟨w.heap.size,0,none⟩ (.string z)):=h.aS 0 _ fun sn sp=>by simp
theorem dN.set1 (h:dN w b f wd ot ns ps V) (z:ByteArray):dN w b f z ot ns ps (V.setCell ⟨w.heap.size,1,none⟩ (.string z)):=h.aS 1 _ fun sn sp=>by simp
theorem dN.set2 (h:dN w b f wd ot ns ps V) (z:ByteArray):dN w b f wd z ns ps (V.setCell ⟨w.heap.size,2,none⟩ (.string z)):=h.aS 2 _ fun sn sp=>by simp
theorem dN.acG {ps':List Gr.P} {u:Value} (h:dN w b f wd ot ns ps V) (hp:aV 212 V (w.heap.size+1) u ps'):dN w b f wd ot ns ps' (V.setCell ⟨w.heap.size,4,none⟩ u):=by
 obtain ⟨sn,sp,h1,h2,h3⟩:=h.ex;have hset:=grownBy_set V ⟨w.heap.size,4,none⟩ u
 exact ⟨⟨sn,u,(h1.aS 4 u).cast (by simp),iw h2 hset (adH _),hp.step hset (adH _)⟩,xA h.gr hset (fun i e=>by cases e;exact ab1 _)⟩
theorem dN.akX {ns':List (List UInt8)} {u:Value} (h:dN w b f wd ot ns ps V) (hp:V.ownsRow (w.heap.size+1) 9 1 u ns'.length (ns'.map ST)):dN w b f wd ot ns' ps (V.setCell ⟨w.heap.size,3,none⟩ u):=by
 obtain ⟨sn,sp,h1,h2,h3⟩:=h.ex;have hset:=grownBy_set V ⟨w.heap.size,3,none⟩ u
 exact ⟨⟨u,sp,(h1.aS 3 u).cast (by simp),iw hp hset (adH _),h3.step hset (adH _)⟩,xA h.gr hset (fun i e=>by cases e;exact ab1 _)⟩
theorem dN.name {V':World} {x:List UInt8} {A1 A2:Option Addr} {c1 c2:Nat} {v:Value} (h:dN w b f wd ot ns [] V) (hb:b<w.heap.size)
  (hk:aj V w.heap.size 102 #[.string f, .string wd, .string ot, .slice A1 ns.length c1, .slice A2 0 c2]) (hs:V.ownsRow (w.heap.size+1) 9 1 (.slice A1 ns.length c1) ns.length (ns.map ST)) (hp:aV 212 V (w.heap.size+1) (.slice A2 0 c2) [])
  (hown:V'.ownsRow (w.heap.size+1) 9 1 v (ns.length+1) (ns.map ST ++ [ST x])) (hg:V.grownBy V' (Value.slice A1 ns.length c1).ownBlock) (hbl:Below (w.heap.size+1) V V'):dN w b f wd ot (ns ++ [x]) [] (V'.setCell ⟨w.heap.size,3,none⟩ v):=by
 obtain ⟨l,e,-,h3⟩:=hp;obtain rfl:=amg.1 e
 have hgr:w.grownBy V' (some b):=⟨hbl.os.trans h.gr.os,hbl.tape.trans h.gr.tape,hbl.output.trans h.gr.output,ab5 h.gr.size hbl.size,fun i hi hne=>(hbl.block i (by omega)).trans (h.gr.block i hi hne)⟩
 have hset:=grownBy_set V' ⟨w.heap.size,3,none⟩ v
 refine ⟨⟨v, .slice A2 0 c2,((hk.below hbl (adH _)).aS 3 v).cast (by simp), ?_, [],rfl,by simp,iw (dS h3 hg fun g c t fz hr hc=> ?_) hset (adH _)⟩,xA hgr hset (fun i e=>by cases e;exact ab1 _)⟩
 ·have:=iw hown hset (adH _)
  rw [dA,ade];exact this
 obtain ⟨-,c',hc'⟩:=mG hs g hr;rw [hc'] at hc;cases hc
 decide
end
def RV (W:World) (B:Nat) (u:Value) (p:Cy.aZ):Prop:=
 ∃sn sp,u= .agg #[ST p.first,ST p.word,ST p.other,sn,sp]/\W.ownsRow B 9 1 sn p.names.length (p.names.map ST)/\aV 212 W B sp p.props
theorem ahY (w:World) (base e:Nat) (u:Value) (hb:base<=w.heap.size):(w.alloc (.cells #[u] e)).ownsRow base e 1 (.slice (some ⟨w.heap.size,0,none⟩) 1 1) 1 [u]:=
 ⟨rfl, .inr ⟨w.heap.size,1,#[u],rfl,hb,heap_alloc_new w _,ab1 _,by unfold maxLen;omega,rfl,rfl⟩⟩
theorem dN.told {q0:Nat×Nat} {w V W:World} {b:Nat} {f wd ot:ByteArray} {ns:List (List UInt8)} {ps:List Gr.P} {r:List Lex.Tok} {sn sp:Value} {p:Cy.aZ} (h:dN w b f wd ot ns ps V) (hb:b<w.heap.size) (hr:RS q0 b r V)
  (h2:V.ownsRow (w.heap.size+1) 9 1 sn ns.length (ns.map ST)) (h3:aV 212 V (w.heap.size+1) sp ps) (hg:V.grownBy W (some w.heap.size))
  (e1:ST p.first= .string f) (e2:ST p.word= .string wd) (e3:ST p.other= .string ot) (e4:p.names=ns) (e5:p.props=ps):
  RU q0 b w (fun W u p=>RV W w.heap.size u p) (some (p,r)) (.returned (.agg #[.string f, .string wd, .string ot,sn,sp])) W:=
 ⟨xA h.gr hg (fun i e=>by cases e;exact ab1 _),_,rfl,⟨sn,sp,by rw [e1,e2,e3],by rw [e4];exact own_base (iw h2 hg (adH _)) (als _),by rw [e5];exact (h3.step hg (adH _)).base (als _)⟩,hr.grown hg hb⟩
theorem RX {fn:Func} {R:Ending->World->Prop} {tmps:Array Value} {W:World} {b:Nat} {v0 v1 v2 v3 v4:Value} (hfn:fn.results= #[.cell 2 102])
  (ht:tmps.getD 2 undef= .pointer (some ⟨b,0,none⟩)) (hB:aj W b 102 #[v0,v1,v2,v3,v4]) (hR:R (.returned (.agg #[v0,v1,v2,v3,v4])) W):
  bodyPost Tryz.prog fn R .ret {tmps:=tmps,defers:= []} W:=by
 have c0:=hB.cell 0;have c1:=hB.cell 1;have c2:=hB.cell 2;have c3:=hB.cell 3
 have c4:=hB.cell 4;simp at c0 c1 c2 c3 c4
 refine bodyPost_ret (v:= .agg #[v0,v1,v2,v3,v4]) ?_ rfl hR;simp at ht
 simp [results,hfn,go_sem,ht,c0,c1,c2,c3,c4]
theorem RY {W:World} {b:Nat} {v0 v1 v2 v3 v4:Value} (h:aj W b 102 #[v0,v1,v2,v3,v4]):
  aj (((((W.setCell ⟨b,0,none⟩ v0).setCell ⟨b,1,none⟩ v1).setCell ⟨b,2,none⟩ v2).setCell ⟨b,3,none⟩ v3).setCell ⟨b,4,none⟩ v4) b 102 #[v0,v1,v2,v3,v4]:=h.acw
theorem ahZ {r r' r'':List Lex.Tok} {ps:List Gr.P} (h1:Cy.o9 r=some (ps,r')) (h2:Cy.mark [41] r'=some r''):(r.headD pz).text= [123]↔(Cy.mark [123] r).isSome=true:=by
 cases r with
 | nil=>simp [pz,Cy.mark]
 | cons t l=>
  rw [alq]
  constructor
  ·intro ht
   by_cases hk:t.kind=5
   ·rw [Cy.mark,ab7 ⟨hk,ht⟩];rfl
   exfalso
   have hm:Cy.mark [123] (t :: l)=none:=by rw [Cy.mark,ab6 (fun x=>hk x.1)]
   unfold Cy.o9 at h1;rw [hm] at h1;cases h1;rw [Cy.mark,ab6 (fun x=>hk x.1)] at h2
   cases h2
  intro hm;rw [Cy.mark] at hm
  split at hm
  ·rename_i h;exact h.2
  cases hm
theorem aah {q0:Nat×Nat} {b:Nat} {l:List Lex.Tok} {w:World} (h:RS q0 b l w):
  Calls Tryz.prog 87 #[.pointer (some ⟨b,0,none⟩)] w (RU q0 b w (fun W u p=>RV W w.heap.size u p) (Cy.rX l)):=by
 obtain ⟨o,ho⟩: ∃o,Cy.rX l=o:=⟨_,rfl⟩;rw [ho];unfold Cy.rX at ho;have hu:=ug
 have aB:=ah h.lt
 have hr1:=h.kept ((Below.refl _ w).alloc (ab1 _) (.cells #[.string ⟨#[]⟩, .string ⟨#[]⟩, .string ⟨#[]⟩, .slice none 0 0, .slice none 0 0] 102))
 obtain ⟨W1,hW1⟩: ∃W1,w.alloc (.cells #[.string ⟨#[]⟩, .string ⟨#[]⟩, .string ⟨#[]⟩, .slice none 0 0, .slice none 0 0] 102)=W1:=⟨_,rfl⟩
 rw [hW1] at hr1
 have gq:=ah (show dN w b ⟨#[]⟩ ⟨#[]⟩ ⟨#[]⟩ [] [] W1 by rw [<-hW1];exact ⟨⟨_,_,aj.new _ _ _,World.ownsRow_nil _ _ _ _,aV.nil _ _ _⟩,vH (fO _ _) _⟩)
 have HR0:=ah hr1;have HW1:=ah hW1;have GH:=ah ho;clear h hr1 hW1 ho
 go_enter Tryz.func87,Tryz.ntmps87
 go_upto_region 1 with fail
 rw [HW1.out];clear HW1;cases hc:Cy.mark [40] l with
 | none=>
  have HM:=ah (jy (z:=⟨#[40]⟩) HR0.out hc);have he:=GH.out
  try simp only at he
  rw [hc] at he
  try simp only at he
  have HO:=ah he;clear hc he;go_wp2_with fail;refine HM.out.mono ?_
  rintro e wa1 ⟨rfl,hr,hg⟩;have HG:=ah (gq.out.step aB.out hg).gr;clear hr hg
  go_wp2_with fail;refine (lH _ _).mono ?_;rintro e wb1 ⟨rfl,rfl⟩
  exact ⟨rfl,HG.out,by rw [<-HO.out]⟩
 | some l1=>
 have HM:=ah (jP (z:=⟨#[40]⟩) HR0.out hc);have he:=GH.out
 try simp only at he
 rw [hc] at he
 try simp only at he
 have yx:=ah he;clear hc he;go_wp2_with fail;refine HM.out.mono ?_
 rintro e wa1 ⟨rfl,hr,hg⟩;have HR1:=ah hr;have dP:=ah (gq.out.step aB.out hg)
 clear hr hg HM HR0 gq GH;go_wp2_with fail;refine (kS _ _).mono ?_;rintro e wb1 ⟨rfl,rfl⟩
 cases hc:Cy.jg l1 with
 | none=>
  have HM:=ah (Dz HR1.out hc);have he:=yx.out
  try simp only at he
  rw [hc] at he
  try simp only at he
  have HO:=ah he;clear hc he;go_wp2_with fail;refine HM.out.mono ?_;rintro e UD ⟨rfl,hg⟩
  exact ⟨rfl,(dP.out.step aB.out hg).gr,by rw [<-HO.out]⟩
 | some q2=>
 obtain ⟨fw,l2⟩:=q2;have hwd:=Dy HR1.out hc
 obtain ⟨wO,UE⟩: ∃z:ByteArray,(⟨fw.toArray⟩:ByteArray)=z:=⟨_,rfl⟩;rw [UE] at hwd
 have HM:=ah hwd;have UF:=ah UE;have he:=yx.out
 try simp only at he
 rw [hc] at he
 try simp only at he
 have HE2:=ah he;clear hc he hwd UE;go_wp2_with fail;refine HM.out.mono ?_
 rintro e UD ⟨rfl,hr,hg⟩;have hs1:=dP.out.step aB.out hg
 obtain ⟨A1,c1,A2,c2,hbk,-,-⟩:=hs1.cells;obtain ⟨a0,a1,a2,a3,a4,f0,f1,f2,f3,f4⟩:=zC hbk
 obtain ⟨W2,hW⟩: ∃W,UD.setCell ⟨w.heap.size,0,none⟩ (.string wO)=W:=⟨_,rfl⟩
 have HS2:=ah (show dN w b wO ⟨#[]⟩ ⟨#[]⟩ [] [] W2 by rw [<-hW];exact hs1.set0 wO)
 have HR2:=ah (show RS q0 b l2 W2 by rw [<-hW];exact hr.grown (grownBy_set UD ⟨w.heap.size,0,none⟩ _) aB.out)
 have HW:=ah hW;clear hr hg hs1 hbk hW HM HR1 dP yx
 go_upto_block 0 with fail
 rw [HW.out];clear HW a0 a1 a2 a3 a4 f0 f1 f2 f3 f4
 obtain ⟨E,hE⟩: ∃E,Cy.rW (l2.length+1) l2 []=E:=⟨_,rfl⟩;have he:=HE2.out
 try simp only at he
 rw [hE] at he;have HX:=ah he;have HEL:=ah hE;clear he hE HE2;go_wp2_with fail
 go_loopg [12] (l2.length+1) (fun g x wr=> ∃l' acc,RS q0 b l' wr/\dN w b wO ⟨#[]⟩ ⟨#[]⟩ acc [] wr/\l'.length<g/\Hid (Cy.rW g l' acc=E)/\acc.length+l'.length<=16777216)
 case atStart=>exact ⟨l2, [],HR2.out,HS2.out,by omega,HEL.out,by have:=HR2.out.len;simp;omega⟩
 obtain ⟨l',acc,hr,hs,jF,HE,hal⟩:=hrel;have HR:=ah hr;have HS:=ah hs;have uF:=ah hal
 have qR:=ah jF;clear hr hs hal HEL HR2 HS2;cases gk with
 | zero=>omega
 | succ f=>
 have he:_=E:=HE;rw [Cy.rW] at he;clear jF HE;cases hc:Cy.mark [58] l' with
 | some l3=>
  rw [hc] at he
  try simp only at he
  have HM:=ah (jP (z:=⟨#[58]⟩) HR.out hc);have HE:=ah he;have nT:=ah (Cy.gJ hc).2
  clear hc he;go_wp2_with fail;refine HM.out.mono ?_;rintro e wm ⟨rfl,hr,hg⟩
  have BX:=ah hr;have qc:=ah (HS.out.step aB.out hg);clear hr hg HR HS HM
  obtain ⟨A1,c1,A2,c2,hbk,hon,hop⟩:=qc.out.cells;have iL:=ah hbk;have oP:=ah hon
  have JY:=ah hop;obtain ⟨al,hal⟩: ∃n,acc.length=n:=⟨_,rfl⟩;have lY:=ah hal
  have a3:wm.cell? ⟨w.heap.size,3,none⟩=some (.slice A1 al c1):=by rw [<-hal];exact hbk.cell 3
  have f3:=hbk.frozen 3;have hbw:=hbk.lt;clear hbk hon hop hal;cases hc:Cy.jg l3 with
  | none=>
   have he:=HE.out;rw [hc] at he;have HO:=ah (show none=o by rw [<-HX.out,<-he])
   have HM:=ah (Dz (BX.out.kept (w':=wm.drew) (below_drewN (Below.refl _ _) 1)) hc)
   clear hc he;go_wp2_with fail
   have HG:=ah (show w.grownBy wm.drew (some b) from vG qc.out.gr 1)
   go_region_dies
   all_goals (refine HM.out.mono ?_;rintro e w7 ⟨rfl,jl⟩;exact ⟨rfl,dU HG.out jl,by rw [<-HO.out]⟩)
  | some q=>
   obtain ⟨x,l4⟩:=q;have he:=HE.out;rw [hc] at he
   try simp only at he
   have HE2:=ah he;have JX:=ah (Cy.zA hc BX.out.ok).2.2.1
   have hwd:=Dy (BX.out.kept (w':=wm.drew) (below_drewN (Below.refl _ _) 1)) hc
   obtain ⟨zx,hzx⟩: ∃z:ByteArray,(⟨x.toArray⟩:ByteArray)=z:=⟨_,rfl⟩;rw [hzx] at hwd
   have HM:=ah hwd;have HZ:=ah hzx
   have HSd:=ah (show dN w b wO ⟨#[]⟩ ⟨#[]⟩ acc [] wm.drew from qc.out.step aB.out (vG (fO wm (some b)) 1))
   have HKK:Hid (∀w',wm.drew.grownBy w' (some b)->w'.cell? ⟨w.heap.size,3,none⟩=some (.slice A1 al c1)/\w'.frozen? ⟨w.heap.size,3,none⟩=false):=fun w' hg=>by
    have hk:=(show aj wm.drew _ _ _ from iL.out).grown hg (fun e=>by have:=acE e;have:=aB.out;omega)
    exact ⟨(hk.cell 3).trans (by rw [<-lY.out];rfl),hk.frozen 3⟩
   have hall:al<1073741824:=by have:=uF.out;have:=lY.out;omega
   clear hc he hwd hzx HE;go_wp2_with fail
   go_region_law (first |(refine FP 145 rfl (by go_simp) (aag HM.out) ?_;rintro _ w7 ⟨rfl,rD,jl⟩;have rE:=(HKK.out _ jl).1;have gU:=ah (HSd.out.step aB.out jl);have wP:=ah (iw oP.out (dU (vG (fO wm (some b)) 1) jl) (akr aB.out));have gu:=ah rD;have yA:=gU.out.lt;clear rD) |(refine MN rfl (.tmp 14) (.tmp 17) 23 9 (.string ⟨#[]⟩) 16 Tryz.underlying23 Fq rfl (by decide) rfl (w.heap.size+1) (.slice A1 al c1) al (acc.map ST) _ rfl (by rw [<-lY.out];exact wP.out) (.string zx) rfl rfl hall yA ?_;intro v9 w9 aN bC dO aF;obtain ⟨A9,c9,rfl⟩:=aJ aN;have hk9:w9.cell? ⟨w.heap.size,3,none⟩=some (.slice A1 al c1):=(aF.cell (adH _)).trans (HKK.out _ jl).1;have tu:w9.frozen? ⟨w.heap.size,3,none⟩=false:=(aF.frozen (adH _)).trans (HKK.out _ jl).2))
   all_goals
    have hg':wm.grownBy w7 (some b):=dU (vG (fO wm (some b)) 1) jl
    have fK:=ah (gU.out.name aB.out (x:=x) (v:= .slice A9 (al+1) c9) (iL.out.grown hg' (fun e=>by have:=acE e;have:=aB.out;omega)) (iw oP.out hg' (akr aB.out)) (JY.out.step hg' (akr aB.out)) (by rw [lY.out,show ST x= .string zx by rw [<-HZ.out];rfl];exact aN) (by rw [lY.out];exact bC) aF)
    have gy:=ah ((gu.out.below aF (akr aB.out)).grown (grownBy_set w9 ⟨w.heap.size,3,none⟩ (.slice A9 (al+1) c9)) aB.out)
    clear hg' aN bC dO aF hk9 tu rE jl;go_wp2
    go_roundg f
    case measure=>omega
    exact ⟨l4,acc ++ [x],gy.out,fK.out,by have:=qR.out;have:=nT.out;have:=JX.out;omega,HE2,by have:=uF.out;have:=nT.out;have:=JX.out;rw [dA,adX];omega⟩
 | none=>
 rw [hc] at he;have Om:=HX.out;rw [<-he] at Om
 try simp only at Om
 have HE:=ah Om;have HM:=ah (jy (z:=⟨#[58]⟩) HR.out hc);have zY:=ah he;clear hc he Om HX
 go_wp2_with fail;refine HM.out.mono ?_;rintro e wm ⟨rfl,hr,hg⟩;have BX:=ah hr
 have qc:=ah (HS.out.step aB.out hg);clear hr hg HR HS HM
 go_upto_region 5 with fail
 go_cut [3] (fun s3 wx=> ∃lb:Bool,s3= .bool lb/\RS q0 b l' wx/\dN w b wO ⟨#[]⟩ ⟨#[]⟩ acc [] wx/\Hid (lb=true↔acc≠ []\/(l'.headD pz).text= [123]))
 case first=>
  obtain ⟨A1,c1,A2,c2,hbk,-,-⟩:=qc.out.cells;obtain ⟨al,hal⟩: ∃n,acc.length=n:=⟨_,rfl⟩
  have a3:wm.cell? ⟨w.heap.size,3,none⟩=some (.slice A1 al c1):=by rw [<-hal];exact hbk.cell 3
  have f3:=hbk.frozen 3;clear hbk;by_cases h0:acc= []
  ·have ak1:al=0:=by rw [<-hal,h0];rfl
   subst ak1;have HP:=ah (FK b l' wm BX.out);obtain ⟨t,ht⟩: ∃t,l'.headD pz=t:=⟨_,rfl⟩
   rw [ht] at HP;unfold zQ at HP
   obtain ⟨zt,aO⟩: ∃zt:ByteArray,(⟨t.text.toArray⟩:ByteArray)=zt:=⟨_,rfl⟩;rw [aO] at HP
   have kC:zt.data.toList=t.text:=by rw [<-aO]
   obtain ⟨tb,htb⟩: ∃tb,(zt.toList == [123])=tb:=⟨_,rfl⟩
   have UG:Hid (tb=true↔acc≠ []\/(l'.headD pz).text= [123]):=ah (by
    rw [<-htb,adp,Lib.toList_data,kC,h0,ht]
    simp)
   have hfd: ∀w:World,(Instr.field 138 (.agg #[.int .i64 (t.kind:Int), .string zt, .int .i64 t.num, .int .i64 (t.pos:Int)]) 1).run Tryz.prog w= .ok (.string zt) w:=fun _=>by kernel_rfl
   clear h0 hal ht aO kC;go_wp2_with fail;refine HP.out.mono ?_;rintro e wp ⟨rfl,hb⟩
   have HB:=ah hb;clear hb;go_wp2_with fail;go_meet
   exact ⟨tb,by first | rfl |(rw [htb]),BX.out.kept HB.out,qc.out.step aB.out (iT HB.out _),UG⟩
  have hpos:0<al:=by rw [<-hal];exact adY.2 h0
  have t0:decide (0<al)=true:=abW hpos;have anB:(0:Int)<al:=by omega
  have H0:=ah h0;clear h0 hal;go_wp2_with fail;go_meet
  exact ⟨true,rfl,BX.out,qc.out,ah ⟨fun _=> .inl H0.out,fun _=>rfl⟩⟩
 case rest=>
 obtain ⟨lb,rfl,hr,hs,UG⟩:=hcut;have HR:=ah hr;have HS:=ah hs;clear hr hs BX qc
 have HP:=ah (aaf HR.out);cases hc:Cy.o9 l' with
 | none=>
  have he:=HE.out
  try simp only at he
  rw [hc] at he
  try simp only at he
  have HO:=ah he;rw [hc] at HP;clear hc he;go_wp2_with fail;refine HP.out.mono ?_
  rintro e Oo ⟨hg,rfl⟩;exact ⟨rfl,(HS.out.step aB.out hg).gr,by rw [<-HO.out]⟩
 | some q3=>
 obtain ⟨ps,l3⟩:=q3;have he:=HE.out
 try simp only at he
 rw [hc] at he
 try simp only at he
 have fJ:=ah he;rw [hc] at HP;have bQ:=ah hc;clear hc he;go_wp2_with fail
 refine HP.out.mono ?_;rintro e Oo ⟨hg,u,rfl,hp,hr⟩;have hs1:=HS.out.step aB.out hg
 have hpb:aV 212 Oo (w.heap.size+1) u ps:=hp.base (by have:=HS.out.lt;omega)
 obtain ⟨Au,cu,rfl⟩:=hpb.form;obtain ⟨A1,c1,A2,c2,hbk,-,-⟩:=hs1.cells
 obtain ⟨a0,a1,a2,a3,a4,f0,f1,f2,f3,f4⟩:=zC hbk
 obtain ⟨W3,hW⟩: ∃W,Oo.setCell ⟨w.heap.size,4,none⟩ (.slice Au ps.length cu)=W:=⟨_,rfl⟩
 have bK:=ah (show dN w b wO ⟨#[]⟩ ⟨#[]⟩ acc ps W3 by rw [<-hW];exact hs1.acG hpb)
 have HR3:=ah (show RS q0 b l3 W3 by rw [<-hW];exact hr.grown (grownBy_set Oo ⟨w.heap.size,4,none⟩ _) aB.out)
 have HW:=ah hW;clear hr hg hs1 hp hpb hbk hW HP HR HS HE
 go_upto_region 7 with fail
 rw [HW.out];clear HW a0 a1 a2 a3 a4 f0 f1 f2 f3 f4;cases hc:Cy.mark [41] l3 with
 | none=>
  have HM:=ah (jy (z:=⟨#[41]⟩) HR3.out hc);have he:=fJ.out
  try simp only at he
  rw [hc] at he
  try simp only at he
  have HO:=ah he;clear hc he;go_wp2_with fail;refine HM.out.mono ?_
  rintro e wa4 ⟨rfl,hr,hg⟩;have HG:=ah (bK.out.step aB.out hg).gr;clear hr hg
  go_wp2_with fail;refine (lH _ _).mono ?_;rintro e wb4 ⟨rfl,rfl⟩
  exact ⟨rfl,HG.out,by rw [<-HO.out]⟩
 | some l4=>
 have HM:=ah (jP (z:=⟨#[41]⟩) HR3.out hc);have he:=fJ.out
 try simp only at he
 rw [hc] at he
 try simp only at he
 have nV:=ah he;have Oq:=ah hc;clear hc he;go_wp2_with fail;refine HM.out.mono ?_
 rintro e wa4 ⟨rfl,hr,hg⟩;have HR4:=ah hr;have iM:=ah (bK.out.step aB.out hg)
 clear hr hg HM HR3 bK fJ;go_wp2_with fail;refine (kS _ _).mono ?_;rintro e wb4 ⟨rfl,rfl⟩
 have hlb:lb=true↔(acc≠ []\/(Cy.mark [123] l').isSome=true):=by
  rw [UG.out,ahZ bQ.out Oq.out]
 have he:=nV.out;cases lb with
 | true=>
  rw [ab7 (hlb.1 rfl)] at he;have HO:=ah he;clear he hlb bQ Oq
  obtain ⟨A1,c1,A2,c2,hbk,nU,uP⟩:=iM.out.cells
  obtain ⟨a0,a1,a2,a3,a4,f0,f1,f2,f3,f4⟩:=zC hbk;have iL:=ah hbk;have kY:=ah nU
  have JZ:=ah uP;clear hbk nU uP;go_wp2
  exact RX rfl rfl (RY iL.out) (by rw [<-HO.out];exact iM.out.told aB.out HR4.out kY.out JZ.out (Ns (fO _ _) _ _ _ _ _) (by rw [<-UF.out];rfl) rfl rfl rfl rfl)
 | false=>
 rw [ab6 (fun x=>by have:=hlb.2 x;cases this)] at he
 cases hc:Cy.mark [45] l4 with
 | none=>
  have HM:=ah (jy (z:=⟨#[45]⟩) HR4.out hc);rw [hc] at he;have HO:=ah he
  clear hc he hlb bQ Oq;go_wp2_with fail;refine HM.out.mono ?_;rintro e wz ⟨rfl,hr,hg⟩
  have HRz:=ah hr;have HSz:=ah (iM.out.step aB.out hg);clear hr hg HM HR4 iM
  obtain ⟨A1,c1,A2,c2,hbk,nU,uP⟩:=HSz.out.cells
  obtain ⟨a0,a1,a2,a3,a4,f0,f1,f2,f3,f4⟩:=zC hbk;have iL:=ah hbk;have kY:=ah nU
  have JZ:=ah uP;clear hbk nU uP;go_wp2
  exact RX rfl rfl (RY iL.out) (by rw [<-HO.out];exact HSz.out.told aB.out HRz.out kY.out JZ.out (Ns (fO _ _) _ _ _ _ _) (by rw [<-UF.out];rfl) rfl rfl rfl rfl)
 | some l5=>
 have HM:=ah (jP (z:=⟨#[45]⟩) HR4.out hc);rw [hc] at he
 try simp only at he
 unfold Cy.Iw at he;have zW:=ah he;clear hc he hlb bQ Oq nV;go_wp2_with fail
 refine HM.out.mono ?_;rintro e wz ⟨rfl,hr,hg⟩;have yu:=ah hr
 have iO:=ah (iM.out.step aB.out hg);clear hr hg HM HR4 iM;cases hc:Cy.mark [91] l5 with
 | none=>
  have HM:=ah (jy (z:=⟨#[91]⟩) yu.out hc);have he:=zW.out
  try simp only at he
  rw [hc] at he
  try simp only at he
  have HO:=ah he;clear hc he;go_wp2_with fail;refine HM.out.mono ?_
  rintro e wa6 ⟨rfl,hr,hg⟩;have HG:=ah (iO.out.step aB.out hg).gr;clear hr hg
  go_wp2_with fail;refine (lH _ _).mono ?_;rintro e wb6 ⟨rfl,rfl⟩
  exact ⟨rfl,HG.out,by rw [<-HO.out]⟩
 | some l6=>
 have HM:=ah (jP (z:=⟨#[91]⟩) yu.out hc);have he:=zW.out
 try simp only at he
 rw [hc] at he
 try simp only at he
 have GK:=ah he;clear hc he;go_wp2_with fail;refine HM.out.mono ?_
 rintro e wa6 ⟨rfl,hr,hg⟩;have ru:=ah hr;have kH:=ah (iO.out.step aB.out hg)
 clear hr hg HM yu iO zW;go_wp2_with fail;refine (kS _ _).mono ?_;rintro e wb6 ⟨rfl,rfl⟩
 cases hc:Cy.jg l6 with
 | none=>
  have HM:=ah (Dz ru.out hc);have he:=GK.out
  try simp only at he
  rw [hc] at he
  try simp only at he
  have HO:=ah he;clear hc he;go_wp2_with fail;refine HM.out.mono ?_;rintro e UH ⟨rfl,hg⟩
  exact ⟨rfl,(kH.out.step aB.out hg).gr,by rw [<-HO.out]⟩
 | some q7=>
 obtain ⟨rw,l7⟩:=q7;have hwd:=Dy ru.out hc
 obtain ⟨zrw,hzrw⟩: ∃z:ByteArray,(⟨rw.toArray⟩:ByteArray)=z:=⟨_,rfl⟩;rw [hzrw] at hwd
 have HM:=ah hwd;have ak7:=ah hzrw;have he:=GK.out
 try simp only at he
 rw [hc] at he
 try simp only at he
 have UJ:=ah he;clear hc he hwd hzrw;go_wp2_with fail;refine HM.out.mono ?_
 rintro e UH ⟨rfl,hr,hg⟩;have hs1:=kH.out.step aB.out hg
 obtain ⟨A1,c1,A2,c2,hbk,-,-⟩:=hs1.cells;obtain ⟨a0,a1,a2,a3,a4,f0,f1,f2,f3,f4⟩:=zC hbk
 obtain ⟨W7,hW⟩: ∃W,UH.setCell ⟨w.heap.size,1,none⟩ (.string zrw)=W:=⟨_,rfl⟩
 have gU:=ah (show dN w b wO zrw ⟨#[]⟩ acc ps W7 by rw [<-hW];exact hs1.set1 zrw)
 have gu:=ah (show RS q0 b l7 W7 by rw [<-hW];exact hr.grown (grownBy_set UH ⟨w.heap.size,1,none⟩ _) aB.out)
 have HW:=ah hW;clear hr hg hs1 hbk hW HM ru kH GK
 go_upto_region 12 with fail
 rw [HW.out];clear HW a0 a1 a2 a3 a4 f0 f1 f2 f3 f4;cases hc:Cy.mark [58] l7 with
 | none=>
  have HM:=ah (jy (z:=⟨#[58]⟩) gu.out hc);have he:=UJ.out
  try simp only at he
  rw [hc] at he
  try simp only at he
  have HO:=ah he;clear hc he;go_wp2_with fail;refine HM.out.mono ?_
  rintro e wa8 ⟨rfl,hr,hg⟩;have HG:=ah (gU.out.step aB.out hg).gr;clear hr hg
  go_wp2_with fail;refine (lH _ _).mono ?_;rintro e wb8 ⟨rfl,rfl⟩
  exact ⟨rfl,HG.out,by rw [<-HO.out]⟩
 | some l8=>
 have HM:=ah (jP (z:=⟨#[58]⟩) gu.out hc);have he:=UJ.out
 try simp only at he
 rw [hc] at he
 try simp only at he
 have UK:=ah he;clear hc he;go_wp2_with fail;refine HM.out.mono ?_
 rintro e wa8 ⟨rfl,hr,hg⟩;have eU:=ah hr;have UL:=ah (gU.out.step aB.out hg)
 clear hr hg HM gu gU UJ;go_wp2_with fail;refine (kS _ _).mono ?_;rintro e wb8 ⟨rfl,rfl⟩
 cases hc:Cy.jg l8 with
 | none=>
  have HM:=ah (Dz eU.out hc);have he:=UK.out
  try simp only at he
  rw [hc] at he;have HO:=ah he;clear hc he;go_wp2_with fail;refine HM.out.mono ?_
  rintro e wt ⟨rfl,hg⟩;exact ⟨rfl,(UL.out.step aB.out hg).gr,by rw [<-HO.out]⟩
 | some qt=>
 obtain ⟨ty,lt⟩:=qt;have hwd:=Dy eU.out hc
 obtain ⟨Ot,UM⟩: ∃z:ByteArray,(⟨ty.toArray⟩:ByteArray)=z:=⟨_,rfl⟩;rw [UM] at hwd
 have HM:=ah hwd;have he:=UK.out
 try simp only at he
 rw [hc] at he
 try simp only at he
 have UN:=ah he;have hty:ST ty= .string Ot:=by rw [<-UM];rfl
 have HTY:=ah hty;clear hc he hwd UM hty;go_wp2_with fail;refine HM.out.mono ?_
 rintro e wt ⟨rfl,hr,hg⟩;have hs1:=UL.out.step aB.out hg
 have hlit:=ahY wt (w.heap.size+1) 9 (.string Ot) hs1.lt
 have hb2:Below wt.heap.size wt (wt.alloc (.cells #[.string Ot] 9)):=(Below.refl _ _).alloc (ab1 _) _
 have hs2:=hs1.step aB.out (iT hb2 _);obtain ⟨A1,c1,A2,c2,hbk,-,-⟩:=hs2.cells
 obtain ⟨a0,a1,a2,a3,a4,f0,f1,f2,f3,f4⟩:=zC hbk
 obtain ⟨Wt,hW⟩: ∃W,(wt.alloc (.cells #[.string Ot] 9)).setCell ⟨w.heap.size,3,none⟩ (.slice (some ⟨wt.heap.size,0,none⟩) 1 1)=W:=⟨_,rfl⟩
 have Ou:=ah (show dN w b wO zrw ⟨#[]⟩ [ty] ps Wt by rw [<-hW];exact hs2.akX (ns':= [ty]) (by rw [adA,aek,HTY.out];exact hlit))
 have HRt:=ah (show RS q0 b lt Wt by rw [<-hW];exact (hr.kept hb2).grown (grownBy_set _ ⟨w.heap.size,3,none⟩ _) aB.out)
 have HW:=ah hW;clear hr hg hs1 hs2 hbk hW HM hb2 hlit eU UL UK
 go_upto_region 14 with fail
 rw [HW.out];clear HW a0 a1 a2 a3 a4 f0 f1 f2 f3 f4;have HP:=ah (aaf HRt.out)
 cases hc:Cy.o9 lt with
 | none=>
  have he:=UN.out
  try simp only at he
  rw [hc] at he
  try simp only at he
  have HO:=ah he;rw [hc] at HP;clear hc he;go_wp2_with fail;refine HP.out.mono ?_
  rintro e Ov ⟨hg,rfl⟩;exact ⟨rfl,(Ou.out.step aB.out hg).gr,by rw [<-HO.out]⟩
 | some q10=>
 obtain ⟨GL,l10⟩:=q10;have he:=UN.out
 try simp only at he
 rw [hc] at he
 try simp only at he
 have UO:=ah he;rw [hc] at HP;clear hc he;go_wp2_with fail;refine HP.out.mono ?_
 rintro e Ov ⟨hg,u,rfl,hp,hr⟩;have hs1:=Ou.out.step aB.out hg
 have hpb:aV 212 Ov (w.heap.size+1) u GL:=hp.base (by have:=Ou.out.lt;omega)
 obtain ⟨Au,cu,rfl⟩:=hpb.form;obtain ⟨A1,c1,A2,c2,hbk,-,-⟩:=hs1.cells
 obtain ⟨a0,a1,a2,a3,a4,f0,f1,f2,f3,f4⟩:=zC hbk
 obtain ⟨W10,hW⟩: ∃W,Ov.setCell ⟨w.heap.size,4,none⟩ (.slice Au GL.length cu)=W:=⟨_,rfl⟩
 have UQ:=ah (show dN w b wO zrw ⟨#[]⟩ [ty] GL W10 by rw [<-hW];exact hs1.acG hpb)
 have zX:=ah (show RS q0 b l10 W10 by rw [<-hW];exact hr.grown (grownBy_set Ov ⟨w.heap.size,4,none⟩ _) aB.out)
 have HW:=ah hW;clear hr hg hs1 hp hpb hbk hW HP HRt Ou UN
 go_upto_region 15 with fail
 rw [HW.out];clear HW a0 a1 a2 a3 a4 f0 f1 f2 f3 f4;cases hc:Cy.mark [93] l10 with
 | none=>
  have HM:=ah (jy (z:=⟨#[93]⟩) zX.out hc);have he:=UO.out
  try simp only at he
  rw [hc] at he
  try simp only at he
  have HO:=ah he;clear hc he;go_wp2_with fail;refine HM.out.mono ?_
  rintro e alb ⟨rfl,hr,hg⟩;have HG:=ah (UQ.out.step aB.out hg).gr;clear hr hg
  go_wp2_with fail;refine (lH _ _).mono ?_;rintro e alc ⟨rfl,rfl⟩
  exact ⟨rfl,HG.out,by rw [<-HO.out]⟩
 | some l11=>
 have HM:=ah (jP (z:=⟨#[93]⟩) zX.out hc);have he:=UO.out
 try simp only at he
 rw [hc] at he
 try simp only at he
 have UR:=ah he;clear hc he;go_wp2_with fail;refine HM.out.mono ?_
 rintro e alb ⟨rfl,hr,hg⟩;have zV:=ah hr;have UU:=ah (UQ.out.step aB.out hg)
 clear hr hg HM zX UQ UO;go_wp2_with fail;refine (kS _ _).mono ?_;rintro e alc ⟨rfl,rfl⟩
 cases hc:Cy.mark [45,62] l11 with
 | none=>
  have HM:=ah (jy (z:=⟨#[45,62]⟩) zV.out hc);have he:=UR.out
  try simp only at he
  rw [hc] at he
  try simp only at he
  have HO:=ah he;clear hc he;go_wp2_with fail;refine HM.out.mono ?_
  rintro e ale ⟨rfl,hr,hg⟩;have HG:=ah (UU.out.step aB.out hg).gr;clear hr hg
  go_wp2_with fail;refine (lH _ _).mono ?_;rintro e alf ⟨rfl,rfl⟩
  exact ⟨rfl,HG.out,by rw [<-HO.out]⟩
 | some l12=>
 have HM:=ah (jP (z:=⟨#[45,62]⟩) zV.out hc);have he:=UR.out
 try simp only at he
 rw [hc] at he
 try simp only at he
 have UW:=ah he;clear hc he;go_wp2_with fail;refine HM.out.mono ?_
 rintro e ale ⟨rfl,hr,hg⟩;have UY:=ah hr;have UZ:=ah (UU.out.step aB.out hg)
 clear hr hg HM zV UU UR;go_wp2_with fail;refine (kS _ _).mono ?_;rintro e alf ⟨rfl,rfl⟩
 cases hc:Cy.mark [40] l12 with
 | none=>
  have HM:=ah (jy (z:=⟨#[40]⟩) UY.out hc);have he:=UW.out
  try simp only at he
  rw [hc] at he
  try simp only at he
  have HO:=ah he;clear hc he;go_wp2_with fail;refine HM.out.mono ?_
  rintro e alg ⟨rfl,hr,hg⟩;have HG:=ah (UZ.out.step aB.out hg).gr;clear hr hg
  go_wp2_with fail;refine (lH _ _).mono ?_;rintro e alh ⟨rfl,rfl⟩
  exact ⟨rfl,HG.out,by rw [<-HO.out]⟩
 | some l13=>
 have HM:=ah (jP (z:=⟨#[40]⟩) UY.out hc);have he:=UW.out
 try simp only at he
 rw [hc] at he
 try simp only at he
 have U0:=ah he;clear hc he;go_wp2_with fail;refine HM.out.mono ?_
 rintro e alg ⟨rfl,hr,hg⟩;have U1:=ah hr;have U2:=ah (UZ.out.step aB.out hg)
 clear hr hg HM UY UZ UW;go_wp2_with fail;refine (kS _ _).mono ?_;rintro e alh ⟨rfl,rfl⟩
 cases hc:Cy.jg l13 with
 | none=>
  have HM:=ah (Dz U1.out hc);have he:=U0.out
  try simp only at he
  rw [hc] at he
  try simp only at he
  have HO:=ah he;clear hc he;go_wp2_with fail;refine HM.out.mono ?_;rintro e U3 ⟨rfl,hg⟩
  exact ⟨rfl,(U2.out.step aB.out hg).gr,by rw [<-HO.out]⟩
 | some q14=>
 obtain ⟨ow,U4⟩:=q14;have hwd:=Dy U1.out hc
 obtain ⟨U5,U6⟩: ∃z:ByteArray,(⟨ow.toArray⟩:ByteArray)=z:=⟨_,rfl⟩;rw [U6] at hwd
 have HM:=ah hwd;have alk:=ah U6;have he:=U0.out
 try simp only at he
 rw [hc] at he
 try simp only at he
 have acL:=ah he;clear hc he hwd U6;go_wp2_with fail;refine HM.out.mono ?_
 rintro e U3 ⟨rfl,hr,hg⟩;have hs1:=U2.out.step aB.out hg
 obtain ⟨A1,c1,A2,c2,hbk,-,-⟩:=hs1.cells;obtain ⟨a0,a1,a2,a3,a4,f0,f1,f2,f3,f4⟩:=zC hbk
 obtain ⟨W14,hW⟩: ∃W,U3.setCell ⟨w.heap.size,2,none⟩ (.string U5)=W:=⟨_,rfl⟩
 have U7:=ah (show dN w b wO zrw U5 [ty] GL W14 by rw [<-hW];exact hs1.set2 U5)
 have U8:=ah (show RS q0 b U4 W14 by rw [<-hW];exact hr.grown (grownBy_set U3 ⟨w.heap.size,2,none⟩ _) aB.out)
 have HW:=ah hW;clear hr hg hs1 hbk hW HM U1 U2 U0
 go_upto_region 19 with fail
 rw [HW.out];clear HW a0 a1 a2 a3 a4 f0 f1 f2 f3 f4
 have HX:=ah (show (Cy.mark [41] U4).map (fun l=>((⟨true,fw,rw,ow, [ty],GL⟩:Cy.aZ),l))=o from acL.out)
 cases hc:Cy.mark [41] U4 with
 | none=>
  have HM:=ah (jy (z:=⟨#[41]⟩) U8.out hc);have he:=HX.out;rw [hc] at he
  have HO:=ah (show none=o from he)
  clear hc he;go_wp2_with fail;refine HM.out.mono ?_;rintro e wy ⟨rfl,hr,hg⟩
  have HG:=ah (U7.out.step aB.out hg).gr;clear hr hg;go_wp2_with fail
  refine (lH _ _).mono ?_;rintro e wx ⟨rfl,rfl⟩;exact ⟨rfl,HG.out,by rw [<-HO.out]⟩
 | some lz=>
 have HM:=ah (jP (z:=⟨#[41]⟩) U8.out hc);have he:=HX.out;rw [hc] at he
 have HO:=ah (show some ((⟨true,fw,rw,ow, [ty],GL⟩:Cy.aZ),lz)=o from he)
 clear hc he;go_wp2_with fail;refine HM.out.mono ?_;rintro e wy ⟨rfl,hr,hg⟩
 have HRy:=ah hr;have HSy:=ah (U7.out.step aB.out hg);clear hr hg HM U8 U7 acL HX
 go_wp2_with fail;refine (kS _ _).mono ?_;rintro e wx ⟨rfl,rfl⟩
 obtain ⟨A1,c1,A2,c2,hbk,nU,uP⟩:=HSy.out.cells
 obtain ⟨a0,a1,a2,a3,a4,f0,f1,f2,f3,f4⟩:=zC hbk;have iL:=ah hbk;have kY:=ah nU
 have JZ:=ah uP;clear hbk nU uP;go_wp2
 exact RX rfl rfl (RY iL.out) (by rw [<-HO.out];exact HSy.out.told aB.out HRy.out kY.out JZ.out (Ns (fO _ _) _ _ _ _ _) (by rw [<-UF.out];rfl) (by rw [<-ak7.out];rfl) (by rw [<-alk.out];rfl) rfl rfl)
end Go.Proofs.YtoofbflplhbpbaaGreatDoor
