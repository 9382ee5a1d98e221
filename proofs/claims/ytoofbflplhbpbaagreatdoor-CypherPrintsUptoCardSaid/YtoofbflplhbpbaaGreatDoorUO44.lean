/- Contracts and plain laws,part 44. -/
import Derived.Test.YtoofbflplhbpbaaGreatDoorUO43
set_option maxHeartbeats 64000000
set_option maxRecDepth 1000000
set_option linter.all false
namespace Go.Proofs.YtoofbflplhbpbaaGreatDoor
open Go.RowKit
theorem ajZ (u:Value) (g:Gr.G) (w:World) (h:fE w w.heap.size u g) (hs:g.nodes.length<=1048576/\g.au.length<=1048576/\(∀n∈g.nodes,n.labels.length<=1048576/\n.props.length<=1048576)/\ ∀r∈g.au,r.props.length<=1048576) (hL:Laid w):
  Calls Tryz.prog 5 #[u] w fun e w'=>e= .returned (.bool true)/\Below w.heap.size w w':=by
 have hok:=h.ok
 have hsm:Small g:=⟨by omega,by omega,fun n hn=>by have:=hs.2.2.1 n hn;omega,fun n hn=>by have:=hs.2.2.1 n hn;omega,fun r hr=>by have:=hs.2.2.2 r hr;omega⟩
 obtain ⟨nn,hnn⟩: ∃n,g.nodes.length=n:=⟨_,rfl⟩;obtain ⟨rn,hrn⟩: ∃n,g.au.length=n:=⟨_,rfl⟩
 obtain ⟨A1,c1,A2,c2,rfl⟩:=h.form hnn hrn
 obtain ⟨W1,hW1⟩: ∃W,w.alloc (.cells #[.slice A1 nn c1, .slice A2 rn c2] 39)=W:=⟨_,rfl⟩
 have hb1:Below w.heap.size w W1:=hW1▸(Below.refl _ w).alloc (ab1 _) _
 have hk1:aj W1 w.heap.size 39 #[.slice A1 nn c1, .slice A2 rn c2]:=hW1▸aj.new _ _ _
 have iF:=ah (Jd W1 (fun V hV=>hL.below (hb1.trans (hV.mono hb1.size))))
 have HW1:=ah hW1;have HB1:=ah hb1;have aT:=ah hk1
 have HG:=ah (fun (V:World) (hb:Below w.heap.size w V)=>h.below hb)
 have aK:=ah hok;have iJ:=ah hsm;have HL:=ah hL;have ay:=ah (And.intro hnn hrn)
 obtain ⟨R,hR⟩: ∃z:ByteArray,(⟨(Cy.lC g).1.toArray⟩:ByteArray)=z:=⟨_,rfl⟩
 obtain ⟨E,hE⟩: ∃E,(Cy.lC g).2=E:=⟨_,rfl⟩;have Pz:=ah (And.intro hR hE)
 clear h hok hnn hrn hW1 hb1 hk1 hL hs hsm hR hE;go_enter Tryz.func5,Tryz.ntmps5
 go_upto_region 1 with fail
 rw [HW1.out];clear HW1;go_wp2_with fail;refine iF.out.mono ?_;rintro e w2 ⟨rfl,b2⟩
 have HB2:=ah (HB1.out.trans (b2.mono HB1.out.size))
 have aC:=ah (aT.out.below b2 aT.out.lt);clear b2 iF;obtain ⟨c0,c1'⟩:=cells2 aC.out
 have bQ:=ah (TG w.heap.size _ g w2 (HG.out w2 HB2.out) HB2.out.size iJ.out)
 go_wp2_with fail;refine bQ.out.mono ?_;rintro e w3 ⟨u3,rfl,hg3,b3⟩;have oq:=hg3.yH aK.out
 obtain ⟨A3,c3,A4,c4,rfl⟩:=oq.form ay.out.1 ay.out.2
 obtain ⟨W4,yJ⟩: ∃W,w3.alloc (.cells #[.slice A3 nn c3, .slice A4 rn c4] 39)=W:=⟨_,rfl⟩
 obtain ⟨gc,hgc⟩: ∃x,w3.heap.size=x:=⟨_,rfl⟩
 have hb4:Below w3.heap.size w3 W4:=yJ▸(Below.refl _ w3).alloc (ab1 _) _
 have JA:Below w2.heap.size w2 W4:=b3.trans (hb4.mono b3.size)
 have BP:=ah (show aj W4 gc 39 #[.slice A3 nn c3, .slice A4 rn c4] by rw [<-yJ,<-hgc];exact aj.new _ _ _)
 have sO:=ah (show fE W4 w3.heap.size (.agg #[.slice A3 nn c3, .slice A4 rn c4]) g from oq.below hb4)
 have Xl:=ah hb4.size;have HZ3:=ah (ab5 HB2.out.size b3.size)
 have HB4:=ah (HB2.out.trans (JA.mono HB2.out.size))
 have aeA:=ah (aC.out.below JA aC.out.lt);have G8:=ah yJ;have Dk:=ah hgc
 clear hgc yJ hb4 JA oq hg3 b3 c0 c1' bQ
 go_upto_region 4 with fail
 rw [G8.out,Dk.out];clear G8 Dk;obtain ⟨d0,d1⟩:=cells2 BP.out
 have hpr:=NJ w3.heap.size _ g W4 sO.out Xl.out (HL.out.below HB4.out)
 rw [Pz.out.1,Pz.out.2] at hpr;have dG:=ah hpr;clear hpr;go_wp2_with fail
 refine dG.out.mono ?_;rintro e w5 ⟨rfl,b5⟩
 have bZ:=ah (HB4.out.trans (b5.mono HB4.out.size))
 have dY:=ah (aeA.out.below b5 aeA.out.lt);have aeB:=ah (BP.out.below b5 BP.out.lt)
 have Og:=ah (sO.out.below (b5.mono Xl.out));have wS:=ah (ab5 Xl.out b5.size)
 clear b5 d0 d1 dG;obtain ⟨c0,c1'⟩:=cells2 dY.out
 have iQ:=abQ w.heap.size _ g w5 (HG.out w5 bZ.out) bZ.out.size
 rw [Pz.out.1,Pz.out.2] at iQ;have og:=ah iQ;clear iQ;go_wp2_with fail
 refine og.out.mono ?_;rintro e w6 ⟨rfl,b6⟩
 have nD:=ah (bZ.out.trans (b6.mono bZ.out.size));have qZ:=ah (dY.out.below b6 dY.out.lt)
 have amV:=ah (aeB.out.below b6 aeB.out.lt)
 have mZ:=ah (NK w3.heap.size _ _ g w6 (Og.out.below (b6.mono wS.out)) ((HG.out w6 nD.out).more HZ3.out) (ab5 wS.out b6.size))
 clear b6 c0 c1' og;obtain ⟨c0,c1'⟩:=cells2 qZ.out;obtain ⟨d0,d1⟩:=cells2 amV.out
 go_wp2_with fail;refine mZ.out.mono ?_;rintro e w9 ⟨rfl,b9⟩
 have dh:=ah (nD.out.trans (b9.mono nD.out.size));clear b9;go_wp2;go_ret
 exact ⟨rfl,dh.out⟩
end Go.Proofs.YtoofbflplhbpbaaGreatDoor
