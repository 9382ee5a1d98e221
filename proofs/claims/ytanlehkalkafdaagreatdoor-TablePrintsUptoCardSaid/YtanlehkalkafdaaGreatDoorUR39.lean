/- Contracts and plain laws,part 39. -/
import Derived.Test.YtanlehkalkafdaaGreatDoorUR38
set_option maxHeartbeats 64000000
set_option maxRecDepth 1000000
set_option linter.all false
namespace Go.Proofs.YtanlehkalkafdaaGreatDoor
open Go.RowKit
theorem oO (u:Value) (g:Gr.G) (w:World) (h:GIn w w.heap.size u g) (hs:g.nodes.length<=1048576/\g.rels.length<=1048576/\(∀n∈g.nodes,n.labels.length<=1048576/\n.props.length<=1048576)/\ ∀r∈g.rels,r.props.length<=1048576) (hL:Laid w):
  Calls Tryz.prog 3 #[u] w fun e w'=>e=.returned (.bool true)/\Below w.heap.size w w':=by
 have hok:=h.ok
 have hsm:Small g:=⟨by omega,by omega,fun n hn=>by have:=hs.2.2.1 n hn;omega,fun n hn=>by have:=hs.2.2.1 n hn;omega,fun r hr=>by have:=hs.2.2.2 r hr;omega⟩
 obtain⟨nn,hnn⟩:=aj g.nodes.length;obtain⟨rn,hrn⟩:=aj g.rels.length
 obtain⟨A1,c1,A2,c2,rfl⟩:=h.form hnn hrn
 obtain⟨W1,hW1⟩:=aj (w.alloc (.cells #[.slice A1 nn c1,.slice A2 rn c2] 25))
 have hb1:Below w.heap.size w W1:=hW1▸(Below.refl _ w).alloc (rM _) _
 have hk1:Blk W1 w.heap.size 25 #[.slice A1 nn c1,.slice A2 rn c2]:=hW1▸Blk.new _ _ _
 have HSP:=ah (jG W1 (fun V hV=>hL.below (hb1.trans (hV.mono hb1.size))))
 have HW1:=ah hW1;have HB1:=ah hb1;have HK1:=ah hk1
 have HG:=ah (fun(V:World) (hb:Below w.heap.size w V)=>h.below hb)
 have HOK:=ah hok;have HSM:=ah hsm;have HL:=ah hL;have HNN:=ah (And.intro hnn hrn)
 obtain⟨R,hR⟩:=aj (⟨(Tb.printR g).1.1.toArray⟩:ByteArray)
 obtain⟨Q,hQ⟩:=aj (⟨(Tb.printR g).1.2.toArray⟩:ByteArray)
 obtain⟨E,hE⟩:=aj ((Tb.printR g).2);have HRE:=ah (And.intro hR (And.intro hQ hE))
 clear h hok hnn hrn hW1 hb1 hk1 hL hs hsm hR hQ hE;go_enter Tryz.func3,Tryz.ntmps3
 go_upto_region 1 with fail
 rw[HW1.out];clear HW1;go_wp2_with fail;refine HSP.mono ?_;rintro e w2 ⟨rfl,b2⟩
 have HB2:=ah (HB1.trans (b2.mono HB1.size));have HK2:=ah (HK1.below b2 HK1.lt)
 clear b2 HSP;obtain⟨c0,c1'⟩:=cells2 HK2.out
 have HCP:=ah (refCopy_any w.heap.size _ g w2 (HG.out w2 HB2.out) HB2.size HSM.out)
 go_wp2_with fail;refine HCP.mono ?_;rintro e w3 ⟨u3,rfl,hg3,b3⟩;have aV:=hg3.gin HOK.out
 obtain⟨A3,c3,A4,c4,rfl⟩:=aV.form HNN.out.1 HNN.out.2
 obtain⟨W4,hW4⟩:=aj (w3.alloc (.cells #[.slice A3 nn c3,.slice A4 rn c4] 25))
 obtain⟨gc,hgc⟩:=aj w3.heap.size
 have hb4:Below w3.heap.size w3 W4:=hW4▸(Below.refl _ w3).alloc (rM _) _
 have h24:Below w2.heap.size w2 W4:=b3.trans (hb4.mono b3.size)
 have HK4:=ah (show Blk W4 gc 25 #[.slice A3 nn c3,.slice A4 rn c4] by rw[<-hW4,<-hgc];exact Blk.new _ _ _)
 have HO4:=ah (hg3.below hb4)
 have HG4:=ah (show GIn W4 w3.heap.size (.agg #[.slice A3 nn c3,.slice A4 rn c4]) g from aV.below hb4)
 have fE:=ah hb4.size;have HZ3:=ah (rV HB2.size b3.size)
 have HB4:=ah (HB2.trans (h24.mono HB2.size));have nU:=ah (HK2.below h24 HK2.lt)
 have HW4:=ah hW4;have dO:=ah hgc;clear hgc hW4 hb4 h24 aV hg3 b3 c0 c1' HCP
 go_upto_region 4 with fail
 rw[HW4.out,dO.out];clear HW4 dO;obtain⟨d0,d1⟩:=cells2 HK4.out
 have hpr:=jF HO4.out HOK.out (HL.below HB4.out)
 rw[HRE.out.1,HRE.out.2.1,HRE.out.2.2]at hpr;have HPR:=ah hpr;clear hpr;go_wp2_with fail
 refine HPR.mono ?_;rintro e w5 ⟨rfl,b5⟩;have HB5:=ah (HB4.trans (b5.mono HB4.size))
 have HK5:=ah (nU.below b5 nU.lt);have nV:=ah (HK4.below b5 HK4.lt)
 have HG5:=ah (HG4.below (b5.mono fE.out));have HZ5:=ah (rV fE.out b5.size)
 clear b5 d0 d1 HPR;obtain⟨c0,c1'⟩:=cells2 HK5.out
 have fJ:=lV w.heap.size _ g w5 (HG.out w5 HB5.out) HB5.size
 rw[HRE.out.1,HRE.out.2.1,HRE.out.2.2]at fJ;have HRP:=ah fJ;clear fJ;go_wp2_with fail
 refine HRP.mono ?_;rintro e w6 ⟨rfl,b6⟩;have HB6:=ah (HB5.trans (b6.mono HB5.size))
 have HK6:=ah (HK5.below b6 HK5.lt);have qx:=ah (nV.below b6 nV.lt)
 have HSA:=ah (refSame_any w3.heap.size _ _ g w6 (HG5.below (b6.mono HZ5.out)) ((HG.out w6 HB6.out).more HZ3.out) (rV HZ5.out b6.size))
 clear b6 c0 c1' HRP;obtain⟨c0,c1'⟩:=cells2 HK6.out;obtain⟨d0,d1⟩:=cells2 qx.out
 go_wp2_with fail;refine HSA.mono ?_;rintro e w9 ⟨rfl,b9⟩
 have HB9:=ah (HB6.trans (b9.mono HB6.size));clear b9;go_wp2;go_ret;exact⟨rfl,HB9.out⟩
end Go.Proofs.YtanlehkalkafdaaGreatDoor
