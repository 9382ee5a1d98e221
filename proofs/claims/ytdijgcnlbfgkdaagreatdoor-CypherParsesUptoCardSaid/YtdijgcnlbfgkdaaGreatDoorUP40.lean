/- Lemmas. -/
import Derived.Test.YtdijgcnlbfgkdaaGreatDoorUP25
import Derived.Test.YtdijgcnlbfgkdaaGreatDoorUP39
set_option maxHeartbeats 64000000
set_option maxRecDepth 1000000
set_option linter.all false
namespace Go.Proofs.YtdijgcnlbfgkdaaGreatDoor
open Go.RowKit Go.Proofs.Tryz
def nN.form {W:World} {B:Nat} {u:Value} {g:Gr.G} (h:nN W B u g) {a b:Nat} (ha:g.nodes.length=a) (hb:g.ay.length=b): ∃A1 c1 A2 c2,u=.agg #[.slice A1 a c1,.slice A2 b c2]:=by
 obtain⟨A1,c1,A2,c2,e,-,-⟩:=h.ex;subst ha hb;exact⟨A1,c1,A2,c2,e⟩
def anj (s:ByteArray) (w:World) (hs:s.size<=1073741823) (hL:Laid w):
  Calls prog 3 #[.string s] w fun e w'=>e=.returned (.bool true)/\Below w.heap.size w w':=by
 have nS:=ah (alr w (fun V hV=>hL.below hV))
 obtain⟨R,hR⟩:=aj (Cy.parse s.data.toList);obtain⟨g,e0⟩:=R;have hsz:=Cy.UL hR;have hp:=fun(V:World) (hb:Below w.heap.size w V)=>VI s hs V (fun X hX=>hL.below (hb.trans (hX.mono hb.size)))
 have hq:=fun(V:World)=>ani s V hs
 rw[hR]at hp hq;have HP:=ah hp;have HQ:=ah hq;have bF:=ah (show Jl g from hsz.1.ok)
 clear hR hp hq hL hsz;go_enter func3,ntmps3;go_wp2_with fail;refine mq8 nS fun w1 b1=>?_;have HB1:=ah b1;clear b1 nS;go_wp2_with fail;refine(HP.out w1 HB1.out).mono ?_;rintro e w2 ⟨u,rfl,hg,b2⟩;have EM:=hg.CW bF.out;obtain⟨nn,hnn⟩:=aj g.nodes.length;obtain⟨rn,hrn⟩:=aj g.ay.length;obtain⟨A1,c1,A2,c2,rfl⟩:=EM.form hnn hrn;obtain⟨W3,hW3⟩:=aj (w2.alloc (.cells #[.slice A1 nn c1,.slice A2 rn c2] 26));obtain⟨gb,hgb⟩:=aj w2.heap.size;have hb3:Below w2.heap.size w2 W3:=hW3▸(aoa _ w2).alloc (aej _) _;have dX:=ah (show ak W3 gb 26 #[.slice A1 nn c1,.slice A2 rn c2] by rw[<-hW3,<-hgb];exact ak.new _ _ _)
 refine gq5 (hg.below hb3) ((HB1.trans (b2.mono HB1.size)).trans (hb3.mono (aep HB1.size b2.size))) hW3 hgb (And.intro hnn hrn) fun jU HB3 HW3 TD aC=>?_;clear hgb hW3 hb3 hnn hrn EM hg b2 HP
 go_upto_region 4 with fail
 rw[HW3.out,TD.out];clear HW3 TD;go_wp2_with fail;refine(HQ.out W3).mono ?_;rintro e w4 ⟨u4,rfl,hg4,b4⟩;have EM:=hg4.CW bF.out;obtain⟨A3,c3,A4,c4,rfl⟩:=EM.form aC.out.1 aC.out.2;obtain⟨W5,fU⟩:=aj (w4.alloc (.cells #[.slice A3 nn c3,.slice A4 rn c4] 26));obtain⟨gc,hgc⟩:=aj w4.heap.size;have hb5:Below w4.heap.size w4 W5:=fU▸(aoa _ w4).alloc (aej _) _;have pV:=ah (show ak W5 gc 26 #[.slice A3 nn c3,.slice A4 rn c4] by rw[<-fU,<-hgc];exact ak.new _ _ _)
 have h35:Below W3.heap.size W3 W5:=b4.trans (hb5.mono b4.size);refine gq5 (dX.below h35 dX.lt) (HB3.trans (h35.mono HB3.size)) (alu W5.heap.size _ _ g W5 ((jU.below h35).CW bF.out) ((hg4.below hb5).CW bF.out) (aej _)) fU hgc fun HKB dI jT tN HGC=>?_;clear hgc fU hb5 EM hg4 b4 h35 dX jU
 go_upto_region 5 with fail
 rw[tN.out,HGC.out];clear tN HGC;obtain⟨c0,c1'⟩:=cells2 HKB.out;obtain⟨d0,d1'⟩:=cells2 pV.out;go_wp2_with fail;refine mq8 jT fun w6 b6=>?_;have G9:=ah (dI.trans (b6.mono dI.size));clear b6 c0 c1' d0 d1';go_wp2;go_ret;exact⟨rfl,G9.out⟩
end Go.Proofs.YtdijgcnlbfgkdaaGreatDoor
