/- Contracts and plain laws,part 40. -/
import Derived.Test.YtanlehkalkafdaaGreatDoorUT39
set_option maxHeartbeats 64000000
set_option maxRecDepth 1000000
set_option linter.all false
namespace Go.Proofs.YtanlehkalkafdaaGreatDoor
open Go.RowKit
theorem jM (u:Value) (g:Gr.G) (w:World) (h:GIn w w.heap.size u g) (hL:Laid w):
  Calls Tryz.prog 5 #[u] w fun e w'=>e= .returned (.bool true)/\Below w.heap.size w w':=by
 have hok:=h.ok;obtain ⟨nn,hnn⟩:=aj g.nodes.length;obtain ⟨rn,hrn⟩:=aj g.rels.length
 obtain ⟨A1,c1,A2,c2,rfl⟩:=h.form hnn hrn
 obtain ⟨W1,hW1⟩:=aj (w.alloc (.cells #[.slice A1 nn c1, .slice A2 rn c2] 25))
 have hb1:Below w.heap.size w W1:=hW1▸(Below.refl _ w).alloc (kV _) _
 have hk1:Blk W1 w.heap.size 25 #[.slice A1 nn c1, .slice A2 rn c2]:=hW1▸Blk.new _ _ _
 have HSP:=ah (iy W1 (fun V hV=>hL.below (hb1.trans (hV.mono hb1.size))))
 have HW1:=ah hW1;have HB1:=ah hb1;have HK1:=ah hk1
 have HG:=ah (fun (V:World) (hb:Below w.heap.size w V)=>h.below hb)
 have HOK:=ah hok;have HL:=ah hL;have HNN:=ah (And.intro hnn hrn)
 clear h hok hnn hrn hW1 hb1 hk1 hL;go_enter Tryz.func5,Tryz.ntmps5
 go_upto_region 1 with fail
 rw [HW1.out];clear HW1;go_wp2_with fail;refine HSP.mono ?_;rintro e w2 ⟨rfl,b2⟩
 have HB2:=ah (HB1.trans (b2.mono HB1.size));have HK2:=ah (HK1.below b2 HK1.lt)
 clear b2 HSP;obtain ⟨c0,c1⟩:=cells2 HK2.out;obtain ⟨E,hE⟩:=aj ((Gr.check g).1)
 have hck:=refCheck_any w.heap.size _ g w2 (HG.out w2 HB2.out) HB2.size;rw [hE] at hck
 have HCK:=ah hck;have HE:=ah hE;clear hck hE;go_wp2_with fail;refine HCK.mono ?_
 rintro e w3 ⟨rfl,b3⟩;have HB3:=ah (HB2.trans (b3.mono HB2.size))
 have HK3:=ah (HK2.below b3 HK2.lt);clear b3 c0 c1 HCK;obtain ⟨c0,c1⟩:=cells2 HK3.out
 cases E with
 | succ e=>
  have hne:(((e+1:Nat):Int) !=0)=true:=by rw [mF];omega
  go_wp2;go_ret;exact ⟨rfl,HB3.out⟩
 | zero=>
  have hgood:=Gr.check_good.1 HE.out;have HR:=ah (right_table (fine_of hgood HOK.out))
  have HCP:=ah (refCopy_any w.heap.size _ g w3 (HG.out w3 HB3.out) HB3.size (small_of_good hgood))
  clear hgood;go_wp2_with fail;refine HCP.mono ?_;rintro e w5 ⟨u5,rfl,hg5,b5⟩
  have HB5:=ah (HB3.trans (b5.mono HB3.size));have HK5:=ah (HK3.below b5 HK3.lt)
  have hpr:=fF hg5 HOK.out (HL.below HB5.out)
  obtain ⟨z,hz⟩:=aj (⟨(Tb.print g).1.toArray⟩:ByteArray)
  obtain ⟨y,hy⟩:=aj (⟨(Tb.print g).2.toArray⟩:ByteArray);rw [HR.out.2.1,hz,hy] at hpr
  have hzd:z.data.toList=(Tb.print g).1:=by rw [<-hz]
  have hyd:y.data.toList=(Tb.print g).2:=by rw [<-hy]
  have hps:=fun (V:World) (hb:Below w.heap.size w V)=>bZ z y (by rw [Lib.size_eq,hzd];exact kZ HR.out.2.2.1 (by decide)) (by rw [Lib.size_eq,hyd];exact kZ HR.out.2.2.2.1 (by decide)) V (fun X hX=>HL.below (hb.trans (hX.mono hb.size)))
  rw [hzd,hyd,HR.out.2.2.2.2] at hps;have HPR:=ah hpr;have bn:=ah hps
  clear hg5 b5 c0 c1 hpr hps hz hy hzd hyd HCP;go_wp2_with fail;refine HPR.mono ?_
  rintro e w6 ⟨rfl,b6⟩;have HB6:=ah (HB5.trans (b6.mono HB5.size))
  have HK6:=ah (HK5.below b6 HK5.lt);clear b6 HPR;go_wp2_with fail
  refine (bn.out w6 HB6.out).mono ?_;rintro e w7 ⟨u7,rfl,hg7,b7⟩;have aG:=hg7.gin HOK.out
  obtain ⟨A3,c3,A4,c4,rfl⟩:=aG.form HNN.out.1 HNN.out.2
  obtain ⟨W8,aY⟩:=aj (w7.alloc (.cells #[.slice A3 nn c3, .slice A4 rn c4] 25))
  obtain ⟨gc,hgc⟩:=aj w7.heap.size
  have hb8:Below w7.heap.size w7 W8:=aY▸(Below.refl _ w7).alloc (kV _) _
  have HK8:=ah (show Blk W8 gc 25 #[.slice A3 nn c3, .slice A4 rn c4] by rw [<-aY,<-hgc];exact Blk.new _ _ _)
  have h68:Below w6.heap.size w6 W8:=b7.trans (hb8.mono b7.size)
  have HK9:=ah (HK6.below h68 HK6.lt);have HB8:=ah (HB6.trans (h68.mono HB6.size))
  have ig:=ah (refSame_any w7.heap.size _ _ g W8 ((HG.out W8 HB8.out).more (kZ HB6.size b7.size)) (aG.below hb8) hb8.size)
  have dR:=ah aY;have bD:=ah hgc;clear hgc aY hb8 h68 aG hg7 b7 bn
  go_upto_region 10 with fail
  rw [dR.out,bD.out];clear dR bD;obtain ⟨c0,c1⟩:=cells2 HK8.out
  obtain ⟨d0,d1⟩:=cells2 HK9.out;go_wp2_with fail;refine ig.mono ?_;rintro e w9 ⟨rfl,b9⟩
  have HB9:=ah (HB8.trans (b9.mono HB8.size));clear b9;go_wp2;go_ret;exact ⟨rfl,HB9.out⟩
end Go.Proofs.YtanlehkalkafdaaGreatDoor
