/- Contracts and plain laws,part 42. -/
import Derived.Test.YtoofbflplhbpbaaGreatDoorUO41
set_option maxHeartbeats 64000000
set_option maxRecDepth 1000000
set_option linter.all false
namespace Go.Proofs.YtoofbflplhbpbaaGreatDoor
open Go.RowKit
theorem ajX (u:Value) (g:Gr.G) (w:World) (h:fE w w.heap.size u g) (hL:Laid w):
  Calls Tryz.prog 10 #[u] w fun e w'=>e= .returned (.bool true)/\Below w.heap.size w w':=by
 have hok:=h.ok;obtain ⟨nn,hnn⟩: ∃n,g.nodes.length=n:=⟨_,rfl⟩
 obtain ⟨rn,hrn⟩: ∃n,g.au.length=n:=⟨_,rfl⟩;obtain ⟨A1,c1,A2,c2,rfl⟩:=h.form hnn hrn
 obtain ⟨W1,hW1⟩: ∃W,w.alloc (.cells #[.slice A1 nn c1, .slice A2 rn c2] 39)=W:=⟨_,rfl⟩
 have hb1:Below w.heap.size w W1:=hW1▸(Below.refl _ w).alloc (ab1 _) _
 have hk1:aj W1 w.heap.size 39 #[.slice A1 nn c1, .slice A2 rn c2]:=hW1▸aj.new _ _ _
 have iF:=ah (Jd W1 (fun V hV=>hL.below (hb1.trans (hV.mono hb1.size))))
 have HW1:=ah hW1;have HB1:=ah hb1;have aT:=ah hk1
 have HG:=ah (fun (V:World) (hb:Below w.heap.size w V)=>h.below hb)
 have aK:=ah hok;have HL:=ah hL;have ay:=ah (And.intro hnn hrn)
 clear h hok hnn hrn hW1 hb1 hk1 hL;go_enter Tryz.func10,Tryz.ntmps10
 go_upto_region 1 with fail
 rw [HW1.out];clear HW1;go_wp2_with fail;refine iF.out.mono ?_;rintro e w2 ⟨rfl,b2⟩
 have HB2:=ah (HB1.out.trans (b2.mono HB1.out.size))
 have aC:=ah (aT.out.below b2 aT.out.lt);clear b2 iF;obtain ⟨c0,c1⟩:=cells2 aC.out
 obtain ⟨E,hE⟩: ∃E,(Gr.check g).1=E:=⟨_,rfl⟩
 have hck:=NR w.heap.size _ g w2 (HG.out w2 HB2.out) HB2.out.size;rw [hE] at hck
 have aU:=ah hck;have HE:=ah hE;clear hck hE;go_wp2_with fail;refine aU.out.mono ?_
 rintro e w3 ⟨rfl,b3⟩;have HB3:=ah (HB2.out.trans (b3.mono HB2.out.size))
 have bJ:=ah (aC.out.below b3 aC.out.lt);clear b3 c0 c1 aU;obtain ⟨c0,c1⟩:=cells2 bJ.out
 cases E with
 | succ e=>
  have hne:(((e+1:Nat):Int) !=0)=true:=by rw [acV];omega
  go_wp2;go_ret;exact ⟨rfl,HB3.out⟩
 | zero=>
  obtain ⟨bn,hbn⟩: ∃b,((nn:Int) == 0)=b:=⟨_,rfl⟩;cases bn with
  | true=>
   go_wp2;go_ret;exact ⟨rfl,HB3.out⟩
  | false=>
   have hgood:=Gr.xJ.1 HE.out;have wX:=NT hgood aK.out;have HR:=ah (NS wX aK.out)
   have hn0:g.nodes≠ []:=fun e=>by have:=ay.out.1;rw [e] at this;rw [<-this] at hbn;simp at hbn
   have h2l:(Cy.print g ++ Cy.print g).length<=16777216:=by rw [dA];have:=HR.out.2.2.1;omega
   have HTW:=ah (Cy.ag9 wX hn0 h2l)
   have Cm:=ah (fun (r:Gr.R) (hr:r∈g.au)=>show (Cy.parse (Cy.bD r ++ Cy.print g)).2=65/\(Cy.bD r).length<=4800000 from by
    have hp:=Good.rel hgood aK.out r hr;have h1:=aa6 hp
    have h3:Gr.bM r.props<=41000*16:=ab5 (Ja (fun p hq=>(hp.ps p hq).val)) (akV _ hp.pl)
    have h4:(Cy.bD r).length<=4800000:=by omega
    exact ⟨Cy.aha wX hr (by rw [dA];have:=HR.out.2.2.1;omega),h4⟩)
   have bQ:=ah (TG w.heap.size _ g w3 (HG.out w3 HB3.out) HB3.out.size (TM hgood))
   have lX:=ah (fun (V:World) (hb:Below w.heap.size w V)=>TQ w.heap.size _ g V (HG.out V hb) hb.size)
   clear hgood wX hn0 h2l;go_wp2_with fail;refine bQ.out.mono ?_
   rintro e w5 ⟨u5,rfl,hg5,b5⟩;have bZ:=ah (HB3.out.trans (b5.mono HB3.out.size))
   have dY:=ah (bJ.out.below b5 bJ.out.lt)
   have hpr:=NJ w5.heap.size u5 g w5 (hg5.yH aK.out) (ab1 _) (HL.out.below bZ.out)
   obtain ⟨z,hz⟩: ∃z:ByteArray,(⟨(Cy.print g).toArray⟩:ByteArray)=z:=⟨_,rfl⟩
   rw [HR.out.2.1,hz] at hpr;have hzd:z.data.toList=Cy.print g:=by rw [<-hz]
   have hzs:z.size<=8388608:=by rw [Lib.size_eq,hzd];exact HR.out.2.2.1
   have hps:=fun (s:ByteArray) (hs:s.size<=1073741823) (V:World) (hb:Below w.heap.size w V)=>FY s hs V (fun X hX=>HL.out.below (hb.trans (hX.mono hb.size)))
   have hz2:(z ++ z).data.toList=Cy.print g ++ Cy.print g:=by rw [aep,aey,hzd]
   have hp2:=hps (z ++ z) (by rw [adG];omega)
   rw [hz2] at hp2;have HZD:=ah hzd;have dG:=ah hpr;have nX:=ah hps;have HP2:=ah hp2
   clear hg5 b5 c0 c1 hpr hps hz hzd bQ hz2 hp2;go_wp2_with fail;refine dG.out.mono ?_
   rintro e w6 ⟨rfl,b6⟩;have nD:=ah (bZ.out.trans (b6.mono bZ.out.size))
   have qZ:=ah (dY.out.below b6 dY.out.lt);clear b6 dG
   have hzI:(z.size:Int)<=8388608:=by omega
   have tz:decide ((8388608:Int)<(z.size:Int))=false:=abX (by omega)
   have hzz:z.size+z.size<=16777216:=by omega
   go_wp2_with fail;refine (HP2.out w6 nD.out).mono ?_;rintro e w7 ⟨u7,rfl,-,b7⟩
   rw [HTW.out];have AB:=ah (nD.out.trans (b7.mono nD.out.size))
   have Ae:=ah (qZ.out.below b7 qZ.out.lt);clear b7 HP2 hzz;obtain ⟨c0,c1⟩:=cells2 Ae.out
   have oV:=lX.out w7 AB.out;have Py:=ah oV;clear oV lX;go_wp2_with fail
   refine Py.out.mono ?_;rintro e w8 ⟨A8,c8,rfl,o8,b8⟩;rw [HE.out]
   have oW:=ah (AB.out.trans (b8.mono AB.out.size))
   have Lp:=ah (Ae.out.below b8 Ae.out.lt);clear b8 c0 c1;obtain ⟨c0,c1⟩:=cells2 Lp.out
   obtain ⟨br,hbr⟩: ∃b,((rn:Int) == 0)=b:=⟨_,rfl⟩;cases br with
   | true=>
    clear o8;go_wp2;go_ret;exact ⟨rfl,oW.out⟩
   | false=>
    have hr0:rn≠0:=fun e=>by rw [e] at hbr;simp at hbr
    obtain ⟨rm,hrm⟩: ∃rm,rn=rm+1:=⟨rn - 1,by omega⟩
    obtain ⟨r,hr⟩: ∃r,g.au[rm]?=some r:=⟨_,ab2 (by rw [ay.out.2];omega)⟩
    have hear:=Cm.out r (acf hr)
    have hlr:fZ g=g.nodes.map Cy.bY ++ g.au.map Cy.bD:=by unfold fZ Cy.lines;rw [ab7 HE.out]
    obtain ⟨m,hm⟩: ∃m,(fZ g).length=m:=⟨_,rfl⟩
    have hmn:m=nn+rm+1:=by rw [<-hm,hlr,dA,ace,ace,ay.out.1,ay.out.2,hrm];omega
    rw [hm] at o8⊢
    have hlast:(fZ g)[nn+rm]?=some (Cy.bD r):=by
     rw [hlr,aei (by rw [ace,ay.out.1];omega),ace,ay.out.1,akD,acJ,hr]
     rfl
    obtain ⟨gb,rfl,-,hcell,-⟩:=qI o8 (t:=nn+rm) (by omega)
    obtain ⟨zr,Xi⟩: ∃z:ByteArray,(⟨(Cy.bD r).toArray⟩:ByteArray)=z:=⟨_,rfl⟩
    rw [acJ,hlast] at hcell;simp only [aej,ST,Xi] at hcell
    obtain ⟨q,hq⟩: ∃q,nn+rm=q:=⟨_,rfl⟩;rw [hq] at hcell
    have hsub:(m:Int) - 1=(q:Int):=by omega
    have pq:(0:Int)<=(q:Int):=by omega
    have tq:((q:Int)).toNat=q:=by omega
    have hqm:(q:Int)<(m:Int):=by omega
    have BQ:(m:Int)<=4294967296:=by have:=aK.out.nl;have:=aK.out.rl;have:=ay.out;omega
    have hm1:(1:Int)<=(m:Int):=by omega
    have Xj:zr.data.toList=Cy.bD r:=by rw [<-Xi]
    have hzrs:zr.size<=4800000:=by rw [Lib.size_eq,Xj];exact hear.2
    have hp3:=nX.out (zr ++ z) (by rw [adG];omega) w8 oW.out
    rw [show (zr ++ z).data.toList=Cy.bD r ++ Cy.print g by rw [aep,aey,Xj,HZD.out]] at hp3
    have D9:=ah hp3;have H65:=ah hear.1;have hzz:zr.size+z.size<=16777216:=by omega
    clear hr0 hrm hr hear hlr hm hmn hlast Xi hq Xj hzrs hp3 o8 nX;go_wp2_with fail
    refine D9.out.mono ?_;rintro e w9 ⟨u9,rfl,-,b9⟩;rw [H65.out]
    have dh:=ah (oW.out.trans (b9.mono oW.out.size));clear b9;go_wp2;go_ret
    exact ⟨rfl,dh.out⟩
end Go.Proofs.YtoofbflplhbpbaaGreatDoor
