/- Contracts and plain laws,part 30. -/
import Derived.Test.YtkdakckjafomhaaGreatDoorUW29
import Derived.Laws.OwnMore
set_option maxHeartbeats 64000000
set_option maxRecDepth 1000000
set_option linter.all false
namespace Go.Proofs.YtkdakckjafomhaaGreatDoor
open Go.RowKit
theorem abX: ∀(n:Nat) (acc:List (List ay.F)) (l:ay.F),(ay.lN n acc l).1.length<=acc.length+n
 |0,acc,l=>by simp[ay.lN]
 |n+1,acc,l=>by
  rw[ay.lN]
  split
  ·simp only;omega
  split
  ·rename_i fs r _
   have:=abX n (acc++[fs]) r;rw[adf,aeM]at this;omega
  simp only;omega
theorem P7 (l:ay.F):(ay.rowsOf l).1.length<=l.length+1:=by
 have:=abX (l.length+1) [] l
 simpa[ay.rowsOf] using this
theorem abY {ks:List (List UInt8)} {w:Nat}: ∀(rows:List (List (List UInt8))) (acc ns:List Gr.N),Tb.nT ks w rows acc=(ns,0)->ns.length<=acc.length+rows.length
 |[],acc,ns,h=>by rw[Tb.nT]at h;cases h;simp
 |row :: r,acc,ns,h=>by
  rw[Tb.nT]at h
  split at h
  ·cases h
  split at h
  ·cases h
  split at h
  ·cases h
  split at h
  ·rename_i h0;have:=aeH Prod.snd h;exact absurd this h0
  split at h
  ·rename_i h0;have:=aeH Prod.snd h;exact absurd this h0
  have:=abY r _ ns h;simp only[adf,ae8,adQ]at this⊢;omega
theorem abZ {rows:List (List (List UInt8))} {ns:List Gr.N} (h:Tb.nodesOf rows=(ns,0)):ns.length<=rows.length:=by
 unfold Tb.nodesOf at h
 split at h
 ·cases h
 have:=abY _ _ _ h;simp only[ae8,List.length_tail]at this;omega
section
variable {W W':World} {B base T:Nat} {v:Value}
theorem OwnRows.kt {rows:List (List ay.F)} (h:OwnRows W B v rows) (hk:Kt T base W W') (h1:34≠T) (h2:9≠T):OwnRows W' B v rows:=by
 obtain⟨us,e1,e2,e3,e4⟩:=h
 exact⟨us,e1,jf e2 hk h1,fun k u r hu hr=>jf (e3 k u r hu hr) hk h2,e4⟩
theorem eU.kt {ns:List Gr.N} (h:eU W B v ns) (hk:Kt T base W W') (h1:2≠T) (h2:9≠T) (h3:39≠T) (h4:42≠T):eU W' B v ns:=by
 obtain⟨ln,e1,e2,e3⟩:=h;exact⟨ln,e1,fun x hx=>(e2 x hx).kt hk h1 h2 h3,jf e3 hk h4⟩
theorem gu.kt {rs:List Gr.R} (h:gu W B v rs) (hk:Kt T base W W') (h1:2≠T) (h2:9≠T) (h3:39≠T) (h4:44≠T):gu W' B v rs:=by
 obtain⟨ln,e1,e2,e3⟩:=h;exact⟨ln,e1,fun x hx=>(e2 x hx).kt hk h1 h2 h3,jf e3 hk h4⟩
end
theorem ab1 {W:World} {B1 B2 B:Nat} {vn vr:Value} {ns:List Gr.N} {rs:List Gr.R} (hn:eU W B1 vn ns) (hr:gu W B2 vr rs) (h1:B<=B1) (h2:B<=B2):dR W B (.agg #[vn,vr]) ⟨ns,rs⟩:=by
 obtain⟨ln,a1,a2,a3⟩:=hn;obtain⟨lr,c1,c2,c3⟩:=hr
 refine⟨vn,vr,ln,lr,rfl,a1,fun x hx=> ?_,iy a3 h1,c1,fun x hx=> ?_,iy c3 h2⟩
 ·obtain⟨s,t,e,o1,o2⟩:=a2 x hx
  exact⟨s,t,e,iy o1 h1,o2.base h1⟩
 obtain⟨t,e,o2⟩:=c2 x hx;exact⟨t,e,o2.base h2⟩
theorem ab2 {ns:List Gr.N} {rs:List Gr.R} (hn:Tb.Ns ns) (hr:Tb.Rs rs):JZ ⟨ns,rs⟩:=⟨hn.nd,hr.nd,fun n h=>(hn.sz n h).2,fun n h=>(hr.sz n h).2⟩
theorem U5 (s t:ByteArray) (hs:s.size<=1073741823) (ht:t.size<=1073741823) (w:World) (hL: ∀V,Below w.heap.size w V->Laid V):
  Calls Tryz.prog 5 #[.string s,.string t] w (abU w (Tb.parse s.data.toList t.data.toList)):=by
 obtain⟨R,hR⟩:=aj (Tb.parse s.data.toList t.data.toList);rw[hR];unfold Tb.parse at hR
 rw[<-Lib.size_eq s,<-Lib.size_eq t]at hR;obtain⟨gb,hgb⟩:=aj w.heap.size
 obtain⟨W1,hW1⟩:=aj (w.alloc (.cells #[.slice none 0 0,.slice none 0 0] 26))
 have hb1:Below w.heap.size w W1:=hW1▸(Below.refl _ w).alloc (ac4 _) _
 have hk1:au W1 w.heap.size 26 #[.slice none 0 0,.slice none 0 0]:=hW1▸au.new _ _ _
 have HL:=ah hL;have HW1:=ah hW1;have HB1:=ah hb1;have bW:=ah hk1
 have yD:=ah (hk1.failed hb1);obtain⟨a0,a1⟩:=cells2 hk1;have f0:=hk1.frozen 0
 have f1:=hk1.frozen 1;by_cases hs1:16777216<s.size
 ·rw[adk (.inl hs1)]at hR
  subst hR;have hsI:(16777216:Int)<s.size:=by omega
  clear hL hW1 hb1 hk1 hgb hs ht;go_enter Tryz.func5,Tryz.ntmps5
  go_upto_region 1 with fail
  rw[HW1.out];clear HW1;go_wp2_with fail
  exact pW rfl (by simp) (by simp) (yD.out _ _).1 ⟨_,rfl,dR.G0 _ _,(yD.out _ _).2⟩
 have hsI:(s.size:Int)<=16777216:=by omega
 by_cases ht1:16777216<t.size
 ·rw[adk (.inr ht1)]at hR
  subst hR;have QZ:(16777216:Int)<t.size:=by omega
  clear hL hW1 hb1 hk1 hgb hs ht hs1;go_enter Tryz.func5,Tryz.ntmps5
  go_upto_region 1 with fail
  rw[HW1.out];clear HW1;go_wp2_with fail
  exact pW rfl (by simp) (by simp) (yD.out _ _).1 ⟨_,rfl,dR.G0 _ _,(yD.out _ _).2⟩
 rw[ade (fun h=>h.elim hs1 ht1)]at hR
 have QZ:(t.size:Int)<=16777216:=by omega
 obtain⟨la,hla⟩:=aj s.data.toList;obtain⟨lb,hlb⟩:=aj t.data.toList
 have hal:la.length<=16777216:=by rw[<-hla,<-Lib.size_eq];omega
 have hbl:lb.length<=16777216:=by rw[<-hlb,<-Lib.size_eq];omega
 have hcs:=aag s (by omega) W1
 have hct:=fun(V:World)=>aag t (by omega) V
 rw[hla]at hcs hR;rw[hlb]at hct hR;have dS:=ah (Tb.rows_row hal)
 have iI:=ah (Tb.rows_row hbl);have Gy:=P7 la;have Gz:=P7 lb
 obtain⟨ra,hra⟩:=aj (ay.rowsOf la);obtain⟨rb,hrb⟩:=aj (ay.rowsOf lb);obtain⟨ra,ea⟩:=ra
 obtain⟨rb,eb⟩:=rb;unfold aaf at hcs hct;rw[hra]at hcs hR dS Gy
 rw[hrb]at hct hR iI Gz;simp only at hcs hct hR dS iI Gy Gz;have yE:=ah hcs
 have MP:=ah hct;have HR:=ah hR;have MQ:=ah (show ra.length<=16777217 by omega)
 have Xd:=ah (show rb.length<=16777217 by omega)
 clear hcs hct hR hra hrb hL hW1 hb1 hk1 hla hlb hal hbl hs1 ht1 hs ht Gy Gz hgb gb
 go_enter Tryz.func5,Tryz.ntmps5
 go_upto_region 1 with fail
 rw[HW1.out];clear HW1;go_wp2_with fail;refine yE.mono ?_;rintro e w2 ⟨v,rfl,b2,hv⟩
 have aY:=ah (bW.below b2 bW.lt);have HB2:=ah (HB1.trans (b2.mono HB1.size))
 have HF2:=ah (aY.failed HB2.out);clear a0 a1 f0 f1 b2 yE yD;obtain⟨a0,a1⟩:=cells2 aY.out
 have f0:=aY.frozen 0;have f1:=aY.frozen 1;have hR1:=HR.out;by_cases hea:ea=0
 case neg=>
  rw[adk hea]at hR1;subst hR1;have t1:((ea:Int) !=0)=true:=by rw[adY];omega
  clear hv hea;go_wp2_with fail
  exact pW rfl (by simp) (by simp) (HF2.out _ _).1 ⟨_,rfl,dR.G0 _ _,(HF2.out _ _).2⟩
 subst hea;rw[adk rfl]at hv;rw[ade (by simp)]at hR1
 have HV:=ah hv;have HR2:=ah hR1;clear hv hR1 HR;go_wp2_with fail
 refine(MP.out w2).mono ?_;rintro e w3 ⟨v',rfl,b3,hv⟩;have dB:=ah (aY.below b3 aY.lt)
 have HB3:=ah (HB2.trans (b3.mono HB2.size));have HF3:=ah (dB.failed HB3.out)
 have MR:=ah (HV.kt (Kt.of_below (T:=0) (base:=0) b3 (afP _)) (by decide) (by decide))
 clear a0 a1 f0 f1 b3 MP HF2 aY HV;obtain⟨a0,a1⟩:=cells2 dB.out;have f0:=dB.frozen 0
 have f1:=dB.frozen 1;have hR1:=HR2.out;by_cases heb:eb=0
 case neg=>
  rw[adk heb]at hR1;subst hR1;have t1:((eb:Int) !=0)=true:=by rw[adY];omega
  clear hv heb;go_wp2_with fail
  exact pW rfl (by simp) (by simp) (HF3.out _ _).1 ⟨_,rfl,dR.G0 _ _,(HF3.out _ _).2⟩
 subst heb;rw[adk rfl]at hv;rw[ade (by simp)]at hR1
 have MS:=ah hv;have HR3:=ah hR1;have BK:=kY.dI MR.out;obtain⟨A1,c1,rfl,-,-⟩:=BK.form
 obtain⟨n1,hn1⟩:=aj ra.length;rw[hn1]at BK
 have hpn:=akB w3.heap.size A1 n1 c1 ra w3 BK hn1 (by rw[<-hn1];exact MQ.out) dS.out (ac4 _) (HL.out _ HB3.out)
 obtain⟨Q,hQ⟩:=aj (Tb.nodesOf ra);obtain⟨ns,en⟩:=Q;rw[hQ]at hpn;rw[hQ]at hR1
 simp only at hR1;have dY:=ah hpn
 have yF:=ah (show en=0->Tb.Ns ns/\ns.length<=16777217 from fun h=>by
  subst h
  exact⟨Tb.Uw hQ dS.out,adg (abZ hQ) MQ.out⟩)
 have HR4:=ah hR1;rw[hn1];clear hv hR1 BK hpn hQ hn1 HR2 HR3;go_wp2_with fail
 refine dY.mono ?_;rintro e w4 ⟨vn,rfl,on,b4⟩;obtain⟨A2,c2,rfl⟩:=on.form
 obtain⟨n2,hn2⟩:=aj ns.length;rw[hn2]at on⊢;have hk4:=dB.below b4 dB.lt
 have hb4:=HB3.trans (b4.mono HB3.size)
 obtain⟨W5,bZ⟩:=aj (w4.setCell ⟨w.heap.size,0,none⟩ (.slice A2 n2 c2))
 have hkt:=Kt.cell (base:=0) hk4 (afP _) 0 (.slice A2 n2 c2);rw[bZ]at hkt
 have nZ:=ah (show au W5 w.heap.size 26 #[.slice A2 n2 c2,.slice none 0 0] by rw[<-bZ];simpa using hk4.bP 0 (.slice A2 n2 c2))
 have bG:=ah (show Below w.heap.size w W5 by rw[<-bZ];exact hb4.setCell (p:=⟨w.heap.size,0,none⟩) (ac4 _) _)
 have Jl:=ah (on.kt hkt (by decide) (by decide) (by decide) (by decide))
 have HV5:=ah ((MS.kt (Kt.of_below (T:=0) (base:=0) b4 (afP _)) (by decide) (by decide)).kt hkt (by decide) (by decide))
 have GH:=ah (nZ.failed bG.out);have jH:=ah bZ
 have HZ3:=ah (show w.heap.size<=w3.heap.size from HB3.size)
 have MV:=ah (show w3.heap.size<=W5.heap.size by rw[<-bZ];exact adg b4.size (by simp[World.setCell]))
 have d0:=hk4.cell 0;have e0:=hk4.frozen 0;have tu:=ah hn2
 clear a0 a1 f0 f1 b4 on hk4 hb4 bZ hkt hn2 dY HF3 dB MR MS
 go_upto_region 10 with fail
 rw[jH.out];clear jH d0 e0;obtain⟨a0,a1⟩:=cells2 nZ.out;have f0:=nZ.frozen 0
 have f1:=nZ.frozen 1;have hR1:=HR4.out;by_cases hen:en=0
 case neg=>
  rw[adk hen]at hR1;subst hR1;have t1:((en:Int) !=0)=true:=by rw[adY];omega
  clear hen;go_wp2_with fail
  exact pW rfl (by simp) (by simp) (GH.out _ _).1 ⟨_,rfl,dR.G0 _ _,(GH.out _ _).2⟩
 subst hen;rw[ade (by simp)]at hR1
 obtain⟨hNs,hNl⟩:=yF.out rfl;have BL:=kY.dI HV5.out;obtain⟨A3,c3,rfl,-,-⟩:=BL.form
 obtain⟨n3,hn3⟩:=aj rb.length;rw[hn3]at BL
 have hpr:=akS W5.heap.size w3.heap.size A3 A2 n3 c3 n2 c2 rb ns W5 BL hn3 (by rw[<-hn3];exact Xd.out) iI.out (ac4 _) Jl.out tu.out (by rw[<-tu.out];exact hNl) (fun n hn=>(hNs.sz n hn).1.ok.id) (HL.out _ bG.out)
 obtain⟨Q,hQ⟩:=aj (Tb.oL (ns.map Gr.N.id) rb);obtain⟨rs,er⟩:=Q;rw[hQ]at hpr hR1
 simp only at hR1;have cZ:=ah hpr
 have GI:=ah (show er=0->Tb.Rs rs from fun h=>by subst h;exact Tb.Ux hQ iI.out)
 have vZ:=ah hNs;have wF:=ah hR1;rw[hn3];clear hR1 BL hpr hQ hn3 hNs hNl HR4 yF
 go_wp2_with fail;refine cZ.mono ?_;rintro e w6 ⟨vr,rfl,Ef,b6⟩;obtain⟨A4,c4,rfl⟩:=Ef.form
 obtain⟨n4,hn4⟩:=aj rs.length;rw[hn4]at Ef⊢;have hk6:=nZ.below b6 nZ.lt
 have hb6:=bG.trans (b6.mono bG.size)
 obtain⟨W7,qV⟩:=aj (w6.setCell ⟨w.heap.size,1,none⟩ (.slice A4 n4 c4))
 have hkt:=Kt.cell (base:=0) hk6 (afP _) 1 (.slice A4 n4 c4);rw[qV]at hkt
 have jC:=ah (show au W7 w.heap.size 26 #[.slice A2 n2 c2,.slice A4 n4 c4] by rw[<-qV];simpa using hk6.bP 1 (.slice A4 n4 c4))
 have bD:=ah (show Below w.heap.size w W7 by rw[<-qV];exact hb6.setCell (p:=⟨w.heap.size,1,none⟩) (ac4 _) _)
 have zS:=ah (ab1 (B:=w.heap.size) ((Jl.kt (Kt.of_below (T:=0) (base:=0) b6 (afP _)) (by decide) (by decide) (by decide) (by decide)).kt hkt (by decide) (by decide) (by decide) (by decide)) (Ef.kt hkt (by decide) (by decide) (by decide) (by decide)) HZ3.out (adg HZ3.out MV.out))
 have Xe:=ah (jC.failed bD.out);have DU:=ah qV;have d1:=hk6.cell 1;have e1:=hk6.frozen 1
 clear a0 a1 f0 f1 b6 Ef hk6 hb6 qV hkt hn4 cZ GH nZ HV5 Jl
 go_upto_region 13 with fail
 rw[DU.out];clear DU d1 e1;obtain⟨a0,a1⟩:=cells2 jC.out;have f0:=jC.frozen 0
 have f1:=jC.frozen 1;have hR1:=wF.out;by_cases her:er=0
 case neg=>
  rw[adk her]at hR1;subst hR1;have t1:((er:Int) !=0)=true:=by rw[adY];omega
  clear her;go_wp2_with fail
  exact pW rfl (by simp) (by simp) (Xe.out _ _).1 ⟨_,rfl,dR.G0 _ _,(Xe.out _ _).2⟩
 subst her;rw[ade (by simp)]at hR1
 obtain⟨g,hg⟩: ∃g:Gr.G,g=⟨ns,rs⟩:=⟨_,rfl⟩;have hsz:Cy.uD g:=hg▸Tb.Uy vZ.out (GI.out rfl)
 have hgo:dR W7 w.heap.size (.agg #[.slice A2 n2 c2,.slice A4 n4 c4]) g:=hg▸zS.out
 have hds:JZ g:=hg▸ab2 vZ.out (GI.out rfl);rw[<-hg]at hR1
 have HC:=ah (aky W7.heap.size _ g W7 (hgo.yC hsz.ok) (ac4 _) hds);have HS:=ah hsz
 have Eh:=ah hR1;have hwr:=bD.size;clear hR1 hg hsz hgo hds wF zS GI vZ;go_wp2_with fail
 refine HC.mono ?_;rintro e w8 ⟨u8,rfl,g8,b8⟩
 obtain⟨A5,m5,c5,A6,m6,c6,rfl⟩: ∃A n c B m d,u8=.agg #[.slice A n c,.slice B m d]:=by
  obtain⟨sn,sr,ln,lr,rfl,-,-,h3,-,-,h6⟩:=g8;obtain⟨A,c,rfl⟩:=aF h3
  obtain⟨B,d,rfl⟩:=aF h6;exact⟨A,_,c,B,_,d,rfl⟩
 have hk8:=jC.below b8 jC.lt;have hb8:=bD.trans (b8.mono bD.size)
 obtain⟨W9,qC⟩:=aj ((w8.setCell ⟨w.heap.size,0,none⟩ (.slice A5 m5 c5)).setCell ⟨w.heap.size,1,none⟩ (.slice A6 m6 c6))
 have h9:=hk8.failed hb8 (.slice A5 m5 c5) (.slice A6 m6 c6);rw[qC]at h9
 have aN:=(g8.kt (Kt.cell (base:=0) hk8 (afP _) 0 (.slice A5 m5 c5)) (by decide) (by decide) (by decide) (by decide) (by decide)).kt (Kt.cell (base:=0) (hk8.bP 0 (.slice A5 m5 c5)) (afP _) 1 (.slice A6 m6 c6)) (by decide) (by decide) (by decide) (by decide) (by decide)
 rw[qC]at aN;have bH:=ah h9.1;have bg:=ah h9.2;have kK:=ah aN
 have bf:=ah (abT _ _ _ _ (aN.yC (Cy.TY HS.out).ok) (ac4 _));have D8:=ah qC
 have d0:=hk8.cell 0;have d1:=hk8.cell 1;have e0:=hk8.frozen 0;have e1:=hk8.frozen 1
 clear a0 a1 f0 f1 g8 b8 hk8 hb8 qC h9 aN HC Xe jC
 go_upto_region 16 with fail
 rw[D8.out];clear D8 d0 d1 e0 e1;obtain⟨a0,a1⟩:=cells2 bH.out;go_wp2_with fail
 refine bf.mono ?_;rintro e w10 ⟨rfl,b10⟩;have hk10:=bH.below b10 bH.lt
 have aeC:=bg.trans (b10.mono bg.size);have kX:=ah (hk10.failed aeC)
 have Xf:=ah (((kK.below b10).kt (Kt.cell (base:=0) hk10 (afP _) 0 (.slice A5 m5 c5)) (by decide) (by decide) (by decide) (by decide) (by decide)).kt (Kt.cell (base:=0) (hk10.bP 0 (.slice A5 m5 c5)) (afP _) 1 (.slice A6 m6 c6)) (by decide) (by decide) (by decide) (by decide) (by decide))
 clear a0 a1 bf bH kK b10;obtain⟨a0,a1⟩:=cells2 hk10;have f0:=hk10.frozen 0
 have f1:=hk10.frozen 1;obtain⟨E,hE⟩:=aj ((Gr.check (Gr.canon g)).1);rw[hE]
 have BM:=Eh.out;rw[hE]at BM;clear hk10 aeC hE Eh;by_cases hE0:E=0
 ·subst hE0
  obtain rfl:R=(Gr.canon g,0):=BM.symm;go_wp2_with fail
  exact pW rfl (by simp) (by simp) (kX.out _ _).1 ⟨_,rfl,Xf.lower hwr,(kX.out _ _).2⟩
 obtain rfl:R=(Gr.G0,E):=by rw[adk hE0]at BM;exact BM.symm
 have hne:((E:Int) !=0)=true:=by simp;omega
 go_wp2_with fail
 exact pW rfl (by simp) (by simp) (kX.out _ _).1 ⟨_,rfl,dR.G0 _ _,(kX.out _ _).2⟩
end Go.Proofs.YtkdakckjafomhaaGreatDoor
namespace Go.Proofs.YtkdakckjafomhaaGreatDoor
open Go.RowKit
theorem ab3 (B:Nat) (Ak Ap:Option Addr) (ck cp n:Nat) (keys:List (List UInt8)) (ps:List Gr.P) (w:World) (hk:Reads w B 1 Ak n (keys.map ST)) (hp:bY w B 6 (aX w B) Ap ps) (hn:n<=1048576)
  (hks:keys.Pairwise (· < ·)) (hkd:keys.Nodup) (hm: ∀p∈ps,p.key∈keys) (hd:(ps.map Gr.P.key).Nodup) (hok: ∀p∈ps,uF p/\ak.check p.val=0) (hpl:ps.length<=1073741824) (hB:B<=w.heap.size) (hL:Laid w):
  Calls Tryz.prog 25 #[.slice Ak n ck,.slice Ap ps.length cp] w fun e w'=> ∃v,e=.returned v/\w'.ownsRow w.heap.size 9 1 v n ((keys.map (Tb.iC ps)).map ST)/\Below w.heap.size w w':=by
 obtain⟨pn,hpn⟩:=aj ps.length;rw[hpn]at hpl⊢;have hkl:=vk hk
 obtain⟨i0,hi,hz0,hz1,hz2⟩:=info_parts pR;have HI:=ah hi
 have HZ:=ah (And.intro hz0 (And.intro hz1 hz2));have o9:=ah hk;have cZ:=ah hp
 have HKS:=ah hks;have vN:=ah hkd;have HM:=ah hm;have HD:=ah hd;have aV:=ah hok
 have dh:=ah hB;have HL:=ah hL;have dY:=ah hpn;have vP:=ah hkl;have HN:=ah hn
 clear hk hp hks hkd hm hd hok hB hL hpn hkl hi hz0 hz1 hz2
 go_enter Tryz.func25,Tryz.ntmps25
 go_wp2_with (at_make;refine wpList_make_full _ rfl (.tmp 11) (.tmp 11) 34 rfl w.heap.size 9 i0 (.string ⟨#[]⟩) 1 Tryz.underlying34 HI.out HZ.out.1 HZ.out.2.1 .i64 .i64 n n n rfl rfl rfl rfl (by rw[HZ.out.2.2];have:=HN.out;omega) (by unfold maxLen;have:=HN.out;omega) (ac4 _) ?_)
 intro W1 ho1 hg1
 have vV:=ah (show W1.ownsRow w.heap.size 9 1 (.slice (some ⟨w.heap.size,0,none⟩) n n) n ((keys.map (Tb.iC [])).map ST) by
  rw[ajI,vP.out,List.map_replicate];rw[toList_madeCells_one]at ho1
  exact ho1)
 have HB1:=ah (show Below w.heap.size w W1 from⟨hg1.os,hg1.tape,hg1.output,hg1.size,fun k hk=>hg1.block k hk (by simp)⟩)
 clear ho1 hg1 HI HZ hn;go_wp2_with fail
 go_loopg [15] pn (fun q x wr=> ∃k:Nat,x=.int .i64 k/\k+q=pn/\Below w.heap.size w wr/\wr.ownsRow w.heap.size 9 1 (.slice (some ⟨w.heap.size,0,none⟩) n n) n ((keys.map (Tb.iC (ps.take k))).map ST))
 case atStart=>exact⟨0,rfl,by omega,HB1.out,vV.out⟩
 obtain⟨k,rfl,hk,hb,ho⟩:=hrel;have HB:=ah hb;have HO:=ah ho;have HK:=ah hk
 clear hb ho HB1 vV;cases gk with
 |zero=>
  obtain rfl:k=pn:=by omega
  have HF:=ah (show wr.ownsRow w.heap.size 9 1 (.slice (some ⟨w.heap.size,0,none⟩) n n) n ((keys.map (Tb.iC ps)).map ST) by
   have h:=HO.out
   rwa [ado (by rw[dY.out];exact ac4 _)]at h)
  clear hk;go_wp2;go_ret;exact⟨_,rfl,HF.out,HB.out⟩
 |succ q=>
  have hkn:k<pn:=by omega
  have dH:(k:Int)<pn:=by omega
  obtain⟨p,hpk⟩: ∃p,ps[k]?=some p:=⟨_,dF (by rw[dY.out];exact hkn)⟩
  have hpm:=adI hpk;have htk:ps.take (k+1)=ps.take k++[p]:=by rw[ae3,hpk];rfl
  obtain⟨pb,off,cs,rfl,hpb,⟨An,cn,At,ct,rfl,r1,r2⟩,-,hcl⟩:=cZ.out k p hpk
  have aeD:=adW hpb dh.out
  have hcell:=fun(j:Nat) u (hu:([ST p.key,.int .i64 p.val.kind,.int .i64 p.val.num,ST p.val.text,.slice An p.val.nums.length cn,.slice At p.val.texts.length ct]:List Value)[j]?=some u)=>(HB.cell (p:=⟨pb,off+k*6+j,none⟩) aeD).trans (hcl j u hu)
  have d0:=hcell 0 _ rfl;have d1:=hcell 1 _ rfl;have d2:=hcell 2 _ rfl
  have d3:=hcell 3 _ rfl;have d4:=hcell 4 _ rfl;have d5:=hcell 5 _ rfl;rw[aft]at d0
  obtain⟨zk,pq⟩:=aj (⟨p.key.toArray⟩:ByteArray)
  obtain⟨zt,dU⟩:=aj (⟨p.val.text.toArray⟩:ByteArray)
  have e1:ST p.key=.string zk:=by rw[<-pq];rfl
  have e2:ST p.val.text=.string zt:=by rw[<-dU];rfl
  rw[e1]at d0;rw[e2]at d3
  obtain⟨WN,bQ⟩:=aj (wr.alloc (.cells #[.string zk,.int .i64 p.val.kind,.int .i64 p.val.num,.string zt,.slice An p.val.nums.length cn,.slice At p.val.texts.length ct] 39))
  have hbn:Below wr.heap.size wr WN:=by rw[<-bQ];exact(Below.refl _ _).alloc (ac4 _) _
  obtain⟨nd,hnd⟩:=aj wr.heap.size
  have hk0:au WN nd 39 #[.string zk,.int .i64 p.val.kind,.int .i64 p.val.num,.string zt,.slice An p.val.nums.length cn,.slice At p.val.texts.length ct]:=by rw[<-bQ,<-hnd];exact au.new _ _ _
  have hbN:=HB.trans (hbn.mono HB.size);obtain⟨qo,iV⟩:=aV.out p hpm
  obtain⟨i,hi⟩: ∃i:Nat,keys[i]?=some p.key:=by
   obtain⟨i,hi,e⟩:=afj (HM.out p hpm);exact⟨i,by rw[dF hi,e]⟩
  have hin:i<n:=by rw[<-vP.out];exact(adw.1 hi).1
  have D5:(i:Int)<n:=by omega
  have hse:=ajP (c:=ck) WN (o9.below (hbN.mono dh.out)) HKS.out hi (by have:=HN.out;omega)
  rw[pq]at hse;have pJ:=ah hse
  have aeE:p.key∉(ps.take k).map Gr.P.key:=fun h=>by
   have h1:=HD.out;rw[<-aeN k ps,ad8,aoq,wV hpk,aeR]at h1
   exact h1.2.2 p.key h p.key (agl ..) rfl
  have hset:=ajH vN.out hi aeE;rw[<-htk]at hset;have anX:=ah hset
  have DN:=ah (fun(V:World) (hb:Below w.heap.size w V)=>(show oV V B (.agg #[.int .i64 p.val.kind,.int .i64 p.val.num,.string zt,.slice An p.val.nums.length cn,.slice At p.val.texts.length ct]) p.val by rw[<-e2];exact Df qo.val (r1.below (hb.mono dh.out)) (r2.below (hb.mono dh.out))))
  have aeF:=ah (show ak.rV p.val=(ak.print p.val,0) by unfold ak.rV;rw[adk iV])
  have oC:=ah hk0;have wC:=ah hbN
  have nH:=ah (aW HO.out (dL hbn none) (fun g c t fz hr=>by cases hr))
  have fU:=ah bQ
  clear hpk hpm htk hpb aeD r1 r2 hcl hcell pq dU e1 e2 bQ hbn hk0 hbN qo iV hi hse aeE hset hk
  go_upto_region 5 with fail
  rw[fU.out]
  try rw[hnd]
  clear hnd d0 d1 d2 d3 d4 d5 fU;obtain⟨d0,d1,d2,d3,d4,d5⟩:=FV oC.out;go_wp2_with fail
  refine pJ.mono ?_;rintro e w1 ⟨tb,rfl,b1⟩;have HB1:=ah (wC.trans (b1.mono wC.size))
  have bW:=ah (oC.below b1 oC.lt)
  have vV:=ah (aW nH.out (dL b1 none) (fun g c t fz hr=>by cases hr))
  have hpr:=print_any B _ p.val w1 (DN.out w1 HB1.out) (adg dh.out HB1.size) (HL.below HB1.out)
  rw[aeF.out]at hpr;have HP:=ah hpr;clear b1 d0 d1 d2 d3 d4 d5 hpr pJ DN aeF oC wC nH
  obtain⟨d0,d1,d2,d3,d4,d5⟩:=FV bW.out;go_wp2_with fail;refine HP.mono ?_
  rintro e w2 ⟨rfl,b2⟩;have hb2:=HB1.trans (b2.mono HB1.size)
  have ho2:=aW vV.out (dL b2 none) (fun g c t fz hr=>by cases hr)
  obtain⟨g,e,-,hc,hf,hset⟩:=Ag ho2 (t:=i) (by omega)
  injection e with e
  injection e with e
  subst e
  obtain⟨old,hold⟩: ∃u,((keys.map (Tb.iC (ps.take k))).map ST)[i]?=some u:=⟨_,dF (by simp;rw[vP.out];exact hin)⟩
  rw[hold]at hc;obtain⟨zp,hzp⟩:=aj (⟨(ak.print p.val).toArray⟩:ByteArray)
  have hs2:=hset (.string zp)
  rw[show(Value.string zp)=ST (ak.print p.val) by rw[<-hzp];rfl,<-List.map_set,anX.out]at hs2
  have HS2:=ah hs2
  have HB2:=ah (hb2.setCell (p:=⟨w.heap.size,i,none⟩) (ac4 _) (ST (ak.print p.val)))
  have HST:=ah (show ST (ak.print p.val)=.string zp by rw[<-hzp];rfl)
  rw[hzp];clear hzp hs2 hset hold ho2 hb2 b2 d0 d1 d2 d3 d4 d5 HP bW vV HB1;go_wp2
  go_roundg q
  case measure=>omega
  exact⟨k+1,int_eq (by omega),by have:=HK.out;omega,by rw[<-HST.out];exact HB2.out,by rw[<-HST.out];exact HS2.out⟩
end Go.Proofs.YtkdakckjafomhaaGreatDoor
namespace Go.Proofs.YtkdakckjafomhaaGreatDoor.Tb
open Go
def ab4 (ks:List L) (ns:List Gr.N):List (List L):=(iQ++ks) :: ns.map (iD ks)
def ab5 (ks:List L) (ns:List Gr.R):List (List L):=(iR++ks) :: ns.map (iE ks)
end Go.Proofs.YtkdakckjafomhaaGreatDoor.Tb
namespace Go.Proofs.YtkdakckjafomhaaGreatDoor
open Go.RowKit
theorem ab6 {α:Type} (f:α->Nat) (c:Nat): ∀l:List α,(∀a∈l,f a<=c)->(l.map f).sum<=c*l.length
 |[],_=>by simp
 |a :: r,h=>by
  have:=h a (by simp)
  have:=ab6 f c r fun x hx=>h x (afg _ hx)
  rw[aeR,agb,adQ,aqg,arw];omega
theorem J6 {s:List UInt8} (h:Gr.bC s=true):s.length<=40:=by
 unfold Gr.bC at h;simp only[aeW,aei]at h;exact h.1.1.2
theorem akT {v:ak.V} (h:ak.check v=0) (hn: ∀n∈v.nums,ak.In64 n) (h0:ak.In64 v.num):(ak.print v).length<=6*Gr.mQ v+28:=by
 obtain⟨p1,p2,p3,p4,p5,p6,p7,p8⟩:=ak.EO h;unfold ak.Unused at p3;simp only[aox]at p3
 obtain⟨u1,u2,u3,u4⟩:=p3
 have e1:(ak.letter v.kind).length<=3:=by unfold ak.letter;split<;>simp
 unfold ak.print Gr.mQ;simp only[adf,aeM];by_cases h4:v.kind<4
 ·rw[adk h4,adk h4]
  have ht:v.text=[]:=Decidable.not_not.1 fun e=>u2 ⟨e,by omega⟩
  have hnn:v.nums=[]:=Decidable.not_not.1 fun e=>u3 ⟨e,by omega⟩
  have htn:v.texts=[]:=Decidable.not_not.1 fun e=>u4 ⟨e,by omega⟩
  have:=O7 v.kind v.num h0;rw[ht,hnn,htn];simp only[ae8,amX]
  split<;>omega
 rw[ade h4,ade h4];by_cases h5:v.kind=4
 ·have hnn:v.nums=[]:=Decidable.not_not.1 fun e=>u3 ⟨e,by omega⟩
  have htn:v.texts=[]:=Decidable.not_not.1 fun e=>u4 ⟨e,by omega⟩
  rw[adk h5,hnn,htn];simp only[ae8,amX];omega
 rw[ade h5];have ht:v.text=[]:=Decidable.not_not.1 fun e=>u2 ⟨e,by omega⟩
 rw[ht];by_cases h8:v.kind=8
 ·have hnn:v.nums=[]:=Decidable.not_not.1 fun e=>u3 ⟨e,by omega⟩
  rw[hnn]
  have hs: ∀l:List ak.L,(l.flatMap ak.textE).length<=2*(l.map fun t=>2+t.length).sum:=by
   intro l
   induction l with
   |nil=>simp
   |cons a r ih=>
    have:=ZF a;rw[ae2,adf,aeR,agb];unfold ak.textE at ih⊢;rw[adf,aeM];omega
  have:=hs v.texts;simp only[ae8,amX,anv];omega
 have htn:v.texts=[]:=Decidable.not_not.1 fun e=>u4 ⟨e,by omega⟩
 rw[htn];simp only[ae8,amX,afX,List.sum_nil]
 have hs: ∀(c:Nat) (l:List Int),(∀n∈l,(ak.iZ (v.kind - 4) n).length<=c)->(l.flatMap (ak.iZ (v.kind - 4))).length<=c*l.length:=by
  intro c l
  induction l with
  |nil=>simp
  |cons a r ih=>
   intro h;have:=h a (by simp)
   have:=ih fun n hn=>h n (by simp[hn])
   rw[ae2,adf,adQ,aqg];omega
 by_cases h5:v.kind=5
 ·rw[adk h5]
  have:=hs 6 v.nums fun n _=>by
   unfold ak.iZ ak.gK;rw[h5,ade (by decide),ade (by decide)]
   split<;>decide
  omega
 rw[ade h5]
 have:=hs 25 v.nums fun n hm=>by
  have:=O7 (v.kind - 4) n (hn n hm);unfold ak.iZ;rw[adf,aeM];omega
 omega
theorem akU {a:List (List UInt8)}: ∀{b:List (List UInt8)},a.Nodup->(∀x∈a,x∈b)->a.length<=b.length:=by
 induction a with
 |nil=>intro b _ _;simp
 |cons x r ih=>
  intro b hn hs;rw[ars]at hn;have hx:x∈b:=hs x (by simp)
  have:=ih (b:=b.erase x) hn.2 fun y hy=>(List.mem_erase_of_ne (a:=y) (b:=x) (fun e=>hn.1 (by rw[<-e];exact hy))).2 (hs y (by simp[hy]))
  rw[List.length_erase_of_mem hx]at this;have:=List.length_pos_of_mem hx;rw[adQ];omega
theorem fields_sum (ps:List Gr.P): ∀ks:List (List UInt8),((ks.map (Tb.iC ps)).map fun f=>2*f.length+3).sum=3*ks.length+2*((ks.filterMap fun k=>ps.find? fun p=>decide (p.key=k)).map fun p=>(ak.print p.val).length).sum
 |[]=>rfl
 |k :: ks=>by
  have ih:=fields_sum ps ks;rw[aeR,aeR,agb,ih,anY,adQ];unfold Tb.iC
  cases hf:ps.find? (fun p=>decide (p.key=k)) with
  |none=>simp only[ae8];omega
  |some p=>simp only[aeR,agb];omega
theorem ab7: ∀ps:List Gr.P,(∀p∈ps,Cy.Fa p)->(ps.map fun p=>(ak.print p.val).length).sum<=28*ps.length+6*Gr.bT ps
 |[],_=>by simp
 |p :: r,h=>by
  have ih:=ab7 r fun x hx=>h x (afg _ hx)
  have hp:=h p (by simp)
  have:=akT hp.val.ck hp.val.nums hp.val.num;unfold Gr.bT at ih⊢
  rw[aeR,agb,adQ,aeR,agb,aqg,aqg];omega
theorem Io: ∀ls:List (List UInt8),(∀l∈ls,l.length<=40)->(Tb.lT ls).length<=41*ls.length
 |[],_=>by simp[Tb.lT]
 |[a],h=>by have:=h a (by simp);simp only[Tb.lT,aeM];omega
 |a :: b :: r,h=>by
  have:=h a (by simp)
  have:=Io (b :: r) fun x hx=>h x (afg _ hx)
  rw[Tb.lT,adf,adQ,adQ,aqg];omega
theorem vG (a:List UInt8) (r:List (List UInt8)):ay.wRow (a :: r)=2*a.length+3+ay.wRow r:=by unfold ay.wRow;rw[aeR,agb];omega
theorem ab8 {ps all:List Gr.P} (hg: ∀p∈ps,Cy.Fa p) (hu:ps.Pairwise fun a b=>a.key<b.key) (hd:(ps.map Gr.P.key).Nodup) (hm: ∀p∈ps,p∈all) (hl:ps.length<=16):ay.wRow ((Tb.keysOf all).map (Tb.iC ps))<=3*(Tb.keysOf all).length+898+12*Gr.bT ps:=by
 unfold ay.wRow
 rw[fields_sum,Tb.aaV hu hd (Tb.Dh all) (Tb.Um all) fun p hp=>Tb.Fb.2 (afQ (f:=Gr.P.key) (hm p hp))]
 have:=ab7 ps hg;omega
theorem U6 (r:List (List UInt8)) (rs:List (List (List UInt8))):ay.oJ (r :: rs)=ay.wRow r+ay.oJ rs:=by unfold ay.oJ;rw[aeR,agb]
theorem U7 {α:Type} (f:α->List (List UInt8)) (q:α->List Gr.P) (c:Nat): ∀l:List α,(∀a∈l,ay.wRow (f a)<=c+12*Gr.bT (q a))->ay.oJ (l.map f)<=c*l.length+12*Gr.bT (l.flatMap q)
 |[],_=>by simp[ay.oJ]
 |a :: r,h=>by
  have h1:=h a (by simp)
  have ih:=U7 f q c r fun x hx=>h x (afg _ hx)
  unfold Gr.bT at h1 ih⊢;rw[aeR,U6,ae2,ad8,List.sum_append,adQ,aqg,arw];omega
theorem P8 {g:Gr.G} (h:Gr.Good g):(Tb.bU g).length<=200/\(Tb.bV g).length<=200:=by
 have h3:=h.names.2.2
 have hs: ∀ps:List Gr.P,(∀p∈ps,p∈Gr.dX g)->(Tb.keysOf ps).length<=200:=fun ps hp=>
  adg (akU (Tb.Dh ps) fun x hx=>by
   obtain⟨p,hm,rfl⟩:=afK.1 (Tb.Fb.1 hx)
   exact Gr.E9.2 (afQ (f:=Gr.P.key) (hp p hm))) h3
 exact⟨hs _ fun p hp=>anB _ hp,hs _ fun p hp=>aom _ hp⟩
theorem ab9 {ks:List (List UInt8)} (h: ∀k∈ks,k.length<=40):ay.wRow ks<=83*ks.length+2:=by
 have:=ab6 (fun f:List UInt8=>2*f.length+3) 83 ks fun k hk=>by have:=h k hk;show 2*k.length+3<=83;omega
 exact Nat.add_le_add_right this 2
theorem akV {g:Gr.G} (h:Cy.Fine g) {n:Gr.N} (hn:n∈g.nodes):ay.wRow (Tb.iD (Tb.bU g) n)<=2300+12*Gr.bT n.props:=by
 have hk:=(P8 h.good).1;obtain⟨_,hg⟩:=h.good.nodes.mem hn;have hf:=h.node hn
 have hs:=ab8 (all:=g.nodes.flatMap Gr.N.props) hf.good.props (Cy.Ip hg.props) hf.keys (fun p hp=>ae9.2 ⟨n,hn,hp⟩) hg.props.len
 have hi:=JK (n:=n.id) (by have:=hf.good.lo;omega) (by have:=hf.good.hi;omega)
 have hj:=Io n.labels fun l hl=>J6 (hf.good.labels l hl)
 have hl:=hg.labels.len;unfold Tb.iD;rw[vG,vG];unfold Tb.bU at hk⊢;omega
theorem akW {g:Gr.G} (h:Cy.Fine g) {n:Gr.R} (hn:n∈g.aA):ay.wRow (Tb.iE (Tb.bV g) n)<=1800+12*Gr.bT n.props:=by
 have hk:=(P8 h.good).2;obtain⟨_,hg⟩:=h.good.aA.mem hn;have hf:=h.rel hn
 have hs:=ab8 (all:=g.aA.flatMap Gr.R.props) hf.good.props (Cy.Ip hg.props) hf.keys (fun p hp=>ae9.2 ⟨n,hn,hp⟩) hg.props.len
 have hi:=JK (n:=n.id) (by have:=hf.good.lo;omega) (by have:=hf.good.hi;omega)
 have hi2:=JK (n:=n.src) (by have:=hf.good.VN;omega) (by have:=hf.good.VO;omega)
 have hi3:=JK (n:=n.dst) (by have:=hf.good.VP;omega) (by have:=hf.good.VQ;omega)
 have hj:=J6 hg.name;unfold Tb.iE;rw[vG,vG,vG,vG];unfold Tb.bV at hk⊢;omega
theorem acd {a b:List (List UInt8)} (h:a.Perm b):ay.wRow a=ay.wRow b:=by
 unfold ay.wRow;rw[(h.map _).sum_nat]
theorem ace {a b:List Gr.P} (h:a.Perm b):Gr.bT a=Gr.bT b:=by
 unfold Gr.bT;rw[(h.map _).sum_nat]
theorem akX {g:Gr.G} (h:Cy.Fine g) {kn kr:List (List UInt8)} {ns:List Gr.N} {rs:List Gr.R} (pk:kn.Perm (Tb.bU g)) (pr:kr.Perm (Tb.bV g)) (pn:ns.Perm g.nodes) (ps:rs.Perm g.aA):
  ay.oJ (Tb.ab4 kn ns)<=8388608/\ay.oJ (Tb.ab5 kr rs)<=8388608:=by
 have hk:=P8 h.good;have hw:=h.good.weight
 have h6:Gr.weight g=Gr.bT (g.nodes.flatMap Gr.N.props)+Gr.bT (g.aA.flatMap Gr.R.props):=by
  unfold Gr.weight Gr.dX Gr.bT;rw[ad8,List.sum_append]
 have hkg:=Tb.Ur h;have l1:=pk.length_eq;have l2:=pr.length_eq
 constructor
 ·have hh:=ab9 fun k hk=>J6 (hkg.1 k (pk.mem_iff.1 hk))
  have hr:=U7 (Tb.iD kn) Gr.N.props 2300 ns fun n hn=>by
   rw[acd (show(Tb.iD kn n).Perm (Tb.iD (Tb.bU g) n) from((pk.map _).cons _).cons _)]
   exact akV h (pn.mem_iff.1 hn)
  rw[ace (pn.flatMap_right Gr.N.props),pn.length_eq]at hr;have hn:=h.good.nodes.len
  have h1:ay.wRow (Tb.iQ++kn)=(2*3+3)+((2*6+3)+ay.wRow kn):=by
   show ay.wRow (Tb.ID :: Tb.LABEL :: kn)=_
   rw[vG,vG];rfl
  unfold Tb.ab4;rw[U6];omega
 have hh:=ab9 fun k hk=>J6 (hkg.2 k (pr.mem_iff.1 hk))
 have hr:=U7 (Tb.iE kr) Gr.R.props 1800 rs fun n hn=>by
  rw[acd (show(Tb.iE kr n).Perm (Tb.iE (Tb.bV g) n) from((((pr.map _).cons _).cons _).cons _).cons _)]
  exact akW h (ps.mem_iff.1 hn)
 rw[ace (ps.flatMap_right Gr.R.props),ps.length_eq]at hr;have hn:=h.good.aA.len
 have h1:ay.wRow (Tb.iR++kr)=(2*3+3)+((2*6+3)+((2*4+3)+((2*5+3)+ay.wRow kr))):=by
  show ay.wRow (Tb.ID :: Tb.START :: Tb.ENDS :: Tb.TYPE :: kr)=_
  rw[vG,vG,vG,vG];rfl
 unfold Tb.ab5;rw[U6];omega
theorem akY {g:Gr.G} (h:Cy.Fine g):ay.oJ (Tb.zh g)<=8388608/\ay.oJ (Tb.zo g)<=8388608:=akX h (anN _) (anN _) (anN _) (anN _)
end Go.Proofs.YtkdakckjafomhaaGreatDoor
namespace Go.Proofs.YtkdakckjafomhaaGreatDoor
open Go
def Jm:List UInt8:=[58,73,68,44,58,76,65,66,69,76,44,107,13,10,48,44,65,44,105,58,49,13,10,50,44,65,59,66,44,13,10]
def GK:List UInt8:=[58,73,68,44,58,83,84,65,82,84,44,58,69,78,68,44,58,84,89,80,69,13,10,53,44,50,44,48,44,84,13,10]
def wG:Gr.G:=⟨[⟨0,[[65]],[⟨[107],⟨2,1,[],[],[]⟩⟩]⟩,⟨2,[[65],[66]],[]⟩],[⟨5,[84],2,0,[]⟩]⟩
theorem akZ:Tb.bU wG=[[107]]:=List.mergeSort_singleton _
theorem ak0:Tb.bV wG=[]:=aoh
theorem P9:Tb.print wG=(Jm,GK):=by
 unfold Tb.print Tb.zh Tb.zo;rw[akZ,ak0]
 kernel_rfl
theorem acf:(Gr.check wG).1=0:=by kernel_rfl
theorem ak1:Tb.rV wG=((Jm,GK),0):=by unfold Tb.rV;rw[adk acf,P9]
theorem ak2:Cy.Fine wG:=⟨Gr.Pz.1 acf,by
 show∀p∈ [(⟨[107],⟨2,1,[],[],[]⟩⟩:Gr.P)],_
 intro p hp;rw[ael.1 hp]
 exact⟨⟨by decide,by decide⟩,by simp⟩⟩
theorem acg:Tb.parse Jm GK=(wG,0):=by
 have:=Tb.ajw ak2 (by rw[P9];decide) (by rw[P9];decide)
 rwa [P9]at this
theorem ak3:Tb.parse [] GK=(Gr.G0,230):=by kernel_rfl
end Go.Proofs.YtkdakckjafomhaaGreatDoor
