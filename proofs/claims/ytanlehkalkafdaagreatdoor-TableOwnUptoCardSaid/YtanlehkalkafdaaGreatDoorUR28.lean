/- Contracts and plain laws,part 28. -/
import Derived.Test.YtanlehkalkafdaaGreatDoorUR27
import Derived.Laws.OwnMore
set_option maxHeartbeats 64000000
set_option maxRecDepth 1000000
set_option linter.all false
namespace Go.Proofs.YtanlehkalkafdaaGreatDoor
open Go.RowKit
theorem rowsA_len: ∀(n:Nat) (acc:List (List Csv.F)) (l:Csv.F),(Csv.rowsA n acc l).1.length<=acc.length+n
 |0,acc,l=>by simp[Csv.rowsA]
 |n+1,acc,l=>by
  rw[Csv.rowsA]
  split
  ·simp only;omega
  split
  ·rename_i fs r _
   have:=rowsA_len n (acc++[fs]) r;rw[rP,uh]at this;omega
  simp only;omega
theorem rowsOf_len (l:Csv.F):(Csv.rowsOf l).1.length<=l.length+1:=by
 have:=rowsA_len (l.length+1) [] l
 simpa[Csv.rowsOf] using this
theorem nodesP_len {ks:List (List UInt8)} {w:Nat}: ∀(rows:List (List (List UInt8))) (acc ns:List Gr.N),Tb.nodesP ks w rows acc=(ns,0)->ns.length<=acc.length+rows.length
 |[],acc,ns,h=>by rw[Tb.nodesP]at h;cases h;simp
 |row :: r,acc,ns,h=>by
  rw[Tb.nodesP]at h
  split at h
  ·cases h
  split at h
  ·cases h
  split at h
  ·cases h
  split at h
  ·rename_i h0;have:=uo Prod.snd h;exact absurd this h0
  split at h
  ·rename_i h0;have:=uo Prod.snd h;exact absurd this h0
  have:=nodesP_len r _ ns h;simp only[rP,uO,sS]at this⊢;omega
theorem nodesOf_len {rows:List (List (List UInt8))} {ns:List Gr.N} (h:Tb.nodesOf rows=(ns,0)):ns.length<=rows.length:=by
 unfold Tb.nodesOf at h
 split at h
 ·cases h
 have:=nodesP_len _ _ _ h;simp only[uO,List.length_tail]at this;omega
section
variable {W W':World} {B base T:Nat} {v:Value}
theorem OwnRows.kt {rows:List (List Csv.F)} (h:OwnRows W B v rows) (hk:Kt T base W W') (h1:45≠T) (h2:9≠T):OwnRows W' B v rows:=by
 obtain⟨us,e1,e2,e3,e4⟩:=h
 exact⟨us,e1,own_kt e2 hk h1,fun k u r hu hr=>own_kt (e3 k u r hu hr) hk h2,e4⟩
theorem NodesOwn.kt {ns:List Gr.N} (h:NodesOwn W B v ns) (hk:Kt T base W W') (h1:2≠T) (h2:9≠T) (h3:53≠T) (h4:48≠T):NodesOwn W' B v ns:=by
 obtain⟨ln,e1,e2,e3⟩:=h;exact⟨ln,e1,fun x hx=>(e2 x hx).kt hk h1 h2 h3,own_kt e3 hk h4⟩
theorem RelsOwn.kt {rs:List Gr.R} (h:RelsOwn W B v rs) (hk:Kt T base W W') (h1:2≠T) (h2:9≠T) (h3:53≠T) (h4:55≠T):RelsOwn W' B v rs:=by
 obtain⟨ln,e1,e2,e3⟩:=h;exact⟨ln,e1,fun x hx=>(e2 x hx).kt hk h1 h2 h3,own_kt e3 hk h4⟩
end
theorem gown_of {W:World} {B1 B2 B:Nat} {vn vr:Value} {ns:List Gr.N} {rs:List Gr.R} (hn:NodesOwn W B1 vn ns) (hr:RelsOwn W B2 vr rs) (h1:B<=B1) (h2:B<=B2):GOwn W B (.agg #[vn,vr]) ⟨ns,rs⟩:=by
 obtain⟨ln,a1,a2,a3⟩:=hn;obtain⟨lr,c1,c2,c3⟩:=hr
 refine⟨vn,vr,ln,lr,rfl,a1,fun x hx=> ?_,own_lower a3 h1,c1,fun x hx=> ?_,own_lower c3 h2⟩
 ·obtain⟨s,t,e,o1,o2⟩:=a2 x hx
  exact⟨s,t,e,own_lower o1 h1,o2.base h1⟩
 obtain⟨t,e,o2⟩:=c2 x hx;exact⟨t,e,o2.base h2⟩
theorem made_dist {ns:List Gr.N} {rs:List Gr.R} (hn:Tb.Ns ns) (hr:Tb.Rs rs):Dist ⟨ns,rs⟩:=⟨hn.nd,hr.nd,fun n h=>(hn.sz n h).2,fun n h=>(hr.sz n h).2⟩
theorem iZ (s t:ByteArray) (hs:s.size<=1073741823) (ht:t.size<=1073741823) (w:World) (hL: ∀V,Below w.heap.size w V->Laid V):
  Calls Tryz.prog 14 #[.string s,.string t] w (ParseRes w (Tb.parse s.data.toList t.data.toList)):=by
 obtain⟨R,hR⟩:=aj (Tb.parse s.data.toList t.data.toList);rw[hR];unfold Tb.parse at hR
 rw[<-Lib.size_eq s,<-Lib.size_eq t]at hR;obtain⟨gb,hgb⟩:=aj w.heap.size
 obtain⟨W1,hW1⟩:=aj (w.alloc (.cells #[.slice none 0 0,.slice none 0 0] 25))
 have hb1:Below w.heap.size w W1:=hW1▸(Below.refl _ w).alloc (rM _) _
 have hk1:Blk W1 w.heap.size 25 #[.slice none 0 0,.slice none 0 0]:=hW1▸Blk.new _ _ _
 have HL:=ah hL;have HW1:=ah hW1;have HB1:=ah hb1;have HK1:=ah hk1
 have gB:=ah (hk1.failed hb1);obtain⟨a0,a1⟩:=cells2 hk1;have f0:=hk1.frozen 0
 have f1:=hk1.frozen 1;by_cases hs1:16777216<s.size
 ·rw[rY (.inl hs1)]at hR
  subst hR;have hsI:(16777216:Int)<s.size:=by omega
  clear hL hW1 hb1 hk1 hgb hs ht;go_enter Tryz.func14,Tryz.ntmps14
  go_upto_region 1 with fail
  rw[HW1.out];clear HW1;go_wp2_with fail
  exact ret_gr2 rfl (by simp) (by simp) (gB.out _ _).1 ⟨_,rfl,GOwn.G0 _ _,(gB.out _ _).2⟩
 have hsI:(s.size:Int)<=16777216:=by omega
 by_cases ht1:16777216<t.size
 ·rw[rY (.inr ht1)]at hR
  subst hR;have htI:(16777216:Int)<t.size:=by omega
  clear hL hW1 hb1 hk1 hgb hs ht hs1;go_enter Tryz.func14,Tryz.ntmps14
  go_upto_region 1 with fail
  rw[HW1.out];clear HW1;go_wp2_with fail
  exact ret_gr2 rfl (by simp) (by simp) (gB.out _ _).1 ⟨_,rfl,GOwn.G0 _ _,(gB.out _ _).2⟩
 rw[rU (fun h=>h.elim hs1 ht1)]at hR
 have htI:(t.size:Int)<=16777216:=by omega
 obtain⟨la,hla⟩:=aj s.data.toList;obtain⟨lb,hlb⟩:=aj t.data.toList
 have hal:la.length<=16777216:=by rw[<-hla,<-Lib.size_eq];omega
 have hbl:lb.length<=16777216:=by rw[<-hlb,<-Lib.size_eq];omega
 have hcs:=csvParse_any s (by omega) W1
 have hct:=fun(V:World)=>csvParse_any t (by omega) V
 rw[hla]at hcs hR;rw[hlb]at hct hR;have HRA:=ah (Tb.rows_row hal)
 have HRB:=ah (Tb.rows_row hbl);have jL:=rowsOf_len la;have jM:=rowsOf_len lb
 obtain⟨ra,hra⟩:=aj (Csv.rowsOf la);obtain⟨rb,hrb⟩:=aj (Csv.rowsOf lb)
 obtain⟨ra,ea⟩:=ra;obtain⟨rb,eb⟩:=rb;unfold CsvRes at hcs hct;rw[hra]at hcs hR HRA jL
 rw[hrb]at hct hR HRB jM;simp only at hcs hct hR HRA HRB jL jM;have aU:=ah hcs
 have mW:=ah hct;have HR:=ah hR;have mX:=ah (show ra.length<=16777217 by omega)
 have pR:=ah (show rb.length<=16777217 by omega)
 clear hcs hct hR hra hrb hL hW1 hb1 hk1 hla hlb hal hbl hs1 ht1 hs ht jL jM hgb gb
 go_enter Tryz.func14,Tryz.ntmps14
 go_upto_region 1 with fail
 rw[HW1.out];clear HW1;go_wp2_with fail;refine aU.mono ?_;rintro e w2 ⟨v,rfl,b2,hv⟩
 have HK2:=ah (HK1.below b2 HK1.lt);have HB2:=ah (HB1.trans (b2.mono HB1.size))
 have HF2:=ah (HK2.failed HB2.out);clear a0 a1 f0 f1 b2 aU gB
 obtain⟨a0,a1⟩:=cells2 HK2.out;have f0:=HK2.frozen 0;have f1:=HK2.frozen 1
 have hR1:=HR.out;by_cases hea:ea=0
 case neg=>
  rw[rY hea]at hR1;subst hR1;have t1:((ea:Int) !=0)=true:=by rw[tH];omega
  clear hv hea;go_wp2_with fail
  exact ret_gr2 rfl (by simp) (by simp) (HF2.out _ _).1 ⟨_,rfl,GOwn.G0 _ _,(HF2.out _ _).2⟩
 subst hea;rw[rY rfl]at hv;rw[rU (by simp)]at hR1
 have HV:=ah hv;have HR2:=ah hR1;clear hv hR1 HR;go_wp2_with fail
 refine(mW.out w2).mono ?_;rintro e w3 ⟨v',rfl,b3,hv⟩;have HK3:=ah (HK2.below b3 HK2.lt)
 have HB3:=ah (HB2.trans (b3.mono HB2.size));have HF3:=ah (HK3.failed HB3.out)
 have mY:=ah (HV.kt (Kt.of_below (T:=0) (base:=0) b3 (wG _)) (by decide) (by decide))
 clear a0 a1 f0 f1 b3 mW HF2 HK2 HV;obtain⟨a0,a1⟩:=cells2 HK3.out;have f0:=HK3.frozen 0
 have f1:=HK3.frozen 1;have hR1:=HR2.out;by_cases heb:eb=0
 case neg=>
  rw[rY heb]at hR1;subst hR1;have t1:((eb:Int) !=0)=true:=by rw[tH];omega
  clear hv heb;go_wp2_with fail
  exact ret_gr2 rfl (by simp) (by simp) (HF3.out _ _).1 ⟨_,rfl,GOwn.G0 _ _,(HF3.out _ _).2⟩
 subst heb;rw[rY rfl]at hv;rw[rU (by simp)]at hR1
 have mZ:=ah hv;have HR3:=ah hR1;have jh:=Rows2.of_own mY.out
 obtain⟨A1,c1,rfl,-,-⟩:=jh.form;obtain⟨n1,hn1⟩:=aj ra.length;rw[hn1]at jh
 have hpn:=oK w3.heap.size A1 n1 c1 ra w3 jh hn1 (by rw[<-hn1];exact mX.out) HRA.out (rM _) (HL.out _ HB3.out)
 obtain⟨Q,hQ⟩:=aj (Tb.nodesOf ra);obtain⟨ns,en⟩:=Q;rw[hQ]at hpn;rw[hQ]at hR1
 simp only at hR1;have HPN:=ah hpn
 have HNZ:=ah (show en=0->Tb.Ns ns/\ns.length<=16777217 from fun h=>by
  subst h
  exact⟨Tb.nodesOf_sz hQ HRA.out,rV (nodesOf_len hQ) mX.out⟩)
 have HR4:=ah hR1;rw[hn1];clear hv hR1 jh hpn hQ hn1 HR2 HR3;go_wp2_with fail
 refine HPN.mono ?_;rintro e w4 ⟨vn,rfl,on,b4⟩;obtain⟨A2,c2,rfl⟩:=on.form
 obtain⟨n2,hn2⟩:=aj ns.length;rw[hn2]at on⊢;have hk4:=HK3.below b4 HK3.lt
 have hb4:=HB3.trans (b4.mono HB3.size)
 obtain⟨W5,hW5⟩:=aj (w4.setCell ⟨w.heap.size,0,none⟩ (.slice A2 n2 c2))
 have hkt:=Kt.cell (base:=0) hk4 (wG _) 0 (.slice A2 n2 c2);rw[hW5]at hkt
 have HK5:=ah (show Blk W5 w.heap.size 25 #[.slice A2 n2 c2,.slice none 0 0] by rw[<-hW5];simpa using hk4.set_ 0 (.slice A2 n2 c2))
 have HB5:=ah (show Below w.heap.size w W5 by rw[<-hW5];exact hb4.setCell (p:=⟨w.heap.size,0,none⟩) (rM _) _)
 have jO:=ah (on.kt hkt (by decide) (by decide) (by decide) (by decide))
 have HV5:=ah ((mZ.kt (Kt.of_below (T:=0) (base:=0) b4 (wG _)) (by decide) (by decide)).kt hkt (by decide) (by decide))
 have jP:=ah (HK5.failed HB5.out);have HW5:=ah hW5
 have HZ3:=ah (show w.heap.size<=w3.heap.size from HB3.size)
 have HZ5:=ah (show w3.heap.size<=W5.heap.size by rw[<-hW5];exact rV b4.size (by simp[World.setCell]))
 have d0:=hk4.cell 0;have e0:=hk4.frozen 0;have HN2:=ah hn2
 clear a0 a1 f0 f1 b4 on hk4 hb4 hW5 hkt hn2 HPN HF3 HK3 mY mZ
 go_upto_region 10 with fail
 rw[HW5.out];clear HW5 d0 e0;obtain⟨a0,a1⟩:=cells2 HK5.out;have f0:=HK5.frozen 0
 have f1:=HK5.frozen 1;have hR1:=HR4.out;by_cases hen:en=0
 case neg=>
  rw[rY hen]at hR1;subst hR1;have t1:((en:Int) !=0)=true:=by rw[tH];omega
  clear hen;go_wp2_with fail
  exact ret_gr2 rfl (by simp) (by simp) (jP.out _ _).1 ⟨_,rfl,GOwn.G0 _ _,(jP.out _ _).2⟩
 subst hen;rw[rU (by simp)]at hR1
 obtain⟨hNs,hNl⟩:=HNZ.out rfl;have jk:=Rows2.of_own HV5.out
 obtain⟨A3,c3,rfl,-,-⟩:=jk.form;obtain⟨n3,hn3⟩:=aj rb.length;rw[hn3]at jk
 have hpr:=parseRels_any W5.heap.size w3.heap.size A3 A2 n3 c3 n2 c2 rb ns W5 jk hn3 (by rw[<-hn3];exact pR.out) HRB.out (rM _) jO.out HN2.out (by rw[<-HN2.out];exact hNl) (fun n hn=>(hNs.sz n hn).1.ok.id) (HL.out _ HB5.out)
 obtain⟨Q,hQ⟩:=aj (Tb.relsOf (ns.map Gr.N.id) rb);obtain⟨rs,er⟩:=Q;rw[hQ]at hpr hR1
 simp only at hR1;have HPR:=ah hpr
 have jQ:=ah (show er=0->Tb.Rs rs from fun h=>by subst h;exact Tb.relsOf_sz hQ HRB.out)
 have HNS:=ah hNs;have HR5:=ah hR1;rw[hn3];clear hR1 jk hpr hQ hn3 hNs hNl HR4 HNZ
 go_wp2_with fail;refine HPR.mono ?_;rintro e w6 ⟨vr,rfl,jl,b6⟩
 obtain⟨A4,c4,rfl⟩:=jl.form;obtain⟨n4,hn4⟩:=aj rs.length;rw[hn4]at jl⊢
 have hk6:=HK5.below b6 HK5.lt;have hb6:=HB5.trans (b6.mono HB5.size)
 obtain⟨W7,hW7⟩:=aj (w6.setCell ⟨w.heap.size,1,none⟩ (.slice A4 n4 c4))
 have hkt:=Kt.cell (base:=0) hk6 (wG _) 1 (.slice A4 n4 c4);rw[hW7]at hkt
 have HK7:=ah (show Blk W7 w.heap.size 25 #[.slice A2 n2 c2,.slice A4 n4 c4] by rw[<-hW7];simpa using hk6.set_ 1 (.slice A4 n4 c4))
 have HB7:=ah (show Below w.heap.size w W7 by rw[<-hW7];exact hb6.setCell (p:=⟨w.heap.size,1,none⟩) (rM _) _)
 have HG7:=ah (gown_of (B:=w.heap.size) ((jO.kt (Kt.of_below (T:=0) (base:=0) b6 (wG _)) (by decide) (by decide) (by decide) (by decide)).kt hkt (by decide) (by decide) (by decide) (by decide)) (jl.kt hkt (by decide) (by decide) (by decide) (by decide)) HZ3.out (rV HZ3.out HZ5.out))
 have jR:=ah (HK7.failed HB7.out);have HW7:=ah hW7;have d1:=hk6.cell 1
 have e1:=hk6.frozen 1;clear a0 a1 f0 f1 b6 jl hk6 hb6 hW7 hkt hn4 HPR jP HK5 HV5 jO
 go_upto_region 13 with fail
 rw[HW7.out];clear HW7 d1 e1;obtain⟨a0,a1⟩:=cells2 HK7.out;have f0:=HK7.frozen 0
 have f1:=HK7.frozen 1;have hR1:=HR5.out;by_cases her:er=0
 case neg=>
  rw[rY her]at hR1;subst hR1;have t1:((er:Int) !=0)=true:=by rw[tH];omega
  clear her;go_wp2_with fail
  exact ret_gr2 rfl (by simp) (by simp) (jR.out _ _).1 ⟨_,rfl,GOwn.G0 _ _,(jR.out _ _).2⟩
 subst her;rw[rU (by simp)]at hR1
 obtain⟨g,hg⟩: ∃g:Gr.G,g=⟨ns,rs⟩:=⟨_,rfl⟩
 have hsz:Cy.GSz g:=hg▸Tb.made_sz HNS.out (jQ.out rfl)
 have hgo:GOwn W7 w.heap.size (.agg #[.slice A2 n2 c2,.slice A4 n4 c4]) g:=hg▸HG7.out
 have hds:Dist g:=hg▸made_dist HNS.out (jQ.out rfl);rw[<-hg]at hR1
 have HC:=ah (canon_any W7.heap.size _ g W7 (hgo.gin hsz.ok) (rM _) hds);have HS:=ah hsz
 have HR6:=ah hR1;have hwr:=HB7.size;clear hR1 hg hsz hgo hds HR5 HG7 jQ HNS
 go_wp2_with fail;refine HC.mono ?_;rintro e w8 ⟨u8,rfl,g8,b8⟩
 obtain⟨A5,m5,c5,A6,m6,c6,rfl⟩: ∃A n c B m d,u8=.agg #[.slice A n c,.slice B m d]:=by
  obtain⟨sn,sr,ln,lr,rfl,-,-,h3,-,-,h6⟩:=g8;obtain⟨A,c,rfl⟩:=own_form h3
  obtain⟨B,d,rfl⟩:=own_form h6;exact⟨A,_,c,B,_,d,rfl⟩
 have hk8:=HK7.below b8 HK7.lt;have hb8:=HB7.trans (b8.mono HB7.size)
 obtain⟨W9,bD⟩:=aj ((w8.setCell ⟨w.heap.size,0,none⟩ (.slice A5 m5 c5)).setCell ⟨w.heap.size,1,none⟩ (.slice A6 m6 c6))
 have h9:=hk8.failed hb8 (.slice A5 m5 c5) (.slice A6 m6 c6);rw[bD]at h9
 have hg9:=(g8.kt (Kt.cell (base:=0) hk8 (wG _) 0 (.slice A5 m5 c5)) (by decide) (by decide) (by decide) (by decide) (by decide)).kt (Kt.cell (base:=0) (hk8.set_ 0 (.slice A5 m5 c5)) (wG _) 1 (.slice A6 m6 c6)) (by decide) (by decide) (by decide) (by decide) (by decide)
 rw[bD]at hg9;have HK9:=ah h9.1;have HB9:=ah h9.2;have HG9:=ah hg9
 have HCK:=ah (gCheck_any _ _ _ _ (hg9.gin (Cy.canon_sz HS.out).ok) (rM _));have gy:=ah bD
 have d0:=hk8.cell 0;have d1:=hk8.cell 1;have e0:=hk8.frozen 0;have e1:=hk8.frozen 1
 clear a0 a1 f0 f1 g8 b8 hk8 hb8 bD h9 hg9 HC jR HK7
 go_upto_region 16 with fail
 rw[gy.out];clear gy d0 d1 e0 e1;obtain⟨a0,a1⟩:=cells2 HK9.out;go_wp2_with fail
 refine HCK.mono ?_;rintro e w10 ⟨rfl,b10⟩;have hk10:=HK9.below b10 HK9.lt
 have ny:=HB9.trans (b10.mono HB9.size);have HFAIL:=ah (hk10.failed ny)
 have pU:=ah (((HG9.below b10).kt (Kt.cell (base:=0) hk10 (wG _) 0 (.slice A5 m5 c5)) (by decide) (by decide) (by decide) (by decide) (by decide)).kt (Kt.cell (base:=0) (hk10.set_ 0 (.slice A5 m5 c5)) (wG _) 1 (.slice A6 m6 c6)) (by decide) (by decide) (by decide) (by decide) (by decide))
 clear a0 a1 HCK HK9 HG9 b10;obtain⟨a0,a1⟩:=cells2 hk10;have f0:=hk10.frozen 0
 have f1:=hk10.frozen 1;obtain⟨E,hE⟩:=aj ((Gr.check (Gr.canon g)).1);rw[hE]
 have jm:=HR6.out;rw[hE]at jm;clear hk10 ny hE HR6;by_cases hE0:E=0
 ·subst hE0
  obtain rfl:R=(Gr.canon g,0):=jm.symm;go_wp2_with fail
  exact ret_gr2 rfl (by simp) (by simp) (HFAIL.out _ _).1 ⟨_,rfl,pU.lower hwr,(HFAIL.out _ _).2⟩
 obtain rfl:R=(Gr.G0,E):=by rw[rY hE0]at jm;exact jm.symm
 have hne:((E:Int) !=0)=true:=by simp;omega
 go_wp2_with fail
 exact ret_gr2 rfl (by simp) (by simp) (HFAIL.out _ _).1 ⟨_,rfl,GOwn.G0 _ _,(HFAIL.out _ _).2⟩
end Go.Proofs.YtanlehkalkafdaaGreatDoor
namespace Go.Proofs.YtanlehkalkafdaaGreatDoor
open Go.RowKit
theorem lN (B:Nat) (Ak Ap:Option Addr) (ck cp n:Nat) (keys:List (List UInt8)) (ps:List Gr.P) (w:World) (hk:Reads w B 1 Ak n (keys.map ST)) (hp:Lst w B 6 (PropC w B) Ap ps) (hn:n<=1048576)
  (hks:keys.Pairwise (· < ·)) (hkd:keys.Nodup) (hm: ∀p∈ps,p.key∈keys) (hd:(ps.map Gr.P.key).Nodup) (hok: ∀p∈ps,POk p/\Cel.check p.val=0) (hpl:ps.length<=1073741824) (hB:B<=w.heap.size) (hL:Laid w):
  Calls Tryz.prog 24 #[.slice Ak n ck,.slice Ap ps.length cp] w fun e w'=> ∃v,e=.returned v/\w'.ownsRow w.heap.size 9 1 v n ((keys.map (Tb.fieldOf ps)).map ST)/\Below w.heap.size w w':=by
 obtain⟨pn,hpn⟩:=aj ps.length;rw[hpn]at hpl⊢;have hkl:=reads_len hk
 obtain⟨i0,hi,hz0,hz1,hz2⟩:=info_parts info_string;have HI:=ah hi
 have HZ:=ah (And.intro hz0 (And.intro hz1 hz2));have HKR:=ah hk;have HPR:=ah hp
 have pV:=ah hks;have HKD:=ah hkd;have HM:=ah hm;have HD:=ah hd;have HOK:=ah hok
 have HBw:=ah hB;have HL:=ah hL;have HPN:=ah hpn;have HKL:=ah hkl;have HN:=ah hn
 clear hk hp hks hkd hm hd hok hB hL hpn hkl hi hz0 hz1 hz2
 go_enter Tryz.func24,Tryz.ntmps24
 go_wp2_with (at_make;refine wpList_make_full _ rfl (.tmp 11) (.tmp 11) 45 rfl w.heap.size 9 i0 (.string ⟨#[]⟩) 1 Tryz.underlying45 HI.out HZ.out.1 HZ.out.2.1 .i64 .i64 n n n rfl rfl rfl rfl (by rw[HZ.out.2.2];have:=HN.out;omega) (by unfold maxLen;have:=HN.out;omega) (rM _) ?_)
 intro W1 ho1 hg1
 have HO1:=ah (show W1.ownsRow w.heap.size 9 1 (.slice (some ⟨w.heap.size,0,none⟩) n n) n ((keys.map (Tb.fieldOf [])).map ST) by
  rw[fields_nil,HKL.out,List.map_replicate];rw[toList_madeCells_one]at ho1
  exact ho1)
 have HB1:=ah (show Below w.heap.size w W1 from⟨hg1.os,hg1.tape,hg1.output,hg1.size,fun k hk=>hg1.block k hk (by simp)⟩)
 clear ho1 hg1 HI HZ hn;go_wp2_with fail
 go_loopg [15] pn (fun q x wr=> ∃k:Nat,x=.int .i64 k/\k+q=pn/\Below w.heap.size w wr/\wr.ownsRow w.heap.size 9 1 (.slice (some ⟨w.heap.size,0,none⟩) n n) n ((keys.map (Tb.fieldOf (ps.take k))).map ST))
 case atStart=>exact⟨0,rfl,by omega,HB1.out,HO1.out⟩
 obtain⟨k,rfl,hk,hb,ho⟩:=hrel;have HB:=ah hb;have HO:=ah ho;have HK:=ah hk
 clear hb ho HB1 HO1;cases gk with
 |zero=>
  obtain rfl:k=pn:=by omega
  have HF:=ah (show wr.ownsRow w.heap.size 9 1 (.slice (some ⟨w.heap.size,0,none⟩) n n) n ((keys.map (Tb.fieldOf ps)).map ST) by
   have h:=HO.out
   rwa [sG (by rw[HPN.out];exact rM _)]at h)
  clear hk;go_wp2;go_ret;exact⟨_,rfl,HF.out,HB.out⟩
 |succ q=>
  have hkn:k<pn:=by omega
  have hknI:(k:Int)<pn:=by omega
  obtain⟨p,hpk⟩: ∃p,ps[k]?=some p:=⟨_,ay (by rw[HPN.out];exact hkn)⟩
  have hpm:=sK hpk;have htk:ps.take (k+1)=ps.take k++[p]:=by rw[uM,hpk];rfl
  obtain⟨pb,off,cs,rfl,hpb,⟨An,cn,At,ct,rfl,r1,r2⟩,-,hcl⟩:=HPR.out k p hpk
  have nC:=sZ hpb HBw.out
  have hcell:=fun(j:Nat) u (hu:([ST p.key,.int .i64 p.val.kind,.int .i64 p.val.num,ST p.val.text,.slice An p.val.nums.length cn,.slice At p.val.texts.length ct]:List Value)[j]?=some u)=>(HB.cell (p:=⟨pb,off+k*6+j,none⟩) nC).trans (hcl j u hu)
  have d0:=hcell 0 _ rfl;have d1:=hcell 1 _ rfl;have d2:=hcell 2 _ rfl
  have d3:=hcell 3 _ rfl;have d4:=hcell 4 _ rfl;have d5:=hcell 5 _ rfl;rw[vw]at d0
  obtain⟨zk,hzk⟩:=aj (⟨p.key.toArray⟩:ByteArray)
  obtain⟨zt,hzt⟩:=aj (⟨p.val.text.toArray⟩:ByteArray)
  have e1:ST p.key=.string zk:=by rw[<-hzk];rfl
  have e2:ST p.val.text=.string zt:=by rw[<-hzt];rfl
  rw[e1]at d0;rw[e2]at d3
  obtain⟨WN,hWN⟩:=aj (wr.alloc (.cells #[.string zk,.int .i64 p.val.kind,.int .i64 p.val.num,.string zt,.slice An p.val.nums.length cn,.slice At p.val.texts.length ct] 53))
  have hbn:Below wr.heap.size wr WN:=by rw[<-hWN];exact(Below.refl _ _).alloc (rM _) _
  obtain⟨nd,hnd⟩:=aj wr.heap.size
  have hk0:Blk WN nd 53 #[.string zk,.int .i64 p.val.kind,.int .i64 p.val.num,.string zt,.slice An p.val.nums.length cn,.slice At p.val.texts.length ct]:=by rw[<-hWN,<-hnd];exact Blk.new _ _ _
  have hbN:=HB.trans (hbn.mono HB.size);obtain⟨hpok,hchk⟩:=HOK.out p hpm
  obtain⟨i,hi⟩: ∃i:Nat,keys[i]?=some p.key:=by
   obtain⟨i,hi,e⟩:=uV (HM.out p hpm);exact⟨i,by rw[ay hi,e]⟩
  have hin:i<n:=by rw[<-HKL.out];exact(rZ.1 hi).1
  have hinI:(i:Int)<n:=by omega
  have hse:=oI (c:=ck) WN (HKR.below (hbN.mono HBw.out)) pV.out hi (by have:=HN.out;omega)
  rw[hzk]at hse;have HSE:=ah hse
  have nD:p.key∉(ps.take k).map Gr.P.key:=fun h=>by
   have h1:=HD.out;rw[<-uz k ps,uf,xR,dQ hpk,tV]at h1
   exact h1.2.2 p.key h p.key (wX ..) rfl
  have hset:=fields_set HKD.out hi nD;rw[<-htk]at hset;have pW:=ah hset
  have HVI:=ah (fun(V:World) (hb:Below w.heap.size w V)=>(show VIn V B (.agg #[.int .i64 p.val.kind,.int .i64 p.val.num,.string zt,.slice An p.val.nums.length cn,.slice At p.val.texts.length ct]) p.val by rw[<-e2];exact vin_of hpok.val (r1.below (hb.mono HBw.out)) (r2.below (hb.mono HBw.out))))
  have nG:=ah (show Cel.printR p.val=(Cel.print p.val,0) by unfold Cel.printR;rw[rY hchk])
  have HK0:=ah hk0;have HBN:=ah hbN
  have HON:=ah (own_kept_ty HO.out (only_of_below hbn none) (fun g c t fz hr=>by cases hr))
  have HWN:=ah hWN
  clear hpk hpm htk hpb nC r1 r2 hcl hcell hzk hzt e1 e2 hWN hbn hk0 hbN hpok hchk hi hse nD hset hk
  go_upto_region 5 with fail
  rw[HWN.out]
  try rw[hnd]
  clear hnd d0 d1 d2 d3 d4 d5 HWN;obtain⟨d0,d1,d2,d3,d4,d5⟩:=cells6 HK0.out
  go_wp2_with fail;refine HSE.mono ?_;rintro e w1 ⟨tb,rfl,b1⟩
  have HB1:=ah (HBN.trans (b1.mono HBN.size));have HK1:=ah (HK0.below b1 HK0.lt)
  have HO1:=ah (own_kept_ty HON.out (only_of_below b1 none) (fun g c t fz hr=>by cases hr))
  have hpr:=print_any B _ p.val w1 (HVI.out w1 HB1.out) (rV HBw.out HB1.size) (HL.below HB1.out)
  rw[nG.out]at hpr;have HP:=ah hpr;clear b1 d0 d1 d2 d3 d4 d5 hpr HSE HVI nG HK0 HBN HON
  obtain⟨d0,d1,d2,d3,d4,d5⟩:=cells6 HK1.out;go_wp2_with fail;refine HP.mono ?_
  rintro e w2 ⟨rfl,b2⟩;have hb2:=HB1.trans (b2.mono HB1.size)
  have ho2:=own_kept_ty HO1.out (only_of_below b2 none) (fun g c t fz hr=>by cases hr)
  obtain⟨g,e,-,hc,hf,hset⟩:=own_setL ho2 (t:=i) (by omega)
  injection e with e
  injection e with e
  subst e
  obtain⟨old,hold⟩: ∃u,((keys.map (Tb.fieldOf (ps.take k))).map ST)[i]?=some u:=⟨_,ay (by simp;rw[HKL.out];exact hin)⟩
  rw[hold]at hc;obtain⟨zp,hzp⟩:=aj (⟨(Cel.print p.val).toArray⟩:ByteArray)
  have hs2:=hset (.string zp)
  rw[show(Value.string zp)=ST (Cel.print p.val) by rw[<-hzp];rfl,<-BF,pW.out]at hs2
  have HS2:=ah hs2
  have HB2:=ah (hb2.setCell (p:=⟨w.heap.size,i,none⟩) (rM _) (ST (Cel.print p.val)))
  have HST:=ah (show ST (Cel.print p.val)=.string zp by rw[<-hzp];rfl)
  rw[hzp];clear hzp hs2 hset hold ho2 hb2 b2 d0 d1 d2 d3 d4 d5 HP HK1 HO1 HB1;go_wp2
  go_roundg q
  case measure=>omega
  exact⟨k+1,int_eq (by omega),by have:=HK.out;omega,by rw[<-HST.out];exact HB2.out,by rw[<-HST.out];exact HS2.out⟩
end Go.Proofs.YtanlehkalkafdaaGreatDoor
namespace Go.Proofs.YtanlehkalkafdaaGreatDoor.Tb
open Go
def pick (ks:List L) (ps:List Gr.P):List Gr.P:=ks.filterMap fun k=>ps.find? fun p=>decide (p.key=k)
def turnN (ks:List L) (n:Gr.N):Gr.N:=⟨n.id,n.labels,pick ks n.props⟩
def turnR (ks:List L) (n:Gr.R):Gr.R:=⟨n.id,n.type,n.src,n.dst,pick ks n.props⟩
theorem pick_perm {ps:List Gr.P} {ks:List L} (hd:(ps.map Gr.P.key).Nodup) (hk:ks.Nodup) (hm: ∀p∈ps,p.key∈ks):(pick ks ps).Perm ps:=by
 refine(yw (nodup_map ((pick_sub ps ks).nodup hk)) (nodup_map hd)).2 fun x=> ?_
 rw[List.mem_filterMap]
 constructor
 ·rintro⟨k,_,h⟩
  exact zH h
 intro h;exact⟨x.key,hm x h,find_own hd h⟩
theorem nodes_turn {ks:List L}: ∀(ns acc:List Gr.N),(∀n∈ns,Cy.NFine n)->((acc++ns).map Gr.N.id).Nodup->nodesP ks (2+ks.length) (ns.map (nodeRow ks)) acc=(acc++ns.map (turnN ks),0)
 |[],acc,_,_=>by rw[uT,nodesP,uT,tC]
 |n :: ns,acc,hn,hd=>by
  have hf:=hn n (by simp)
  have hnd:n.id∉acc.map Gr.N.id:=fun hm=>by
   rw[uf,tV,xR]at hd;exact hd.2.2 _ hm _ (by simp) rfl
  rw[tV,nodesP,rU (by unfold nodeRow;simp;omega)]
  unfold nodeRow;simp only[zK,zL,vF,vX];rw[known_of hf.good.lo hf.good.hi (by decide)]
  simp only
  rw[rU hnd,labels_of hf.good.labels hf.labels,rU (by simp),props_go n.props hf.good.props,rU (by simp)]
  have:=nodes_turn (ks:=ks) ns (acc++[turnN ks n]) (fun x hx=>hn x (uQ _ hx)) (by
   rw[sV,uf] at*
   exact hd)
  rw[tV,show acc++turnN ks n :: ns.map (turnN ks)=acc++[turnN ks n]++ns.map (turnN ks) by rw[sV];rfl]
  exact this
theorem rels_turn {ks:List L} {ids:List Int}: ∀(ns acc:List Gr.R),(∀n∈ns,Cy.RFine n/\n.src∈ids/\n.dst∈ids)->((acc++ns).map Gr.R.id).Nodup->relsP ks (4+ks.length) ids (ns.map (relRow ks)) acc=(acc++ns.map (turnR ks),0)
 |[],acc,_,_=>by rw[uT,relsP,uT,tC]
 |n :: ns,acc,hn,hd=>by
  obtain⟨hf,hsrc,hdst⟩:=hn n (by simp)
  have hnd:n.id∉acc.map Gr.R.id:=fun hm=>by
   rw[uf,tV,xR]at hd;exact hd.2.2 _ hm _ (by simp) rfl
  rw[tV,relsP,rU (by unfold relRow;simp;omega)]
  unfold relRow;simp only[zK,zL,vF,vX];rw[known_of hf.good.lo hf.good.hi (by decide)]
  simp only
  rw[rU hnd,end_of hf.good.slo hf.good.shi hsrc,end_of hf.good.dlo hf.good.dhi hdst]
  simp only
  rw[rU (by rw[hf.good.name];decide),props_go n.props hf.good.props,rU (by simp)]
  have:=rels_turn (ks:=ks) (ids:=ids) ns (acc++[turnR ks n]) (fun x hx=>hn x (uQ _ hx)) (by
   rw[sV,uf] at*
   exact hd)
  rw[tV,show acc++turnR ks n :: ns.map (turnR ks)=acc++[turnR ks n]++ns.map (turnR ks) by rw[sV];rfl]
  exact this
def rowsNT (ks:List L) (ns:List Gr.N):List (List L):=(headN++ks) :: ns.map (nodeRow ks)
def rowsRT (ks:List L) (ns:List Gr.R):List (List L):=(headR++ks) :: ns.map (relRow ks)
theorem rowsT_ne (kn kr:List L) (ns:List Gr.N) (rs:List Gr.R): []∉rowsNT kn ns/\ []∉rowsRT kr rs:=by
 constructor
 ·unfold rowsNT headN nodeRow
  intro h
  rcases uD.1 h with e|e
  ·cases e
  obtain⟨n,_,e⟩:=uU.1 e;cases e
 unfold rowsRT headR relRow;intro h
 rcases uD.1 h with e|e
 ·cases e
 obtain⟨n,_,e⟩:=uU.1 e;cases e
theorem canon_turn {g:Gr.G} (h:Cy.Fine g) {kn kr:List L} {ns:List Gr.N} {rs:List Gr.R} (pk:kn.Perm (keysN g)) (pr:kr.Perm (keysR g)) (pn:ns.Perm g.nodes) (ps:rs.Perm g.rels):Gr.canon ⟨ns.map (turnN kn),rs.map (turnR kr)⟩=g:=by
 have e1:(ns.map (turnN kn)).map Gr.canonNode=ns:=by
  rw[vV,xA (g:=id) fun n hx=> ?_,zo]
  have hn:=pn.mem_iff.1 hx;obtain⟨_,hg⟩:=h.good.nodes.mem hn
  have hp:=pick_perm (ks:=kn) (h.node hn).keys (pk.nodup_iff.2 (keys_nodup _)) fun p hp=>pk.mem_iff.2 (keys_mem.2 (uX (f:=Gr.P.key) (uF.2 ⟨n,hn,hp⟩)))
  have hc:=(h.node hn).canon
  show Gr.N.mk n.id (Gr.canonLabels n.labels) (Gr.canonProps (pick kn n.props))=n
  rw[show Gr.canonProps (pick kn n.props)=n.props from Cy.sort_str hp (Cy.keys_up hg.props),show Gr.canonLabels n.labels=n.labels from uo Gr.N.labels hc]
 have e2:(rs.map (turnR kr)).map Gr.canonRel=rs:=by
  rw[vV,xA (g:=id) fun n hx=> ?_,zo]
  have hn:=ps.mem_iff.1 hx;obtain⟨_,hg⟩:=h.good.rels.mem hn
  have hp:=pick_perm (ks:=kr) (h.rel hn).keys (pr.nodup_iff.2 (keys_nodup _)) fun p hp=>pr.mem_iff.2 (keys_mem.2 (uX (f:=Gr.P.key) (uF.2 ⟨n,hn,hp⟩)))
  show Gr.R.mk n.id n.type n.src n.dst (Gr.canonProps (pick kr n.props))=n
  rw[show Gr.canonProps (pick kr n.props)=n.props from Cy.sort_str hp (Cy.keys_up hg.props)]
 unfold Gr.canon
 rw[e1,e2,Cy.sort_int pn (Cy.nodes_up h.good.nodes),Cy.sort_int ps (Cy.rels_up h.good.rels)]
theorem parse_turned {g:Gr.G} (h:Cy.Fine g) {kn kr:List L} {ns:List Gr.N} {rs:List Gr.R} (pk:kn.Perm (keysN g)) (pr:kr.Perm (keysR g)) (pn:ns.Perm g.nodes) (ps:rs.Perm g.rels)
  (ha:((rowsNT kn ns).flatMap Csv.printRow).length<=16777216) (hb:((rowsRT kr rs).flatMap Csv.printRow).length<=16777216):parse ((rowsNT kn ns).flatMap Csv.printRow) ((rowsRT kr rs).flatMap Csv.printRow)=(g,0):=by
 have e1:Csv.rowsOf ((rowsNT kn ns).flatMap Csv.printRow)=(rowsNT kn ns,0):=Csv.rows_print _ (rowsT_ne kn kr ns rs).1
 have e2:Csv.rowsOf ((rowsRT kr rs).flatMap Csv.printRow)=(rowsRT kr rs,0):=Csv.rows_print _ (rowsT_ne kn kr ns rs).2
 have hnd:(ns.map Gr.N.id).Nodup:=(pn.map _).nodup_iff.2 (Cy.lt_nodup (lt:=fun a b=>a<b) (fun a=>Int.lt_irrefl a) (Cy.nodes_up h.good.nodes))
 have hrd:(rs.map Gr.R.id).Nodup:=(ps.map _).nodup_iff.2 (Cy.lt_nodup (lt:=fun a b=>a<b) (fun a=>Int.lt_irrefl a) (Cy.rels_up h.good.rels))
 have e3:nodesOf (rowsNT kn ns)=(ns.map (turnN kn),0):=by
  unfold nodesOf rowsNT
  rw[head_of (fun k hk=>(keys_good h).1 k (pk.mem_iff.1 hk)) (pk.nodup_iff.2 (keys_nodup _))]
  exact nodes_turn ns [] (fun n hn=>h.node (pn.mem_iff.1 hn)) (by simpa using hnd)
 have hids:(ns.map (turnN kn)).map Gr.N.id=ns.map Gr.N.id:=by rw[vV];rfl
 have e4:relsOf ((ns.map (turnN kn)).map Gr.N.id) (rowsRT kr rs)=(rs.map (turnR kr),0):=by
  unfold relsOf rowsRT
  rw[hids,head_of (fun k hk=>(keys_good h).2 k (pr.mem_iff.1 hk)) (pr.nodup_iff.2 (keys_nodup _))]
  refine rels_turn rs [] (fun n hn=> ?_) (by simpa using hrd)
  have hm:=ps.mem_iff.1 hn;obtain⟨_,hg⟩:=h.good.rels.mem hm
  exact⟨h.rel hm,(pn.map Gr.N.id).mem_iff.2 hg.src,(pn.map Gr.N.id).mem_iff.2 hg.dst⟩
 have e5:(Gr.check g).1=0:=Gr.check_good.2 h.good;unfold parse;rw[rU (by omega),e1,e2]
 simp only;rw[rU (by simp),rU (by simp),e3]
 simp only;rw[rU (by simp),e4]
 simp only;rw[rU (by simp),canon_turn h pk pr pn ps,e5,rU (by simp)]
def swapK {α:Type} (ks:List α) (i j:Nat):List α:=
 match ks[i]?,ks[j]? with
 |some a,some b=>(ks.set i b).set j a
 |_,_=>ks
theorem swapK_perm {α:Type} (ks:List α) (i j:Nat):(swapK ks i j).Perm ks:=by
 unfold swapK
 split
 ·rename_i a b ha hb
  obtain⟨hi,rfl⟩:=rZ.1 ha;obtain⟨hj,rfl⟩:=rZ.1 hb;exact List.set_set_perm hi hj
 exact wB _
theorem swap_at {α β:Type} (f:α->β) (pre:List β) (ks:List α) {m i j:Nat} {a b:α} (hm:pre.length=m) (ha:ks[i]?=some a) (hb:ks[j]?=some b):
  (pre++ks.map f)[m+i]?=some (f a)/\(pre++ks.map f)[m+j]?=some (f b)/\((pre++ks.map f).set (m+i) (f b)).set (m+j) (f a)=pre ++(swapK ks i j).map f:=by
 subst hm;refine⟨?_, ?_, ?_⟩
 ·rw[uI (by omega),xq,tu,ha];rfl
 ·rw[uI (by omega),xq,tu,hb];rfl
 unfold swapK;rw[ha,hb,xB _ _ (by omega),xq,xB _ _ (by omega),xq]
 simp only;rw[BF,BF]
end Go.Proofs.YtanlehkalkafdaaGreatDoor.Tb
namespace Go.Proofs.YtanlehkalkafdaaGreatDoor
open Go.RowKit
theorem tb_sum_le {α:Type} (f:α->Nat) (c:Nat): ∀l:List α,(∀a∈l,f a<=c)->(l.map f).sum<=c*l.length
 |[],_=>by simp
 |a :: r,h=>by
  have:=h a (by simp)
  have:=tb_sum_le f c r fun x hx=>h x (uQ _ hx)
  rw[tV,vO,sS,zV,Nat.mul_one];omega
theorem tb_name_len {s:List UInt8} (h:Gr.goodName s=true):s.length<=40:=by
 unfold Gr.goodName at h;simp only[uy,tX]at h;exact h.1.1.2
theorem cel_enc {v:Cel.V} (h:Cel.check v=0) (hn: ∀n∈v.nums,Cel.In64 n) (h0:Cel.In64 v.num):(Cel.print v).length<=6*Gr.encLen v+28:=by
 obtain⟨p1,p2,p3,p4,p5,p6,p7,p8⟩:=Cel.check_parts h;unfold Cel.Unused at p3
 simp only[yS]at p3;obtain⟨u1,u2,u3,u4⟩:=p3
 have e1:(Cel.letter v.kind).length<=3:=by unfold Cel.letter;split<;>simp
 unfold Cel.print Gr.encLen;simp only[rP,uh];by_cases h4:v.kind<4
 ·rw[rY h4,rY h4]
  have ht:v.text=[]:=Decidable.not_not.1 fun e=>u2 ⟨e,by omega⟩
  have hnn:v.nums=[]:=Decidable.not_not.1 fun e=>u3 ⟨e,by omega⟩
  have htn:v.texts=[]:=Decidable.not_not.1 fun e=>u4 ⟨e,by omega⟩
  have:=numS_len v.kind v.num h0;rw[ht,hnn,htn];simp only[uO,wM]
  split<;>omega
 rw[rU h4,rU h4];by_cases h5:v.kind=4
 ·have hnn:v.nums=[]:=Decidable.not_not.1 fun e=>u3 ⟨e,by omega⟩
  have htn:v.texts=[]:=Decidable.not_not.1 fun e=>u4 ⟨e,by omega⟩
  rw[rY h5,hnn,htn];simp only[uO,wM];omega
 rw[rU h5];have ht:v.text=[]:=Decidable.not_not.1 fun e=>u2 ⟨e,by omega⟩
 rw[ht];by_cases h8:v.kind=8
 ·have hnn:v.nums=[]:=Decidable.not_not.1 fun e=>u3 ⟨e,by omega⟩
  rw[hnn]
  have hs: ∀l:List Cel.L,(l.flatMap Cel.textE).length<=2*(l.map fun t=>2+t.length).sum:=by
   intro l
   induction l with
   |nil=>simp
   |cons a r ih=>
    have:=escT_len a;rw[uK,rP,tV,vO];unfold Cel.textE at ih⊢;rw[rP,uh];omega
  have:=hs v.texts;simp only[uO,wM,BD];omega
 have htn:v.texts=[]:=Decidable.not_not.1 fun e=>u4 ⟨e,by omega⟩
 rw[htn];simp only[uO,wM,uT,List.sum_nil]
 have hs: ∀(c:Nat) (l:List Int),(∀n∈l,(Cel.numE (v.kind - 4) n).length<=c)->(l.flatMap (Cel.numE (v.kind - 4))).length<=c*l.length:=by
  intro c l
  induction l with
  |nil=>simp
  |cons a r ih=>
   intro h;have:=h a (by simp)
   have:=ih fun n hn=>h n (by simp[hn])
   rw[uK,rP,sS,zV];omega
 by_cases h5:v.kind=5
 ·rw[rY h5]
  have:=hs 6 v.nums fun n _=>by
   unfold Cel.numE Cel.numS;rw[h5,rU (by decide),rU (by decide)]
   split<;>decide
  omega
 rw[rU h5]
 have:=hs 25 v.nums fun n hm=>by
  have:=numS_len (v.kind - 4) n (hn n hm);unfold Cel.numE;rw[rP,uh];omega
 omega
theorem nodup_len {a:List (List UInt8)}: ∀{b:List (List UInt8)},a.Nodup->(∀x∈a,x∈b)->a.length<=b.length:=by
 induction a with
 |nil=>intro b _ _;simp
 |cons x r ih=>
  intro b hn hs;rw[CJ]at hn;have hx:x∈b:=hs x (by simp)
  have:=ih (b:=b.erase x) hn.2 fun y hy=>(List.mem_erase_of_ne (a:=y) (b:=x) (fun e=>hn.1 (by rw[<-e];exact hy))).2 (hs y (by simp[hy]))
  rw[List.length_erase_of_mem hx]at this;have:=List.length_pos_of_mem hx;rw[sS];omega
theorem printRow_len (r:List (List UInt8)):(Csv.printRow r).length<=Csv.wRow r:=by
 have:=Csv.fieldsK_length r 0;unfold Csv.printRow;rw[rP];exact this
theorem fields_sum (ps:List Gr.P): ∀ks:List (List UInt8),((ks.map (Tb.fieldOf ps)).map fun f=>2*f.length+3).sum=3*ks.length+2*((ks.filterMap fun k=>ps.find? fun p=>decide (p.key=k)).map fun p=>(Cel.print p.val).length).sum
 |[]=>rfl
 |k :: ks=>by
  have ih:=fields_sum ps ks;rw[tV,tV,vO,ih,Bz,sS];unfold Tb.fieldOf
  cases hf:ps.find? (fun p=>decide (p.key=k)) with
  |none=>simp only[uO];omega
  |some p=>simp only[tV,vO];omega
theorem props_sum: ∀ps:List Gr.P,(∀p∈ps,Cy.PGood p)->(ps.map fun p=>(Cel.print p.val).length).sum<=28*ps.length+6*Gr.weightOf ps
 |[],_=>by simp
 |p :: r,h=>by
  have ih:=props_sum r fun x hx=>h x (uQ _ hx)
  have hp:=h p (by simp)
  have:=cel_enc hp.val.ck hp.val.nums hp.val.num;unfold Gr.weightOf at ih⊢
  rw[tV,vO,sS,tV,vO,zV,zV];omega
theorem labels_len: ∀ls:List (List UInt8),(∀l∈ls,l.length<=40)->(Tb.joinS ls).length<=41*ls.length
 |[],_=>by simp[Tb.joinS]
 |[a],h=>by have:=h a (by simp);simp only[Tb.joinS,uh];omega
 |a :: b :: r,h=>by
  have:=h a (by simp)
  have:=labels_len (b :: r) fun x hx=>h x (uQ _ hx)
  rw[Tb.joinS,rP,sS,sS,zV];omega
theorem wRow_cons (a:List UInt8) (r:List (List UInt8)):Csv.wRow (a :: r)=2*a.length+3+Csv.wRow r:=by unfold Csv.wRow;rw[tV,vO];omega
theorem row_sum {ps all:List Gr.P} (hg: ∀p∈ps,Cy.PGood p) (hu:ps.Pairwise fun a b=>a.key<b.key) (hd:(ps.map Gr.P.key).Nodup) (hm: ∀p∈ps,p∈all) (hl:ps.length<=16):Csv.wRow ((Tb.keysOf all).map (Tb.fieldOf ps))<=3*(Tb.keysOf all).length+898+12*Gr.weightOf ps:=by
 unfold Csv.wRow
 rw[fields_sum,Tb.pick_eq hu hd (Tb.keys_nodup all) (Tb.keys_sorted all) fun p hp=>Tb.keys_mem.2 (uX (f:=Gr.P.key) (hm p hp))]
 have:=props_sum ps hg;omega
theorem wRows_c (r:List (List UInt8)) (rs:List (List (List UInt8))):Csv.wRows (r :: rs)=Csv.wRow r+Csv.wRows rs:=by unfold Csv.wRows;rw[tV,vO]
theorem printRows_len: ∀rs:List (List (List UInt8)),(rs.flatMap Csv.printRow).length<=Csv.wRows rs
 |[]=>by simp
 |r :: rs=>by
  have h1:=printRow_len r;have ih:=printRows_len rs;rw[uK,rP,wRows_c];omega
theorem rows_enc {α:Type} (f:α->List (List UInt8)) (q:α->List Gr.P) (c:Nat): ∀l:List α,(∀a∈l,Csv.wRow (f a)<=c+12*Gr.weightOf (q a))->Csv.wRows (l.map f)<=c*l.length+12*Gr.weightOf (l.flatMap q)
 |[],_=>by simp[Csv.wRows]
 |a :: r,h=>by
  have h1:=h a (by simp)
  have ih:=rows_enc f q c r fun x hx=>h x (uQ _ hx)
  unfold Gr.weightOf at h1 ih⊢;rw[tV,wRows_c,uK,uf,List.sum_append,sS,zV,Nat.mul_one]
  omega
theorem names_sub {g:Gr.G} (h:Gr.Good g):(Tb.keysN g).length<=200/\(Tb.keysR g).length<=200:=by
 have h3:=h.names.2.2
 have hs: ∀ps:List Gr.P,(∀p∈ps,p∈Gr.allProps g)->(Tb.keysOf ps).length<=200:=fun ps hp=>
  rV (nodup_len (Tb.keys_nodup ps) fun x hx=>by
   obtain⟨p,hm,rfl⟩:=uU.1 (Tb.keys_mem.1 hx)
   exact Gr.mem_dedup.2 (uX (f:=Gr.P.key) (hp p hm))) h3
 exact⟨hs _ fun p hp=>wZ _ hp,hs _ fun p hp=>yB _ hp⟩
theorem head_sum {ks:List (List UInt8)} (h: ∀k∈ks,k.length<=40):Csv.wRow ks<=83*ks.length+2:=by
 have:=tb_sum_le (fun f:List UInt8=>2*f.length+3) 83 ks fun k hk=>by have:=h k hk;show 2*k.length+3<=83;omega
 exact Nat.add_le_add_right this 2
theorem nrow_len {g:Gr.G} (h:Cy.Fine g) {n:Gr.N} (hn:n∈g.nodes):Csv.wRow (Tb.nodeRow (Tb.keysN g) n)<=2300+12*Gr.weightOf n.props:=by
 have hk:=(names_sub h.good).1;obtain⟨_,hg⟩:=h.good.nodes.mem hn;have hf:=h.node hn
 have hs:=row_sum (all:=g.nodes.flatMap Gr.N.props) hf.good.props (Cy.keys_up hg.props) hf.keys (fun p hp=>uF.2 ⟨n,hn,hp⟩) hg.props.len
 have hi:=itoa_len20 (n:=n.id) (by have:=hf.good.lo;omega) (by have:=hf.good.hi;omega)
 have hj:=labels_len n.labels fun l hl=>tb_name_len (hf.good.labels l hl)
 have hl:=hg.labels.len;unfold Tb.nodeRow;rw[wRow_cons,wRow_cons];unfold Tb.keysN at hk⊢
 omega
theorem rrow_len {g:Gr.G} (h:Cy.Fine g) {n:Gr.R} (hn:n∈g.rels):Csv.wRow (Tb.relRow (Tb.keysR g) n)<=1800+12*Gr.weightOf n.props:=by
 have hk:=(names_sub h.good).2;obtain⟨_,hg⟩:=h.good.rels.mem hn;have hf:=h.rel hn
 have hs:=row_sum (all:=g.rels.flatMap Gr.R.props) hf.good.props (Cy.keys_up hg.props) hf.keys (fun p hp=>uF.2 ⟨n,hn,hp⟩) hg.props.len
 have hi:=itoa_len20 (n:=n.id) (by have:=hf.good.lo;omega) (by have:=hf.good.hi;omega)
 have hi2:=itoa_len20 (n:=n.src) (by have:=hf.good.slo;omega) (by have:=hf.good.shi;omega)
 have hi3:=itoa_len20 (n:=n.dst) (by have:=hf.good.dlo;omega) (by have:=hf.good.dhi;omega)
 have hj:=tb_name_len hg.name;unfold Tb.relRow
 rw[wRow_cons,wRow_cons,wRow_cons,wRow_cons];unfold Tb.keysR at hk⊢;omega
theorem wRow_perm {a b:List (List UInt8)} (h:a.Perm b):Csv.wRow a=Csv.wRow b:=by
 unfold Csv.wRow;rw[(h.map _).sum_nat]
theorem weight_perm {a b:List Gr.P} (h:a.Perm b):Gr.weightOf a=Gr.weightOf b:=by
 unfold Gr.weightOf;rw[(h.map _).sum_nat]
theorem table_wT {g:Gr.G} (h:Cy.Fine g) {kn kr:List (List UInt8)} {ns:List Gr.N} {rs:List Gr.R} (pk:kn.Perm (Tb.keysN g)) (pr:kr.Perm (Tb.keysR g)) (pn:ns.Perm g.nodes) (ps:rs.Perm g.rels):
  Csv.wRows (Tb.rowsNT kn ns)<=8388608/\Csv.wRows (Tb.rowsRT kr rs)<=8388608:=by
 have hk:=names_sub h.good;have hw:=h.good.weight
 have h6:Gr.weight g=Gr.weightOf (g.nodes.flatMap Gr.N.props)+Gr.weightOf (g.rels.flatMap Gr.R.props):=by
  unfold Gr.weight Gr.allProps Gr.weightOf;rw[uf,List.sum_append]
 have hkg:=Tb.keys_good h;have l1:=pk.length_eq;have l2:=pr.length_eq
 constructor
 ·have hh:=head_sum fun k hk=>tb_name_len (hkg.1 k (pk.mem_iff.1 hk))
  have hr:=rows_enc (Tb.nodeRow kn) Gr.N.props 2300 ns fun n hn=>by
   rw[wRow_perm (show(Tb.nodeRow kn n).Perm (Tb.nodeRow (Tb.keysN g) n) from((pk.map _).cons _).cons _)]
   exact nrow_len h (pn.mem_iff.1 hn)
  rw[weight_perm (pn.flatMap_right Gr.N.props),pn.length_eq]at hr
  have hn:=h.good.nodes.len
  have h1:Csv.wRow (Tb.headN++kn)=(2*3+3)+((2*6+3)+Csv.wRow kn):=by
   show Csv.wRow (Tb.ID :: Tb.LABEL :: kn)=_
   rw[wRow_cons,wRow_cons];rfl
  unfold Tb.rowsNT;rw[wRows_c];omega
 have hh:=head_sum fun k hk=>tb_name_len (hkg.2 k (pr.mem_iff.1 hk))
 have hr:=rows_enc (Tb.relRow kr) Gr.R.props 1800 rs fun n hn=>by
  rw[wRow_perm (show(Tb.relRow kr n).Perm (Tb.relRow (Tb.keysR g) n) from((((pr.map _).cons _).cons _).cons _).cons _)]
  exact rrow_len h (ps.mem_iff.1 hn)
 rw[weight_perm (ps.flatMap_right Gr.R.props),ps.length_eq]at hr
 have hn:=h.good.rels.len
 have h1:Csv.wRow (Tb.headR++kr)=(2*3+3)+((2*6+3)+((2*4+3)+((2*5+3)+Csv.wRow kr))):=by
  show Csv.wRow (Tb.ID :: Tb.START :: Tb.ENDS :: Tb.TYPE :: kr)=_
  rw[wRow_cons,wRow_cons,wRow_cons,wRow_cons];rfl
 unfold Tb.rowsRT;rw[wRows_c];omega
theorem table_lenT {g:Gr.G} (h:Cy.Fine g) {kn kr:List (List UInt8)} {ns:List Gr.N} {rs:List Gr.R} (pk:kn.Perm (Tb.keysN g)) (pr:kr.Perm (Tb.keysR g)) (pn:ns.Perm g.nodes) (ps:rs.Perm g.rels):
  ((Tb.rowsNT kn ns).flatMap Csv.printRow).length<=8388608/\((Tb.rowsRT kr rs).flatMap Csv.printRow).length<=8388608:=
 have hw:=table_wT h pk pr pn ps
 ⟨rV (printRows_len _) hw.1,rV (printRows_len _) hw.2⟩
theorem table_w {g:Gr.G} (h:Cy.Fine g):Csv.wRows (Tb.rowsN g)<=8388608/\Csv.wRows (Tb.rowsR g)<=8388608:=table_wT h (wB _) (wB _) (wB _) (wB _)
theorem table_len {g:Gr.G} (h:Cy.Fine g):(Tb.print g).1.length<=8388608/\(Tb.print g).2.length<=8388608:=table_lenT h (wB _) (wB _) (wB _) (wB _)
end Go.Proofs.YtanlehkalkafdaaGreatDoor
namespace Go.Proofs.YtanlehkalkafdaaGreatDoor
open Go
def TBN:List UInt8:=[58,73,68,44,58,76,65,66,69,76,44,107,13,10,48,44,65,44,105,58,49,13,10,50,44,65,59,66,44,13,10]
def TBR:List UInt8:=[58,73,68,44,58,83,84,65,82,84,44,58,69,78,68,44,58,84,89,80,69,13,10,53,44,50,44,48,44,84,13,10]
def tbG:Gr.G:=⟨[⟨0,[[65]],[⟨[107],⟨2,1,[],[],[]⟩⟩]⟩,⟨2,[[65],[66]],[]⟩],[⟨5,[84],2,0,[]⟩]⟩
theorem tb_keysN:Tb.keysN tbG=[[107]]:=List.mergeSort_singleton _
theorem tb_keysR:Tb.keysR tbG=[]:=yQ
theorem tb_print:Tb.print tbG=(TBN,TBR):=by
 unfold Tb.print Tb.rowsN Tb.rowsR;rw[tb_keysN,tb_keysR]
 kernel_rfl
theorem tb_check:(Gr.check tbG).1=0:=by kernel_rfl
theorem tb_printR:Tb.printR tbG=((TBN,TBR),0):=by unfold Tb.printR;rw[rY tb_check,tb_print]
theorem tb_fine:Cy.Fine tbG:=⟨Gr.check_good.1 tb_check,by
 show∀p∈ [(⟨[107],⟨2,1,[],[],[]⟩⟩:Gr.P)],_
 intro p hp;rw[ug.1 hp]
 exact⟨⟨by decide,by decide⟩,by simp⟩⟩
theorem tb_parse:Tb.parse TBN TBR=(tbG,0):=by
 have:=Tb.parse_print tb_fine (by rw[tb_print];decide) (by rw[tb_print];decide)
 rwa [tb_print]at this
theorem tb_parse0:Tb.parse [] TBR=(Gr.G0,230):=by kernel_rfl
theorem right_table {g:Gr.G} (h:Cy.Fine g):Gr.check g=(0,0)/\Tb.printR g=(Tb.print g,0)/\(Tb.print g).1.length<=8388608/\(Tb.print g).2.length<=8388608/\Tb.parse (Tb.print g).1 (Tb.print g).2=(g,0):=by
 have hc:(Gr.check g).1=0:=Gr.check_good.2 h.good;have hl:=table_len h
 refine⟨Gr.check_place hc, ?_,hl.1,hl.2,Tb.parse_print h (by omega) (by omega)⟩
 unfold Tb.printR;rw[rY hc]
end Go.Proofs.YtanlehkalkafdaaGreatDoor
