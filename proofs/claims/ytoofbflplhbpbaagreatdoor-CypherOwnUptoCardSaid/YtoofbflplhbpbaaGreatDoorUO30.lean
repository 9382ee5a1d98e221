/- Contracts and plain laws,part 30. -/
import Derived.Test.YtoofbflplhbpbaaGreatDoorUO28
import Derived.Lib.AppendStr
set_option maxHeartbeats 64000000
set_option maxRecDepth 1000000
set_option linter.all false
namespace Go.Proofs.YtoofbflplhbpbaaGreatDoor
open Go.RowKit
theorem cZ.node {W:World} {B:Nat} {A:Option Addr} {l:List Gr.N} (h:cZ W B 3 (gZ W B) A l) {k:Nat} {n:Gr.N} (hk:l[k]?=some n): ∃b o Al cl Ap cp,A=some ⟨b,o,none⟩/\b<B/\
  (W.cell? ⟨b,o+k*3,none⟩=some (.int .i64 n.id)/\W.cell? ⟨b,o+k*3+1,none⟩=some (.slice Al n.labels.length cl)/\W.cell? ⟨b,o+k*3+2,none⟩=some (.slice Ap n.props.length cp))/\
  Reads W B 1 Al n.labels.length (n.labels.map ST)/\cZ W B 6 (aQ W B) Ap n.props:=by
 obtain ⟨b,o,cs,hA,hb,⟨Al,cl,Ap,cp,rfl,h1,h2⟩,-,hc⟩:=h k n hk
 exact ⟨b,o,Al,cl,Ap,cp,hA,hb,⟨hc 0 _ rfl,hc 1 _ rfl,hc 2 _ rfl⟩,h1,h2⟩
theorem aiV (B:Nat) (A:Option Addr) (c:Nat) (ns:List Gr.N) (k:Nat) (n:Gr.N) (w:World) (h:cZ w B 3 (gZ w B) A ns) (hB:B<=w.heap.size) (hl:ns.length<=1073741824) (hs: ∀n∈ns,DW n) (hk:ns[k]?=some n):
  Calls Tryz.prog 77 #[.slice A ns.length c, .int .i64 (k:Int)] w fun e w'=>e= .returned (.int .i64 (Gr.iI (Gr.aG Gr.N.id ns k) n:Nat))/\Below w.heap.size w w':=by
 obtain ⟨R,hR⟩: ∃R,Gr.iI (Gr.aG Gr.N.id ns k) n=R:=⟨_,rfl⟩;rw [hR];unfold Gr.iI at hR
 have hok:=hs n (acf hk);have hkl:k<ns.length:=(acy.1 hk).1
 obtain ⟨m,hm⟩: ∃m,ns.length=m:=⟨_,rfl⟩;rw [hm] at hl hkl⊢
 obtain ⟨b,o,Al,cl,Ap,cp,rfl,hbB,⟨c0,c1,c2⟩,r1,r2⟩:=h.node hk;obtain ⟨kL,OY,ps0⟩:=n
 simp only at hR c0 c1 c2 r1 r2
 obtain ⟨W1,hW1⟩: ∃W1,w.alloc (.cells #[.int .i64 kL, .slice Al OY.length cl, .slice Ap ps0.length cp] 59)=W1:=⟨_,rfl⟩
 have hb1:Below w.heap.size w W1:=by rw [<-hW1];exact (Below.refl _ w).alloc (ab1 _) _
 have k1:aj W1 w.heap.size 59 #[.int .i64 kL, .slice Al OY.length cl, .slice Ap ps0.length cp]:=by rw [<-hW1];exact aj.new _ _ _
 have HD:=ah (cells3 k1);have hBm:=hb1.mono hB
 have zY:=ah (fun (q:Nat)=>ahQ B Al cl OY (W1.drewN q) ((r1.below hBm).below (below_drewN (Below.refl B W1) q)) hok.ll hok.ls)
 have dG:=ah (fun (q:Nat)=>aae B Ap cp ps0 (W1.drewN q) ((r2.below hBm (aQ.below hBm)).below (below_drewN (Below.refl B W1) q) (aQ.below (below_drewN (Below.refl B W1) q))) (ab5 hB hb1.size) hok.pl hok.ps)
 obtain ⟨LV,hLV⟩: ∃x,Gr.uj OY=x:=⟨_,rfl⟩;obtain ⟨PV,KF⟩: ∃x,Gr.dV ps0=x:=⟨_,rfl⟩
 rw [hLV] at zY hR;rw [KF] at dG hR
 have HQ:Hid (∀(j:Nat) (q:Gr.N),ns[j]?=some q->W1.cell? ⟨b,o+j*3,none⟩=some (.int .i64 q.id)):=fun j q hq=>by
  obtain ⟨b',o',_,_,_,_,he,hlt,⟨e0,-⟩,-⟩:=h.node hq
  injection he with he
  injection he with he1 he2
  subst he1;subst he2;exact (hBm.cell (by exact hlt)).trans e0
 have HB1:=ah hb1;have HW1:=ah hW1;have HU:=ah ug;have HM:=ah hm
 have qQ:(k:Int)<m:=by omega
 obtain ⟨x1,hx1⟩: ∃x,decide (kL<0)=x:=⟨_,rfl⟩
 obtain ⟨x2,hx2⟩: ∃x,decide ((1024:Int)<=kL)=x:=⟨_,rfl⟩
 clear hW1 hb1 k1 hBm hLV KF h r1 r2 hk hs hok hm hbB;go_enter Tryz.func77,Tryz.ntmps77
 go_upto_region 2 with fail
 rw [HW1.out];clear c0 c1 c2 HW1;obtain ⟨d0,d1,d2⟩:=HD.out;have hu:=HU.out;cases x1 with
 | true=>
  have hi:=aci hx1;rw [ab7 (.inl hi)] at hR;subst hR;clear zY dG HQ;go_wp2;go_ret
  exact ⟨rfl,HB1.out⟩
 | false=>
  have hi:=ach hx1;have hi':0<=kL:=by omega
  cases x2 with
  | true=>
   have hj:=aci hx2;rw [ab7 (.inr hj)] at hR;subst hR;clear zY dG HQ;go_wp2;go_ret
   exact ⟨rfl,HB1.out⟩
  | false=>
   have hj:=ach hx2;have hj':kL<1024:=by omega
   rw [ab6 (by omega)] at hR
   have HR:=ah hR;clear hi hj hR;by_cases h0:k=0
   ·have hk0:(k:Int)<=0:=by omega
    have tk:decide (0<k)=false:=abX (by omega)
    have hpv:Gr.aG Gr.N.id ns k=none:=by subst h0;rfl
    have hr2:=HR.out;rw [hpv,ab6 (by simp)] at hr2
    have HT:=ah (show LV≠0->R=LV from fun h=>by rw [<-hr2,ab7 h])
    have HT2:=ah (show LV=0->R=PV from fun h=>by rw [<-hr2,ab6 (by omega)])
    clear h0 hpv hr2
    go_upto_region 4 with fail
    go_quiet (fail)
    go_wp2_with fail;cases LV with
    | succ e=>
     have hr:=HT.out (by omega)
     have HRR:=ah hr;have hne:(((e+1:Nat):Int) !=0)=true:=by rw [acV];omega
     clear hr dG;refine (zY.out nq).mono ?_;rintro e w2 ⟨rfl,rfl⟩;go_wp2;go_ret
     exact ⟨by rw [HRR.out];rfl,below_drewN HB1.out nq⟩
    | zero=>
     have hr:=HT2.out rfl;have HRR:=ah hr;clear hr;refine (zY.out nq).mono ?_
     rintro e w2 ⟨rfl,rfl⟩;obtain ⟨d0,d1,d2⟩:=HD.out;go_wp2_with fail
     refine (dG.out nq).mono ?_;rintro e w3 ⟨rfl,hb3⟩
     have HB3:=ah (oG (below_drewN HB1.out nq) hb3);clear hb3;go_wp2;go_ret
     exact ⟨by rw [HRR.out];rfl,HB3.out⟩
   obtain ⟨m',hm'⟩: ∃m',k=m'+1:=⟨k - 1,by omega⟩
   have tk:decide (0<k)=true:=abW (by omega)
   have hkp:(0:Int)<k:=by omega
   have hsub:(k:Int) - 1=(m':Int):=by omega
   have hmn:(m':Int)<m:=by omega
   obtain ⟨q,hq⟩: ∃q,ns[m']?=some q:=⟨_,ab2 (by have:=HM.out;omega)⟩
   have e0:=HQ.out m' q hq
   have hpv:Gr.aG Gr.N.id ns k=some q.id:=by rw [hm'];show ns[m']?.map Gr.N.id=_;rw [hq];rfl
   have hr2:=HR.out;rw [hpv] at hr2;obtain ⟨y,hy⟩: ∃y,q.id=y:=⟨_,rfl⟩;rw [hy] at e0 hr2
   clear h0 hq hpv hm' hy;by_cases hle:kL<=y
   ·have tl:decide (kL<=y)=true:=abW hle
    have hr:R=6:=by rw [<-hr2,ab7 (by simpa using hle)]
    have HRR:=ah hr;clear hr hr2 zY dG
    go_upto_region 4 with fail
    go_quiet (fail)
    go_wp2;go_ret;exact ⟨by rw [HRR.out];rfl,below_drewN HB1.out nq⟩
   have tl:decide (kL<=y)=false:=abX hle;have hle':y<kL:=by omega
   rw [ab6 (by simpa using hle)] at hr2
   have HT:=ah (show LV≠0->R=LV from fun h=>by rw [<-hr2,ab7 h])
   have HT2:=ah (show LV=0->R=PV from fun h=>by rw [<-hr2,ab6 (by omega)])
   clear hr2 hle
   go_upto_region 4 with fail
   go_quiet (fail)
   go_wp2_with fail;cases LV with
   | succ e=>
    have hr:=HT.out (by omega)
    have HRR:=ah hr;have hne:(((e+1:Nat):Int) !=0)=true:=by rw [acV];omega
    clear hr dG;refine (zY.out nq).mono ?_;rintro e w2 ⟨rfl,rfl⟩;go_wp2;go_ret
    exact ⟨by rw [HRR.out];rfl,below_drewN HB1.out nq⟩
   | zero=>
    have hr:=HT2.out rfl;have HRR:=ah hr;clear hr;refine (zY.out nq).mono ?_
    rintro e w2 ⟨rfl,rfl⟩;obtain ⟨d0,d1,d2⟩:=HD.out;go_wp2_with fail
    refine (dG.out nq).mono ?_;rintro e w3 ⟨rfl,hb3⟩
    have HB3:=ah (oG (below_drewN HB1.out nq) hb3);clear hb3;go_wp2;go_ret
    exact ⟨by rw [HRR.out];rfl,HB3.out⟩
theorem cZ.rel {W:World} {B:Nat} {A:Option Addr} {l:List Gr.R} (h:cZ W B 5 (ig W B) A l) {k:Nat} {r:Gr.R} (hk:l[k]?=some r): ∃b o Ap cp,A=some ⟨b,o,none⟩/\b<B/\
  (W.cell? ⟨b,o+k*5,none⟩=some (.int .i64 r.id)/\W.cell? ⟨b,o+k*5+1,none⟩=some (ST r.type)/\W.cell? ⟨b,o+k*5+2,none⟩=some (.int .i64 r.src)/\W.cell? ⟨b,o+k*5+3,none⟩=some (.int .i64 r.dst)/\W.cell? ⟨b,o+k*5+4,none⟩=some (.slice Ap r.props.length cp))/\
  cZ W B 6 (aQ W B) Ap r.props:=by
 obtain ⟨b,o,cs,hA,hb,⟨Ap,cp,rfl,h2⟩,-,hc⟩:=h k r hk
 exact ⟨b,o,Ap,cp,hA,hb,⟨hc 0 _ rfl,hc 1 _ rfl,hc 2 _ rfl,hc 3 _ rfl,hc 4 _ rfl⟩,h2⟩
theorem aiW (B:Nat) (A:Option Addr) (c:Nat) (rs:List Gr.R) (k:Nat) (r:Gr.R) (mb:Nat) (ids:List Int) (w:World) (h:cZ w B 5 (ig w B) A rs) (hB:B<=w.heap.size) (hl:rs.length<=1073741824) (hs: ∀r∈rs,Gl r) (hk:rs[k]?=some r) (hmb:dW w mb ids):
  Calls Tryz.prog 78 #[.slice A rs.length c, .int .i64 (k:Int), .map (some mb)] w fun e w'=>e= .returned (.int .i64 (Gr.jf ids (Gr.aG Gr.R.id rs k) r:Nat))/\Below w.heap.size w w':=by
 obtain ⟨R,hR⟩: ∃R,Gr.jf ids (Gr.aG Gr.R.id rs k) r=R:=⟨_,rfl⟩;rw [hR];unfold Gr.jf at hR
 have hok:=hs r (acf hk);have hkl:k<rs.length:=(acy.1 hk).1
 obtain ⟨m,hm⟩: ∃m,rs.length=m:=⟨_,rfl⟩;rw [hm] at hl hkl⊢
 obtain ⟨b,o,Ap,cp,rfl,hbB,⟨c0,c1,c2,c3,c4⟩,r2⟩:=h.rel hk;obtain ⟨kL,VH,KG,KH,ps0⟩:=r
 simp only at hR c0 c1 c2 c3 c4 r2
 obtain ⟨z,hz⟩: ∃z:ByteArray,(⟨VH.toArray⟩:ByteArray)=z:=⟨_,rfl⟩
 have hzd:z.data.toList=VH:=by rw [<-hz]
 unfold ST at c1;rw [hz] at c1
 obtain ⟨W1,hW1⟩: ∃W1,w.alloc (.cells #[.int .i64 kL, .string z, .int .i64 KG, .int .i64 KH, .slice Ap ps0.length cp] 63)=W1:=⟨_,rfl⟩
 have hb1:Below w.heap.size w W1:=by rw [<-hW1];exact (Below.refl _ w).alloc (ab1 _) _
 have k1:aj W1 w.heap.size 63 #[.int .i64 kL, .string z, .int .i64 KG, .int .i64 KH, .slice Ap ps0.length cp]:=by rw [<-hW1];exact aj.new _ _ _
 have HD:=ah (cells5 k1);have hBm:=hb1.mono hB;have hgn:=FM z;rw [hzd] at hgn
 have jE:=ah (fun (W:World)=>hgn W (by rw [Lib.size_eq,hzd];exact hok.tl))
 have dG:=ah (fun (q:Nat)=>aae B Ap cp ps0 (W1.drewN q) ((r2.below hBm (aQ.below hBm)).below (below_drewN (Below.refl B W1) q) (aQ.below (below_drewN (Below.refl B W1) q))) (ab5 hB hb1.size) hok.pl hok.ps)
 obtain ⟨GV,hGV⟩: ∃x,Gr.dw VH=x:=⟨_,rfl⟩;obtain ⟨PV,KF⟩: ∃x,Gr.dV ps0=x:=⟨_,rfl⟩
 rw [hGV] at jE hR;rw [KF] at dG hR;have hcm:=hmb.below hb1
 have dQ:=ah (fun (q:Nat)=>(show dW (W1.drewN q) mb ids from ⟨hcm.ex⟩).look (t:=97) Tryz.underlying97 hok.src)
 have HL2:=ah (fun (q:Nat)=>(show dW (W1.drewN q) mb ids from ⟨hcm.ex⟩).look (t:=97) Tryz.underlying97 hok.dst)
 have hc1:ids.count KG=0↔KG∉ids:=List.count_eq_zero
 have hc2:ids.count KH=0↔KH∉ids:=List.count_eq_zero
 obtain ⟨n1,hn1⟩: ∃n,ids.count KG=n:=⟨_,rfl⟩;obtain ⟨n2,hn2⟩: ∃n,ids.count KH=n:=⟨_,rfl⟩
 rw [hn1] at dQ hc1;rw [hn2] at HL2 hc2;have kV:=ah hc1;have HC2:=ah hc2
 have HQ:Hid (∀(j:Nat) (q:Gr.R),rs[j]?=some q->W1.cell? ⟨b,o+j*5,none⟩=some (.int .i64 q.id)):=fun j q hq=>by
  obtain ⟨b',o',_,_,he,hlt,⟨e0,-⟩,-⟩:=h.rel hq
  injection he with he
  injection he with he1 he2
  subst he1;subst he2;exact (hBm.cell (by exact hlt)).trans e0
 have HB1:=ah hb1;have HW1:=ah hW1;have HU:=ah ug;have HM:=ah hm
 have qQ:(k:Int)<m:=by omega
 obtain ⟨x1,hx1⟩: ∃x,decide (kL<0)=x:=⟨_,rfl⟩
 obtain ⟨x2,hx2⟩: ∃x,decide ((2048:Int)<=kL)=x:=⟨_,rfl⟩
 clear hW1 hb1 k1 hBm hGV KF h r2 hk hs hok hm hbB hmb hcm hc1 hc2 hn1 hn2 hgn hz hzd
 go_enter Tryz.func78,Tryz.ntmps78
 go_upto_region 2 with fail
 rw [HW1.out];clear c0 c1 c2 c3 c4 HW1;obtain ⟨d0,d1,d2,d3,d4⟩:=HD.out;have hu:=HU.out
 cases x1 with
 | true=>
  have hi:=aci hx1;rw [ab7 (.inl hi)] at hR;subst hR;clear jE dG HQ;go_wp2;go_ret
  exact ⟨rfl,HB1.out⟩
 | false=>
  have hi:=ach hx1;have hi':0<=kL:=by omega
  cases x2 with
  | true=>
   have hj:=aci hx2;rw [ab7 (.inr hj)] at hR;subst hR;clear jE dG HQ;go_wp2;go_ret
   exact ⟨rfl,HB1.out⟩
  | false=>
   have hj:=ach hx2;have hj':kL<2048:=by omega
   rw [ab6 (by omega)] at hR
   have HR:=ah hR;clear hi hj hR;by_cases h0:k=0
   ·have hk0:(k:Int)<=0:=by omega
    have tk:decide (0<k)=false:=abX (by omega)
    have hpv:Gr.aG Gr.R.id rs k=none:=by subst h0;rfl
    have hr2:=HR.out;rw [hpv,ab6 (by simp)] at hr2
    have HT:=ah hr2;clear h0 hpv hr2
    go_upto_region 4 with fail
    go_quiet (fail)
    go_wp2_with fail;refine (jE.out _).mono ?_;rintro e w2 ⟨rfl,rfl⟩;cases GV with
    | false=>
     have hr:=HT.out;rw [ab7 rfl] at hr;subst hr;clear dG;go_wp2;go_ret
     exact ⟨rfl,below_drewN HB1.out nq⟩
    | true=>
     have hr:=HT.out;rw [ab6 (by decide)] at hr
     have l1:=dQ.out nq;have l2:=HL2.out nq;by_cases h1:n1=0
     ·have t1:((n1:Int) == 0)=true:=adp.2 (by omega)
      rw [ab7 (.inl (kV.out.1 h1))] at hr;subst hr;clear dG h1;go_wp2;go_ret
      exact ⟨rfl,below_drewN HB1.out nq⟩
     have t1:((n1:Int) == 0)=false:=ab3.2 (by omega)
     by_cases h2:n2=0
     ·have t2:((n2:Int) == 0)=true:=adp.2 (by omega)
      rw [ab7 (.inr (HC2.out.1 h2))] at hr;subst hr;clear dG h1 h2;go_wp2;go_ret
      exact ⟨rfl,below_drewN HB1.out nq⟩
     have t2:((n2:Int) == 0)=false:=ab3.2 (by omega)
     rw [ab6 (by rintro (h | h);exact h1 (kV.out.2 h);exact h2 (HC2.out.2 h))] at hr
     subst hr;clear h1 h2;go_wp2_with fail;refine (dG.out nq).mono ?_
     rintro e w3 ⟨rfl,hb3⟩;have HB3:=ah (oG (below_drewN HB1.out nq) hb3);clear hb3;go_wp2
     go_ret;exact ⟨rfl,HB3.out⟩
   obtain ⟨m',hm'⟩: ∃m',k=m'+1:=⟨k - 1,by omega⟩
   have tk:decide (0<k)=true:=abW (by omega)
   have hkp:(0:Int)<k:=by omega
   have hsub:(k:Int) - 1=(m':Int):=by omega
   have hmn:(m':Int)<m:=by omega
   obtain ⟨q,hq⟩: ∃q,rs[m']?=some q:=⟨_,ab2 (by have:=HM.out;omega)⟩
   have e0:=HQ.out m' q hq
   have hpv:Gr.aG Gr.R.id rs k=some q.id:=by rw [hm'];show rs[m']?.map Gr.R.id=_;rw [hq];rfl
   have hr2:=HR.out;rw [hpv] at hr2;obtain ⟨y,hy⟩: ∃y,q.id=y:=⟨_,rfl⟩;rw [hy] at e0 hr2
   clear h0 hq hpv hm' hy;by_cases hle:kL<=y
   ·have tl:decide (kL<=y)=true:=abW hle
    have hr:R=6:=by rw [<-hr2,ab7 (by simpa using hle)]
    have HRR:=ah hr;clear hr hr2 jE dG
    go_upto_region 4 with fail
    go_quiet (fail)
    go_wp2;go_ret;exact ⟨by rw [HRR.out];rfl,below_drewN HB1.out nq⟩
   have tl:decide (kL<=y)=false:=abX hle;have hle':y<kL:=by omega
   rw [ab6 (by simpa using hle)] at hr2
   have HT:=ah hr2;clear hr2 hle
   go_upto_region 4 with fail
   go_quiet (fail)
   go_wp2_with fail;refine (jE.out _).mono ?_;rintro e w2 ⟨rfl,rfl⟩;cases GV with
   | false=>
    have hr:=HT.out;rw [ab7 rfl] at hr;subst hr;clear dG;go_wp2;go_ret
    exact ⟨rfl,below_drewN HB1.out nq⟩
   | true=>
    have hr:=HT.out;rw [ab6 (by decide)] at hr
    have l1:=dQ.out nq;have l2:=HL2.out nq;by_cases h1:n1=0
    ·have t1:((n1:Int) == 0)=true:=adp.2 (by omega)
     rw [ab7 (.inl (kV.out.1 h1))] at hr;subst hr;clear dG h1;go_wp2;go_ret
     exact ⟨rfl,below_drewN HB1.out nq⟩
    have t1:((n1:Int) == 0)=false:=ab3.2 (by omega)
    by_cases h2:n2=0
    ·have t2:((n2:Int) == 0)=true:=adp.2 (by omega)
     rw [ab7 (.inr (HC2.out.1 h2))] at hr;subst hr;clear dG h1 h2;go_wp2;go_ret
     exact ⟨rfl,below_drewN HB1.out nq⟩
    have t2:((n2:Int) == 0)=false:=ab3.2 (by omega)
    rw [ab6 (by rintro (h | h);exact h1 (kV.out.2 h);exact h2 (HC2.out.2 h))] at hr
    subst hr;clear h1 h2;go_wp2_with fail;refine (dG.out nq).mono ?_;rintro e w3 ⟨rfl,hb3⟩
    have HB3:=ah (oG (below_drewN HB1.out nq) hb3);clear hb3;go_wp2;go_ret
    exact ⟨rfl,HB3.out⟩
attribute [local go_sem] Oper.semAt_some
structure fP where
 p:Gr.P
 An:Option Addr
 cn:Nat
 At:Option Addr
 ct:Nat
def fP.cells (x:fP):Array Value:= #[ST x.p.key, .int .i64 x.p.val.kind, .int .i64 x.p.val.num,ST x.p.val.text, .slice x.An x.p.val.nums.length x.cn, .slice x.At x.p.val.texts.length x.ct]
def DF (x:fP):Array Value:= #[.agg x.cells]
def fP.Rd (W:World) (B:Nat) (x:fP):Prop:=Reads W B 1 x.An x.p.val.nums.length (x.p.val.nums.map I64)/\Reads W B 1 x.At x.p.val.texts.length (x.p.val.texts.map ST)
def SV (W:World) (B:Nat) (l:List Gr.P) (pre:List fP) (x:fP):Prop:=(pre ++ [x]).map fP.p <+: l/\x.Rd W B
def SX (l:List Gr.P) (pre:List fP):Prop:=pre.map fP.p=l
theorem I7 {α β:Type} {l:List α} {f:α->List β} {k:Nat} {a:α} (h:l[k]?=some a):(l.take (k+1)).flatMap f=(l.take k).flatMap f ++ f a:=by
 rw [adZ,h];simp
theorem NG {α β:Type} {l:List α} {f:α->List β} {k:Nat} {a:α} (h:l[k]?=some a):l.flatMap f=(l.take k).flatMap f ++(f a ++(l.drop (k+1)).flatMap f):=by
 obtain ⟨hk,e⟩:=acy.1 h
 conv=>lhs;rw [<-adE k l,ad4,adC hk,e,adz]
theorem aaN {α:Type} {l:List α} {k:Nat} {a:α} (h:l[k]?=some a):l=l.take k ++ a :: l.drop (k+1):=by
 obtain ⟨hk,e⟩:=acy.1 h
 conv=>lhs;rw [<-adE k l,adC hk,e]
theorem aaO {α:Type} {pre a b:List α} {ps:List α} {j:Nat} {x:α} (h:pre=a ++ ps.take j) (hx:ps[j]?=some x):pre ++ [x] <+:(a ++(ps ++ b)):=by
 subst h;refine ⟨ps.drop (j+1) ++ b, ?_⟩
 conv=>rhs;rw [aaN hx]
 simp
theorem FV {α:Type} {l:List α} {k:Nat} {a:α} (h:l[k]?=some a):l.take (k+1)=l.take k ++ [a]:=by
 rw [adZ,h];rfl
theorem aaP (T n₁ B Bt:Nat) (g:Gr.G) (An Ar:Option Addr) (cn cr:Nat) (Ws:World)
  (hN:cZ Ws B 3 (gZ Ws B) An g.nodes) (hR:cZ Ws B 5 (ig Ws B) Ar g.au) (hok:xZ g) (W1:World):
  Rw Tryz.prog T n₁ 186 #[.pointer (some ⟨Bt,0,none⟩)] DF (fun _ _ _=>True) (SV Ws B (Gr.fH g)) (SX (Gr.fH g)) (fun V=>Below B Ws V/\aj V Bt 39 #[.slice An g.nodes.length cn, .slice Ar g.au.length cr]) W1:=by
 intro l J Fin hAux hJ hY JE h0;refine callsIn_wide.2 ?_;have HX:=ah hAux;have HJ:=ah hJ
 have HY:=ah hY;have HE:=ah JE;have Oe:=ah h0;have HN:=ah hN;have HR:=ah hR
 have aK:=ah hok;obtain ⟨nn,hnn⟩: ∃n,g.nodes.length=n:=⟨_,rfl⟩
 obtain ⟨rn,hrn⟩: ∃n,g.au.length=n:=⟨_,rfl⟩;have hnl:=hok.nl;have hrl:=hok.rl
 rw [hnn] at HX hnl;rw [hrn] at HX hrl;have ay:=ah hnn;have gy:=ah hrn
 obtain ⟨c0,c1⟩:=cells2 (HX.out _ _ h0).2
 have hall:Gr.fH g=g.nodes.flatMap Gr.N.props ++ g.au.flatMap Gr.R.props:=rfl
 obtain ⟨ALL,adJ⟩: ∃x,Gr.fH g=x:=⟨_,rfl⟩;rw [adJ] at HY HE hall;have VI:=ah hall
 clear hJ hY JE hAux h0 hN hR hok hnn hrn hall adJ;go_enter Tryz.func186,Tryz.ntmps186
 go_wp2_with fail
 go_loopg [14] nn (fun q x wr=> ∃(k:Nat) (pre:List fP),x= .int .i64 k/\k+q=nn/\J pre wr/\pre.map fP.p=(g.nodes.take k).flatMap Gr.N.props/\W1.heap.size<=wr.heap.size)
 case atStart=>exact ⟨0, [],rfl,by omega,Oe.out,rfl,ab1 _⟩
 obtain ⟨k,pre,rfl,hk,hj,hpre,hsz⟩:=hrel;have x9:=ah hj;have G7:=ah hpre;have HK:=ah hk
 have eP:=ah (HX.out _ _ hj).1;obtain ⟨c0',c1'⟩:=cells2 (HX.out _ _ hj).2
 clear hj hpre c0 c1;cases gk with
 | succ q=>
  have hkn:k<nn:=by omega
  have dD:(k:Int)<nn:=by omega
  obtain ⟨n,hn⟩: ∃n,g.nodes[k]?=some n:=⟨_,ab2 (by rw [ay.out];exact hkn)⟩
  obtain ⟨b,o,Al,cl,Ap,cp,rfl,hbB,⟨D0,D1,D2⟩,-,r2⟩:=HN.out.node hn;have hlt:b<B:=hbB
  have d0:=(eP.out.cell (p:=⟨b,o+k*3,none⟩) hlt).trans D0
  have d1:=(eP.out.cell (p:=⟨b,o+k*3+1,none⟩) hlt).trans D1
  have d2:=(eP.out.cell (p:=⟨b,o+k*3+2,none⟩) hlt).trans D2
  obtain ⟨WN,aX⟩: ∃W,wr.alloc (.cells #[.int .i64 n.id, .slice Al n.labels.length cl, .slice Ap n.props.length cp] 59)=W:=⟨_,rfl⟩
  have eG:=ah aX
  have iJ:=ah (show bF T W1.heap.size wr WN by rw [<-aX];exact (bF.refl _ _ _).alloc _)
  have aT:=ah (show aj WN wr.heap.size 59 #[.int .i64 n.id, .slice Al n.labels.length cl, .slice Ap n.props.length cp] by rw [<-aX];exact aj.new _ _ _)
  have og:=ah r2;have jG:=aK.out.ns n (acf hn)
  obtain ⟨pn,hpn⟩: ∃m,n.props.length=m:=⟨_,rfl⟩;have hpl:=jG.pl;rw [hpn] at hpl d2 eG aT
  have fK:=ah hpn;have qP:=ah (I7 (f:=Gr.N.props) hn);have iF:=ah (NG (f:=Gr.N.props) hn)
  clear aX hbB D0 D1 D2 r2 jG hn hpn hk hkn hlt
  go_upto_region 3 with fail
  rw [eG.out];clear d0 d1 d2 c0' c1';obtain ⟨k0,k1,k2⟩:=cells3 aT.out;go_wp2_with fail
  go_loopg [21] pn (fun q x wx=> ∃(j:Nat) (pre:List fP),x= .int .i64 j/\j+q=pn/\J pre wx/\pre.map fP.p=(g.nodes.take k).flatMap Gr.N.props ++ n.props.take j/\W1.heap.size<=wx.heap.size)
  case atStart=>exact ⟨0,pre,rfl,by omega,HJ.out _ _ _ x9.out iJ.out,by rw [G7.out];simp,by rw [<-eG.out];simp;omega⟩
  obtain ⟨j,pre',rfl,hj,hjj,hpre',hsz'⟩:=hrel;have KI:=ah hjj;have Em:=ah hpre'
  have VJ:=ah hj;have tK:=ah (HX.out _ _ hjj).1;clear hjj hpre';cases gk with
  | succ q'=>
   have hjn:j<pn:=by omega
   have DU:(j:Int)<pn:=by omega
   obtain ⟨p,hp⟩: ∃p,n.props[j]?=some p:=⟨_,ab2 (by rw [fK.out];exact hjn)⟩
   obtain ⟨b',o',mg,kM,mD,kN,rfl,KJ,⟨E0,E1,E2,E3,E4,E5⟩,q1,q2⟩:=og.out.prop hp
   have hlt':b'<B:=KJ;obtain ⟨z,hz⟩: ∃z:ByteArray,(⟨p.key.toArray⟩:ByteArray)=z:=⟨_,rfl⟩
   obtain ⟨zt,aO⟩: ∃z:ByteArray,(⟨p.val.text.toArray⟩:ByteArray)=z:=⟨_,rfl⟩
   have jk:ST p.key= .string z:=by unfold ST;rw [hz]
   have En:ST p.val.text= .string zt:=by unfold ST;rw [aO]
   rw [jk] at E0;rw [En] at E3;clear hz aO
   have e0:=(tK.out.cell (p:=⟨b',o'+j*6,none⟩) hlt').trans E0
   have e1:=(tK.out.cell (p:=⟨b',o'+j*6+1,none⟩) hlt').trans E1
   have e2:=(tK.out.cell (p:=⟨b',o'+j*6+2,none⟩) hlt').trans E2
   have e3:=(tK.out.cell (p:=⟨b',o'+j*6+3,none⟩) hlt').trans E3
   have e4:=(tK.out.cell (p:=⟨b',o'+j*6+4,none⟩) hlt').trans E4
   have e5:=(tK.out.cell (p:=⟨b',o'+j*6+5,none⟩) hlt').trans E5
   obtain ⟨WY,wR⟩: ∃W,wr.alloc (.cells #[.string z, .int .i64 p.val.kind, .int .i64 p.val.num, .string zt, .slice mg p.val.nums.length kM, .slice mD p.val.texts.length kN] 61)=W:=⟨_,rfl⟩
   have hsame:bF T W1.heap.size wr WY:=by rw [<-wR];exact (bF.refl _ _ _).alloc _
   have hky:aj WY wr.heap.size 61 #[.string z, .int .i64 p.val.kind, .int .i64 p.val.num, .string zt, .slice mg p.val.nums.length kM, .slice mD p.val.texts.length kN]:=by rw [<-wR];exact aj.new _ _ _
   have hstep:SV Ws B ALL pre' ⟨p,mg,kM,mD,kN⟩:=by
    refine ⟨?_,q1,q2⟩;rw [ade,VI.out,iF.out];rw [acF,acF];exact aaO Em.out hp
   obtain ⟨fn,tmps,assign,body,hy,Eo⟩:=HY.out pre' ⟨p,mg,kM,mD,kN⟩ wr WY KI.out hsame trivial hstep
   simp only [DF,fP.cells,jk,En] at hy Eo;clear jk En
   have Jw:=ah (show (Instr.yield l #[.agg #[.string z, .int .i64 p.val.kind, .int .i64 p.val.num, .string zt, .slice mg p.val.nums.length kM, .slice mD p.val.texts.length kN]]).run Tryz.prog WY= .ok (.round l fn tmps assign body) WY from hy)
   have lU:=ah Eo;have VK:=ah wR;have zN:=ah hky;have iD:=ah (FV hp)
   have hzy:WY.heap.size=wr.heap.size+1:=by rw [<-wR];simp
   have Gi:=ah hzy
   clear wR hsame hky hstep hy Eo q1 q2 KJ E0 E1 E2 E3 E4 E5 hlt' hp hjn hj hzy
   go_upto_region 6 with (fail)
   rw [show wr.alloc (.cells #[.string z, .int .i64 p.val.kind, .int .i64 p.val.num, .string zt, .slice mg p.val.nums.length kM, .slice mD p.val.texts.length kN] 61)=WY from VK.out]
   clear e0 e1 e2 e3 e4 e5;obtain ⟨e0,e1,e2,e3,e4,e5⟩:=yg zN.out;have hy':=Jw.out
   refine (wpIn_wide (n:=8)).1 ?_
   gi_wp2
   refine lU.out.mono ?_;rintro e W' (⟨rfl,hj,hk⟩ |⟨rfl,hf⟩)
   ·have DY:=ah hj
    have hzw:=hk.size;rw [Gi.out] at hzw;clear hk hj hy' e0 e1 e2 e3 e4 e5
    gi_wp2
    go_wp2
    go_roundg q'
    case measure=>omega
    exact ⟨j+1,_,int_eq (by omega),by have:=VJ.out;omega,DY.out,by rw [ade,Em.out,iD.out,acF];rfl,by omega⟩
   clear hy'
   gi_wp2
   go_wp2;refine bodyPost_ret (results_none rfl _ _ _) rfl ?_;exact ⟨⟨_,rfl⟩,hf⟩
  | zero=>
   obtain rfl:j=pn:=by omega
   have hfin:n.props.take j=n.props:=acg (by rw [fK.out];exact ab1 _)
   have hpx:=Em.out;rw [hfin] at hpx;have mV:=ah hpx;clear hfin hpx hj;go_wp2
   go_roundg q
   case measure=>omega
   exact ⟨k+1,pre',int_eq (by omega),by have:=HK.out;omega,KI.out,by rw [mV.out,qP.out],hsz'⟩
 | zero=>
  obtain rfl:k=nn:=by omega
  have hfin:g.nodes.take k=g.nodes:=acg (by rw [ay.out];exact ab1 _)
  have hpx:=G7.out;rw [hfin] at hpx;have mV:=ah hpx;clear hfin hpx hk;go_wp2_with fail
  go_loopg [34] rn (fun q x wr=> ∃(k:Nat) (pre:List fP),x= .int .i64 k/\k+q=rn/\J pre wr/\pre.map fP.p=g.nodes.flatMap Gr.N.props ++(g.au.take k).flatMap Gr.R.props/\W1.heap.size<=wr.heap.size)
  case atStart=>exact ⟨0,pre,rfl,by omega,x9.out,by rw [mV.out];simp,hsz⟩
  clear c0' c1' hsz G7 mV x9 HK eP;obtain ⟨k,pre,rfl,hk,hj,hpre,hsz⟩:=hrel;have x9:=ah hj
  have G7:=ah hpre;have HK:=ah hk;have eP:=ah (HX.out _ _ hj).1
  obtain ⟨c0',c1'⟩:=cells2 (HX.out _ _ hj).2;clear hj hpre;cases gk with
  | succ q=>
   have hkn:k<rn:=by omega
   have dD:(k:Int)<rn:=by omega
   obtain ⟨n,hn⟩: ∃n,g.au[k]?=some n:=⟨_,ab2 (by rw [gy.out];exact hkn)⟩
   obtain ⟨b,o,Ap,cp,rfl,hbB,⟨D0,D1,D2,D3,D4⟩,r2⟩:=HR.out.rel hn;have hlt:b<B:=hbB
   obtain ⟨zy,hzy⟩: ∃z:ByteArray,(⟨n.type.toArray⟩:ByteArray)=z:=⟨_,rfl⟩;unfold ST at D1
   rw [hzy] at D1;clear hzy;have d0:=(eP.out.cell (p:=⟨b,o+k*5,none⟩) hlt).trans D0
   have d1:=(eP.out.cell (p:=⟨b,o+k*5+1,none⟩) hlt).trans D1
   have d2:=(eP.out.cell (p:=⟨b,o+k*5+2,none⟩) hlt).trans D2
   have d3:=(eP.out.cell (p:=⟨b,o+k*5+3,none⟩) hlt).trans D3
   have d4:=(eP.out.cell (p:=⟨b,o+k*5+4,none⟩) hlt).trans D4
   obtain ⟨WN,aX⟩: ∃W,wr.alloc (.cells #[.int .i64 n.id, .string zy, .int .i64 n.src, .int .i64 n.dst, .slice Ap n.props.length cp] 63)=W:=⟨_,rfl⟩
   have eG:=ah aX
   have iJ:=ah (show bF T W1.heap.size wr WN by rw [<-aX];exact (bF.refl _ _ _).alloc _)
   have aT:=ah (show aj WN wr.heap.size 63 #[.int .i64 n.id, .string zy, .int .i64 n.src, .int .i64 n.dst, .slice Ap n.props.length cp] by rw [<-aX];exact aj.new _ _ _)
   have og:=ah r2;have jG:=aK.out.rs n (acf hn)
   obtain ⟨pn,hpn⟩: ∃m,n.props.length=m:=⟨_,rfl⟩;have hpl:=jG.pl;rw [hpn] at hpl d4 eG aT
   have fK:=ah hpn;have qP:=ah (I7 (f:=Gr.R.props) hn);have iF:=ah (NG (f:=Gr.R.props) hn)
   clear aX hbB D0 D1 D2 D3 D4 r2 jG hn hpn hk hkn hlt
   go_upto_region 12 with fail
   rw [eG.out];clear d0 d1 d2 d3 d4 c0' c1';obtain ⟨k0,k1,k2,k3,k4⟩:=cells5 aT.out
   go_wp2_with fail
   go_loopg [41] pn (fun q x wx=> ∃(j:Nat) (pre:List fP),x= .int .i64 j/\j+q=pn/\J pre wx/\pre.map fP.p=g.nodes.flatMap Gr.N.props ++(g.au.take k).flatMap Gr.R.props ++ n.props.take j/\W1.heap.size<=wx.heap.size)
   case atStart=>exact ⟨0,pre,rfl,by omega,HJ.out _ _ _ x9.out iJ.out,by rw [G7.out];simp,by rw [<-eG.out];simp;omega⟩
   obtain ⟨j,pre',rfl,hj,hjj,hpre',hsz'⟩:=hrel;have KI:=ah hjj;have Em:=ah hpre'
   have VJ:=ah hj;have tK:=ah (HX.out _ _ hjj).1;clear hjj hpre';cases gk with
   | succ q'=>
    have hjn:j<pn:=by omega
    have DU:(j:Int)<pn:=by omega
    obtain ⟨p,hp⟩: ∃p,n.props[j]?=some p:=⟨_,ab2 (by rw [fK.out];exact hjn)⟩
    obtain ⟨b',o',mg,kM,mD,kN,rfl,KJ,⟨E0,E1,E2,E3,E4,E5⟩,q1,q2⟩:=og.out.prop hp
    have hlt':b'<B:=KJ;obtain ⟨z,hz⟩: ∃z:ByteArray,(⟨p.key.toArray⟩:ByteArray)=z:=⟨_,rfl⟩
    obtain ⟨zt,aO⟩: ∃z:ByteArray,(⟨p.val.text.toArray⟩:ByteArray)=z:=⟨_,rfl⟩
    have jk:ST p.key= .string z:=by unfold ST;rw [hz]
    have En:ST p.val.text= .string zt:=by unfold ST;rw [aO]
    rw [jk] at E0;rw [En] at E3;clear hz aO
    have e0:=(tK.out.cell (p:=⟨b',o'+j*6,none⟩) hlt').trans E0
    have e1:=(tK.out.cell (p:=⟨b',o'+j*6+1,none⟩) hlt').trans E1
    have e2:=(tK.out.cell (p:=⟨b',o'+j*6+2,none⟩) hlt').trans E2
    have e3:=(tK.out.cell (p:=⟨b',o'+j*6+3,none⟩) hlt').trans E3
    have e4:=(tK.out.cell (p:=⟨b',o'+j*6+4,none⟩) hlt').trans E4
    have e5:=(tK.out.cell (p:=⟨b',o'+j*6+5,none⟩) hlt').trans E5
    obtain ⟨WY,wR⟩: ∃W,wr.alloc (.cells #[.string z, .int .i64 p.val.kind, .int .i64 p.val.num, .string zt, .slice mg p.val.nums.length kM, .slice mD p.val.texts.length kN] 61)=W:=⟨_,rfl⟩
    have hsame:bF T W1.heap.size wr WY:=by rw [<-wR];exact (bF.refl _ _ _).alloc _
    have hky:aj WY wr.heap.size 61 #[.string z, .int .i64 p.val.kind, .int .i64 p.val.num, .string zt, .slice mg p.val.nums.length kM, .slice mD p.val.texts.length kN]:=by rw [<-wR];exact aj.new _ _ _
    have hstep:SV Ws B ALL pre' ⟨p,mg,kM,mD,kN⟩:=by
     refine ⟨?_,q1,q2⟩;rw [ade,VI.out,iF.out];rw [<-acF];exact aaO Em.out hp
    obtain ⟨fn,tmps,assign,body,hy,Eo⟩:=HY.out pre' ⟨p,mg,kM,mD,kN⟩ wr WY KI.out hsame trivial hstep
    simp only [DF,fP.cells,jk,En] at hy Eo;clear jk En
    have Jw:=ah (show (Instr.yield l #[.agg #[.string z, .int .i64 p.val.kind, .int .i64 p.val.num, .string zt, .slice mg p.val.nums.length kM, .slice mD p.val.texts.length kN]]).run Tryz.prog WY= .ok (.round l fn tmps assign body) WY from hy)
    have lU:=ah Eo;have VK:=ah wR;have zN:=ah hky;have iD:=ah (FV hp)
    have hzy:WY.heap.size=wr.heap.size+1:=by rw [<-wR];simp
    have Gi:=ah hzy
    clear wR hsame hky hstep hy Eo q1 q2 KJ E0 E1 E2 E3 E4 E5 hlt' hp hjn hj hzy
    go_upto_region 15 with (fail)
    rw [show wr.alloc (.cells #[.string z, .int .i64 p.val.kind, .int .i64 p.val.num, .string zt, .slice mg p.val.nums.length kM, .slice mD p.val.texts.length kN] 61)=WY from VK.out]
    clear e0 e1 e2 e3 e4 e5;obtain ⟨e0,e1,e2,e3,e4,e5⟩:=yg zN.out;have hy':=Jw.out
    refine (wpIn_wide (n:=8)).1 ?_
    gi_wp2
    refine lU.out.mono ?_;rintro e W' (⟨rfl,hj,hk⟩ |⟨rfl,hf⟩)
    ·have DY:=ah hj
     have hzw:=hk.size;rw [Gi.out] at hzw;clear hk hj hy' e0 e1 e2 e3 e4 e5
     gi_wp2
     go_wp2
     go_roundg q'
     case measure=>omega
     exact ⟨j+1,_,int_eq (by omega),by have:=VJ.out;omega,DY.out,by rw [ade,Em.out,iD.out,acF];rfl,by omega⟩
    clear hy'
    gi_wp2
    go_wp2;refine bodyPost_ret (results_none rfl _ _ _) rfl ?_;exact ⟨⟨_,rfl⟩,hf⟩
   | zero=>
    obtain rfl:j=pn:=by omega
    have hfin:n.props.take j=n.props:=acg (by rw [fK.out];exact ab1 _)
    have hpx:=Em.out;rw [hfin] at hpx;have mV:=ah hpx;clear hfin hpx hj;go_wp2
    go_roundg q
    case measure=>omega
    exact ⟨k+1,pre',int_eq (by omega),by have:=HK.out;omega,KI.out,by rw [mV.out,qP.out,acF],hsz'⟩
  | zero=>
   obtain rfl:k=rn:=by omega
   have hfin:g.au.take k=g.au:=acg (by rw [gy.out];exact ab1 _)
   have hpx:=G7.out;rw [hfin,<-VI.out] at hpx;have iW:=ah (HE.out _ _ x9.out hpx)
   clear hfin hpx hk;go_wp2
   go_end0
   exact ⟨⟨_,rfl⟩,iW.out⟩
end Go.Proofs.YtoofbflplhbpbaaGreatDoor
namespace Go.Proofs.YtoofbflplhbpbaaGreatDoor
open Go.RowKit
def qK (w w':World):Prop:= ∀(g:Nat) (t:TypeId) (cs:Array Value),aj w g t cs->t≠5->aj w' g t cs
theorem qK.refl (w:World):qK w w:=fun _ _ _ h _=>h
theorem qK.trans {a b c:World} (h:qK a b) (k:qK b c):qK a c:=fun g t cs hb hne=>k g t cs (h g t cs hb hne) hne
theorem qK.of_below {a b:World} (h:Below a.heap.size a b):qK a b:=fun _ _ _ hb _=>hb.below h hb.lt
theorem qK.of_append {w w':World} {B n:Nat} {v:Value} {xs:List Value} (h:w.ownsRow B 5 1 v n xs) (hg:w.grownBy w' v.ownBlock):qK w w':=fun g t cs hb hne=>hb.grown hg (fun e=>AY h hb hne.symm e.symm)
theorem SY:(Tryz.prog.info? 5).map (fun i=>(i.zero,i.size,i.bytes))=some (some (.int .u8 0),1,1):=by kernel_rfl
theorem aiX (B:Nat) (A:Option Addr) (c n width:Nat) (x:Nat) (xs:List Value) (w:World) (hw:width<=8) (h:w.ownsRow B 5 1 (.slice A n c) n xs) (h1: ∀u∈xs,u.oneCell'=true) (hn:n<=1073741000) (hB:B<=w.heap.size) (hx:x<18446744073709551616):
  Calls Tryz.prog 285 #[.slice A n c, .int .i64 (width:Int), .int .u64 (x:Int)] w fun e w'=> ∃A' c' xs',e= .returned (.slice A' (n+width) c')/\w'.ownsRow B 5 1 (.slice A' (n+width) c') (n+width) xs'/\Below B w w'/\qK w w'/\ ∀u∈xs',u.oneCell'=true:=by
 have H:=ah h;have mY:=ah h1;clear h1;have hwi:(width:Int)<=8:=by omega
 have HX:=ah hx;clear h hx;go_enter Tryz.func285,Tryz.ntmps285;go_wp2_with fail
 go_loopg [0,7] width (fun g v s wr=> ∃(k:Nat) (A':Option Addr) (c':Nat) (xs':List Value),v= .slice A' (n+k) c'/\s= .int .i64 (8*(g:Int) - 8)/\k+g=width/\wr.ownsRow B 5 1 (.slice A' (n+k) c') (n+k) xs'/\Below B w wr/\qK w wr/\ ∀u∈xs',u.oneCell'=true)
 case atStart=>exact ⟨0,A,c,xs,rfl,int_eq (by omega),by omega,H.out,Below.refl _ _,qK.refl _,mY.out⟩
 obtain ⟨k,A',c',xs',rfl,rfl,hk,ho,hb,hkp,h1⟩:=hrel;have H1:=ah h1;clear h1;have HO:=ah ho
 have HB:=ah hb;have Cb:=ah hkp;have HK:=ah hk;clear ho hb hkp;cases gk with
 | zero=>
  obtain rfl:k=width:=by omega
  clear hk;go_wp2;go_ret;exact ⟨A',c',xs',rfl,HO.out,HB.out,Cb.out,H1.out⟩
 | succ g=>
  have hs:(8*((g+1:Nat):Int) - 8)=((8*g:Nat):Int):=by omega
  rw [hs];obtain ⟨s,hs'⟩: ∃s,8*g=s:=⟨_,rfl⟩;rw [hs'];have hsi:(s:Int)<=64:=by omega
  have hs0:(0:Int)<=s:=by omega
  have t0:decide ((0:Int)<=s)=true:=abW hs0;have HS:=ah hs';clear hs hs' hk
  have hnk:n+k<1073741824:=by have:=HK.out;omega
  have hBr:B<=wr.heap.size:=ab5 hB HB.out.size
  go_wp2_with (at_builtin;refine rP rfl (.tmp 15) (.tmp 20) 55 5 (.int .u8 0) 1 Tryz.underlying55 SY rfl (by decide) rfl B (.slice A' (n+k) c') (n+k) xs' wr rfl HO.out (.int .u8 ((x:Int) / 2 ^ s % 256)) rfl rfl hnk hBr ?_)
  intro v9 w9 aN bC dO aF;obtain ⟨A9,c9,rfl⟩:=aJ aN;have lZ:=ah aN
  have dh:=ah (HB.out.trans aF);have al1:=ah (Cb.out.trans (qK.of_append HO.out bC))
  clear aN bC dO aF hnk hBr;go_wp2
  go_roundg g
  case measure=>omega
  exact ⟨k+1,A9,c9,_,rfl,int_eq (by have:=HS.out;omega),by have:=HK.out;omega,lZ.out,dh.out,al1.out,fun u hu=>by rcases acU.1 hu with h | h;exact H1.out u h;rw [adg.1 h];rfl⟩
structure nC (W:World) (B bw n:Nat):Prop where
 ex: ∃A c xs,aj W bw 316 #[.slice A n c]/\W.ownsRow B 5 1 (.slice A n c) n xs/\ ∀u∈xs,u.oneCell'=true
 lo:B<=bw
theorem nC.below {W W':World} {B bw n:Nat} (h:nC W B bw n) (hb:Below W.heap.size W W'):nC W' B bw n:=by
 obtain ⟨A,c,xs,h1,h2,h3⟩:=h.ex
 exact ⟨⟨A,c,xs,h1.below hb h1.lt,dS h2 (iT hb none) (fun g c t fz e=>by cases e),h3⟩,h.lo⟩
theorem aiY (n:Nat) (w:World) (hn:n=1\/n=2\/n=8):Calls Tryz.prog 284 #[.int .i64 (n:Int)] w fun e w'=>e= .returned (.bool true)/\w=w':=by
 rcases hn with rfl | rfl | rfl<;>
 ·go_enter Tryz.func284,Tryz.ntmps284
  go_wp2;go_ret;exact ⟨rfl,rfl⟩
theorem I8 (B bw n width x:Nat) (w:World) (h:nC w B bw n) (hw:width=1\/width=2\/width=8) (hn:n<=1073741000) (hB:B<=w.heap.size) (hx:x<18446744073709551616):
  Calls Tryz.prog 244 #[.pointer (some ⟨bw,0,none⟩), .int .i64 (width:Int), .int .u64 (x:Int)] w fun e w'=>e= .returned (.tuple #[])/\nC w' B bw (n+width)/\Below B w w':=by
 obtain ⟨A,c,xs,h1,h2,h3⟩:=h.ex;have HI:=ah (aiY width w hw)
 have HL:=ah (aiX B A c n width x xs w (by omega) h2 h3 hn hB hx)
 have hc:=h1.cell 0;simp only [acz,ab9] at hc;have jS:=ah h.lo;have H3:=ah h3
 have H1:=ah h1;clear h h1 h2 h3 hw hx hn;go_enter Tryz.func244,Tryz.ntmps244
 go_wp2_with fail;refine HI.out.mono ?_;rintro e w1 ⟨rfl,rfl⟩;go_wp2_with fail
 refine HL.out.mono ?_;rintro e w2 ⟨A',c',xs',rfl,ho,hb,hk,h1'⟩
 have k2:=hk _ _ _ H1.out (by decide)
 have hc2:=k2.cell 0;simp only [acz,ab9] at hc2;have hf2:=k2.frozen 0
 have hres:nC (w2.setCell ⟨bw,0,none⟩ (.slice A' (n+width) c')) B bw (n+width):=by
  refine ⟨⟨A',c',xs',(k2.aS 0 _).cast (by simp), ?_,h1'⟩,jS.out⟩
  exact dS ho (row:=some bw) (Fh (fO _ _) (.inl rfl) _) (fun g cc t fz e1 e2=>by
   cases e1;have:=k2.symm.trans e2
   injection this with this
   injection this with _ ht
   rw [<-ht];decide)
 have pO:=ah hres
 have kJ:=ah (hb.setCell (p:=⟨bw,0,none⟩) jS.out (.slice A' (n+width) c'))
 clear ho hb hk k2 hres hc h1';go_wp2
 go_end0
 exact ⟨rfl,pO.out,kJ.out⟩
theorem aiZ (B bw n:Nat) (z:ByteArray) (w:World) (h:nC w B bw n) (hz:z.size<=1073741) (hn:n<=1073741000) (hB:B<=w.heap.size):
  Calls Tryz.prog 286 #[.pointer (some ⟨bw,0,none⟩), .string z] w fun e w'=>e= .returned (.tuple #[])/\nC w' B bw (n+z.size)/\Below B w w':=by
 obtain ⟨A,c,xs,h1,h2,h3⟩:=h.ex;obtain ⟨i0,hi,hz0,hz1,hz2⟩:=info_parts SY
 have hc:=h1.cell 0;simp only [acz,ab9] at hc;have jS:=ah h.lo;have H3:=ah h3
 have H1:=ah h1;have H2:=ah h2;have hsz:n+z.size<=140737488355328:=by omega
 have hml:n+z.size<=maxLen:=by unfold maxLen;omega
 have dL:=ah hsz;have Ah:=ah hml;clear h h1 h2 h3 hz hn hsz hml
 go_enter Tryz.func286,Tryz.ntmps286
 go_wp2_with (at_builtin;refine Lib.wpList_append_own_string w rfl (.tmp 8) (.tmp 9) 55 9 rfl B 5 i0 Tryz.underlying55 Tryz.underlying9 hi hz0 hz1 hz2 (.slice A n c) n xs rfl H2.out z rfl Ah.out dL.out hB ?_)
 intro v9 w9 aN bC dO;obtain ⟨A9,c9,rfl⟩:=aJ aN
 have k2:=H1.out.grown bC (fun e=>AY H2.out H1.out (by decide) e.symm)
 have hb:Below B w w9:=(Below.refl B w).grown bC hB (fun j e=>(H2.out.lt j e).1)
 have hc2:=k2.cell 0;simp only [acz,ab9] at hc2;have hf2:=k2.frozen 0
 have hres:nC (w9.setCell ⟨bw,0,none⟩ (.slice A9 (n+z.size) c9)) B bw (n+z.size):=by
  refine ⟨⟨A9,c9,xs ++ Lib.strCells z,(k2.aS 0 _).cast (by simp), ?_,fun u hu=>by rcases acU.1 hu with h | h;exact H3.out u h;exact Lib.strCells_oneCell z u h⟩,jS.out⟩
  exact dS aN (row:=some bw) (Fh (fO _ _) (.inl rfl) _) (fun g cc t fz e1 e2=>by
   cases e1;have:=k2.symm.trans e2
   injection this with this
   injection this with _ ht
   rw [<-ht];decide)
 have pO:=ah hres
 have kJ:=ah (hb.setCell (p:=⟨bw,0,none⟩) jS.out (.slice A9 (n+z.size) c9))
 clear aN bC dO hb k2 hres hc;go_wp2
 go_end0
 exact ⟨rfl,pO.out,kJ.out⟩
theorem S9 (B bw n:Nat) (w:World) (h:nC w B bw n) (hn:n<=1073741824):
  Calls Tryz.prog 247 #[.pointer (some ⟨bw,0,none⟩)] w fun e w'=> ∃A' c',e= .returned (.slice A' n c')/\Below w.heap.size w w':=by
 obtain ⟨A,c,xs,h1,h2,h3⟩:=h.ex;have hc:=h1.cell 0;simp only [acz,ab9] at hc
 have HC:=ah (aiD w.heap.size A c n xs w (Reads.je h2) h3 hn (ab1 _));clear h h1 h2 h3 hn
 go_enter Tryz.func247,Tryz.ntmps247;go_wp2_with fail;refine HC.out.mono ?_
 rintro e w2 ⟨v,rfl,ho,hb⟩;obtain ⟨A',c',rfl⟩:=aJ ho;clear ho;go_wp2;go_ret
 exact ⟨A',c',rfl,hb⟩
theorem ai0 (w:World):Calls Tryz.prog 243 #[] w fun e w'=>e= .returned (.pointer (some ⟨w.heap.size,0,none⟩))/\nC w' w.heap.size w.heap.size 0/\Below w.heap.size w w':=by
 go_enter Tryz.func243,Tryz.ntmps243;go_wp2;go_ret
 exact ⟨rfl,⟨⟨none,0, [],aj.new _ _ _,World.ownsRow_nil _ _ _ _,fun u hu=>by cases hu⟩,ab1 _⟩,(Below.refl _ _).alloc (ab1 _) _⟩
end Go.Proofs.YtoofbflplhbpbaaGreatDoor
