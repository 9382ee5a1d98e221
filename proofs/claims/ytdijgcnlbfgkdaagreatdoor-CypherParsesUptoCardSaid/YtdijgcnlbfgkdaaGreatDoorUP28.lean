/- Lemmas. -/
import Derived.Test.YtdijgcnlbfgkdaaGreatDoorUP27
set_option maxHeartbeats 64000000
set_option maxRecDepth 1000000
set_option linter.all false
namespace Go.Proofs.YtdijgcnlbfgkdaaGreatDoor
open Go.RowKit Go.Proofs.Tryz
variable {q:Nat}
attribute [local go_sem] ar4
def BK {b:Nat} {s:Cy.Cu} {w V:World} (hb:b<w.heap.size) (hg:w.grownBy V (some b)) (hc:CS q b s V) (x0 x1 x2 x3 x4:Value):
  CS q b s (((((V.setCell ⟨w.heap.size,0,none⟩ x0).setCell ⟨w.heap.size,1,none⟩ x1).setCell ⟨w.heap.size,2,none⟩ x2).setCell ⟨w.heap.size,3,none⟩ x3).setCell ⟨w.heap.size,4,none⟩ x4)/\
   w.grownBy (((((V.setCell ⟨w.heap.size,0,none⟩ x0).setCell ⟨w.heap.size,1,none⟩ x1).setCell ⟨w.heap.size,2,none⟩ x2).setCell ⟨w.heap.size,3,none⟩ x3).setCell ⟨w.heap.size,4,none⟩ x4) (some b):=by
 obtain⟨h1,h2⟩:=Qw hb hg hc x0 x1 x2 x3;exact⟨h1.below ((aoa w.heap.size _).setCell (p:=⟨w.heap.size,4,none⟩) (aej _) x4) hb,mX h2 (p:=⟨w.heap.size,4,none⟩) (.inr (aej _)) x4⟩
def Eb (x:Int×Int×List UInt8):Value:=.agg #[.int .i64 x.1,.int .i64 x.2.1,ST x.2.2,.slice none 0 0,.slice none 0 0]
def adp (b:Nat) (s:Cy.Cu) (w:World) (h:CS q b s w):
  Calls prog 212 #[.pointer (some ⟨b,0,none⟩)] w (Jb q b w (Eb (Cy.iF s).1) (Cy.iF s).2):=by
 obtain⟨W1,hW1⟩:=aj (w.alloc (.cells #[.int .i64 0,.int .i64 0,.string ⟨#[]⟩,.slice none 0 0,.slice none 0 0] 43));have hb1:Below w.heap.size w W1:=hW1▸(aoa _ w).alloc (aej _) _;have hkR:ak W1 w.heap.size 43 #[.int .i64 0,.int .i64 0,.string ⟨#[]⟩,.slice none 0 0,.slice none 0 0]:=hW1▸ak.new _ _ _;refine gq5 (VY b s W1 (h.kept hb1)) h.lt (bV hb1 (some b)) hkR hW1 fun HX HB dO gK HW1=>?_;obtain⟨s1,hs1⟩:=aj ((Cy.jl s).2);obtain⟨t,ht⟩:=aj ((Cy.jl s).1);have hm:Cy.iF s=(Cy.qC t,Cy.fE (Cy.qE t) s1):=by unfold Cy.iF;rw[hs1,ht]
 rw[hm];rw[hs1,ht]at HX;unfold vU at HX;obtain⟨zt,aK⟩:=aj (⟨t.text.toArray⟩:ByteArray);rw[aK]at HX;have nP:=ah aK;have afZ:zt.toList=t.text:=by rw[aod,<-aK]
 have yB:=ah afZ;clear h hs1 ht hm hb1 hkR hW1 aK afZ
 have hcase:(t.kind=1/\t.text=au.TRUE)\/(t.kind=1/\t.text≠au.TRUE/\t.text=au.FALSE)\/(t.kind=1/\t.text≠au.TRUE/\t.text≠au.FALSE)\/t.kind=2\/t.kind=3\/t.kind=4\/(t.kind≠1/\t.kind≠2/\t.kind≠3/\t.kind≠4):=by
  by_cases h1:t.kind=1
  ·by_cases h2:t.text=au.TRUE
   ·exact .inl ⟨h1,h2⟩
   by_cases h3:t.text=au.FALSE
   ·exact .inr (.inl ⟨h1,h2,h3⟩)
   exact .inr (.inr (.inl ⟨h1,h2,h3⟩))
  omega
 have zC:au.TRUE≠au.FALSE:=by decide
 rcases hcase with⟨h1,h2⟩|⟨h1,h2,h3⟩|⟨h1,h2,h3⟩|h1|h1|h1|⟨h1,h2,h3,h4⟩
 ·
  have hv:Cy.qC t=(1,1,[]):=by unfold Cy.qC;simp[h1,h2]
  have ho:Cy.qE t=true:=by unfold Cy.qE;simp[h1,h2]
  rw[hv,ho];have k1:((t.kind:Int) == 1)=true:=by rw[afc];omega
  have k2:((t.kind:Int) == 2)=false:=by rw[aek];omega
  have k3:((t.kind:Int) == 3)=false:=by rw[aek];omega
  have k4:((t.kind:Int) !=4)=true:=by rw[afd];omega
  have tT:(zt.toList ==[116,114,117,101])=true:=by rw[afc,yB.out];exact h2
  have fQ:(t.kind:Int)=t.kind:=rfl;have lY:=ah h1;clear hv ho zC fQ h1 h2;go_enter func212,ntmps212
  go_upto_region 1 with fail
  rw[HW1.out];clear HW1;go_wp2_with fail;refine tq8 HX fun w1 h1 g1=>?_;obtain⟨W2,hW2⟩:=aj (w1.alloc (.cells #[.int .i64 (t.kind:Int),.string zt,.int .i64 t.num,.int .i64 (t.pos:Int)] 94));obtain⟨c2,g2,k2⟩:=BI h1 g1 t nP.out hW2;have aU:ak W2 w.heap.size 43 #[.int .i64 0,.int .i64 0,.string ⟨#[]⟩,.slice none 0 0,.slice none 0 0]:=gK.grown g2 (fun e=>by cases e;exact absurd HB.out (agt _))
  obtain⟨⟨u0,e2⟩,f2,c3⟩:=c2.fail;have d0:=k2.cell 0;have d1:=k2.cell 1;have d2:=k2.cell 2;have r0:=aU.cell 0;have r1:=aU.cell 1;have r2:=aU.cell 2;have r3:=aU.cell 3;have r4:=aU.cell 4;have s0:=aU.frozen 0;have s1:=aU.frozen 1;have s2:=aU.frozen 2;have s3:=aU.frozen 3;have s4:=aU.frozen 4;simp only[aeN,aev,aeQ]at d0 d1 d2 r0 r1 r2 r3 r4;refine gq4 c2 c3 (aS dO.out g2) hW2 fun HC2 jk HG2 HW2=>?_;have hbne:b≠w.heap.size:=agH HB.out;clear c2 g2 k2 c3 hW2 h1 g1 aU
  go_upto_region 2 with fail
  rw[HW2.out];clear HW2;go_wp2
  exact arW (v:=.agg #[.int .i64 1,.int .i64 1,.string ⟨#[]⟩,.slice none 0 0,.slice none 0 0]) (by simp[results,results212,go_sem,r0,r1,r2,r3,r4]) rfl
   ⟨rfl,BK HB.out HG2.out HC2.out _ _ _ _ _⟩
 ·
  have hv:Cy.qC t=(1,0,[]):=by unfold Cy.qC;simp[h1,h3,zC.symm]
  have ho:Cy.qE t=true:=by unfold Cy.qE;simp[h1,h3,zC.symm]
  rw[hv,ho];have k1:((t.kind:Int) == 1)=true:=by rw[afc];omega
  have k2:((t.kind:Int) == 2)=false:=by rw[aek];omega
  have k3:((t.kind:Int) == 3)=false:=by rw[aek];omega
  have k4:((t.kind:Int) !=4)=true:=by rw[afd];omega
  have tT:(zt.toList ==[116,114,117,101])=false:=by rw[aek,yB.out];exact h2
  have tF:(zt.toList ==[102,97,108,115,101])=true:=by rw[afc,yB.out];exact h3
  have fQ:(t.kind:Int)=t.kind:=rfl;have lY:=ah h1;clear hv ho zC fQ h1 h2 h3;go_enter func212,ntmps212
  go_upto_region 1 with fail
  rw[HW1.out];clear HW1;go_wp2_with fail;refine tq8 HX fun w1 h1 g1=>?_;obtain⟨W2,hW2⟩:=aj (w1.alloc (.cells #[.int .i64 (t.kind:Int),.string zt,.int .i64 t.num,.int .i64 (t.pos:Int)] 94));obtain⟨c2,g2,k2⟩:=BI h1 g1 t nP.out hW2;have aU:ak W2 w.heap.size 43 #[.int .i64 0,.int .i64 0,.string ⟨#[]⟩,.slice none 0 0,.slice none 0 0]:=gK.grown g2 (fun e=>by cases e;exact absurd HB.out (agt _))
  obtain⟨⟨u0,e2⟩,f2,c3⟩:=c2.fail;have d0:=k2.cell 0;have d1:=k2.cell 1;have d2:=k2.cell 2;have r0:=aU.cell 0;have r1:=aU.cell 1;have r2:=aU.cell 2;have r3:=aU.cell 3;have r4:=aU.cell 4;have s0:=aU.frozen 0;have s1:=aU.frozen 1;have s2:=aU.frozen 2;have s3:=aU.frozen 3;have s4:=aU.frozen 4;simp only[aeN,aev,aeQ]at d0 d1 d2 r0 r1 r2 r3 r4;refine gq4 c2 c3 (aS dO.out g2) hW2 fun HC2 jk HG2 HW2=>?_;have hbne:b≠w.heap.size:=agH HB.out;clear c2 g2 k2 c3 hW2 h1 g1 aU
  go_upto_region 2 with fail
  rw[HW2.out];clear HW2;go_wp2
  exact arW (v:=.agg #[.int .i64 1,.int .i64 0,.string ⟨#[]⟩,.slice none 0 0,.slice none 0 0]) (by simp[results,results212,go_sem,r0,r1,r2,r3,r4]) rfl
   ⟨rfl,BK HB.out HG2.out HC2.out _ _ _ _ _⟩
 ·
  have hv:Cy.qC t=(4,0,t.text):=by unfold Cy.qC;simp[h1,h2,h3]
  have ho:Cy.qE t=false:=by unfold Cy.qE;simp[h1,h2,h3]
  rw[hv,ho];have k1:((t.kind:Int) == 1)=true:=by rw[afc];omega
  have k2:((t.kind:Int) == 2)=false:=by rw[aek];omega
  have k3:((t.kind:Int) == 3)=false:=by rw[aek];omega
  have k4:((t.kind:Int) !=4)=true:=by rw[afd];omega
  have tT:(zt.toList ==[116,114,117,101])=false:=by rw[aek,yB.out];exact h2
  have tF:(zt.toList ==[102,97,108,115,101])=false:=by rw[aek,yB.out];exact h3
  have fQ:(t.kind:Int)=t.kind:=rfl;have lY:=ah h1;clear hv ho zC fQ h1 h2 h3;go_enter func212,ntmps212
  go_upto_region 1 with fail
  rw[HW1.out];clear HW1;go_wp2_with fail;refine tq8 HX fun w1 h1 g1=>?_;obtain⟨W2,hW2⟩:=aj (w1.alloc (.cells #[.int .i64 (t.kind:Int),.string zt,.int .i64 t.num,.int .i64 (t.pos:Int)] 94));obtain⟨c2,g2,k2⟩:=BI h1 g1 t nP.out hW2;have aU:ak W2 w.heap.size 43 #[.int .i64 0,.int .i64 0,.string ⟨#[]⟩,.slice none 0 0,.slice none 0 0]:=gK.grown g2 (fun e=>by cases e;exact absurd HB.out (agt _))
  obtain⟨⟨u0,e2⟩,f2,c3⟩:=c2.fail;have d0:=k2.cell 0;have d1:=k2.cell 1;have d2:=k2.cell 2;have r0:=aU.cell 0;have r1:=aU.cell 1;have r2:=aU.cell 2;have r3:=aU.cell 3;have r4:=aU.cell 4;have s0:=aU.frozen 0;have s1:=aU.frozen 1;have s2:=aU.frozen 2;have s3:=aU.frozen 3;have s4:=aU.frozen 4;simp only[aeN,aev,aeQ]at d0 d1 d2 r0 r1 r2 r3 r4;refine gq4 c2 c3 (aS dO.out g2) hW2 fun HC2 jk HG2 HW2=>?_;have hbne:b≠w.heap.size:=agH HB.out;clear c2 g2 k2 c3 hW2 h1 g1 aU
  go_upto_region 2 with fail
  rw[HW2.out];clear HW2;go_wp2
  exact arW (v:=.agg #[.int .i64 4,.int .i64 0,.string zt,.slice none 0 0,.slice none 0 0]) (by simp[results,results212,go_sem,r0,r1,r2,r3,r4]) rfl
   ⟨afL Ending.returned (by unfold Eb ST;rw[<-nP.out]),BK HB.out (mX HG2.out (.inl rfl) _) jk.out _ _ _ _ _⟩
 ·
  have hv:Cy.qC t=(2,t.num,[]):=by unfold Cy.qC;simp[h1]
  have ho:Cy.qE t=true:=by unfold Cy.qE;simp[h1]
  rw[hv,ho];have k1:((t.kind:Int) == 1)=false:=by rw[aek];omega
  have k2:((t.kind:Int) == 2)=true:=by rw[afc];omega
  have k3:((t.kind:Int) == 3)=false:=by rw[aek];omega
  have k4:((t.kind:Int) !=4)=true:=by rw[afd];omega
  have fQ:(t.kind:Int)=t.kind:=rfl;have lY:=ah h1;clear hv ho zC fQ h1;go_enter func212,ntmps212
  go_upto_region 1 with fail
  rw[HW1.out];clear HW1;go_wp2_with fail;refine tq8 HX fun w1 h1 g1=>?_;obtain⟨W2,hW2⟩:=aj (w1.alloc (.cells #[.int .i64 (t.kind:Int),.string zt,.int .i64 t.num,.int .i64 (t.pos:Int)] 94));obtain⟨c2,g2,k2⟩:=BI h1 g1 t nP.out hW2;have aU:ak W2 w.heap.size 43 #[.int .i64 0,.int .i64 0,.string ⟨#[]⟩,.slice none 0 0,.slice none 0 0]:=gK.grown g2 (fun e=>by cases e;exact absurd HB.out (agt _))
  obtain⟨⟨u0,e2⟩,f2,c3⟩:=c2.fail;have d0:=k2.cell 0;have d1:=k2.cell 1;have d2:=k2.cell 2;have r0:=aU.cell 0;have r1:=aU.cell 1;have r2:=aU.cell 2;have r3:=aU.cell 3;have r4:=aU.cell 4;have s0:=aU.frozen 0;have s1:=aU.frozen 1;have s2:=aU.frozen 2;have s3:=aU.frozen 3;have s4:=aU.frozen 4;simp only[aeN,aev,aeQ]at d0 d1 d2 r0 r1 r2 r3 r4;refine gq4 c2 c3 (aS dO.out g2) hW2 fun HC2 jk HG2 HW2=>?_;have hbne:b≠w.heap.size:=agH HB.out;clear c2 g2 k2 c3 hW2 h1 g1 aU
  go_upto_region 2 with fail
  rw[HW2.out];clear HW2;go_wp2
  exact arW (v:=.agg #[.int .i64 (t.kind:Int),.int .i64 t.num,.string ⟨#[]⟩,.slice none 0 0,.slice none 0 0]) (by simp[results,results212,go_sem,r0,r1,r2,r3,r4]) rfl
   ⟨afL Ending.returned (by unfold Eb ST;rw[lY.out];rfl),BK HB.out HG2.out HC2.out _ _ _ _ _⟩
 ·
  have hv:Cy.qC t=(3,t.num,[]):=by unfold Cy.qC;simp[h1]
  have ho:Cy.qE t=true:=by unfold Cy.qE;simp[h1]
  rw[hv,ho];have k1:((t.kind:Int) == 1)=false:=by rw[aek];omega
  have k2:((t.kind:Int) == 2)=false:=by rw[aek];omega
  have k3:((t.kind:Int) == 3)=true:=by rw[afc];omega
  have k4:((t.kind:Int) !=4)=true:=by rw[afd];omega
  have fQ:(t.kind:Int)=t.kind:=rfl;have lY:=ah h1;clear hv ho zC fQ h1;go_enter func212,ntmps212
  go_upto_region 1 with fail
  rw[HW1.out];clear HW1;go_wp2_with fail;refine tq8 HX fun w1 h1 g1=>?_;obtain⟨W2,hW2⟩:=aj (w1.alloc (.cells #[.int .i64 (t.kind:Int),.string zt,.int .i64 t.num,.int .i64 (t.pos:Int)] 94));obtain⟨c2,g2,k2⟩:=BI h1 g1 t nP.out hW2;have aU:ak W2 w.heap.size 43 #[.int .i64 0,.int .i64 0,.string ⟨#[]⟩,.slice none 0 0,.slice none 0 0]:=gK.grown g2 (fun e=>by cases e;exact absurd HB.out (agt _))
  obtain⟨⟨u0,e2⟩,f2,c3⟩:=c2.fail;have d0:=k2.cell 0;have d1:=k2.cell 1;have d2:=k2.cell 2;have r0:=aU.cell 0;have r1:=aU.cell 1;have r2:=aU.cell 2;have r3:=aU.cell 3;have r4:=aU.cell 4;have s0:=aU.frozen 0;have s1:=aU.frozen 1;have s2:=aU.frozen 2;have s3:=aU.frozen 3;have s4:=aU.frozen 4;simp only[aeN,aev,aeQ]at d0 d1 d2 r0 r1 r2 r3 r4;refine gq4 c2 c3 (aS dO.out g2) hW2 fun HC2 jk HG2 HW2=>?_;have hbne:b≠w.heap.size:=agH HB.out;clear c2 g2 k2 c3 hW2 h1 g1 aU
  go_upto_region 2 with fail
  rw[HW2.out];clear HW2;go_wp2
  exact arW (v:=.agg #[.int .i64 (t.kind:Int),.int .i64 t.num,.string ⟨#[]⟩,.slice none 0 0,.slice none 0 0]) (by simp[results,results212,go_sem,r0,r1,r2,r3,r4]) rfl
   ⟨afL Ending.returned (by unfold Eb ST;rw[lY.out];rfl),BK HB.out HG2.out HC2.out _ _ _ _ _⟩
 ·
  have hv:Cy.qC t=(4,0,t.text):=by unfold Cy.qC;simp[h1]
  have ho:Cy.qE t=true:=by unfold Cy.qE;simp[h1]
  rw[hv,ho];have k1:((t.kind:Int) == 1)=false:=by rw[aek];omega
  have k2:((t.kind:Int) == 2)=false:=by rw[aek];omega
  have k3:((t.kind:Int) == 3)=false:=by rw[aek];omega
  have k4:((t.kind:Int) !=4)=false:=by rw[afV];omega
  have fQ:(t.kind:Int)=t.kind:=rfl;have lY:=ah h1;clear hv ho zC fQ h1;go_enter func212,ntmps212
  go_upto_region 1 with fail
  rw[HW1.out];clear HW1;go_wp2_with fail;refine tq8 HX fun w1 h1 g1=>?_;obtain⟨W2,hW2⟩:=aj (w1.alloc (.cells #[.int .i64 (t.kind:Int),.string zt,.int .i64 t.num,.int .i64 (t.pos:Int)] 94));obtain⟨c2,g2,k2⟩:=BI h1 g1 t nP.out hW2;have aU:ak W2 w.heap.size 43 #[.int .i64 0,.int .i64 0,.string ⟨#[]⟩,.slice none 0 0,.slice none 0 0]:=gK.grown g2 (fun e=>by cases e;exact absurd HB.out (agt _))
  obtain⟨⟨u0,e2⟩,f2,c3⟩:=c2.fail;have d0:=k2.cell 0;have d1:=k2.cell 1;have d2:=k2.cell 2;have r0:=aU.cell 0;have r1:=aU.cell 1;have r2:=aU.cell 2;have r3:=aU.cell 3;have r4:=aU.cell 4;have s0:=aU.frozen 0;have s1:=aU.frozen 1;have s2:=aU.frozen 2;have s3:=aU.frozen 3;have s4:=aU.frozen 4;simp only[aeN,aev,aeQ]at d0 d1 d2 r0 r1 r2 r3 r4;refine gq4 c2 c3 (aS dO.out g2) hW2 fun HC2 jk HG2 HW2=>?_;have hbne:b≠w.heap.size:=agH HB.out;clear c2 g2 k2 c3 hW2 h1 g1 aU
  go_upto_region 2 with fail
  rw[HW2.out];clear HW2;go_wp2
  exact arW (v:=.agg #[.int .i64 4,.int .i64 0,.string zt,.slice none 0 0,.slice none 0 0]) (by simp[results,results212,go_sem,r0,r1,r2,r3,r4]) rfl
   ⟨afL Ending.returned (by unfold Eb ST;rw[<-nP.out]),BK HB.out HG2.out HC2.out _ _ _ _ _⟩
 have hv:Cy.qC t=(4,0,t.text):=by unfold Cy.qC;simp[h1,h2,h3,h4]
 have ho:Cy.qE t=false:=by unfold Cy.qE;simp[h1,h2,h3,h4]
 rw[hv,ho];have k1:((t.kind:Int) == 1)=false:=by rw[aek];omega
 have k2:((t.kind:Int) == 2)=false:=by rw[aek];omega
 have k3:((t.kind:Int) == 3)=false:=by rw[aek];omega
 have k4:((t.kind:Int) !=4)=true:=by rw[afd];omega
 have fQ:(t.kind:Int)=t.kind:=rfl;clear hv ho zC fQ h1 h2 h3 h4;go_enter func212,ntmps212
 go_upto_region 1 with fail
 rw[HW1.out];clear HW1;go_wp2_with fail;refine tq8 HX fun w1 h1 g1=>?_;obtain⟨W2,hW2⟩:=aj (w1.alloc (.cells #[.int .i64 (t.kind:Int),.string zt,.int .i64 t.num,.int .i64 (t.pos:Int)] 94));obtain⟨c2,g2,k2⟩:=BI h1 g1 t nP.out hW2;have aU:ak W2 w.heap.size 43 #[.int .i64 0,.int .i64 0,.string ⟨#[]⟩,.slice none 0 0,.slice none 0 0]:=gK.grown g2 (fun e=>by cases e;exact absurd HB.out (agt _))
 obtain⟨⟨u0,e2⟩,f2,c3⟩:=c2.fail;have d0:=k2.cell 0;have d1:=k2.cell 1;have d2:=k2.cell 2;have r0:=aU.cell 0;have r1:=aU.cell 1;have r2:=aU.cell 2;have r3:=aU.cell 3;have r4:=aU.cell 4;have s0:=aU.frozen 0;have s1:=aU.frozen 1;have s2:=aU.frozen 2;have s3:=aU.frozen 3;have s4:=aU.frozen 4;simp only[aeN,aev,aeQ]at d0 d1 d2 r0 r1 r2 r3 r4;refine gq4 c2 c3 (aS dO.out g2) hW2 fun HC2 jk HG2 HW2=>?_;have hbne:b≠w.heap.size:=agH HB.out;clear c2 g2 k2 c3 hW2 h1 g1 aU
 go_upto_region 2 with fail
 rw[HW2.out];clear HW2;go_wp2
 exact arW (v:=.agg #[.int .i64 4,.int .i64 0,.string zt,.slice none 0 0,.slice none 0 0]) (by simp[results,results212,go_sem,r0,r1,r2,r3,r4]) rfl
  ⟨afL Ending.returned (by unfold Eb ST;rw[<-nP.out]),BK HB.out (mX HG2.out (.inl rfl) _) jk.out _ _ _ _ _⟩
end Go.Proofs.YtdijgcnlbfgkdaaGreatDoor
namespace Go.Proofs.YtdijgcnlbfgkdaaGreatDoor
open Go.RowKit Go.Proofs.Tryz
variable {q:Nat}
attribute [local go_sem] ar4
def alM (x:List UInt8):0<=Cy.kindOf x/\Cy.kindOf x<=4:=by
 unfold Cy.kindOf
 repeat' split
 all_goals exact⟨by decide,by decide⟩
def alN (z:ByteArray) (w:World):Calls prog 213 #[.string z] w fun e w'=>e=.returned (.int .i64 (Cy.kindOf z.data.toList))/\w=w':=by
 obtain⟨k,hk⟩:=aj (Cy.kindOf z.data.toList);rw[hk];have e1:(z.toList ==[98,111,111,108])=decide (z.data.toList=Cy.word 1):=by rw[afN,afc,aeU,aod];rfl
 have e2:(z.toList ==[105,110,116])=decide (z.data.toList=Cy.word 2):=by rw[afN,afc,aeU,aod];rfl
 have e3:(z.toList ==[102,108,111,97,116])=decide (z.data.toList=Cy.word 3):=by rw[afN,afc,aeU,aod];rfl
 have e4:(z.toList ==[116,101,120,116])=decide (z.data.toList=Cy.word 4):=by rw[afN,afc,aeU,aod];rfl
 unfold Cy.kindOf at hk;obtain⟨b1,h1⟩:=aj (decide (z.data.toList=Cy.word 1));obtain⟨b2,h2⟩:=aj (decide (z.data.toList=Cy.word 2));obtain⟨b3,h3⟩:=aj (decide (z.data.toList=Cy.word 3));obtain⟨b4,h4⟩:=aj (decide (z.data.toList=Cy.word 4));rw[h1]at e1;rw[h2]at e2;rw[h3]at e3;rw[h4]at e4
 have hkk:k=if b1=true then 1 else if b2=true then 2 else if b3=true then 3 else if b4=true then 4 else 0:=by
  rw[<-hk,<-h1,<-h2,<-h3,<-h4];simp only[aeU]
 clear hk h1 h2 h3 h4
 rcases b1 with _|_<;>rcases b2 with _|_<;>rcases b3 with _|_<;>rcases b4 with _|_<;>simp only[afO,anN,ahp]at hkk<;>subst hkk
 all_goals
  go_enter func213,ntmps213;go_wp2;go_ret;exact⟨rfl,rfl⟩
def Qx (q b:Nat) (w:World) (x:au.V×Cy.Cu) (e:Ending) (w':World):Prop:= ∃u,e=.returned u/\uw w' (w.heap.size+1) u x.1/\CS q b x.2 w'/\w.grownBy w' (some b)
def VZ {fn:Func} {tmps:Array Value} {p:Tmp} {b:Nat} {w V:World} {k n:Int} {zt:ByteArray} {s t u0 u1 u2 u3 u4:Value} {x:au.V} {c:Cy.Cu} (hfn:fn.results= #[.cell p 43]) (ht:tmps.getD p undef=.pointer (some ⟨w.heap.size,0,none⟩))
  (hB:ak V w.heap.size 43 #[u0,u1,u2,u3,u4]) (hb:b<w.heap.size) (hc:CS q b c V) (hg:w.grownBy V (some b)) (hx:uw V (w.heap.size+1) (.agg #[.int .i64 k,.int .i64 n,.string zt,s,t]) x):
  bodyPost prog fn (Qx q b w (x,c)) .ret {tmps:=tmps,defers:=[]} (((((V.setCell ⟨w.heap.size,0,none⟩ (.int .i64 k)).setCell ⟨w.heap.size,1,none⟩ (.int .i64 n)).setCell ⟨w.heap.size,2,none⟩ (.string zt)).setCell ⟨w.heap.size,3,none⟩ s).setCell ⟨w.heap.size,4,none⟩ t):=by
 obtain⟨h1,h2⟩:=BK hb hg hc (.int .i64 k) (.int .i64 n) (.string zt) s t;exact ret_val hfn ht (P5 hB _ _ _ _ _) ⟨_,rfl,hx.step (P6 V w.heap.size _ _ _ _ _) (aeX _),h1,h2⟩
def alO (b:Nat) (s:Cy.Cu) (w:World) (h:CS q b s w) (hi:Cy.isC [91] s=false):
  Calls prog 167 #[.pointer (some ⟨b,0,none⟩)] w (Qx q b w (Cy.ou s)):=by
 have hl:Cy.ou s=(⟨(Cy.iF s).1.1,(Cy.iF s).1.2.1,(Cy.iF s).1.2.2,[],[]⟩,(Cy.iF s).2):=by unfold Cy.ou;rw[hi];rfl
 rw[hl];obtain⟨W1,hW1⟩:=aj (w.alloc (.cells #[.int .i64 0,.int .i64 0,.string ⟨#[]⟩,.slice none 0 0,.slice none 0 0] 43));have hb1:Below w.heap.size w W1:=hW1▸(aoa _ w).alloc (aej _) _;have gK:=ah (show ak W1 w.heap.size 43 #[.int .i64 0,.int .i64 0,.string ⟨#[]⟩,.slice none 0 0,.slice none 0 0] from hW1▸ak.new _ _ _)
 have hI:=F8 b ⟨#[91]⟩ s W1 (h.kept hb1);rw[show Cy.isC (⟨#[91]⟩:ByteArray).data.toList s=false from hi]at hI
 refine gq5 hI (fun(V:World) (hV:CS q b s V)=>adp b s V hV) h.lt (bV hb1 (some b)) hW1 fun HI HS HB dO HW1=>?_
 obtain⟨x,hx⟩:=aj (Cy.iF s);obtain⟨⟨k,n,t⟩,s'⟩:=x;rw[hx]at HS⊢;unfold Eb ST at HS;obtain⟨zt,aK⟩:=aj (⟨t.toArray⟩:ByteArray);simp only[aK]at HS;have nP:=ah aK;clear h hi hl hb1 hI hW1 hx aK;go_enter func167,ntmps167
 go_upto_region 1 with fail
 rw[HW1.out];clear HW1;go_wp2_with fail;refine tq8 HI fun w2 h2 g2=>?_;refine gq3 (gK.grown g2 (fun e=>by cases e;exact absurd HB.out (agt _))) (HS.out w2 h2) (aS dO.out g2) fun aP Sr HG2=>?_
 clear h2 g2 HS;go_wp2_with fail;refine tq8 Sr fun w3 h3 g3=>?_;refine gq3 (aP.grown g3 (fun e=>by cases e;exact absurd HB.out (agt _))) h3 (aS HG2.out g3) fun dX jk jU=>?_
 clear h3 g3;obtain⟨a0,a1,a2,a3,a4,f0,f1,f2,f3,f4⟩:=gQ dX.out;go_wp2;exact VZ rfl rfl dX.out HB.out jk.out jU.out ⟨.slice none 0 0,.slice none 0 0,by rw[<-nP.out],arU _ _ _ _,arU _ _ _ _⟩
end Go.Proofs.YtdijgcnlbfgkdaaGreatDoor
namespace Go.Proofs.YtdijgcnlbfgkdaaGreatDoor
open Go.RowKit Go.Proofs.Tryz
variable {q:Nat}
attribute [local go_sem] ar4
def Cy.adq {k:Int} {s:Cy.Cu} (h:(s.bad || Cy.isC [93] s)=true): ∀(f:Nat) (ns:List Int) (ts:List Cy.L),Cy.pG k f s ns ts=((ns,ts),s)
 |0,_,_=>rfl
 |f+1,ns,ts=>by rw[Cy.pG,aeu h]
def Cy.adr (c:Bool) (s:Cy.Cu):(Cy.comma c s).bad=true\/(Cy.comma c s).l.length<=s.l.length:=by
 unfold Cy.comma
 split
 ·exact(Cy.uF [44] s).imp id anu
 exact .inr (aej _)
def Cy.ads (c d:Bool) (s:Cy.Cu):(Cy.fE d (Cy.iF (Cy.comma c s)).2).bad=true\/(Cy.fE d (Cy.iF (Cy.comma c s)).2).l.length<s.l.length:=by
 rcases Cy.adr c s with h|h
 ·exact .inl (Cy.pK (Cy.Qu h))
 rcases Cy.ade (Cy.comma c s) with h2|h2
 ·exact .inl (Cy.pK h2)
 rw[Cy.VT];exact .inr (by omega)
def CS.len {b:Nat} {s:Cy.Cu} {w:World} (h:CS q b s w):s.l.length<=16777216:=by
 obtain⟨A,n,c,k,ts,hk,h1,h2,h3,h4,h5⟩:=h.ex;rw[<-h2,ae1];omega
def CS.grown {b g:Nat} {s:Cy.Cu} {w w':World} (h:CS q b s w) (hg:w.grownBy w' (some g)) (hlt:b<g):CS q b s w':=by
 have hb:Below g w (w')\/True:=.inr trivial;obtain⟨A,n,c,k,ts,hk,h1,h2,h3,h4,h5⟩:=h.ex;have hb:Below b w w':=⟨hg.os,hg.tape,hg.output,hg.size,fun i hi=>hg.block i (by have:=hk.lt;omega) (fun e=>by have:=aeM e;omega)⟩
 exact⟨⟨A,n,c,k,ts,hk.grown hg (fun e=>by have:=aeM e;omega),h1,h2,h3,h4,h5.below hb⟩,h.ok,by obtain⟨A,c,v1,v2,ht⟩:=h.tot;exact⟨A,c,v1,v2,ht.grown hg (fun e=>by have:=aeM e;omega)⟩⟩
def iZ.adt {w V:World} {k:Int} {ns:List Int} {ts:List (List UInt8)} {s t:Value} (h2:V.ownsRow (w.heap.size+1) 2 1 s ns.length (ns.map I64)) (h3:V.ownsRow (w.heap.size+1) 9 1 t ts.length (ts.map ST)) {B:Nat} (hB:B<=w.heap.size+1):
  uw V B (.agg #[.int .i64 k,.int .i64 0,.string ⟨#[]⟩,s,t]) ⟨k,0,[],ns,ts⟩:=⟨s,t,rfl,own_base h2 hB,own_base h3 hB⟩
def alP (b:Nat) (s:Cy.Cu) (w:World) (h:CS q b s w) (hi:Cy.isC [91] s=true):
  Calls prog 167 #[.pointer (some ⟨b,0,none⟩)] w (Qx q b w (Cy.ou s)):=by
 have hl:Cy.ou s=Cy.F6 s:=by unfold Cy.ou;rw[hi];rfl
 rw[hl];obtain⟨s1,hs1⟩:=aj (Cy.aV [91] s);obtain⟨s2,hs2⟩:=aj (Cy.aV [58] s1);obtain⟨xw,hxw⟩:=aj (Cy.dA s2);obtain⟨wd,s3⟩:=xw;obtain⟨kd,hkd⟩:=aj (Cy.kindOf wd);have hkr:=alM wd;rw[hkd]at hkr;obtain⟨s4,hs4⟩:=aj (Cy.fE (decide (kd≠0)) s3);obtain⟨Y,hY⟩:=aj (Cy.pG kd (s4.l.length+1) s4 [] [])
 have hls:Cy.F6 s=(⟨kd+4,0,[],Y.1.1,Y.1.2⟩,Cy.aV [93] Y.2):=by
  unfold Cy.F6;simp only[hs1,hs2,hxw,hkd,hs4,hY]
 rw[hls];obtain⟨K,hK⟩:=aj (kd+4:Int);rw[hK];obtain⟨W1,hW1⟩:=aj (w.alloc (.cells #[.int .i64 0,.int .i64 0,.string ⟨#[]⟩,.slice none 0 0,.slice none 0 0] 43));have hb1:Below w.heap.size w W1:=hW1▸(aoa _ w).alloc (aej _) _;have gK:=ah (show ak W1 w.heap.size 43 #[.int .i64 0,.int .i64 0,.string ⟨#[]⟩,.slice none 0 0,.slice none 0 0] from hW1▸ak.new _ _ _)
 have hI:=F8 b ⟨#[91]⟩ s W1 (h.kept hb1);rw[show Cy.isC (⟨#[91]⟩:ByteArray).data.toList s=true from hi]at hI
 refine gq3 hI (fun(V:World) (hV:CS q b s V)=>hs1▸jP b ⟨#[91]⟩ s V hV) (fun(V:World) (hV:CS q b s1 V)=>hs2▸jP b ⟨#[58]⟩ s1 V hV) fun HI NV qY=>?_
 have hwd:=fun(V:World) (hV:CS q b s2 V)=>BJ b s2 V hV
 rw[hxw]at hwd;obtain⟨zw,hzw⟩:=aj (⟨wd.toArray⟩:ByteArray);unfold ST at hwd;simp only[hzw]at hwd;have NW:=ah hwd;have hck:=fun V=>alN zw V
 rw[show Cy.kindOf zw.data.toList=kd by rw[<-hzw];exact hkd]at hck
 refine gq7 hck h.lt (bV hb1 (some b)) hW1 hs4 hY hK fun bH HB dO HW1 gG HY lY=>?_;have hk0:0<=kd:=hkr.1;have hk4:kd<=4:=hkr.2;clear h hi hl hs1 hs2 hxw hkd hkr hs4 hY hls hK hb1 hI hwd hzw hck hW1;go_enter func167,ntmps167
 go_upto_region 1 with fail
 rw[HW1.out];clear HW1;go_wp2_with fail;refine tq8 HI fun w2 h2 g2=>?_;refine gq3 (gK.grown g2 (fun e=>by cases e;exact absurd HB.out (agt _))) (aS dO.out g2) (NV.out w2 h2) fun aP HG2 EO=>?_
 clear h2 g2 NV;go_wp2_with fail;refine tq8 EO fun w3 h3 g3=>?_;refine gq3 (aP.grown g3 (fun e=>by cases e;exact absurd HB.out (agt _))) (aS HG2.out g3) (qY.out w3 h3) fun dX jU HMb=>?_
 clear h3 g3 qY EO;go_wp2_with fail;refine tq8 HMb fun w4 h4 g4=>?_;refine gq3 (dX.grown g4 (fun e=>by cases e;exact absurd HB.out (agt _))) (aS jU.out g4) (NW.out w4 h4) fun lX uN NY=>?_
 clear h4 g4 NW HMb;go_wp2_with fail;refine tq8 NY fun w5 h5 g5=>?_;refine gq3 (lX.grown g5 (fun e=>by cases e;exact absurd HB.out (agt _))) (aS uN.out g5) h5 fun pV MC xJ=>?_
 clear h5 g5 NY;go_wp2_with fail;refine iq7 (bH.out w5) ?_
 go_upto_if 19 with fail
 go_cut [] (fun wx=>CS q b s4 wx/\Hid (w5.grownBy wx (some b)))
 case first=>
  by_cases h0:kd=0
  ·have t0:(kd == 0)=true:=by rw[afc];exact h0
   obtain⟨⟨u0,e2⟩,f2,c3⟩:=xJ.fail;have HF:=ah (show CS q b s4 (w5.setCell ⟨b,2,none⟩ (.bool true)) by rw[<-gG.out];unfold Cy.fE;rw[aer (by simp[h0])];exact c3)
   have HH:=ah h0;clear c3 h0;go_wp2_with fail;go_meet;exact⟨HF.out,mX (iw _ _) (.inl rfl) _⟩
  have t0:(kd == 0)=false:=by rw[aek];exact h0
  have HF:=ah (show CS q b s4 w5 by rw[<-gG.out];unfold Cy.fE;rw[aeu (by simp[h0])];exact xJ.out)
  clear h0;go_wp2_with fail;go_meet;exact⟨HF.out,iw _ _⟩
 obtain⟨hc6,uP⟩:=hcut;have uP:Hid (w5.grownBy wc (some b)):=uP;have rY:=ah (pV.grown uP.out (fun e=>by cases e;exact absurd HB.out (agt _)))
 have rX:=ah (aS MC.out uP.out);obtain⟨w6,hw6⟩: ∃x,x=wc:=⟨_,rfl⟩;subst hw6;obtain⟨W7,ES⟩:=aj (w6.alloc (.cells #[.int .i64 K,.int .i64 0,.string ⟨#[]⟩,.slice none 0 0,.slice none 0 0] 43));obtain⟨vb,hvb⟩:=aj w6.heap.size;have hb7:Below w6.heap.size w6 W7:=ES▸(aoa _ w6).alloc (aej _) _;have NZ:=ah (show iZ w6 b K [] [] W7 from⟨⟨_,_,ES▸ak.new _ _ _,arU _ _ _ _,arU _ _ _ _⟩,bV hb7 _⟩)
 refine gq5 (hc6.kept hb7) hc6.lt hvb rY.lt ES fun JV aA wE HFV N7=>?_;have AV:=ah (show w.heap.size+1<=w6.heap.size+1 from Nat.succ_le_succ (anu rY.lt))
 clear hc6 uP hb7 ES hvb xJ pV MC bH;have hK9:=lY.out
 go_upto_region 9 with fail
 rw[N7.out,wE.out];clear N7 hK9
 go_loopg [5] (s4.l.length+1) (fun g x5 wr=> ∃(sx:Cy.Cu) (ns:List Int) (ts:List (List UInt8)),CS q b sx wr/\iZ w6 b K ns ts wr/\Hid (Cy.pG kd g sx ns ts=Y)/\Hid (sx.bad=true\/sx.l.length<g)/\Hid (sx.bad=true\/(ns.length+sx.l.length<=16777216/\ts.length+sx.l.length<=16777216)))
 case atStart=>exact⟨s4,[],[],JV.out,NZ.out,HY.out,.inr (aeX _),.inr (by have:=JV.len;simp;omega)⟩
 obtain⟨sx,ns,ts,hc,hl,HE,HF,HN⟩:=hrel;have HE:Hid (Cy.pG kd gk sx ns ts=Y):=HE;have HF:Hid (sx.bad=true\/sx.l.length<gk):=HF;have HN:Hid (sx.bad=true\/(ns.length+sx.l.length<=16777216/\ts.length+sx.l.length<=16777216)):=HN;have oO:=ah hc;have jS:=ah hl;have a9:=hc.bad;clear hc hl JV NZ HY;obtain⟨bd,hbd⟩:=aj sx.bad;rw[hbd]at a9;have dY:=ah hbd;clear hbd;cases bd with
 |true=>
  have qR:=ah (show(sx.bad || Cy.isC [93] sx)=true by rw[dY.out];rfl)
  have wF:=ah (show Y=((ns,ts),sx) by rw[<-HE.out];exact Cy.adq qR.out _ ns ts)
  have HM:=ah (jP b ⟨#[93]⟩ sx _ oO.out);go_wp2_with fail;refine tq8 HM fun w9 h9 g9=>?_;have jJ:=ah (jS.step aA.out g9);have iD:=ah (show CS q b (Cy.aV [93] Y.2) w9 by rw[wF.out];exact h9)
  have fV:=rY.grown jJ.gr (fun e=>by cases e;exact absurd HB.out (agt _))
  have qZ:=ah fV;have Hw:=ah (aS rX.out jJ.gr);obtain⟨A1,je,A2,jI,hbk,gq,pX⟩:=jJ.cells;rw[wE.out]at hbk;obtain⟨d0,d1,d2,d3,d4,-⟩:=gQ hbk;obtain⟨a0,a1,a2,a3,a4,f0,f1,f2,f3,f4⟩:=gQ fV;have YL:=ah (show uw w9 (w.heap.size+1) (.agg #[.int .i64 K,.int .i64 0,.string ⟨#[]⟩,.slice A1 ns.length je,.slice A2 ts.length jI]) ⟨K,0,[],Y.1.1,Y.1.2⟩ by rw[wF.out];exact iZ.adt (k:=K) gq pX AV.out)
  have hvf:vb≠w.heap.size:=by have:=HFV.out;have:=wE.out;omega
  clear h9 g9 fV hbk gq pX;go_wp2;exact VZ rfl rfl qZ.out HB.out iD.out Hw.out YL.out
 |false=>
  have hI:=F8 b ⟨#[93]⟩ sx wr oO.out;obtain⟨bi,hbi⟩:=aj (Cy.isC (⟨#[93]⟩:ByteArray).data.toList sx);rw[hbi]at hI;have HI:=ah hI;have sH:=ah hbi;clear hI hbi;go_wp2_with fail;refine tq8 HI fun w8 h8 g8=>?_;have tY:=ah h8;have qW:=ah (jS.step aA.out g8);clear h8 g8 HI a9 oO jS;cases bi with
  |true=>
   have qR:=ah (show(sx.bad || Cy.isC [93] sx)=true by rw[show Cy.isC [93] sx=true from sH.out,atE])
   have jS:=ah qW.out;have wF:=ah (show Y=((ns,ts),sx) by rw[<-HE.out];exact Cy.adq qR.out _ ns ts)
   have HM:=ah (jP b ⟨#[93]⟩ sx _ tY.out);go_wp2_with fail;refine tq8 HM fun w9 h9 g9=>?_;have jJ:=ah (jS.step aA.out g9);have iD:=ah (show CS q b (Cy.aV [93] Y.2) w9 by rw[wF.out];exact h9)
   have fV:=rY.grown jJ.gr (fun e=>by cases e;exact absurd HB.out (agt _))
   have qZ:=ah fV;have Hw:=ah (aS rX.out jJ.gr);obtain⟨A1,je,A2,jI,hbk,gq,pX⟩:=jJ.cells;rw[wE.out]at hbk;obtain⟨d0,d1,d2,d3,d4,-⟩:=gQ hbk;obtain⟨a0,a1,a2,a3,a4,f0,f1,f2,f3,f4⟩:=gQ fV;have YL:=ah (show uw w9 (w.heap.size+1) (.agg #[.int .i64 K,.int .i64 0,.string ⟨#[]⟩,.slice A1 ns.length je,.slice A2 ts.length jI]) ⟨K,0,[],Y.1.1,Y.1.2⟩ by rw[wF.out];exact iZ.adt (k:=K) gq pX AV.out)
   have hvf:vb≠w.heap.size:=by have:=HFV.out;have:=wE.out;omega
   clear h9 g9 fV hbk gq pX;go_wp2;exact VZ rfl rfl qZ.out HB.out iD.out Hw.out YL.out
  |false=>
   have hgo: ¬(sx.bad || Cy.isC [93] sx)=true:=by rw[dY.out,show Cy.isC [93] sx=false from sH.out];decide
   obtain⟨f,rfl⟩: ∃f,gk=f+1:=by
    rcases HF.out with h|h
    ·rw[dY.out]at h;cases h
    exact⟨gk - 1,by omega⟩
   have hE:=HE.out;rw[Cy.pG,aer hgo]at hE;simp only at hE
   have hnn:ns.length+sx.l.length<=16777216/\ts.length+sx.l.length<=16777216:=by
    rcases HN.out with h|h
    ·rw[dY.out]at h;cases h
    exact h
   have aC:=ah hnn;have mF:=ah hE;obtain⟨cb,hcb⟩:=aj (decide (0<ns.length+ts.length));obtain⟨A1,je,A2,jI,hbk,-,-⟩:=qW.cells;rw[wE.out]at hbk;obtain⟨d0,d1,d2,d3,d4,-⟩:=gQ hbk;obtain⟨nl,hnl⟩:=aj ns.length;obtain⟨tl,htl⟩:=aj ts.length;rw[hnl]at d3;rw[htl]at d4;have ao8:(nl:Int)<=16777216:=by omega
   have arE:(tl:Int)<=16777216:=by omega
   have N8:decide (0<nl+tl)=cb:=by rw[<-hnl,<-htl];exact hcb
   have Hy:decide ((0:Int)<(nl:Int)+(tl:Int))=cb:=by rw[<-N8,afN,aeU,aeU];omega
   have YM:=ah hcb;have jf:=ah (And.intro hnl htl);clear hgo hE hnn hbk hcb HE hnl htl
   go_upto_if 43 with fail
   go_cut [] (fun wx=>CS q b (Cy.comma cb sx) wx/\iZ w6 b K ns ts wx)
   case first=>
    cases cb with
    |true=>
     have hlt:(0:Int)<(nl:Int)+(tl:Int):=aeL Hy;have HM:=ah (jP b ⟨#[44]⟩ sx w8 tY.out);go_wp2_with fail;refine tq8 HM fun w9 h9 g9=>?_;have jJ:=ah (qW.step aA.out g9);have iD:=ah h9;clear h9 g9 HM;go_wp2_with fail;go_meet;exact⟨iD.out,jJ.out⟩
    |false=>
     have hlt: ¬(0:Int)<(nl:Int)+(tl:Int):=aex Hy;go_wp2_with fail;go_meet;exact⟨tY.out,qW.out⟩
   obtain⟨N9,zD⟩:=hcut;have jJ:=ah zD;obtain⟨xs,hxs⟩:=aj (Cy.iF (Cy.comma cb sx));have hsc:=adp b _ wc N9;have hE:=mF.out;rw[YM.out,hxs]at hE;rw[hxs]at hsc;have hlen:=fun d=>YM.out▸Cy.ads (decide (0<ns.length+ts.length)) d sx
   rw[hxs]at hlen;obtain⟨⟨k1,n1,t1⟩,s5⟩:=xs;unfold Eb ST at hsc;obtain⟨zt,aK⟩:=aj (⟨t1.toArray⟩:ByteArray);simp only[aK]at hsc;simp only at hE hlen;refine gq4 hsc aK hE hlen fun Sr nP HE2 gI=>?_;clear N9 zD hxs hsc hE hlen aK mF d0 d1 d2 d3 d4 N8 Hy YM;go_wp2_with fail;refine tq8 Sr fun w10 h10 g10=>?_;obtain⟨JW,Sv⟩:=aj (w10.alloc (.cells #[.int .i64 k1,.int .i64 n1,.string zt,.slice none 0 0,.slice none 0 0] 43));obtain⟨sb,hsb⟩:=aj w10.heap.size;have Dh:Below w10.heap.size w10 JW:=Sv▸(aoa _ w10).alloc (aej _) _;have Jy:=ah ((jJ.step aA.out g10).step aA.out (bV Dh _));have af4:=ah (h10.kept Dh);have hks:ak JW sb 43 #[.int .i64 k1,.int .i64 n1,.string zt,.slice none 0 0,.slice none 0 0]:=by rw[<-Sv,<-hsb];exact ak.new _ _ _
   have Sz:=ah hks;have af5:b<sb:=by rw[<-hsb];exact h10.lt
   refine gq3 af5 Sv hsb fun vZ af6 bf=>?_;clear h10 g10 Dh Sv hsb hks af5 Sr jJ
   go_upto_region 13 with fail
   rw[af6.out,bf.out];clear af6;obtain⟨d0,d1,d2,d3,d4,-⟩:=gQ Sz.out;obtain⟨s6,hs6⟩:=aj (Cy.fE (decide (k1=kd)) s5);have iU:=ah hs6;have hE:=HE2.out;have hlen:=gI.out (decide (k1=kd));rw[hs6]at hE hlen;have dU:=ah hE;have bT:=ah hlen;clear hs6 hE hlen HE2 gI
   go_upto_if 51 with fail
   go_cut [] (fun wx=>CS q b s6 wx/\iZ w6 b K ns ts wx/\ak wx sb 43 #[.int .i64 k1,.int .i64 n1,.string zt,.slice none 0 0,.slice none 0 0])
   case first=>
    by_cases hk:k1=kd
    ·have tk:(k1 !=kd)=false:=by rw[afV];exact hk
     have JX:=ah (show CS q b s6 JW by rw[<-iU.out,aei hk];exact af4.out)
     clear hk;go_wp2_with fail;go_meet;exact⟨JX.out,Jy.out,Sz.out⟩
    have tk:(k1 !=kd)=true:=by rw[afd];exact hk
    obtain⟨⟨u0,e2⟩,f2,c3⟩:=af4.fail;have JX:=ah (show CS q b s6 (JW.setCell ⟨b,2,none⟩ (.bool true)) by rw[<-iU.out,dF hk];exact c3)
    have JY:=ah (show JW.grownBy (JW.setCell ⟨b,2,none⟩ (.bool true)) (some b) from mX (iw _ _) (.inl rfl) _)
    clear hk c3;go_wp2_with fail;go_meet;exact⟨JX.out,Jy.step aA.out JY.out,Sz.grown JY.out (fun e=>by have:=aeM e;have:=vZ.out;omega)⟩
   obtain⟨hc12,hl12,hk12⟩:=hcut;obtain⟨d0,d1,d2,d3,d4,-⟩:=gQ hk12;have hsz:w6.heap.size+1<=wc.heap.size:=by obtain⟨_,_,hq,-⟩:=hl12.ex;exact hq.lt
   obtain⟨A1,je,A2,jI,hbk,gq,pX⟩:=hl12.cells;rw[jf.out.1]at hbk gq;rw[jf.out.2]at hbk pX;have YN:=hbk;rw[wE.out]at YN;obtain⟨a0,a1,a2,a3,a4,f0,f1,f2,f3,f4⟩:=gQ YN;refine gq5 hc12 hl12 hbk gq pX fun JZ af7 dP jV xC=>?_;have yS:nl<1073741824:=by omega
   have ML:tl<1073741824:=by omega
   obtain⟨wq,hwq⟩: ∃x,x=wc:=⟨_,rfl⟩;subst hwq;clear hc12 hl12 hk12 hbk YN gq pX Sz;by_cases h4:kd=4
   ·have t4:(kd == 4)=true:=afc.2 h4
    have oK:=ah h4;clear h4;go_wp2_with (at_builtin;refine jD rfl (.tmp 58) (.tmp 61) 34 9 (.string ⟨#[]⟩) 16 ar0 DK rfl (by decide) rfl (w6.heap.size+1) (.slice A2 tl jI) tl _ wq rfl xC.out (.string zt) rfl rfl ML hsz ?_)
    intro v9 jg aF aO bI aB;obtain⟨A9,c9,rfl⟩:=aH aF;have gB:=dP.below aB (aeX _);have g4:=gB.frozen 4;have e4:jg.cell? ⟨w6.heap.size,4,none⟩=some (.slice A2 tl jI):=gB.cell 4;rw[wE.out]at g4 e4;have AX:=ah (af7.texts aA.out (x:=t1) (v:=.slice A9 (tl+1) c9) dP.out (by rw[jf.out.1];exact jV.out) (by rw[jf.out.2];exact xC.out) (by rw[jf.out.2,show ST t1=.string zt by rw[<-nP.out];rfl];exact aF) aO aB)
    have Hz:=ah ((JZ.below aB (by have:=aA.out;omega)).grown (grownBy_set jg ⟨w6.heap.size,4,none⟩ (.slice A9 (tl+1) c9)) aA.out)
    have hE:=dU.out;rw[aeu oK.out,aeu oK.out]at hE;have jh:=ah hE;rw[wE.out]at AX Hz;clear aF aO bI aB gB a0 a1 a2 a3 a4 f0 f1 f2 f3 f4 hE;go_wp2
    go_roundg f
    case measure=>omega
    exact⟨s6,ns,ts++[t1],Hz.out,AX.out,jh.out,bT.imp id (fun h=>by rcases HF.out with h2|h2;(rw[dY.out]at h2;cases h2);omega),bT.imp id (fun h=>⟨by have:=aC.out;omega,by have:=aC.out;rw[aeo,afP];omega⟩)⟩
   have t4:(kd == 4)=false:=aek.2 h4;have oK:=ah h4;clear h4;go_wp2_with (at_builtin;refine jD rfl (.tmp 65) (.tmp 68) 41 2 (.int .i64 0) 8 as4 Uo rfl (by decide) rfl (w6.heap.size+1) (.slice A1 nl je) nl _ wq rfl jV.out (.int .i64 n1) rfl rfl yS hsz ?_)
   intro v9 jg aF aO bI aB;obtain⟨A9,c9,rfl⟩:=aH aF;have gB:=dP.below aB (aeX _);have g4:=gB.frozen 3;have e4:jg.cell? ⟨w6.heap.size,3,none⟩=some (.slice A1 nl je):=gB.cell 3;rw[wE.out]at g4 e4;have AX:=ah (af7.nums aA.out (n:=n1) (v:=.slice A9 (nl+1) c9) dP.out (by rw[jf.out.1];exact jV.out) (by rw[jf.out.2];exact xC.out) (by rw[jf.out.1];exact aF) aO aB)
   have Hz:=ah ((JZ.below aB (by have:=aA.out;omega)).grown (grownBy_set jg ⟨w6.heap.size,3,none⟩ (.slice A9 (nl+1) c9)) aA.out)
   have hE:=dU.out;rw[aer oK.out,aer oK.out]at hE;have jh:=ah hE;rw[wE.out]at AX Hz;clear aF aO bI aB gB a0 a1 a2 a3 a4 f0 f1 f2 f3 f4 hE;go_wp2
   go_roundg f
   case measure=>omega
   exact⟨s6,ns++[n1],ts,Hz.out,AX.out,jh.out,bT.imp id (fun h=>by rcases HF.out with h2|h2;(rw[dY.out]at h2;cases h2);omega),bT.imp id (fun h=>⟨by have:=aC.out;rw[aeo,afP];omega,by have:=aC.out;omega⟩)⟩
def alQ (b:Nat) (s:Cy.Cu) (w:World) (h:CS q b s w):Calls prog 167 #[.pointer (some ⟨b,0,none⟩)] w (Qx q b w (Cy.ou s)):=by
 cases hi:Cy.isC [91] s with
 |true=>exact alP b s w h hi
 |false=>exact alO b s w h hi
end Go.Proofs.YtdijgcnlbfgkdaaGreatDoor
