/- Lemmas. -/
import Derived.Test.YtdijgcnlbfgkdaaGreatDoorUP16
import Derived.Test.YtdijgcnlbfgkdaaGreatDoorUP28
set_option maxHeartbeats 64000000
set_option maxRecDepth 1000000
set_option linter.all false
namespace Go.Proofs.YtdijgcnlbfgkdaaGreatDoor
open Go.RowKit Go.Proofs.Tryz
variable {q:Nat}
attribute [local go_sem] ar4
def Cy.adu {k:Int}: ∀(f:Nat) (s:Cy.Cu) (ns:List Int) (ts:List Cy.L),(Cy.pG k f s ns ts).2.bad=true\/(Cy.pG k f s ns ts).2.l.length<=s.l.length
 |0,s,_,_=> .inr (aej _)
 |f+1,s,ns,ts=>by
  rw[Cy.pG]
  split
  ·exact .inr (aej _)
  simp only
  rcases Cy.ads (decide (0<ns.length+ts.length)) (decide ((Cy.iF (Cy.comma (decide (0<ns.length+ts.length)) s)).1.1=k)) s with h|h
  ·rw[Cy.D9 h];exact .inl h
  rcases Cy.adu f (Cy.fE (decide ((Cy.iF (Cy.comma (decide (0<ns.length+ts.length)) s)).1.1=k)) (Cy.iF (Cy.comma (decide (0<ns.length+ts.length)) s)).2) _ _ with h2|h2
  ·exact .inl h2
  exact .inr (by omega)
def Cy.alR (s:Cy.Cu):(Cy.ou s).2.bad=true\/(Cy.ou s).2.l.length<s.l.length:=by
 unfold Cy.ou
 split
 ·unfold Cy.F6
  simp only;obtain⟨w,hw⟩:=aj (Cy.dA (Cy.aV [58] (Cy.aV [91] s)))
  have h3:(Cy.fE (decide (Cy.kindOf w.1≠0)) w.2).bad=true\/(Cy.fE (decide (Cy.kindOf w.1≠0)) w.2).l.length<s.l.length:=by
   rcases Cy.uF [91] s with h|h
   ·exact .inl (Cy.pK (hw▸Cy.oz (Cy.bW h)))
   rcases Cy.uF [58] (Cy.aV [91] s) with h2|h2
   ·exact .inl (Cy.pK (hw▸Cy.oz h2))
   rcases Cy.Ja (Cy.aV [58] (Cy.aV [91] s)) with h3|h3
   ·exact .inl (Cy.pK (hw▸h3))
   rw[hw]at h3;rw[Cy.VT];exact .inr (by omega)
  rw[hw];obtain⟨s3,hs3⟩:=aj (Cy.fE (decide (Cy.kindOf w.1≠0)) w.2);rw[hs3]at h3⊢
  rcases h3 with h|h
  ·rw[Cy.D9 h];exact .inl (Cy.bW h)
  rcases Cy.adu (k:=Cy.kindOf w.1) (s3.l.length+1) s3 [] [] with h2|h2
  ·exact .inl (Cy.bW h2)
  rcases Cy.uF [93] (Cy.pG (Cy.kindOf w.1) (s3.l.length+1) s3 [] []).2 with h4|h4
  ·exact .inl h4
  exact .inr (by omega)
 exact Cy.ade s
def Cy.adw (c:Bool) (s:Cy.Cu):(Cy.vM c s).2.bad=true\/(Cy.vM c s).2.l.length<s.l.length:=by
 unfold Cy.vM;simp only
 rcases Cy.adr c s with h|h
 ·exact .inl (Cy.Ea (Cy.bW (Cy.oz h)))
 rcases Cy.Ja (Cy.comma c s) with h2|h2
 ·exact .inl (Cy.Ea (Cy.bW h2))
 rcases Cy.uF [58] (Cy.dA (Cy.comma c s)).2 with h3|h3
 ·exact .inl (Cy.Ea h3)
 rcases Cy.alR (Cy.aV [58] (Cy.dA (Cy.comma c s)).2) with h4|h4
 ·exact .inl h4
 exact .inr (by omega)
def Cy.adx {s:Cy.Cu} (h:(s.bad || Cy.isC [125] s)=true): ∀(f:Nat) (acc:List Gr.P),Cy.qF f s acc=(acc,s)
 |0,_=>rfl
 |f+1,acc=>by rw[Cy.qF,aeu h]
def alS (q b:Nat) (w:World) (x:List Gr.P×Cy.Cu) (e:Ending) (w':World):Prop:= ∃u,e=.returned u/\aT 143 w' w.heap.size u x.1/\CS q b x.2 w'/\w.grownBy w' (some b)
def ady (b:Nat) (s:Cy.Cu) (w:World) (h:CS q b s w):
  Calls prog 113 #[.pointer (some ⟨b,0,none⟩)] w (alS q b w (Cy.kX s)):=by
 obtain⟨W1,hW1⟩:=aj (w.alloc (.cells #[] 143));have hb1:Below w.heap.size w W1:=hW1▸(aoa _ w).alloc (aej _) _;have GX:=ah (show aT 143 W1 w.heap.size (.slice (some ⟨w.heap.size,0,none⟩) ([]:List Gr.P).length 0) [] from⟨[],rfl,by simp,hW1▸IG w _ _ 6 (aej _)⟩)
 refine gq4 (bV hb1 (some b)) (h.kept hb1) hW1 h.lt fun dO lu HW1 aA=>?_;obtain⟨bi,hbi⟩:=aj (Cy.isC [123] s);have hI:=F8 b ⟨#[123]⟩ s W1 lu.out;rw[show Cy.isC (⟨#[123]⟩:ByteArray).data.toList s=bi from hbi]at hI
 have HI:=ah hI;cases bi with
 |false=>
  have HX:=ah (show Cy.kX s=([],s) by unfold Cy.kX;rw[hbi];rfl)
  clear h hb1 hW1 hI hbi;go_enter func113,ntmps113
  go_upto_region 2 with fail
  rw[HW1.out];clear HW1;go_wp2_with fail;refine tq8 HI fun w2 h2 g2=>?_;refine gq3 h2 (aS dO.out g2) (GX.step g2 aA.out) fun HC2 HG2 HP2=>?_;clear h2 g2;go_wp2;go_ret;exact⟨_,rfl,by rw[HX.out];exact HP2.out,by rw[HX.out];exact HC2.out,HG2.out⟩
 |true=>
  obtain⟨s1,hs1⟩:=aj (Cy.aV [123] s);obtain⟨Y,hY⟩:=aj (Cy.qF (s1.l.length+1) s1 []);have HX:=ah (show Cy.kX s=(Y.1,Cy.aV [125] Y.2) by unfold Cy.kX;rw[hbi];simp only[anN,hs1,hY])
  have NV:=ah (fun(V:World) (hV:CS q b s V)=>hs1▸jP b ⟨#[123]⟩ s V hV)
  have HY:=ah hY;clear h hb1 hW1 hI hbi hs1 hY;go_enter func113,ntmps113
  go_upto_region 2 with fail
  rw[HW1.out];clear HW1;go_wp2_with fail;refine tq8 HI fun w2 h2 g2=>?_;refine gq3 (NV.out w2 h2) (aS dO.out g2) (GX.step g2 aA.out) fun EO HG2 HP2=>?_;clear h2 g2 NV;go_wp2_with fail;refine tq8 EO fun w3 h3 g3=>?_;refine gq3 h3 (aS HG2.out g3) (HP2.step g3 aA.out) fun jk jU Eo=>?_;clear h3 g3 EO
  go_upto_region 5 with fail
  go_loopg [3] (s1.l.length+1) (fun g x3 wr=> ∃(sx:Cy.Cu) (acc:List Gr.P) (A:Option Addr) (c:Nat),x3=.slice A acc.length c/\CS q b sx wr/\w.grownBy wr (some b)/\aT 143 wr w.heap.size (.slice A acc.length c) acc/\Hid (Cy.qF g sx acc=Y)/\Hid (sx.bad=true\/sx.l.length<g)/\Hid (sx.bad=true\/acc.length+sx.l.length<=16777216))
  case atStart=>exact⟨s1,[],_,_,rfl,jk.out,jU.out,Eo.out,HY.out,.inr (aeX _),.inr (by have:=jk.len;simp;omega)⟩
  obtain⟨sx,acc,A,c,rfl,hc,hg,hp,HE,HF,HN⟩:=hrel;have HE:Hid (Cy.qF gk sx acc=Y):=HE;have HF:Hid (sx.bad=true\/sx.l.length<gk):=HF;have HN:Hid (sx.bad=true\/acc.length+sx.l.length<=16777216):=HN;refine gq3 hc hg hp fun oO YO iC=>?_;have a9:=hc.bad;clear hc hg hp jk jU Eo HY;obtain⟨bd,hbd⟩:=aj sx.bad;rw[hbd]at a9;have dY:=ah hbd;clear hbd;cases bd with
  |true=>
   have wF:=ah (show Y=(acc,sx) by rw[<-HE.out];exact Cy.adx (by rw[dY.out];rfl) _ acc)
   have HM:=ah (jP b ⟨#[125]⟩ sx wr oO.out);go_wp2_with fail;refine tq8 HM fun w9 h9 g9=>?_;refine gq3 h9 (aS YO.out g9) (iC.step g9 aA.out) fun iD pY oM=>?_;clear h9 g9;go_wp2;go_ret;exact⟨_,rfl,by rw[HX.out,wF.out];exact oM.out,by rw[HX.out,wF.out];exact iD.out,pY.out⟩
  |false=>
   have hI:=F8 b ⟨#[125]⟩ sx wr oO.out;obtain⟨bi,hbi⟩:=aj (Cy.isC (⟨#[125]⟩:ByteArray).data.toList sx);rw[hbi]at hI;have jG:=ah hI;have sH:=ah hbi;clear hI hbi;go_wp2_with fail;refine tq8 jG fun w8 h8 g8=>?_;refine gq3 h8 (aS YO.out g8) (iC.step g8 aA.out) fun tY SA yY=>?_;clear h8 g8 jG a9 oO YO iC;cases bi with
   |true=>
    have wF:=ah (show Y=(acc,sx) by rw[<-HE.out];exact Cy.adx (by rw[show Cy.isC [125] sx=true from sH.out,atE]) _ acc)
    have HM:=ah (jP b ⟨#[125]⟩ sx w8 tY.out);go_wp2_with fail;refine tq8 HM fun w9 h9 g9=>?_;refine gq3 h9 (aS SA.out g9) (yY.step g9 aA.out) fun iD pY oM=>?_;clear h9 g9;go_wp2;go_ret;exact⟨_,rfl,by rw[HX.out,wF.out];exact oM.out,by rw[HX.out,wF.out];exact iD.out,pY.out⟩
   |false=>
    have hgo: ¬(sx.bad || Cy.isC [125] sx)=true:=by rw[dY.out,show Cy.isC [125] sx=false from sH.out];decide
    obtain⟨f,rfl⟩: ∃f,gk=f+1:=by
     rcases HF.out with h|h
     ·rw[dY.out]at h;cases h
     exact⟨gk - 1,by omega⟩
    have hE:=HE.out;rw[Cy.qF,aer hgo]at hE;simp only at hE;obtain⟨cb,hcb⟩:=aj (decide (0<acc.length));have hlen:=Cy.adw cb sx;rw[hcb]at hE;obtain⟨s2,hs2⟩:=aj (Cy.comma cb sx);obtain⟨xw,hxw⟩:=aj (Cy.dA s2);obtain⟨key,s3⟩:=xw;obtain⟨s4,hs4⟩:=aj (Cy.aV [58] s3);obtain⟨xv,hxv⟩:=aj (Cy.ou s4);obtain⟨v,s5⟩:=xv;have hpc:Cy.vM cb sx=(⟨key,v⟩,s5):=by unfold Cy.vM;simp only[hs2,hxw,hs4,hxv]
    rw[hpc]at hE hlen;simp only at hE hlen
    have hacc:acc.length+sx.l.length<=16777216:=by
     rcases HN.out with h|h
     ·rw[dY.out]at h;cases h
     exact h
    refine gq4 hacc hE hlen hs2 fun zF mF bT HS2=>?_;have hwd:=fun(V:World) (hV:CS q b s2 V)=>BJ b s2 V hV
    rw[hxw]at hwd;obtain⟨zk,fJ⟩:=aj (⟨key.toArray⟩:ByteArray);unfold ST at hwd;simp only[fJ]at hwd;refine gq4 hwd fJ (fun(V:World) (hV:CS q b s3 V)=>hs4▸jP b ⟨#[58]⟩ s3 V hV) (fun(V:World) (hV:CS q b s4 V)=>hxv▸alQ b s4 V hV) fun NW Gw HM4 Ak=>?_
    obtain⟨al,hal⟩:=aj acc.length;rw[hal]at yY⊢;have fZ:=ah hal;have N8:decide (0<al)=cb:=by rw[<-hal];exact hcb
    have Hy:decide ((0:Int)<(al:Int))=cb:=by rw[<-N8,afN,aeU,aeU];omega
    clear hgo hE hlen hcb hs2 hxw hs4 hxv hpc hacc hwd fJ hal HE
    go_upto_if 25 with fail
    go_cut [] (fun wx=>CS q b s2 wx/\w.grownBy wx (some b)/\aT 143 wx w.heap.size (.slice A al c) acc)
    case first=>
     cases cb with
     |true=>
      have hlt:(0:Int)<(al:Int):=aeL Hy;have HM:=ah (jP b ⟨#[44]⟩ sx w8 tY.out);go_wp2_with fail;refine tq8 HM fun w9 h9 g9=>?_;have iD:=ah (show CS q b s2 w9 by rw[<-HS2.out];exact h9)
      have pY:=ah (aS SA.out g9);have oM:=ah (yY.step g9 aA.out);clear h9 g9 HM;go_wp2_with fail;go_meet;exact⟨iD.out,pY.out,oM.out⟩
     |false=>
      have hlt: ¬(0:Int)<(al:Int):=aex Hy;have iD:=ah (show CS q b s2 w8 by rw[<-HS2.out];exact tY.out)
      go_wp2_with fail;go_meet;exact⟨iD.out,SA.out,yY.out⟩
    obtain⟨N9,bC,hp9⟩:=hcut;refine gq3 (NW.out wc N9) bC hp9 fun NY pY oM=>?_;clear N9 bC hp9 NW N8 Hy tY SA yY;go_wp2_with fail;refine tq8 NY fun w10 h10 g10=>?_;refine gq3 (HM4.out w10 h10) (aS pY.out g10) (oM.step g10 aA.out) fun EO Ep Gz=>?_;clear h10 g10 HM4 NY pY oM;go_wp2_with fail;refine tq8 EO fun jg h11 g11=>?_;refine gq3 (Ak.out jg h11) (aS Ep.out g11) (Gz.step g11 aA.out) fun HLa GH QY=>?_;clear h11 g11 Ak EO Ep Gz;go_wp2_with fail;refine HLa.mono ?_;rintro e w12 ⟨u,rfl,agb,h12,g12⟩;have arF:w.heap.size<=jg.heap.size:=GH.size;obtain⟨sn,st,rfl,YP,YQ⟩:=agb.ex;obtain⟨A1,c1,rfl⟩:=aH YP;obtain⟨A2,c2,rfl⟩:=aH YQ;obtain⟨zv,hzv⟩:=aj (⟨v.text.toArray⟩:ByteArray);have hpo:eG w12 w.heap.size (⟨key,v⟩,[ST key,.int .i64 v.kind,.int .i64 v.num,ST v.text,.slice A1 v.nums.length c1,.slice A2 v.texts.length c2]):=⟨_,_,rfl,own_base YP (by omega),own_base YQ (by omega)⟩
    rw[hzv];obtain⟨J3,SB⟩:=aj (w12.alloc (.cells #[.int .i64 v.kind,.int .i64 v.num,.string zv,.slice A1 v.nums.length c1,.slice A2 v.texts.length c2] 43));obtain⟨vb,hvb⟩:=aj w12.heap.size;have YR:Below w12.heap.size w12 J3:=SB▸(aoa _ w12).alloc (aej _) _;have SC:w12.grownBy J3 (some b):=bV YR _;refine gq4 (hpo.step SC aA.out) ((QY.step g12 aA.out).step SC aA.out) (aS (aS GH.out g12) SC) (h12.kept YR) fun xF ao9 J4 Hz=>?_;have AB:=ah (show ak J3 vb 43 #[.int .i64 v.kind,.int .i64 v.num,.string zv,.slice A1 v.nums.length c1,.slice A2 v.texts.length c2] by rw[<-SB,<-hvb];exact ak.new _ _ _)
    refine gq3 SB hvb hzv fun agc wE Xa=>?_;clear agb h12 g12 YP YQ hzv hpo SB hvb YR SC HLa GH QY
    go_upto_region 11 with fail
    rw[agc.out,wE.out];clear agc;obtain⟨d0,d1,d2,d3,d4,-⟩:=gQ AB.out;obtain⟨ll,e1,e2,e3⟩:=ao9.out;have e3:J3.ownsRow w.heap.size 143 6 (.slice A al c) al (ll.flatMap Prod.snd):=by rw[<-fZ.out]at e3⊢;exact e3
    have Cc:al<536870912:=by have:=zF.out;have:=fZ.out;omega
    have apa:w.heap.size<=J3.heap.size:=J4.size;refine gq3 e1 e2 e3 fun H1 H2 H3=>?_;clear e1 e2 e3;go_wp2_with (at_builtin;refine DJ rfl (.tmp 34) (.tmp 38) 35 143 (.agg #[.string ⟨#[]⟩,.int .i64 0,.int .i64 0,.string ⟨#[]⟩,.slice none 0 0,.slice none 0 0]) 6 96 asX acn rfl (by decide) (by decide) rfl w.heap.size (.slice A al c) al (ll.flatMap Prod.snd) J3 rfl H3.out [.string zk,.int .i64 v.kind,.int .i64 v.num,.string zv,.slice A1 v.nums.length c1,.slice A2 v.texts.length c2] _ rfl rfl (by simp[Value.oneCell']) rfl Cc apa ?_)
    intro v9 w9 aF aO bI aB;obtain⟨A9,c9,rfl⟩:=aH aF;have hpo:=xF.out;have hst1:ST key=.string zk:=by rw[<-Gw.out];rfl
    have hst2:ST v.text=.string zv:=by rw[<-Xa.out];rfl
    rw[hst1,hst2]at hpo;have apb:=ah (aT.put (T:=143) (v:=.slice A acc.length c) (v':=.slice A9 (al+1) c9) (ps:=acc) ⟨by decide,by decide⟩ H1.out H2.out hpo (by rw[fZ.out];exact H3.out) (by rw[fZ.out];exact aO) (by rw[fZ.out];exact aF))
    have apc:=ah (Hz.below aB aA.out);have apd:=ah (show w.grownBy w9 (some b) from⟨aB.os.trans J4.os,aB.tape.trans J4.tape,aB.output.trans J4.out.output,aep J4.size aB.size,fun i hi hne=>(aB.block i hi).trans (J4.block i hi hne)⟩)
    have su:(acc++[(⟨key,v⟩:Gr.P)]).length=al+1:=by rw[aeo,fZ.out];rfl
    have HLEN:=ah su;clear aF aO bI aB hpo hst1 hst2 su H1 H2 H3 d0 d1 d2 d3 d4;go_wp2
    go_roundg f
    case measure=>omega
    exact⟨s5,acc++[(⟨key,v⟩:Gr.P)],A9,c9,by rw[HLEN.out],apc.out,apd.out,by rw[HLEN.out];exact apb.out,mF.out,bT.imp id (fun h=>by rcases HF.out with h2|h2;(rw[dY.out]at h2;cases h2);omega),bT.imp id (fun h=>by rw[HLEN.out];have:=zF.out;have:=fZ.out;omega)⟩
end Go.Proofs.YtdijgcnlbfgkdaaGreatDoor
namespace Go.Proofs.YtdijgcnlbfgkdaaGreatDoor
open Go.RowKit Go.Proofs.Tryz
variable {q:Nat}
attribute [local go_sem] ar4
def alT (a b c d:Lex.Tok) (q:List Lex.Tok):Cy.Aa (a :: b :: c :: d :: q)=(((((decide (a.text=[40]) && decide (b.kind=1)) && decide (c.text=[41])) && decide (c.kind=5)) && decide (d.text=[45])) && decide (d.kind=5)):=rfl
def alU {l:List Lex.Tok} (h:l.length<4):Cy.Aa l=false:=by
 match l,h with
 |[],_=>rfl
 |[_],_=>rfl
 |[_,_],_=>rfl
 |[_,_,_],_=>rfl
 |_ :: _ :: _ :: _ :: _,h=>simp at h;omega
def adz (b:Nat) (s:Cy.Cu) (w:World) (h:CS q b s w):
  Calls prog 112 #[.pointer (some ⟨b,0,none⟩)] w (Jb q b w (.bool (Cy.Aa s.l)) s):=by
 have HS:=ah h;obtain⟨A,n,c,k,ts,hk,h1,h2,h3,h4,h5⟩:=h.ex;have a0:w.cell? ⟨b,0,none⟩=some (.slice A n c):=hk.cell 0;have a1:w.cell? ⟨b,1,none⟩=some (.int .i64 (k:Nat)):=hk.cell 1;have Df:(n:Int)<=16777216:=by omega
 have fQ:(k:Int)<=n:=by omega
 have hll:s.l.length=n - k:=by rw[<-h2,ae1,h1]
 by_cases hlt:n - k<4
 ·rw[alU (by omega)]
  have t1:(n:Int) -(k:Int)<4:=by omega
  have t1d:decide ((n:Int) -(k:Int)<4)=true:=aei t1;clear h hk h1 h2 h3 h4 h5 hll hlt;go_enter func112,ntmps112;go_wp2_with fail
  go_quiet (fail)
  go_wp2;go_ret;exact⟨rfl,HS.kept (below_drewN (aoa _ _) _),bV (below_drewN (aoa _ _) _) _⟩
 have t1: ¬(n:Int) -(k:Int)<4:=by omega
 have t1d:decide ((n:Int) -(k:Int)<4)=false:=dF t1
 obtain⟨ta,tb,tc,td,q,hq⟩: ∃ta tb tc td q,s.l=ta :: tb :: tc :: td :: q:=by
  match hs:s.l,(show 4<=s.l.length by omega) with
  |a :: b :: c :: d :: q,_=>exact⟨a,b,c,d,q,rfl⟩
 have hget: ∀j t,(s.l)[j]?=some t->ts[k+j]?=some t:=fun j t hj=>by rw[<-h2,aot]at hj;exact hj
 rw[<-h1]at h5;obtain⟨g,o,rfl,-,da0,da1,da2,da3⟩:=DT h5 (k:=k) (t:=ta) (by have:=hget 0 ta (by rw[hq];rfl);rwa [agw]at this)
 obtain⟨g1,o1,e1,-,db0,db1,db2,db3⟩:=DT h5 (hget 1 tb (by rw[hq];rfl))
 cases e1;obtain⟨g2,o2,e2,-,dc0,dc1,dc2,dc3⟩:=DT h5 (hget 2 tc (by rw[hq];rfl))
 cases e2;obtain⟨g3,o3,e3,-,dd0,dd1,dd2,dd3⟩:=DT h5 (hget 3 td (by rw[hq];rfl))
 cases e3;obtain⟨za,hza⟩:=aj (⟨ta.text.toArray⟩:ByteArray);rw[hza]at da1;obtain⟨zb,hzb⟩:=aj (⟨tb.text.toArray⟩:ByteArray);rw[hzb]at db1;obtain⟨zc,hzc⟩:=aj (⟨tc.text.toArray⟩:ByteArray);rw[hzc]at dc1;obtain⟨zd,hzd⟩:=aj (⟨td.text.toArray⟩:ByteArray);rw[hzd]at dd1;obtain⟨b1,hb1⟩:=aj (decide (ta.text=[40]));have qb1:(za.toList ==[40])=b1:=by rw[<-hb1,afN,afc,aeU,aod,<-hza]
 obtain⟨b2,hb2⟩:=aj (decide (tb.kind=1))
 have qb2:((tb.kind:Int) == 1)=b2:=by
  rw[<-hb2,afN,afc,aeU];omega
 obtain⟨b3,hb3⟩:=aj (decide (tc.text=[41]));have qb3:(zc.toList ==[41])=b3:=by rw[<-hb3,afN,afc,aeU,aod,<-hzc]
 obtain⟨b4,hb4⟩:=aj (decide (tc.kind=5))
 have qb4:((tc.kind:Int) == 5)=b4:=by
  rw[<-hb4,afN,afc,aeU];omega
 obtain⟨b5,hb5⟩:=aj (decide (td.text=[45]));have qb5:(zd.toList ==[45])=b5:=by rw[<-hb5,afN,afc,aeU,aod,<-hzd]
 obtain⟨b6,hb6⟩:=aj (decide (td.kind=5))
 have qb6:((td.kind:Int) == 5)=b6:=by
  rw[<-hb6,afN,afc,aeU];omega
 rw[hq,alT,hb1,hb2,hb3,hb4,hb5,hb6];have pk:(0:Int)<=(k:Int):=by omega
 have tk:((k:Int)).toNat=k:=by omega
 have lk:(k:Int)<n:=by omega
 have p1:(0:Int)<=(k:Int)+1:=by omega
 have n1:((k:Int)+1).toNat=k+1:=by omega
 have l1:(k:Int)+1<n:=by omega
 have p2:(0:Int)<=(k:Int)+2:=by omega
 have n2:((k:Int)+2).toNat=k+2:=by omega
 have l2:(k:Int)+2<n:=by omega
 have p3:(0:Int)<=(k:Int)+3:=by omega
 have n3:((k:Int)+3).toNat=k+3:=by omega
 have l3:(k:Int)+3<n:=by omega
 clear h hk h1 h2 h3 h4 h5 hll hlt hq hget hb1 hb2 hb3 hb4 hb5 hb6 hza hzb hzc hzd;cases b1 with
 |false=>
  go_enter func112,ntmps112;go_wp2_with fail
  go_quiet (fail)
  go_wp2_with fail
  dsimp only [HAppend.hAppend,Append.append,List.append]
  go_quiet (fail)
  go_wp2;go_ret;exact⟨by simp,HS.kept (below_drewN (below_drewN (aoa _ _) _) _),bV (below_drewN (below_drewN (aoa _ _) _) _) _⟩
 |true=>
  cases b2 with
  |false=>
   go_enter func112,ntmps112;go_wp2_with fail
   go_quiet (fail)
   go_wp2_with fail
   dsimp only [HAppend.hAppend,Append.append,List.append]
   go_quiet (fail)
   go_wp2;go_ret;exact⟨by simp,HS.kept (below_drewN (below_drewN (aoa _ _) _) _),bV (below_drewN (below_drewN (aoa _ _) _) _) _⟩
  |true=>
   cases b3 with
   |false=>
    go_enter func112,ntmps112;go_wp2_with fail
    go_quiet (fail)
    go_wp2_with fail
    dsimp only [HAppend.hAppend,Append.append,List.append]
    go_quiet (fail)
    go_wp2;go_ret;exact⟨by simp,HS.kept (below_drewN (below_drewN (aoa _ _) _) _),bV (below_drewN (below_drewN (aoa _ _) _) _) _⟩
   |true=>
    cases b4 with
    |false=>
     go_enter func112,ntmps112;go_wp2_with fail
     go_quiet (fail)
     go_wp2_with fail
     dsimp only [HAppend.hAppend,Append.append,List.append]
     go_quiet (fail)
     go_wp2;go_ret;exact⟨by simp,HS.kept (below_drewN (below_drewN (aoa _ _) _) _),bV (below_drewN (below_drewN (aoa _ _) _) _) _⟩
    |true=>
     cases b5 with
     |false=>
      go_enter func112,ntmps112;go_wp2_with fail
      go_quiet (fail)
      go_wp2_with fail
      dsimp only [HAppend.hAppend,Append.append,List.append]
      go_quiet (fail)
      go_wp2;go_ret;exact⟨by simp,HS.kept (below_drewN (below_drewN (aoa _ _) _) _),bV (below_drewN (below_drewN (aoa _ _) _) _) _⟩
     |true=>
      cases b6 with
      |false=>
       go_enter func112,ntmps112;go_wp2_with fail
       go_quiet (fail)
       go_wp2_with fail
       dsimp only [HAppend.hAppend,Append.append,List.append]
       go_quiet (fail)
       go_wp2;go_ret;exact⟨by simp,HS.kept (below_drewN (below_drewN (aoa _ _) _) _),bV (below_drewN (below_drewN (aoa _ _) _) _) _⟩
      |true=>
       go_enter func112,ntmps112;go_wp2_with fail
       go_quiet (fail)
       go_wp2_with fail
       dsimp only [HAppend.hAppend,Append.append,List.append]
       go_quiet (fail)
       go_wp2;go_ret;exact⟨by simp,HS.kept (below_drewN (below_drewN (aoa _ _) _) _),bV (below_drewN (below_drewN (aoa _ _) _) _) _⟩
end Go.Proofs.YtdijgcnlbfgkdaaGreatDoor
namespace Go.Proofs.YtdijgcnlbfgkdaaGreatDoor
open Go.RowKit Go.Proofs.Tryz
variable {q:Nat}
attribute [local go_sem] ar4
def aT.Ec {T:TypeId} {W:World} {B:Nat} {v:Value} {ps:List Gr.P} (h:aT T W B v ps): ∃A c,v=.slice A ps.length c:=by
 obtain⟨l,-,-,h3⟩:=h;exact aH h3
structure jw (w:World) (b:Nat) (rl:Bool) (f wd ot:ByteArray) (ns:List (List UInt8)) (ps:List Gr.P) (V:World):Prop where
 ex: ∃sn sp,ak V w.heap.size 68 #[.bool rl,.string f,.string wd,.string ot,sn,sp]/\V.ownsRow (w.heap.size+1) 9 1 sn ns.length (ns.map ST)/\aT 143 V (w.heap.size+1) sp ps
 gr:w.grownBy V (some b)
section
variable {w V:World} {b:Nat} {rl:Bool} {f wd ot:ByteArray} {ns:List (List UInt8)} {ps:List Gr.P}
def jw.step {V':World} (h:jw w b rl f wd ot ns ps V) (hb:b<w.heap.size) (hg:V.grownBy V' (some b)):jw w b rl f wd ot ns ps V':=by
 obtain⟨sn,sp,h1,h2,h3⟩:=h.ex;exact⟨⟨sn,sp,h1.grown hg (fun e=>by have:=aeM e;omega),fP h2 hg (by omega),h3.step hg (by omega)⟩,aS h.gr hg⟩
def jw.cells (h:jw w b rl f wd ot ns ps V): ∃A1 c1 A2 c2,ak V w.heap.size 68 #[.bool rl,.string f,.string wd,.string ot,.slice A1 ns.length c1,.slice A2 ps.length c2]/\
  V.ownsRow (w.heap.size+1) 9 1 (.slice A1 ns.length c1) ns.length (ns.map ST)/\aT 143 V (w.heap.size+1) (.slice A2 ps.length c2) ps:=by
 obtain⟨sn,sp,h1,h2,h3⟩:=h.ex;obtain⟨A1,c1,rfl⟩:=aH h2;obtain⟨A2,c2,rfl⟩:=h3.Ec;exact⟨A1,c1,A2,c2,h1,h2,h3⟩
def jE {W:World} {b:Nat} {v0 v1 v2 v3 v4 v5:Value} (h:ak W b 68 #[v0,v1,v2,v3,v4,v5]):
  (W.cell? ⟨b,0,none⟩=some v0/\W.cell? ⟨b,1,none⟩=some v1/\W.cell? ⟨b,2,none⟩=some v2/\W.cell? ⟨b,3,none⟩=some v3/\W.cell? ⟨b,4,none⟩=some v4/\W.cell? ⟨b,5,none⟩=some v5)/\
  (W.frozen? ⟨b,0,none⟩=false/\W.frozen? ⟨b,1,none⟩=false/\W.frozen? ⟨b,2,none⟩=false/\W.frozen? ⟨b,3,none⟩=false/\W.frozen? ⟨b,4,none⟩=false/\W.frozen? ⟨b,5,none⟩=false):=
 ⟨⟨h.cell 0,h.cell 1,h.cell 2,h.cell 3,h.cell 4,h.cell 5⟩,h.frozen 0,h.frozen 1,h.frozen 2,h.frozen 3,h.frozen 4,h.frozen 5⟩
def jw.aG {f' wd' MP:ByteArray} (h:jw w b rl f wd ot ns ps V) (i:Nat) (u:Value) (hi: ∀sn sp:Value,(#[.bool rl,.string f,.string wd,.string ot,sn,sp]:Array Value).setIfInBounds i u= #[.bool rl,.string f',.string wd',.string MP,sn,sp]):jw w b rl f' wd' MP ns ps (V.setCell ⟨w.heap.size,i,none⟩ u):=by
 obtain⟨sn,sp,h1,h2,h3⟩:=h.ex;have hset:=grownBy_set V ⟨w.heap.size,i,none⟩ u;exact⟨⟨sn,sp,(h1.aG i u).cast (hi sn sp),fP h2 hset (aeX _),h3.step hset (aeX _)⟩,vC h.gr hset (fun i e=>by cases e;exact aej _)⟩
def jw.set1 (h:jw w b rl f wd ot ns ps V) (z:ByteArray):jw w b rl z wd ot ns ps (V.setCell ⟨w.heap.size,1,none⟩ (.string z)):=h.aG 1 _ fun sn sp=>by simp
def jw.set2 (h:jw w b rl f wd ot ns ps V) (z:ByteArray):jw w b rl f z ot ns ps (V.setCell ⟨w.heap.size,2,none⟩ (.string z)):=h.aG 2 _ fun sn sp=>by simp
def jw.Xb (h:jw w b rl f wd ot ns ps V) (z:ByteArray):jw w b rl f wd z ns ps (V.setCell ⟨w.heap.size,3,none⟩ (.string z)):=h.aG 3 _ fun sn sp=>by simp
def jw.agd {ps':List Gr.P} {u:Value} (h:jw w b rl f wd ot ns ps V) (hp:aT 143 V (w.heap.size+1) u ps'):jw w b rl f wd ot ns ps' (V.setCell ⟨w.heap.size,5,none⟩ u):=by
 obtain⟨sn,sp,h1,h2,h3⟩:=h.ex;have hset:=grownBy_set V ⟨w.heap.size,5,none⟩ u;exact⟨⟨sn,u,(h1.aG 5 u).cast (by simp),fP h2 hset (aeX _),hp.step hset (aeX _)⟩,vC h.gr hset (fun i e=>by cases e;exact aej _)⟩
def jw.name {V':World} {x:List UInt8} {A1 A2:Option Addr} {c1 c2:Nat} {v:Value} (h:jw w b rl f wd ot ns [] V) (hb:b<w.heap.size)
  (hk:ak V w.heap.size 68 #[.bool rl,.string f,.string wd,.string ot,.slice A1 ns.length c1,.slice A2 0 c2]) (hs:V.ownsRow (w.heap.size+1) 9 1 (.slice A1 ns.length c1) ns.length (ns.map ST)) (hp:aT 143 V (w.heap.size+1) (.slice A2 0 c2) [])
  (hown:V'.ownsRow (w.heap.size+1) 9 1 v (ns.length+1) (ns.map ST++[ST x])) (hg:V.grownBy V' (Value.slice A1 ns.length c1).ownBlock) (hbl:Below (w.heap.size+1) V V'):jw w b rl f wd ot (ns++[x]) [] (V'.setCell ⟨w.heap.size,4,none⟩ v):=by
 obtain⟨l,e,-,h3⟩:=hp;obtain rfl:=ao6.1 e;have hgr:w.grownBy V' (some b):=⟨hbl.os.trans h.gr.os,hbl.tape.trans h.gr.tape,hbl.output.trans h.gr.output,aep h.gr.size hbl.size,fun i hi hne=>(hbl.block i (by omega)).trans (h.gr.block i hi hne)⟩
 have hset:=grownBy_set V' ⟨w.heap.size,4,none⟩ v;refine⟨⟨v,.slice A2 0 c2,((hk.below hbl (aeX _)).aG 4 v).cast (by simp), ?_,[],rfl,by simp,fP (eu h3 hg fun g c t fz hr hc=> ?_) hset (aeX _)⟩,vC hgr hset (fun i e=>by cases e;exact aej _)⟩
 ·have:=fP hown hset (aeX _)
  rw[aeo,afg];exact this
 obtain⟨-,c',hc'⟩:=mW hs g hr;rw[hc']at hc;cases hc
 decide
end
def adA (W:World) (B:Nat) (u:Value) (p:Cy.aI):Prop:=
 ∃sn sp,u=.agg #[.bool p.rel,ST p.first,ST p.word,ST p.other,sn,sp]/\W.ownsRow B 9 1 sn p.names.length (p.names.map ST)/\aT 143 W B sp p.props
def Qy (q b:Nat) (w:World) (x:Cy.aI×Cy.Cu) (e:Ending) (w':World):Prop:= ∃u,e=.returned u/\adA w' (w.heap.size+1) u x.1/\CS q b x.2 w'/\w.grownBy w' (some b)
def adB {fn:Func} {tmps:Array Value} {w V:World} {b:Nat} {rl:Bool} {zf zw zo:ByteArray} {sn sp u0 u1 u2 u3 u4 u5:Value} {p:Cy.aI} {c:Cy.Cu} (hfn:fn.results= #[.cell 2 68]) (ht:tmps.getD 2 undef=.pointer (some ⟨w.heap.size,0,none⟩))
  (hB:ak V w.heap.size 68 #[u0,u1,u2,u3,u4,u5]) (hb:b<w.heap.size) (hc:CS q b c V) (hg:w.grownBy V (some b)) (hx:adA V (w.heap.size+1) (.agg #[.bool rl,.string zf,.string zw,.string zo,sn,sp]) p):
  bodyPost prog fn (Qy q b w (p,c)) .ret {tmps:=tmps,defers:=[]} ((((((V.setCell ⟨w.heap.size,0,none⟩ (.bool rl)).setCell ⟨w.heap.size,1,none⟩ (.string zf)).setCell ⟨w.heap.size,2,none⟩ (.string zw)).setCell ⟨w.heap.size,3,none⟩ (.string zo)).setCell ⟨w.heap.size,4,none⟩ sn).setCell ⟨w.heap.size,5,none⟩ sp):=by
 obtain⟨W5,fU⟩:=aj (((((V.setCell ⟨w.heap.size,0,none⟩ (.bool rl)).setCell ⟨w.heap.size,1,none⟩ (.string zf)).setCell ⟨w.heap.size,2,none⟩ (.string zw)).setCell ⟨w.heap.size,3,none⟩ (.string zo)).setCell ⟨w.heap.size,4,none⟩ sn);obtain⟨h1,h2⟩:=BK hb hg hc (.bool rl) (.string zf) (.string zw) (.string zo) sn;have hk:=((((((hB.aG 0 (.bool rl)).aG 1 (.string zf)).aG 2 (.string zw)).aG 3 (.string zo)).aG 4 sn).aG 5 sp).cast (cs':= #[.bool rl,.string zf,.string zw,.string zo,sn,sp]) (by simp)
 have hgr:V.grownBy (W5.setCell ⟨w.heap.size,5,none⟩ sp) (some w.heap.size):=by
  rw[<-fU];exact aS (aS (aS (aS (aS (grownBy_set V ⟨w.heap.size,0,none⟩ _) (grownBy_set _ ⟨w.heap.size,1,none⟩ _)) (grownBy_set _ ⟨w.heap.size,2,none⟩ _)) (grownBy_set _ ⟨w.heap.size,3,none⟩ _)) (grownBy_set _ ⟨w.heap.size,4,none⟩ _)) (grownBy_set _ ⟨w.heap.size,5,none⟩ _)
 rw[fU]at h1 h2 hk⊢;have c0:=hk.cell 0;have c1:=hk.cell 1;have c2:=hk.cell 2;have c3:=hk.cell 3;have c4:=hk.cell 4;have c5:=hk.cell 5;simp at c0 c1 c2 c3 c4 c5;obtain⟨sn',sp',e,o1,o2⟩:=hx;simp only[Value.agg.injEq,aqv,apg,arT]at e;refine arW (v:=.agg #[.bool rl,.string zf,.string zw,.string zo,sn,sp]) ?_ rfl ⟨_,rfl,⟨sn',sp', ?_,fP o1 hgr (aeX _),o2.step hgr (aeX _)⟩, ?_, ?_⟩
 ·simp at ht
  simp[results,hfn,go_sem,ht,c0,c1,c2,c3,c4,c5]
 ·obtain⟨e0,e1,e2,e3,e4,e5⟩:=e
  rw[e0,e1,e2,e3,e4,e5]
 ·exact h1.below ((aoa w.heap.size _).setCell (p:=⟨w.heap.size,5,none⟩) (aej _) sp) hb
 exact mX h2 (p:=⟨w.heap.size,5,none⟩) (.inr (aej _)) sp
def Cy.alV {s:Cy.Cu} (h:Cy.isC [58] s=false): ∀(f:Nat) (acc:List Cy.L),Cy.qG f s acc=(acc,s)
 |0,_=>rfl
 |f+1,acc=>by rw[Cy.qG,h];rfl
def Cy.adC (s:Cy.Cu):(Cy.dA (Cy.aV [58] s)).2.bad=true\/(Cy.dA (Cy.aV [58] s)).2.l.length<s.l.length:=by
 rcases Cy.uF [58] s with h|h
 ·exact .inl (Cy.oz h)
 rcases Cy.Ja (Cy.aV [58] s) with h2|h2
 ·exact .inl h2
 exact .inr (by omega)
def alW (b:Nat) (s:Cy.Cu) (w:World) (h:CS q b s w) (hr:Cy.Aa s.l=true):Calls prog 59 #[.pointer (some ⟨b,0,none⟩)] w (Qy q b w (Cy.D6 s)):=by
 obtain⟨s1,Ia⟩:=aj (Cy.aV [40] s);have Oa:=ah (fun(V:World) (hV:CS q b s V)=>Ia▸jP b ⟨#[40]⟩ s V hV)
 obtain⟨YS,Ib⟩:=aj (Cy.dA s1);obtain⟨Ob,s2⟩:=YS;have zG:=fun(V:World) (hV:CS q b s1 V)=>BJ b s1 V hV
 rw[Ib]at zG;obtain⟨z2,Ic⟩:=aj (⟨Ob.toArray⟩:ByteArray);unfold ST at zG;simp only[Ic]at zG;have Oc:=ah zG;have YT:=ah Ic;clear zG Ic;obtain⟨s3,Ie⟩:=aj (Cy.aV [41] s2);have agf:=ah (fun(V:World) (hV:CS q b s2 V)=>Ie▸jP b ⟨#[41]⟩ s2 V hV)
 obtain⟨s4,Ig⟩:=aj (Cy.aV [45] s3);have Oe:=ah (fun(V:World) (hV:CS q b s3 V)=>Ig▸jP b ⟨#[45]⟩ s3 V hV)
 obtain⟨s5,Ih⟩:=aj (Cy.aV [91] s4);have Og:=ah (fun(V:World) (hV:CS q b s4 V)=>Ih▸jP b ⟨#[91]⟩ s4 V hV)
 obtain⟨apj,YU⟩:=aj (Cy.dA s5);obtain⟨agh,s6⟩:=apj;have Oh:=fun(V:World) (hV:CS q b s5 V)=>BJ b s5 V hV
 rw[YU]at Oh;obtain⟨z6,YV⟩:=aj (⟨agh.toArray⟩:ByteArray);unfold ST at Oh;simp only[YV]at Oh;have agi:=ah Oh;have apk:=ah YV;clear Oh YV;obtain⟨s7,YW⟩:=aj (Cy.aV [58] s6);have agj:=ah (fun(V:World) (hV:CS q b s6 V)=>YW▸jP b ⟨#[58]⟩ s6 V hV)
 obtain⟨apl,YX⟩:=aj (Cy.dA s7);obtain⟨SE,s8⟩:=apl;have Oi:=fun(V:World) (hV:CS q b s7 V)=>BJ b s7 V hV
 rw[YX]at Oi;obtain⟨z8,YZ⟩:=aj (⟨SE.toArray⟩:ByteArray);unfold ST at Oi;simp only[YZ]at Oi;have agk:=ah Oi;have apm:=ah YZ;clear Oi YZ;obtain⟨apn,Y0⟩:=aj (Cy.kX s8);obtain⟨ps,s9⟩:=apn;have agl:=ah (fun(V:World) (hV:CS q b s8 V)=>Y0▸ady b s8 V hV)
 obtain⟨sa,Y3⟩:=aj (Cy.aV [93] s9);have agm:=ah (fun(V:World) (hV:CS q b s9 V)=>Y3▸jP b ⟨#[93]⟩ s9 V hV)
 obtain⟨sb,Y4⟩:=aj (Cy.aV [45,62] sa);have agn:=ah (fun(V:World) (hV:CS q b sa V)=>Y4▸jP b ⟨#[45,62]⟩ sa V hV)
 obtain⟨sc,Y5⟩:=aj (Cy.aV [40] sb);have agp:=ah (fun(V:World) (hV:CS q b sb V)=>Y5▸jP b ⟨#[40]⟩ sb V hV)
 obtain⟨apo,Y6⟩:=aj (Cy.dA sc);obtain⟨agq,sd⟩:=apo;have Oj:=fun(V:World) (hV:CS q b sc V)=>BJ b sc V hV
 rw[Y6]at Oj;obtain⟨zd,Y7⟩:=aj (⟨agq.toArray⟩:ByteArray);unfold ST at Oj;simp only[Y7]at Oj;have agr:=ah Oj;have apq:=ah Y7;clear Oj Y7;obtain⟨se,Y8⟩:=aj (Cy.aV [41] sd);have ags:=ah (fun(V:World) (hV:CS q b sd V)=>Y8▸jP b ⟨#[41]⟩ sd V hV)
 have hres:Cy.D6 s=(⟨true,Ob,agh,agq,[SE],ps⟩,se):=by
  unfold Cy.D6 Cy.F7 Cy.I5 Cy.I4 Cy.relE;simp only[Ia,Ib,Ie,Ig,Ih,YU,YW,YX,Y0,Y3,Y4,Y5,Y6,Y8]
 rw[hres];obtain⟨W1,hW1⟩:=aj (w.alloc (.cells #[.bool false,.string ⟨#[]⟩,.string ⟨#[]⟩,.string ⟨#[]⟩,.slice none 0 0,.slice none 0 0] 68));have hb1:Below w.heap.size w W1:=hW1▸(aoa _ w).alloc (aej _) _;have gK:=ah (show ak W1 w.heap.size 68 #[.bool false,.string ⟨#[]⟩,.string ⟨#[]⟩,.string ⟨#[]⟩,.slice none 0 0,.slice none 0 0] from hW1▸ak.new _ _ _)
 have hR:=adz b s W1 (h.kept hb1);rw[hr]at hR;refine gq4 hR h.lt (bV hb1 (some b)) hW1 fun HR HB dO HW1=>?_;clear h hr hb1 hR hW1 hres Ia Ib Ie Ig Ih YU YW YX Y0 Y3 Y4 Y5 Y6 Y8;go_enter func59,ntmps59
 go_upto_region 1 with fail
 rw[HW1.out];clear HW1;go_wp2_with fail;refine tq8 HR fun w0 h0 g0=>?_;refine gq3 (gK.grown g0 (fun e=>by cases e;exact absurd HB.out (agt _))) (aS dO.out g0) h0.lt fun zH Y9 aA=>?_
 obtain⟨W2,hW2⟩:=aj (w0.alloc (.cells #[.bool true,.string ⟨#[]⟩,.string ⟨#[]⟩,.string ⟨#[]⟩,.slice none 0 0,.slice none 0 0] 68));obtain⟨pb,hpb⟩:=aj w0.heap.size;have hb2:Below w0.heap.size w0 W2:=hW2▸(aoa _ w0).alloc (aej _) _;have HT:=ah (show jw w0 b true ⟨#[]⟩ ⟨#[]⟩ ⟨#[]⟩ [] [] W2 from⟨⟨_,_,hW2▸ak.new _ _ _,arU _ _ _ _,aT.nil _ _ _⟩,bV hb2 _⟩)
 have HC:=ah (h0.kept hb2);have gu:=ah hpb;have AV:=ah (show w.heap.size+1<=w0.heap.size from zH.lt)
 have HW2:=ah hW2;clear h0 g0 hb2 hW2 hpb HR gK dO
 go_upto_region 2 with fail
 rw[HW2.out,gu.out];clear HW2;go_wp2_with fail;refine tq7 (Oa.out _ HC.out) fun w3 h g=>?_;have bP:=ah (show CS q b s1 w3 from h)
 have bD:=ah (HT.step aA.out g);clear h g HC HT Oa;have HC:=ah bP.out;have HT:=ah bD.out;clear bP bD;go_wp2_with fail;refine tq7 (Oc.out _ HC.out) fun w4 h g=>?_;have bP:=ah (show CS q b s2 w4 from h)
 have bD:=ah (HT.step aA.out g);clear h g HC HT Oc;obtain⟨A1,je,A2,jI,hbk,-,-⟩:=bD.cells;rw[gu.out]at hbk;obtain⟨⟨a0,a1,a2,a3,a4,a5⟩,f0,f1,f2,f3,f4,f5⟩:=jE hbk;have hT:=bD.set1 z2;have hC:=bP.grown (grownBy_set w4 ⟨w0.heap.size,1,none⟩ (.string z2)) aA.out;rw[gu.out]at hT hC;obtain⟨w5,hV⟩:=aj (w4.setCell ⟨pb,1,none⟩ (.string z2));rw[hV]at hT hC;refine gq3 hV hC hT fun HV HC HT=>?_;clear hbk hT hC hV bP bD
 go_upto_region 4 with fail
 rw[HV.out];clear HV a0 a1 a2 a3 a4 a5 f0 f1 f2 f3 f4 f5;obtain⟨A1,je,A2,jI,hbk,-,-⟩:=HT.cells;rw[gu.out]at hbk;have a0:=hbk.cell 0;simp only[aeN,aev]at a0;clear hbk;go_wp2_with fail;refine tq7 (agf.out _ HC.out) fun w6 h g=>?_;have bP:=ah (show CS q b s3 w6 from h)
 have bD:=ah (HT.step aA.out g);clear a0 h g HC HT agf;have HC:=ah bP.out;have HT:=ah bD.out;clear bP bD;go_wp2_with fail;refine tq7 (Oe.out _ HC.out) fun w7 h g=>?_;have bP:=ah (show CS q b s4 w7 from h)
 have bD:=ah (HT.step aA.out g);clear h g HC HT Oe;have HC:=ah bP.out;have HT:=ah bD.out;clear bP bD;go_wp2_with fail;refine tq7 (Og.out _ HC.out) fun w8 h g=>?_;have bP:=ah (show CS q b s5 w8 from h)
 have bD:=ah (HT.step aA.out g);clear h g HC HT Og;have HC:=ah bP.out;have HT:=ah bD.out;clear bP bD;go_wp2_with fail;refine tq7 (agi.out _ HC.out) fun w9 h g=>?_;have bP:=ah (show CS q b s6 w9 from h)
 have bD:=ah (HT.step aA.out g);clear h g HC HT agi;obtain⟨A1,je,A2,jI,hbk,-,-⟩:=bD.cells;rw[gu.out]at hbk;obtain⟨⟨a0,a1,a2,a3,a4,a5⟩,f0,f1,f2,f3,f4,f5⟩:=jE hbk;have hT:=bD.set2 z6;have hC:=bP.grown (grownBy_set w9 ⟨w0.heap.size,2,none⟩ (.string z6)) aA.out;rw[gu.out]at hT hC;obtain⟨w10,hV⟩:=aj (w9.setCell ⟨pb,2,none⟩ (.string z6));rw[hV]at hT hC;refine gq3 hV hC hT fun HV HC HT=>?_;clear hbk hT hC hV bP bD
 go_upto_region 9 with fail
 rw[HV.out];clear HV a0 a1 a2 a3 a4 a5 f0 f1 f2 f3 f4 f5;go_wp2_with fail;refine tq7 (agj.out _ HC.out) fun jg h g=>?_;have bP:=ah (show CS q b s7 jg from h)
 have bD:=ah (HT.step aA.out g);clear h g HC HT agj;have HC:=ah bP.out;have HT:=ah bD.out;clear bP bD;go_wp2_with fail;refine tq7 (agk.out _ HC.out) fun w12 h g=>?_;have bP:=ah (show CS q b s8 w12 from h)
 have bD:=ah (HT.step aA.out g);clear h g HC HT agk;have HC:=ah bP.out;have HT:=ah bD.out;clear bP bD;obtain⟨A1,je,A2,jI,hbk,ho1,ho2⟩:=HT.cells;have hbk0:=hbk;rw[gu.out]at hbk0;obtain⟨⟨a0,a1,a2,a3,a4,a5⟩,f0,f1,f2,f3,f4,f5⟩:=jE hbk0;have hsz:w0.heap.size+1<=w12.heap.size:=hbk.lt;refine gq3 hbk ho1 ho2 fun dP lH lW=>?_;have yS:0<1073741824:=by decide
 clear hbk hbk0 ho1 ho2;go_wp2_with (at_builtin;refine jD rfl (.tmp 30) (.tmp 32) 34 9 (.string ⟨#[]⟩) 16 ar0 DK rfl (by decide) rfl (w0.heap.size+1) (.slice A1 0 je) 0 _ w12 rfl lH.out (.string z8) rfl rfl yS hsz ?_)
 intro v9 nT aF aO bI aB;obtain⟨A9,c9,rfl⟩:=aH aF;have gB:=dP.below aB (aeX _);have g4:=gB.frozen 4;have e4:=gB.cell 4;simp only[aeN,aev,aeQ]at e4;rw[gu.out]at g4 e4;have hT:=HT.name aA.out (x:=SE) (v:=.slice A9 (0+1) c9) dP.out lH.out lW.out (by rw[show ST SE=.string z8 by rw[<-apm.out];rfl];exact aF) aO aB
 have hC:=(HC.below aB (by have:=aA.out;omega)).grown (grownBy_set nT ⟨w0.heap.size,4,none⟩ (.slice A9 (0+1) c9)) aA.out
 rw[gu.out]at hT hC;obtain⟨WX,hV⟩:=aj (nT.setCell ⟨pb,4,none⟩ (.slice A9 (0+1) c9));rw[hV]at hT hC;have HV:=ah hV;clear HC HT;have HC:=ah hC;have HT:=ah hT;have bf:=ah (show w0.heap.size+1<=WX.heap.size by obtain⟨_,_,hq,-⟩:=HT.ex;exact hq.lt)
 clear aF aO bI aB gB hT hC hV hsz yS a0 a1 a2 a3 a4 a5 f0 f1 f2 f3 f4 f5
 go_upto_region 12 with fail
 rw[HV.out];clear HV g4 e4;go_wp2_with fail;refine(agl.out _ HC.out).mono ?_;rintro e BZ ⟨u,rfl,hp,h,g⟩;have bP:=ah (show CS q b s9 BZ from h)
 have Ol:=bf.out;have bD:=ah (HT.step aA.out g);obtain⟨A1,je,A2,jI,hbk,-,-⟩:=bD.cells;rw[gu.out]at hbk;obtain⟨⟨a0,a1,a2,a3,a4,a5⟩,f0,f1,f2,f3,f4,f5⟩:=jE hbk;obtain⟨A3,Om,rfl⟩:=hp.Ec;have hT:=bD.agd (hp.base Ol);have hC:=bP.grown (grownBy_set BZ ⟨w0.heap.size,5,none⟩ (.slice A3 ps.length Om)) aA.out;rw[gu.out]at hT hC;obtain⟨w15,hV⟩:=aj (BZ.setCell ⟨pb,5,none⟩ (.slice A3 ps.length Om));rw[hV]at hT hC;have HV:=ah hV;clear HC HT;have HC:=ah hC;have HT:=ah hT;clear hp h g hbk hT hC hV bP bD Ol bf agl
 go_upto_region 13 with fail
 rw[HV.out];clear HV a0 a1 a2 a3 a4 a5 f0 f1 f2 f3 f4 f5;go_wp2_with fail;refine tq7 (agm.out _ HC.out) fun w16 h g=>?_;have bP:=ah (show CS q b sa w16 from h)
 have bD:=ah (HT.step aA.out g);clear h g HC HT agm;have HC:=ah bP.out;have HT:=ah bD.out;clear bP bD;go_wp2_with fail;refine tq7 (agn.out _ HC.out) fun w17 h g=>?_;have bP:=ah (show CS q b sb w17 from h)
 have bD:=ah (HT.step aA.out g);clear h g HC HT agn;have HC:=ah bP.out;have HT:=ah bD.out;clear bP bD;go_wp2_with fail;refine tq7 (agp.out _ HC.out) fun w18 h g=>?_;have bP:=ah (show CS q b sc w18 from h)
 have bD:=ah (HT.step aA.out g);clear h g HC HT agp;have HC:=ah bP.out;have HT:=ah bD.out;clear bP bD;go_wp2_with fail;refine tq7 (agr.out _ HC.out) fun Za h g=>?_;have bP:=ah (show CS q b sd Za from h)
 have bD:=ah (HT.step aA.out g);clear h g HC HT agr;obtain⟨A1,je,A2,jI,hbk,-,-⟩:=bD.cells;rw[gu.out]at hbk;obtain⟨⟨a0,a1,a2,a3,a4,a5⟩,f0,f1,f2,f3,f4,f5⟩:=jE hbk;have hT:=bD.Xb zd;have hC:=bP.grown (grownBy_set Za ⟨w0.heap.size,3,none⟩ (.string zd)) aA.out;rw[gu.out]at hT hC;obtain⟨w21,hV⟩:=aj (Za.setCell ⟨pb,3,none⟩ (.string zd));rw[hV]at hT hC;refine gq3 hV hC hT fun HV HC HT=>?_;clear hbk hT hC hV bP bD
 go_upto_region 17 with fail
 rw[HV.out];clear HV a0 a1 a2 a3 a4 a5 f0 f1 f2 f3 f4 f5;go_wp2_with fail;refine tq7 (ags.out _ HC.out) fun w22 h g=>?_;have bP:=ah (show CS q b se w22 from h)
 have bD:=ah (HT.step aA.out g);clear h g HC HT ags;have HC:=ah bP.out;have HT:=ah bD.out;clear bP bD;obtain⟨A1,je,A2,jI,hbk,ho1,ho2⟩:=HT.cells;rw[gu.out]at hbk;obtain⟨⟨a0,a1,a2,a3,a4,a5⟩,-⟩:=jE hbk;have fV:=zH.grown HT.gr (fun e=>by cases e;exact absurd HB.out (agt _))
 have qZ:=ah fV;obtain⟨⟨r0,r1,r2,r3,r4,r5⟩,f0,f1,f2,f3,f4,f5⟩:=jE fV;have Hw:=ah (aS Y9.out HT.gr);have HO:=ah (And.intro (own_base ho1 (apR AV.out)) (ho2.base (apR AV.out)));have hvf:pb≠w.heap.size:=by have:=AV.out;have:=gu.out;omega
 clear hbk ho1 ho2 fV;go_wp2;exact adB rfl rfl qZ.out HB.out HC.out Hw.out ⟨_,_,by simp only[ST,YT.out,apk.out,apq.out];try rfl,HO.out.1,HO.out.2⟩
def alX (b:Nat) (s:Cy.Cu) (w:World) (h:CS q b s w) (hr:Cy.Aa s.l=false):Calls prog 59 #[.pointer (some ⟨b,0,none⟩)] w (Qy q b w (Cy.D7 s)):=by
 obtain⟨s1,Ia⟩:=aj (Cy.aV [40] s);have Oa:=ah (fun(V:World) (hV:CS q b s V)=>Ia▸jP b ⟨#[40]⟩ s V hV)
 obtain⟨YS,Ib⟩:=aj (Cy.dA s1);obtain⟨Ob,s2⟩:=YS;have zG:=fun(V:World) (hV:CS q b s1 V)=>BJ b s1 V hV
 rw[Ib]at zG;obtain⟨z2,Ic⟩:=aj (⟨Ob.toArray⟩:ByteArray);unfold ST at zG;simp only[Ic]at zG;have Oc:=ah zG;have YT:=ah Ic;clear zG Ic;obtain⟨apv,Ie⟩:=aj (Cy.qG (s2.l.length+1) s2 []);obtain⟨ls,s3⟩:=apv;obtain⟨apw,Ig⟩:=aj (Cy.kX s3);obtain⟨ps,s4⟩:=apw;have Oe:=ah (fun(V:World) (hV:CS q b s3 V)=>Ig▸ady b s3 V hV)
 obtain⟨s5,Ih⟩:=aj (Cy.aV [41] s4);have Og:=ah (fun(V:World) (hV:CS q b s4 V)=>Ih▸jP b ⟨#[41]⟩ s4 V hV)
 have hres:Cy.D7 s=(⟨false,Ob,[],[],ls,ps⟩,s5):=by
  unfold Cy.D7;simp only[Ia,Ib,Ie,Ig,Ih]
 rw[hres];obtain⟨W1,hW1⟩:=aj (w.alloc (.cells #[.bool false,.string ⟨#[]⟩,.string ⟨#[]⟩,.string ⟨#[]⟩,.slice none 0 0,.slice none 0 0] 68));have hb1:Below w.heap.size w W1:=hW1▸(aoa _ w).alloc (aej _) _;have gK:=ah (show ak W1 w.heap.size 68 #[.bool false,.string ⟨#[]⟩,.string ⟨#[]⟩,.string ⟨#[]⟩,.slice none 0 0,.slice none 0 0] from hW1▸ak.new _ _ _)
 have hR:=adz b s W1 (h.kept hb1);rw[hr]at hR;refine gq5 hR h.lt (bV hb1 (some b)) hW1 Ie fun HR HB dO HW1 rZ=>?_;clear h hr hb1 hR hW1 hres Ia Ib Ie Ig Ih;go_enter func59,ntmps59
 go_upto_region 1 with fail
 rw[HW1.out];clear HW1;go_wp2_with fail;refine tq8 HR fun w0 h0 g0=>?_;refine gq3 (gK.grown g0 (fun e=>by cases e;exact absurd HB.out (agt _))) (aS dO.out g0) h0.lt fun zH Y9 aA=>?_
 obtain⟨W2,hW2⟩:=aj (w0.alloc (.cells #[.bool false,.string ⟨#[]⟩,.string ⟨#[]⟩,.string ⟨#[]⟩,.slice none 0 0,.slice none 0 0] 68));obtain⟨pb,hpb⟩:=aj w0.heap.size;have hb2:Below w0.heap.size w0 W2:=hW2▸(aoa _ w0).alloc (aej _) _;have HT:=ah (show jw w0 b false ⟨#[]⟩ ⟨#[]⟩ ⟨#[]⟩ [] [] W2 from⟨⟨_,_,hW2▸ak.new _ _ _,arU _ _ _ _,aT.nil _ _ _⟩,bV hb2 _⟩)
 have HC:=ah (h0.kept hb2);have gu:=ah hpb;have AV:=ah (show w.heap.size+1<=w0.heap.size from zH.lt)
 have HW2:=ah hW2;clear h0 g0 hb2 hW2 hpb HR gK dO
 go_upto_region 2 with fail
 rw[HW2.out,gu.out];clear HW2;go_wp2_with fail;refine tq7 (Oa.out _ HC.out) fun w3 h g=>?_;have bP:=ah (show CS q b s1 w3 from h)
 have bD:=ah (HT.step aA.out g);clear h g HC HT Oa;have HC:=ah bP.out;have HT:=ah bD.out;clear bP bD;go_wp2_with fail;refine tq7 (Oc.out _ HC.out) fun w4 h g=>?_;have bP:=ah (show CS q b s2 w4 from h)
 have bD:=ah (HT.step aA.out g);clear h g HC HT Oc;obtain⟨A1,je,A2,jI,hbk,-,-⟩:=bD.cells;rw[gu.out]at hbk;obtain⟨⟨a0,a1,a2,a3,a4,a5⟩,f0,f1,f2,f3,f4,f5⟩:=jE hbk;have hT:=bD.set1 z2;have hC:=bP.grown (grownBy_set w4 ⟨w0.heap.size,1,none⟩ (.string z2)) aA.out;rw[gu.out]at hT hC;obtain⟨w5,hV⟩:=aj (w4.setCell ⟨pb,1,none⟩ (.string z2));rw[hV]at hT hC;refine gq3 hV hC hT fun HV HC HT=>?_;clear hbk hT hC hV bP bD
 go_upto_region 4 with fail
 rw[HV.out];clear HV a0 a1 a2 a3 a4 a5 f0 f1 f2 f3 f4 f5;obtain⟨A1,je,A2,jI,hbk,-,-⟩:=HT.cells;rw[gu.out]at hbk;have a0:=hbk.cell 0;simp only[aeN,aev]at a0;clear hbk
 go_upto_region 19 with fail
 clear a0
 go_loopg [5] (s2.l.length+1) (fun g x5 wr=> ∃(sx:Cy.Cu) (acc:List (List UInt8)),CS q b sx wr/\jw w0 b false z2 ⟨#[]⟩ ⟨#[]⟩ acc [] wr/\Hid (Cy.qG g sx acc=(ls,s3))/\Hid (sx.bad=true\/sx.l.length<g)/\Hid (sx.bad=true\/acc.length+sx.l.length<=16777216))
 case atStart=>exact⟨s2,[],HC.out,HT.out,rZ.out,.inr (aeX _),.inr (by have:=HC.len;simp;omega)⟩
 obtain⟨sx,acc,hc,ht,HE,HF,HN⟩:=hrel;have HE:Hid (Cy.qG gk sx acc=(ls,s3)):=HE;have HF:Hid (sx.bad=true\/sx.l.length<gk):=HF;have HN:Hid (sx.bad=true\/acc.length+sx.l.length<=16777216):=HN;have oO:=ah hc;have HTX:=ah ht;clear hc ht HC HT rZ;have hI:=F8 b ⟨#[58]⟩ sx wr oO.out;obtain⟨bi,hbi⟩:=aj (Cy.isC (⟨#[58]⟩:ByteArray).data.toList sx);rw[hbi]at hI;have jG:=ah hI;have sH:=ah hbi;clear hI hbi;go_wp2_with fail;refine tq8 jG fun w8 h8 g8=>?_;have HC:=ah h8;have HT:=ah (HTX.step aA.out g8);clear h8 g8 jG oO HTX;cases bi with
 |false=>
  have he:=HE.out;rw[Cy.alV sH.out]at he;obtain⟨rfl,rfl⟩:=Prod.mk.inj he;have bf:=ah (show w0.heap.size+1<=w8.heap.size by obtain⟨_,_,hq,-⟩:=HT.ex;exact hq.lt)
  clear he HE;go_wp2_with fail;refine(Oe.out _ HC.out).mono ?_;rintro e BZ ⟨u,rfl,hp,h,g⟩;have bP:=ah (show CS q b s4 BZ from h)
  have Ol:=bf.out;have bD:=ah (HT.step aA.out g);obtain⟨A1,je,A2,jI,hbk,-,-⟩:=bD.cells;rw[gu.out]at hbk;obtain⟨⟨a0,a1,a2,a3,a4,a5⟩,f0,f1,f2,f3,f4,f5⟩:=jE hbk;obtain⟨A3,Om,rfl⟩:=hp.Ec;have hT:=bD.agd (hp.base Ol);have hC:=bP.grown (grownBy_set BZ ⟨w0.heap.size,5,none⟩ (.slice A3 ps.length Om)) aA.out;rw[gu.out]at hT hC;obtain⟨w15,hV⟩:=aj (BZ.setCell ⟨pb,5,none⟩ (.slice A3 ps.length Om));rw[hV]at hT hC;have HV:=ah hV;clear HC HT;have HC:=ah hC;have HT:=ah hT;clear hp h g hbk hT hC hV bP bD Ol bf Oe
  go_upto_region 24 with fail
  rw[HV.out];clear HV a0 a1 a2 a3 a4 a5 f0 f1 f2 f3 f4 f5;go_wp2_with fail;refine tq7 (Og.out _ HC.out) fun w16 h g=>?_;have bP:=ah (show CS q b s5 w16 from h)
  have bD:=ah (HT.step aA.out g);clear h g HC HT Og;have HC:=ah bP.out;have HT:=ah bD.out;clear bP bD;obtain⟨A1,je,A2,jI,hbk,ho1,ho2⟩:=HT.cells;rw[gu.out]at hbk;obtain⟨⟨a0,a1,a2,a3,a4,a5⟩,-⟩:=jE hbk;have fV:=zH.grown HT.gr (fun e=>by cases e;exact absurd HB.out (agt _))
  have qZ:=ah fV;obtain⟨⟨r0,r1,r2,r3,r4,r5⟩,f0,f1,f2,f3,f4,f5⟩:=jE fV;have Hw:=ah (aS Y9.out HT.gr);have HO:=ah (And.intro (own_base ho1 (apR AV.out)) (ho2.base (apR AV.out)));have hvf:pb≠w.heap.size:=by have:=AV.out;have:=gu.out;omega
  clear hbk ho1 ho2 fV;go_wp2;exact adB rfl rfl qZ.out HB.out HC.out Hw.out ⟨_,_,by simp only[ST,YT.out];try rfl,HO.out.1,HO.out.2⟩
 |true=>
  obtain⟨f,rfl⟩: ∃f,gk=f+1:=by
   rcases HF.out with h|h
   ·have:=Cy.D8 (m:=(⟨#[58]⟩:ByteArray).data.toList) h
    rw[sH.out]at this;cases this
   exact⟨gk - 1,by omega⟩
  have hnb:sx.bad=false:=by
   cases hb:sx.bad with
   |false=>rfl
   |true=>have:=Cy.D8 (m:=(⟨#[58]⟩:ByteArray).data.toList) hb;rw[sH.out]at this;cases this
  have he:=HE.out;rw[Cy.qG,aeu sH.out]at he;have hlen:=Cy.adC sx;obtain⟨sy,Zb⟩:=aj (Cy.aV [58] sx);have agu:=ah (fun(V:World) (hV:CS q b sx V)=>Zb▸jP b ⟨#[58]⟩ sx V hV)
  obtain⟨apx,Zc⟩:=aj (Cy.dA sy);obtain⟨SH,sz⟩:=apx;have Oo:=fun(V:World) (hV:CS q b sy V)=>BJ b sy V hV
  rw[Zc]at Oo;obtain⟨zl,Zd⟩:=aj (⟨SH.toArray⟩:ByteArray);unfold ST at Oo;simp only[Zd]at Oo;have agv:=ah Oo;have apy:=ah Zd;clear Oo Zd;rw[Zb,Zc]at he hlen;simp only at he hlen
  have hacc:acc.length+sx.l.length<=16777216:=by
   rcases HN.out with h|h
   ·rw[hnb]at h;cases h
   exact h
  refine gq4 hacc he hlen hnb fun zF mF bT jd=>?_;clear he hlen hacc hnb Zb Zc HE;go_wp2_with fail;refine tq7 (agu.out _ HC.out) fun w9 h g=>?_;have bP:=ah (show CS q b sy w9 from h)
  have bD:=ah (HT.step aA.out g);clear h g HC HT agu;have HC:=ah bP.out;have HT:=ah bD.out;clear bP bD;go_wp2_with fail;refine tq7 (agv.out _ HC.out) fun w10 h g=>?_;have bP:=ah (show CS q b sz w10 from h)
  have bD:=ah (HT.step aA.out g);clear h g HC HT agv;have HC:=ah bP.out;have HT:=ah bD.out;clear bP bD;obtain⟨nl,hnl⟩:=aj acc.length;have SI:=ah hnl;have yS:nl<1073741824:=by have:=zF.out;omega
  obtain⟨A1,je,A2,jI,hbk,ho1,ho2⟩:=HT.cells;have hbk0:=hbk;rw[gu.out]at hbk0;obtain⟨⟨a0,a1,a2,a3,a4,a5⟩,f0,f1,f2,f3,f4,f5⟩:=jE hbk0;have hsz:w0.heap.size+1<=w10.heap.size:=hbk.lt;refine gq3 hbk ho1 ho2 fun dP lH lW=>?_;rw[hnl]at a4;clear hbk hbk0 ho1 ho2 hnl;go_wp2_with (at_builtin;refine jD rfl (.tmp 57) (.tmp 59) 34 9 (.string ⟨#[]⟩) 16 ar0 DK rfl (by decide) rfl (w0.heap.size+1) (.slice A1 nl je) nl _ w10 rfl (SI.out▸lH.out) (.string zl) rfl rfl yS hsz ?_)
  intro v9 nT aF aO bI aB;obtain⟨A9,c9,rfl⟩:=aH aF;have gB:=dP.below aB (aeX _);have g4:=gB.frozen 4;have e4:=gB.cell 4;simp only[aeN,aev,aeQ]at e4;rw[gu.out]at g4 e4;rw[SI.out]at e4;have hT:=HT.name aA.out (x:=SH) (v:=.slice A9 (nl+1) c9) dP.out lH.out lW.out (by rw[SI.out,show ST SH=.string zl by rw[<-apy.out];rfl];exact aF) (by rw[SI.out];exact aO) aB
  have hC:=(HC.below aB (by have:=aA.out;omega)).grown (grownBy_set nT ⟨w0.heap.size,4,none⟩ (.slice A9 (nl+1) c9)) aA.out
  rw[gu.out]at hT hC;clear HC HT;have HC:=ah hC;have HT:=ah hT;clear aF aO bI aB gB hT hC hsz yS a0 a1 a2 a3 a4 a5 f0 f1 f2 f3 f4 f5;go_wp2
  go_roundg f
  case measure=>omega
  exact⟨sz,acc++[SH],HC.out,HT.out,mF.out,bT.imp id (fun h=>by rcases HF.out with h2|h2;(rw[jd.out]at h2;cases h2);omega),bT.imp id (fun h=>by have:=zF.out;rw[aeo,afP];omega)⟩
def adD (b:Nat) (s:Cy.Cu) (w:World) (h:CS q b s w):Calls prog 59 #[.pointer (some ⟨b,0,none⟩)] w (Qy q b w (Cy.pI s)):=by
 unfold Cy.pI;cases hr:Cy.Aa s.l with
 |true=>rw[aeu rfl];exact alW b s w h hr
 |false=>rw[aer (by decide)];exact alX b s w h hr
end Go.Proofs.YtdijgcnlbfgkdaaGreatDoor
