/- Contracts and plain laws,part 46. -/
import Derived.Test.YtoofbflplhbpbaaGreatDoorUO41
set_option maxHeartbeats 64000000
set_option maxRecDepth 1000000
set_option linter.all false
namespace Go.Proofs.YtoofbflplhbpbaaGreatDoor
open Go.Joins Go.ChangeShapes Go.WideShapes Go.ChangeAt Go.RowKit Go.Deep
theorem aj3 (x:Nat) (h:x<=2047):IntKind.i64.wrap (x:Int)=(x:Int):=by
 unfold IntKind.wrap;simp [IntKind.signed,IntKind.bits];omega
theorem am1 (x:Int): ∃q:Nat,q<=2047/\bits BinOp.and IntKind.i64 x 2047=(q:Int):=by
 refine ⟨(BitVec.ofInt 64 x &&& BitVec.ofInt 64 2047).toNat, ?_, ?_⟩
 ·rw [BitVec.toNat_and]
  exact ab5 Nat.and_le_right (by decide)
 have h:(BitVec.ofInt 64 x &&& BitVec.ofInt 64 2047).toNat<=2047:=by
  rw [BitVec.toNat_and];exact ab5 Nat.and_le_right (by decide)
 exact aj3 _ h
theorem aj6 {α β:Type} (F:α->β) (ns:List α) (R:List β) {i j:Nat} (hi:i<ns.length) (hj:j<ns.length) {v1 v2:β} (h1:(ns.map F ++ R)[j]?=some v1) (h2:(ns.map F ++ R)[i]?=some v2):
  ∃ns':List α,ns'.Perm ns/\((ns.map F ++ R).set i v1).set j v2=ns'.map F ++ R:=by
 rw [aky (by rw [ace];exact hj),acJ,ab2 hj] at h1
 rw [aky (by rw [ace];exact hi),acJ,ab2 hi] at h2
 obtain rfl:=acE h1;obtain rfl:=acE h2
 refine ⟨(ns.set i ns[j]).set j ns[i],List.set_set_perm hi hj, ?_⟩
 rw [List.set_append_left _ _ (by rw [ace];exact hi),List.set_append_left _ _ (by rw [am4,ace];exact hj),aoD,aoD]
theorem aj7 {α β:Type} (F:α->β) (ns:List α) (R:List β) {n i j:Nat} (hn:R.length=n) (hi:i<ns.length) (hj:j<ns.length) {v1 v2:β} (h1:(R ++ ns.map F)[n+j]?=some v1) (h2:(R ++ ns.map F)[n+i]?=some v2):
  ∃ns':List α,ns'.Perm ns/\((R ++ ns.map F).set (n+i) v1).set (n+j) v2=R ++ ns'.map F:=by
 subst hn;rw [aei (by omega),akD,acJ,ab2 hj] at h1
 rw [aei (by omega),akD,acJ,ab2 hi] at h2
 obtain rfl:=acE h1;obtain rfl:=acE h2
 refine ⟨(ns.set i ns[j]).set j ns[i],List.set_set_perm hi hj, ?_⟩
 rw [alZ _ _ (by omega),akD,alZ _ _ (by omega),akD,aoD,aoD]
theorem Cy.aj8 {ns ns':List Gr.N} {rs rs':List Gr.R} (h1:ns.Perm ns') (h2:rs.Perm rs'):(Cy.mJ ns rs).length=(Cy.mJ ns' rs').length:=by
 unfold Cy.mJ;rw [dA,dA,(h1.flatMap_right _).length_eq,(h2.flatMap_right _).length_eq]
theorem Cy.aj9 (ns:List Gr.N) (rs:List Gr.R):(ns.map Cy.bY ++ rs.map Cy.bD).flatten=Cy.mJ ns rs:=by
 unfold Cy.mJ;rw [amY,amm,amm]
structure Ji (W:World) (B:Nat) (u:Value) (ns:List Int):Prop where
 ex: ∃A c,u= .slice A ns.length c/\Reads W B 1 A ns.length (ns.map I64)
 ok:ns.length<=1048576
theorem Ji.below {W W':World} {B:Nat} {u:Value} {ns:List Int} (h:Ji W B u ns) (hb:Below B W W'):Ji W' B u ns:=by
 obtain ⟨A,c,e,hr⟩:=h.ex;exact ⟨⟨A,c,e,hr.below hb⟩,h.ok⟩
section
variable {H:Type} {enc:TypeId×Value->H} {W:World}
theorem akb {r:Reach} {b0:Nat} {v:Value} {d:DataW H} {p:List MemPlace} (hv:Value.okWide Tryz.prog W r b0 52 v) (h:DataW.Trod enc Tryz.prog W 0 (fun _=>true) true 52 v d p) (hk:Rows.uptoBulk d<=1048576):
  ∃ns,Ji W W.heap.size v ns:=by
 obtain ⟨a0,l0,c0,rfl⟩:=okWide_slice Tryz.underlying52 hv;obtain ⟨n,hf⟩:=h
 rcases open_ints Tryz.underlying52 Tryz.underlying3 (by kernel_rfl) hf with ⟨hc,hx⟩ |⟨a,len,cap,zs,hc,_,hl,_,hz,hx,hcell,hwf⟩
 ·have hc: [Value.slice a0 l0 c0]= [.slice none 0 0]:=hc
  simp only [akq,al7] at hc;exact ⟨[],⟨none,0,hc,Reads.none_⟩,by simp⟩
 have hc: [Value.slice a0 l0 c0]= [.slice (some a) len cap]:=hc;simp only [akq,al7] at hc
 simp only [alQ] at hz;have ht:(zs.take len).length=len:=by rw [acW];omega
 refine ⟨zs.take len,⟨some a,cap,by rw [ht];exact hc, ?_⟩, ?_⟩
 ·rw [ht]
  refine QJ (by simp;omega) fun i u hi=> ?_
  rw [acJ] at hi;obtain ⟨z,hz',rfl⟩:=ac7.1 hi;obtain ⟨hlt,he⟩:=acy.1 hz'
  have hlt':i<zs.length:=by rw [ht] at hlt;omega
  rw [hcell i hlt',amH,ab2 hlt'];rw [amA] at he;simp [I64,he]
 have e:=ab8 Prod.fst hx;simp only at e;rw [e] at hk;simp only [Rows.uptoBulk,QK] at hk
 omega
end
end Go.Proofs.YtoofbflplhbpbaaGreatDoor
namespace Go.Proofs.YtoofbflplhbpbaaGreatDoor
open Go.RowKit
theorem aqo {l:List (List UInt8)} {k:Nat} {x:List UInt8} (h:l[k]?=some x):(l.take (k+1)).flatten=(l.take k).flatten ++ x:=by
 rw [adZ,h];simp
theorem aqp (l:List (List UInt8)) (k:Nat):(l.take k).flatten.length<=l.flatten.length:=by
 conv=>rhs;rw [<-adE k l,amY,dA]
 omega
def FN (n:Gr.N):Value:=ST (Cy.bY n)
def FR (n:Gr.R):Value:=ST (Cy.bD n)
structure vU (g:Gr.G) (B0 B:Nat) (A:Option Addr) (m c:Nat) (W V:World):Prop where
 ex: ∃(ns:List Gr.N) (rs:List Gr.R),ns.Perm g.nodes/\rs.Perm g.au/\V.ownsRow B 9 1 (.slice A m c) m (ns.map FN ++ rs.map FR)
 bel:Below B0 W V
 le:B0<=B
section
variable {g:Gr.G} {B0 B m c nn rn:Nat} {A:Option Addr} {W V:World}
theorem vU.at (h:vU g B0 B A m c W V) {t:Nat} (ht:t<m): ∃gb z,A=some ⟨gb,0,none⟩/\V.cell? ⟨gb,t,none⟩=some (.string z)/\V.frozen? ⟨gb,t,none⟩=false:=by
 obtain ⟨ns,rs,-,-,ho⟩:=h.ex;have hl:=ho.1
 obtain ⟨gb,e,-,hc,hf,-⟩:=qI ho (t:=t) (by omega)
 have key: ∀u∈ns.map FN ++ rs.map FR,∃z:ByteArray,u= .string z:=fun u hu=>by
  rcases acU.1 hu with hu | hu
  ·obtain ⟨n,-,rfl⟩:=ad5.1 hu;exact ⟨_,rfl⟩
  obtain ⟨n,-,rfl⟩:=ad5.1 hu;exact ⟨_,rfl⟩
 obtain ⟨u,hu⟩: ∃u,(ns.map FN ++ rs.map FR)[t]?=some u:=⟨_,ab2 (by omega)⟩
 obtain ⟨z,rfl⟩:=key u (acf hu);exact ⟨gb,z,e,hc.trans hu,hf⟩
theorem vU.drewN (h:vU g B0 B A m c W V) (q:Nat):vU g B0 B A m c W (V.drewN q):=⟨h.ex,below_drewN h.bel q,h.le⟩
theorem vU.swap {gb i j:Nat} {vi vj:ByteArray} (h:vU g B0 B (some ⟨gb,0,none⟩) m c W V) (hn:g.nodes.length=nn) (hr:g.au.length=rn) (hij:(i<nn/\j<nn)\/(∃i' j',i=nn+i'/\j=nn+j'/\i'<rn/\j'<rn)) (hm:m=nn+rn)
  (z1:V.cell? ⟨gb,j,none⟩=some (.string vj)) (z2:V.cell? ⟨gb,i,none⟩=some (.string vi)):
  (∃u,(V.setCell ⟨gb,i,none⟩ (.string vj)).cell? ⟨gb,j,none⟩=some u)/\(V.setCell ⟨gb,i,none⟩ (.string vj)).frozen? ⟨gb,j,none⟩=false/\
   vU g B0 B (some ⟨gb,0,none⟩) m c W ((V.setCell ⟨gb,i,none⟩ (.string vj)).setCell ⟨gb,j,none⟩ (.string vi)).drew:=by
 obtain ⟨ns,rs,pn,pr,ho⟩:=h.ex;have hln:ns.length=nn:=by rw [pn.length_eq,hn]
 have hlr:rs.length=rn:=by rw [pr.length_eq,hr]
 have hi:i<m*1:=by rcases hij with h |⟨i',j',h⟩<;> omega
 have hj:j<m*1:=by rcases hij with h |⟨i',j',h⟩<;> omega
 obtain ⟨gb',e,hg,hc,hf,hs⟩:=qI ho hi;cases e;obtain ⟨gb',e,-,hc',-,-⟩:=qI ho hj;cases e
 have ho2:=hs (.string vj);obtain ⟨gb',e,-,hc2,hf2,hs2⟩:=qI ho2 hj;cases e
 have e1:(ns.map FN ++ rs.map FR)[j]?=some (.string vj):=hc'.symm.trans z1
 have e2:(ns.map FN ++ rs.map FR)[i]?=some (.string vi):=hc.symm.trans z2
 refine ⟨⟨_,by rw [hc2];exact ab2 (by rw [am4,dA,ace,ace];omega)⟩,hf2, ?_, ?_,h.le⟩
 ·rcases hij with ⟨h1,h2⟩ |⟨i',j',rfl,rfl,h1,h2⟩
  ·obtain ⟨ns',p',e'⟩:=aj6 FN ns (rs.map FR) (i:=i) (j:=j) (by omega) (by omega) e1 e2
   refine ⟨ns',rs,p'.trans pn,pr, ?_⟩;have:=hs2 (.string vi);rw [e'] at this;exact this
  obtain ⟨rs',p',e'⟩:=aj7 FR rs (ns.map FN) (n:=nn) (i:=i') (j:=j') (by rw [ace];exact hln) (by omega) (by omega) e1 e2
  refine ⟨ns,rs',pn,p'.trans pr, ?_⟩;have:=hs2 (.string vi);rw [e'] at this;exact this
 have hle:=h.le
 exact ((h.bel.setCell (p:=⟨gb,i,none⟩) (show B0<=gb by omega) _).setCell (p:=⟨gb,j,none⟩) (show B0<=gb by omega) _).drew
end
theorem akc (u:Value) (g:Gr.G) (um:Value) (mx:List Int) (w:World) (h:fE w w.heap.size u g) (hmx:Ji w w.heap.size um mx) (hL:Laid w):
  Calls Tryz.prog 9 #[u,um] w fun e w'=>e= .returned (.bool true)/\Below w.heap.size w w':=by
 have hok:=h.ok;obtain ⟨nn,hnn⟩: ∃n,g.nodes.length=n:=⟨_,rfl⟩
 obtain ⟨rn,hrn⟩: ∃n,g.au.length=n:=⟨_,rfl⟩;obtain ⟨A1,c1,A2,c2,rfl⟩:=h.form hnn hrn
 have am2:=hmx.ok;obtain ⟨Am,cm,rfl,hmr⟩:=hmx.ex;obtain ⟨mn,hmn⟩: ∃n,mx.length=n:=⟨_,rfl⟩
 rw [hmn] at am2 hmr⊢
 obtain ⟨W1,hW1⟩: ∃W,w.alloc (.cells #[.slice A1 nn c1, .slice A2 rn c2] 39)=W:=⟨_,rfl⟩
 have hb1:Below w.heap.size w W1:=hW1▸(Below.refl _ w).alloc (ab1 _) _
 have hk1:aj W1 w.heap.size 39 #[.slice A1 nn c1, .slice A2 rn c2]:=hW1▸aj.new _ _ _
 have iF:=ah (Jd W1 (fun V hV=>hL.below (hb1.trans (hV.mono hb1.size))))
 have HW1:=ah hW1;have HB1:=ah hb1;have aT:=ah hk1
 have HG:=ah (fun (V:World) (hb:Below w.heap.size w V)=>h.below hb)
 have HMX:=ah (fun (V:World) (hb:Below w.heap.size w V)=>hmr.below hb)
 have aK:=ah hok;have HL:=ah hL;have ay:=ah (And.intro hnn hrn)
 clear h hok hnn hrn hW1 hb1 hk1 hL hmx hmr;go_enter Tryz.func9,Tryz.ntmps9
 go_upto_region 1 with fail
 rw [HW1.out];clear HW1;go_wp2_with fail;refine iF.out.mono ?_;rintro e w2 ⟨rfl,b2⟩
 have HB2:=ah (HB1.out.trans (b2.mono HB1.out.size))
 have aC:=ah (aT.out.below b2 aT.out.lt);clear b2 iF;obtain ⟨c0,c1⟩:=cells2 aC.out
 obtain ⟨E,hE⟩: ∃E,(Gr.check g).1=E:=⟨_,rfl⟩
 have hck:=NR w.heap.size _ g w2 (HG.out w2 HB2.out) HB2.out.size;rw [hE] at hck
 have aU:=ah hck;have HE:=ah hE;clear hck hE;go_wp2_with fail;refine aU.out.mono ?_
 rintro e w3 ⟨rfl,b3⟩;have HB3:=ah (HB2.out.trans (b3.mono HB2.out.size))
 have bJ:=ah (aC.out.below b3 aC.out.lt);clear b3 c0 c1 aU;obtain ⟨c0,c1⟩:=cells2 bJ.out
 cases E with
 | succ e=>
  have hne:(((e+1:Nat):Int) !=0)=true:=by rw [acV];omega
  go_wp2;go_ret;exact ⟨rfl,HB3.out⟩
 | zero=>
  have hgood:=Gr.xJ.1 HE.out;have wX:=NT hgood aK.out;have iQ:=NS wX aK.out
  have iP:=ah (fun (ns:List Gr.N) (rs:List Gr.R) (pn:ns.Perm g.nodes) (pr:rs.Perm g.au)=>show (Cy.mJ ns rs).length<=8388608/\Cy.parse (Cy.mJ ns rs)=(g,0) from by
   have e:(Cy.mJ ns rs).length=(Cy.print g).length:=by rw [Cy.aj8 pn pr,Cy.MZ]
   have hl:=iQ.2.2.1
   exact ⟨by omega,Cy.Zm wX pn pr (by omega)⟩)
  have lX:=ah (TQ w.heap.size _ g w3 (HG.out w3 HB3.out) HB3.out.size);clear hgood wX iQ
  go_wp2_with fail;refine lX.out.mono ?_;rintro e w4 ⟨A4,c4,rfl,o4,b4⟩;rw [HE.out]
  have hlr:fZ g=g.nodes.map Cy.bY ++ g.au.map Cy.bD:=by unfold fZ Cy.lines;rw [ab7 HE.out]
  obtain ⟨m,hm⟩: ∃m,(fZ g).length=m:=⟨_,rfl⟩
  have aeG:m=nn+rn:=by rw [<-hm,hlr,dA,ace,ace,ay.out.1,ay.out.2]
  rw [hm] at o4⊢
  have hS:vU g w3.heap.size (w3.heap.size+1) A4 m c4 w4 w4:=⟨⟨g.nodes,g.au, .refl _, .refl _,by
   have e:(fZ g).map ST=g.nodes.map FN ++ g.au.map FR:=by rw [hlr,ade,aez,aez];rfl
   rwa [e] at o4⟩,Below.refl _ _,by omega⟩
  have HS:=ah hS;have dH:=ah aeG;have HB4:=ah (HB3.out.trans (b4.mono HB3.out.size))
  have BP:=ah (bJ.out.below b4 bJ.out.lt);have H34:=ah (And.intro bJ.out.lt b4)
  have BQ:(m:Int)<=4294967296:=by have:=dH.out;have:=aK.out.nl;have:=aK.out.rl;have:=ay.out;omega
  have O5:(mn:Int)<=1048576:=by omega
  clear c0 c1 hlr hm o4 b4 hS lX aeG;obtain ⟨c0,c1⟩:=cells2 BP.out;go_wp2_with fail
  go_quiet (fail)
  go_wp2_with fail;have iM:=ah (HS.out.drewN nq);clear c0 c1 HS
  go_loopg [42] mn (fun q x wr=> ∃k:Nat,x= .int .i64 k/\k+q=mn/\Hid (vU g w3.heap.size (w3.heap.size+1) A4 m c4 w4 wr))
  case atStart=>exact ⟨0,rfl,by omega,iM.out⟩
  obtain ⟨k,rfl,hk,hs⟩:=hrel
  have HS:Hid (vU g w3.heap.size (w3.heap.size+1) A4 m c4 w4 wr):=hs;clear hs iM
  cases gk with
  | succ q=>
   have hkn:k<mn:=by omega
   have dD:(k:Int)<mn:=by omega
   have pk:(0:Int)<=(k:Int):=by omega
   have tk:((k:Int)).toNat=k:=by omega
   have hbw:Below w.heap.size w wr:=HB4.out.trans (HS.out.bel.mono HB3.out.size)
   obtain ⟨p,o,x,rfl,-,hx,hp⟩:=(HMX.out wr hbw).cell hkn;rw [acJ] at hx
   obtain ⟨z,-,rfl⟩:=ac7.1 hx;unfold I64 at hp;obtain ⟨a,ha,hand⟩:=am1 z;have HK:=ah hk
   clear hkn hbw hx hk
   rcases Decidable.em (nn=0) with hn0 | hn0<;> rcases Decidable.em (rn=0) with hr0 | hr0
   ·
    have tn:decide (0<nn)=false:=abX (by omega)
    have Xn:decide ((0:Int)<(nn:Int))=false:=abX (by omega)
    have Xo: ¬(0:Int)<(nn:Int):=by omega
    have tr:decide (0<rn)=false:=abX (by omega)
    have Xp:decide ((0:Int)<(rn:Int))=false:=abX (by omega)
    have Xq: ¬(0:Int)<(rn:Int):=by omega
    have dI:=ah hn0;have HR0:=ah hr0;clear hn0 hr0;go_wp2
    go_roundg q
    case measure=>omega
    exact ⟨k+1,int_eq (by omega),by have:=HK.out;omega,HS.out⟩
   ·
    have tn:decide (0<nn)=false:=abX (by omega)
    have Xn:decide ((0:Int)<(nn:Int))=false:=abX (by omega)
    have Xo: ¬(0:Int)<(nn:Int):=by omega
    have tr:decide (0<rn)=true:=abW (by omega)
    have Xp:decide ((0:Int)<(rn:Int))=true:=abW (by omega)
    have Xq:(0:Int)<(rn:Int):=by omega
    have vrI:((rn:Int) == 0)=false:=by rw [ab3];omega
    have xrI:((rn:Int)=0)=False:=ala (by omega)
    have dI:=ah hn0;have HR0:=ah hr0;clear hn0 hr0;obtain ⟨i2,hi2⟩: ∃i,a % rn=i:=⟨_,rfl⟩
    have hil:i2<rn:=hi2▸amI _ (by have:=dI.out;have:=HR0.out;have:=dH.out;omega)
    have hmod:Int.tmod (a:Int) (rn:Int)=(i2:Int):=by rw [<-hi2];exact (amQ a rn).symm
    obtain ⟨i1,hi1⟩: ∃i,nn+i2=i:=⟨_,rfl⟩
    have hadd:(nn:Int)+(i2:Int)=(i1:Int):=by have:=dI.out;have:=HR0.out;have:=dH.out;omega
    have hS0:=HS.out
    obtain ⟨gb,v0,e0,wY,fz0⟩:=hS0.at (t:=nn) (by have:=dI.out;have:=HR0.out;have:=dH.out;omega)
    obtain ⟨gb',vi,e1,wZ,fz1⟩:=hS0.at (t:=i1) (by have:=dI.out;have:=HR0.out;have:=dH.out;omega)
    cases e0;cases e1
    have hsw:=hS0.swap (i:=nn) (j:=i1) ay.out.1 ay.out.2 (.inr ⟨0,i2,by have:=dI.out;have:=HR0.out;have:=dH.out;omega,hi1.symm,by have:=dI.out;have:=HR0.out;have:=dH.out;omega,hil⟩) (by have:=dI.out;have:=HR0.out;have:=dH.out;omega) wZ wY
    have nZ:=ah hsw
    have h0m:(0:Int)<(m:Int):=by have:=dI.out;have:=HR0.out;have:=dH.out;omega
    have hnm:(nn:Int)<(m:Int):=by have:=dI.out;have:=HR0.out;have:=dH.out;omega
    have pnn:(0:Int)<=(nn:Int):=by omega
    have tnn:((nn:Int)).toNat=nn:=by omega
    have EW:(i1:Int)<(m:Int):=by have:=dI.out;have:=HR0.out;have:=dH.out;omega
    have EX:(0:Int)<=(i1:Int):=by have:=dI.out;have:=HR0.out;have:=dH.out;omega
    have ti1:((i1:Int)).toNat=i1:=by have:=dI.out;have:=HR0.out;have:=dH.out;omega
    clear hsw hS0 hil hi1 hi2
    go_upto_region 16 with fail
    obtain ⟨⟨u2,EY⟩,fz2,xg⟩:=nZ.out;have lg:=ah xg;clear xg nZ
    go_big_region
    go_upto_region 17 with fail
    obtain ⟨w5,hw5⟩: ∃x,((wr.setCell ⟨gb,nn,none⟩ (.string vi)).setCell ⟨gb,i1,none⟩ (.string v0)).drew=x:=⟨_,rfl⟩
    rw [hw5] at lg⊢;clear wY wZ EY fz0 fz1 fz2 hw5 hmod EW EX ti1 h0m hnm pnn tnn hadd
    go_wp2
    go_roundg q
    case measure=>omega
    exact ⟨k+1,int_eq (by omega),by have:=HK.out;omega,lg.out⟩
   ·
    have tn:decide (0<nn)=true:=abW (by omega)
    have Xn:decide ((0:Int)<(nn:Int))=true:=abW (by omega)
    have Xo:(0:Int)<(nn:Int):=by omega
    have vnI:((nn:Int) == 0)=false:=by rw [ab3];omega
    have xnI:((nn:Int)=0)=False:=ala (by omega)
    have tr:decide (0<rn)=false:=abX (by omega)
    have Xp:decide ((0:Int)<(rn:Int))=false:=abX (by omega)
    have Xq: ¬(0:Int)<(rn:Int):=by omega
    have dI:=ah hn0;have HR0:=ah hr0;clear hn0 hr0;obtain ⟨i1,hi1⟩: ∃i,a % nn=i:=⟨_,rfl⟩
    have hil:i1<nn:=hi1▸amI _ (by have:=dI.out;have:=HR0.out;have:=dH.out;omega)
    have hmod:Int.tmod (a:Int) (nn:Int)=(i1:Int):=by rw [<-hi1];exact (amQ a nn).symm
    have hS0:=HS.out
    obtain ⟨gb,v0,e0,wY,fz0⟩:=hS0.at (t:=0) (by have:=dI.out;have:=HR0.out;have:=dH.out;omega)
    obtain ⟨gb',vi,e1,wZ,fz1⟩:=hS0.at (t:=i1) (by have:=dI.out;have:=HR0.out;have:=dH.out;omega)
    subst e0;cases e1
    have hsw:=hS0.swap (i:=0) (j:=i1) ay.out.1 ay.out.2 (.inl ⟨by have:=dI.out;have:=HR0.out;have:=dH.out;omega,hil⟩) (by have:=dI.out;have:=HR0.out;have:=dH.out;omega) wZ wY
    have nZ:=ah hsw
    have h0m:(0:Int)<(m:Int):=by have:=dI.out;have:=HR0.out;have:=dH.out;omega
    have hnm:(nn:Int)<=(m:Int):=by have:=dH.out;omega
    have pnn:(0:Int)<=(nn:Int):=by omega
    have tnn:((nn:Int)).toNat=nn:=by omega
    have EW:(i1:Int)<(m:Int):=by have:=dI.out;have:=HR0.out;have:=dH.out;omega
    have EX:(0:Int)<=(i1:Int):=by have:=dI.out;have:=HR0.out;have:=dH.out;omega
    have ti1:((i1:Int)).toNat=i1:=by have:=dI.out;have:=HR0.out;have:=dH.out;omega
    clear hsw hS0 hil hi1
    go_upto_region 13 with fail
    obtain ⟨⟨u2,EY⟩,fz2,xg⟩:=nZ.out;have lg:=ah xg;clear xg nZ
    go_big_region
    go_upto_region 14 with fail
    obtain ⟨w5,hw5⟩: ∃x,((wr.setCell ⟨gb,0,none⟩ (.string vi)).setCell ⟨gb,i1,none⟩ (.string v0)).drew=x:=⟨_,rfl⟩
    rw [hw5] at lg⊢;clear wY wZ EY fz0 fz1 fz2 hw5 hmod EW EX ti1 h0m hnm pnn tnn;go_wp2
    go_roundg q
    case measure=>omega
    exact ⟨k+1,int_eq (by omega),by have:=HK.out;omega,lg.out⟩
   have tn:decide (0<nn)=true:=abW (by omega)
   have Xn:decide ((0:Int)<(nn:Int))=true:=abW (by omega)
   have Xo:(0:Int)<(nn:Int):=by omega
   have vnI:((nn:Int) == 0)=false:=by rw [ab3];omega
   have xnI:((nn:Int)=0)=False:=ala (by omega)
   have tr:decide (0<rn)=true:=abW (by omega)
   have Xp:decide ((0:Int)<(rn:Int))=true:=abW (by omega)
   have Xq:(0:Int)<(rn:Int):=by omega
   have vrI:((rn:Int) == 0)=false:=by rw [ab3];omega
   have xrI:((rn:Int)=0)=False:=ala (by omega)
   have dI:=ah hn0;have HR0:=ah hr0;clear hn0 hr0;obtain ⟨i1,hi1⟩: ∃i,a % nn=i:=⟨_,rfl⟩
   have hil:i1<nn:=hi1▸amI _ (by have:=dI.out;have:=HR0.out;have:=dH.out;omega)
   have hmod:Int.tmod (a:Int) (nn:Int)=(i1:Int):=by rw [<-hi1];exact (amQ a nn).symm
   have hS0:=HS.out
   obtain ⟨gb,v0,e0,wY,fz0⟩:=hS0.at (t:=0) (by have:=dI.out;have:=HR0.out;have:=dH.out;omega)
   obtain ⟨gb',vi,e1,wZ,fz1⟩:=hS0.at (t:=i1) (by have:=dI.out;have:=HR0.out;have:=dH.out;omega)
   subst e0;cases e1
   have hsw:=hS0.swap (i:=0) (j:=i1) ay.out.1 ay.out.2 (.inl ⟨by have:=dI.out;have:=HR0.out;have:=dH.out;omega,hil⟩) (by have:=dI.out;have:=HR0.out;have:=dH.out;omega) wZ wY
   have nZ:=ah hsw
   have h0m:(0:Int)<(m:Int):=by have:=dI.out;have:=HR0.out;have:=dH.out;omega
   have hnm:(nn:Int)<=(m:Int):=by have:=dH.out;omega
   have pnn:(0:Int)<=(nn:Int):=by omega
   have tnn:((nn:Int)).toNat=nn:=by omega
   have EW:(i1:Int)<(m:Int):=by have:=dI.out;have:=HR0.out;have:=dH.out;omega
   have EX:(0:Int)<=(i1:Int):=by have:=dI.out;have:=HR0.out;have:=dH.out;omega
   have ti1:((i1:Int)).toNat=i1:=by have:=dI.out;have:=HR0.out;have:=dH.out;omega
   clear hsw hS0 hil hi1
   go_upto_region 13 with fail
   obtain ⟨⟨u2,EY⟩,fz2,xg⟩:=nZ.out;have lg:=ah xg;clear xg nZ
   go_big_region
   go_upto_region 14 with fail
   obtain ⟨w5,hw5⟩: ∃x,((wr.setCell ⟨gb,0,none⟩ (.string vi)).setCell ⟨gb,i1,none⟩ (.string v0)).drew=x:=⟨_,rfl⟩
   rw [hw5] at lg⊢;clear wY wZ EY fz0 fz1 fz2 hw5 hmod EW EX ti1 h0m hnm pnn tnn
   have HSa:=ah lg.out;clear lg;obtain ⟨i2,hi2⟩: ∃i,a % rn=i:=⟨_,rfl⟩
   have hil:i2<rn:=hi2▸amI _ (by have:=dI.out;have:=HR0.out;have:=dH.out;omega)
   have hmod:Int.tmod (a:Int) (rn:Int)=(i2:Int):=by rw [<-hi2];exact (amQ a rn).symm
   obtain ⟨i1,hi1⟩: ∃i,nn+i2=i:=⟨_,rfl⟩
   have hadd:(nn:Int)+(i2:Int)=(i1:Int):=by have:=dI.out;have:=HR0.out;have:=dH.out;omega
   have hS0:=HSa.out
   obtain ⟨gb,v0,e0,wY,fz0⟩:=hS0.at (t:=nn) (by have:=dI.out;have:=HR0.out;have:=dH.out;omega)
   obtain ⟨gb',vi,e1,wZ,fz1⟩:=hS0.at (t:=i1) (by have:=dI.out;have:=HR0.out;have:=dH.out;omega)
   cases e0;cases e1
   have hsw:=hS0.swap (i:=nn) (j:=i1) ay.out.1 ay.out.2 (.inr ⟨0,i2,by have:=dI.out;have:=HR0.out;have:=dH.out;omega,hi1.symm,by have:=dI.out;have:=HR0.out;have:=dH.out;omega,hil⟩) (by have:=dI.out;have:=HR0.out;have:=dH.out;omega) wZ wY
   have nZ:=ah hsw
   have h0m:(0:Int)<(m:Int):=by have:=dI.out;have:=HR0.out;have:=dH.out;omega
   have hnm:(nn:Int)<(m:Int):=by have:=dI.out;have:=HR0.out;have:=dH.out;omega
   have pnn:(0:Int)<=(nn:Int):=by omega
   have tnn:((nn:Int)).toNat=nn:=by omega
   have EW:(i1:Int)<(m:Int):=by have:=dI.out;have:=HR0.out;have:=dH.out;omega
   have EX:(0:Int)<=(i1:Int):=by have:=dI.out;have:=HR0.out;have:=dH.out;omega
   have ti1:((i1:Int)).toNat=i1:=by have:=dI.out;have:=HR0.out;have:=dH.out;omega
   clear hsw hS0 hil hi1 hi2
   go_upto_region 16 with fail
   obtain ⟨⟨u2,EY⟩,fz2,xg⟩:=nZ.out;have lg:=ah xg;clear xg nZ
   go_big_region
   go_upto_region 17 with fail
   obtain ⟨w6,hw6⟩: ∃x,((w5.setCell ⟨gb,nn,none⟩ (.string vi)).setCell ⟨gb,i1,none⟩ (.string v0)).drew=x:=⟨_,rfl⟩
   rw [hw6] at lg⊢;clear wY wZ EY fz0 fz1 fz2 hw6 hmod EW EX ti1 h0m hnm pnn tnn hadd
   go_wp2
   go_roundg q
   case measure=>omega
   exact ⟨k+1,int_eq (by omega),by have:=HK.out;omega,lg.out⟩
  | zero=>
   obtain ⟨ns,rs,pn,pr,ho⟩:=HS.out.ex
   obtain ⟨LL,tJ⟩: ∃l,ns.map Cy.bY ++ rs.map Cy.bD=l:=⟨_,rfl⟩
   have hrow:ns.map FN ++ rs.map FR=LL.map ST:=by rw [<-tJ,ade,aez,aez];rfl
   rw [hrow] at ho;have hpl:=iP.out ns rs pn pr
   have hfl:LL.flatten=Cy.mJ ns rs:=by rw [<-tJ];exact Cy.aj9 ns rs
   have hll:LL.length=m:=by have:=ho.1;rwa [ace,aoR] at this
   have qP:=ah (And.intro hfl hpl);have dF:=ah hll
   have EU:=ah (HB4.out.trans (HS.out.bel.mono HB3.out.size))
   have PE:=ah (BP.out.below HS.out.bel H34.out.1)
   have lU:=ah (show Reads wr wr.heap.size 1 A4 m (LL.map ST) from Reads.je ho)
   have Xk:=ah (show fA wr.heap.size (.slice (some ⟨wr.heap.size,0,none⟩) 0 0) [] (wr.alloc (.cells #[] 5)) from ⟨wr.heap.size,0,#[],(0,0),rfl,ab1 _,heap_alloc_new wr _, .inl (ab1 _),ab1 _,by unfold maxLen;omega,rfl,rfl⟩)
   have aH:=ah (show Below wr.heap.size wr (wr.alloc (.cells #[] 5)) from (Below.refl _ wr).alloc (ab1 _) _)
   obtain ⟨wL,hwL⟩: ∃x,x=wr:=⟨_,rfl⟩;subst hwL;obtain rfl:mn=k:=by omega
   clear ho hrow hpl hfl hll pn pr tJ HS hk;go_wp2_with fail
   go_loopg [15,90] m (fun q s x wt=> ∃(k n:Nat) (A:Option Addr) (c:Nat) (l:List UInt8),s= .slice A n c/\x= .int .i64 k/\k+q=m/\Hid (l.length=n/\l=(LL.take k).flatten/\fA wL.heap.size (.slice A n c) l wt/\Below wL.heap.size wL wt))
   case atStart=>exact ⟨0,0,_,_, [],rfl,rfl,by omega,rfl,rfl,Xk.out,aH.out⟩
   obtain ⟨k,n,A,c,l,rfl,rfl,hk,hs⟩:=hrel
   have HS:Hid (l.length=n/\l=(LL.take k).flatten/\fA wL.heap.size (.slice A n c) l wr/\Below wL.heap.size wL wr):=hs
   clear hs;cases gk with
   | zero=>
    obtain rfl:k=m:=by omega
    have hf:LL.take k=LL:=acg (by rw [dF.out];exact ab1 _)
    have hcv:=HS.out.2.2.1.conv
    obtain ⟨z,hz⟩: ∃z:ByteArray,(⟨l.toArray⟩:ByteArray)=z:=⟨_,rfl⟩;rw [hz] at hcv
    have hzl:z.data.toList=Cy.mJ ns rs:=by rw [<-hz,HS.out.2.1,hf,qP.out.1]
    have bZ:=ah (EU.out.trans (HS.out.2.2.2.mono EU.out.size))
    have dY:=ah (PE.out.below HS.out.2.2.2 PE.out.lt)
    have hps:=FY z (by rw [Lib.size_eq,hzl];have:=qP.out.2.1;omega) wr (fun X hX=>HL.out.below (bZ.out.trans (hX.mono bZ.out.size)))
    rw [hzl,qP.out.2.2] at hps;have nX:=ah hps;clear hk hf hz hzl hps;go_wp2_with fail
    refine nX.out.mono ?_;rintro e w7 ⟨u7,rfl,jl,b7⟩;have oq:=jl.yH aK.out
    obtain ⟨A3,c3,A5,c5,rfl⟩:=oq.form ay.out.1 ay.out.2
    obtain ⟨W8,AO⟩: ∃W,w7.alloc (.cells #[.slice A3 nn c3, .slice A5 rn c5] 39)=W:=⟨_,rfl⟩
    obtain ⟨gc,hgc⟩: ∃x,w7.heap.size=x:=⟨_,rfl⟩
    have hb8:Below w7.heap.size w7 W8:=AO▸(Below.refl _ w7).alloc (ab1 _) _
    have Lp:=ah (show aj W8 gc 39 #[.slice A3 nn c3, .slice A5 rn c5] by rw [<-AO,<-hgc];exact aj.new _ _ _)
    have h68:Below wr.heap.size wr W8:=b7.trans (hb8.mono b7.size)
    have qy:=ah (dY.out.below h68 dY.out.lt)
    have oW:=ah (bZ.out.trans (h68.mono bZ.out.size))
    have WX:=ah (NK w7.heap.size _ _ g W8 ((HG.out W8 oW.out).more (ab5 bZ.out.size b7.size)) (oq.below hb8) hb8.size)
    have Lr:=ah AO;have Dk:=ah hgc;clear hgc AO hb8 h68 oq jl b7 nX
    go_upto_region 25 with fail
    rw [Lr.out,Dk.out];clear Lr Dk;obtain ⟨c0,c1⟩:=cells2 Lp.out
    obtain ⟨d0,d1⟩:=cells2 qy.out;go_wp2_with fail;refine WX.out.mono ?_
    rintro e w9 ⟨rfl,b9⟩;have dh:=ah (oW.out.trans (b9.mono oW.out.size));clear b9;go_wp2
    go_ret;exact ⟨rfl,dh.out⟩
   | succ q=>
    have hkn:k<m:=by omega
    have dD:(k:Int)<m:=by omega
    have pk:(0:Int)<=(k:Int):=by omega
    have tk:((k:Int)).toNat=k:=by omega
    obtain ⟨p,o,x,rfl,-,hx,hp⟩:=(lU.out.below HS.out.2.2.2).cell hkn;rw [acJ] at hx
    obtain ⟨y,hy,rfl⟩:=ac7.1 hx;unfold ST at hp
    obtain ⟨z,hz⟩: ∃z:ByteArray,(⟨y.toArray⟩:ByteArray)=z:=⟨_,rfl⟩;rw [hz] at hp
    have hft:=aqo hy
    have hzl:l.length+z.size<1073741824:=by
     have h1:=aqp LL (k+1);rw [hft,dA,<-HS.out.2.1,qP.out.1] at h1;have h2:=qP.out.2.1
     rw [<-hz,bf];omega
    have iC:=ah (show l ++ z.data.toList=(LL.take (k+1)).flatten by rw [hft,<-HS.out.2.1,<-hz])
    have HK:=ah hk;have lN:=ah hzl;clear hkn hx hy hz hft hzl hk
    go_wp2_with (at_builtin;refine abE rfl (.tmp 94) (.tmp 95) rfl wL.heap.size (.slice A n c) l wr rfl HS.out.2.2.1 z rfl lN.out HS.out.2.2.2.size ?_)
    intro v5 w5 tN hb5;obtain ⟨A5,c5,hv5⟩:=tN.form
    obtain ⟨n5,yD⟩: ∃n5,(l ++ z.data.toList).length=n5:=⟨_,rfl⟩;rw [yD] at hv5;subst hv5
    have HF:=ah (show (l ++ z.data.toList).length=n5/\(l ++ z.data.toList)=(LL.take (k+1)).flatten/\fA wL.heap.size (.slice A5 n5 c5) (l ++ z.data.toList) w5/\Below wL.heap.size wL w5 from ⟨yD,iC.out,tN,HS.out.2.2.2.trans hb5⟩)
    clear tN hb5 yD hp;go_wp2
    go_roundg q
    case measure=>omega
    exact ⟨k+1,n5,A5,c5,_,rfl,int_eq (by omega),by have:=HK.out;omega,HF.out⟩
end Go.Proofs.YtoofbflplhbpbaaGreatDoor
