/- Lemmas. -/
import Derived.Test.YtdijgcnlbfgkdaaGreatDoorUP35
import Derived.Deep.WholeRow
set_option maxHeartbeats 64000000
set_option maxRecDepth 1000000
set_option linter.all false
namespace Go.Proofs.YtdijgcnlbfgkdaaGreatDoor
open Go.RowKit Go.Proofs.Tryz
def There (V:World) (b:Nat) (ids:List Int):Prop:= ∃cs:Array Value,ak V b 140 cs/\cs.size=1024/\ ∀i:Nat,i<1024->cs[i]?=some (.bool (decide ((i:Int)∈ids)))
def There.below {V V':World} {b:Nat} {ids:List Int} (h:There V b ids) (hb:Below V.heap.size V V'):There V' b ids:=by
 obtain⟨cs,h1,h2⟩:=h;exact⟨cs,h1.below hb h1.lt,h2⟩
def There.cell {V:World} {b:Nat} {ids:List Int} (h:There V b ids) {i:Nat} (hi:i<1024):V.cell? ⟨b,i,none⟩=some (.bool (decide ((i:Int)∈ids)))/\V.frozen? ⟨b,i,none⟩=false:=by
 obtain⟨cs,h1,h2,h3⟩:=h;exact⟨(h1.cell i).trans (h3 i hi),h1.frozen i⟩
def There.put {V:World} {b:Nat} {ids:List Int} (h:There V b ids) {i:Nat} (hi:i<1024):There (V.setCell ⟨b,i,none⟩ (.bool true)) b (ids++[(i:Int)]):=by
 obtain⟨cs,h1,h2,h3⟩:=h;refine⟨_,h1.aG i (.bool true),by rw[Array.size_setIfInBounds];exact h2,fun j hj=> ?_⟩
 rw[aqd]
 split
 ·rename_i e
  subst e;rw[aeu (by omega)]
  simp
 rename_i e;rw[h3 j hj]
 congr 2
 rw[afN];simp only[aeU,afq,afm]
 constructor
 ·exact .inl
 rintro(h|h)
 ·exact h
 omega
structure Bc (w:World) (u v:Value) (ids:List Int) (V:World):Prop where
 box:ak V w.heap.size 26 #[u,v]
 arr:There V (w.heap.size+1) ids
 bel:Below w.heap.size w V
def Bc.below {w V V':World} {u v:Value} {ids:List Int} (h:Bc w u v ids V) (hb:Below V.heap.size V V'):Bc w u v ids V':=
 ⟨h.box.below hb h.box.lt,h.arr.below hb,h.bel.trans (hb.mono h.bel.size)⟩
def Bc.put {w V:World} {u v:Value} {ids:List Int} (h:Bc w u v ids V) {i:Nat} (hi:i<1024):Bc w u v (ids++[(i:Int)]) (V.setCell ⟨w.heap.size+1,i,none⟩ (.bool true)):=
 ⟨h.box.far (by simp) _,h.arr.put hi,h.bel.setCell (p:=⟨w.heap.size+1,i,none⟩) (by simp) _⟩
def Ac (p:Option Int):Int:=p.getD (-1)
def amG:(prog.info? 140).map (fun i=>(i.zero,i.size))=some (some (.agg (Array.replicate 1024 (.bool false))),1024):=by kernel_rfl
def ad8 {g:Gr.G} {k:Nat} {n:Gr.N} (hn:g.nodes[k]?=some n):Gr.jo (Gr.aQ Gr.N.id g.nodes k) n=if n.id<0\/1024<=n.id then 61 else if(Gr.aQ Gr.N.id g.nodes k).any (fun q=>decide (n.id<=q))=true then 6 else Jd n:=rfl
def amH (ids:List Int) (P:Option Int) (r:Gr.R):Gr.jM ids P r=if r.id<0\/2048<=r.id then 62 else if P.any (fun q=>decide (r.id<=q))=true then 6 else if Gr.fD r.type=false then 60 else if r.src∉ids\/r.dst∉ids then 65 else Gr.dJ r.props:=rfl
def ad9 {p:Option Int} {x:Int} (h:0<=x):p.any (fun q=>decide (x<=q))=decide (x<=Ac p):=by
 cases p with
 |none=>exact(dF (show¬x<= -1 by omega)).symm
 |some q=>rfl
def aea {α:Type} {l:List α} {key:α->Int} {k:Nat} {a:α} (h:l[k]?=some a):Ac (Gr.aQ key l (k+1))=key a:=by
 show Ac (l[k]?.map key)=key a
 rw[h];rfl
def amI: ∃cs:Array Value,cs.size=1024/\(∀w,(zeroValue 140).run prog w=.ok (.agg cs) w)/\
  (∀W:World,(storeCells ⟨W.heap.size,0,none⟩ cs.toList 0).run prog (W.alloc (.cells cs 140))=.ok () (W.alloc (.cells cs 140)))/\ ∀W:World,There (W.alloc (.cells cs 140)) W.heap.size []:=by
 have hcz:(Array.replicate 1024 (Value.bool false)).size=1024:=Array.size_replicate;obtain⟨hz,hi⟩:=zero_of_info amG;refine⟨Array.replicate 1024 (Value.bool false),hcz,hz,fun W=>run_storeCells_new (P:=prog) W 140 _ _ (by rw[hcz];exact hi) rfl ?_,fun W=>⟨_,ak.new _ _ _,hcz,fun i hi=> ?_⟩⟩
 ·rw[Array.all_eq_true]
  intro i hi;rw[Array.getElem_replicate];rfl
 rw[Array.getElem?_replicate,aeu hi];simp
def amJ (B:Nat) (u:Value) (g:Gr.G) (w:World) (h:nN w B u g) (hB:B<=w.heap.size):
  Calls prog 20 #[u] w fun e w'=>e=.returned (.tuple #[.int .i64 ((Gr.check g).1:Nat),.int .i64 ((Gr.check g).2:Nat)])/\Below w.heap.size w w':=by
 have hok:=h.ok;have HG:=ah h;obtain⟨An,cn,Ar,cr,rfl,hN,hR⟩:=h.ex;obtain⟨nn,hnn⟩:=aj g.nodes.length;obtain⟨rn,hrn⟩:=aj g.ay.length;have hnl:=hok.nl;have hrl:=hok.rl;rw[hnn]at hnl HG⊢;rw[hrn]at hrl HG⊢;refine gq6 hN hR hok hnn hrn hB fun HN HR bF aC fH aN=>?_;obtain⟨cs,hcz,hz,hsc,hst⟩:=amI;have hsc:=hsc (w.alloc (.cells #[.slice An nn cn,.slice Ar rn cr] 26));have hst:=hst (w.alloc (.cells #[.slice An nn cn,.slice Ar rn cr] 26));rw[asB]at hsc hst;obtain⟨W1,hW1⟩:=aj ((w.alloc (.cells #[.slice An nn cn,.slice Ar rn cr] 26)).alloc (.cells cs 140));have jc:=ah (show Bc w (.slice An nn cn) (.slice Ar rn cr) [] W1 from hW1▸⟨(ak.new w _ _).alloc _,hst,((aoa _ w).alloc (aej _) _).alloc (by simp) _⟩)
 have HW1:=ah hW1;clear h hN hR hok hnn hrn hB hst hW1;go_enter func20,ntmps20
 go_upto_region 2 with fail
 rw[HW1.out];clear HW1 hsc hz hcz;obtain⟨c0,c1⟩:=cells2 jc.box;go_wp2_with fail
 go_loopg [5,6] nn (fun q la x wr=> ∃k:Nat,la=.int .i64 (Ac (Gr.aQ Gr.N.id g.nodes k))/\x=.int .i64 k/\k+q=nn/\Bc w (.slice An nn cn) (.slice Ar rn cr) ((g.nodes.map Gr.N.id).take k) wr/\Hid (∀j a,j<k->g.nodes[j]?=some a->Gr.jo (Gr.aQ Gr.N.id g.nodes j) a=0))
 case atStart=>exact⟨0,rfl,rfl,by omega,jc.out,fun j a h=>by omega⟩
 obtain⟨k,rfl,rfl,hk,hrl,hz⟩:=hrel;have HZ:Hid (∀j a,j<k->g.nodes[j]?=some a->Gr.jo (Gr.aQ Gr.N.id g.nodes j) a=0):=hz;have aZ:=ah hrl;have HK:=ah hk;clear hz hrl c0 c1 jc;obtain⟨c0,c1⟩:=cells2 aZ.box;cases gk with
 |succ q=>
  have hkn:k<nn:=by omega
  have dW:(k:Int)<nn:=by omega
  have pk:(0:Int)<=(k:Int):=by omega
  have tk:((k:Int)).toNat=k:=by omega
  obtain⟨n,hn⟩: ∃n,g.nodes[k]?=some n:=⟨_,aen (by rw[aC.out];exact hkn)⟩
  have hBw:=aZ.bel.mono aN.out;obtain⟨b,o,Al,cl,Ap,cp,rfl,hlt,⟨d0,d1,d2⟩,ra,rp⟩:=(HN.below hBw (lT.below hBw)).node hn;have kM:=bF.ns n (aew hn);have hck:=ad8 hn;have CQ:=ah hn;obtain⟨P,hP⟩:=aj (Gr.aQ Gr.N.id g.nodes k);rw[hP]at hck⊢;refine gq3 (fun(e:Nat) (he:Gr.jo P n=e) (hne:e≠0)=>acR hn (hP▸he) hne HZ.out) (fun(he:Gr.jo P n=0)=>zW hn HZ.out (hP▸he)) (fun(x:Int) (h:0<=x)=>ad9 (p:=P) h) fun HST Hf gI=>?_
  obtain⟨LA,Fa⟩:=aj (Ac P);rw[Fa]at gI⊢;have bH:=ah hck;clear hkn hn hck hP Fa hk;by_cases h1:n.id<0
  ·have hr:=HST.out 61 (by rw[bH.out,aeu (.inl h1)]) (by decide)
   have HRR:=ah hr;have t1:decide (n.id<0)=true:=aei h1;clear hr hlt ra rp hBw kM;go_wp2
   go_ret2
   exact⟨by rw[HRR.out];rfl,aZ.bel⟩
  have t1:decide (n.id<0)=false:=dF h1;have h1':0<=n.id:=by omega
  by_cases h2:1023<n.id
  ·have hr:=HST.out 61 (by rw[bH.out,aeu (.inr (by omega))]) (by decide)
   have HRR:=ah hr;have t2:decide (1023<n.id)=true:=aei h2;clear hr hlt ra rp hBw kM;go_wp2
   go_ret2
   exact⟨by rw[HRR.out];rfl,aZ.bel⟩
  have t2:decide (1023<n.id)=false:=dF h2;obtain⟨b3,hb3⟩:=aj (decide (n.id<=LA));have HB3:=ah (show Gr.jo P n=if b3=true then 6 else Jd n by rw[bH.out,aer (by omega),gI.out n.id h1',hb3])
  cases b3 with
  |true=>
   have hle:=aeL hb3;have hr:=HST.out 6 HB3.out (by decide)
   have HRR:=ah hr;clear hr hlt ra rp hBw kM;go_wp2
   go_ret2
   exact⟨by rw[HRR.out];rfl,aZ.bel⟩
  |false=>
   have hle:LA<n.id:=by have:=aex hb3;omega
   obtain⟨i,hi⟩: ∃i:Nat,n.id=(i:Int):=⟨n.id.toNat,by omega⟩
   have hi4:i<1024:=by omega
   have hiI:(i:Int)<1024:=by omega
   have pi:(0:Int)<=(i:Int):=by omega
   have ti:((i:Int)).toNat=i:=by omega
   obtain⟨a0,f0⟩:=aZ.arr.cell hi4;obtain⟨W5,fU⟩:=aj (wr.setCell ⟨w.heap.size+1,i,none⟩ (.bool true));have qV:=ah (show Bc w (.slice (some ⟨b,o,none⟩) nn cn) (.slice Ar rn cr) ((g.nodes.map Gr.N.id).take k++[(i:Int)]) W5 from fU▸aZ.put hi4)
   have hb5:Below B wr W5:=fU▸(aoa B wr).setCell (p:=⟨w.heap.size+1,i,none⟩) (aep aN.out (ahy _)) _;obtain⟨ln,hln⟩:=aj n.labels.length;obtain⟨pn,hpn⟩:=aj n.props.length;have hcall:=amw B n Al Ap cl cp W5 (ra.below hb5) (rp.below hb5 (bg.below hb5)) (aep aN.out qV.bel.size) kM;rw[hi,hln,hpn]at hcall;rw[hi]at d0 t1 t2 hb3 hle h1';rw[hln]at d1;rw[hpn]at d2;obtain⟨E,hE⟩:=aj (Jd n);rw[hE]at hcall HB3;refine gq4 hcall (fun(X:World) (hb:Below B wr X)=>show X.cell? ⟨b,o+k*3,none⟩=some (.int .i64 (i:Int))/\X.cell? ⟨b,o+k*3+1,none⟩=some (.slice Al ln cl)/\X.cell? ⟨b,o+k*3+2,none⟩=some (.slice Ap pn cp) from⟨(hb.cell (p:=⟨b,o+k*3,none⟩) hlt).trans d0,(hb.cell (p:=⟨b,o+k*3+1,none⟩) hlt).trans d1,(hb.cell (p:=⟨b,o+k*3+2,none⟩) hlt).trans d2⟩) hb5 fU fun Af HD dI tN=>?_
   have HIK:=ah (show(g.nodes.map Gr.N.id).take (k+1)=(g.nodes.map Gr.N.id).take k++[(i:Int)] from by rw[<-hi];exact IX (a:=n.id) (by rw[aeY,CQ.out];rfl))
   have JJ:=ah (show Ac (Gr.aQ Gr.N.id g.nodes (k+1))=(i:Int) from(aea (key:=Gr.N.id) CQ.out).trans hi)
   clear hi hi4 fU hb5 hln hpn hcall hE hlt ra rp hBw kM h1 h2
   go_upto_region 13 with fail
   rw[tN.out];clear d0 d1 d2 c0 c1 a0 f0;obtain⟨d0,d1,d2⟩:=HD.out W5 dI.out;obtain⟨c0,c1⟩:=cells2 qV.box;go_wp2_with fail;refine mq8 Af fun w6 hb6=>?_;have oJ:=ah (qV.below hb6);clear hb6 d0 d1 d2 c0 c1;cases E with
   |succ e=>
    have hr:=HST.out (e+1) HB3.out (by omega)
    have HRR:=ah hr;have hne:(((e+1:Nat):Int) !=0)=true:=by rw[afd];omega
    clear hr;go_wp2
    go_ret2
    exact⟨by rw[HRR.out];rfl,oJ.bel⟩
   |zero=>
    have ZH:=ah (Hf.out HB3.out);go_wp2
    go_roundg q
    case measure=>omega
    exact⟨k+1,by rw[JJ.out],int_eq (by omega),by have:=HK.out;omega,by rw[HIK.out];exact oJ.out,ZH.out⟩
 |zero=>
  obtain rfl:nn=k:=by omega
  have JO: ∀j a,g.nodes[j]?=some a->Gr.jo (Gr.aQ Gr.N.id g.nodes j) a=0:=fun j a ha=>HZ.out j a (by have:=(aeK.1 ha).1;have:=aC.out;omega) ha
  have ZI: ∀x∈g.nodes.map Gr.N.id,0<=x/\x<=1023:=fun x hx=>by
   obtain⟨n,hn,rfl⟩:=ant.1 hx;obtain⟨j,hj,e⟩:=agM hn;have:=JO j n (by rw[aen hj,e])
   rw[ad8 (by rw[aen hj,e])]at this
   split at this
   ·cases this
   omega
  obtain⟨ids,xR⟩:=aj (g.nodes.map Gr.N.id);rw[aeG (by rw[aeP,aC.out];exact aej _),xR]at aZ
  rw[xR]at ZI;refine gq3 JO ZI xR fun jA Tf aha=>?_;obtain⟨LA0,ahb⟩:=aj (Ac (Gr.aQ Gr.N.id g.nodes nn));rw[ahb];clear hk JO ZI xR HZ ahb;go_wp2_with fail
  go_loopg [5,9] rn (fun q la x wr=> ∃m:Nat,la=.int .i64 (Ac (Gr.aQ Gr.R.id g.ay m))/\x=.int .i64 m/\m+q=rn/\Bc w (.slice An nn cn) (.slice Ar rn cr) ids wr/\Hid (∀j a,j<m->g.ay[j]?=some a->Gr.jM (g.nodes.map Gr.N.id) (Gr.aQ Gr.R.id g.ay j) a=0))
  case atStart=>exact⟨0,rfl,rfl,by omega,aZ.out,fun j a h=>by omega⟩
  obtain⟨m,rfl,rfl,hm,hrl2,hz⟩:=hrel;have HZ:Hid (∀j a,j<m->g.ay[j]?=some a->Gr.jM (g.nodes.map Gr.N.id) (Gr.aQ Gr.R.id g.ay j) a=0):=hz;have Fb:=ah hrl2;have HK:=ah hm;clear hz hrl2 c0 c1 aZ;obtain⟨c0,c1⟩:=cells2 Fb.box;cases gk with
  |succ q=>
   have hmn:m<rn:=by omega
   have Yl:(m:Int)<rn:=by omega
   have pk:(0:Int)<=(m:Int):=by omega
   have tk:((m:Int)).toNat=m:=by omega
   obtain⟨r,hr⟩: ∃r,g.ay[m]?=some r:=⟨_,aen (by rw[fH.out];exact hmn)⟩
   have hBw:=Fb.bel.mono aN.out;obtain⟨b,o,Ap,cp,rfl,hlt,⟨d0,d1,d2,d3,d4⟩,rp⟩:=(HR.below hBw (lU.below hBw)).rel hr;have Ti:=bF.rs r (aew hr);obtain⟨P,hP⟩:=aj (Gr.aQ Gr.R.id g.ay m);have hck:=amH ids P r;rw[hP];refine gq3 (fun(e:Nat) (he:Gr.jM ids P r=e) (hne:e≠0)=>acS jA.out hr (by rw[aha.out,hP];exact he) hne HZ.out) (fun(he:Gr.jM ids P r=0)=>zW hr HZ.out (by rw[aha.out,hP];exact he)) (fun(x:Int) (h:0<=x)=>ad9 (p:=P) h) fun HST Hf gI=>?_
   obtain⟨LA,Fa⟩:=aj (Ac P);rw[Fa]at gI⊢;have bH:=ah hck;have oC:=ah (aea (key:=Gr.R.id) hr);simp only[ST]at d1;obtain⟨z,hz⟩:=aj (⟨r.type.toArray⟩:ByteArray);rw[hz]at d1;have hzl:z.size<=1073741824:=by rw[<-hz];exact(dR _).symm▸Ti.tl
   have hgn:=fun(V:World)=>IZ z V hzl
   have hzd:z.data.toList=r.type:=by rw[<-hz]
   rw[hzd]at hgn;obtain⟨pn,hpn⟩:=aj r.props.length;obtain⟨rb,hrb⟩:=aj wr.heap.size;rw[hpn]at d4;obtain⟨WR,Tj⟩:=aj (wr.alloc (.cells #[.int .i64 r.id,.string z,.int .i64 r.src,.int .i64 r.dst,.slice Ap pn cp] 74));have hb5:Below wr.heap.size wr WR:=Tj▸(aoa _ wr).alloc (aej _) _;have iJ:=ah (Fb.below hb5);have gK:=ah (show ak WR rb 74 #[.int .i64 r.id,.string z,.int .i64 r.src,.int .i64 r.dst,.slice Ap pn cp] by rw[<-Tj,<-hrb];exact ak.new _ _ _)
   have hpw:=fun(X:World) (hb:Below wr.heap.size wr X)=>ac7 B Ap cp r.props X (rp.below (hb.mono (aep aN.out Fb.bel.size)) (bg.below (hb.mono (aep aN.out Fb.bel.size)))) (aep (aep aN.out Fb.bel.size) hb.size) Ti.pl Ti.ps
   rw[hpn]at hpw;refine gq5 hpw hgn hb5 Tj hrb fun iT gW dI NI OE=>?_;clear hmn hr hBw hlt Ti hP hck Fa hz hzl hgn hzd hpn hrb Tj hb5 hpw rp hm
   go_upto_region 21 with fail
   rw[NI.out,OE.out];clear d0 d1 d2 d3 d4 c0 c1 NI OE;obtain⟨d0,d1,d2,d3,d4⟩:=cells5 gK.out;obtain⟨c0,c1⟩:=cells2 iJ.box;by_cases h1:r.id<0
   ·have hr:=HST.out 62 (by rw[bH.out,aeu (.inl h1)]) (by decide)
    have HRR:=ah hr;have t1:decide (r.id<0)=true:=aei h1;clear hr;go_wp2
    go_ret2
    exact⟨by rw[HRR.out,aC.out,ahn];rfl,iJ.bel⟩
   have t1:decide (r.id<0)=false:=dF h1;have h1':0<=r.id:=by omega
   by_cases h2:2047<r.id
   ·have hr:=HST.out 62 (by rw[bH.out,aeu (.inr (by omega))]) (by decide)
    have HRR:=ah hr;have t2:decide (2047<r.id)=true:=aei h2;clear hr;go_wp2
    go_ret2
    exact⟨by rw[HRR.out,aC.out,ahn];rfl,iJ.bel⟩
   have t2:decide (2047<r.id)=false:=dF h2;obtain⟨b3,hb3⟩:=aj (decide (r.id<=LA));have HB3:=ah (show Gr.jM ids P r=if b3=true then 6 else if Gr.fD r.type=false then 60 else if r.src∉ids\/r.dst∉ids then 65 else Gr.dJ r.props by rw[bH.out,aer (by omega),gI.out r.id h1',hb3])
   cases b3 with
   |true=>
    have hle:=aeL hb3;have hr:=HST.out 6 HB3.out (by decide)
    have HRR:=ah hr;clear hr;go_wp2
    go_ret2
    exact⟨by rw[HRR.out,aC.out,ahn];rfl,iJ.bel⟩
   |false=>
    have hle:LA<r.id:=by have:=aex hb3;omega
    obtain⟨GN,hg⟩:=aj (Gr.fD r.type);rw[hg]at gW HB3;have HB4:=ah (show Gr.jM ids P r=if GN=false then 60 else if r.src∉ids\/r.dst∉ids then 65 else Gr.dJ r.props from HB3.out)
    clear hg HB3;go_wp2_with fail;refine mq7 (gW.out _) fun w6 hb6=>?_;refine gq3 (iJ.below hb6) (gK.below hb6 gK.lt) (dI.trans (hb6.mono dI.size)) fun iU rY G9=>?_;clear hb6 d0 d1 d2 d3 d4 c0 c1 iJ gK;obtain⟨d0,d1,d2,d3,d4⟩:=cells5 rY.out;cases GN with
    |false=>
     have hr:=HST.out 60 HB4.out (by decide)
     have HRR:=ah hr;clear hr;go_wp2
     go_ret2
     exact⟨by rw[HRR.out,aC.out,ahn];rfl,iU.bel⟩
    |true=>
     have HBAD:=ah (fun(h:r.src∉ids\/r.dst∉ids)=>HST.out 65 (by rw[HB4.out,aer (by decide),aeu h]) (by decide))
     by_cases e1:r.src<0
     ·have hr:=HBAD.out (.inl (fun h=>by have:=Tf.out _ h;omega))
      have HRR:=ah hr;have tb:decide (r.src<0)=true:=aei e1;clear hr;go_wp2
      go_ret2
      exact⟨by rw[HRR.out,aC.out,ahn];rfl,iU.bel⟩
     have te1:decide (r.src<0)=false:=dF e1;by_cases e2:r.dst<0
     ·have hr:=HBAD.out (.inr (fun h=>by have:=Tf.out _ h;omega))
      have HRR:=ah hr;have tb:decide (r.dst<0)=true:=aei e2;clear hr;go_wp2
      go_ret2
      exact⟨by rw[HRR.out,aC.out,ahn];rfl,iU.bel⟩
     have te2:decide (r.dst<0)=false:=dF e2;by_cases e3:1023<r.src
     ·have hr:=HBAD.out (.inl (fun h=>by have:=Tf.out _ h;omega))
      have HRR:=ah hr;have tb:decide (1023<r.src)=true:=aei e3;clear hr;go_wp2
      go_ret2
      exact⟨by rw[HRR.out,aC.out,ahn];rfl,iU.bel⟩
     have te3:decide (1023<r.src)=false:=dF e3;by_cases e4:1023<r.dst
     ·have hr:=HBAD.out (.inr (fun h=>by have:=Tf.out _ h;omega))
      have HRR:=ah hr;have tb:decide (1023<r.dst)=true:=aei e4;clear hr;go_wp2
      go_ret2
      exact⟨by rw[HRR.out,aC.out,ahn];rfl,iU.bel⟩
     have te4:decide (1023<r.dst)=false:=dF e4;obtain⟨i,hi⟩: ∃i:Nat,r.src=(i:Int):=⟨r.src.toNat,by omega⟩
     obtain⟨j,hj⟩: ∃j:Nat,r.dst=(j:Int):=⟨r.dst.toNat,by omega⟩
     have hi4:i<1024:=by omega
     have Jv:j<1024:=by omega
     have hiI:(i:Int)<1024:=by omega
     have oH:(j:Int)<1024:=by omega
     have pi:(0:Int)<=(i:Int):=by omega
     have pj:(0:Int)<=(j:Int):=by omega
     have ti:((i:Int)).toNat=i:=by omega
     have tj:((j:Int)).toNat=j:=by omega
     have a0:=(iU.arr.cell hi4).1;have a1:=(iU.arr.cell Jv).1;rw[hi]at d2 te1 te3 HBAD HB4;rw[hj]at d3 te2 te4 HBAD HB4;obtain⟨be,hbe⟩:=aj (decide ((i:Int)∈ids));obtain⟨bd,hbd⟩:=aj (decide ((j:Int)∈ids));rw[hbe]at a0;rw[hbd]at a1;have J6:=ah hbe;have dY:=ah hbd;clear hi hj hi4 Jv e1 e2 e3 e4 hbe hbd;cases be with
     |false=>
      have hr:=HBAD.out (.inl (aex J6.out));have HRR:=ah hr;clear hr;go_wp2
      go_ret2
      exact⟨by rw[HRR.out,aC.out,ahn];rfl,iU.bel⟩
     |true=>
      cases bd with
      |false=>
       have hr:=HBAD.out (.inr (aex dY.out));have HRR:=ah hr;clear hr;go_wp2
       go_ret2
       exact⟨by rw[HRR.out,aC.out,ahn];rfl,iU.bel⟩
      |true=>
       have Dl:=ah (show Gr.jM ids P r=Gr.dJ r.props by
        rw[HB4.out,aer (by decide),aer (fun h=>h.elim (fun h=>h (aeL J6.out)) (fun h=>h (aeL dY.out)))])
       obtain⟨E,hE⟩:=aj (Gr.dJ r.props);rw[hE]at Dl iT;clear hE;go_wp2_with fail;refine mq7 (iT.out w6 G9.out) fun w7 hb7=>?_;have dL:=ah (iU.below hb7);clear hb7 d0 d1 d2 d3 d4 a0 a1;cases E with
       |succ e=>
        have hr:=HST.out (e+1) Dl.out (by omega)
        have HRR:=ah hr;have hne:(((e+1:Nat):Int) !=0)=true:=by rw[afd];omega
        clear hr;go_wp2
        go_ret2
        exact⟨by rw[HRR.out,aC.out,ahn];rfl,dL.bel⟩
       |zero=>
        have ZH:=ah (Hf.out Dl.out);go_wp2
        go_roundg q
        case measure=>omega
        exact⟨m+1,by rw[oC.out],int_eq (by omega),by have:=HK.out;omega,dL.out,ZH.out⟩
  |zero=>
   obtain rfl:rn=m:=by omega
   have Hg: ∀j a,g.ay[j]?=some a->Gr.jM (g.nodes.map Gr.N.id) (Gr.aQ Gr.R.id g.ay j) a=0:=fun j a ha=>HZ.out j a (by have:=(aeK.1 ha).1;have:=fH.out;omega) ha
   have hrest:=acT jA.out Hg;have CU:Gr.x9 g.nodes:=⟨fun j n hn=>Gr.Qa.1 (jA.out j n hn)⟩
   have EI:Gr.Bq (g.nodes.map Gr.N.id) g.ay:=⟨fun j n hn=>Gr.Qb.1 (Hg j n hn)⟩
   have h1:=CU.abo;have h2:=EI.len;have h3:=Gr.abp CU EI;have hN1:(nI 1 g).length<=1073741800:=by rw[agW];unfold Gr.rU;omega
   have hN2:(nI 2 g).length<=1073741800:=by rw[agX];unfold Gr.names2;rw[aeP];omega
   have hN3:(nI 3 g).length<=1073741800:=by rw[agY];unfold Gr.qO;rw[aeP];omega
   have hg:=fun(V:World) (hb:Below w.heap.size w V)=>HG.below (hb.mono aN.out)
   refine gq4 (fun(V:World) (hb:Below w.heap.size w V)=>Wn 1 B _ g V (hg V hb) (aep aN.out hb.size) hN1) (fun(V:World) (hb:Below w.heap.size w V)=>Wn 2 B _ g V (hg V hb) (aep aN.out hb.size) hN2) (fun(V:World) (hb:Below w.heap.size w V)=>Wn 3 B _ g V (hg V hb) (aep aN.out hb.size) hN3) (fun(V:World) (hb:Below w.heap.size w V)=>amF B _ g V (hg V hb) (aep aN.out hb.size) (Gr.abq CU EI) (by omega)) fun H1 H2 H3 HW=>?_
   simp only[agW]at H1;simp only[agX]at H2;simp only[agY]at H3;obtain⟨l1,hl1⟩:=aj ((Gr.dedup (Gr.rU g)).length);obtain⟨l2,hl2⟩:=aj ((Gr.dedup (Gr.names2 g)).length);obtain⟨l3,hl3⟩:=aj ((Gr.dedup (Gr.qO g)).length);obtain⟨wt,hwt⟩:=aj (Gr.weight g);rw[hl1]at H1 hrest;rw[hl2]at H2 hrest;rw[hl3]at H3 hrest;rw[hwt]at HW hrest;have tV:=ah hrest;obtain⟨LA,Fa⟩:=aj (Ac (Gr.aQ Gr.R.id g.ay rn));rw[Fa];clear hm hrest CU EI Hg hl1 hl2 hl3 hwt h1 h2 h3 hN1 hN2 hN3 hg Fa HZ;go_wp2_with fail;refine(H1.out wr Fb.bel).mono ?_;rintro e w2 ⟨A1,d1,rfl,hb⟩;have dH:=ah (Fb.below hb);clear hb c0 c1;obtain⟨c0,c1⟩:=cells2 dH.box;by_cases hq1:200<l1
   ·have t1:decide ((200:Int)<l1)=true:=aei (by omega)
    have Yn:(200:Int)<l1:=by omega
    have bH:=ah (show Gr.check g=(66,0) by rw[tV.out,aeu (.inl hq1)])
    clear hq1 H1 H2 H3 HW;go_wp2
    go_ret2
    exact⟨by rw[bH.out];rfl,dH.bel⟩
   have t1:decide ((200:Int)<l1)=false:=dF (by omega)
   have Yn:(l1:Int)<=200:=by omega
   go_wp2_with fail;refine(H2.out w2 dH.bel).mono ?_;rintro e w3 ⟨A2,d2,rfl,hb⟩;have HS2:=ah (dH.below hb);clear hb c0 c1;obtain⟨c0,c1⟩:=cells2 HS2.box;by_cases hq2:200<l2
   ·have t2:decide ((200:Int)<l2)=true:=aei (by omega)
    have Yo:(200:Int)<l2:=by omega
    have bH:=ah (show Gr.check g=(66,0) by rw[tV.out,aeu (.inr (.inl hq2))])
    clear hq2 H1 H2 H3 HW;go_wp2
    go_ret2
    exact⟨by rw[bH.out];rfl,HS2.bel⟩
   have t2:decide ((200:Int)<l2)=false:=dF (by omega)
   have Yo:(l2:Int)<=200:=by omega
   go_wp2_with fail;refine(H3.out w3 HS2.bel).mono ?_;rintro e w4 ⟨A3,d3,rfl,hb⟩;have bK:=ah (HS2.below hb);clear hb c0 c1;obtain⟨c0,c1⟩:=cells2 bK.box;by_cases hq3:200<l3
   ·have t3:decide ((200:Int)<l3)=true:=aei (by omega)
    have Yp:(200:Int)<l3:=by omega
    have bH:=ah (show Gr.check g=(66,0) by rw[tV.out,aeu (.inr (.inr hq3))])
    clear hq3 H1 H2 H3 HW;go_wp2
    go_ret2
    exact⟨by rw[bH.out];rfl,bK.bel⟩
   have t3:decide ((200:Int)<l3)=false:=dF (by omega)
   have Yp:(l3:Int)<=200:=by omega
   go_wp2_with fail;refine mq7 (HW.out w4 bK.bel) fun w5 hb=>?_;have gG:=ah (bK.below hb);clear hb c0 c1;by_cases hq4:262144<wt
   ·have t4:decide ((262144:Int)<wt)=true:=aei (by omega)
    have Yq:(262144:Int)<wt:=by omega
    have bH:=ah (show Gr.check g=(67,0) by rw[tV.out,aer (by omega),aeu hq4])
    clear hq4 H1 H2 H3 HW;go_wp2
    go_ret2
    exact⟨by rw[bH.out];rfl,gG.bel⟩
   have t4:decide ((262144:Int)<wt)=false:=dF (by omega)
   have Yq:(wt:Int)<=262144:=by omega
   have bH:=ah (show Gr.check g=(0,0) by rw[tV.out,aer (by omega),aer hq4])
   clear hq4 H1 H2 H3 HW;go_wp2
   go_ret2
   exact⟨by rw[bH.out];rfl,gG.bel⟩
end Go.Proofs.YtdijgcnlbfgkdaaGreatDoor
