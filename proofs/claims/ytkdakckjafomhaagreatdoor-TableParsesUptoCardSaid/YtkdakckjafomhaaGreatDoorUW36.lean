/- Contracts and plain laws,part 36. -/
import Derived.Test.YtkdakckjafomhaaGreatDoorUW30
import Derived.Test.YtkdakckjafomhaaGreatDoorUW35
set_option maxHeartbeats 64000000
set_option maxRecDepth 1000000
set_option linter.all false
namespace Go.Proofs.YtkdakckjafomhaaGreatDoor
open Go.RowKit
theorem Dt (w:World) (B T n:Nat) (xs:List Value) (hn:xs.length=n) (hB:B<=w.heap.size) (hm:n<=maxLen):(w.alloc (.cells xs.toArray T)).ownsRow B T 1 (.slice (some ⟨w.heap.size,0,none⟩) n n) n xs:=
 ⟨by omega,.inr ⟨w.heap.size,n,xs.toArray,rfl,hB,au.new _ _ _,ac4 _,hm,by simp[hn],by simp[<-hn]⟩⟩
theorem Qd {ops:Array Oper} {o:Oper} {a:Act} {K:Act->World->Prop} {Q:Exit->Act->World->Prop} {E:Prop} (hgd:o.guard=none) (s x:Operand) (T e:TypeId) (z:Value) (bytes:Nat)
  (hT:Tryz.prog.underlying T=some (.slice e)) (hinfo:(Tryz.prog.info? e).map (fun i=>(i.zero,i.size,i.bytes))=some (some z,1,bytes)) (hz:z.cells.size=1) (hby:bytes<=24)
  (ho:o.op=.call {callee:=.builtin .append,args:= #[s,x],argTypes:= #[T,T]})
  (B:Nat) (v:Value) (n:Nat) (xs:List Value) (W:World) (hs:a.eval s=v) (h:W.ownsRow B e 1 v n xs) (B2:Nat) (A:Option Addr) (m c:Nat) (news:List Value) (hx:a.eval x=.slice A m c) (hr:Reads W B2 1 A m news) (hu: ∀u∈news,u.oneCell'=true)
  (hl:n+m<=1073741824) (hB:B<=W.heap.size)
  (k: ∀v' w',w'.ownsRow B e 1 v' (n+m) (xs++news)->W.grownBy w' v.ownBlock->K (a.put o.dst v') w'):
  if Region.wanted o (yielded ops a.tmps)=true then Oper.wp Tryz.prog o a W K Q else E:=by
 have hw:Region.wanted o (yielded ops a.tmps)=true:=by simp[Region.wanted,hgd]
 rw[adk hw];obtain⟨i0,hi,hz0,hz1,hz2⟩:=info_parts hinfo
 exact Zp (P:=Tryz.prog) W s x T ho B e i0 z 1 bytes hT hi hz0 hz1 hz2 hz (by decide) v n xs hs h B2 A m c news hx hr hu (by unfold maxLen;omega) (by
  have:(n+m)*bytes<=1073741824*24:=anL hl hby
  omega) hB fun v' w' h2 h3 _=>k v' w' h2 h3
theorem IQ (l:List (List UInt8)): ∀u∈l.map ST,u.oneCell'=true:=fun u hu=>by
 obtain⟨x,-,rfl⟩:=afK.1 hu;rfl
structure mG (w:World) (A:Option Addr) (kn c:Nat) (keys:List (List UInt8)) (v:Value) (rows:List (List (List UInt8))) (gc:Array Value) (V:World):Prop where
 bel:Below w.heap.size w V
 box:au V w.heap.size 26 gc
 keys:V.ownsRow w.heap.size 9 1 (.slice A kn c) kn (keys.map ST)
 rows:zA V w.heap.size v rows
theorem mG.below {w V V':World} {A:Option Addr} {kn c:Nat} {keys:List (List UInt8)} {v:Value} {rows:List (List (List UInt8))} {gc:Array Value} (h:mG w A kn c keys v rows gc V) (hb:Below V.heap.size V V'):mG w A kn c keys v rows gc V':=
 ⟨h.bel.trans (hb.mono h.bel.size),h.box.below hb h.box.lt,aW h.keys (dL hb none) (fun g c t fz hr=>by cases hr),h.rows.below hb⟩
theorem mG.put {w V V':World} {A:Option Addr} {kn c:Nat} {keys:List (List UInt8)} {v v' u:Value} {rows:List (List (List UInt8))} {r:List (List UInt8)} {us:List Value} {gc:Array Value} (h:mG w A kn c keys v rows gc V) (h1:us.length=rows.length) (h2:V.ownsRow w.heap.size 34 1 v rows.length us)
  (h3: ∀(k:Nat) u r,us[k]?=some u->rows[k]?=some r->V.ownsRow w.heap.size 9 1 u r.length (r.map ST)) (hu:V.ownsRow w.heap.size 9 1 u r.length (r.map ST)) (hg:V.grownBy V' v.ownBlock)
  (ho:V'.ownsRow w.heap.size 34 1 v' (rows.length+1) (us++[u])):mG w A kn c keys v' (rows++[r]) gc V':=
 ⟨h.bel.grown hg h.bel.size (fun k hk=>(World.ownsRow.lt h2 k hk).1),h.box.grown hg (wU h2 h.box (by decide)),Uf h.keys h2 hg (by decide),zA.put h1 h2 h3 hu hg ho⟩
theorem Ve (g:Gr.G):sortL (Gr.jP ⟨g.nodes,[]⟩)=Tb.bU g/\sortL (Gr.jP ⟨[],g.aA⟩)=Tb.bV g:=by
 constructor
 ·unfold Gr.jP Gr.dX Tb.bU
  simp;rfl
 unfold Gr.jP Gr.dX Tb.bV;simp;rfl
theorem acL (g:Gr.G):(Gr.dedup (Gr.jP ⟨g.nodes,[]⟩)).length=(Tb.bU g).length/\(Gr.dedup (Gr.jP ⟨[],g.aA⟩)).length=(Tb.bV g).length:=by
 have h:=Ve g;exact⟨by rw[<-h.1,abH],by rw[<-h.2,abH]⟩
theorem Vf {α β:Type} (f:α->List β): ∀l:List α,(∀a∈l,(f a).length<=16)->(l.flatMap f).length<=16*l.length
 |[],_=>by simp
 |a :: r,h=>by
  have h1:=h a (agl ..);have ih:=Vf f r fun x hx=>h x (afg _ hx)
  rw[ae2,adf,adQ];omega
theorem acM (hd:ByteArray) (want:List (List UInt8)) (m:Nat) (w:World) (hsp:Lib.splitB ⟨#[44]⟩ 0 (Lib.countB hd ⟨#[44]⟩) hd=want.map BA) (hwl:want.length=m) (hhd:hd.size<=1000) (hL:Laid w):
  Calls Tryz.prog 22 #[.string hd,.string ⟨#[44]⟩] w fun e w'=>e=.returned (.slice (some ⟨w.heap.size,0,none⟩) m m)/\w.alloc (.cells (want.map ST).toArray 9)=w':=by
 obtain⟨m0,hm⟩:=hL.max
 have hs:=Tryz.strings_Split hd ⟨#[44]⟩ m0 w (by omega) hm (by decide)
 have hcnt:Lib.countB hd ⟨#[44]⟩+1=m:=by
  rw[<-hwl,<-adU (f:=BA),<-hsp,Lib.splitB_all _ (by decide) 0 _ hd rfl]
 rw[hcnt,hsp,show(want.map BA).map Value.string=want.map ST by rw[agk];rfl]at hs
 exact hs.mono fun e w' ⟨he,hw⟩=>⟨he,hw.symm⟩
theorem acN {V:World} {B:Nat} {v:Value} {rows:List (List (List UInt8))} (h:zA V B v rows) (hL:Laid V) (hw:ay.oJ rows<=8388608) (hne: []∉rows):
  Calls Tryz.prog 26 #[v] V fun e w'=>e=.returned (.tuple #[.string ⟨(rows.flatMap ay.printRow).toArray⟩,.int .i64 0])/\Below V.heap.size V w':=by
 obtain⟨m,hm⟩:=hL.max;have h1:=ajb v rows V m h.anm hm (by omega)
 rw[ay.aix hne]at h1;exact h1
theorem alx {B0:Nat} {u:Value} {g:Gr.G} {w:World} (h:dR w B0 u g) (ok:DT g) (hL:Laid w):
  Calls Tryz.prog 8 #[u] w fun e w'=>e=.returned (.tuple #[.string ⟨(Tb.rV g).1.1.toArray⟩,.string ⟨(Tb.rV g).1.2.toArray⟩,.int .i64 ((Tb.rV g).2:Nat)])/\Below w.heap.size w w':=by
 have hgi:=h.yC ok;obtain⟨sn,sr,ln,lr,rfl,q1,q2,q3,q4,q5,q6⟩:=h;obtain⟨An,cn,rfl⟩:=aF q3
 obtain⟨Ar,cr,rfl⟩:=aF q6
 have XA:=IE (R:=fun n cs=>je w B0 (n,cs)) q3 (by rw[<-q1,adU]) (fun x hx=>(q2 x hx).len) q2
 have GX:=IE (R:=fun n cs=>jy w B0 (n,cs)) q6 (by rw[<-q4,adU]) (fun x hx=>(q5 x hx).len) q5
 rw[q1]at XA;rw[q4]at GX;clear q1 q2 q3 q4 q5 q6
 obtain⟨A1,d1,A2,d2,eu,hgN,hgR⟩:=hgi.ex
 injection eu with eu
 simp only[List.toArray_inj,Array.mk.injEq,List.cons.injEq,arB,Value.slice.injEq]at eu
 obtain⟨⟨rfl,-,rfl⟩,rfl,-,rfl⟩:=eu;obtain⟨nn,hnn⟩:=aj g.nodes.length
 obtain⟨rn,hrn⟩:=aj g.aA.length
 have hck:=fun(V:World) (hb:Below w.heap.size w V)=>abT w.heap.size _ g V (hgi.below hb) hb.size
 obtain⟨c1,hc1⟩:=aj ((Gr.check g).1);obtain⟨c2,hc2⟩:=aj ((Gr.check g).2)
 rw[hc1,hc2,hnn,hrn]at hck;obtain⟨R,hR⟩:=aj (Tb.rV g);rw[hR];unfold Tb.rV at hR
 rw[hc1]at hR;have afb:c1=0->Cy.Fine g:=fun e0=>alv (Gr.Pz.1 (hc1.trans e0)) ok
 rw[hnn,hrn]
 obtain⟨W1,hW1⟩:=aj (w.alloc (.cells #[.slice An nn cn,.slice Ar rn cr] 26))
 have hb1:Below w.heap.size w W1:=by rw[<-hW1];exact(Below.refl _ w).alloc (ac4 _) _
 have k1:au W1 w.heap.size 26 #[.slice An nn cn,.slice Ar rn cr]:=by rw[<-hW1];exact au.new _ _ _
 have bf:=ah (hck W1 hb1);have HW1:=ah hW1;have bW:=ah k1;have HB1:=ah hb1;have HR:=ah hR
 have HF:=ah afb;have dQ:=ah hgN;have Le:=ah hgR;have Xj:=ah XA;have dS:=ah GX
 have aC:=ah hnn;have fP:=ah hrn;have aV:=ah ok;have HL:=ah hL;obtain⟨a0,a1⟩:=cells2 k1
 clear ok hL hgi hgN hgR XA GX hck hR afb hnn hrn hb1 hW1 k1 hc1 hc2
 go_enter Tryz.func8,Tryz.ntmps8
 go_upto_region 1 with fail
 rw[HW1.out];clear HW1;go_wp2_with fail;refine bf.mono ?_;rintro e w2 ⟨rfl,hb2⟩
 have HB2:=ah (HB1.trans (hb2.mono HB1.size));have aY:=ah (bW.below hb2 bW.lt)
 clear hb2 a0 a1 bf bW;obtain⟨a0,a1⟩:=cells2 aY.out;by_cases hc0:c1=0
 case neg=>
  have hr:R=(([],[]),c1):=by rw[<-HR.out,ade hc0]
  subst hr;have t0:((c1:Int) !=0)=true:=by rw[adY];omega
  clear hc0;go_wp2
  go_ret3
  exact⟨rfl,HB2.out⟩
 subst hc0;have HRR:=ah (show R=(Tb.print g,0) by rw[<-HR.out,adk rfl])
 have yK:=ah (HF.out rfl);have Bj:=ah (akY yK.out);have vK:=ah (Tb.Us g)
 have afc:=ah (P8 yK.good);have hnl:nn<=1024:=by rw[<-aC.out];exact yK.good.nodes.len
 have hrl:rn<=2048:=by rw[<-fP.out];exact yK.good.aA.len
 clear HR HF;obtain⟨kM,XB⟩:=aj ((Tb.bU g).length)
 have aqf:kM<=200:=by have:=afc.out.1;omega
 have hnm:=U4 w.heap.size (.agg #[.slice An nn cn,.slice none 0 0]) ⟨g.nodes,[]⟩ w2 ⟨⟨An,cn,none,0,by rw[aC.out];rfl,dQ.below HB2.out (iO.below HB2.out),bY.nil⟩,⟨aV.nl,aV.ns,by simp,by simp⟩⟩ HB2.size (by
  rw[show Gr.dX ⟨g.nodes,[]⟩=g.nodes.flatMap Gr.N.props by unfold Gr.dX;simp]
  have:=Vf Gr.N.props g.nodes (fun x hx=>by obtain⟨_,h⟩:=yK.good.nodes.mem hx;exact h.props.len)
  have:=yK.good.nodes.len
  omega)
 rw[(acL g).1,(Ve g).1,XB]at hnm;have afd:=ah hnm;have afe:=ah XB;clear hnm XB
 go_wp2_with fail;refine afd.mono ?_;rintro e Rl ⟨BU,BX,rfl,hko,hb3⟩
 have Nj:=ah (HB2.trans (hb3.mono HB2.size));have Rn:=ah (aY.below hb3 aY.lt)
 have hsp:=acM ⟨#[58,73,68,44,58,76,65,66,69,76]⟩ Tb.iQ 2 Rl abC rfl (by decide) (HL.below Nj.out)
 have XC:=ah (own_base hko HB2.size);have aff:=ah hsp;clear hsp hko hb3 a0 a1 afd
 obtain⟨a0,a1⟩:=cells2 Rn.out;go_wp2_with fail;refine aff.mono ?_;rintro e w4N ⟨rfl,hw4⟩
 obtain⟨hbN,XD⟩:=aj Rl.heap.size
 have hb4:Below Rl.heap.size Rl w4N:=hw4▸(Below.refl _ _).alloc (ac4 _) _
 have Ro:=ah (show w4N.ownsRow w.heap.size 9 1 (.slice (some ⟨hbN,0,none⟩) 2 2) 2 (Tb.iQ.map ST) by rw[<-hw4,<-XD];exact Dt _ _ _ _ _ rfl Nj.size (by decide))
 have Rq:=ah (Nj.trans (hb4.mono Nj.size));have Rt:=ah (Rn.below hb4 Rn.lt)
 have Nk:=aW XC.out (dL hb4 none) (fun g c t fz hr=>by cases hr)
 have XE:=ah Nk
 have afh:=ah (show(Value.slice BU kM BX).ownBlock≠some hbN from fun e=>by
  have:=(World.ownsRow.lt XC.out hbN e).2
  omega)
 obtain⟨i0,hi,hz0,hz1,hz2⟩:=info_parts pR;have sV:=ah hi
 have gy:=ah (And.intro hz0 (And.intro hz1 hz2));rw[XD]
 clear hw4 XD hb4 Nk hi hz0 hz1 hz2 a0 a1 aff;obtain⟨a0,a1⟩:=cells2 Rt.out
 go_wp2_with (at_builtin;refine y5 _ rfl (.tmp 25) (.tmp 26) 34 rfl w.heap.size 9 i0 (.string ⟨#[]⟩) 1 16 Tryz.underlying34 sV.out gy.out.1 gy.out.2.1 gy.out.2.2 rfl (by decide) (.slice (some ⟨hbN,0,none⟩) 2 2) 2 (Tb.iQ.map ST) rfl Ro.out _ BU kM BX ((Tb.bU g).map ST) rfl (Reads.dI XE.out) (IQ _) (by unfold maxLen;omega) (by omega) Rq.size ?_)
 intro v5N Nl GY hg5 hx5;clear hx5;obtain⟨A5N,c5N,rfl⟩:=aF GY
 have Np:Nl.ownsRow w.heap.size 9 1 (.slice BU kM BX) kM ((Tb.bU g).map ST):=XE.kept hg5 (.inr afh.out)
 have hk5:=Rt.grown hg5 (wU Ro.out Rt.out (by decide))
 have hb5:=Rq.grown hg5 Rq.size (fun k hk=>(World.ownsRow.lt Ro.out k hk).1)
 obtain⟨W6N,Ru⟩:=aj (Nl.alloc (.cells #[.slice A5N (2+kM) c5N] 34))
 obtain⟨rbN,XF⟩:=aj Nl.heap.size
 have hb6:Below Nl.heap.size Nl W6N:=Ru▸(Below.refl _ _).alloc (ac4 _) _
 have XG:=ah (show mG w BU kM BX (Tb.bU g) (.slice (some ⟨rbN,0,none⟩) 1 1) [Tb.iQ++Tb.bU g] #[.slice An nn cn,.slice Ar rn cr] W6N from
  ⟨hb5.trans (hb6.mono hb5.size),hk5.below hb6 hk5.lt,aW Np (dL hb6 none) (fun g c t fz hr=>by cases hr),[.slice A5N (2+kM) c5N],rfl,by rw[<-Ru,<-XF];exact Dt _ _ _ 1 _ rfl hb5.size (by decide),fun k u r hu hr=>by
   cases k with
   |succ k=>simp at hu
   |zero=>
    simp at hu hr;subst hu hr;have:=aW GY (dL hb6 none) (fun g c t fz hr=>by cases hr)
    rw[adf,afe.out,ad8]
    exact this⟩)
 have afl:=ah Ru;have afm:=ah XF
 clear GY hg5 Np hk5 hb5 Ru hb6 XF a0 a1 sV gy Ro XE Rq Rt XC Nj Rn afh
 go_upto_region 6 with fail
 rw[afl.out,afm.out];clear afl afm;obtain⟨a0,a1⟩:=cells2 XG.box;go_wp2_with fail
 go_loopg [8,32] nn (fun q x y wr=> ∃k:Nat,∃A c,x=.slice A (k+1) c/\y=.int .i64 k/\k+q=nn/\mG w BU kM BX (Tb.bU g) (.slice A (k+1) c) ((Tb.iQ++Tb.bU g) ::(g.nodes.take k).map (Tb.iD (Tb.bU g))) #[.slice An nn cn,.slice Ar rn cr] wr)
 case atStart=>exact⟨0,_,_,rfl,rfl,by omega,XG.out⟩
 obtain⟨k,Aq,cq,rfl,rfl,hk,hs⟩:=hrel;have HS:=ah hs;have HK:=ah hk;clear hs XG a0 a1
 cases gk with
 |succ q=>
  have hkn:k<nn:=by omega
  have dH:(k:Int)<nn:=by omega
  obtain⟨n,hn⟩: ∃n,g.nodes[k]?=some n:=⟨_,dF (by rw[aC.out];exact hkn)⟩
  have hnm:=adI hn;have htk:g.nodes.take (k+1)=g.nodes.take k++[n]:=by rw[ae3,hn];rfl
  obtain⟨pb,po,cs,rfl,hpb,⟨sl,sp,ecs,hlo,hpo⟩,-,hcl⟩:=Xj.out k n hn
  obtain⟨Al,cl,rfl⟩:=aF hlo;obtain⟨Ap,cp,rfl⟩:=hpo.form;simp only at ecs hlo hpo
  subst ecs;obtain⟨ll,hll⟩:=aj n.labels.length;obtain⟨pl,hpl⟩:=aj n.props.length
  rw[hll]at hlo hcl;rw[hpl]at hpo hcl
  have hcell:=fun(j:Nat) u (hu:([.int .i64 n.id,.slice Al ll cl,.slice Ap pl cp]:List Value)[j]?=some u)=>(HS.bel.cell (p:=⟨pb,po+k*3+j,none⟩) hpb).trans (hcl j u hu)
  have e0:=hcell 0 _ rfl;have e1:=hcell 1 _ rfl;have e2:=hcell 2 _ rfl;rw[aft]at e0
  have hfn:=yK.node hnm;have XH:=hfn.good.lo;have XI:=hfn.good.hi
  obtain⟨zi,hzi⟩:=aj (⟨(Lib.itoa n.id).toArray⟩:ByteArray)
  obtain⟨zl,hzl⟩:=aj (⟨(Tb.lT n.labels).toArray⟩:ByteArray)
  have aqh:ll<=8:=by rw[<-hll];obtain⟨_,h⟩:=yK.good.nodes.mem hnm;exact h.labels.len
  have hjl:=Io n.labels fun l hl=>J6 (hfn.good.labels l hl)
  have hid:=fun(V:World) (hb:Below w.heap.size w V)=>PU n.id V (by omega) (by omega) (HL.below hb)
  rw[hzi]at hid
  have hjo:=fun(V:World) (hb:Below w.heap.size w V)=>ajQ V (aW hlo (dL hb none) (fun g c t fz hr=>by cases hr)) (by omega) (by omega)
  rw[hzl]at hjo
  have hva:=fun(V:World) (h:mG w BU kM BX (Tb.bU g) (.slice Aq (k+1) cq) ((Tb.iQ++Tb.bU g) ::(g.nodes.take k).map (Tb.iD (Tb.bU g))) #[.slice (some ⟨pb,po,none⟩) nn cn,.slice Ar rn cr] V)=>ab3 V.heap.size BU Ap BX cp kM (Tb.bU g) n.props V (Reads.dI h.keys) ((hpo.lst.below h.bel (aX.below h.bel)).more h.bel.size (aX.more h.bel.size)) (by omega) (abb _) (Tb.Dh _) (fun p hp=>Tb.Fb.2 (afQ (f:=Gr.P.key) (ae9.2 ⟨n,hnm,hp⟩))) hfn.keys (fun p hp=>⟨(aV.ns n hnm).ps p hp,(hfn.good.props p hp).val.ck⟩) (aV.ns n hnm).pl (ac4 _) (HL.below h.bel)
  rw[hpl]at hva
  have jO:=ah (show(Tb.iD (Tb.bU g) n).length=2+kM/\(Tb.iD (Tb.bU g) n).map ST=[.string zi,.string zl] ++((Tb.bU g).map (Tb.iC n.props)).map ST from⟨by unfold Tb.iD;rw[adQ,adQ,adU,afe.out];omega,by rw[<-hzi,<-hzl];rfl⟩)
  have dJ:=ah (show k<=g.nodes.length by rw[aC.out];omega)
  obtain⟨WN,bQ⟩:=aj (wr.alloc (.cells #[.int .i64 n.id,.slice Al ll cl,.slice Ap pl cp] 42))
  obtain⟨nd,hnd⟩:=aj wr.heap.size
  have hbn:Below wr.heap.size wr WN.drew:=(bQ▸(Below.refl _ wr).alloc (ac4 _) _:Below wr.heap.size wr WN).drew
  have GZ:=ah (show au WN.drew nd 42 #[.int .i64 n.id,.slice Al ll cl,.slice Ap pl cp] from(show au WN nd 42 _ by rw[<-bQ,<-hnd];exact au.new _ _ _))
  have Nq:=ah (HS.below hbn);have Nr:=ah hbn;have tH:=ah hid;have HJO:=ah hjo
  have Nu:=ah hva;have iG:=ah htk;have fU:=ah bQ;have kZ:=ah hnd
  have fO:=ah (fun(V:World) (h:au V nd 42 #[.int .i64 n.id,.slice Al ll cl,.slice Ap pl cp])=>cells3 h)
  clear hn hnm htk hlo hpo hcl hll hpl hcell hfn XH XI hzi hzl hjl hid hjo hva bQ hnd hbn hk hpb
  go_upto_region 9 with fail
  rw[fU.out,kZ.out];clear fU kZ e0 e1 e2
  refine II 15 (fun V=>V.cell? ⟨nd,0,none⟩=some (.int .i64 n.id)/\V.cell? ⟨nd,1,none⟩=some (.slice Al ll cl)/\V.cell? ⟨nd,2,none⟩=some (.slice Ap pl cp)) (by kernel_rfl) (by kernel_rfl) (fO.out _ (GZ.out)) (fun hHeld=> ?_)
  simp only[amL,amN];refine aS 0 hHeld ?_
  (try simp only[Act.put,ac6,adi,adl])
  refine aS 1 hHeld ?_
  (try simp only[Act.put,ac6,adi,adl])
  refine aS 2 hHeld ?_
  (try simp only[Act.put,ac6,adi,adl])
  refine aS 4 hHeld ?_
  (try simp only[Act.put,ac6,adi,adl])
  refine aS 5 hHeld ?_
  (try simp only[Act.put,ac6,adi,adl])
  refine aS 8 hHeld ?_
  (try simp only[Act.put,ac6,adi,adl])
  refine aS 9 hHeld ?_
  (try simp only[Act.put,ac6,adi,adl])
  refine aS 10 hHeld ?_
  (try simp only[Act.put,ac6,adi,adl])
  clear hHeld
  refine wpAnyH_ready (rs:=[3]) (by kernel_rfl) (by simp) (AllReadyH.cons (by simp only[adE,adL,adn];rfl) (fun K hK=> ?_) AllReadyH.nil)
  go_simp
  go_at_call 23
  refine(tH.out _ Nq.bel).mono ?_;rintro e w5 ⟨rfl,BZ⟩;have Nv:=ah (Nq.below BZ)
  have G5:=ah (GZ.below BZ GZ.lt);have Nw:=ah (Nr.trans (BZ.mono Nr.size));clear BZ
  go_wp2_with fail;refine hK.out _ _ (fO.out _ G5.out) (fun hHeld=> ?_)
  clear hK K
  (try simp only[Act.put,ac6,adi,adl])
  clear hHeld
  refine wpAnyH_ready (rs:=[6]) (by kernel_rfl) (by simp) (AllReadyH.cons (by simp only[adE,adL,adn];rfl) (fun K hK=> ?_) AllReadyH.nil)
  go_simp
  go_at_call 24
  refine(HJO.out _ Nv.bel).mono ?_;rintro e w6 ⟨rfl,Cb⟩;have Ew:=ah (Nv.below Cb)
  have Cc:=ah (G5.below Cb G5.lt);have Ey:=ah (Nw.trans (Cb.mono Nw.size));clear Cb
  go_wp2_with fail;refine hK.out _ _ (fO.out _ Cc.out) (fun hHeld=> ?_)
  clear hK K
  (try simp only[Act.put,ac6,adi,adl])
  clear hHeld
  refine wpAnyH_ready (rs:=[7,11]) (by kernel_rfl) (by simp) (AllReadyH.cons (by simp only[adE,adL,adn];rfl) (fun K hK=> ?_) (AllReadyH.cons (by simp only[adE,adL,adn];rfl) (fun K hK=> ?_) AllReadyH.nil))
  ·go_simp
   obtain⟨W7,hW⟩:=aj (w6.alloc (.cells #[.string zi,.string zl] 9))
   obtain⟨lb,hlb⟩:=aj w6.heap.size
   have hbW:Below w6.heap.size w6 W7:=hW▸(Below.refl _ _).alloc (ac4 _) _
   have G6:=ah (Ew.below hbW);have G7:=ah (Cc.below hbW Cc.lt)
   have Ny:=ah (Ey.trans (hbW.mono Ey.size))
   have nY:=ah (show wr.heap.size<=lb by rw[<-hlb];exact Ey.size)
   have G8:=ah (show W7.ownsRow w.heap.size 9 1 (.slice (some ⟨lb,0,none⟩) 2 2) 2 [.string zi,.string zl] by rw[<-hW,<-hlb];exact Dt _ _ _ _ _ rfl Ew.bel.size (by decide))
   rw[hW,hlb];clear hW hlb hbW;refine hK.out _ _ (fO.out _ G7.out) (fun hHeld=> ?_)
   clear hK K
   (try simp only[Act.put,ac6,adi,adl])
   clear hHeld
   refine wpAnyH_ready (rs:=[11]) (by kernel_rfl) (by simp) (AllReadyH.cons (by simp only[adE,adL,adn];rfl) (fun K hK=> ?_) AllReadyH.nil)
   go_simp
   go_at_call 25
   refine(Nu.out _ G6.out).mono ?_;rintro e w8 ⟨vv,rfl,ov,bv⟩;obtain⟨Av,cv,rfl⟩:=aF ov
   have HV:=ah (own_base ov G6.bel.size)
   have yL:=ah (aW G8.out (dL bv none) (fun g c t fz hr=>by cases hr))
   have G9:=ah (G6.below bv);have rJ:=ah (G7.below bv G7.lt)
   have yM:=ah (Ny.trans (bv.mono Ny.size));clear ov bv;go_wp2_with fail
   refine hK.out _ _ (fO.out _ rJ.out) (fun hHeld=> ?_)
   clear hK K
   (try simp only[Act.put,ac6,adi,adl])
   have He:=HV;clear hHeld
   refine wpAnyH_ready (rs:=[12]) (by kernel_rfl) (by simp) (AllReadyH.cons (by simp only[adE,adL,adn];rfl) (fun K hK=> ?_) AllReadyH.nil)
   refine Qd rfl (.tmp 43) (.tmp 47) 34 9 (.string ⟨#[]⟩) 16 Tryz.underlying34 pR rfl (by decide) rfl w.heap.size (.slice (some ⟨lb,0,none⟩) 2 2) 2 [.string zi,.string zl] w8 rfl yL.out _ Av kM cv (((Tb.bU g).map (Tb.iC n.props)).map ST) rfl (Reads.dI He.out) (IQ _) (by omega) G9.bel.size ?_
   intro v9 w9 aG aN;obtain⟨A9,c9,rfl⟩:=aF aG
   have aB:Below wr.heap.size wr w9:=yM.grown aN yM.size (fun k hk=>by cases hk;exact nY.out)
   have fC:=ah (HS.below aB);have bH:=ah (rJ.grown aN (wU yL.out rJ.out (by decide)))
   have yN:=ah (show w9.ownsRow w.heap.size 9 1 (.slice A9 (2+kM) c9) (Tb.iD (Tb.bU g) n).length ((Tb.iD (Tb.bU g) n).map ST) by rw[jO.out.1,jO.out.2];exact aG)
   clear aG aN aB;refine hK.out _ _ (fO.out _ bH.out) (fun hHeld=> ?_)
   clear hK K
   (try simp only[Act.put,ac6,adi,adl])
   clear hHeld
   refine wpAnyH_ready (rs:=[13]) (by kernel_rfl) (by simp) (AllReadyH.cons (by simp only[adE,adL,adn];rfl) (fun K hK=> ?_) AllReadyH.nil)
   go_simp
   refine hK.out _ _ (fO.out _ (bH.below ((Below.refl _ _).alloc (ac4 _) _) bH.lt)) (fun hHeld=> ?_)
   clear hK K
   (try simp only[Act.put,ac6,adi,adl])
   obtain⟨us,u1,u2,u3⟩:=fC.rows
   have hlen:((Tb.iQ++Tb.bU g) ::(g.nodes.take k).map (Tb.iD (Tb.bU g))).length=k+1:=by rw[adQ,adU,aeb];have:=dJ.out;omega
   have jo:=ah (fun(v':Value) (w':World) (hg:w9.grownBy w' (Value.ownBlock (.slice Aq (k+1) cq))) (ho:w'.ownsRow w.heap.size 34 1 v' (((Tb.iQ++Tb.bU g) ::(g.nodes.take k).map (Tb.iD (Tb.bU g))).length+1) (us++[.slice A9 (2+kM) c9]))=>mG.put fC.out u1 u2 u3 yN.out hg ho)
   rw[hlen]at u2 jo;have aP:=ah u2;clear u1 u2 u3 hlen;clear hHeld
   refine wpAnyH_ready (rs:=[14]) (by kernel_rfl) (by simp) (AllReadyH.cons (by simp only[adE,adL,adn];rfl) (fun K hK=> ?_) AllReadyH.nil)
   refine EY rfl (.tmp 36) (.tmp 49) 47 34 (.slice none 0 0) 24 Tryz.underlying47 Ae rfl (by decide) rfl w.heap.size (.slice Aq (k+1) cq) (k+1) us w9 rfl aP.out (.slice A9 (2+kM) c9) rfl rfl (by omega) fC.bel.size ?_
   intro v11 nN rM jS Hf uN;obtain⟨yO,c11,rfl⟩:=aF rM;have nO:=ah (jo.out _ _ jS rM)
   have uJ:=ah (bH.grown jS (wU aP.out bH.out (by decide)))
   clear rM jS Hf uN;refine hK.out _ _ (fO.out _ uJ.out) (fun hHeld=> ?_)
   clear hK K
   (try simp only[Act.put,ac6,adi,adl])
   clear hHeld;refine wpAnyH_done (by kernel_rfl) ?_ _
   refine Dq (by simp only[adE,adL,adn];rfl) (fun K hK=> ?_)
   go_simp;refine hK.out _ _ ?_;clear hK K
   have rD:=ah (show mG w BU kM BX (Tb.bU g) (.slice yO (k+1+1) c11) ((Tb.iQ++Tb.bU g) ::(g.nodes.take (k+1)).map (Tb.iD (Tb.bU g))) #[.slice (some ⟨pb,po,none⟩) nn cn,.slice Ar rn cr] nN by
    have h:=nO.out;rw[iG.out,ad8]
    exact h)
   clear nO jo aP yN fC bH uJ fO;go_wp2
   go_roundg q
   case measure=>omega
   exact⟨k+1,yO,c11,rfl,int_eq (by omega),by have:=HK.out;omega,rD.out⟩
  go_simp
  go_at_call 25
  refine(Nu.out _ Ew.out).mono ?_;rintro e w7 ⟨vv,rfl,ov,bv⟩;obtain⟨Av,cv,rfl⟩:=aF ov
  have HV:=ah (own_base ov Ew.bel.size);have Nz:=ah (Ew.below bv)
  have Hg:=ah (Cc.below bv Cc.lt);have Hl:=ah (Ey.trans (bv.mono Ey.size));clear ov bv
  go_wp2_with fail;refine hK.out _ _ (fO.out _ Hg.out) (fun hHeld=> ?_)
  clear hK K
  (try simp only[Act.put,ac6,adi,adl])
  clear hHeld
  refine wpAnyH_ready (rs:=[7]) (by kernel_rfl) (by simp) (AllReadyH.cons (by simp only[adE,adL,adn];rfl) (fun K hK=> ?_) AllReadyH.nil)
  go_simp;obtain⟨w8,hW⟩:=aj (w7.alloc (.cells #[.string zi,.string zl] 9))
  obtain⟨lb,hlb⟩:=aj w7.heap.size
  have hbW:Below w7.heap.size w7 w8:=hW▸(Below.refl _ _).alloc (ac4 _) _
  have G9:=ah (Nz.below hbW);have rJ:=ah (Hg.below hbW Hg.lt)
  have yM:=ah (Hl.trans (hbW.mono Hl.size))
  have nY:=ah (show wr.heap.size<=lb by rw[<-hlb];exact Hl.size)
  have G8:=ah (show w8.ownsRow w.heap.size 9 1 (.slice (some ⟨lb,0,none⟩) 2 2) 2 [.string zi,.string zl] by rw[<-hW,<-hlb];exact Dt _ _ _ _ _ rfl Nz.bel.size (by decide))
  rw[hW,hlb];have yL:=G8
  have He:=ah (aW HV.out (dL hbW none) (fun g c t fz hr=>by cases hr))
  clear hW hlb hbW;refine hK.out _ _ (fO.out _ rJ.out) (fun hHeld=> ?_)
  clear hK K
  (try simp only[Act.put,ac6,adi,adl])
  clear hHeld
  refine wpAnyH_ready (rs:=[12]) (by kernel_rfl) (by simp) (AllReadyH.cons (by simp only[adE,adL,adn];rfl) (fun K hK=> ?_) AllReadyH.nil)
  refine Qd rfl (.tmp 43) (.tmp 47) 34 9 (.string ⟨#[]⟩) 16 Tryz.underlying34 pR rfl (by decide) rfl w.heap.size (.slice (some ⟨lb,0,none⟩) 2 2) 2 [.string zi,.string zl] w8 rfl yL.out _ Av kM cv (((Tb.bU g).map (Tb.iC n.props)).map ST) rfl (Reads.dI He.out) (IQ _) (by omega) G9.bel.size ?_
  intro v9 w9 aG aN;obtain⟨A9,c9,rfl⟩:=aF aG
  have aB:Below wr.heap.size wr w9:=yM.grown aN yM.size (fun k hk=>by cases hk;exact nY.out)
  have fC:=ah (HS.below aB);have bH:=ah (rJ.grown aN (wU yL.out rJ.out (by decide)))
  have yN:=ah (show w9.ownsRow w.heap.size 9 1 (.slice A9 (2+kM) c9) (Tb.iD (Tb.bU g) n).length ((Tb.iD (Tb.bU g) n).map ST) by rw[jO.out.1,jO.out.2];exact aG)
  clear aG aN aB;refine hK.out _ _ (fO.out _ bH.out) (fun hHeld=> ?_)
  clear hK K
  (try simp only[Act.put,ac6,adi,adl])
  clear hHeld
  refine wpAnyH_ready (rs:=[13]) (by kernel_rfl) (by simp) (AllReadyH.cons (by simp only[adE,adL,adn];rfl) (fun K hK=> ?_) AllReadyH.nil)
  go_simp
  refine hK.out _ _ (fO.out _ (bH.below ((Below.refl _ _).alloc (ac4 _) _) bH.lt)) (fun hHeld=> ?_)
  clear hK K
  (try simp only[Act.put,ac6,adi,adl])
  obtain⟨us,u1,u2,u3⟩:=fC.rows
  have hlen:((Tb.iQ++Tb.bU g) ::(g.nodes.take k).map (Tb.iD (Tb.bU g))).length=k+1:=by rw[adQ,adU,aeb];have:=dJ.out;omega
  have jo:=ah (fun(v':Value) (w':World) (hg:w9.grownBy w' (Value.ownBlock (.slice Aq (k+1) cq))) (ho:w'.ownsRow w.heap.size 34 1 v' (((Tb.iQ++Tb.bU g) ::(g.nodes.take k).map (Tb.iD (Tb.bU g))).length+1) (us++[.slice A9 (2+kM) c9]))=>mG.put fC.out u1 u2 u3 yN.out hg ho)
  rw[hlen]at u2 jo;have aP:=ah u2;clear u1 u2 u3 hlen;clear hHeld
  refine wpAnyH_ready (rs:=[14]) (by kernel_rfl) (by simp) (AllReadyH.cons (by simp only[adE,adL,adn];rfl) (fun K hK=> ?_) AllReadyH.nil)
  refine EY rfl (.tmp 36) (.tmp 49) 47 34 (.slice none 0 0) 24 Tryz.underlying47 Ae rfl (by decide) rfl w.heap.size (.slice Aq (k+1) cq) (k+1) us w9 rfl aP.out (.slice A9 (2+kM) c9) rfl rfl (by omega) fC.bel.size ?_
  intro v11 nN rM jS Hf uN;obtain⟨yO,c11,rfl⟩:=aF rM;have nO:=ah (jo.out _ _ jS rM)
  have uJ:=ah (bH.grown jS (wU aP.out bH.out (by decide)))
  clear rM jS Hf uN;refine hK.out _ _ (fO.out _ uJ.out) (fun hHeld=> ?_)
  clear hK K
  (try simp only[Act.put,ac6,adi,adl])
  clear hHeld;refine wpAnyH_done (by kernel_rfl) ?_ _
  refine Dq (by simp only[adE,adL,adn];rfl) (fun K hK=> ?_)
  go_simp;refine hK.out _ _ ?_;clear hK K
  have rD:=ah (show mG w BU kM BX (Tb.bU g) (.slice yO (k+1+1) c11) ((Tb.iQ++Tb.bU g) ::(g.nodes.take (k+1)).map (Tb.iD (Tb.bU g))) #[.slice (some ⟨pb,po,none⟩) nn cn,.slice Ar rn cr] nN by
   have h:=nO.out;rw[iG.out,ad8]
   exact h)
  clear nO jo aP yN fC bH uJ fO;go_wp2
  go_roundg q
  case measure=>omega
  exact⟨k+1,yO,c11,rfl,int_eq (by omega),by have:=HK.out;omega,rD.out⟩
 |zero=>
   have hkn:nn=k:=by omega
   subst hkn;have hro:=HS.rows;rw[ado (by rw[aC.out];exact ac4 _)]at hro
   have hcs:=acN hro (HL.below HS.bel) Bj.out.1 vK.out.1
   obtain⟨zn,hzn⟩:=aj (⟨((Tb.zh g).flatMap ay.printRow).toArray⟩:ByteArray)
   rw[show((Tb.iQ++Tb.bU g) :: g.nodes.map (Tb.iD (Tb.bU g)))=Tb.zh g from rfl,hzn]at hcs
   have yE:=ah hcs;have gy:=ah hzn;clear hro hcs hzn hk;go_wp2_with fail;refine yE.mono ?_
   rintro e w7 ⟨rfl,b7⟩;have bD:=ah (HS.bel.trans (b7.mono HS.bel.size))
   have jC:=ah (HS.box.below b7 HS.box.lt);clear b7 yE HS HK;obtain⟨a0,a1⟩:=cells2 jC.out
   obtain⟨kN,XJ⟩:=aj ((Tb.bV g).length);have aqi:kN<=200:=by have:=afc.out.2;omega
   have hnm:=U4 w.heap.size (.agg #[.slice none 0 0,.slice Ar rn cr]) ⟨[],g.aA⟩ w7 ⟨⟨none,0,Ar,cr,by rw[fP.out];rfl,bY.nil,Le.below bD.out (iP.below bD.out)⟩,⟨by simp,by simp,aV.rl,aV.rs⟩⟩ bD.size (by
    rw[show Gr.dX ⟨[],g.aA⟩=g.aA.flatMap Gr.R.props by unfold Gr.dX;simp]
    have:=Vf Gr.R.props g.aA (fun x hx=>by obtain⟨_,h⟩:=yK.good.aA.mem hx;exact h.props.len)
    have:=yK.good.aA.len
    omega)
   rw[(acL g).2,(Ve g).2,XJ]at hnm;have afn:=ah hnm;have afo:=ah XJ;clear hnm XJ
   go_wp2_with fail;refine afn.mono ?_;rintro e Rw ⟨Ce,Ci,rfl,hko,hb3⟩
   have NC:=ah (bD.trans (hb3.mono bD.size));have Rx:=ah (jC.below hb3 jC.lt)
   have hsp:=acM ⟨#[58,73,68,44,58,83,84,65,82,84,44,58,69,78,68,44,58,84,89,80,69]⟩ Tb.iR 4 Rw abD rfl (by decide) (HL.below NC.out)
   have XK:=ah (own_base hko bD.size);have afp:=ah hsp;clear hsp hko hb3 a0 a1 afn
   obtain⟨a0,a1⟩:=cells2 Rx.out;go_wp2_with fail;refine afp.mono ?_
   rintro e w4R ⟨rfl,hw4⟩;obtain⟨hbR,XL⟩:=aj Rw.heap.size
   have hb4:Below Rw.heap.size Rw w4R:=hw4▸(Below.refl _ _).alloc (ac4 _) _
   have Ry:=ah (show w4R.ownsRow w.heap.size 9 1 (.slice (some ⟨hbR,0,none⟩) 4 4) 4 (Tb.iR.map ST) by rw[<-hw4,<-XL];exact Dt _ _ _ _ _ rfl NC.size (by decide))
   have Rz:=ah (NC.trans (hb4.mono NC.size));have RD:=ah (Rx.below hb4 Rx.lt)
   have Nk:=aW XK.out (dL hb4 none) (fun g c t fz hr=>by cases hr)
   have XM:=ah Nk
   have afr:=ah (show(Value.slice Ce kN Ci).ownBlock≠some hbR from fun e=>by
    have:=(World.ownsRow.lt XK.out hbR e).2
    omega)
   obtain⟨i0,hi,hz0,hz1,hz2⟩:=info_parts pR;have HIR:=ah hi
   have Jp:=ah (And.intro hz0 (And.intro hz1 hz2));rw[XL]
   clear hw4 XL hb4 Nk hi hz0 hz1 hz2 a0 a1 afp;obtain⟨a0,a1⟩:=cells2 RD.out
   go_wp2_with (at_builtin;refine y5 _ rfl (.tmp 64) (.tmp 65) 34 rfl w.heap.size 9 i0 (.string ⟨#[]⟩) 1 16 Tryz.underlying34 HIR.out Jp.out.1 Jp.out.2.1 Jp.out.2.2 rfl (by decide) (.slice (some ⟨hbR,0,none⟩) 4 4) 4 (Tb.iR.map ST) rfl Ry.out _ Ce kN Ci ((Tb.bV g).map ST) rfl (Reads.dI XM.out) (IQ _) (by unfold maxLen;omega) (by omega) Rz.size ?_)
   intro v5R ND GY hg5 hx5;clear hx5;obtain⟨A5R,c5R,rfl⟩:=aF GY
   have Np:ND.ownsRow w.heap.size 9 1 (.slice Ce kN Ci) kN ((Tb.bV g).map ST):=XM.kept hg5 (.inr afr.out)
   have hk5:=RD.grown hg5 (wU Ry.out RD.out (by decide))
   have hb5:=Rz.grown hg5 Rz.size (fun k hk=>(World.ownsRow.lt Ry.out k hk).1)
   obtain⟨W6R,RF⟩:=aj (ND.alloc (.cells #[.slice A5R (4+kN) c5R] 34))
   obtain⟨rbR,XO⟩:=aj ND.heap.size
   have hb6:Below ND.heap.size ND W6R:=RF▸(Below.refl _ _).alloc (ac4 _) _
   have XP:=ah (show mG w Ce kN Ci (Tb.bV g) (.slice (some ⟨rbR,0,none⟩) 1 1) [Tb.iR++Tb.bV g] #[.slice An nn cn,.slice Ar rn cr] W6R from
    ⟨hb5.trans (hb6.mono hb5.size),hk5.below hb6 hk5.lt,aW Np (dL hb6 none) (fun g c t fz hr=>by cases hr),[.slice A5R (4+kN) c5R],rfl,by rw[<-RF,<-XO];exact Dt _ _ _ 1 _ rfl hb5.size (by decide),fun k u r hu hr=>by
     cases k with
     |succ k=>simp at hu
     |zero=>
      simp at hu hr;subst hu hr;have:=aW GY (dL hb6 none) (fun g c t fz hr=>by cases hr)
      rw[adf,afo.out,ad8]
      exact this⟩)
   have afw:=ah RF;have afx:=ah XO
   clear GY hg5 Np hk5 hb5 RF hb6 XO a0 a1 HIR Jp Ry XM Rz RD XK NC Rx afr
   go_upto_region 16 with fail
   rw[afw.out,afx.out];clear afw afx;obtain⟨a0,a1⟩:=cells2 XP.box;go_wp2_with fail
   go_loopg [8,71] rn (fun q x y wr=> ∃k:Nat,∃A c,x=.slice A (k+1) c/\y=.int .i64 k/\k+q=rn/\mG w Ce kN Ci (Tb.bV g) (.slice A (k+1) c) ((Tb.iR++Tb.bV g) ::(g.aA.take k).map (Tb.iE (Tb.bV g))) #[.slice An nn cn,.slice Ar rn cr] wr)
   case atStart=>exact⟨0,_,_,rfl,rfl,by omega,XP.out⟩
   obtain⟨k,Aq,cq,rfl,rfl,hk,hs⟩:=hrel;have HS:=ah hs;have HK:=ah hk;clear hs XP a0 a1
   cases gk with
   |succ q=>
    have hkn:k<rn:=by omega
    have dH:(k:Int)<rn:=by omega
    obtain⟨n,hn⟩: ∃n,g.aA[k]?=some n:=⟨_,dF (by rw[fP.out];exact hkn)⟩
    have hnm:=adI hn;have htk:g.aA.take (k+1)=g.aA.take k++[n]:=by rw[ae3,hn];rfl
    obtain⟨pb,po,cs,rfl,hpb,⟨sp,ecs,hpo⟩,-,hcl⟩:=dS.out k n hn
    obtain⟨Ap,cp,rfl⟩:=hpo.form;simp only at ecs hpo;obtain⟨pl,hpl⟩:=aj n.props.length
    obtain⟨zt,dU⟩:=aj (⟨n.type.toArray⟩:ByteArray)
    rw[show ST n.type=.string zt by rw[<-dU];rfl,hpl]at ecs
    subst ecs;rw[hpl]at hpo
    have hcell:=fun(j:Nat) u (hu:([.int .i64 n.id,.string zt,.int .i64 n.src,.int .i64 n.dst,.slice Ap pl cp]:List Value)[j]?=some u)=>(HS.bel.cell (p:=⟨pb,po+k*5+j,none⟩) hpb).trans (hcl j u hu)
    have e0:=hcell 0 _ rfl;have e1:=hcell 1 _ rfl;have e2:=hcell 2 _ rfl
    have e3:=hcell 3 _ rfl;have e4:=hcell 4 _ rfl;rw[aft]at e0;have hfn:=yK.rel hnm
    have XH:=hfn.good.lo;have XI:=hfn.good.hi;have aos:=hfn.good.VN;have aot:=hfn.good.VO
    have aou:=hfn.good.VP;have aov:=hfn.good.VQ
    obtain⟨zi,hzi⟩:=aj (⟨(Lib.itoa n.id).toArray⟩:ByteArray)
    obtain⟨zj,hzj⟩:=aj (⟨(Lib.itoa n.src).toArray⟩:ByteArray)
    obtain⟨zl,hzl⟩:=aj (⟨(Lib.itoa n.dst).toArray⟩:ByteArray)
    have hid:=fun(V:World) (hb:Below w.heap.size w V)=>PU n.id V (by omega) (by omega) (HL.below hb)
    rw[hzi]at hid
    have hij:=fun(V:World) (hb:Below w.heap.size w V)=>PU n.src V (by omega) (by omega) (HL.below hb)
    rw[hzj]at hij
    have hil:=fun(V:World) (hb:Below w.heap.size w V)=>PU n.dst V (by omega) (by omega) (HL.below hb)
    rw[hzl]at hil
    have hva:=fun(V:World) (h:mG w Ce kN Ci (Tb.bV g) (.slice Aq (k+1) cq) ((Tb.iR++Tb.bV g) ::(g.aA.take k).map (Tb.iE (Tb.bV g))) #[.slice An nn cn,.slice (some ⟨pb,po,none⟩) rn cr] V)=>ab3 V.heap.size Ce Ap Ci cp kN (Tb.bV g) n.props V (Reads.dI h.keys) ((hpo.lst.below h.bel (aX.below h.bel)).more h.bel.size (aX.more h.bel.size)) (by omega) (abb _) (Tb.Dh _) (fun p hp=>Tb.Fb.2 (afQ (f:=Gr.P.key) (ae9.2 ⟨n,hnm,hp⟩))) hfn.keys (fun p hp=>⟨(aV.rs n hnm).ps p hp,(hfn.good.props p hp).val.ck⟩) (aV.rs n hnm).pl (ac4 _) (HL.below h.bel)
    rw[hpl]at hva
    have jO:=ah (show(Tb.iE (Tb.bV g) n).length=4+kN/\(Tb.iE (Tb.bV g) n).map ST=[.string zi,.string zj,.string zl,.string zt] ++((Tb.bV g).map (Tb.iC n.props)).map ST from⟨by unfold Tb.iE;simp only[adQ,adU,afo.out];omega,by rw[<-hzi,<-hzj,<-hzl,<-dU];rfl⟩)
    have dJ:=ah (show k<=g.aA.length by rw[fP.out];omega)
    obtain⟨WN,bQ⟩:=aj (wr.alloc (.cells #[.int .i64 n.id,.string zt,.int .i64 n.src,.int .i64 n.dst,.slice Ap pl cp] 44))
    obtain⟨nd,hnd⟩:=aj wr.heap.size
    have hbn:Below wr.heap.size wr WN.drew:=(bQ▸(Below.refl _ wr).alloc (ac4 _) _:Below wr.heap.size wr WN).drew
    have GZ:=ah (show au WN.drew nd 44 #[.int .i64 n.id,.string zt,.int .i64 n.src,.int .i64 n.dst,.slice Ap pl cp] from(show au WN nd 44 _ by rw[<-bQ,<-hnd];exact au.new _ _ _))
    have Nq:=ah (HS.below hbn);have Nr:=ah hbn;have tH:=ah hid;have HIJ:=ah hij
    have HIL:=ah hil;have Nu:=ah hva;have iG:=ah htk;have fU:=ah bQ;have kZ:=ah hnd
    have fO:=ah (fun(V:World) (h:au V nd 44 #[.int .i64 n.id,.string zt,.int .i64 n.src,.int .i64 n.dst,.slice Ap pl cp])=>cells5 h)
    clear hn hnm htk hpo hcl hpl hcell hfn XH XI aos aot aou aov hzi hzj hzl dU hid hij hil hva bQ hnd hbn hk hpb
    go_upto_region 19 with fail
    rw[fU.out,kZ.out];clear fU kZ e0 e1 e2 e3 e4
    refine II 20 (fun V=>V.cell? ⟨nd,0,none⟩=some (.int .i64 n.id)/\V.cell? ⟨nd,1,none⟩=some (.string zt)/\V.cell? ⟨nd,2,none⟩=some (.int .i64 n.src)/\V.cell? ⟨nd,3,none⟩=some (.int .i64 n.dst)/\V.cell? ⟨nd,4,none⟩=some (.slice Ap pl cp)) (by kernel_rfl) (by kernel_rfl) (fO.out _ (GZ.out)) (fun hHeld=> ?_)
    simp only[amL,amN];refine aS 0 hHeld ?_
    (try simp only[Act.put,ac6,adi,adl])
    refine aS 1 hHeld ?_
    (try simp only[Act.put,ac6,adi,adl])
    refine aS 2 hHeld ?_
    (try simp only[Act.put,ac6,adi,adl])
    refine aS 4 hHeld ?_
    (try simp only[Act.put,ac6,adi,adl])
    refine aS 5 hHeld ?_
    (try simp only[Act.put,ac6,adi,adl])
    refine aS 7 hHeld ?_
    (try simp only[Act.put,ac6,adi,adl])
    refine aS 8 hHeld ?_
    (try simp only[Act.put,ac6,adi,adl])
    refine aS 10 hHeld ?_
    (try simp only[Act.put,ac6,adi,adl])
    refine aS 11 hHeld ?_
    (try simp only[Act.put,ac6,adi,adl])
    refine aS 13 hHeld ?_
    (try simp only[Act.put,ac6,adi,adl])
    refine aS 14 hHeld ?_
    (try simp only[Act.put,ac6,adi,adl])
    refine aS 15 hHeld ?_
    (try simp only[Act.put,ac6,adi,adl])
    clear hHeld
    refine wpAnyH_ready (rs:=[3]) (by kernel_rfl) (by simp) (AllReadyH.cons (by simp only[adE,adL,adn];rfl) (fun K hK=> ?_) AllReadyH.nil)
    go_simp
    go_at_call 23
    refine(tH.out _ Nq.bel).mono ?_;rintro e w5 ⟨rfl,BZ⟩;have Nv:=ah (Nq.below BZ)
    have G5:=ah (GZ.below BZ GZ.lt);have Nw:=ah (Nr.trans (BZ.mono Nr.size));clear BZ
    go_wp2_with fail;refine hK.out _ _ (fO.out _ G5.out) (fun hHeld=> ?_)
    clear hK K
    (try simp only[Act.put,ac6,adi,adl])
    clear hHeld
    refine wpAnyH_ready (rs:=[6]) (by kernel_rfl) (by simp) (AllReadyH.cons (by simp only[adE,adL,adn];rfl) (fun K hK=> ?_) AllReadyH.nil)
    go_simp
    go_at_call 23
    refine(HIJ.out _ Nv.bel).mono ?_;rintro e w6 ⟨rfl,Cb⟩;have Ew:=ah (Nv.below Cb)
    have Cc:=ah (G5.below Cb G5.lt);have Ey:=ah (Nw.trans (Cb.mono Nw.size));clear Cb
    go_wp2_with fail;refine hK.out _ _ (fO.out _ Cc.out) (fun hHeld=> ?_)
    clear hK K
    (try simp only[Act.put,ac6,adi,adl])
    clear hHeld
    refine wpAnyH_ready (rs:=[9]) (by kernel_rfl) (by simp) (AllReadyH.cons (by simp only[adE,adL,adn];rfl) (fun K hK=> ?_) AllReadyH.nil)
    go_simp
    go_at_call 23
    refine(HIL.out _ Ew.bel).mono ?_;rintro e RG ⟨rfl,RH⟩;have NG:=ah (Ew.below RH)
    have NH:=ah (Cc.below RH Cc.lt);have NI:=ah (Ey.trans (RH.mono Ey.size));clear RH
    go_wp2_with fail;refine hK.out _ _ (fO.out _ NH.out) (fun hHeld=> ?_)
    clear hK K
    (try simp only[Act.put,ac6,adi,adl])
    clear hHeld
    refine wpAnyH_ready (rs:=[12,16]) (by kernel_rfl) (by simp) (AllReadyH.cons (by simp only[adE,adL,adn];rfl) (fun K hK=> ?_) (AllReadyH.cons (by simp only[adE,adL,adn];rfl) (fun K hK=> ?_) AllReadyH.nil))
    ·go_simp
     obtain⟨W7,hW⟩:=aj (RG.alloc (.cells #[.string zi,.string zj,.string zl,.string zt] 9))
     obtain⟨lb,hlb⟩:=aj RG.heap.size
     have hbW:Below RG.heap.size RG W7:=hW▸(Below.refl _ _).alloc (ac4 _) _
     have G6:=ah (NG.below hbW);have G7:=ah (NH.below hbW NH.lt)
     have Ny:=ah (NI.trans (hbW.mono NI.size))
     have nY:=ah (show wr.heap.size<=lb by rw[<-hlb];exact NI.size)
     have G8:=ah (show W7.ownsRow w.heap.size 9 1 (.slice (some ⟨lb,0,none⟩) 4 4) 4 [.string zi,.string zj,.string zl,.string zt] by rw[<-hW,<-hlb];exact Dt _ _ _ _ _ rfl NG.bel.size (by decide))
     rw[hW,hlb];clear hW hlb hbW;refine hK.out _ _ (fO.out _ G7.out) (fun hHeld=> ?_)
     clear hK K
     (try simp only[Act.put,ac6,adi,adl])
     clear hHeld
     refine wpAnyH_ready (rs:=[16]) (by kernel_rfl) (by simp) (AllReadyH.cons (by simp only[adE,adL,adn];rfl) (fun K hK=> ?_) AllReadyH.nil)
     go_simp
     go_at_call 25
     refine(Nu.out _ G6.out).mono ?_;rintro e w8 ⟨vv,rfl,ov,bv⟩;obtain⟨Av,cv,rfl⟩:=aF ov
     have HV:=ah (own_base ov G6.bel.size)
     have yL:=ah (aW G8.out (dL bv none) (fun g c t fz hr=>by cases hr))
     have G9:=ah (G6.below bv);have rJ:=ah (G7.below bv G7.lt)
     have yM:=ah (Ny.trans (bv.mono Ny.size));clear ov bv;go_wp2_with fail
     refine hK.out _ _ (fO.out _ rJ.out) (fun hHeld=> ?_)
     clear hK K
     (try simp only[Act.put,ac6,adi,adl])
     have He:=HV;clear hHeld
     refine wpAnyH_ready (rs:=[17]) (by kernel_rfl) (by simp) (AllReadyH.cons (by simp only[adE,adL,adn];rfl) (fun K hK=> ?_) AllReadyH.nil)
     refine Qd rfl (.tmp 87) (.tmp 91) 34 9 (.string ⟨#[]⟩) 16 Tryz.underlying34 pR rfl (by decide) rfl w.heap.size (.slice (some ⟨lb,0,none⟩) 4 4) 4 [.string zi,.string zj,.string zl,.string zt] w8 rfl yL.out _ Av kN cv (((Tb.bV g).map (Tb.iC n.props)).map ST) rfl (Reads.dI He.out) (IQ _) (by omega) G9.bel.size ?_
     intro v9 w9 aG aN;obtain⟨A9,c9,rfl⟩:=aF aG
     have aB:Below wr.heap.size wr w9:=yM.grown aN yM.size (fun k hk=>by cases hk;exact nY.out)
     have fC:=ah (HS.below aB);have bH:=ah (rJ.grown aN (wU yL.out rJ.out (by decide)))
     have yN:=ah (show w9.ownsRow w.heap.size 9 1 (.slice A9 (4+kN) c9) (Tb.iE (Tb.bV g) n).length ((Tb.iE (Tb.bV g) n).map ST) by rw[jO.out.1,jO.out.2];exact aG)
     clear aG aN aB;refine hK.out _ _ (fO.out _ bH.out) (fun hHeld=> ?_)
     clear hK K
     (try simp only[Act.put,ac6,adi,adl])
     clear hHeld
     refine wpAnyH_ready (rs:=[18]) (by kernel_rfl) (by simp) (AllReadyH.cons (by simp only[adE,adL,adn];rfl) (fun K hK=> ?_) AllReadyH.nil)
     go_simp
     refine hK.out _ _ (fO.out _ (bH.below ((Below.refl _ _).alloc (ac4 _) _) bH.lt)) (fun hHeld=> ?_)
     clear hK K
     (try simp only[Act.put,ac6,adi,adl])
     obtain⟨us,u1,u2,u3⟩:=fC.rows
     have hlen:((Tb.iR++Tb.bV g) ::(g.aA.take k).map (Tb.iE (Tb.bV g))).length=k+1:=by rw[adQ,adU,aeb];have:=dJ.out;omega
     have jo:=ah (fun(v':Value) (w':World) (hg:w9.grownBy w' (Value.ownBlock (.slice Aq (k+1) cq))) (ho:w'.ownsRow w.heap.size 34 1 v' (((Tb.iR++Tb.bV g) ::(g.aA.take k).map (Tb.iE (Tb.bV g))).length+1) (us++[.slice A9 (4+kN) c9]))=>mG.put fC.out u1 u2 u3 yN.out hg ho)
     rw[hlen]at u2 jo;have aP:=ah u2;clear u1 u2 u3 hlen;clear hHeld
     refine wpAnyH_ready (rs:=[19]) (by kernel_rfl) (by simp) (AllReadyH.cons (by simp only[adE,adL,adn];rfl) (fun K hK=> ?_) AllReadyH.nil)
     refine EY rfl (.tmp 75) (.tmp 93) 47 34 (.slice none 0 0) 24 Tryz.underlying47 Ae rfl (by decide) rfl w.heap.size (.slice Aq (k+1) cq) (k+1) us w9 rfl aP.out (.slice A9 (4+kN) c9) rfl rfl (by omega) fC.bel.size ?_
     intro v11 nN rM jS Hf uN;obtain⟨yO,c11,rfl⟩:=aF rM;have nO:=ah (jo.out _ _ jS rM)
     have uJ:=ah (bH.grown jS (wU aP.out bH.out (by decide)))
     clear rM jS Hf uN;refine hK.out _ _ (fO.out _ uJ.out) (fun hHeld=> ?_)
     clear hK K
     (try simp only[Act.put,ac6,adi,adl])
     clear hHeld;refine wpAnyH_done (by kernel_rfl) ?_ _
     refine Dq (by simp only[adE,adL,adn];rfl) (fun K hK=> ?_)
     go_simp;refine hK.out _ _ ?_;clear hK K
     have rD:=ah (show mG w Ce kN Ci (Tb.bV g) (.slice yO (k+1+1) c11) ((Tb.iR++Tb.bV g) ::(g.aA.take (k+1)).map (Tb.iE (Tb.bV g))) #[.slice An nn cn,.slice (some ⟨pb,po,none⟩) rn cr] nN by
      have h:=nO.out;rw[iG.out,ad8]
      exact h)
     clear nO jo aP yN fC bH uJ fO;go_wp2
     go_roundg q
     case measure=>omega
     exact⟨k+1,yO,c11,rfl,int_eq (by omega),by have:=HK.out;omega,rD.out⟩
    go_simp
    go_at_call 25
    refine(Nu.out _ NG.out).mono ?_;rintro e w7 ⟨vv,rfl,ov,bv⟩;obtain⟨Av,cv,rfl⟩:=aF ov
    have HV:=ah (own_base ov NG.bel.size);have Nz:=ah (NG.below bv)
    have Hg:=ah (NH.below bv NH.lt);have Hl:=ah (NI.trans (bv.mono NI.size));clear ov bv
    go_wp2_with fail;refine hK.out _ _ (fO.out _ Hg.out) (fun hHeld=> ?_)
    clear hK K
    (try simp only[Act.put,ac6,adi,adl])
    clear hHeld
    refine wpAnyH_ready (rs:=[12]) (by kernel_rfl) (by simp) (AllReadyH.cons (by simp only[adE,adL,adn];rfl) (fun K hK=> ?_) AllReadyH.nil)
    go_simp
    obtain⟨w8,hW⟩:=aj (w7.alloc (.cells #[.string zi,.string zj,.string zl,.string zt] 9))
    obtain⟨lb,hlb⟩:=aj w7.heap.size
    have hbW:Below w7.heap.size w7 w8:=hW▸(Below.refl _ _).alloc (ac4 _) _
    have G9:=ah (Nz.below hbW);have rJ:=ah (Hg.below hbW Hg.lt)
    have yM:=ah (Hl.trans (hbW.mono Hl.size))
    have nY:=ah (show wr.heap.size<=lb by rw[<-hlb];exact Hl.size)
    have G8:=ah (show w8.ownsRow w.heap.size 9 1 (.slice (some ⟨lb,0,none⟩) 4 4) 4 [.string zi,.string zj,.string zl,.string zt] by rw[<-hW,<-hlb];exact Dt _ _ _ _ _ rfl Nz.bel.size (by decide))
    rw[hW,hlb];have yL:=G8
    have He:=ah (aW HV.out (dL hbW none) (fun g c t fz hr=>by cases hr))
    clear hW hlb hbW;refine hK.out _ _ (fO.out _ rJ.out) (fun hHeld=> ?_)
    clear hK K
    (try simp only[Act.put,ac6,adi,adl])
    clear hHeld
    refine wpAnyH_ready (rs:=[17]) (by kernel_rfl) (by simp) (AllReadyH.cons (by simp only[adE,adL,adn];rfl) (fun K hK=> ?_) AllReadyH.nil)
    refine Qd rfl (.tmp 87) (.tmp 91) 34 9 (.string ⟨#[]⟩) 16 Tryz.underlying34 pR rfl (by decide) rfl w.heap.size (.slice (some ⟨lb,0,none⟩) 4 4) 4 [.string zi,.string zj,.string zl,.string zt] w8 rfl yL.out _ Av kN cv (((Tb.bV g).map (Tb.iC n.props)).map ST) rfl (Reads.dI He.out) (IQ _) (by omega) G9.bel.size ?_
    intro v9 w9 aG aN;obtain⟨A9,c9,rfl⟩:=aF aG
    have aB:Below wr.heap.size wr w9:=yM.grown aN yM.size (fun k hk=>by cases hk;exact nY.out)
    have fC:=ah (HS.below aB);have bH:=ah (rJ.grown aN (wU yL.out rJ.out (by decide)))
    have yN:=ah (show w9.ownsRow w.heap.size 9 1 (.slice A9 (4+kN) c9) (Tb.iE (Tb.bV g) n).length ((Tb.iE (Tb.bV g) n).map ST) by rw[jO.out.1,jO.out.2];exact aG)
    clear aG aN aB;refine hK.out _ _ (fO.out _ bH.out) (fun hHeld=> ?_)
    clear hK K
    (try simp only[Act.put,ac6,adi,adl])
    clear hHeld
    refine wpAnyH_ready (rs:=[18]) (by kernel_rfl) (by simp) (AllReadyH.cons (by simp only[adE,adL,adn];rfl) (fun K hK=> ?_) AllReadyH.nil)
    go_simp
    refine hK.out _ _ (fO.out _ (bH.below ((Below.refl _ _).alloc (ac4 _) _) bH.lt)) (fun hHeld=> ?_)
    clear hK K
    (try simp only[Act.put,ac6,adi,adl])
    obtain⟨us,u1,u2,u3⟩:=fC.rows
    have hlen:((Tb.iR++Tb.bV g) ::(g.aA.take k).map (Tb.iE (Tb.bV g))).length=k+1:=by rw[adQ,adU,aeb];have:=dJ.out;omega
    have jo:=ah (fun(v':Value) (w':World) (hg:w9.grownBy w' (Value.ownBlock (.slice Aq (k+1) cq))) (ho:w'.ownsRow w.heap.size 34 1 v' (((Tb.iR++Tb.bV g) ::(g.aA.take k).map (Tb.iE (Tb.bV g))).length+1) (us++[.slice A9 (4+kN) c9]))=>mG.put fC.out u1 u2 u3 yN.out hg ho)
    rw[hlen]at u2 jo;have aP:=ah u2;clear u1 u2 u3 hlen;clear hHeld
    refine wpAnyH_ready (rs:=[19]) (by kernel_rfl) (by simp) (AllReadyH.cons (by simp only[adE,adL,adn];rfl) (fun K hK=> ?_) AllReadyH.nil)
    refine EY rfl (.tmp 75) (.tmp 93) 47 34 (.slice none 0 0) 24 Tryz.underlying47 Ae rfl (by decide) rfl w.heap.size (.slice Aq (k+1) cq) (k+1) us w9 rfl aP.out (.slice A9 (4+kN) c9) rfl rfl (by omega) fC.bel.size ?_
    intro v11 nN rM jS Hf uN;obtain⟨yO,c11,rfl⟩:=aF rM;have nO:=ah (jo.out _ _ jS rM)
    have uJ:=ah (bH.grown jS (wU aP.out bH.out (by decide)))
    clear rM jS Hf uN;refine hK.out _ _ (fO.out _ uJ.out) (fun hHeld=> ?_)
    clear hK K
    (try simp only[Act.put,ac6,adi,adl])
    clear hHeld;refine wpAnyH_done (by kernel_rfl) ?_ _
    refine Dq (by simp only[adE,adL,adn];rfl) (fun K hK=> ?_)
    go_simp;refine hK.out _ _ ?_;clear hK K
    have rD:=ah (show mG w Ce kN Ci (Tb.bV g) (.slice yO (k+1+1) c11) ((Tb.iR++Tb.bV g) ::(g.aA.take (k+1)).map (Tb.iE (Tb.bV g))) #[.slice An nn cn,.slice (some ⟨pb,po,none⟩) rn cr] nN by
     have h:=nO.out;rw[iG.out,ad8]
     exact h)
    clear nO jo aP yN fC bH uJ fO;go_wp2
    go_roundg q
    case measure=>omega
    exact⟨k+1,yO,c11,rfl,int_eq (by omega),by have:=HK.out;omega,rD.out⟩
   |zero=>
     have hkn:rn=k:=by omega
     subst hkn;have hro:=HS.rows;rw[ado (by rw[fP.out];exact ac4 _)]at hro
     have hcs:=acN hro (HL.below HS.bel) Bj.out.2 vK.out.2
     obtain⟨zr,qh⟩:=aj (⟨((Tb.zo g).flatMap ay.printRow).toArray⟩:ByteArray)
     rw[show((Tb.iR++Tb.bV g) :: g.aA.map (Tb.iE (Tb.bV g)))=Tb.zo g from rfl,qh]at hcs
     have yE:=ah hcs;have Jp:=ah qh;clear hro hcs qh hk;go_wp2_with fail;refine yE.mono ?_
     rintro e w8 ⟨rfl,b8⟩;have mg:=ah (HS.bel.trans (b8.mono HS.bel.size))
     clear b8 yE HS HK
     have iF:=ah (show Ending.returned (.tuple #[.string ⟨R.1.1.toArray⟩,.string ⟨R.1.2.toArray⟩,.int .i64 (R.2:Nat)])=Ending.returned (.tuple #[.string zn,.string zr,.int .i64 0]) by rw[HRR.out,<-gy.out,<-Jp.out];rfl)
     go_wp2
     go_ret3
     exact⟨iF.symm,mg.out⟩
end Go.Proofs.YtkdakckjafomhaaGreatDoor
