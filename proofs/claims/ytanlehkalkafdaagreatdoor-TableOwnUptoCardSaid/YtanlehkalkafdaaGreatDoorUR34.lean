/- Contracts and plain laws,part 34. -/
import Derived.Test.YtanlehkalkafdaaGreatDoorUR28
import Derived.Test.YtanlehkalkafdaaGreatDoorUR33
set_option maxHeartbeats 64000000
set_option maxRecDepth 1000000
set_option linter.all false
namespace Go.Proofs.YtanlehkalkafdaaGreatDoor
open Go.RowKit
theorem own_fresh (w:World) (B T n:Nat) (xs:List Value) (hn:xs.length=n) (hB:B<=w.heap.size) (hm:n<=maxLen):(w.alloc (.cells xs.toArray T)).ownsRow B T 1 (.slice (some ⟨w.heap.size,0,none⟩) n n) n xs:=
 ⟨by omega,.inr ⟨w.heap.size,n,xs.toArray,rfl,hB,Blk.new _ _ _,rM _,hm,by simp[hn],by simp[<-hn]⟩⟩
theorem step_append_any {ops:Array Oper} {o:Oper} {a:Act} {K:Act->World->Prop} {Q:Exit->Act->World->Prop} {E:Prop} (hgd:o.guard=none) (s x:Operand) (T e:TypeId) (z:Value) (bytes:Nat)
  (hT:Tryz.prog.underlying T=some (.slice e)) (hinfo:(Tryz.prog.info? e).map (fun i=>(i.zero,i.size,i.bytes))=some (some z,1,bytes)) (hz:z.cells.size=1) (hby:bytes<=24)
  (ho:o.op=.call {callee:=.builtin .append,args:= #[s,x],argTypes:= #[T,T]})
  (B:Nat) (v:Value) (n:Nat) (xs:List Value) (W:World) (hs:a.eval s=v) (h:W.ownsRow B e 1 v n xs) (B2:Nat) (A:Option Addr) (m c:Nat) (news:List Value) (hx:a.eval x=.slice A m c) (hr:Reads W B2 1 A m news) (hu: ∀u∈news,u.oneCell'=true)
  (hl:n+m<=1073741824) (hB:B<=W.heap.size)
  (k: ∀v' w',w'.ownsRow B e 1 v' (n+m) (xs++news)->W.grownBy w' v.ownBlock->K (a.put o.dst v') w'):
  if Region.wanted o (yielded ops a.tmps)=true then Oper.wp Tryz.prog o a W K Q else E:=by
 have hw:Region.wanted o (yielded ops a.tmps)=true:=by simp[Region.wanted,hgd]
 rw[rY hw];obtain⟨i0,hi,hz0,hz1,hz2⟩:=info_parts hinfo
 exact wp_append_any (P:=Tryz.prog) W s x T ho B e i0 z 1 bytes hT hi hz0 hz1 hz2 hz (by decide) v n xs hs h B2 A m c news hx hr hu (by unfold maxLen;omega) (by
  have:(n+m)*bytes<=1073741824*24:=yh hl hby
  omega) hB fun v' w' h2 h3 _=>k v' w' h2 h3
theorem st_one (l:List (List UInt8)): ∀u∈l.map ST,u.oneCell'=true:=fun u hu=>by
 obtain⟨x,-,rfl⟩:=uU.1 hu;rfl
structure TpS (w:World) (A:Option Addr) (kn c:Nat) (keys:List (List UInt8)) (v:Value) (rows:List (List (List UInt8))) (gc:Array Value) (V:World):Prop where
 bel:Below w.heap.size w V
 box:Blk V w.heap.size 25 gc
 keys:V.ownsRow w.heap.size 9 1 (.slice A kn c) kn (keys.map ST)
 rows:RowsO V w.heap.size v rows
theorem TpS.below {w V V':World} {A:Option Addr} {kn c:Nat} {keys:List (List UInt8)} {v:Value} {rows:List (List (List UInt8))} {gc:Array Value} (h:TpS w A kn c keys v rows gc V) (hb:Below V.heap.size V V'):TpS w A kn c keys v rows gc V':=
 ⟨h.bel.trans (hb.mono h.bel.size),h.box.below hb h.box.lt,own_kept_ty h.keys (only_of_below hb none) (fun g c t fz hr=>by cases hr),h.rows.below hb⟩
theorem TpS.put {w V V':World} {A:Option Addr} {kn c:Nat} {keys:List (List UInt8)} {v v' u:Value} {rows:List (List (List UInt8))} {r:List (List UInt8)} {us:List Value} {gc:Array Value} (h:TpS w A kn c keys v rows gc V) (h1:us.length=rows.length) (h2:V.ownsRow w.heap.size 45 1 v rows.length us)
  (h3: ∀(k:Nat) u r,us[k]?=some u->rows[k]?=some r->V.ownsRow w.heap.size 9 1 u r.length (r.map ST)) (hu:V.ownsRow w.heap.size 9 1 u r.length (r.map ST)) (hg:V.grownBy V' v.ownBlock)
  (ho:V'.ownsRow w.heap.size 45 1 v' (rows.length+1) (us++[u])):TpS w A kn c keys v' (rows++[r]) gc V':=
 ⟨h.bel.grown hg h.bel.size (fun k hk=>(World.ownsRow.lt h2 k hk).1),h.box.grown hg (own_ne_blk h2 h.box (by decide)),own_ty h.keys h2 hg (by decide),RowsO.put h1 h2 h3 hu hg ho⟩
theorem keysN_names (g:Gr.G):sortL (Gr.names3 ⟨g.nodes,[]⟩)=Tb.keysN g/\sortL (Gr.names3 ⟨[],g.rels⟩)=Tb.keysR g:=by
 constructor
 ·unfold Gr.names3 Gr.allProps Tb.keysN
  simp;rfl
 unfold Gr.names3 Gr.allProps Tb.keysR;simp;rfl
theorem keysN_len (g:Gr.G):(Gr.dedup (Gr.names3 ⟨g.nodes,[]⟩)).length=(Tb.keysN g).length/\(Gr.dedup (Gr.names3 ⟨[],g.rels⟩)).length=(Tb.keysR g).length:=by
 have h:=keysN_names g;exact⟨by rw[<-h.1,sortL_length],by rw[<-h.2,sortL_length]⟩
theorem flat_len16 {α β:Type} (f:α->List β): ∀l:List α,(∀a∈l,(f a).length<=16)->(l.flatMap f).length<=16*l.length
 |[],_=>by simp
 |a :: r,h=>by
  have h1:=h a (wX ..);have ih:=flat_len16 f r fun x hx=>h x (uQ _ hx)
  rw[uK,rP,sS];omega
theorem split_head (hd:ByteArray) (want:List (List UInt8)) (m:Nat) (w:World) (hsp:Lib.splitB ⟨#[44]⟩ 0 (Lib.countB hd ⟨#[44]⟩) hd=want.map BA) (hwl:want.length=m) (hhd:hd.size<=1000) (hL:Laid w):
  Calls Tryz.prog 21 #[.string hd,.string ⟨#[44]⟩] w fun e w'=>e=.returned (.slice (some ⟨w.heap.size,0,none⟩) m m)/\w.alloc (.cells (want.map ST).toArray 9)=w':=by
 obtain⟨m0,hm⟩:=hL.max
 have hs:=Tryz.strings_Split hd ⟨#[44]⟩ m0 w (by omega) hm (by decide)
 have hcnt:Lib.countB hd ⟨#[44]⟩+1=m:=by
  rw[<-hwl,<-sU (f:=BA),<-hsp,Lib.splitB_all _ (by decide) 0 _ hd rfl]
 rw[hcnt,hsp,show(want.map BA).map Value.string=want.map ST by rw[vV];rfl]at hs
 exact hs.mono fun e w' ⟨he,hw⟩=>⟨he,hw.symm⟩
theorem csv_rows {V:World} {B:Nat} {v:Value} {rows:List (List (List UInt8))} (h:RowsO V B v rows) (hL:Laid V) (hw:Csv.wRows rows<=8388608) (hne: []∉rows):
  Calls Tryz.prog 25 #[v] V fun e w'=>e=.returned (.tuple #[.string ⟨(rows.flatMap Csv.printRow).toArray⟩,.int .i64 0])/\Below V.heap.size V w':=by
 obtain⟨m,hm⟩:=hL.max;have h1:=csvPrint_any v rows V m h.rows2 hm (by omega)
 rw[Csv.print_some hne]at h1;exact h1
theorem jF {B0:Nat} {u:Value} {g:Gr.G} {w:World} (h:GOwn w B0 u g) (ok:GOk g) (hL:Laid w):
  Calls Tryz.prog 11 #[u] w fun e w'=>e=.returned (.tuple #[.string ⟨(Tb.printR g).1.1.toArray⟩,.string ⟨(Tb.printR g).1.2.toArray⟩,.int .i64 ((Tb.printR g).2:Nat)])/\Below w.heap.size w w':=by
 have hgi:=h.gin ok;obtain⟨sn,sr,ln,lr,rfl,q1,q2,q3,q4,q5,q6⟩:=h
 obtain⟨An,cn,rfl⟩:=own_form q3;obtain⟨Ar,cr,rfl⟩:=own_form q6
 have fU:=lst_own (R:=fun n cs=>NodeOwn w B0 (n,cs)) q3 (by rw[<-q1,sU]) (fun x hx=>(q2 x hx).len) q2
 have fV:=lst_own (R:=fun n cs=>RelOwn w B0 (n,cs)) q6 (by rw[<-q4,sU]) (fun x hx=>(q5 x hx).len) q5
 rw[q1]at fU;rw[q4]at fV;clear q1 q2 q3 q4 q5 q6
 obtain⟨A1,d1,A2,d2,eu,hgN,hgR⟩:=hgi.ex
 injection eu with eu
 simp only[List.toArray_inj,Array.mk.injEq,wI,yJ,Value.slice.injEq]at eu
 obtain⟨⟨rfl,-,rfl⟩,rfl,-,rfl⟩:=eu;obtain⟨nn,hnn⟩:=aj g.nodes.length
 obtain⟨rn,hrn⟩:=aj g.rels.length
 have hck:=fun(V:World) (hb:Below w.heap.size w V)=>gCheck_any w.heap.size _ g V (hgi.below hb) hb.size
 obtain⟨c1,hc1⟩:=aj ((Gr.check g).1);obtain⟨c2,hc2⟩:=aj ((Gr.check g).2)
 rw[hc1,hc2,hnn,hrn]at hck;obtain⟨R,hR⟩:=aj (Tb.printR g);rw[hR]
 unfold Tb.printR at hR;rw[hc1]at hR
 have bY:c1=0->Cy.Fine g:=fun e0=>fine_of (Gr.check_good.1 (hc1.trans e0)) ok
 rw[hnn,hrn]
 obtain⟨W1,hW1⟩:=aj (w.alloc (.cells #[.slice An nn cn,.slice Ar rn cr] 25))
 have hb1:Below w.heap.size w W1:=by rw[<-hW1];exact(Below.refl _ w).alloc (rM _) _
 have k1:Blk W1 w.heap.size 25 #[.slice An nn cn,.slice Ar rn cr]:=by rw[<-hW1];exact Blk.new _ _ _
 have HCK:=ah (hck W1 hb1);have HW1:=ah hW1;have HK1:=ah k1;have HB1:=ah hb1
 have HR:=ah hR;have HF:=ah bY;have HGN:=ah hgN;have HGR:=ah hgR;have HNA:=ah fU
 have HRA:=ah fV;have HNN:=ah hnn;have HRN:=ah hrn;have HOK:=ah ok;have HL:=ah hL
 obtain⟨a0,a1⟩:=cells2 k1
 clear ok hL hgi hgN hgR fU fV hck hR bY hnn hrn hb1 hW1 k1 hc1 hc2
 go_enter Tryz.func11,Tryz.ntmps11
 go_upto_region 1 with fail
 rw[HW1.out];clear HW1;go_wp2_with fail;refine HCK.mono ?_;rintro e w2 ⟨rfl,hb2⟩
 have HB2:=ah (HB1.trans (hb2.mono HB1.size));have HK2:=ah (HK1.below hb2 HK1.lt)
 clear hb2 a0 a1 HCK HK1;obtain⟨a0,a1⟩:=cells2 HK2.out;by_cases hc0:c1=0
 case neg=>
  have hr:R=(([],[]),c1):=by rw[<-HR.out,rU hc0]
  subst hr;have t0:((c1:Int) !=0)=true:=by rw[tH];omega
  clear hc0;go_wp2
  go_ret3
  exact⟨rfl,HB2.out⟩
 subst hc0;have HRR:=ah (show R=(Tb.print g,0) by rw[<-HR.out,rY rfl])
 have aG:=ah (HF.out rfl);have HWR:=ah (table_w aG.out);have HNE:=ah (Tb.rows_ne g)
 have gG:=ah (names_sub aG.good)
 have hnl:nn<=1024:=by rw[<-HNN.out];exact aG.good.nodes.len
 have hrl:rn<=2048:=by rw[<-HRN.out];exact aG.good.rels.len
 clear HR HF;obtain⟨ak,dS⟩:=aj ((Tb.keysN g).length)
 have pX:ak<=200:=by have:=gG.out.1;omega
 have hnm:=names3_any w.heap.size (.agg #[.slice An nn cn,.slice none 0 0]) ⟨g.nodes,[]⟩ w2 ⟨⟨An,cn,none,0,by rw[HNN.out];rfl,HGN.below HB2.out (NodeC.below HB2.out),Lst.nil⟩,⟨HOK.nl,HOK.ns,by simp,by simp⟩⟩ HB2.size (by
  rw[show Gr.allProps ⟨g.nodes,[]⟩=g.nodes.flatMap Gr.N.props by unfold Gr.allProps;simp]
  have:=flat_len16 Gr.N.props g.nodes (fun x hx=>by obtain⟨_,h⟩:=aG.good.nodes.mem hx;exact h.props.len)
  have:=aG.good.nodes.len
  omega)
 rw[(keysN_len g).1,(keysN_names g).1,dS]at hnm;have gI:=ah hnm;have dU:=ah dS
 clear hnm dS;go_wp2_with fail;refine gI.mono ?_;rintro e aY ⟨aN,aO,rfl,hko,hb3⟩
 have bZ:=ah (HB2.trans (hb3.mono HB2.size));have jo:=ah (HK2.below hb3 HK2.lt)
 have hsp:=split_head ⟨#[58,73,68,44,58,76,65,66,69,76]⟩ Tb.headN 2 aY splitN_head rfl (by decide) (HL.below bZ.out)
 have dV:=ah (own_base hko HB2.size);have nI:=ah hsp;clear hsp hko hb3 a0 a1 gI
 obtain⟨a0,a1⟩:=cells2 jo.out;go_wp2_with fail;refine nI.mono ?_;rintro e nJ ⟨rfl,hw4⟩
 obtain⟨hbN,jS⟩:=aj aY.heap.size
 have hb4:Below aY.heap.size aY nJ:=hw4▸(Below.refl _ _).alloc (rM _) _
 have cZ:=ah (show nJ.ownsRow w.heap.size 9 1 (.slice (some ⟨hbN,0,none⟩) 2 2) 2 (Tb.headN.map ST) by rw[<-hw4,<-jS];exact own_fresh _ _ _ _ _ rfl bZ.size (by decide))
 have dh:=ah (bZ.trans (hb4.mono bZ.size));have dw:=ah (jo.below hb4 jo.lt)
 have gJ:=own_kept_ty dV.out (only_of_below hb4 none) (fun g c t fz hr=>by cases hr)
 have dW:=ah gJ
 have gK:=ah (show(Value.slice aN ak aO).ownBlock≠some hbN from fun e=>by
  have:=(World.ownsRow.lt dV.out hbN e).2
  omega)
 obtain⟨i0,hi,hz0,hz1,hz2⟩:=info_parts info_string;have HIN:=ah hi
 have HZN:=ah (And.intro hz0 (And.intro hz1 hz2));rw[jS]
 clear hw4 jS hb4 gJ hi hz0 hz1 hz2 a0 a1 nI;obtain⟨a0,a1⟩:=cells2 dw.out
 go_wp2_with (at_builtin;refine wpList_append_any _ rfl (.tmp 25) (.tmp 26) 45 rfl w.heap.size 9 i0 (.string ⟨#[]⟩) 1 16 Tryz.underlying45 HIN.out HZN.out.1 HZN.out.2.1 HZN.out.2.2 rfl (by decide) (.slice (some ⟨hbN,0,none⟩) 2 2) 2 (Tb.headN.map ST) rfl cZ.out _ aN ak aO ((Tb.keysN g).map ST) rfl (Reads.of_own dW.out) (st_one _) (by unfold maxLen;omega) (by omega) dh.size ?_)
 intro pY bF ho5 hg5 hx5;clear hx5;obtain⟨gQ,gU,rfl⟩:=own_form ho5
 have bG:bF.ownsRow w.heap.size 9 1 (.slice aN ak aO) ak ((Tb.keysN g).map ST):=dW.kept hg5 (.inr gK.out)
 have hk5:=dw.grown hg5 (own_ne_blk cZ.out dw.out (by decide))
 have hb5:=dh.grown hg5 dh.size (fun k hk=>(World.ownsRow.lt cZ.out k hk).1)
 obtain⟨gV,dA⟩:=aj (bF.alloc (.cells #[.slice gQ (2+ak) gU] 45))
 obtain⟨jT,dX⟩:=aj bF.heap.size
 have hb6:Below bF.heap.size bF gV:=dA▸(Below.refl _ _).alloc (rM _) _
 have fZ:=ah (show TpS w aN ak aO (Tb.keysN g) (.slice (some ⟨jT,0,none⟩) 1 1) [Tb.headN++Tb.keysN g] #[.slice An nn cn,.slice Ar rn cr] gV from
  ⟨hb5.trans (hb6.mono hb5.size),hk5.below hb6 hk5.lt,own_kept_ty bG (only_of_below hb6 none) (fun g c t fz hr=>by cases hr),[.slice gQ (2+ak) gU],rfl,by rw[<-dA,<-dX];exact own_fresh _ _ _ 1 _ rfl hb5.size (by decide),fun k u r hu hr=>by
   cases k with
   |succ k=>simp at hu
   |zero=>
    simp at hu hr;subst hu hr
    have:=own_kept_ty ho5 (only_of_below hb6 none) (fun g c t fz hr=>by cases hr)
    rw[rP,dU.out,uf]
    exact this⟩)
 have gW:=ah dA;have gY:=ah dX
 clear ho5 hg5 bG hk5 hb5 dA hb6 dX a0 a1 HIN HZN cZ dW dh dw dV bZ jo gK
 go_upto_region 6 with fail
 rw[gW.out,gY.out];clear gW gY;obtain⟨a0,a1⟩:=cells2 fZ.box;go_wp2_with fail
 go_loopg [8,32] nn (fun q x y wr=> ∃k:Nat,∃A c,x=.slice A (k+1) c/\y=.int .i64 k/\k+q=nn/\TpS w aN ak aO (Tb.keysN g) (.slice A (k+1) c) ((Tb.headN++Tb.keysN g) ::(g.nodes.take k).map (Tb.nodeRow (Tb.keysN g))) #[.slice An nn cn,.slice Ar rn cr] wr)
 case atStart=>exact⟨0,_,_,rfl,rfl,by omega,fZ.out⟩
 obtain⟨k,Aq,cq,rfl,rfl,hk,hs⟩:=hrel;have HS:=ah hs;have HK:=ah hk;clear hs fZ a0 a1
 cases gk with
 |succ q=>
  have hkn:k<nn:=by omega
  have hknI:(k:Int)<nn:=by omega
  obtain⟨n,hn⟩: ∃n,g.nodes[k]?=some n:=⟨_,ay (by rw[HNN.out];exact hkn)⟩
  have hnm:=sK hn;have htk:g.nodes.take (k+1)=g.nodes.take k++[n]:=by rw[uM,hn];rfl
  obtain⟨pb,po,cs,rfl,hpb,⟨sl,sp,ecs,hlo,hpo⟩,-,hcl⟩:=HNA.out k n hn
  obtain⟨Al,cl,rfl⟩:=own_form hlo;obtain⟨Ap,cp,rfl⟩:=hpo.form;simp only at ecs hlo hpo
  subst ecs;obtain⟨ll,hll⟩:=aj n.labels.length;obtain⟨pl,hpl⟩:=aj n.props.length
  rw[hll]at hlo hcl;rw[hpl]at hpo hcl
  have hcell:=fun(j:Nat) u (hu:([.int .i64 n.id,.slice Al ll cl,.slice Ap pl cp]:List Value)[j]?=some u)=>(HS.bel.cell (p:=⟨pb,po+k*3+j,none⟩) hpb).trans (hcl j u hu)
  have e0:=hcell 0 _ rfl;have e1:=hcell 1 _ rfl;have e2:=hcell 2 _ rfl;rw[vw]at e0
  have hfn:=aG.node hnm;have dY:=hfn.good.lo;have dZ:=hfn.good.hi
  obtain⟨zi,hzi⟩:=aj (⟨(Lib.itoa n.id).toArray⟩:ByteArray)
  obtain⟨zl,hzl⟩:=aj (⟨(Tb.joinS n.labels).toArray⟩:ByteArray)
  have qc:ll<=8:=by rw[<-hll];obtain⟨_,h⟩:=aG.good.nodes.mem hnm;exact h.labels.len
  have hjl:=labels_len n.labels fun l hl=>tb_name_len (hfn.good.labels l hl)
  have hid:=fun(V:World) (hb:Below w.heap.size w V)=>tbId_any n.id V (by omega) (by omega) (HL.below hb)
  rw[hzi]at hid
  have hjo:=fun(V:World) (hb:Below w.heap.size w V)=>joinL_any V (own_kept_ty hlo (only_of_below hb none) (fun g c t fz hr=>by cases hr)) (by omega) (by omega)
  rw[hzl]at hjo
  have hva:=fun(V:World) (h:TpS w aN ak aO (Tb.keysN g) (.slice Aq (k+1) cq) ((Tb.headN++Tb.keysN g) ::(g.nodes.take k).map (Tb.nodeRow (Tb.keysN g))) #[.slice (some ⟨pb,po,none⟩) nn cn,.slice Ar rn cr] V)=>lN V.heap.size aN Ap aO cp ak (Tb.keysN g) n.props V (Reads.of_own h.keys) ((hpo.lst.below h.bel (PropC.below h.bel)).more h.bel.size (PropC.more h.bel.size)) (by omega) (keys_lt _) (Tb.keys_nodup _) (fun p hp=>Tb.keys_mem.2 (uX (f:=Gr.P.key) (uF.2 ⟨n,hnm,hp⟩))) hfn.keys (fun p hp=>⟨(HOK.ns n hnm).ps p hp,(hfn.good.props p hp).val.ck⟩) (HOK.ns n hnm).pl (rM _) (HL.below h.bel)
  rw[hpl]at hva
  have HROW:=ah (show(Tb.nodeRow (Tb.keysN g) n).length=2+ak/\(Tb.nodeRow (Tb.keysN g) n).map ST=[.string zi,.string zl] ++((Tb.keysN g).map (Tb.fieldOf n.props)).map ST from⟨by unfold Tb.nodeRow;rw[sS,sS,sU,dU.out];omega,by rw[<-hzi,<-hzl];rfl⟩)
  have HLL:=ah (show k<=g.nodes.length by rw[HNN.out];omega)
  obtain⟨WN,hWN⟩:=aj (wr.alloc (.cells #[.int .i64 n.id,.slice Al ll cl,.slice Ap pl cp] 48))
  obtain⟨nd,hnd⟩:=aj wr.heap.size
  have hbn:Below wr.heap.size wr WN.drew:=(hWN▸(Below.refl _ wr).alloc (rM _) _:Below wr.heap.size wr WN).drew
  have bH:=ah (show Blk WN.drew nd 48 #[.int .i64 n.id,.slice Al ll cl,.slice Ap pl cp] from(show Blk WN nd 48 _ by rw[<-hWN,<-hnd];exact Blk.new _ _ _))
  have gZ:=ah (HS.below hbn);have dL:=ah hbn;have HID:=ah hid;have qg:=ah hjo
  have ig:=ah hva;have HTK:=ah htk;have HWN:=ah hWN;have HND:=ah hnd
  have aA:=ah (fun(V:World) (h:Blk V nd 48 #[.int .i64 n.id,.slice Al ll cl,.slice Ap pl cp])=>cells3 h)
  clear hn hnm htk hlo hpo hcl hll hpl hcell hfn dY dZ hzi hzl hjl hid hjo hva hWN hnd hbn hk hpb
  go_upto_region 9 with fail
  rw[HWN.out,HND.out];clear HWN HND e0 e1 e2
  refine wp_region_last 15 (fun V=>V.cell? ⟨nd,0,none⟩=some (.int .i64 n.id)/\V.cell? ⟨nd,1,none⟩=some (.slice Al ll cl)/\V.cell? ⟨nd,2,none⟩=some (.slice Ap pl cp)) (by kernel_rfl) (by kernel_rfl) (aA.out _ (bH.out)) (fun hHeld=> ?_)
  simp only[wQ,yx];refine takeH 0 hHeld ?_
  (try simp only[Act.put,rW,su,sF])
  refine takeH 1 hHeld ?_
  (try simp only[Act.put,rW,su,sF])
  refine takeH 2 hHeld ?_
  (try simp only[Act.put,rW,su,sF])
  refine takeH 4 hHeld ?_
  (try simp only[Act.put,rW,su,sF])
  refine takeH 5 hHeld ?_
  (try simp only[Act.put,rW,su,sF])
  refine takeH 8 hHeld ?_
  (try simp only[Act.put,rW,su,sF])
  refine takeH 9 hHeld ?_
  (try simp only[Act.put,rW,su,sF])
  refine takeH 10 hHeld ?_
  (try simp only[Act.put,rW,su,sF])
  clear hHeld
  refine wpAnyH_ready (rs:=[3]) (by kernel_rfl) (by simp) (AllReadyH.cons (by simp only[sJ,sN,sD];rfl) (fun K hK=> ?_) AllReadyH.nil)
  go_simp
  go_at_call 22
  refine(HID.out _ gZ.bel).mono ?_;rintro e w5 ⟨rfl,dB⟩;have iq:=ah (gZ.below dB)
  have bI:=ah (bH.below dB bH.lt);have dM:=ah (dL.trans (dB.mono dL.size));clear dB
  go_wp2_with fail;refine hK.out _ _ (aA.out _ bI.out) (fun hHeld=> ?_)
  clear hK K
  (try simp only[Act.put,rW,su,sF])
  clear hHeld
  refine wpAnyH_ready (rs:=[6]) (by kernel_rfl) (by simp) (AllReadyH.cons (by simp only[sJ,sN,sD];rfl) (fun K hK=> ?_) AllReadyH.nil)
  go_simp
  go_at_call 23
  refine(qg.out _ iq.bel).mono ?_;rintro e w6 ⟨rfl,dD⟩;have dN:=ah (iq.below dD)
  have aZ:=ah (bI.below dD bI.lt);have bJ:=ah (dM.trans (dD.mono dM.size));clear dD
  go_wp2_with fail;refine hK.out _ _ (aA.out _ aZ.out) (fun hHeld=> ?_)
  clear hK K
  (try simp only[Act.put,rW,su,sF])
  clear hHeld
  refine wpAnyH_ready (rs:=[7,11]) (by kernel_rfl) (by simp) (AllReadyH.cons (by simp only[sJ,sN,sD];rfl) (fun K hK=> ?_) (AllReadyH.cons (by simp only[sJ,sN,sD];rfl) (fun K hK=> ?_) AllReadyH.nil))
  ·go_simp
   obtain⟨W7,hW⟩:=aj (w6.alloc (.cells #[.string zi,.string zl] 9))
   obtain⟨lb,hlb⟩:=aj w6.heap.size
   have hbW:Below w6.heap.size w6 W7:=hW▸(Below.refl _ _).alloc (rM _) _
   have eG:=ah (dN.below hbW);have eH:=ah (aZ.below hbW aZ.lt)
   have iw:=ah (bJ.trans (hbW.mono bJ.size))
   have HLW:=ah (show wr.heap.size<=lb by rw[<-hlb];exact bJ.size)
   have eP:=ah (show W7.ownsRow w.heap.size 9 1 (.slice (some ⟨lb,0,none⟩) 2 2) 2 [.string zi,.string zl] by rw[<-hW,<-hlb];exact own_fresh _ _ _ _ _ rfl dN.bel.size (by decide))
   rw[hW,hlb];clear hW hlb hbW;refine hK.out _ _ (aA.out _ eH.out) (fun hHeld=> ?_)
   clear hK K
   (try simp only[Act.put,rW,su,sF])
   clear hHeld
   refine wpAnyH_ready (rs:=[11]) (by kernel_rfl) (by simp) (AllReadyH.cons (by simp only[sJ,sN,sD];rfl) (fun K hK=> ?_) AllReadyH.nil)
   go_simp
   go_at_call 24
   refine(ig.out _ eG.out).mono ?_;rintro e w8 ⟨vv,rfl,ov,bv⟩
   obtain⟨Av,cv,rfl⟩:=own_form ov;have HV:=ah (own_base ov eG.bel.size)
   have bK:=ah (own_kept_ty eP.out (only_of_below bv none) (fun g c t fz hr=>by cases hr))
   have eU:=ah (eG.below bv);have aS:=ah (eH.below bv eH.lt)
   have bM:=ah (iw.trans (bv.mono iw.size));clear ov bv;go_wp2_with fail
   refine hK.out _ _ (aA.out _ aS.out) (fun hHeld=> ?_)
   clear hK K
   (try simp only[Act.put,rW,su,sF])
   have eX:=HV;clear hHeld
   refine wpAnyH_ready (rs:=[12]) (by kernel_rfl) (by simp) (AllReadyH.cons (by simp only[sJ,sN,sD];rfl) (fun K hK=> ?_) AllReadyH.nil)
   refine step_append_any rfl (.tmp 43) (.tmp 47) 45 9 (.string ⟨#[]⟩) 16 Tryz.underlying45 info_string rfl (by decide) rfl w.heap.size (.slice (some ⟨lb,0,none⟩) 2 2) 2 [.string zi,.string zl] w8 rfl bK.out _ Av ak cv (((Tb.keysN g).map (Tb.fieldOf n.props)).map ST) rfl (Reads.of_own eX.out) (st_one _) (by omega) eU.bel.size ?_
   intro v9 w9 ho9 hg9;obtain⟨A9,c9,rfl⟩:=own_form ho9
   have hb9:Below wr.heap.size wr w9:=bM.grown hg9 bM.size (fun k hk=>by cases hk;exact HLW.out)
   have aB:=ah (HS.below hb9)
   have HK9:=ah (aS.grown hg9 (own_ne_blk bK.out aS.out (by decide)))
   have aJ:=ah (show w9.ownsRow w.heap.size 9 1 (.slice A9 (2+ak) c9) (Tb.nodeRow (Tb.keysN g) n).length ((Tb.nodeRow (Tb.keysN g) n).map ST) by rw[HROW.out.1,HROW.out.2];exact ho9)
   clear ho9 hg9 hb9;refine hK.out _ _ (aA.out _ HK9.out) (fun hHeld=> ?_)
   clear hK K
   (try simp only[Act.put,rW,su,sF])
   clear hHeld
   refine wpAnyH_ready (rs:=[13]) (by kernel_rfl) (by simp) (AllReadyH.cons (by simp only[sJ,sN,sD];rfl) (fun K hK=> ?_) AllReadyH.nil)
   go_simp
   refine hK.out _ _ (aA.out _ (HK9.below ((Below.refl _ _).alloc (rM _) _) HK9.lt)) (fun hHeld=> ?_)
   clear hK K
   (try simp only[Act.put,rW,su,sF])
   obtain⟨us,u1,u2,u3⟩:=aB.rows
   have hlen:((Tb.headN++Tb.keysN g) ::(g.nodes.take k).map (Tb.nodeRow (Tb.keysN g))).length=k+1:=by rw[sS,sU,tK];have:=HLL.out;omega
   have HPUT:=ah (fun(v':Value) (w':World) (hg:w9.grownBy w' (Value.ownBlock (.slice Aq (k+1) cq))) (ho:w'.ownsRow w.heap.size 45 1 v' (((Tb.headN++Tb.keysN g) ::(g.nodes.take k).map (Tb.nodeRow (Tb.keysN g))).length+1) (us++[.slice A9 (2+ak) c9]))=>TpS.put aB.out u1 u2 u3 aJ.out hg ho)
   rw[hlen]at u2 HPUT;have HU2:=ah u2;clear u1 u2 u3 hlen;clear hHeld
   refine wpAnyH_ready (rs:=[14]) (by kernel_rfl) (by simp) (AllReadyH.cons (by simp only[sJ,sN,sD];rfl) (fun K hK=> ?_) AllReadyH.nil)
   refine step_append_one rfl (.tmp 36) (.tmp 49) 61 45 (.slice none 0 0) 24 Tryz.underlying61 info_strings rfl (by decide) rfl w.heap.size (.slice Aq (k+1) cq) (k+1) us w9 rfl HU2.out (.slice A9 (2+ak) c9) rfl rfl (by omega) aB.bel.size ?_
   intro v11 w11 aH hg11 bP hb11;obtain⟨aK,c11,rfl⟩:=own_form aH
   have HS11:=ah (HPUT.out _ _ hg11 aH)
   have aX:=ah (HK9.grown hg11 (own_ne_blk HU2.out HK9.out (by decide)))
   clear aH hg11 bP hb11;refine hK.out _ _ (aA.out _ aX.out) (fun hHeld=> ?_)
   clear hK K
   (try simp only[Act.put,rW,su,sF])
   clear hHeld;refine wpAnyH_done (by kernel_rfl) ?_ _
   refine lastQ_go (by simp only[sJ,sN,sD];rfl) (fun K hK=> ?_)
   go_simp;refine hK.out _ _ ?_;clear hK K
   have HS12:=ah (show TpS w aN ak aO (Tb.keysN g) (.slice aK (k+1+1) c11) ((Tb.headN++Tb.keysN g) ::(g.nodes.take (k+1)).map (Tb.nodeRow (Tb.keysN g))) #[.slice (some ⟨pb,po,none⟩) nn cn,.slice Ar rn cr] w11 by
    have h:=HS11.out;rw[HTK.out,uf]
    exact h)
   clear HS11 HPUT HU2 aJ aB HK9 aX aA;go_wp2
   go_roundg q
   case measure=>omega
   exact⟨k+1,aK,c11,rfl,int_eq (by omega),by have:=HK.out;omega,HS12.out⟩
  go_simp
  go_at_call 24
  refine(ig.out _ dN.out).mono ?_;rintro e w7 ⟨vv,rfl,ov,bv⟩
  obtain⟨Av,cv,rfl⟩:=own_form ov;have HV:=ah (own_base ov dN.bel.size)
  have iy:=ah (dN.below bv);have bQ:=ah (aZ.below bv aZ.lt)
  have bT:=ah (bJ.trans (bv.mono bJ.size));clear ov bv;go_wp2_with fail
  refine hK.out _ _ (aA.out _ bQ.out) (fun hHeld=> ?_)
  clear hK K
  (try simp only[Act.put,rW,su,sF])
  clear hHeld
  refine wpAnyH_ready (rs:=[7]) (by kernel_rfl) (by simp) (AllReadyH.cons (by simp only[sJ,sN,sD];rfl) (fun K hK=> ?_) AllReadyH.nil)
  go_simp;obtain⟨w8,hW⟩:=aj (w7.alloc (.cells #[.string zi,.string zl] 9))
  obtain⟨lb,hlb⟩:=aj w7.heap.size
  have hbW:Below w7.heap.size w7 w8:=hW▸(Below.refl _ _).alloc (rM _) _
  have eU:=ah (iy.below hbW);have aS:=ah (bQ.below hbW bQ.lt)
  have bM:=ah (bT.trans (hbW.mono bT.size))
  have HLW:=ah (show wr.heap.size<=lb by rw[<-hlb];exact bT.size)
  have eP:=ah (show w8.ownsRow w.heap.size 9 1 (.slice (some ⟨lb,0,none⟩) 2 2) 2 [.string zi,.string zl] by rw[<-hW,<-hlb];exact own_fresh _ _ _ _ _ rfl iy.bel.size (by decide))
  rw[hW,hlb];have bK:=eP
  have eX:=ah (own_kept_ty HV.out (only_of_below hbW none) (fun g c t fz hr=>by cases hr))
  clear hW hlb hbW;refine hK.out _ _ (aA.out _ aS.out) (fun hHeld=> ?_)
  clear hK K
  (try simp only[Act.put,rW,su,sF])
  clear hHeld
  refine wpAnyH_ready (rs:=[12]) (by kernel_rfl) (by simp) (AllReadyH.cons (by simp only[sJ,sN,sD];rfl) (fun K hK=> ?_) AllReadyH.nil)
  refine step_append_any rfl (.tmp 43) (.tmp 47) 45 9 (.string ⟨#[]⟩) 16 Tryz.underlying45 info_string rfl (by decide) rfl w.heap.size (.slice (some ⟨lb,0,none⟩) 2 2) 2 [.string zi,.string zl] w8 rfl bK.out _ Av ak cv (((Tb.keysN g).map (Tb.fieldOf n.props)).map ST) rfl (Reads.of_own eX.out) (st_one _) (by omega) eU.bel.size ?_
  intro v9 w9 ho9 hg9;obtain⟨A9,c9,rfl⟩:=own_form ho9
  have hb9:Below wr.heap.size wr w9:=bM.grown hg9 bM.size (fun k hk=>by cases hk;exact HLW.out)
  have aB:=ah (HS.below hb9)
  have HK9:=ah (aS.grown hg9 (own_ne_blk bK.out aS.out (by decide)))
  have aJ:=ah (show w9.ownsRow w.heap.size 9 1 (.slice A9 (2+ak) c9) (Tb.nodeRow (Tb.keysN g) n).length ((Tb.nodeRow (Tb.keysN g) n).map ST) by rw[HROW.out.1,HROW.out.2];exact ho9)
  clear ho9 hg9 hb9;refine hK.out _ _ (aA.out _ HK9.out) (fun hHeld=> ?_)
  clear hK K
  (try simp only[Act.put,rW,su,sF])
  clear hHeld
  refine wpAnyH_ready (rs:=[13]) (by kernel_rfl) (by simp) (AllReadyH.cons (by simp only[sJ,sN,sD];rfl) (fun K hK=> ?_) AllReadyH.nil)
  go_simp
  refine hK.out _ _ (aA.out _ (HK9.below ((Below.refl _ _).alloc (rM _) _) HK9.lt)) (fun hHeld=> ?_)
  clear hK K
  (try simp only[Act.put,rW,su,sF])
  obtain⟨us,u1,u2,u3⟩:=aB.rows
  have hlen:((Tb.headN++Tb.keysN g) ::(g.nodes.take k).map (Tb.nodeRow (Tb.keysN g))).length=k+1:=by rw[sS,sU,tK];have:=HLL.out;omega
  have HPUT:=ah (fun(v':Value) (w':World) (hg:w9.grownBy w' (Value.ownBlock (.slice Aq (k+1) cq))) (ho:w'.ownsRow w.heap.size 45 1 v' (((Tb.headN++Tb.keysN g) ::(g.nodes.take k).map (Tb.nodeRow (Tb.keysN g))).length+1) (us++[.slice A9 (2+ak) c9]))=>TpS.put aB.out u1 u2 u3 aJ.out hg ho)
  rw[hlen]at u2 HPUT;have HU2:=ah u2;clear u1 u2 u3 hlen;clear hHeld
  refine wpAnyH_ready (rs:=[14]) (by kernel_rfl) (by simp) (AllReadyH.cons (by simp only[sJ,sN,sD];rfl) (fun K hK=> ?_) AllReadyH.nil)
  refine step_append_one rfl (.tmp 36) (.tmp 49) 61 45 (.slice none 0 0) 24 Tryz.underlying61 info_strings rfl (by decide) rfl w.heap.size (.slice Aq (k+1) cq) (k+1) us w9 rfl HU2.out (.slice A9 (2+ak) c9) rfl rfl (by omega) aB.bel.size ?_
  intro v11 w11 aH hg11 bP hb11;obtain⟨aK,c11,rfl⟩:=own_form aH
  have HS11:=ah (HPUT.out _ _ hg11 aH)
  have aX:=ah (HK9.grown hg11 (own_ne_blk HU2.out HK9.out (by decide)))
  clear aH hg11 bP hb11;refine hK.out _ _ (aA.out _ aX.out) (fun hHeld=> ?_)
  clear hK K
  (try simp only[Act.put,rW,su,sF])
  clear hHeld;refine wpAnyH_done (by kernel_rfl) ?_ _
  refine lastQ_go (by simp only[sJ,sN,sD];rfl) (fun K hK=> ?_)
  go_simp;refine hK.out _ _ ?_;clear hK K
  have HS12:=ah (show TpS w aN ak aO (Tb.keysN g) (.slice aK (k+1+1) c11) ((Tb.headN++Tb.keysN g) ::(g.nodes.take (k+1)).map (Tb.nodeRow (Tb.keysN g))) #[.slice (some ⟨pb,po,none⟩) nn cn,.slice Ar rn cr] w11 by
   have h:=HS11.out;rw[HTK.out,uf]
   exact h)
  clear HS11 HPUT HU2 aJ aB HK9 aX aA;go_wp2
  go_roundg q
  case measure=>omega
  exact⟨k+1,aK,c11,rfl,int_eq (by omega),by have:=HK.out;omega,HS12.out⟩
 |zero=>
   have hkn:nn=k:=by omega
   subst hkn;have hro:=HS.rows;rw[sG (by rw[HNN.out];exact rM _)]at hro
   have hcs:=csv_rows hro (HL.below HS.bel) HWR.out.1 HNE.out.1
   obtain⟨zn,hzn⟩:=aj (⟨((Tb.rowsN g).flatMap Csv.printRow).toArray⟩:ByteArray)
   rw[show((Tb.headN++Tb.keysN g) :: g.nodes.map (Tb.nodeRow (Tb.keysN g)))=Tb.rowsN g from rfl,hzn]at hcs
   have aU:=ah hcs;have HZN:=ah hzn;clear hro hcs hzn hk;go_wp2_with fail
   refine aU.mono ?_;rintro e w7 ⟨rfl,b7⟩
   have HB7:=ah (HS.bel.trans (b7.mono HS.bel.size))
   have HK7:=ah (HS.box.below b7 HS.box.lt);clear b7 aU HS HK
   obtain⟨a0,a1⟩:=cells2 HK7.out;obtain⟨au,eY⟩:=aj ((Tb.keysR g).length)
   have qh:au<=200:=by have:=gG.out.2;omega
   have hnm:=names3_any w.heap.size (.agg #[.slice none 0 0,.slice Ar rn cr]) ⟨[],g.rels⟩ w7 ⟨⟨none,0,Ar,cr,by rw[HRN.out];rfl,Lst.nil,HGR.below HB7.out (RelC.below HB7.out)⟩,⟨by simp,by simp,HOK.rl,HOK.rs⟩⟩ HB7.size (by
    rw[show Gr.allProps ⟨[],g.rels⟩=g.rels.flatMap Gr.R.props by unfold Gr.allProps;simp]
    have:=flat_len16 Gr.R.props g.rels (fun x hx=>by obtain⟨_,h⟩:=aG.good.rels.mem hx;exact h.props.len)
    have:=aG.good.rels.len
    omega)
   rw[(keysN_len g).2,(keysN_names g).2,eY]at hnm;have iC:=ah hnm;have fA:=ah eY
   clear hnm eY;go_wp2_with fail;refine iC.mono ?_;rintro e bf ⟨aP,aQ,rfl,hko,hb3⟩
   have cu:=ah (HB7.trans (hb3.mono HB7.size));have jr:=ah (HK7.below hb3 HK7.lt)
   have hsp:=split_head ⟨#[58,73,68,44,58,83,84,65,82,84,44,58,69,78,68,44,58,84,89,80,69]⟩ Tb.headR 4 bf splitR_head rfl (by decide) (HL.below cu.out)
   have fB:=ah (own_base hko HB7.size);have nK:=ah hsp;clear hsp hko hb3 a0 a1 iC
   obtain⟨a0,a1⟩:=cells2 jr.out;go_wp2_with fail;refine nK.mono ?_;rintro e nM ⟨rfl,hw4⟩
   obtain⟨hbR,jU⟩:=aj bf.heap.size
   have hb4:Below bf.heap.size bf nM:=hw4▸(Below.refl _ _).alloc (rM _) _
   have dF:=ah (show nM.ownsRow w.heap.size 9 1 (.slice (some ⟨hbR,0,none⟩) 4 4) 4 (Tb.headR.map ST) by rw[<-hw4,<-jU];exact own_fresh _ _ _ _ _ rfl cu.size (by decide))
   have dG:=ah (cu.trans (hb4.mono cu.size));have dH:=ah (jr.below hb4 jr.lt)
   have gJ:=own_kept_ty fB.out (only_of_below hb4 none) (fun g c t fz hr=>by cases hr)
   have fC:=ah gJ
   have iD:=ah (show(Value.slice aP au aQ).ownBlock≠some hbR from fun e=>by
    have:=(World.ownsRow.lt fB.out hbR e).2
    omega)
   obtain⟨i0,hi,hz0,hz1,hz2⟩:=info_parts info_string;have iE:=ah hi
   have bg:=ah (And.intro hz0 (And.intro hz1 hz2));rw[jU]
   clear hw4 jU hb4 gJ hi hz0 hz1 hz2 a0 a1 nK;obtain⟨a0,a1⟩:=cells2 dH.out
   go_wp2_with (at_builtin;refine wpList_append_any _ rfl (.tmp 64) (.tmp 65) 45 rfl w.heap.size 9 i0 (.string ⟨#[]⟩) 1 16 Tryz.underlying45 iE.out bg.out.1 bg.out.2.1 bg.out.2.2 rfl (by decide) (.slice (some ⟨hbR,0,none⟩) 4 4) 4 (Tb.headR.map ST) rfl dF.out _ aP au aQ ((Tb.keysR g).map ST) rfl (Reads.of_own fC.out) (st_one _) (by unfold maxLen;omega) (by omega) dG.size ?_)
   intro qj bU ho5 hg5 hx5;clear hx5;obtain⟨iF,iG,rfl⟩:=own_form ho5
   have bG:bU.ownsRow w.heap.size 9 1 (.slice aP au aQ) au ((Tb.keysR g).map ST):=fC.kept hg5 (.inr iD.out)
   have hk5:=dH.grown hg5 (own_ne_blk dF.out dH.out (by decide))
   have hb5:=dG.grown hg5 dG.size (fun k hk=>(World.ownsRow.lt dF.out k hk).1)
   obtain⟨iH,dI⟩:=aj (bU.alloc (.cells #[.slice iF (4+au) iG] 45))
   obtain⟨jV,fD⟩:=aj bU.heap.size
   have hb6:Below bU.heap.size bU iH:=dI▸(Below.refl _ _).alloc (rM _) _
   have gq:=ah (show TpS w aP au aQ (Tb.keysR g) (.slice (some ⟨jV,0,none⟩) 1 1) [Tb.headR++Tb.keysR g] #[.slice An nn cn,.slice Ar rn cr] iH from
    ⟨hb5.trans (hb6.mono hb5.size),hk5.below hb6 hk5.lt,own_kept_ty bG (only_of_below hb6 none) (fun g c t fz hr=>by cases hr),[.slice iF (4+au) iG],rfl,by rw[<-dI,<-fD];exact own_fresh _ _ _ 1 _ rfl hb5.size (by decide),fun k u r hu hr=>by
     cases k with
     |succ k=>simp at hu
     |zero=>
      simp at hu hr;subst hu hr
      have:=own_kept_ty ho5 (only_of_below hb6 none) (fun g c t fz hr=>by cases hr)
      rw[rP,fA.out,uf]
      exact this⟩)
   have iI:=ah dI;have iJ:=ah fD
   clear ho5 hg5 bG hk5 hb5 dI hb6 fD a0 a1 iE bg dF fC dG dH fB cu jr iD
   go_upto_region 16 with fail
   rw[iI.out,iJ.out];clear iI iJ;obtain⟨a0,a1⟩:=cells2 gq.box;go_wp2_with fail
   go_loopg [8,71] rn (fun q x y wr=> ∃k:Nat,∃A c,x=.slice A (k+1) c/\y=.int .i64 k/\k+q=rn/\TpS w aP au aQ (Tb.keysR g) (.slice A (k+1) c) ((Tb.headR++Tb.keysR g) ::(g.rels.take k).map (Tb.relRow (Tb.keysR g))) #[.slice An nn cn,.slice Ar rn cr] wr)
   case atStart=>exact⟨0,_,_,rfl,rfl,by omega,gq.out⟩
   obtain⟨k,Aq,cq,rfl,rfl,hk,hs⟩:=hrel;have HS:=ah hs;have HK:=ah hk;clear hs gq a0 a1
   cases gk with
   |succ q=>
    have hkn:k<rn:=by omega
    have hknI:(k:Int)<rn:=by omega
    obtain⟨n,hn⟩: ∃n,g.rels[k]?=some n:=⟨_,ay (by rw[HRN.out];exact hkn)⟩
    have hnm:=sK hn;have htk:g.rels.take (k+1)=g.rels.take k++[n]:=by rw[uM,hn];rfl
    obtain⟨pb,po,cs,rfl,hpb,⟨sp,ecs,hpo⟩,-,hcl⟩:=HRA.out k n hn
    obtain⟨Ap,cp,rfl⟩:=hpo.form;simp only at ecs hpo;obtain⟨pl,hpl⟩:=aj n.props.length
    obtain⟨zt,hzt⟩:=aj (⟨n.type.toArray⟩:ByteArray)
    rw[show ST n.type=.string zt by rw[<-hzt];rfl,hpl]at ecs
    subst ecs;rw[hpl]at hpo
    have hcell:=fun(j:Nat) u (hu:([.int .i64 n.id,.string zt,.int .i64 n.src,.int .i64 n.dst,.slice Ap pl cp]:List Value)[j]?=some u)=>(HS.bel.cell (p:=⟨pb,po+k*5+j,none⟩) hpb).trans (hcl j u hu)
    have e0:=hcell 0 _ rfl;have e1:=hcell 1 _ rfl;have e2:=hcell 2 _ rfl
    have e3:=hcell 3 _ rfl;have e4:=hcell 4 _ rfl;rw[vw]at e0;have hfn:=aG.rel hnm
    have dY:=hfn.good.lo;have dZ:=hfn.good.hi;have jW:=hfn.good.slo;have jX:=hfn.good.shi
    have jY:=hfn.good.dlo;have jZ:=hfn.good.dhi
    obtain⟨zi,hzi⟩:=aj (⟨(Lib.itoa n.id).toArray⟩:ByteArray)
    obtain⟨zj,hzj⟩:=aj (⟨(Lib.itoa n.src).toArray⟩:ByteArray)
    obtain⟨zl,hzl⟩:=aj (⟨(Lib.itoa n.dst).toArray⟩:ByteArray)
    have hid:=fun(V:World) (hb:Below w.heap.size w V)=>tbId_any n.id V (by omega) (by omega) (HL.below hb)
    rw[hzi]at hid
    have hij:=fun(V:World) (hb:Below w.heap.size w V)=>tbId_any n.src V (by omega) (by omega) (HL.below hb)
    rw[hzj]at hij
    have hil:=fun(V:World) (hb:Below w.heap.size w V)=>tbId_any n.dst V (by omega) (by omega) (HL.below hb)
    rw[hzl]at hil
    have hva:=fun(V:World) (h:TpS w aP au aQ (Tb.keysR g) (.slice Aq (k+1) cq) ((Tb.headR++Tb.keysR g) ::(g.rels.take k).map (Tb.relRow (Tb.keysR g))) #[.slice An nn cn,.slice (some ⟨pb,po,none⟩) rn cr] V)=>lN V.heap.size aP Ap aQ cp au (Tb.keysR g) n.props V (Reads.of_own h.keys) ((hpo.lst.below h.bel (PropC.below h.bel)).more h.bel.size (PropC.more h.bel.size)) (by omega) (keys_lt _) (Tb.keys_nodup _) (fun p hp=>Tb.keys_mem.2 (uX (f:=Gr.P.key) (uF.2 ⟨n,hnm,hp⟩))) hfn.keys (fun p hp=>⟨(HOK.rs n hnm).ps p hp,(hfn.good.props p hp).val.ck⟩) (HOK.rs n hnm).pl (rM _) (HL.below h.bel)
    rw[hpl]at hva
    have HROW:=ah (show(Tb.relRow (Tb.keysR g) n).length=4+au/\(Tb.relRow (Tb.keysR g) n).map ST=[.string zi,.string zj,.string zl,.string zt] ++((Tb.keysR g).map (Tb.fieldOf n.props)).map ST from⟨by unfold Tb.relRow;simp only[sS,sU,fA.out];omega,by rw[<-hzi,<-hzj,<-hzl,<-hzt];rfl⟩)
    have HLL:=ah (show k<=g.rels.length by rw[HRN.out];omega)
    obtain⟨WN,hWN⟩:=aj (wr.alloc (.cells #[.int .i64 n.id,.string zt,.int .i64 n.src,.int .i64 n.dst,.slice Ap pl cp] 55))
    obtain⟨nd,hnd⟩:=aj wr.heap.size
    have hbn:Below wr.heap.size wr WN.drew:=(hWN▸(Below.refl _ wr).alloc (rM _) _:Below wr.heap.size wr WN).drew
    have bH:=ah (show Blk WN.drew nd 55 #[.int .i64 n.id,.string zt,.int .i64 n.src,.int .i64 n.dst,.slice Ap pl cp] from(show Blk WN nd 55 _ by rw[<-hWN,<-hnd];exact Blk.new _ _ _))
    have gZ:=ah (HS.below hbn);have dL:=ah hbn;have HID:=ah hid;have ku:=ah hij
    have iK:=ah hil;have ig:=ah hva;have HTK:=ah htk;have HWN:=ah hWN;have HND:=ah hnd
    have aA:=ah (fun(V:World) (h:Blk V nd 55 #[.int .i64 n.id,.string zt,.int .i64 n.src,.int .i64 n.dst,.slice Ap pl cp])=>cells5 h)
    clear hn hnm htk hpo hcl hpl hcell hfn dY dZ jW jX jY jZ hzi hzj hzl hzt hid hij hil hva hWN hnd hbn hk hpb
    go_upto_region 19 with fail
    rw[HWN.out,HND.out];clear HWN HND e0 e1 e2 e3 e4
    refine wp_region_last 20 (fun V=>V.cell? ⟨nd,0,none⟩=some (.int .i64 n.id)/\V.cell? ⟨nd,1,none⟩=some (.string zt)/\V.cell? ⟨nd,2,none⟩=some (.int .i64 n.src)/\V.cell? ⟨nd,3,none⟩=some (.int .i64 n.dst)/\V.cell? ⟨nd,4,none⟩=some (.slice Ap pl cp)) (by kernel_rfl) (by kernel_rfl) (aA.out _ (bH.out)) (fun hHeld=> ?_)
    simp only[wQ,yx];refine takeH 0 hHeld ?_
    (try simp only[Act.put,rW,su,sF])
    refine takeH 1 hHeld ?_
    (try simp only[Act.put,rW,su,sF])
    refine takeH 2 hHeld ?_
    (try simp only[Act.put,rW,su,sF])
    refine takeH 4 hHeld ?_
    (try simp only[Act.put,rW,su,sF])
    refine takeH 5 hHeld ?_
    (try simp only[Act.put,rW,su,sF])
    refine takeH 7 hHeld ?_
    (try simp only[Act.put,rW,su,sF])
    refine takeH 8 hHeld ?_
    (try simp only[Act.put,rW,su,sF])
    refine takeH 10 hHeld ?_
    (try simp only[Act.put,rW,su,sF])
    refine takeH 11 hHeld ?_
    (try simp only[Act.put,rW,su,sF])
    refine takeH 13 hHeld ?_
    (try simp only[Act.put,rW,su,sF])
    refine takeH 14 hHeld ?_
    (try simp only[Act.put,rW,su,sF])
    refine takeH 15 hHeld ?_
    (try simp only[Act.put,rW,su,sF])
    clear hHeld
    refine wpAnyH_ready (rs:=[3]) (by kernel_rfl) (by simp) (AllReadyH.cons (by simp only[sJ,sN,sD];rfl) (fun K hK=> ?_) AllReadyH.nil)
    go_simp
    go_at_call 22
    refine(HID.out _ gZ.bel).mono ?_;rintro e w5 ⟨rfl,dB⟩;have iq:=ah (gZ.below dB)
    have bI:=ah (bH.below dB bH.lt);have dM:=ah (dL.trans (dB.mono dL.size));clear dB
    go_wp2_with fail;refine hK.out _ _ (aA.out _ bI.out) (fun hHeld=> ?_)
    clear hK K
    (try simp only[Act.put,rW,su,sF])
    clear hHeld
    refine wpAnyH_ready (rs:=[6]) (by kernel_rfl) (by simp) (AllReadyH.cons (by simp only[sJ,sN,sD];rfl) (fun K hK=> ?_) AllReadyH.nil)
    go_simp
    go_at_call 22
    refine(ku.out _ iq.bel).mono ?_;rintro e w6 ⟨rfl,dD⟩;have dN:=ah (iq.below dD)
    have aZ:=ah (bI.below dD bI.lt);have bJ:=ah (dM.trans (dD.mono dM.size));clear dD
    go_wp2_with fail;refine hK.out _ _ (aA.out _ aZ.out) (fun hHeld=> ?_)
    clear hK K
    (try simp only[Act.put,rW,su,sF])
    clear hHeld
    refine wpAnyH_ready (rs:=[9]) (by kernel_rfl) (by simp) (AllReadyH.cons (by simp only[sJ,sN,sD];rfl) (fun K hK=> ?_) AllReadyH.nil)
    go_simp
    go_at_call 22
    refine(iK.out _ dN.bel).mono ?_;rintro e jv ⟨rfl,jw⟩;have iL:=ah (dN.below jw)
    have iM:=ah (aZ.below jw aZ.lt);have iO:=ah (bJ.trans (jw.mono bJ.size));clear jw
    go_wp2_with fail;refine hK.out _ _ (aA.out _ iM.out) (fun hHeld=> ?_)
    clear hK K
    (try simp only[Act.put,rW,su,sF])
    clear hHeld
    refine wpAnyH_ready (rs:=[12,16]) (by kernel_rfl) (by simp) (AllReadyH.cons (by simp only[sJ,sN,sD];rfl) (fun K hK=> ?_) (AllReadyH.cons (by simp only[sJ,sN,sD];rfl) (fun K hK=> ?_) AllReadyH.nil))
    ·go_simp
     obtain⟨W7,hW⟩:=aj (jv.alloc (.cells #[.string zi,.string zj,.string zl,.string zt] 9))
     obtain⟨lb,hlb⟩:=aj jv.heap.size
     have hbW:Below jv.heap.size jv W7:=hW▸(Below.refl _ _).alloc (rM _) _
     have eG:=ah (iL.below hbW);have eH:=ah (iM.below hbW iM.lt)
     have iw:=ah (iO.trans (hbW.mono iO.size))
     have HLW:=ah (show wr.heap.size<=lb by rw[<-hlb];exact iO.size)
     have eP:=ah (show W7.ownsRow w.heap.size 9 1 (.slice (some ⟨lb,0,none⟩) 4 4) 4 [.string zi,.string zj,.string zl,.string zt] by rw[<-hW,<-hlb];exact own_fresh _ _ _ _ _ rfl iL.bel.size (by decide))
     rw[hW,hlb];clear hW hlb hbW;refine hK.out _ _ (aA.out _ eH.out) (fun hHeld=> ?_)
     clear hK K
     (try simp only[Act.put,rW,su,sF])
     clear hHeld
     refine wpAnyH_ready (rs:=[16]) (by kernel_rfl) (by simp) (AllReadyH.cons (by simp only[sJ,sN,sD];rfl) (fun K hK=> ?_) AllReadyH.nil)
     go_simp
     go_at_call 24
     refine(ig.out _ eG.out).mono ?_;rintro e w8 ⟨vv,rfl,ov,bv⟩
     obtain⟨Av,cv,rfl⟩:=own_form ov;have HV:=ah (own_base ov eG.bel.size)
     have bK:=ah (own_kept_ty eP.out (only_of_below bv none) (fun g c t fz hr=>by cases hr))
     have eU:=ah (eG.below bv);have aS:=ah (eH.below bv eH.lt)
     have bM:=ah (iw.trans (bv.mono iw.size));clear ov bv;go_wp2_with fail
     refine hK.out _ _ (aA.out _ aS.out) (fun hHeld=> ?_)
     clear hK K
     (try simp only[Act.put,rW,su,sF])
     have eX:=HV;clear hHeld
     refine wpAnyH_ready (rs:=[17]) (by kernel_rfl) (by simp) (AllReadyH.cons (by simp only[sJ,sN,sD];rfl) (fun K hK=> ?_) AllReadyH.nil)
     refine step_append_any rfl (.tmp 87) (.tmp 91) 45 9 (.string ⟨#[]⟩) 16 Tryz.underlying45 info_string rfl (by decide) rfl w.heap.size (.slice (some ⟨lb,0,none⟩) 4 4) 4 [.string zi,.string zj,.string zl,.string zt] w8 rfl bK.out _ Av au cv (((Tb.keysR g).map (Tb.fieldOf n.props)).map ST) rfl (Reads.of_own eX.out) (st_one _) (by omega) eU.bel.size ?_
     intro v9 w9 ho9 hg9;obtain⟨A9,c9,rfl⟩:=own_form ho9
     have hb9:Below wr.heap.size wr w9:=bM.grown hg9 bM.size (fun k hk=>by cases hk;exact HLW.out)
     have aB:=ah (HS.below hb9)
     have HK9:=ah (aS.grown hg9 (own_ne_blk bK.out aS.out (by decide)))
     have aJ:=ah (show w9.ownsRow w.heap.size 9 1 (.slice A9 (4+au) c9) (Tb.relRow (Tb.keysR g) n).length ((Tb.relRow (Tb.keysR g) n).map ST) by rw[HROW.out.1,HROW.out.2];exact ho9)
     clear ho9 hg9 hb9;refine hK.out _ _ (aA.out _ HK9.out) (fun hHeld=> ?_)
     clear hK K
     (try simp only[Act.put,rW,su,sF])
     clear hHeld
     refine wpAnyH_ready (rs:=[18]) (by kernel_rfl) (by simp) (AllReadyH.cons (by simp only[sJ,sN,sD];rfl) (fun K hK=> ?_) AllReadyH.nil)
     go_simp
     refine hK.out _ _ (aA.out _ (HK9.below ((Below.refl _ _).alloc (rM _) _) HK9.lt)) (fun hHeld=> ?_)
     clear hK K
     (try simp only[Act.put,rW,su,sF])
     obtain⟨us,u1,u2,u3⟩:=aB.rows
     have hlen:((Tb.headR++Tb.keysR g) ::(g.rels.take k).map (Tb.relRow (Tb.keysR g))).length=k+1:=by rw[sS,sU,tK];have:=HLL.out;omega
     have HPUT:=ah (fun(v':Value) (w':World) (hg:w9.grownBy w' (Value.ownBlock (.slice Aq (k+1) cq))) (ho:w'.ownsRow w.heap.size 45 1 v' (((Tb.headR++Tb.keysR g) ::(g.rels.take k).map (Tb.relRow (Tb.keysR g))).length+1) (us++[.slice A9 (4+au) c9]))=>TpS.put aB.out u1 u2 u3 aJ.out hg ho)
     rw[hlen]at u2 HPUT;have HU2:=ah u2;clear u1 u2 u3 hlen;clear hHeld
     refine wpAnyH_ready (rs:=[19]) (by kernel_rfl) (by simp) (AllReadyH.cons (by simp only[sJ,sN,sD];rfl) (fun K hK=> ?_) AllReadyH.nil)
     refine step_append_one rfl (.tmp 75) (.tmp 93) 61 45 (.slice none 0 0) 24 Tryz.underlying61 info_strings rfl (by decide) rfl w.heap.size (.slice Aq (k+1) cq) (k+1) us w9 rfl HU2.out (.slice A9 (4+au) c9) rfl rfl (by omega) aB.bel.size ?_
     intro v11 w11 aH hg11 bP hb11;obtain⟨aK,c11,rfl⟩:=own_form aH
     have HS11:=ah (HPUT.out _ _ hg11 aH)
     have aX:=ah (HK9.grown hg11 (own_ne_blk HU2.out HK9.out (by decide)))
     clear aH hg11 bP hb11;refine hK.out _ _ (aA.out _ aX.out) (fun hHeld=> ?_)
     clear hK K
     (try simp only[Act.put,rW,su,sF])
     clear hHeld;refine wpAnyH_done (by kernel_rfl) ?_ _
     refine lastQ_go (by simp only[sJ,sN,sD];rfl) (fun K hK=> ?_)
     go_simp;refine hK.out _ _ ?_;clear hK K
     have HS12:=ah (show TpS w aP au aQ (Tb.keysR g) (.slice aK (k+1+1) c11) ((Tb.headR++Tb.keysR g) ::(g.rels.take (k+1)).map (Tb.relRow (Tb.keysR g))) #[.slice An nn cn,.slice (some ⟨pb,po,none⟩) rn cr] w11 by
      have h:=HS11.out;rw[HTK.out,uf]
      exact h)
     clear HS11 HPUT HU2 aJ aB HK9 aX aA;go_wp2
     go_roundg q
     case measure=>omega
     exact⟨k+1,aK,c11,rfl,int_eq (by omega),by have:=HK.out;omega,HS12.out⟩
    go_simp
    go_at_call 24
    refine(ig.out _ iL.out).mono ?_;rintro e w7 ⟨vv,rfl,ov,bv⟩
    obtain⟨Av,cv,rfl⟩:=own_form ov;have HV:=ah (own_base ov iL.bel.size)
    have iy:=ah (iL.below bv);have bQ:=ah (iM.below bv iM.lt)
    have bT:=ah (iO.trans (bv.mono iO.size));clear ov bv;go_wp2_with fail
    refine hK.out _ _ (aA.out _ bQ.out) (fun hHeld=> ?_)
    clear hK K
    (try simp only[Act.put,rW,su,sF])
    clear hHeld
    refine wpAnyH_ready (rs:=[12]) (by kernel_rfl) (by simp) (AllReadyH.cons (by simp only[sJ,sN,sD];rfl) (fun K hK=> ?_) AllReadyH.nil)
    go_simp
    obtain⟨w8,hW⟩:=aj (w7.alloc (.cells #[.string zi,.string zj,.string zl,.string zt] 9))
    obtain⟨lb,hlb⟩:=aj w7.heap.size
    have hbW:Below w7.heap.size w7 w8:=hW▸(Below.refl _ _).alloc (rM _) _
    have eU:=ah (iy.below hbW);have aS:=ah (bQ.below hbW bQ.lt)
    have bM:=ah (bT.trans (hbW.mono bT.size))
    have HLW:=ah (show wr.heap.size<=lb by rw[<-hlb];exact bT.size)
    have eP:=ah (show w8.ownsRow w.heap.size 9 1 (.slice (some ⟨lb,0,none⟩) 4 4) 4 [.string zi,.string zj,.string zl,.string zt] by rw[<-hW,<-hlb];exact own_fresh _ _ _ _ _ rfl iy.bel.size (by decide))
    rw[hW,hlb];have bK:=eP
    have eX:=ah (own_kept_ty HV.out (only_of_below hbW none) (fun g c t fz hr=>by cases hr))
    clear hW hlb hbW;refine hK.out _ _ (aA.out _ aS.out) (fun hHeld=> ?_)
    clear hK K
    (try simp only[Act.put,rW,su,sF])
    clear hHeld
    refine wpAnyH_ready (rs:=[17]) (by kernel_rfl) (by simp) (AllReadyH.cons (by simp only[sJ,sN,sD];rfl) (fun K hK=> ?_) AllReadyH.nil)
    refine step_append_any rfl (.tmp 87) (.tmp 91) 45 9 (.string ⟨#[]⟩) 16 Tryz.underlying45 info_string rfl (by decide) rfl w.heap.size (.slice (some ⟨lb,0,none⟩) 4 4) 4 [.string zi,.string zj,.string zl,.string zt] w8 rfl bK.out _ Av au cv (((Tb.keysR g).map (Tb.fieldOf n.props)).map ST) rfl (Reads.of_own eX.out) (st_one _) (by omega) eU.bel.size ?_
    intro v9 w9 ho9 hg9;obtain⟨A9,c9,rfl⟩:=own_form ho9
    have hb9:Below wr.heap.size wr w9:=bM.grown hg9 bM.size (fun k hk=>by cases hk;exact HLW.out)
    have aB:=ah (HS.below hb9)
    have HK9:=ah (aS.grown hg9 (own_ne_blk bK.out aS.out (by decide)))
    have aJ:=ah (show w9.ownsRow w.heap.size 9 1 (.slice A9 (4+au) c9) (Tb.relRow (Tb.keysR g) n).length ((Tb.relRow (Tb.keysR g) n).map ST) by rw[HROW.out.1,HROW.out.2];exact ho9)
    clear ho9 hg9 hb9;refine hK.out _ _ (aA.out _ HK9.out) (fun hHeld=> ?_)
    clear hK K
    (try simp only[Act.put,rW,su,sF])
    clear hHeld
    refine wpAnyH_ready (rs:=[18]) (by kernel_rfl) (by simp) (AllReadyH.cons (by simp only[sJ,sN,sD];rfl) (fun K hK=> ?_) AllReadyH.nil)
    go_simp
    refine hK.out _ _ (aA.out _ (HK9.below ((Below.refl _ _).alloc (rM _) _) HK9.lt)) (fun hHeld=> ?_)
    clear hK K
    (try simp only[Act.put,rW,su,sF])
    obtain⟨us,u1,u2,u3⟩:=aB.rows
    have hlen:((Tb.headR++Tb.keysR g) ::(g.rels.take k).map (Tb.relRow (Tb.keysR g))).length=k+1:=by rw[sS,sU,tK];have:=HLL.out;omega
    have HPUT:=ah (fun(v':Value) (w':World) (hg:w9.grownBy w' (Value.ownBlock (.slice Aq (k+1) cq))) (ho:w'.ownsRow w.heap.size 45 1 v' (((Tb.headR++Tb.keysR g) ::(g.rels.take k).map (Tb.relRow (Tb.keysR g))).length+1) (us++[.slice A9 (4+au) c9]))=>TpS.put aB.out u1 u2 u3 aJ.out hg ho)
    rw[hlen]at u2 HPUT;have HU2:=ah u2;clear u1 u2 u3 hlen;clear hHeld
    refine wpAnyH_ready (rs:=[19]) (by kernel_rfl) (by simp) (AllReadyH.cons (by simp only[sJ,sN,sD];rfl) (fun K hK=> ?_) AllReadyH.nil)
    refine step_append_one rfl (.tmp 75) (.tmp 93) 61 45 (.slice none 0 0) 24 Tryz.underlying61 info_strings rfl (by decide) rfl w.heap.size (.slice Aq (k+1) cq) (k+1) us w9 rfl HU2.out (.slice A9 (4+au) c9) rfl rfl (by omega) aB.bel.size ?_
    intro v11 w11 aH hg11 bP hb11;obtain⟨aK,c11,rfl⟩:=own_form aH
    have HS11:=ah (HPUT.out _ _ hg11 aH)
    have aX:=ah (HK9.grown hg11 (own_ne_blk HU2.out HK9.out (by decide)))
    clear aH hg11 bP hb11;refine hK.out _ _ (aA.out _ aX.out) (fun hHeld=> ?_)
    clear hK K
    (try simp only[Act.put,rW,su,sF])
    clear hHeld;refine wpAnyH_done (by kernel_rfl) ?_ _
    refine lastQ_go (by simp only[sJ,sN,sD];rfl) (fun K hK=> ?_)
    go_simp;refine hK.out _ _ ?_;clear hK K
    have HS12:=ah (show TpS w aP au aQ (Tb.keysR g) (.slice aK (k+1+1) c11) ((Tb.headR++Tb.keysR g) ::(g.rels.take (k+1)).map (Tb.relRow (Tb.keysR g))) #[.slice An nn cn,.slice (some ⟨pb,po,none⟩) rn cr] w11 by
     have h:=HS11.out;rw[HTK.out,uf]
     exact h)
    clear HS11 HPUT HU2 aJ aB HK9 aX aA;go_wp2
    go_roundg q
    case measure=>omega
    exact⟨k+1,aK,c11,rfl,int_eq (by omega),by have:=HK.out;omega,HS12.out⟩
   |zero=>
     have hkn:rn=k:=by omega
     subst hkn;have hro:=HS.rows;rw[sG (by rw[HRN.out];exact rM _)]at hro
     have hcs:=csv_rows hro (HL.below HS.bel) HWR.out.2 HNE.out.2
     obtain⟨zr,hzr⟩:=aj (⟨((Tb.rowsR g).flatMap Csv.printRow).toArray⟩:ByteArray)
     rw[show((Tb.headR++Tb.keysR g) :: g.rels.map (Tb.relRow (Tb.keysR g)))=Tb.rowsR g from rfl,hzr]at hcs
     have aU:=ah hcs;have bg:=ah hzr;clear hro hcs hzr hk;go_wp2_with fail
     refine aU.mono ?_;rintro e w8 ⟨rfl,b8⟩
     have HB8:=ah (HS.bel.trans (b8.mono HS.bel.size));clear b8 aU HS HK
     have HFIN:=ah (show Ending.returned (.tuple #[.string ⟨R.1.1.toArray⟩,.string ⟨R.1.2.toArray⟩,.int .i64 (R.2:Nat)])=Ending.returned (.tuple #[.string zn,.string zr,.int .i64 0]) by rw[HRR.out,<-HZN.out,<-bg.out];rfl)
     go_wp2
     go_ret3
     exact⟨HFIN.symm,HB8.out⟩
end Go.Proofs.YtanlehkalkafdaaGreatDoor
