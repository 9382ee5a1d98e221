/- Contracts and plain laws,part 38. -/
import Derived.Test.YtanlehkalkafdaaGreatDoorUT37
set_option maxHeartbeats 64000000
set_option maxRecDepth 1000000
set_option linter.all false
namespace Go.Proofs.YtanlehkalkafdaaGreatDoor
open Go.RowKit
theorem own_fresh (w:World) (B T n:Nat) (xs:List Value) (hn:xs.length=n) (hB:B<=w.heap.size) (hm:n<=maxLen):(w.alloc (.cells xs.toArray T)).ownsRow B T 1 (.slice (some ⟨w.heap.size,0,none⟩) n n) n xs:=
 ⟨by omega, .inr ⟨w.heap.size,n,xs.toArray,rfl,hB,Blk.new _ _ _,kV _,hm,by simp [hn],by simp [<-hn]⟩⟩
theorem step_append_any {ops:Array Oper} {o:Oper} {a:Act} {K:Act->World->Prop} {Q:Exit->Act->World->Prop} {E:Prop} (hgd:o.guard=none) (s x:Operand) (T e:TypeId) (z:Value) (bytes:Nat)
  (hT:Tryz.prog.underlying T=some (.slice e)) (hinfo:(Tryz.prog.info? e).map (fun i=>(i.zero,i.size,i.bytes))=some (some z,1,bytes)) (hz:z.cells.size=1) (hby:bytes<=24)
  (ho:o.op= .call {callee:= .builtin .append,args:= #[s,x],argTypes:= #[T,T]})
  (B:Nat) (v:Value) (n:Nat) (xs:List Value) (W:World) (hs:a.eval s=v) (h:W.ownsRow B e 1 v n xs) (B2:Nat) (A:Option Addr) (m c:Nat) (news:List Value) (hx:a.eval x= .slice A m c) (hr:Reads W B2 1 A m news) (hu: ∀u∈news,u.oneCell'=true)
  (hl:n+m<=1073741824) (hB:B<=W.heap.size)
  (k: ∀v' w',w'.ownsRow B e 1 v' (n+m) (xs ++ news)->W.grownBy w' v.ownBlock->K (a.put o.dst v') w'):
  if Region.wanted o (yielded ops a.tmps)=true then Oper.wp Tryz.prog o a W K Q else E:=by
 have hw:Region.wanted o (yielded ops a.tmps)=true:=by simp [Region.wanted,hgd]
 rw [lu hw];obtain ⟨i0,hi,hz0,hz1,hz2⟩:=info_parts hinfo
 exact wp_append_any (P:=Tryz.prog) W s x T ho B e i0 z 1 bytes hT hi hz0 hz1 hz2 hz (by decide) v n xs hs h B2 A m c news hx hr hu (by unfold maxLen;omega) (by
  have:(n+m)*bytes<=1073741824*24:=qQ hl hby
  omega) hB fun v' w' h2 h3 _=>k v' w' h2 h3
theorem st_one (l:List (List UInt8)): ∀u∈l.map ST,u.oneCell'=true:=fun u hu=>by
 obtain ⟨x,-,rfl⟩:=nR.1 hu;rfl
structure TpS (w:World) (A:Option Addr) (kn c:Nat) (keys:List (List UInt8)) (v:Value) (rows:List (List (List UInt8))) (gc:Array Value) (V:World):Prop where
 bel:Below w.heap.size w V
 box:Blk V w.heap.size 25 gc
 keys:V.ownsRow w.heap.size 9 1 (.slice A kn c) kn (keys.map ST)
 rows:RowsO V w.heap.size v rows
theorem TpS.below {w V V':World} {A:Option Addr} {kn c:Nat} {keys:List (List UInt8)} {v:Value} {rows:List (List (List UInt8))} {gc:Array Value} (h:TpS w A kn c keys v rows gc V) (hb:Below V.heap.size V V'):TpS w A kn c keys v rows gc V':=
 ⟨h.bel.trans (hb.mono h.bel.size),h.box.below hb h.box.lt,own_kept_ty h.keys (only_of_below hb none) (fun g c t fz hr=>by cases hr),h.rows.below hb⟩
theorem TpS.put {w V V':World} {A:Option Addr} {kn c:Nat} {keys:List (List UInt8)} {v v' u:Value} {rows:List (List (List UInt8))} {r:List (List UInt8)} {us:List Value} {gc:Array Value} (h:TpS w A kn c keys v rows gc V) (h1:us.length=rows.length) (h2:V.ownsRow w.heap.size 45 1 v rows.length us)
  (h3: ∀(k:Nat) u r,us[k]?=some u->rows[k]?=some r->V.ownsRow w.heap.size 9 1 u r.length (r.map ST)) (hu:V.ownsRow w.heap.size 9 1 u r.length (r.map ST)) (hg:V.grownBy V' v.ownBlock)
  (ho:V'.ownsRow w.heap.size 45 1 v' (rows.length+1) (us ++ [u])):TpS w A kn c keys v' (rows ++ [r]) gc V':=
 ⟨h.bel.grown hg h.bel.size (fun k hk=>(World.ownsRow.lt h2 k hk).1),h.box.grown hg (own_ne_blk h2 h.box (by decide)),own_ty h.keys h2 hg (by decide),RowsO.put h1 h2 h3 hu hg ho⟩
theorem keysN_names (g:Gr.G):sortL (Gr.names3 ⟨g.nodes, []⟩)=Tb.keysN g/\sortL (Gr.names3 ⟨[],g.rels⟩)=Tb.keysR g:=by
 constructor
 ·unfold Gr.names3 Gr.allProps Tb.keysN
  simp;rfl
 unfold Gr.names3 Gr.allProps Tb.keysR;simp;rfl
theorem keysN_len (g:Gr.G):(Gr.dedup (Gr.names3 ⟨g.nodes, []⟩)).length=(Tb.keysN g).length/\(Gr.dedup (Gr.names3 ⟨[],g.rels⟩)).length=(Tb.keysR g).length:=by
 have h:=keysN_names g;exact ⟨by rw [<-h.1,sortL_length],by rw [<-h.2,sortL_length]⟩
theorem flat_len16 {α β:Type} (f:α->List β): ∀l:List α,(∀a∈l,(f a).length<=16)->(l.flatMap f).length<=16*l.length
 | [],_=>by simp
 | a :: r,h=>by
  have h1:=h a (qE ..);have ih:=flat_len16 f r fun x hx=>h x (mg _ hx)
  rw [ny,kW,lF];omega
theorem split_head (hd:ByteArray) (want:List (List UInt8)) (m:Nat) (w:World) (hsp:Lib.splitB ⟨#[44]⟩ 0 (Lib.countB hd ⟨#[44]⟩) hd=want.map BA) (hwl:want.length=m) (hhd:hd.size<=1000) (hL:Laid w):
  Calls Tryz.prog 21 #[.string hd, .string ⟨#[44]⟩] w fun e w'=>e= .returned (.slice (some ⟨w.heap.size,0,none⟩) m m)/\w.alloc (.cells (want.map ST).toArray 9)=w':=by
 obtain ⟨m0,hm⟩:=hL.max
 have hs:=Tryz.strings_Split hd ⟨#[44]⟩ m0 w (by omega) hm (by decide)
 have hcnt:Lib.countB hd ⟨#[44]⟩+1=m:=by
  rw [<-hwl,<-lU (f:=BA),<-hsp,Lib.splitB_all _ (by decide) 0 _ hd rfl]
 rw [hcnt,hsp,show (want.map BA).map Value.string=want.map ST by rw [oQ];rfl] at hs
 exact hs.mono fun e w' ⟨he,hw⟩=>⟨he,hw.symm⟩
theorem csv_rows {V:World} {B:Nat} {v:Value} {rows:List (List (List UInt8))} (h:RowsO V B v rows) (hL:Laid V) (hw:Csv.wRows rows<=8388608) (hne: []∉rows):
  Calls Tryz.prog 25 #[v] V fun e w'=>e= .returned (.tuple #[.string ⟨(rows.flatMap Csv.printRow).toArray⟩, .int .i64 0])/\Below V.heap.size V w':=by
 obtain ⟨m,hm⟩:=hL.max;have h1:=csvPrint_any v rows V m h.rows2 hm (by omega)
 rw [Csv.print_some hne] at h1;exact h1
theorem fF {B0:Nat} {u:Value} {g:Gr.G} {w:World} (h:GOwn w B0 u g) (ok:GOk g) (hL:Laid w):
  Calls Tryz.prog 11 #[u] w fun e w'=>e= .returned (.tuple #[.string ⟨(Tb.printR g).1.1.toArray⟩, .string ⟨(Tb.printR g).1.2.toArray⟩, .int .i64 ((Tb.printR g).2:Nat)])/\Below w.heap.size w w':=by
 have hgi:=h.gin ok;obtain ⟨sn,sr,ln,lr,rfl,q1,q2,q3,q4,q5,q6⟩:=h
 obtain ⟨An,cn,rfl⟩:=own_form q3;obtain ⟨Ar,cr,rfl⟩:=own_form q6
 have fQ:=lst_own (R:=fun n cs=>NodeOwn w B0 (n,cs)) q3 (by rw [<-q1,lU]) (fun x hx=>(q2 x hx).len) q2
 have fU:=lst_own (R:=fun n cs=>RelOwn w B0 (n,cs)) q6 (by rw [<-q4,lU]) (fun x hx=>(q5 x hx).len) q5
 rw [q1] at fQ;rw [q4] at fU;clear q1 q2 q3 q4 q5 q6
 obtain ⟨A1,d1,A2,d2,eu,hgN,hgR⟩:=hgi.ex
 injection eu with eu
 simp only [List.toArray_inj,Array.mk.injEq,oM,rJ,Value.slice.injEq] at eu
 obtain ⟨⟨rfl,-,rfl⟩,rfl,-,rfl⟩:=eu;obtain ⟨nn,hnn⟩:=aj g.nodes.length
 obtain ⟨rn,hrn⟩:=aj g.rels.length
 have hck:=fun (V:World) (hb:Below w.heap.size w V)=>gCheck_any w.heap.size _ g V (hgi.below hb) hb.size
 obtain ⟨c1,hc1⟩:=aj ((Gr.check g).1);obtain ⟨c2,hc2⟩:=aj ((Gr.check g).2)
 rw [hc1,hc2,hnn,hrn] at hck;obtain ⟨R,hR⟩:=aj (Tb.printR g);rw [hR]
 unfold Tb.printR at hR;rw [hc1] at hR
 have iQ:c1=0->Cy.Fine g:=fun e0=>fine_of (Gr.check_good.1 (hc1.trans e0)) ok
 rw [hnn,hrn]
 obtain ⟨W1,hW1⟩:=aj (w.alloc (.cells #[.slice An nn cn, .slice Ar rn cr] 25))
 have hb1:Below w.heap.size w W1:=by rw [<-hW1];exact (Below.refl _ w).alloc (kV _) _
 have k1:Blk W1 w.heap.size 25 #[.slice An nn cn, .slice Ar rn cr]:=by rw [<-hW1];exact Blk.new _ _ _
 have HCK:=ah (hck W1 hb1);have HW1:=ah hW1;have HK1:=ah k1;have HB1:=ah hb1
 have HR:=ah hR;have HF:=ah iQ;have HGN:=ah hgN;have HGR:=ah hgR;have HNA:=ah fQ
 have HRA:=ah fU;have HNN:=ah hnn;have HRN:=ah hrn;have HOK:=ah ok;have HL:=ah hL
 obtain ⟨a0,a1⟩:=cells2 k1
 clear ok hL hgi hgN hgR fQ fU hck hR iQ hnn hrn hb1 hW1 k1 hc1 hc2
 go_enter Tryz.func11,Tryz.ntmps11
 go_upto_region 1 with fail
 rw [HW1.out];clear HW1;go_wp2_with fail;refine HCK.mono ?_;rintro e w2 ⟨rfl,hb2⟩
 have HB2:=ah (HB1.trans (hb2.mono HB1.size));have HK2:=ah (HK1.below hb2 HK1.lt)
 clear hb2 a0 a1 HCK HK1;obtain ⟨a0,a1⟩:=cells2 HK2.out;by_cases hc0:c1=0
 case neg=>
  have hr:R=(([], []),c1):=by rw [<-HR.out,kU hc0]
  subst hr;have t0:((c1:Int) !=0)=true:=by rw [mF];omega
  clear hc0;go_wp2
  go_ret3
  exact ⟨rfl,HB2.out⟩
 subst hc0;have HRR:=ah (show R=(Tb.print g,0) by rw [<-HR.out,lu rfl])
 have aJ:=ah (HF.out rfl);have HWR:=ah (table_w aJ.out);have HNE:=ah (Tb.rows_ne g)
 have iR:=ah (names_sub aJ.good)
 have hnl:nn<=1024:=by rw [<-HNN.out];exact aJ.good.nodes.len
 have hrl:rn<=2048:=by rw [<-HRN.out];exact aJ.good.rels.len
 clear HR HF;obtain ⟨ay,fV⟩:=aj ((Tb.keysN g).length)
 have kM:ay<=200:=by have:=iR.out.1;omega
 have hnm:=names3_any w.heap.size (.agg #[.slice An nn cn, .slice none 0 0]) ⟨g.nodes, []⟩ w2 ⟨⟨An,cn,none,0,by rw [HNN.out];rfl,HGN.below HB2.out (NodeC.below HB2.out),Lst.nil⟩,⟨HOK.nl,HOK.ns,by simp,by simp⟩⟩ HB2.size (by
  rw [show Gr.allProps ⟨g.nodes, []⟩=g.nodes.flatMap Gr.N.props by unfold Gr.allProps;simp]
  have:=flat_len16 Gr.N.props g.nodes (fun x hx=>by obtain ⟨_,h⟩:=aJ.good.nodes.mem hx;exact h.props.len)
  have:=aJ.good.nodes.len
  omega)
 rw [(keysN_len g).1,(keysN_names g).1,fV] at hnm;have iT:=ah hnm;have iU:=ah fV
 clear hnm fV;go_wp2_with fail;refine iT.mono ?_;rintro e dX ⟨aQ,aS,rfl,hko,hb3⟩
 have cZ:=ah (HB2.trans (hb3.mono HB2.size));have dY:=ah (HK2.below hb3 HK2.lt)
 have hsp:=split_head ⟨#[58,73,68,44,58,76,65,66,69,76]⟩ Tb.headN 2 dX splitN_head rfl (by decide) (HL.below cZ.out)
 have fZ:=ah (own_base hko HB2.size);have iV:=ah hsp;clear hsp hko hb3 a0 a1 iT
 obtain ⟨a0,a1⟩:=cells2 dY.out;go_wp2_with fail;refine iV.mono ?_;rintro e iW ⟨rfl,hw4⟩
 obtain ⟨hbN,gq⟩:=aj dX.heap.size
 have hb4:Below dX.heap.size dX iW:=hw4▸(Below.refl _ _).alloc (kV _) _
 have dZ:=ah (show iW.ownsRow w.heap.size 9 1 (.slice (some ⟨hbN,0,none⟩) 2 2) 2 (Tb.headN.map ST) by rw [<-hw4,<-gq];exact own_fresh _ _ _ _ _ rfl cZ.size (by decide))
 have eG:=ah (cZ.trans (hb4.mono cZ.size));have eH:=ah (dY.below hb4 dY.lt)
 have dh:=own_kept_ty fZ.out (only_of_below hb4 none) (fun g c t fz hr=>by cases hr)
 have gu:=ah dh
 have iY:=ah (show (Value.slice aQ ay aS).ownBlock≠some hbN from fun e=>by
  have:=(World.ownsRow.lt fZ.out hbN e).2
  omega)
 obtain ⟨i0,hi,hz0,hz1,hz2⟩:=info_parts info_string;have HIN:=ah hi
 have HZN:=ah (And.intro hz0 (And.intro hz1 hz2));rw [gq]
 clear hw4 gq hb4 dh hi hz0 hz1 hz2 a0 a1 iV;obtain ⟨a0,a1⟩:=cells2 eH.out
 go_wp2_with (at_builtin;refine wpList_append_any _ rfl (.tmp 25) (.tmp 26) 45 rfl w.heap.size 9 i0 (.string ⟨#[]⟩) 1 16 Tryz.underlying45 HIN.out HZN.out.1 HZN.out.2.1 HZN.out.2.2 rfl (by decide) (.slice (some ⟨hbN,0,none⟩) 2 2) 2 (Tb.headN.map ST) rfl dZ.out _ aQ ay aS ((Tb.keysN g).map ST) rfl (Reads.of_own gu.out) (st_one _) (by unfold maxLen;omega) (by omega) eG.size ?_)
 intro kN dw ho5 hg5 hx5;clear hx5;obtain ⟨iZ,jc,rfl⟩:=own_form ho5
 have dA:dw.ownsRow w.heap.size 9 1 (.slice aQ ay aS) ay ((Tb.keysN g).map ST):=gu.kept hg5 (.inr iY.out)
 have hk5:=eH.grown hg5 (own_ne_blk dZ.out eH.out (by decide))
 have hb5:=eG.grown hg5 eG.size (fun k hk=>(World.ownsRow.lt dZ.out k hk).1)
 obtain ⟨jd,eP⟩:=aj (dw.alloc (.cells #[.slice iZ (2+ay) jc] 45))
 obtain ⟨jS,gy⟩:=aj dw.heap.size
 have hb6:Below dw.heap.size dw jd:=eP▸(Below.refl _ _).alloc (kV _) _
 have gB:=ah (show TpS w aQ ay aS (Tb.keysN g) (.slice (some ⟨jS,0,none⟩) 1 1) [Tb.headN ++ Tb.keysN g] #[.slice An nn cn, .slice Ar rn cr] jd from
  ⟨hb5.trans (hb6.mono hb5.size),hk5.below hb6 hk5.lt,own_kept_ty dA (only_of_below hb6 none) (fun g c t fz hr=>by cases hr), [.slice iZ (2+ay) jc],rfl,by rw [<-eP,<-gy];exact own_fresh _ _ _ 1 _ rfl hb5.size (by decide),fun k u r hu hr=>by
   cases k with
   | succ k=>simp at hu
   | zero=>
    simp at hu hr;subst hu hr
    have:=own_kept_ty ho5 (only_of_below hb6 none) (fun g c t fz hr=>by cases hr)
    rw [kW,iU.out,mV]
    exact this⟩)
 have je:=ah eP;have jf:=ah gy
 clear ho5 hg5 dA hk5 hb5 eP hb6 gy a0 a1 HIN HZN dZ gu eG eH fZ cZ dY iY
 go_upto_region 6 with fail
 rw [je.out,jf.out];clear je jf;obtain ⟨a0,a1⟩:=cells2 gB.box;go_wp2_with fail
 go_loopg [8,32] nn (fun q x y wr=> ∃k:Nat,∃A c,x= .slice A (k+1) c/\y= .int .i64 k/\k+q=nn/\TpS w aQ ay aS (Tb.keysN g) (.slice A (k+1) c) ((Tb.headN ++ Tb.keysN g) ::(g.nodes.take k).map (Tb.nodeRow (Tb.keysN g))) #[.slice An nn cn, .slice Ar rn cr] wr)
 case atStart=>exact ⟨0,_,_,rfl,rfl,by omega,gB.out⟩
 obtain ⟨k,Aq,cq,rfl,rfl,hk,hs⟩:=hrel;have HS:=ah hs;have HK:=ah hk;clear hs gB a0 a1
 cases gk with
 | succ q=>
  have hkn:k<nn:=by omega
  have hknI:(k:Int)<nn:=by omega
  obtain ⟨n,hn⟩: ∃n,g.nodes[k]?=some n:=⟨_,ak (by rw [HNN.out];exact hkn)⟩
  have hnm:=lS hn;have htk:g.nodes.take (k+1)=g.nodes.take k ++ [n]:=by rw [nV,hn];rfl
  obtain ⟨pb,po,cs,rfl,hpb,⟨sl,sp,ecs,hlo,hpo⟩,-,hcl⟩:=HNA.out k n hn
  obtain ⟨Al,cl,rfl⟩:=own_form hlo;obtain ⟨Ap,cp,rfl⟩:=hpo.form;simp only at ecs hlo hpo
  subst ecs;obtain ⟨ll,hll⟩:=aj n.labels.length;obtain ⟨pl,hpl⟩:=aj n.props.length
  rw [hll] at hlo hcl;rw [hpl] at hpo hcl
  have hcell:=fun (j:Nat) u (hu:([.int .i64 n.id, .slice Al ll cl, .slice Ap pl cp]:List Value)[j]?=some u)=>(HS.bel.cell (p:=⟨pb,po+k*3+j,none⟩) hpb).trans (hcl j u hu)
  have e0:=hcell 0 _ rfl;have e1:=hcell 1 _ rfl;have e2:=hcell 2 _ rfl;rw [oO] at e0
  have hfn:=aJ.node hnm;have gG:=hfn.good.lo;have gI:=hfn.good.hi
  obtain ⟨zi,hzi⟩:=aj (⟨(Lib.itoa n.id).toArray⟩:ByteArray)
  obtain ⟨zl,hzl⟩:=aj (⟨(Tb.joinS n.labels).toArray⟩:ByteArray)
  have kP:ll<=8:=by rw [<-hll];obtain ⟨_,h⟩:=aJ.good.nodes.mem hnm;exact h.labels.len
  have hjl:=labels_len n.labels fun l hl=>tb_name_len (hfn.good.labels l hl)
  have hid:=fun (V:World) (hb:Below w.heap.size w V)=>tbId_any n.id V (by omega) (by omega) (HL.below hb)
  rw [hzi] at hid
  have hjo:=fun (V:World) (hb:Below w.heap.size w V)=>joinL_any V (own_kept_ty hlo (only_of_below hb none) (fun g c t fz hr=>by cases hr)) (by omega) (by omega)
  rw [hzl] at hjo
  have hva:=fun (V:World) (h:TpS w aQ ay aS (Tb.keysN g) (.slice Aq (k+1) cq) ((Tb.headN ++ Tb.keysN g) ::(g.nodes.take k).map (Tb.nodeRow (Tb.keysN g))) #[.slice (some ⟨pb,po,none⟩) nn cn, .slice Ar rn cr] V)=>iw V.heap.size aQ Ap aS cp ay (Tb.keysN g) n.props V (Reads.of_own h.keys) ((hpo.lst.below h.bel (PropC.below h.bel)).more h.bel.size (PropC.more h.bel.size)) (by omega) (keys_lt _) (Tb.keys_nodup _) (fun p hp=>Tb.keys_mem.2 (oD (f:=Gr.P.key) (nM.2 ⟨n,hnm,hp⟩))) hfn.keys (fun p hp=>⟨(HOK.ns n hnm).ps p hp,(hfn.good.props p hp).val.ck⟩) (HOK.ns n hnm).pl (kV _) (HL.below h.bel)
  rw [hpl] at hva
  have HROW:=ah (show (Tb.nodeRow (Tb.keysN g) n).length=2+ay/\(Tb.nodeRow (Tb.keysN g) n).map ST= [.string zi, .string zl] ++((Tb.keysN g).map (Tb.fieldOf n.props)).map ST from ⟨by unfold Tb.nodeRow;rw [lF,lF,lU,iU.out];omega,by rw [<-hzi,<-hzl];rfl⟩)
  have HLL:=ah (show k<=g.nodes.length by rw [HNN.out];omega)
  obtain ⟨WN,hWN⟩:=aj (wr.alloc (.cells #[.int .i64 n.id, .slice Al ll cl, .slice Ap pl cp] 48))
  obtain ⟨nd,hnd⟩:=aj wr.heap.size
  have hbn:Below wr.heap.size wr WN.drew:=(hWN▸(Below.refl _ wr).alloc (kV _) _:Below wr.heap.size wr WN).drew
  have bG:=ah (show Blk WN.drew nd 48 #[.int .i64 n.id, .slice Al ll cl, .slice Ap pl cp] from (show Blk WN nd 48 _ by rw [<-hWN,<-hnd];exact Blk.new _ _ _))
  have dB:=ah (HS.below hbn);have dD:=ah hbn;have HID:=ah hid;have jT:=ah hjo
  have dF:=ah hva;have HTK:=ah htk;have HWN:=ah hWN;have HND:=ah hnd
  have au:=ah (fun (V:World) (h:Blk V nd 48 #[.int .i64 n.id, .slice Al ll cl, .slice Ap pl cp])=>cells3 h)
  clear hn hnm htk hlo hpo hcl hll hpl hcell hfn gG gI hzi hzl hjl hid hjo hva hWN hnd hbn hk hpb
  go_upto_region 9 with fail
  rw [HWN.out,HND.out];clear HWN HND e0 e1 e2
  refine wp_region_last 15 (fun V=>V.cell? ⟨nd,0,none⟩=some (.int .i64 n.id)/\V.cell? ⟨nd,1,none⟩=some (.slice Al ll cl)/\V.cell? ⟨nd,2,none⟩=some (.slice Ap pl cp)) (by kernel_rfl) (by kernel_rfl) (au.out _ (bG.out)) (fun hHeld=> ?_)
  simp only [pV,tV];refine takeH 0 hHeld ?_
  (try simp only [Act.put,lg,lD,lG])
  refine takeH 1 hHeld ?_
  (try simp only [Act.put,lg,lD,lG])
  refine takeH 2 hHeld ?_
  (try simp only [Act.put,lg,lD,lG])
  refine takeH 4 hHeld ?_
  (try simp only [Act.put,lg,lD,lG])
  refine takeH 5 hHeld ?_
  (try simp only [Act.put,lg,lD,lG])
  refine takeH 8 hHeld ?_
  (try simp only [Act.put,lg,lD,lG])
  refine takeH 9 hHeld ?_
  (try simp only [Act.put,lg,lD,lG])
  refine takeH 10 hHeld ?_
  (try simp only [Act.put,lg,lD,lG])
  clear hHeld
  refine wpAnyH_ready (rs:= [3]) (by kernel_rfl) (by simp) (AllReadyH.cons (by simp only [lM,lQ,lC];rfl) (fun K hK=> ?_) AllReadyH.nil)
  go_simp
  go_at_call 22
  refine (HID.out _ dB.bel).mono ?_;rintro e w5 ⟨rfl,aT⟩;have dG:=ah (dB.below aT)
  have bH:=ah (bG.below aT bG.lt);have dH:=ah (dD.trans (aT.mono dD.size));clear aT
  go_wp2_with fail;refine hK.out _ _ (au.out _ bH.out) (fun hHeld=> ?_)
  clear hK K
  (try simp only [Act.put,lg,lD,lG])
  clear hHeld
  refine wpAnyH_ready (rs:= [6]) (by kernel_rfl) (by simp) (AllReadyH.cons (by simp only [lM,lQ,lC];rfl) (fun K hK=> ?_) AllReadyH.nil)
  go_simp
  go_at_call 23
  refine (jT.out _ dG.bel).mono ?_;rintro e w6 ⟨rfl,aU⟩;have bf:=ah (dG.below aU)
  have aV:=ah (bH.below aU bH.lt);have bg:=ah (dH.trans (aU.mono dH.size));clear aU
  go_wp2_with fail;refine hK.out _ _ (au.out _ aV.out) (fun hHeld=> ?_)
  clear hK K
  (try simp only [Act.put,lg,lD,lG])
  clear hHeld
  refine wpAnyH_ready (rs:= [7,11]) (by kernel_rfl) (by simp) (AllReadyH.cons (by simp only [lM,lQ,lC];rfl) (fun K hK=> ?_) (AllReadyH.cons (by simp only [lM,lQ,lC];rfl) (fun K hK=> ?_) AllReadyH.nil))
  ·go_simp
   obtain ⟨W7,hW⟩:=aj (w6.alloc (.cells #[.string zi, .string zl] 9))
   obtain ⟨lb,hlb⟩:=aj w6.heap.size
   have hbW:Below w6.heap.size w6 W7:=hW▸(Below.refl _ _).alloc (kV _) _
   have bI:=ah (bf.below hbW);have bJ:=ah (aV.below hbW aV.lt)
   have dI:=ah (bg.trans (hbW.mono bg.size))
   have HLW:=ah (show wr.heap.size<=lb by rw [<-hlb];exact bg.size)
   have bK:=ah (show W7.ownsRow w.heap.size 9 1 (.slice (some ⟨lb,0,none⟩) 2 2) 2 [.string zi, .string zl] by rw [<-hW,<-hlb];exact own_fresh _ _ _ _ _ rfl bf.bel.size (by decide))
   rw [hW,hlb];clear hW hlb hbW;refine hK.out _ _ (au.out _ bJ.out) (fun hHeld=> ?_)
   clear hK K
   (try simp only [Act.put,lg,lD,lG])
   clear hHeld
   refine wpAnyH_ready (rs:= [11]) (by kernel_rfl) (by simp) (AllReadyH.cons (by simp only [lM,lQ,lC];rfl) (fun K hK=> ?_) AllReadyH.nil)
   go_simp
   go_at_call 24
   refine (dF.out _ bI.out).mono ?_;rintro e w8 ⟨vv,rfl,ov,bv⟩
   obtain ⟨Av,cv,rfl⟩:=own_form ov;have HV:=ah (own_base ov bI.bel.size)
   have aK:=ah (own_kept_ty bK.out (only_of_below bv none) (fun g c t fz hr=>by cases hr))
   have bM:=ah (bI.below bv);have aC:=ah (bJ.below bv bJ.lt)
   have aN:=ah (dI.trans (bv.mono dI.size));clear ov bv;go_wp2_with fail
   refine hK.out _ _ (au.out _ aC.out) (fun hHeld=> ?_)
   clear hK K
   (try simp only [Act.put,lg,lD,lG])
   have bP:=HV;clear hHeld
   refine wpAnyH_ready (rs:= [12]) (by kernel_rfl) (by simp) (AllReadyH.cons (by simp only [lM,lQ,lC];rfl) (fun K hK=> ?_) AllReadyH.nil)
   refine step_append_any rfl (.tmp 43) (.tmp 47) 45 9 (.string ⟨#[]⟩) 16 Tryz.underlying45 info_string rfl (by decide) rfl w.heap.size (.slice (some ⟨lb,0,none⟩) 2 2) 2 [.string zi, .string zl] w8 rfl aK.out _ Av ay cv (((Tb.keysN g).map (Tb.fieldOf n.props)).map ST) rfl (Reads.of_own bP.out) (st_one _) (by omega) bM.bel.size ?_
   intro v9 w9 ho9 hg9;obtain ⟨A9,c9,rfl⟩:=own_form ho9
   have hb9:Below wr.heap.size wr w9:=aN.grown hg9 aN.size (fun k hk=>by cases hk;exact HLW.out)
   have aB:=ah (HS.below hb9)
   have HK9:=ah (aC.grown hg9 (own_ne_blk aK.out aC.out (by decide)))
   have aO:=ah (show w9.ownsRow w.heap.size 9 1 (.slice A9 (2+ay) c9) (Tb.nodeRow (Tb.keysN g) n).length ((Tb.nodeRow (Tb.keysN g) n).map ST) by rw [HROW.out.1,HROW.out.2];exact ho9)
   clear ho9 hg9 hb9;refine hK.out _ _ (au.out _ HK9.out) (fun hHeld=> ?_)
   clear hK K
   (try simp only [Act.put,lg,lD,lG])
   clear hHeld
   refine wpAnyH_ready (rs:= [13]) (by kernel_rfl) (by simp) (AllReadyH.cons (by simp only [lM,lQ,lC];rfl) (fun K hK=> ?_) AllReadyH.nil)
   go_simp
   refine hK.out _ _ (au.out _ (HK9.below ((Below.refl _ _).alloc (kV _) _) HK9.lt)) (fun hHeld=> ?_)
   clear hK K
   (try simp only [Act.put,lg,lD,lG])
   obtain ⟨us,u1,u2,u3⟩:=aB.rows
   have hlen:((Tb.headN ++ Tb.keysN g) ::(g.nodes.take k).map (Tb.nodeRow (Tb.keysN g))).length=k+1:=by rw [lF,lU,mO];have:=HLL.out;omega
   have HPUT:=ah (fun (v':Value) (w':World) (hg:w9.grownBy w' (Value.ownBlock (.slice Aq (k+1) cq))) (ho:w'.ownsRow w.heap.size 45 1 v' (((Tb.headN ++ Tb.keysN g) ::(g.nodes.take k).map (Tb.nodeRow (Tb.keysN g))).length+1) (us ++ [.slice A9 (2+ay) c9]))=>TpS.put aB.out u1 u2 u3 aO.out hg ho)
   rw [hlen] at u2 HPUT;have HU2:=ah u2;clear u1 u2 u3 hlen;clear hHeld
   refine wpAnyH_ready (rs:= [14]) (by kernel_rfl) (by simp) (AllReadyH.cons (by simp only [lM,lQ,lC];rfl) (fun K hK=> ?_) AllReadyH.nil)
   refine step_append_one rfl (.tmp 36) (.tmp 49) 61 45 (.slice none 0 0) 24 Tryz.underlying61 info_strings rfl (by decide) rfl w.heap.size (.slice Aq (k+1) cq) (k+1) us w9 rfl HU2.out (.slice A9 (2+ay) c9) rfl rfl (by omega) aB.bel.size ?_
   intro v11 w11 aF hg11 bQ hb11;obtain ⟨aP,c11,rfl⟩:=own_form aF
   have HS11:=ah (HPUT.out _ _ hg11 aF)
   have aH:=ah (HK9.grown hg11 (own_ne_blk HU2.out HK9.out (by decide)))
   clear aF hg11 bQ hb11;refine hK.out _ _ (au.out _ aH.out) (fun hHeld=> ?_)
   clear hK K
   (try simp only [Act.put,lg,lD,lG])
   clear hHeld;refine wpAnyH_done (by kernel_rfl) ?_ _
   refine lastQ_go (by simp only [lM,lQ,lC];rfl) (fun K hK=> ?_)
   go_simp;refine hK.out _ _ ?_;clear hK K
   have HS12:=ah (show TpS w aQ ay aS (Tb.keysN g) (.slice aP (k+1+1) c11) ((Tb.headN ++ Tb.keysN g) ::(g.nodes.take (k+1)).map (Tb.nodeRow (Tb.keysN g))) #[.slice (some ⟨pb,po,none⟩) nn cn, .slice Ar rn cr] w11 by
    have h:=HS11.out;rw [HTK.out,mV]
    exact h)
   clear HS11 HPUT HU2 aO aB HK9 aH au;go_wp2
   go_roundg q
   case measure=>omega
   exact ⟨k+1,aP,c11,rfl,int_eq (by omega),by have:=HK.out;omega,HS12.out⟩
  go_simp
  go_at_call 24
  refine (dF.out _ bf.out).mono ?_;rintro e w7 ⟨vv,rfl,ov,bv⟩
  obtain ⟨Av,cv,rfl⟩:=own_form ov;have HV:=ah (own_base ov bf.bel.size)
  have dJ:=ah (bf.below bv);have bT:=ah (aV.below bv aV.lt)
  have bU:=ah (bg.trans (bv.mono bg.size));clear ov bv;go_wp2_with fail
  refine hK.out _ _ (au.out _ bT.out) (fun hHeld=> ?_)
  clear hK K
  (try simp only [Act.put,lg,lD,lG])
  clear hHeld
  refine wpAnyH_ready (rs:= [7]) (by kernel_rfl) (by simp) (AllReadyH.cons (by simp only [lM,lQ,lC];rfl) (fun K hK=> ?_) AllReadyH.nil)
  go_simp;obtain ⟨w8,hW⟩:=aj (w7.alloc (.cells #[.string zi, .string zl] 9))
  obtain ⟨lb,hlb⟩:=aj w7.heap.size
  have hbW:Below w7.heap.size w7 w8:=hW▸(Below.refl _ _).alloc (kV _) _
  have bM:=ah (dJ.below hbW);have aC:=ah (bT.below hbW bT.lt)
  have aN:=ah (bU.trans (hbW.mono bU.size))
  have HLW:=ah (show wr.heap.size<=lb by rw [<-hlb];exact bU.size)
  have bK:=ah (show w8.ownsRow w.heap.size 9 1 (.slice (some ⟨lb,0,none⟩) 2 2) 2 [.string zi, .string zl] by rw [<-hW,<-hlb];exact own_fresh _ _ _ _ _ rfl dJ.bel.size (by decide))
  rw [hW,hlb];have aK:=bK
  have bP:=ah (own_kept_ty HV.out (only_of_below hbW none) (fun g c t fz hr=>by cases hr))
  clear hW hlb hbW;refine hK.out _ _ (au.out _ aC.out) (fun hHeld=> ?_)
  clear hK K
  (try simp only [Act.put,lg,lD,lG])
  clear hHeld
  refine wpAnyH_ready (rs:= [12]) (by kernel_rfl) (by simp) (AllReadyH.cons (by simp only [lM,lQ,lC];rfl) (fun K hK=> ?_) AllReadyH.nil)
  refine step_append_any rfl (.tmp 43) (.tmp 47) 45 9 (.string ⟨#[]⟩) 16 Tryz.underlying45 info_string rfl (by decide) rfl w.heap.size (.slice (some ⟨lb,0,none⟩) 2 2) 2 [.string zi, .string zl] w8 rfl aK.out _ Av ay cv (((Tb.keysN g).map (Tb.fieldOf n.props)).map ST) rfl (Reads.of_own bP.out) (st_one _) (by omega) bM.bel.size ?_
  intro v9 w9 ho9 hg9;obtain ⟨A9,c9,rfl⟩:=own_form ho9
  have hb9:Below wr.heap.size wr w9:=aN.grown hg9 aN.size (fun k hk=>by cases hk;exact HLW.out)
  have aB:=ah (HS.below hb9)
  have HK9:=ah (aC.grown hg9 (own_ne_blk aK.out aC.out (by decide)))
  have aO:=ah (show w9.ownsRow w.heap.size 9 1 (.slice A9 (2+ay) c9) (Tb.nodeRow (Tb.keysN g) n).length ((Tb.nodeRow (Tb.keysN g) n).map ST) by rw [HROW.out.1,HROW.out.2];exact ho9)
  clear ho9 hg9 hb9;refine hK.out _ _ (au.out _ HK9.out) (fun hHeld=> ?_)
  clear hK K
  (try simp only [Act.put,lg,lD,lG])
  clear hHeld
  refine wpAnyH_ready (rs:= [13]) (by kernel_rfl) (by simp) (AllReadyH.cons (by simp only [lM,lQ,lC];rfl) (fun K hK=> ?_) AllReadyH.nil)
  go_simp
  refine hK.out _ _ (au.out _ (HK9.below ((Below.refl _ _).alloc (kV _) _) HK9.lt)) (fun hHeld=> ?_)
  clear hK K
  (try simp only [Act.put,lg,lD,lG])
  obtain ⟨us,u1,u2,u3⟩:=aB.rows
  have hlen:((Tb.headN ++ Tb.keysN g) ::(g.nodes.take k).map (Tb.nodeRow (Tb.keysN g))).length=k+1:=by rw [lF,lU,mO];have:=HLL.out;omega
  have HPUT:=ah (fun (v':Value) (w':World) (hg:w9.grownBy w' (Value.ownBlock (.slice Aq (k+1) cq))) (ho:w'.ownsRow w.heap.size 45 1 v' (((Tb.headN ++ Tb.keysN g) ::(g.nodes.take k).map (Tb.nodeRow (Tb.keysN g))).length+1) (us ++ [.slice A9 (2+ay) c9]))=>TpS.put aB.out u1 u2 u3 aO.out hg ho)
  rw [hlen] at u2 HPUT;have HU2:=ah u2;clear u1 u2 u3 hlen;clear hHeld
  refine wpAnyH_ready (rs:= [14]) (by kernel_rfl) (by simp) (AllReadyH.cons (by simp only [lM,lQ,lC];rfl) (fun K hK=> ?_) AllReadyH.nil)
  refine step_append_one rfl (.tmp 36) (.tmp 49) 61 45 (.slice none 0 0) 24 Tryz.underlying61 info_strings rfl (by decide) rfl w.heap.size (.slice Aq (k+1) cq) (k+1) us w9 rfl HU2.out (.slice A9 (2+ay) c9) rfl rfl (by omega) aB.bel.size ?_
  intro v11 w11 aF hg11 bQ hb11;obtain ⟨aP,c11,rfl⟩:=own_form aF
  have HS11:=ah (HPUT.out _ _ hg11 aF)
  have aH:=ah (HK9.grown hg11 (own_ne_blk HU2.out HK9.out (by decide)))
  clear aF hg11 bQ hb11;refine hK.out _ _ (au.out _ aH.out) (fun hHeld=> ?_)
  clear hK K
  (try simp only [Act.put,lg,lD,lG])
  clear hHeld;refine wpAnyH_done (by kernel_rfl) ?_ _
  refine lastQ_go (by simp only [lM,lQ,lC];rfl) (fun K hK=> ?_)
  go_simp;refine hK.out _ _ ?_;clear hK K
  have HS12:=ah (show TpS w aQ ay aS (Tb.keysN g) (.slice aP (k+1+1) c11) ((Tb.headN ++ Tb.keysN g) ::(g.nodes.take (k+1)).map (Tb.nodeRow (Tb.keysN g))) #[.slice (some ⟨pb,po,none⟩) nn cn, .slice Ar rn cr] w11 by
   have h:=HS11.out;rw [HTK.out,mV]
   exact h)
  clear HS11 HPUT HU2 aO aB HK9 aH au;go_wp2
  go_roundg q
  case measure=>omega
  exact ⟨k+1,aP,c11,rfl,int_eq (by omega),by have:=HK.out;omega,HS12.out⟩
 | zero=>
   have hkn:nn=k:=by omega
   subst hkn;have hro:=HS.rows;rw [lT (by rw [HNN.out];exact kV _)] at hro
   have hcs:=csv_rows hro (HL.below HS.bel) HWR.out.1 HNE.out.1
   obtain ⟨zn,hzn⟩:=aj (⟨((Tb.rowsN g).flatMap Csv.printRow).toArray⟩:ByteArray)
   rw [show ((Tb.headN ++ Tb.keysN g) :: g.nodes.map (Tb.nodeRow (Tb.keysN g)))=Tb.rowsN g from rfl,hzn] at hcs
   have aZ:=ah hcs;have HZN:=ah hzn;clear hro hcs hzn hk;go_wp2_with fail
   refine aZ.mono ?_;rintro e w7 ⟨rfl,b7⟩
   have HB7:=ah (HS.bel.trans (b7.mono HS.bel.size))
   have HK7:=ah (HS.box.below b7 HS.box.lt);clear b7 aZ HS HK
   obtain ⟨a0,a1⟩:=cells2 HK7.out;obtain ⟨aA,gJ⟩:=aj ((Tb.keysR g).length)
   have kQ:aA<=200:=by have:=iR.out.2;omega
   have hnm:=names3_any w.heap.size (.agg #[.slice none 0 0, .slice Ar rn cr]) ⟨[],g.rels⟩ w7 ⟨⟨none,0,Ar,cr,by rw [HRN.out];rfl,Lst.nil,HGR.below HB7.out (RelC.below HB7.out)⟩,⟨by simp,by simp,HOK.rl,HOK.rs⟩⟩ HB7.size (by
    rw [show Gr.allProps ⟨[],g.rels⟩=g.rels.flatMap Gr.R.props by unfold Gr.allProps;simp]
    have:=flat_len16 Gr.R.props g.rels (fun x hx=>by obtain ⟨_,h⟩:=aJ.good.rels.mem hx;exact h.props.len)
    have:=aJ.good.rels.len
    omega)
   rw [(keysN_len g).2,(keysN_names g).2,gJ] at hnm;have jg:=ah hnm;have jh:=ah gJ
   clear hnm gJ;go_wp2_with fail;refine jg.mono ?_;rintro e eU ⟨aW,aX,rfl,hko,hb3⟩
   have dK:=ah (HB7.trans (hb3.mono HB7.size));have eX:=ah (HK7.below hb3 HK7.lt)
   have hsp:=split_head ⟨#[58,73,68,44,58,83,84,65,82,84,44,58,69,78,68,44,58,84,89,80,69]⟩ Tb.headR 4 eU splitR_head rfl (by decide) (HL.below dK.out)
   have gK:=ah (own_base hko HB7.size);have jk:=ah hsp;clear hsp hko hb3 a0 a1 jg
   obtain ⟨a0,a1⟩:=cells2 eX.out;go_wp2_with fail;refine jk.mono ?_;rintro e jl ⟨rfl,hw4⟩
   obtain ⟨hbR,gQ⟩:=aj eU.heap.size
   have hb4:Below eU.heap.size eU jl:=hw4▸(Below.refl _ _).alloc (kV _) _
   have eY:=ah (show jl.ownsRow w.heap.size 9 1 (.slice (some ⟨hbR,0,none⟩) 4 4) 4 (Tb.headR.map ST) by rw [<-hw4,<-gQ];exact own_fresh _ _ _ _ _ rfl dK.size (by decide))
   have fA:=ah (dK.trans (hb4.mono dK.size));have fB:=ah (eX.below hb4 eX.lt)
   have dh:=own_kept_ty gK.out (only_of_below hb4 none) (fun g c t fz hr=>by cases hr)
   have gU:=ah dh
   have jm:=ah (show (Value.slice aW aA aX).ownBlock≠some hbR from fun e=>by
    have:=(World.ownsRow.lt gK.out hbR e).2
    omega)
   obtain ⟨i0,hi,hz0,hz1,hz2⟩:=info_parts info_string;have jo:=ah hi
   have bY:=ah (And.intro hz0 (And.intro hz1 hz2));rw [gQ]
   clear hw4 gQ hb4 dh hi hz0 hz1 hz2 a0 a1 jk;obtain ⟨a0,a1⟩:=cells2 fB.out
   go_wp2_with (at_builtin;refine wpList_append_any _ rfl (.tmp 64) (.tmp 65) 45 rfl w.heap.size 9 i0 (.string ⟨#[]⟩) 1 16 Tryz.underlying45 jo.out bY.out.1 bY.out.2.1 bY.out.2.2 rfl (by decide) (.slice (some ⟨hbR,0,none⟩) 4 4) 4 (Tb.headR.map ST) rfl eY.out _ aW aA aX ((Tb.keysR g).map ST) rfl (Reads.of_own gU.out) (st_one _) (by unfold maxLen;omega) (by omega) fA.size ?_)
   intro kR dL ho5 hg5 hx5;clear hx5;obtain ⟨jr,jv,rfl⟩:=own_form ho5
   have dA:dL.ownsRow w.heap.size 9 1 (.slice aW aA aX) aA ((Tb.keysR g).map ST):=gU.kept hg5 (.inr jm.out)
   have hk5:=fB.grown hg5 (own_ne_blk eY.out fB.out (by decide))
   have hb5:=fA.grown hg5 fA.size (fun k hk=>(World.ownsRow.lt eY.out k hk).1)
   obtain ⟨jw,fC⟩:=aj (dL.alloc (.cells #[.slice jr (4+aA) jv] 45))
   obtain ⟨jU,gV⟩:=aj dL.heap.size
   have hb6:Below dL.heap.size dL jw:=fC▸(Below.refl _ _).alloc (kV _) _
   have gW:=ah (show TpS w aW aA aX (Tb.keysR g) (.slice (some ⟨jU,0,none⟩) 1 1) [Tb.headR ++ Tb.keysR g] #[.slice An nn cn, .slice Ar rn cr] jw from
    ⟨hb5.trans (hb6.mono hb5.size),hk5.below hb6 hk5.lt,own_kept_ty dA (only_of_below hb6 none) (fun g c t fz hr=>by cases hr), [.slice jr (4+aA) jv],rfl,by rw [<-fC,<-gV];exact own_fresh _ _ _ 1 _ rfl hb5.size (by decide),fun k u r hu hr=>by
     cases k with
     | succ k=>simp at hu
     | zero=>
      simp at hu hr;subst hu hr
      have:=own_kept_ty ho5 (only_of_below hb6 none) (fun g c t fz hr=>by cases hr)
      rw [kW,jh.out,mV]
      exact this⟩)
   have jy:=ah fC;have jA:=ah gV
   clear ho5 hg5 dA hk5 hb5 fC hb6 gV a0 a1 jo bY eY gU fA fB gK dK eX jm
   go_upto_region 16 with fail
   rw [jy.out,jA.out];clear jy jA;obtain ⟨a0,a1⟩:=cells2 gW.box;go_wp2_with fail
   go_loopg [8,71] rn (fun q x y wr=> ∃k:Nat,∃A c,x= .slice A (k+1) c/\y= .int .i64 k/\k+q=rn/\TpS w aW aA aX (Tb.keysR g) (.slice A (k+1) c) ((Tb.headR ++ Tb.keysR g) ::(g.rels.take k).map (Tb.relRow (Tb.keysR g))) #[.slice An nn cn, .slice Ar rn cr] wr)
   case atStart=>exact ⟨0,_,_,rfl,rfl,by omega,gW.out⟩
   obtain ⟨k,Aq,cq,rfl,rfl,hk,hs⟩:=hrel;have HS:=ah hs;have HK:=ah hk;clear hs gW a0 a1
   cases gk with
   | succ q=>
    have hkn:k<rn:=by omega
    have hknI:(k:Int)<rn:=by omega
    obtain ⟨n,hn⟩: ∃n,g.rels[k]?=some n:=⟨_,ak (by rw [HRN.out];exact hkn)⟩
    have hnm:=lS hn;have htk:g.rels.take (k+1)=g.rels.take k ++ [n]:=by rw [nV,hn];rfl
    obtain ⟨pb,po,cs,rfl,hpb,⟨sp,ecs,hpo⟩,-,hcl⟩:=HRA.out k n hn
    obtain ⟨Ap,cp,rfl⟩:=hpo.form;simp only at ecs hpo;obtain ⟨pl,hpl⟩:=aj n.props.length
    obtain ⟨zt,hzt⟩:=aj (⟨n.type.toArray⟩:ByteArray)
    rw [show ST n.type= .string zt by rw [<-hzt];rfl,hpl] at ecs
    subst ecs;rw [hpl] at hpo
    have hcell:=fun (j:Nat) u (hu:([.int .i64 n.id, .string zt, .int .i64 n.src, .int .i64 n.dst, .slice Ap pl cp]:List Value)[j]?=some u)=>(HS.bel.cell (p:=⟨pb,po+k*5+j,none⟩) hpb).trans (hcl j u hu)
    have e0:=hcell 0 _ rfl;have e1:=hcell 1 _ rfl;have e2:=hcell 2 _ rfl
    have e3:=hcell 3 _ rfl;have e4:=hcell 4 _ rfl;rw [oO] at e0;have hfn:=aJ.rel hnm
    have gG:=hfn.good.lo;have gI:=hfn.good.hi;have jV:=hfn.good.slo;have jW:=hfn.good.shi
    have jX:=hfn.good.dlo;have jY:=hfn.good.dhi
    obtain ⟨zi,hzi⟩:=aj (⟨(Lib.itoa n.id).toArray⟩:ByteArray)
    obtain ⟨zj,hzj⟩:=aj (⟨(Lib.itoa n.src).toArray⟩:ByteArray)
    obtain ⟨zl,hzl⟩:=aj (⟨(Lib.itoa n.dst).toArray⟩:ByteArray)
    have hid:=fun (V:World) (hb:Below w.heap.size w V)=>tbId_any n.id V (by omega) (by omega) (HL.below hb)
    rw [hzi] at hid
    have hij:=fun (V:World) (hb:Below w.heap.size w V)=>tbId_any n.src V (by omega) (by omega) (HL.below hb)
    rw [hzj] at hij
    have hil:=fun (V:World) (hb:Below w.heap.size w V)=>tbId_any n.dst V (by omega) (by omega) (HL.below hb)
    rw [hzl] at hil
    have hva:=fun (V:World) (h:TpS w aW aA aX (Tb.keysR g) (.slice Aq (k+1) cq) ((Tb.headR ++ Tb.keysR g) ::(g.rels.take k).map (Tb.relRow (Tb.keysR g))) #[.slice An nn cn, .slice (some ⟨pb,po,none⟩) rn cr] V)=>iw V.heap.size aW Ap aX cp aA (Tb.keysR g) n.props V (Reads.of_own h.keys) ((hpo.lst.below h.bel (PropC.below h.bel)).more h.bel.size (PropC.more h.bel.size)) (by omega) (keys_lt _) (Tb.keys_nodup _) (fun p hp=>Tb.keys_mem.2 (oD (f:=Gr.P.key) (nM.2 ⟨n,hnm,hp⟩))) hfn.keys (fun p hp=>⟨(HOK.rs n hnm).ps p hp,(hfn.good.props p hp).val.ck⟩) (HOK.rs n hnm).pl (kV _) (HL.below h.bel)
    rw [hpl] at hva
    have HROW:=ah (show (Tb.relRow (Tb.keysR g) n).length=4+aA/\(Tb.relRow (Tb.keysR g) n).map ST= [.string zi, .string zj, .string zl, .string zt] ++((Tb.keysR g).map (Tb.fieldOf n.props)).map ST from ⟨by unfold Tb.relRow;simp only [lF,lU,jh.out];omega,by rw [<-hzi,<-hzj,<-hzl,<-hzt];rfl⟩)
    have HLL:=ah (show k<=g.rels.length by rw [HRN.out];omega)
    obtain ⟨WN,hWN⟩:=aj (wr.alloc (.cells #[.int .i64 n.id, .string zt, .int .i64 n.src, .int .i64 n.dst, .slice Ap pl cp] 55))
    obtain ⟨nd,hnd⟩:=aj wr.heap.size
    have hbn:Below wr.heap.size wr WN.drew:=(hWN▸(Below.refl _ wr).alloc (kV _) _:Below wr.heap.size wr WN).drew
    have bG:=ah (show Blk WN.drew nd 55 #[.int .i64 n.id, .string zt, .int .i64 n.src, .int .i64 n.dst, .slice Ap pl cp] from (show Blk WN nd 55 _ by rw [<-hWN,<-hnd];exact Blk.new _ _ _))
    have dB:=ah (HS.below hbn);have dD:=ah hbn;have HID:=ah hid;have jZ:=ah hij
    have ku:=ah hil;have dF:=ah hva;have HTK:=ah htk;have HWN:=ah hWN;have HND:=ah hnd
    have au:=ah (fun (V:World) (h:Blk V nd 55 #[.int .i64 n.id, .string zt, .int .i64 n.src, .int .i64 n.dst, .slice Ap pl cp])=>cells5 h)
    clear hn hnm htk hpo hcl hpl hcell hfn gG gI jV jW jX jY hzi hzj hzl hzt hid hij hil hva hWN hnd hbn hk hpb
    go_upto_region 19 with fail
    rw [HWN.out,HND.out];clear HWN HND e0 e1 e2 e3 e4
    refine wp_region_last 20 (fun V=>V.cell? ⟨nd,0,none⟩=some (.int .i64 n.id)/\V.cell? ⟨nd,1,none⟩=some (.string zt)/\V.cell? ⟨nd,2,none⟩=some (.int .i64 n.src)/\V.cell? ⟨nd,3,none⟩=some (.int .i64 n.dst)/\V.cell? ⟨nd,4,none⟩=some (.slice Ap pl cp)) (by kernel_rfl) (by kernel_rfl) (au.out _ (bG.out)) (fun hHeld=> ?_)
    simp only [pV,tV];refine takeH 0 hHeld ?_
    (try simp only [Act.put,lg,lD,lG])
    refine takeH 1 hHeld ?_
    (try simp only [Act.put,lg,lD,lG])
    refine takeH 2 hHeld ?_
    (try simp only [Act.put,lg,lD,lG])
    refine takeH 4 hHeld ?_
    (try simp only [Act.put,lg,lD,lG])
    refine takeH 5 hHeld ?_
    (try simp only [Act.put,lg,lD,lG])
    refine takeH 7 hHeld ?_
    (try simp only [Act.put,lg,lD,lG])
    refine takeH 8 hHeld ?_
    (try simp only [Act.put,lg,lD,lG])
    refine takeH 10 hHeld ?_
    (try simp only [Act.put,lg,lD,lG])
    refine takeH 11 hHeld ?_
    (try simp only [Act.put,lg,lD,lG])
    refine takeH 13 hHeld ?_
    (try simp only [Act.put,lg,lD,lG])
    refine takeH 14 hHeld ?_
    (try simp only [Act.put,lg,lD,lG])
    refine takeH 15 hHeld ?_
    (try simp only [Act.put,lg,lD,lG])
    clear hHeld
    refine wpAnyH_ready (rs:= [3]) (by kernel_rfl) (by simp) (AllReadyH.cons (by simp only [lM,lQ,lC];rfl) (fun K hK=> ?_) AllReadyH.nil)
    go_simp
    go_at_call 22
    refine (HID.out _ dB.bel).mono ?_;rintro e w5 ⟨rfl,aT⟩;have dG:=ah (dB.below aT)
    have bH:=ah (bG.below aT bG.lt);have dH:=ah (dD.trans (aT.mono dD.size));clear aT
    go_wp2_with fail;refine hK.out _ _ (au.out _ bH.out) (fun hHeld=> ?_)
    clear hK K
    (try simp only [Act.put,lg,lD,lG])
    clear hHeld
    refine wpAnyH_ready (rs:= [6]) (by kernel_rfl) (by simp) (AllReadyH.cons (by simp only [lM,lQ,lC];rfl) (fun K hK=> ?_) AllReadyH.nil)
    go_simp
    go_at_call 22
    refine (jZ.out _ dG.bel).mono ?_;rintro e w6 ⟨rfl,aU⟩;have bf:=ah (dG.below aU)
    have aV:=ah (bH.below aU bH.lt);have bg:=ah (dH.trans (aU.mono dH.size));clear aU
    go_wp2_with fail;refine hK.out _ _ (au.out _ aV.out) (fun hHeld=> ?_)
    clear hK K
    (try simp only [Act.put,lg,lD,lG])
    clear hHeld
    refine wpAnyH_ready (rs:= [9]) (by kernel_rfl) (by simp) (AllReadyH.cons (by simp only [lM,lQ,lC];rfl) (fun K hK=> ?_) AllReadyH.nil)
    go_simp
    go_at_call 22
    refine (ku.out _ bf.bel).mono ?_;rintro e fD ⟨rfl,fE⟩;have dM:=ah (bf.below fE)
    have dN:=ah (aV.below fE aV.lt);have dO:=ah (bg.trans (fE.mono bg.size));clear fE
    go_wp2_with fail;refine hK.out _ _ (au.out _ dN.out) (fun hHeld=> ?_)
    clear hK K
    (try simp only [Act.put,lg,lD,lG])
    clear hHeld
    refine wpAnyH_ready (rs:= [12,16]) (by kernel_rfl) (by simp) (AllReadyH.cons (by simp only [lM,lQ,lC];rfl) (fun K hK=> ?_) (AllReadyH.cons (by simp only [lM,lQ,lC];rfl) (fun K hK=> ?_) AllReadyH.nil))
    ·go_simp
     obtain ⟨W7,hW⟩:=aj (fD.alloc (.cells #[.string zi, .string zj, .string zl, .string zt] 9))
     obtain ⟨lb,hlb⟩:=aj fD.heap.size
     have hbW:Below fD.heap.size fD W7:=hW▸(Below.refl _ _).alloc (kV _) _
     have bI:=ah (dM.below hbW);have bJ:=ah (dN.below hbW dN.lt)
     have dI:=ah (dO.trans (hbW.mono dO.size))
     have HLW:=ah (show wr.heap.size<=lb by rw [<-hlb];exact dO.size)
     have bK:=ah (show W7.ownsRow w.heap.size 9 1 (.slice (some ⟨lb,0,none⟩) 4 4) 4 [.string zi, .string zj, .string zl, .string zt] by rw [<-hW,<-hlb];exact own_fresh _ _ _ _ _ rfl dM.bel.size (by decide))
     rw [hW,hlb];clear hW hlb hbW;refine hK.out _ _ (au.out _ bJ.out) (fun hHeld=> ?_)
     clear hK K
     (try simp only [Act.put,lg,lD,lG])
     clear hHeld
     refine wpAnyH_ready (rs:= [16]) (by kernel_rfl) (by simp) (AllReadyH.cons (by simp only [lM,lQ,lC];rfl) (fun K hK=> ?_) AllReadyH.nil)
     go_simp
     go_at_call 24
     refine (dF.out _ bI.out).mono ?_;rintro e w8 ⟨vv,rfl,ov,bv⟩
     obtain ⟨Av,cv,rfl⟩:=own_form ov;have HV:=ah (own_base ov bI.bel.size)
     have aK:=ah (own_kept_ty bK.out (only_of_below bv none) (fun g c t fz hr=>by cases hr))
     have bM:=ah (bI.below bv);have aC:=ah (bJ.below bv bJ.lt)
     have aN:=ah (dI.trans (bv.mono dI.size));clear ov bv;go_wp2_with fail
     refine hK.out _ _ (au.out _ aC.out) (fun hHeld=> ?_)
     clear hK K
     (try simp only [Act.put,lg,lD,lG])
     have bP:=HV;clear hHeld
     refine wpAnyH_ready (rs:= [17]) (by kernel_rfl) (by simp) (AllReadyH.cons (by simp only [lM,lQ,lC];rfl) (fun K hK=> ?_) AllReadyH.nil)
     refine step_append_any rfl (.tmp 87) (.tmp 91) 45 9 (.string ⟨#[]⟩) 16 Tryz.underlying45 info_string rfl (by decide) rfl w.heap.size (.slice (some ⟨lb,0,none⟩) 4 4) 4 [.string zi, .string zj, .string zl, .string zt] w8 rfl aK.out _ Av aA cv (((Tb.keysR g).map (Tb.fieldOf n.props)).map ST) rfl (Reads.of_own bP.out) (st_one _) (by omega) bM.bel.size ?_
     intro v9 w9 ho9 hg9;obtain ⟨A9,c9,rfl⟩:=own_form ho9
     have hb9:Below wr.heap.size wr w9:=aN.grown hg9 aN.size (fun k hk=>by cases hk;exact HLW.out)
     have aB:=ah (HS.below hb9)
     have HK9:=ah (aC.grown hg9 (own_ne_blk aK.out aC.out (by decide)))
     have aO:=ah (show w9.ownsRow w.heap.size 9 1 (.slice A9 (4+aA) c9) (Tb.relRow (Tb.keysR g) n).length ((Tb.relRow (Tb.keysR g) n).map ST) by rw [HROW.out.1,HROW.out.2];exact ho9)
     clear ho9 hg9 hb9;refine hK.out _ _ (au.out _ HK9.out) (fun hHeld=> ?_)
     clear hK K
     (try simp only [Act.put,lg,lD,lG])
     clear hHeld
     refine wpAnyH_ready (rs:= [18]) (by kernel_rfl) (by simp) (AllReadyH.cons (by simp only [lM,lQ,lC];rfl) (fun K hK=> ?_) AllReadyH.nil)
     go_simp
     refine hK.out _ _ (au.out _ (HK9.below ((Below.refl _ _).alloc (kV _) _) HK9.lt)) (fun hHeld=> ?_)
     clear hK K
     (try simp only [Act.put,lg,lD,lG])
     obtain ⟨us,u1,u2,u3⟩:=aB.rows
     have hlen:((Tb.headR ++ Tb.keysR g) ::(g.rels.take k).map (Tb.relRow (Tb.keysR g))).length=k+1:=by rw [lF,lU,mO];have:=HLL.out;omega
     have HPUT:=ah (fun (v':Value) (w':World) (hg:w9.grownBy w' (Value.ownBlock (.slice Aq (k+1) cq))) (ho:w'.ownsRow w.heap.size 45 1 v' (((Tb.headR ++ Tb.keysR g) ::(g.rels.take k).map (Tb.relRow (Tb.keysR g))).length+1) (us ++ [.slice A9 (4+aA) c9]))=>TpS.put aB.out u1 u2 u3 aO.out hg ho)
     rw [hlen] at u2 HPUT;have HU2:=ah u2;clear u1 u2 u3 hlen;clear hHeld
     refine wpAnyH_ready (rs:= [19]) (by kernel_rfl) (by simp) (AllReadyH.cons (by simp only [lM,lQ,lC];rfl) (fun K hK=> ?_) AllReadyH.nil)
     refine step_append_one rfl (.tmp 75) (.tmp 93) 61 45 (.slice none 0 0) 24 Tryz.underlying61 info_strings rfl (by decide) rfl w.heap.size (.slice Aq (k+1) cq) (k+1) us w9 rfl HU2.out (.slice A9 (4+aA) c9) rfl rfl (by omega) aB.bel.size ?_
     intro v11 w11 aF hg11 bQ hb11;obtain ⟨aP,c11,rfl⟩:=own_form aF
     have HS11:=ah (HPUT.out _ _ hg11 aF)
     have aH:=ah (HK9.grown hg11 (own_ne_blk HU2.out HK9.out (by decide)))
     clear aF hg11 bQ hb11;refine hK.out _ _ (au.out _ aH.out) (fun hHeld=> ?_)
     clear hK K
     (try simp only [Act.put,lg,lD,lG])
     clear hHeld;refine wpAnyH_done (by kernel_rfl) ?_ _
     refine lastQ_go (by simp only [lM,lQ,lC];rfl) (fun K hK=> ?_)
     go_simp;refine hK.out _ _ ?_;clear hK K
     have HS12:=ah (show TpS w aW aA aX (Tb.keysR g) (.slice aP (k+1+1) c11) ((Tb.headR ++ Tb.keysR g) ::(g.rels.take (k+1)).map (Tb.relRow (Tb.keysR g))) #[.slice An nn cn, .slice (some ⟨pb,po,none⟩) rn cr] w11 by
      have h:=HS11.out;rw [HTK.out,mV]
      exact h)
     clear HS11 HPUT HU2 aO aB HK9 aH au;go_wp2
     go_roundg q
     case measure=>omega
     exact ⟨k+1,aP,c11,rfl,int_eq (by omega),by have:=HK.out;omega,HS12.out⟩
    go_simp
    go_at_call 24
    refine (dF.out _ dM.out).mono ?_;rintro e w7 ⟨vv,rfl,ov,bv⟩
    obtain ⟨Av,cv,rfl⟩:=own_form ov;have HV:=ah (own_base ov dM.bel.size)
    have dJ:=ah (dM.below bv);have bT:=ah (dN.below bv dN.lt)
    have bU:=ah (dO.trans (bv.mono dO.size));clear ov bv;go_wp2_with fail
    refine hK.out _ _ (au.out _ bT.out) (fun hHeld=> ?_)
    clear hK K
    (try simp only [Act.put,lg,lD,lG])
    clear hHeld
    refine wpAnyH_ready (rs:= [12]) (by kernel_rfl) (by simp) (AllReadyH.cons (by simp only [lM,lQ,lC];rfl) (fun K hK=> ?_) AllReadyH.nil)
    go_simp
    obtain ⟨w8,hW⟩:=aj (w7.alloc (.cells #[.string zi, .string zj, .string zl, .string zt] 9))
    obtain ⟨lb,hlb⟩:=aj w7.heap.size
    have hbW:Below w7.heap.size w7 w8:=hW▸(Below.refl _ _).alloc (kV _) _
    have bM:=ah (dJ.below hbW);have aC:=ah (bT.below hbW bT.lt)
    have aN:=ah (bU.trans (hbW.mono bU.size))
    have HLW:=ah (show wr.heap.size<=lb by rw [<-hlb];exact bU.size)
    have bK:=ah (show w8.ownsRow w.heap.size 9 1 (.slice (some ⟨lb,0,none⟩) 4 4) 4 [.string zi, .string zj, .string zl, .string zt] by rw [<-hW,<-hlb];exact own_fresh _ _ _ _ _ rfl dJ.bel.size (by decide))
    rw [hW,hlb];have aK:=bK
    have bP:=ah (own_kept_ty HV.out (only_of_below hbW none) (fun g c t fz hr=>by cases hr))
    clear hW hlb hbW;refine hK.out _ _ (au.out _ aC.out) (fun hHeld=> ?_)
    clear hK K
    (try simp only [Act.put,lg,lD,lG])
    clear hHeld
    refine wpAnyH_ready (rs:= [17]) (by kernel_rfl) (by simp) (AllReadyH.cons (by simp only [lM,lQ,lC];rfl) (fun K hK=> ?_) AllReadyH.nil)
    refine step_append_any rfl (.tmp 87) (.tmp 91) 45 9 (.string ⟨#[]⟩) 16 Tryz.underlying45 info_string rfl (by decide) rfl w.heap.size (.slice (some ⟨lb,0,none⟩) 4 4) 4 [.string zi, .string zj, .string zl, .string zt] w8 rfl aK.out _ Av aA cv (((Tb.keysR g).map (Tb.fieldOf n.props)).map ST) rfl (Reads.of_own bP.out) (st_one _) (by omega) bM.bel.size ?_
    intro v9 w9 ho9 hg9;obtain ⟨A9,c9,rfl⟩:=own_form ho9
    have hb9:Below wr.heap.size wr w9:=aN.grown hg9 aN.size (fun k hk=>by cases hk;exact HLW.out)
    have aB:=ah (HS.below hb9)
    have HK9:=ah (aC.grown hg9 (own_ne_blk aK.out aC.out (by decide)))
    have aO:=ah (show w9.ownsRow w.heap.size 9 1 (.slice A9 (4+aA) c9) (Tb.relRow (Tb.keysR g) n).length ((Tb.relRow (Tb.keysR g) n).map ST) by rw [HROW.out.1,HROW.out.2];exact ho9)
    clear ho9 hg9 hb9;refine hK.out _ _ (au.out _ HK9.out) (fun hHeld=> ?_)
    clear hK K
    (try simp only [Act.put,lg,lD,lG])
    clear hHeld
    refine wpAnyH_ready (rs:= [18]) (by kernel_rfl) (by simp) (AllReadyH.cons (by simp only [lM,lQ,lC];rfl) (fun K hK=> ?_) AllReadyH.nil)
    go_simp
    refine hK.out _ _ (au.out _ (HK9.below ((Below.refl _ _).alloc (kV _) _) HK9.lt)) (fun hHeld=> ?_)
    clear hK K
    (try simp only [Act.put,lg,lD,lG])
    obtain ⟨us,u1,u2,u3⟩:=aB.rows
    have hlen:((Tb.headR ++ Tb.keysR g) ::(g.rels.take k).map (Tb.relRow (Tb.keysR g))).length=k+1:=by rw [lF,lU,mO];have:=HLL.out;omega
    have HPUT:=ah (fun (v':Value) (w':World) (hg:w9.grownBy w' (Value.ownBlock (.slice Aq (k+1) cq))) (ho:w'.ownsRow w.heap.size 45 1 v' (((Tb.headR ++ Tb.keysR g) ::(g.rels.take k).map (Tb.relRow (Tb.keysR g))).length+1) (us ++ [.slice A9 (4+aA) c9]))=>TpS.put aB.out u1 u2 u3 aO.out hg ho)
    rw [hlen] at u2 HPUT;have HU2:=ah u2;clear u1 u2 u3 hlen;clear hHeld
    refine wpAnyH_ready (rs:= [19]) (by kernel_rfl) (by simp) (AllReadyH.cons (by simp only [lM,lQ,lC];rfl) (fun K hK=> ?_) AllReadyH.nil)
    refine step_append_one rfl (.tmp 75) (.tmp 93) 61 45 (.slice none 0 0) 24 Tryz.underlying61 info_strings rfl (by decide) rfl w.heap.size (.slice Aq (k+1) cq) (k+1) us w9 rfl HU2.out (.slice A9 (4+aA) c9) rfl rfl (by omega) aB.bel.size ?_
    intro v11 w11 aF hg11 bQ hb11;obtain ⟨aP,c11,rfl⟩:=own_form aF
    have HS11:=ah (HPUT.out _ _ hg11 aF)
    have aH:=ah (HK9.grown hg11 (own_ne_blk HU2.out HK9.out (by decide)))
    clear aF hg11 bQ hb11;refine hK.out _ _ (au.out _ aH.out) (fun hHeld=> ?_)
    clear hK K
    (try simp only [Act.put,lg,lD,lG])
    clear hHeld;refine wpAnyH_done (by kernel_rfl) ?_ _
    refine lastQ_go (by simp only [lM,lQ,lC];rfl) (fun K hK=> ?_)
    go_simp;refine hK.out _ _ ?_;clear hK K
    have HS12:=ah (show TpS w aW aA aX (Tb.keysR g) (.slice aP (k+1+1) c11) ((Tb.headR ++ Tb.keysR g) ::(g.rels.take (k+1)).map (Tb.relRow (Tb.keysR g))) #[.slice An nn cn, .slice (some ⟨pb,po,none⟩) rn cr] w11 by
     have h:=HS11.out;rw [HTK.out,mV]
     exact h)
    clear HS11 HPUT HU2 aO aB HK9 aH au;go_wp2
    go_roundg q
    case measure=>omega
    exact ⟨k+1,aP,c11,rfl,int_eq (by omega),by have:=HK.out;omega,HS12.out⟩
   | zero=>
     have hkn:rn=k:=by omega
     subst hkn;have hro:=HS.rows;rw [lT (by rw [HRN.out];exact kV _)] at hro
     have hcs:=csv_rows hro (HL.below HS.bel) HWR.out.2 HNE.out.2
     obtain ⟨zr,hzr⟩:=aj (⟨((Tb.rowsR g).flatMap Csv.printRow).toArray⟩:ByteArray)
     rw [show ((Tb.headR ++ Tb.keysR g) :: g.rels.map (Tb.relRow (Tb.keysR g)))=Tb.rowsR g from rfl,hzr] at hcs
     have aZ:=ah hcs;have bY:=ah hzr;clear hro hcs hzr hk;go_wp2_with fail
     refine aZ.mono ?_;rintro e w8 ⟨rfl,b8⟩
     have HB8:=ah (HS.bel.trans (b8.mono HS.bel.size));clear b8 aZ HS HK
     have HFIN:=ah (show Ending.returned (.tuple #[.string ⟨R.1.1.toArray⟩, .string ⟨R.1.2.toArray⟩, .int .i64 (R.2:Nat)])=Ending.returned (.tuple #[.string zn, .string zr, .int .i64 0]) by rw [HRR.out,<-HZN.out,<-bY.out];rfl)
     go_wp2
     go_ret3
     exact ⟨HFIN.symm,HB8.out⟩
end Go.Proofs.YtanlehkalkafdaaGreatDoor
