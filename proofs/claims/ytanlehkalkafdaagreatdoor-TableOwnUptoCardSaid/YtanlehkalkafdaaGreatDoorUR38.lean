/- Contracts and plain laws,part 38. -/
import Derived.Test.YtanlehkalkafdaaGreatDoorUR36
import Derived.Test.YtanlehkalkafdaaGreatDoorUR37
set_option maxHeartbeats 64000000
set_option maxRecDepth 1000000
set_option linter.all false
namespace Go.Proofs.YtanlehkalkafdaaGreatDoor
open Go.RowKit
theorem lS {ps:List Gr.P} {l out:List (List UInt8)} (hl:l=ps.map Gr.P.key) (h:Gr.Srt l out):out=Tb.keysOf ps:=by
 subst hl;unfold Tb.keysOf;refine(Cy.sort_str (key:=id) ?_ h.1).symm
 refine(yw (Gr.nodup_dedup _) (Gr.asc_nodup h.1)).2 fun x=> ?_
 rw[Gr.mem_dedup,h.2 x]
theorem lT: ∀(l:List (List UInt8)) (x:List UInt8),l≠ []->Tb.joinS (l++[x])=Tb.joinS l++59 :: x
 |[],_,h=>absurd rfl h
 |[a],x,_=>rfl
 |a :: b :: r,x,_=>by
  have ih:=lT (b :: r) x (by simp)
  show a++59 :: Tb.joinS (b :: r++[x])=_
  rw[ih];simp[Tb.joinS]
theorem oN {ls:List (List UInt8)} {j:Nat} {x:List UInt8} (hx:ls[j]?=some x) (h0:j≠0):Tb.joinS (ls.take (j+1))=Tb.joinS (ls.take j)++59 :: x:=by
 have hl:=(rZ.1 hx).1;rw[uM,hx];refine lT _ _ fun e=> ?_
 have:=uo List.length e;rw[tK,uO]at this;omega
theorem lU {V:World} {B:Nat} {v:Value} {rows:List (List (List UInt8))} (h:RowsO V B v rows) (hw:Csv.wRows rows<=8388608) (hne: []∉rows):
  Calls Tryz.prog 29 #[v] V fun e w'=>e=.returned (.tuple #[.string ⟨(rows.flatMap Csv.printRow).toArray⟩,.int .i64 0])/\Below V.heap.size V w':=by
 have h1:=refCsvPrint_any v rows V h.rows2 (by omega)
 rw[Csv.print_some hne]at h1;exact h1
theorem lV (B:Nat) (u:Value) (g:Gr.G) (w:World) (h:GIn w B u g) (hB:B<=w.heap.size):
  Calls Tryz.prog 12 #[u] w fun e w'=>e=.returned (.tuple #[.string ⟨(Tb.printR g).1.1.toArray⟩,.string ⟨(Tb.printR g).1.2.toArray⟩,.int .i64 ((Tb.printR g).2:Nat)])/\Below w.heap.size w w':=by
 have hgi:=h.more hB;have ok:=h.ok;clear h hB
 have hck:=fun(V:World) (hb:Below w.heap.size w V)=>refCheck_any w.heap.size _ g V (hgi.below hb) hb.size
 obtain⟨An,cn,Ar,cr,rfl,fU,fV⟩:=hgi.ex;obtain⟨nn,hnn⟩:=aj g.nodes.length
 obtain⟨rn,hrn⟩:=aj g.rels.length;obtain⟨c1,hc1⟩:=aj ((Gr.check g).1)
 obtain⟨c2,hc2⟩:=aj ((Gr.check g).2);rw[hc1,hc2,hnn,hrn]at hck
 obtain⟨R,hR⟩:=aj (Tb.printR g);rw[hR];unfold Tb.printR at hR;rw[hc1]at hR
 have bY:c1=0->Cy.Fine g:=fun e0=>fine_of (Gr.check_good.1 (hc1.trans e0)) ok
 rw[hnn,hrn]
 obtain⟨W1,hW1⟩:=aj (w.alloc (.cells #[.slice An nn cn,.slice Ar rn cr] 25))
 have hb1:Below w.heap.size w W1:=by rw[<-hW1];exact(Below.refl _ w).alloc (rM _) _
 have k1:Blk W1 w.heap.size 25 #[.slice An nn cn,.slice Ar rn cr]:=by rw[<-hW1];exact Blk.new _ _ _
 have HCK:=ah (hck W1 hb1);have HW1:=ah hW1;have HK1:=ah k1;have HB1:=ah hb1
 have HR:=ah hR;have HF:=ah bY;have HNA:=ah fU;have HRA:=ah fV;have HNN:=ah hnn
 have HRN:=ah hrn;have HOK:=ah ok;obtain⟨a0,a1⟩:=cells2 k1
 clear ok hgi fU fV hck hR bY hnn hrn hb1 hW1 k1 hc1 hc2;go_enter Tryz.func12,Tryz.ntmps12
 go_upto_region 1 with fail
 rw[HW1.out];clear HW1;go_wp2_with fail;refine HCK.mono ?_;rintro e w2 ⟨rfl,hb2⟩
 have HB2:=ah (HB1.trans (hb2.mono HB1.size));have HK2:=ah (HK1.below hb2 HK1.lt)
 clear hb2 a0 a1 HCK HK1;obtain⟨a0,a1⟩:=cells2 HK2.out;by_cases hc0:c1=0
 case neg=>
  have hr:R=(([],[]),c1):=by rw[<-HR.out,rU hc0]
  subst hr;have t0:((c1:Int) !=0)=true:=by rw[tH];omega
  clear hc0;go_wp2
  go_ret3
  exact⟨rfl,HB2.out⟩
 subst hc0;have HRR:=ah (show R=(Tb.print g,0) by rw[<-HR.out,rY rfl])
 have aG:=ah (HF.out rfl);have HWR:=ah (table_w aG.out);have HNE:=ah (Tb.rows_ne g)
 have gG:=ah (names_sub aG.good)
 have hnl:nn<=1024:=by rw[<-HNN.out];exact aG.good.nodes.len
 have hrl:rn<=2048:=by rw[<-HRN.out];exact aG.good.rels.len
 clear HR HF;obtain⟨ak,dS⟩:=aj ((Tb.keysN g).length)
 have pX:ak<=200:=by have:=gG.out.1;omega
 have hnm:=jE 3 w.heap.size (.agg #[.slice An nn cn,.slice none 0 0]) ⟨g.nodes,[]⟩ w2 ⟨⟨An,cn,none,0,by rw[HNN.out];rfl,HNA.below HB2.out (NodeC.below HB2.out),Lst.nil⟩,⟨HOK.nl,HOK.ns,by simp,by simp⟩⟩ HB2.size (by
  rw[nmAll3];unfold Gr.names3
  rw[sU,show Gr.allProps ⟨g.nodes,[]⟩=g.nodes.flatMap Gr.N.props by unfold Gr.allProps;simp]
  have:=flat_len16 Gr.N.props g.nodes (fun x hx=>by obtain⟨_,h⟩:=aG.good.nodes.mem hx;exact h.props.len)
  have:=aG.good.nodes.len
  omega)
 rw[nmAll3,(keysN_len g).1,dS]at hnm;have gI:=ah hnm;have dU:=ah dS;clear hnm dS
 go_wp2_with fail;refine gI.mono ?_;rintro e aY ⟨aN,aO,ql,rfl,hsr,hko,hb3⟩
 have hou:ql=Tb.keysN g:=lS (by unfold Gr.names3;rw[show Gr.allProps ⟨g.nodes,[]⟩=g.nodes.flatMap Gr.N.props by unfold Gr.allProps;simp]) hsr
 rw[hou]at hko
 have hb4:Below aY.heap.size aY (aY.alloc (.cells #[.string ⟨#[58,73,68]⟩,.string ⟨#[58,76,65,66,69,76]⟩] 9)):=(Below.refl _ _).alloc (rM _) _
 have bZ:=ah (HB2.trans (hb3.mono HB2.size))
 have cZ:=ah (show World.ownsRow (aY.alloc (.cells #[.string ⟨#[58,73,68]⟩,.string ⟨#[58,76,65,66,69,76]⟩] 9)) w.heap.size 9 1 (.slice (some ⟨aY.heap.size,0,none⟩) 2 2) 2 (Tb.headN.map ST) from own_fresh _ _ _ _ _ rfl bZ.size (by decide))
 have dh:=ah (bZ.trans (hb4.mono bZ.size))
 have dw:=ah ((HK2.below hb3 HK2.lt).below hb4 (HK2.below hb3 HK2.lt).lt)
 have dV:=ah (own_base hko HB2.size)
 have dW:=ah (own_kept_ty dV.out (only_of_below hb4 none) (fun g c t fz hr=>by cases hr))
 have gK:=ah (show(Value.slice aN ak aO).ownBlock≠some aY.heap.size from fun e=>by
  have:=(World.ownsRow.lt dV.out aY.heap.size e).2
  omega)
 obtain⟨i0,hi,hz0,hz1,hz2⟩:=info_parts info_string;have HIN:=ah hi
 have HZN:=ah (And.intro hz0 (And.intro hz1 hz2))
 clear hou hsr hko hb3 hb4 hi hz0 hz1 hz2 a0 a1 gI;obtain⟨a0,a1⟩:=cells2 dw.out
 go_wp2_with (at_builtin;refine wpList_append_any _ rfl (.tmp 35) (.tmp 36) 45 rfl w.heap.size 9 i0 (.string ⟨#[]⟩) 1 16 Tryz.underlying45 HIN.out HZN.out.1 HZN.out.2.1 HZN.out.2.2 rfl (by decide) (.slice (some ⟨aY.heap.size,0,none⟩) 2 2) 2 (Tb.headN.map ST) rfl cZ.out _ aN ak aO ((Tb.keysN g).map ST) rfl (Reads.of_own dW.out) (st_one _) (by unfold maxLen;omega) (by omega) dh.size ?_)
 intro pY bF ho5 hg5 hx5;clear hx5;obtain⟨gQ,gU,rfl⟩:=own_form ho5
 have bG:bF.ownsRow w.heap.size 9 1 (.slice aN ak aO) ak ((Tb.keysN g).map ST):=dW.kept hg5 (.inr gK.out)
 have hk5:=dw.grown hg5 (own_ne_blk cZ.out dw.out (by decide))
 have hb5:=dh.grown hg5 dh.size (fun k hk=>(World.ownsRow.lt cZ.out k hk).1)
 obtain⟨gV,dA⟩:=aj (bF.alloc (.cells #[.slice gQ (2+ak) gU] 45))
 obtain⟨jT,dX⟩:=aj bF.heap.size
 have hb6:Below bF.heap.size bF gV:=dA▸(Below.refl _ _).alloc (rM _) _
 have fZ:=ah (show TpS w aN ak aO (Tb.keysN g) (.slice (some ⟨jT,0,none⟩) 1 1) [Tb.headN++Tb.keysN g] #[.slice An nn cn,.slice Ar rn cr] gV from
  ⟨hb5.trans (hb6.mono hb5.size),hk5.below hb6 hk5.lt,own_kept_ty bG (only_of_below hb6 none) (fun g c t fz hr=>by cases hr),[.slice gQ (2+ak) gU],rfl,by rw[<-dA,<-dX];exact own_fresh _ _ _ 1 _ rfl hb5.size (by decide),fun k u r hu hr=>by
   cases k with
   |succ k=>simp at hu
   |zero=>
    simp at hu hr;subst hu hr
    have:=own_kept_ty ho5 (only_of_below hb6 none) (fun g c t fz hr=>by cases hr)
    rw[rP,dU.out,uf]
    exact this⟩)
 have gW:=ah dA;have gY:=ah dX
 clear ho5 hg5 bG hk5 hb5 dA hb6 dX a0 a1 HIN HZN cZ dW dh dw dV bZ gK
 go_upto_region 6 with fail
 rw[gW.out,gY.out];clear gW gY;go_wp2_with fail
 go_loopg [8,9] nn (fun q x y wr=> ∃k:Nat,∃A c,x=.slice A (k+1) c/\y=.int .i64 k/\k+q=nn/\TpS w aN ak aO (Tb.keysN g) (.slice A (k+1) c) ((Tb.headN++Tb.keysN g) ::(g.nodes.take k).map (Tb.nodeRow (Tb.keysN g))) #[.slice An nn cn,.slice Ar rn cr] wr)
 case atStart=>exact⟨0,_,_,rfl,rfl,by omega,fZ.out⟩
 obtain⟨k,Aq,cq,rfl,rfl,hk,hs⟩:=hrel;have HS:=ah hs;have HK:=ah hk;clear hs fZ
 obtain⟨a0,a1⟩:=cells2 HS.box;cases gk with
 |succ q=>
  have hkn:k<nn:=by omega
  have hknI:(k:Int)<nn:=by omega
  obtain⟨n,hn⟩: ∃n,g.nodes[k]?=some n:=⟨_,ay (by rw[HNN.out];exact hkn)⟩
  have hnm:=sK hn;have htk:g.nodes.take (k+1)=g.nodes.take k++[n]:=by rw[uM,hn];rfl
  obtain⟨pb,po,cs,rfl,hpb,⟨Al,cl,Ap,cp,rfl,hlo,hpo⟩,-,hcl⟩:=HNA.out k n hn
  obtain⟨ll,hll⟩:=aj n.labels.length;obtain⟨pl,hpl⟩:=aj n.props.length
  rw[hll]at hlo hcl;rw[hpl]at hcl
  have hcell:=fun(j:Nat) u (hu:([.int .i64 n.id,.slice Al ll cl,.slice Ap pl cp]:List Value)[j]?=some u)=>(HS.bel.cell (p:=⟨pb,po+k*3+j,none⟩) hpb).trans (hcl j u hu)
  have e0:=hcell 0 _ rfl;have e1:=hcell 1 _ rfl;have e2:=hcell 2 _ rfl;rw[vw]at e0
  have hfn:=aG.node hnm;have dY:=hfn.good.lo;have dZ:=hfn.good.hi
  obtain⟨zi,hzi⟩:=aj (⟨(Lib.itoa n.id).toArray⟩:ByteArray)
  have qc:ll<=8:=by rw[<-hll];obtain⟨_,h⟩:=aG.good.nodes.mem hnm;exact h.labels.len
  have hid:=fun(V:World)=>jc n.id V (by omega) (by omega)
  rw[hzi]at hid
  have HLN:=ah (show∀l∈n.labels,l.length<=40 from fun l hl=>tb_name_len (hfn.good.labels l hl))
  have HPL:=ah (fun(V:World) (hb:Below w.heap.size w V)=>show Lst V w.heap.size 6 (PropC V w.heap.size) Ap n.props from hpo.below hb (PropC.below hb))
  have kF:=ah (HOK.ns n hnm).pl
  have kH:=ah (show∀p∈n.props,POk p/\Cel.check p.val=0 from fun p hp=>⟨(HOK.ns n hnm).ps p hp,(hfn.good.props p hp).val.ck⟩)
  have kJ:=ah hpl;have HLL:=ah (show k<=g.nodes.length by rw[HNN.out];omega)
  have nT:=ah hll;obtain⟨wo,hwo⟩: ∃x,x=wr:=⟨_,rfl⟩
  obtain⟨WN,hWN⟩:=aj (wr.alloc (.cells #[.int .i64 n.id,.slice Al ll cl,.slice Ap pl cp] 48))
  obtain⟨nd,hnd⟩:=aj wr.heap.size
  have hbn:Below wr.heap.size wr WN:=hWN▸(Below.refl _ wr).alloc (rM _) _
  have HKN0:=ah (show Blk WN nd 48 #[.int .i64 n.id,.slice Al ll cl,.slice Ap pl cp] by rw[<-hWN,<-hnd];exact Blk.new _ _ _)
  have HLR:=ah (hlo.below (HS.bel.trans (hbn.mono HS.bel.size)))
  have HBN:=ah (show Below wo.heap.size wo WN by rw[hwo];exact hbn)
  have HID:=ah hid;have qo:=ah hzi;have HTK:=ah htk;have HWN:=ah hWN;have HND:=ah hnd
  clear hn hnm htk hlo hpo hcl hll hpl hcell hfn dY dZ hzi hid hWN hnd hbn hk hpb
  go_upto_region 10 with fail
  rw[HWN.out,HND.out];clear HWN HND e0 e1 e2 a0 a1;subst hwo
  obtain⟨d0,d1,d2⟩:=cells3 HKN0.out;obtain⟨a0,a1⟩:=cells2 ((HS.below HBN.out).box)
  go_wp2_with fail
  go_loopg [11,12] ll (fun q x y wx=> ∃(j:Nat) (z:ByteArray),x=.string z/\y=.int .i64 j/\j+q=ll/\WN=wx/\Hid (z.data.toList=Tb.joinS (n.labels.take j)))
  case atStart=>exact⟨0,⟨#[]⟩,rfl,rfl,by omega,rfl,rfl⟩
  obtain⟨j,z,rfl,rfl,hj,rfl,hz⟩:=hrel;have HZ:=ah hz.out;have HJ:=ah hj
  have hzs:z.size<=400:=by
   rw[Lib.size_eq,HZ.out];have:=labels_len (n.labels.take j) fun l hl=>HLN.out l (xg hl)
   rw[tK]at this;omega
  clear hz;cases gk with
  |succ q2=>
   have hjn:j<ll:=by omega
   have hjnI:(j:Int)<ll:=by omega
   obtain⟨l,hl⟩: ∃l,n.labels[j]?=some l:=⟨_,ay (by rw[nT.out];exact hjn)⟩
   obtain⟨lb,lo,rfl,-⟩:=HLR.blk (by omega)
   have hlc:=HLR.st hl;obtain⟨zl,hzl⟩:=aj (⟨l.toArray⟩:ByteArray)
   rw[show ST l=.string zl by rw[<-hzl];rfl]at hlc
   have qZ:zl.size<=40:=by rw[<-hzl,size_list];exact HLN.out l (sK hl)
   have HZL:=ah (show zl.data.toList=l by rw[<-hzl])
   have HL0:=ah hl;clear hl hzl hj;by_cases hj0:j=0
   ·subst hj0
    rw[vw]at hlc;have hs1:z.size+zl.size<=440:=by omega
    have HE:=ah (show(z++zl).data.toList=Tb.joinS (n.labels.take (0+1)) by
     have hz0:z.data.toList=[]:=by rw[HZ.out];rfl
     rw[yA,xw,hz0,HZL.out,uM,HL0.out]
     rfl)
    go_wp2
    go_roundg q2
    case measure=>omega
    exact⟨0+1,_,rfl,int_eq (by omega),by have:=HJ.out;omega,rfl,HE⟩
   have qp:(0:Int)<j:=by omega
   have tj:decide ((0:Int)<(j:Int))=true:=rQ qp;have hs1:z.size+1<=401:=by omega
   have hs2:z.size+1+zl.size<=441:=by omega
   have HE:=ah (show(z ++⟨#[59]⟩++zl).data.toList=Tb.joinS (n.labels.take (j+1)) by
    rw[oN HL0.out hj0,yA,xw,yA,xw,HZ.out,HZL.out]
    simp)
   clear hj0;go_wp2
   go_roundg q2
   case measure=>omega
   exact⟨j+1,_,rfl,int_eq (by omega),by have:=HJ.out;omega,rfl,HE⟩
  |zero=>
   have hjl:ll=j:=by omega
   subst hjl;obtain⟨zl,hzl⟩:=aj z;rw[hzl]at HZ⊢
   have HROW:=ah (show(Tb.nodeRow (Tb.keysN g) n).length=2+ak/\(Tb.nodeRow (Tb.keysN g) n).map ST=[.string zi,.string zl] ++(Tb.keysN g).map (fun key=>ST (Tb.fieldOf n.props key)) from⟨by unfold Tb.nodeRow;rw[sS,sS,sU,dU.out];omega,by
    have hj:ST (Tb.joinS n.labels)=.string zl:=by
     have h:=HZ.out;rw[sG (by rw[nT.out];exact rM _)]at h
     rw[<-h];rfl
    unfold Tb.nodeRow;rw[tV,tV,hj,vV,<-qo.out]
    rfl⟩)
   clear hzl hj hzs;go_wp2_with fail;refine(HID.out _).mono ?_;rintro e w5 ⟨rfl,b5⟩
   obtain⟨WX,hWX⟩:=aj (w5.alloc (.cells #[.string zi,.string zl] 9))
   obtain⟨lbx,dP⟩:=aj w5.heap.size
   have hbX:Below w5.heap.size w5 WX:=hWX▸(Below.refl _ _).alloc (rM _) _
   have h5:=HBN.trans (b5.mono HBN.size);have HBX:=ah (h5.trans (hbX.mono h5.size))
   have HKX:=ah ((HKN0.below b5 HKN0.lt).below hbX (HKN0.below b5 HKN0.lt).lt)
   have HRX:=ah (show WX.ownsRow wo.heap.size 9 1 (.slice (some ⟨lbx,0,none⟩) 2 2) 2 [.string zi,.string zl] by rw[<-hWX,<-dP];exact own_fresh _ _ _ _ _ rfl h5.size (by decide))
   have HWX:=ah hWX;have jy:=ah dP;clear hWX dP hbX h5 b5
   go_upto_region 18 with fail
   rw[HWX.out,jy.out];clear HWX jy d0 d1 d2 a0 a1;go_wp2_with fail
   go_loopg [13,14] ak (fun q x y wx=> ∃j:Nat,∃A c,x=.slice A (2+j) c/\y=.int .i64 j/\j+q=ak/\Below wo.heap.size wo wx/\wx.ownsRow wo.heap.size 9 1 (.slice A (2+j) c) (2+j) ([.string zi,.string zl] ++((Tb.keysN g).take j).map (fun key=>ST (Tb.fieldOf n.props key)))/\Blk wx nd 48 #[.int .i64 n.id,.slice Al ll cl,.slice Ap pl cp])
   case atStart=>exact⟨0,_,_,rfl,rfl,by omega,HBX.out,by rw[yx,uT,tC];exact HRX.out,HKX.out⟩
   obtain⟨j,A7,c7,rfl,rfl,hj,hbx,hrx,hkx⟩:=hrel;have iQ:=ah hbx;have iR:=ah hrx
   have fF:=ah hkx;have HJ:=ah hj;have aT:=ah (HS.below hbx);clear hbx hrx hkx HBX HRX HKX
   obtain⟨d0,d1,d2⟩:=cells3 fF.out;cases gk with
   |succ q2=>
    have hjn:j<ak:=by omega
    have hjnI:(j:Int)<ak:=by omega
    obtain⟨key,hky⟩: ∃x,(Tb.keysN g)[j]?=some x:=⟨_,ay (by rw[dU.out];exact hjn)⟩
    obtain⟨kb,ko,ek,-⟩:=(Reads.of_own aT.keys).blk (by omega)
    have hkc:=(ek▸Reads.of_own aT.keys:Reads wr wr.heap.size 1 (some ⟨kb,ko,none⟩) ak ((Tb.keysN g).map ST)).st hky
    obtain⟨zk,hzk⟩:=aj (⟨key.toArray⟩:ByteArray)
    obtain⟨zf,fG⟩:=aj (⟨(Tb.fieldOf n.props key).toArray⟩:ByteArray)
    rw[show ST key=.string zk by rw[<-hzk];rfl]at hkc
    have hfl:=fun(i:Nat)=>lQ w.heap.size zk Ap cp n.props (wr.drewN i) (HPL.out _ (below_drewN aT.bel i)) kF.out kH.out aT.bel.size
    rw[show zk.data.toList=key by rw[<-hzk]]at hfl
    simp only[fG,kJ.out]at hfl;have HFL:=ah hfl
    have kK:=ah (show ST (Tb.fieldOf n.props key)=.string zf by rw[<-fG];rfl)
    have kL:=ah (show((Tb.keysN g).take (j+1)).map (fun key=>ST (Tb.fieldOf n.props key))=((Tb.keysN g).take j).map (fun key=>ST (Tb.fieldOf n.props key))++[ST (Tb.fieldOf n.props key)] by rw[uM,hky,uf];rfl)
    have kM:=ah ek;have fH:wo.heap.size<=wr.heap.size:=iQ.size;clear hky hzk fG hfl hj
    subst ek;clear kM;go_wp2_with fail
    go_region_law (first|(refine step_call 28 rfl (by go_simp) (calls_ex (HFL.out _)) ?_;rintro _ w7 ⟨rfl,b7⟩;have HB7:=ah (iQ.trans ((below_drewN (Below.refl _ _) _|>.trans b7).mono fH));have HR7:=ah (own_kept_ty iR.out (only_of_below ((below_drewN (Below.refl _ _) _).trans b7) none) (fun g c t fz hr=>by cases hr));have HK7:=ah (fF.below ((below_drewN (Below.refl _ _) _).trans b7) fF.lt);clear b7)|(refine step_append_one rfl (.tmp 80) (.tmp 88) 45 9 (.string ⟨#[]⟩) 16 Tryz.underlying45 info_string rfl (by decide) rfl wo.heap.size (.slice A7 (2+j) c7) (2+j) _ w7 rfl HR7.out (.string zf) rfl rfl (by omega) HB7.size ?_;intro v9 w9 ho9 hg9 hw9 hb9;obtain⟨A9,c9,rfl⟩:=own_form ho9;have HO9:=ah ho9;have HB9:=ah (HB7.trans hb9);have HK9:=ah (HK7.grown hg9 (own_ne_blk HR7.out HK7.out (by decide)));clear ho9 hg9 hw9 hb9)|fail)
    all_goals
     have kN:=ah (show w9.ownsRow wo.heap.size 9 1 (.slice A9 (2+(j+1)) c9) (2+(j+1)) ([.string zi,.string zl] ++((Tb.keysN g).take (j+1)).map (fun key=>ST (Tb.fieldOf n.props key))) by
      rw[kL.out,kK.out,<-sV]
      exact HO9.out)
     clear d0 d1 d2 hkc HO9;go_wp2
     go_roundg q2
     case measure=>omega
     exact⟨j+1,A9,c9,rfl,int_eq (by omega),by have:=HJ.out;omega,HB9.out,kN.out,HK9.out⟩
   |zero=>
    have hjk:ak=j:=by omega
    subst hjk
    have aJ:=ah (show wr.ownsRow w.heap.size 9 1 (.slice A7 (2+ak) c7) (Tb.nodeRow (Tb.keysN g) n).length ((Tb.nodeRow (Tb.keysN g) n).map ST) by
     have h:=iR.out;rw[sG (by rw[dU.out];exact rM _)]at h
     rw[HROW.out.1,HROW.out.2]
     exact own_base h HS.bel.size)
    obtain⟨us,u1,u2,u3⟩:=aT.rows
    have hlen:((Tb.headN++Tb.keysN g) ::(g.nodes.take k).map (Tb.nodeRow (Tb.keysN g))).length=k+1:=by rw[sS,sU,tK];have:=HLL.out;omega
    have HPUT:=ah (fun(v':Value) (w':World) (hg:wr.grownBy w' (Value.ownBlock (.slice Aq (k+1) cq))) (ho:w'.ownsRow w.heap.size 45 1 v' (((Tb.headN++Tb.keysN g) ::(g.nodes.take k).map (Tb.nodeRow (Tb.keysN g))).length+1) (us++[.slice A7 (2+ak) c7]))=>TpS.put aT.out u1 u2 u3 aJ.out hg ho)
    rw[hlen]at u2 HPUT;have HU2:=ah u2;have fH:=aT.bel.size
    clear u1 u2 u3 hlen hj d0 d1 d2
    go_wp2_with (at_builtin;refine wpList_append_one rfl (.tmp 90) (.tmp 92) 61 45 (.slice none 0 0) 24 Tryz.underlying61 info_strings rfl (by decide) rfl w.heap.size (.slice Aq (k+1) cq) (k+1) us wr rfl HU2.out (.slice A7 (2+ak) c7) rfl rfl (by omega) fH ?_)
    intro v11 w11 aH hg11 bP hb11;obtain⟨aK,c11,rfl⟩:=own_form aH
    have HS11:=ah (show TpS w aN ak aO (Tb.keysN g) (.slice aK (k+1+1) c11) ((Tb.headN++Tb.keysN g) ::(g.nodes.take (k+1)).map (Tb.nodeRow (Tb.keysN g))) #[.slice (some ⟨pb,po,none⟩) nn cn,.slice Ar rn cr] w11 by
     have h:=HPUT.out _ _ hg11 aH;rw[HTK.out,uf]
     exact h)
    clear aH hg11 bP hb11 HPUT HU2 aJ;go_wp2
    go_roundg q
    case measure=>omega
    exact⟨k+1,aK,c11,rfl,int_eq (by omega),by have:=HK.out;omega,HS11.out⟩
 |zero=>
   have hkn:nn=k:=by omega
   subst hkn;have hro:=HS.rows;rw[sG (by rw[HNN.out];exact rM _)]at hro
   have hcs:=lU hro HWR.out.1 HNE.out.1
   obtain⟨zn,hzn⟩:=aj (⟨((Tb.rowsN g).flatMap Csv.printRow).toArray⟩:ByteArray)
   rw[show((Tb.headN++Tb.keysN g) :: g.nodes.map (Tb.nodeRow (Tb.keysN g)))=Tb.rowsN g from rfl,hzn]at hcs
   have aU:=ah hcs;have HZN:=ah hzn;clear hro hcs hzn hk;go_wp2_with fail
   refine aU.mono ?_;rintro e w7 ⟨rfl,b7⟩
   have HB7:=ah (HS.bel.trans (b7.mono HS.bel.size))
   have HK7:=ah (HS.box.below b7 HS.box.lt);clear b7 aU HS HK a0 a1
   obtain⟨a0,a1⟩:=cells2 HK7.out;obtain⟨au,eY⟩:=aj ((Tb.keysR g).length)
   have qh:au<=200:=by have:=gG.out.2;omega
   have hnm:=jE 3 w.heap.size (.agg #[.slice none 0 0,.slice Ar rn cr]) ⟨[],g.rels⟩ w7 ⟨⟨none,0,Ar,cr,by rw[HRN.out];rfl,Lst.nil,HRA.below HB7.out (RelC.below HB7.out)⟩,⟨by simp,by simp,HOK.rl,HOK.rs⟩⟩ HB7.size (by
    rw[nmAll3];unfold Gr.names3
    rw[sU,show Gr.allProps ⟨[],g.rels⟩=g.rels.flatMap Gr.R.props by unfold Gr.allProps;simp]
    have:=flat_len16 Gr.R.props g.rels (fun x hx=>by obtain⟨_,h⟩:=aG.good.rels.mem hx;exact h.props.len)
    have:=aG.good.rels.len
    omega)
   rw[nmAll3,(keysN_len g).2,eY]at hnm;have iC:=ah hnm;have fA:=ah eY;clear hnm eY
   go_wp2_with fail;refine iC.mono ?_;rintro e bf ⟨aP,aQ,qw,rfl,hsr,hko,hb3⟩
   have hou:qw=Tb.keysR g:=lS (by unfold Gr.names3;rw[show Gr.allProps ⟨[],g.rels⟩=g.rels.flatMap Gr.R.props by unfold Gr.allProps;simp]) hsr
   rw[hou]at hko
   have hb4:Below bf.heap.size bf (bf.alloc (.cells #[.string ⟨#[58,73,68]⟩,.string ⟨#[58,83,84,65,82,84]⟩,.string ⟨#[58,69,78,68]⟩,.string ⟨#[58,84,89,80,69]⟩] 9)):=(Below.refl _ _).alloc (rM _) _
   have cu:=ah (HB7.trans (hb3.mono HB7.size))
   have dF:=ah (show World.ownsRow (bf.alloc (.cells #[.string ⟨#[58,73,68]⟩,.string ⟨#[58,83,84,65,82,84]⟩,.string ⟨#[58,69,78,68]⟩,.string ⟨#[58,84,89,80,69]⟩] 9)) w.heap.size 9 1 (.slice (some ⟨bf.heap.size,0,none⟩) 4 4) 4 (Tb.headR.map ST) from own_fresh _ _ _ _ _ rfl cu.size (by decide))
   have dG:=ah (cu.trans (hb4.mono cu.size))
   have dH:=ah ((HK7.below hb3 HK7.lt).below hb4 (HK7.below hb3 HK7.lt).lt)
   have fB:=ah (own_base hko HB7.size)
   have fC:=ah (own_kept_ty fB.out (only_of_below hb4 none) (fun g c t fz hr=>by cases hr))
   have iD:=ah (show(Value.slice aP au aQ).ownBlock≠some bf.heap.size from fun e=>by
    have:=(World.ownsRow.lt fB.out bf.heap.size e).2
    omega)
   obtain⟨i0,hi,hz0,hz1,hz2⟩:=info_parts info_string;have iE:=ah hi
   have bg:=ah (And.intro hz0 (And.intro hz1 hz2))
   clear hou hsr hko hb3 hb4 hi hz0 hz1 hz2 a0 a1 iC;obtain⟨a0,a1⟩:=cells2 dH.out
   go_wp2_with (at_builtin;refine wpList_append_any _ rfl (.tmp 103) (.tmp 104) 45 rfl w.heap.size 9 i0 (.string ⟨#[]⟩) 1 16 Tryz.underlying45 iE.out bg.out.1 bg.out.2.1 bg.out.2.2 rfl (by decide) (.slice (some ⟨bf.heap.size,0,none⟩) 4 4) 4 (Tb.headR.map ST) rfl dF.out _ aP au aQ ((Tb.keysR g).map ST) rfl (Reads.of_own fC.out) (st_one _) (by unfold maxLen;omega) (by omega) dG.size ?_)
   intro qj bU ho5 hg5 hx5;clear hx5;obtain⟨iF,iG,rfl⟩:=own_form ho5
   have bG:bU.ownsRow w.heap.size 9 1 (.slice aP au aQ) au ((Tb.keysR g).map ST):=fC.kept hg5 (.inr iD.out)
   have hk5:=dH.grown hg5 (own_ne_blk dF.out dH.out (by decide))
   have hb5:=dG.grown hg5 dG.size (fun k hk=>(World.ownsRow.lt dF.out k hk).1)
   obtain⟨iH,dI⟩:=aj (bU.alloc (.cells #[.slice iF (4+au) iG] 45))
   obtain⟨jV,fD⟩:=aj bU.heap.size
   have hb6:Below bU.heap.size bU iH:=dI▸(Below.refl _ _).alloc (rM _) _
   have gq:=ah (show TpS w aP au aQ (Tb.keysR g) (.slice (some ⟨jV,0,none⟩) 1 1) [Tb.headR++Tb.keysR g] #[.slice An nn cn,.slice Ar rn cr] iH from
    ⟨hb5.trans (hb6.mono hb5.size),hk5.below hb6 hk5.lt,own_kept_ty bG (only_of_below hb6 none) (fun g c t fz hr=>by cases hr),[.slice iF (4+au) iG],rfl,by rw[<-dI,<-fD];exact own_fresh _ _ _ 1 _ rfl hb5.size (by decide),fun k u r hu hr=>by
     cases k with
     |succ k=>simp at hu
     |zero=>
      simp at hu hr;subst hu hr
      have:=own_kept_ty ho5 (only_of_below hb6 none) (fun g c t fz hr=>by cases hr)
      rw[rP,fA.out,uf]
      exact this⟩)
   have iI:=ah dI;have iJ:=ah fD
   clear ho5 hg5 bG hk5 hb5 dI hb6 fD a0 a1 iE bg dF fC dG dH fB cu iD
   go_upto_region 26 with fail
   rw[iI.out,iJ.out];clear iI iJ;go_wp2_with fail
   go_loopg [8,17] rn (fun q x y wr=> ∃k:Nat,∃A c,x=.slice A (k+1) c/\y=.int .i64 k/\k+q=rn/\TpS w aP au aQ (Tb.keysR g) (.slice A (k+1) c) ((Tb.headR++Tb.keysR g) ::(g.rels.take k).map (Tb.relRow (Tb.keysR g))) #[.slice An nn cn,.slice Ar rn cr] wr)
   case atStart=>exact⟨0,_,_,rfl,rfl,by omega,gq.out⟩
   obtain⟨k,Aq,cq,rfl,rfl,hk,hs⟩:=hrel;have HS:=ah hs;have HK:=ah hk;clear hs gq
   obtain⟨a0,a1⟩:=cells2 HS.box;cases gk with
   |succ q=>
    have hkn:k<rn:=by omega
    have hknI:(k:Int)<rn:=by omega
    obtain⟨n,hn⟩: ∃n,g.rels[k]?=some n:=⟨_,ay (by rw[HRN.out];exact hkn)⟩
    have hnm:=sK hn;have htk:g.rels.take (k+1)=g.rels.take k++[n]:=by rw[uM,hn];rfl
    obtain⟨pb,po,cs,rfl,hpb,⟨Ap,cp,ecs,hpo⟩,-,hcl⟩:=HRA.out k n hn
    obtain⟨pl,hpl⟩:=aj n.props.length;obtain⟨zt,hzt⟩:=aj (⟨n.type.toArray⟩:ByteArray)
    rw[show ST n.type=.string zt by rw[<-hzt];rfl,hpl]at ecs
    subst ecs
    have hcell:=fun(j:Nat) u (hu:([.int .i64 n.id,.string zt,.int .i64 n.src,.int .i64 n.dst,.slice Ap pl cp]:List Value)[j]?=some u)=>(HS.bel.cell (p:=⟨pb,po+k*5+j,none⟩) hpb).trans (hcl j u hu)
    have e0:=hcell 0 _ rfl;have e1:=hcell 1 _ rfl;have e2:=hcell 2 _ rfl
    have e3:=hcell 3 _ rfl;have e4:=hcell 4 _ rfl;rw[vw]at e0;have hfn:=aG.rel hnm
    have dY:=hfn.good.lo;have dZ:=hfn.good.hi;have jW:=hfn.good.slo;have jX:=hfn.good.shi
    have jY:=hfn.good.dlo;have jZ:=hfn.good.dhi
    obtain⟨zi,hzi⟩:=aj (⟨(Lib.itoa n.id).toArray⟩:ByteArray)
    obtain⟨zj,hzj⟩:=aj (⟨(Lib.itoa n.src).toArray⟩:ByteArray)
    obtain⟨zl,hzl⟩:=aj (⟨(Lib.itoa n.dst).toArray⟩:ByteArray)
    have hid:=fun(V:World)=>jc n.id V (by omega) (by omega)
    rw[hzi]at hid;have hij:=fun(V:World)=>jc n.src V (by omega) (by omega)
    rw[hzj]at hij;have hil:=fun(V:World)=>jc n.dst V (by omega) (by omega)
    rw[hzl]at hil
    have HPL:=ah (fun(V:World) (hb:Below w.heap.size w V)=>show Lst V w.heap.size 6 (PropC V w.heap.size) Ap n.props from hpo.below hb (PropC.below hb))
    have kF:=ah (HOK.rs n hnm).pl
    have kH:=ah (show∀p∈n.props,POk p/\Cel.check p.val=0 from fun p hp=>⟨(HOK.rs n hnm).ps p hp,(hfn.good.props p hp).val.ck⟩)
    have kJ:=ah hpl;have HLL:=ah (show k<=g.rels.length by rw[HRN.out];omega)
    have HROW:=ah (show(Tb.relRow (Tb.keysR g) n).length=4+au/\(Tb.relRow (Tb.keysR g) n).map ST=[.string zi,.string zj,.string zl,.string zt] ++(Tb.keysR g).map (fun key=>ST (Tb.fieldOf n.props key)) from⟨by unfold Tb.relRow;simp only[sS,sU,fA.out];omega,by unfold Tb.relRow;simp only[tV,vV];rw[<-hzi,<-hzj,<-hzl,<-hzt];rfl⟩)
    obtain⟨wo,hwo⟩: ∃x,x=wr:=⟨_,rfl⟩
    obtain⟨WN,hWN⟩:=aj (wr.alloc (.cells #[.int .i64 n.id,.string zt,.int .i64 n.src,.int .i64 n.dst,.slice Ap pl cp] 55))
    obtain⟨nd,hnd⟩:=aj wr.heap.size
    have hbn:Below wr.heap.size wr WN.drew:=(hWN▸(Below.refl _ wr).alloc (rM _) _:Below wr.heap.size wr WN).drew
    have bH:=ah (show Blk WN.drew nd 55 #[.int .i64 n.id,.string zt,.int .i64 n.src,.int .i64 n.dst,.slice Ap pl cp] from(show Blk WN nd 55 _ by rw[<-hWN,<-hnd];exact Blk.new _ _ _))
    have dL:=ah (show Below wo.heap.size wo WN.drew by rw[hwo];exact hbn)
    have aA:=ah (fun(V:World) (h:Blk V nd 55 #[.int .i64 n.id,.string zt,.int .i64 n.src,.int .i64 n.dst,.slice Ap pl cp])=>cells5 h)
    have HID:=ah hid;have ku:=ah hij;have iK:=ah hil;have HTK:=ah htk;have HWN:=ah hWN
    have HND:=ah hnd
    clear hn hnm htk hpo hcl hpl hcell hfn dY dZ jW jX jY jZ hzi hzj hzl hzt hid hij hil hWN hnd hbn hk hpb
    go_upto_region 30 with fail
    rw[HWN.out,HND.out];clear HWN HND e0 e1 e2 e3 e4 a0 a1;subst hwo
    refine wp_region_last 12 (fun V=>V.cell? ⟨nd,0,none⟩=some (.int .i64 n.id)/\V.cell? ⟨nd,1,none⟩=some (.string zt)/\V.cell? ⟨nd,2,none⟩=some (.int .i64 n.src)/\V.cell? ⟨nd,3,none⟩=some (.int .i64 n.dst)/\V.cell? ⟨nd,4,none⟩=some (.slice Ap pl cp)) (by kernel_rfl) (by kernel_rfl) (aA.out _ bH.out) (fun hHeld=> ?_)
    simp only[wQ,yx];refine takeH 0 hHeld ?_
    (try simp only[Act.put,rW,su,sF])
    refine takeH 1 hHeld ?_
    (try simp only[Act.put,rW,su,sF])
    refine takeH 3 hHeld ?_
    (try simp only[Act.put,rW,su,sF])
    refine takeH 4 hHeld ?_
    (try simp only[Act.put,rW,su,sF])
    refine takeH 6 hHeld ?_
    (try simp only[Act.put,rW,su,sF])
    refine takeH 7 hHeld ?_
    (try simp only[Act.put,rW,su,sF])
    refine takeH 9 hHeld ?_
    (try simp only[Act.put,rW,su,sF])
    refine takeH 10 hHeld ?_
    (try simp only[Act.put,rW,su,sF])
    clear hHeld
    refine wpAnyH_ready (rs:=[2]) (by kernel_rfl) (by simp) (AllReadyH.cons (by simp only[sJ,sN,sD];rfl) (fun K hK=> ?_) AllReadyH.nil)
    go_simp
    go_at_call 27
    refine(HID.out _).mono ?_;rintro e w5 ⟨rfl,bb⟩;have bI:=ah (bH.below bb bH.lt)
    have dM:=ah (dL.trans (bb.mono dL.size));clear bb;go_wp2_with fail
    refine hK.out _ _ (aA.out _ bI.out) (fun hHeld=> ?_)
    clear hK K
    (try simp only[Act.put,rW,su,sF])
    clear hHeld
    refine wpAnyH_ready (rs:=[5]) (by kernel_rfl) (by simp) (AllReadyH.cons (by simp only[sJ,sN,sD];rfl) (fun K hK=> ?_) AllReadyH.nil)
    go_simp
    go_at_call 27
    refine(ku.out _).mono ?_;rintro e w6 ⟨rfl,bb⟩;have aZ:=ah (bI.below bb bI.lt)
    have bJ:=ah (dM.trans (bb.mono dM.size));clear bb;go_wp2_with fail
    refine hK.out _ _ (aA.out _ aZ.out) (fun hHeld=> ?_)
    clear hK K
    (try simp only[Act.put,rW,su,sF])
    clear hHeld
    refine wpAnyH_ready (rs:=[8]) (by kernel_rfl) (by simp) (AllReadyH.cons (by simp only[sJ,sN,sD];rfl) (fun K hK=> ?_) AllReadyH.nil)
    go_simp
    go_at_call 27
    refine(iK.out _).mono ?_;rintro e w7 ⟨rfl,bb⟩;have bQ:=ah (aZ.below bb aZ.lt)
    have bT:=ah (bJ.trans (bb.mono bJ.size));clear bb;go_wp2_with fail
    refine hK.out _ _ (aA.out _ bQ.out) (fun hHeld=> ?_)
    clear hK K
    (try simp only[Act.put,rW,su,sF])
    clear hHeld
    refine wpAnyH_ready (rs:=[11]) (by kernel_rfl) (by simp) (AllReadyH.cons (by simp only[sJ,sN,sD];rfl) (fun K hK=> ?_) AllReadyH.nil)
    go_simp
    obtain⟨WX,hWX⟩:=aj (w7.alloc (.cells #[.string zi,.string zj,.string zl,.string zt] 9))
    obtain⟨lbx,dP⟩:=aj w7.heap.size
    have hbX:Below w7.heap.size w7 WX:=hWX▸(Below.refl _ _).alloc (rM _) _
    have HBX:=ah (bT.trans (hbX.mono bT.size));have HKX:=ah (bQ.below hbX bQ.lt)
    have HRX:=ah (show WX.ownsRow wo.heap.size 9 1 (.slice (some ⟨lbx,0,none⟩) 4 4) 4 [.string zi,.string zj,.string zl,.string zt] by rw[<-hWX,<-dP];exact own_fresh _ _ _ _ _ rfl bT.size (by decide))
    have HWX:=ah hWX;have jy:=ah dP;rw[hWX,dP];clear hWX dP hbX
    refine hK.out _ _ (aA.out _ HKX.out) (fun hHeld=> ?_)
    clear hK K
    (try simp only[Act.put,rW,su,sF])
    clear hHeld;refine wpAnyH_done (by kernel_rfl) ?_ _
    refine lastQ_go (by simp only[sJ,sN,sD];rfl) (fun K hK=> ?_)
    go_simp;refine hK.out _ _ ?_;clear hK K
    go_upto_region 31 with fail
    clear HWX jy;go_wp2_with fail
    go_loopg [19,20] au (fun q x y wx=> ∃j:Nat,∃A c,x=.slice A (4+j) c/\y=.int .i64 j/\j+q=au/\Below wo.heap.size wo wx/\wx.ownsRow wo.heap.size 9 1 (.slice A (4+j) c) (4+j) ([.string zi,.string zj,.string zl,.string zt] ++((Tb.keysR g).take j).map (fun key=>ST (Tb.fieldOf n.props key)))/\Blk wx nd 55 #[.int .i64 n.id,.string zt,.int .i64 n.src,.int .i64 n.dst,.slice Ap pl cp])
    case atStart=>exact⟨0,_,_,rfl,rfl,by omega,HBX.out,by rw[yx,uT,tC];exact HRX.out,HKX.out⟩
    obtain⟨j,A7,c7,rfl,rfl,hj,hbx,hrx,hkx⟩:=hrel;have iQ:=ah hbx;have iR:=ah hrx
    have fF:=ah hkx;have HJ:=ah hj;have aT:=ah (HS.below hbx)
    clear hbx hrx hkx HBX HRX HKX;obtain⟨d0,d1,d2,d3,d4⟩:=cells5 fF.out;cases gk with
    |succ q2=>
     have hjn:j<au:=by omega
     have hjnI:(j:Int)<au:=by omega
     obtain⟨key,hky⟩: ∃x,(Tb.keysR g)[j]?=some x:=⟨_,ay (by rw[fA.out];exact hjn)⟩
     obtain⟨kb,ko,ek,-⟩:=(Reads.of_own aT.keys).blk (by omega)
     have hkc:=(ek▸Reads.of_own aT.keys:Reads wr wr.heap.size 1 (some ⟨kb,ko,none⟩) au ((Tb.keysR g).map ST)).st hky
     obtain⟨zk,hzk⟩:=aj (⟨key.toArray⟩:ByteArray)
     obtain⟨zf,fG⟩:=aj (⟨(Tb.fieldOf n.props key).toArray⟩:ByteArray)
     rw[show ST key=.string zk by rw[<-hzk];rfl]at hkc
     have hfl:=fun(i:Nat)=>lQ w.heap.size zk Ap cp n.props (wr.drewN i) (HPL.out _ (below_drewN aT.bel i)) kF.out kH.out aT.bel.size
     rw[show zk.data.toList=key by rw[<-hzk]]at hfl
     simp only[fG,kJ.out]at hfl;have HFL:=ah hfl
     have kK:=ah (show ST (Tb.fieldOf n.props key)=.string zf by rw[<-fG];rfl)
     have kL:=ah (show((Tb.keysR g).take (j+1)).map (fun key=>ST (Tb.fieldOf n.props key))=((Tb.keysR g).take j).map (fun key=>ST (Tb.fieldOf n.props key))++[ST (Tb.fieldOf n.props key)] by rw[uM,hky,uf];rfl)
     have kM:=ah ek;have fH:wo.heap.size<=wr.heap.size:=iQ.size;clear hky hzk fG hfl hj
     subst ek;clear kM;go_wp2_with fail
     go_region_law (first|(refine step_call 28 rfl (by go_simp) (calls_ex (HFL.out _)) ?_;rintro _ w7 ⟨rfl,b7⟩;have HB7:=ah (iQ.trans ((below_drewN (Below.refl _ _) _|>.trans b7).mono fH));have HR7:=ah (own_kept_ty iR.out (only_of_below ((below_drewN (Below.refl _ _) _).trans b7) none) (fun g c t fz hr=>by cases hr));have HK7:=ah (fF.below ((below_drewN (Below.refl _ _) _).trans b7) fF.lt);clear b7)|(refine step_append_one rfl (.tmp 137) (.tmp 145) 45 9 (.string ⟨#[]⟩) 16 Tryz.underlying45 info_string rfl (by decide) rfl wo.heap.size (.slice A7 (4+j) c7) (4+j) _ w7 rfl HR7.out (.string zf) rfl rfl (by omega) HB7.size ?_;intro v9 w9 ho9 hg9 hw9 hb9;obtain⟨A9,c9,rfl⟩:=own_form ho9;have HO9:=ah ho9;have HB9:=ah (HB7.trans hb9);have HK9:=ah (HK7.grown hg9 (own_ne_blk HR7.out HK7.out (by decide)));clear ho9 hg9 hw9 hb9)|fail)
     all_goals
      have kN:=ah (show w9.ownsRow wo.heap.size 9 1 (.slice A9 (4+(j+1)) c9) (4+(j+1)) ([.string zi,.string zj,.string zl,.string zt] ++((Tb.keysR g).take (j+1)).map (fun key=>ST (Tb.fieldOf n.props key))) by
       rw[kL.out,kK.out,<-sV]
       exact HO9.out)
      clear d0 d1 d2 hkc HO9 d3 d4;go_wp2
      go_roundg q2
      case measure=>omega
      exact⟨j+1,A9,c9,rfl,int_eq (by omega),by have:=HJ.out;omega,HB9.out,kN.out,HK9.out⟩
    |zero=>
     have hjk:au=j:=by omega
     subst hjk
     have aJ:=ah (show wr.ownsRow w.heap.size 9 1 (.slice A7 (4+au) c7) (Tb.relRow (Tb.keysR g) n).length ((Tb.relRow (Tb.keysR g) n).map ST) by
      have h:=iR.out;rw[sG (by rw[fA.out];exact rM _)]at h
      rw[HROW.out.1,HROW.out.2]
      exact own_base h HS.bel.size)
     obtain⟨us,u1,u2,u3⟩:=aT.rows
     have hlen:((Tb.headR++Tb.keysR g) ::(g.rels.take k).map (Tb.relRow (Tb.keysR g))).length=k+1:=by rw[sS,sU,tK];have:=HLL.out;omega
     have HPUT:=ah (fun(v':Value) (w':World) (hg:wr.grownBy w' (Value.ownBlock (.slice Aq (k+1) cq))) (ho:w'.ownsRow w.heap.size 45 1 v' (((Tb.headR++Tb.keysR g) ::(g.rels.take k).map (Tb.relRow (Tb.keysR g))).length+1) (us++[.slice A7 (4+au) c7]))=>TpS.put aT.out u1 u2 u3 aJ.out hg ho)
     rw[hlen]at u2 HPUT;have HU2:=ah u2;have fH:=aT.bel.size
     clear u1 u2 u3 hlen hj d0 d1 d2 d3 d4
     go_wp2_with (at_builtin;refine wpList_append_one rfl (.tmp 147) (.tmp 149) 61 45 (.slice none 0 0) 24 Tryz.underlying61 info_strings rfl (by decide) rfl w.heap.size (.slice Aq (k+1) cq) (k+1) us wr rfl HU2.out (.slice A7 (4+au) c7) rfl rfl (by omega) fH ?_)
     intro v11 w11 aH hg11 bP hb11;obtain⟨aK,c11,rfl⟩:=own_form aH
     have HS11:=ah (show TpS w aP au aQ (Tb.keysR g) (.slice aK (k+1+1) c11) ((Tb.headR++Tb.keysR g) ::(g.rels.take (k+1)).map (Tb.relRow (Tb.keysR g))) #[.slice An nn cn,.slice (some ⟨pb,po,none⟩) rn cr] w11 by
      have h:=HPUT.out _ _ hg11 aH;rw[HTK.out,uf]
      exact h)
     clear aH hg11 bP hb11 HPUT HU2 aJ;go_wp2
     go_roundg q
     case measure=>omega
     exact⟨k+1,aK,c11,rfl,int_eq (by omega),by have:=HK.out;omega,HS11.out⟩
   |zero=>
     have hkn:rn=k:=by omega
     subst hkn;have hro:=HS.rows;rw[sG (by rw[HRN.out];exact rM _)]at hro
     have hcs:=lU hro HWR.out.2 HNE.out.2
     obtain⟨zr,hzr⟩:=aj (⟨((Tb.rowsR g).flatMap Csv.printRow).toArray⟩:ByteArray)
     rw[show((Tb.headR++Tb.keysR g) :: g.rels.map (Tb.relRow (Tb.keysR g)))=Tb.rowsR g from rfl,hzr]at hcs
     have aU:=ah hcs;have bg:=ah hzr;clear hro hcs hzr hk;go_wp2_with fail
     refine aU.mono ?_;rintro e w8 ⟨rfl,b8⟩
     have HB8:=ah (HS.bel.trans (b8.mono HS.bel.size))
     have HFIN:=ah (show Ending.returned (.tuple #[.string ⟨R.1.1.toArray⟩,.string ⟨R.1.2.toArray⟩,.int .i64 (R.2:Nat)])=Ending.returned (.tuple #[.string zn,.string zr,.int .i64 0]) by rw[HRR.out,<-HZN.out,<-bg.out];rfl)
     clear b8 aU HS HK;go_wp2
     go_ret3
     exact⟨HFIN.symm,HB8.out⟩
end Go.Proofs.YtanlehkalkafdaaGreatDoor
