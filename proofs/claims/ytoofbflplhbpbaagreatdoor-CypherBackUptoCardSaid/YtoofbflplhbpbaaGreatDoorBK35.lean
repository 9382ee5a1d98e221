/- Contracts and plain laws,part 35. -/
import Derived.Test.YtoofbflplhbpbaaGreatDoorBK31
import Derived.Test.YtoofbflplhbpbaaGreatDoorBK34
import Derived.Lib.AppendStr
set_option maxHeartbeats 64000000
set_option maxRecDepth 1000000
set_option linter.all false
namespace Go.Proofs.YtoofbflplhbpbaaGreatDoor
open Go.RowKit
attribute [local go_sem] Oper.semAt_some
structure PIt where
 p:Gr.P
 An:Option Addr
 cn:Nat
 At:Option Addr
 ct:Nat
def PIt.cells (x:PIt):Array Value:= #[ST x.p.key, .int .i64 x.p.val.kind, .int .i64 x.p.val.num,ST x.p.val.text, .slice x.An x.p.val.nums.length x.cn, .slice x.At x.p.val.texts.length x.ct]
def lJ (x:PIt):Array Value:= #[.agg x.cells]
def PIt.Rd (W:World) (B:Nat) (x:PIt):Prop:=Reads W B 1 x.An x.p.val.nums.length (x.p.val.nums.map I64)∧Reads W B 1 x.At x.p.val.texts.length (x.p.val.texts.map ST)
def wE (W:World) (B:Nat) (l:List Gr.P) (pre:List PIt) (x:PIt):Prop:=(pre ++ [x]).map PIt.p <+: l∧x.Rd W B
def wF (l:List Gr.P) (pre:List PIt):Prop:=pre.map PIt.p=l
theorem ou {α β:Type} {l:List α} {f:α→List β} {k:Nat} {a:α} (h:l[k]?=some a):(l.take (k+1)).flatMap f=(l.take k).flatMap f ++ f a:=by
 rw [List.take_add_one,h]
 simp
theorem qQ {α β:Type} {l:List α} {f:α→List β} {k:Nat} {a:α} (h:l[k]?=some a):l.flatMap f=(l.take k).flatMap f ++(f a ++(l.drop (k+1)).flatMap f):=by
 obtain ⟨hk,e⟩:=List.getElem?_eq_some_iff.1 h
 conv=>lhs;rw [←List.take_append_drop k l,List.flatMap_append,List.drop_eq_getElem_cons hk,e,List.flatMap_cons]
theorem Ed {α:Type} {l:List α} {k:Nat} {a:α} (h:l[k]?=some a):l=l.take k ++ a :: l.drop (k+1):=by
 obtain ⟨hk,e⟩:=List.getElem?_eq_some_iff.1 h
 conv=>lhs;rw [←List.take_append_drop k l,List.drop_eq_getElem_cons hk,e]
theorem Ee {α:Type} {pre a b:List α} {ps:List α} {j:Nat} {x:α} (h:pre=a ++ ps.take j) (hx:ps[j]?=some x):pre ++ [x] <+:(a ++(ps ++ b)):=by
 subst h
 refine ⟨ps.drop (j+1) ++ b, ?_⟩
 conv=>rhs;rw [Ed hx]
 simp
theorem mD {α:Type} {l:List α} {k:Nat} {a:α} (h:l[k]?=some a):l.take (k+1)=l.take k ++ [a]:=by
 rw [List.take_add_one,h]
 rfl
theorem Ef (T n₁ B Bt:Nat) (g:Gr.G) (An Ar:Option Addr) (cn cr:Nat) (Ws:World)
  (hN:Lst Ws B 3 (bU Ws B) An g.nodes) (hR:Lst Ws B 5 (bV Ws B) Ar g.ah) (hok:GOk g) (W1:World):
  uP Tryz.prog T n₁ 186 #[.pointer (some ⟨Bt,0,none⟩)] lJ (fun _ _ _=>True) (wE Ws B (Gr.bf g)) (wF (Gr.bf g)) (fun V=>Below B Ws V∧Blk V Bt 39 #[.slice An g.nodes.length cn, .slice Ar g.ah.length cr]) W1:=by
 intro l J Fin hAux hJ hY hEnd h0
 refine callsIn_wide.2 ?_
 have HX:=hq7 hAux
 have HJ:=hq7 hJ
 have HY:=hq7 hY
 have HE:=hq7 hEnd
 have HJ0:=hq7 h0
 have HN:=hq7 hN
 have HR:=hq7 hR
 have HOK:=hq7 hok
 obtain ⟨nn,hnn⟩: ∃n,g.nodes.length=n:=⟨_,rfl⟩
 obtain ⟨rn,hrn⟩: ∃n,g.ah.length=n:=⟨_,rfl⟩
 have hnl:=hok.nl
 have hrl:=hok.rl
 rw [hnn] at HX hnl
 rw [hrn] at HX hrl
 have HNN:=hq7 hnn
 have HRN:=hq7 hrn
 obtain ⟨c0,c1⟩:=cells2 (HX.out _ _ h0).2
 have hall:Gr.bf g=g.nodes.flatMap Gr.N.props ++ g.ah.flatMap Gr.R.props:=rfl
 obtain ⟨ALL,hALL⟩: ∃x,Gr.bf g=x:=⟨_,rfl⟩
 rw [hALL] at HY HE hall
 have HALL:=hq7 hall
 clear hJ hY hEnd hAux h0 hN hR hok hnn hrn hall hALL
 go_enter Tryz.func186,Tryz.ntmps186
 go_wp2_with fail
 go_loopg [14] nn (fun q x wr=> ∃(k:Nat) (pre:List PIt),x= .int .i64 k∧k+q=nn∧J pre wr∧pre.map PIt.p=(g.nodes.take k).flatMap Gr.N.props∧W1.heap.size≤wr.heap.size)
 case atStart=>exact ⟨0, [],rfl,by omega,HJ0.out,rfl,Nat.le_refl _⟩
 case round=>
  obtain ⟨k,pre,rfl,hk,hj,hpre,hsz⟩:=hrel
  have HJR:=hq7 hj
  have HPRE:=hq7 hpre
  have HK:=hq7 hk
  have HBW:=hq7 (HX.out _ _ hj).1
  obtain ⟨c0',c1'⟩:=cells2 (HX.out _ _ hj).2
  clear hj hpre c0 c1
  cases gk with
  | succ q=>
   have hkn:k<nn:=by omega
   have hknI:(k:Int)<nn:=by omega
   obtain ⟨n,hn⟩: ∃n,g.nodes[k]?=some n:=⟨_,List.getElem?_eq_getElem (by rw [HNN.out];exact hkn)⟩
   obtain ⟨b,o,Al,cl,Ap,cp,rfl,hbB,⟨D0,D1,D2⟩,-,r2⟩:=HN.out.node hn
   have hlt:b<B:=hbB
   have d0:=(HBW.out.cell (p:=⟨b,o+k*3,none⟩) hlt).trans D0
   have d1:=(HBW.out.cell (p:=⟨b,o+k*3+1,none⟩) hlt).trans D1
   have d2:=(HBW.out.cell (p:=⟨b,o+k*3+2,none⟩) hlt).trans D2
   obtain ⟨WN,hWN⟩: ∃W,wr.alloc (.cells #[.int .i64 n.id, .slice Al n.labels.length cl, .slice Ap n.props.length cp] 59)=W:=⟨_,rfl⟩
   have HWN:=hq7 hWN
   have HSM:=hq7 (show Same1 T W1.heap.size wr WN by rw [←hWN];exact (Same1.refl _ _ _).alloc _)
   have HK1:=hq7 (show Blk WN wr.heap.size 59 #[.int .i64 n.id, .slice Al n.labels.length cl, .slice Ap n.props.length cp] by rw [←hWN];exact Blk.new _ _ _)
   have HRP:=hq7 r2
   have hnok:=HOK.out.ns n (List.mem_of_getElem? hn)
   obtain ⟨pn,hpn⟩: ∃m,n.props.length=m:=⟨_,rfl⟩
   have hpl:=hnok.pl
   rw [hpn] at hpl d2 HWN HK1
   have HPN:=hq7 hpn
   have HFL:=hq7 (ou (f:=Gr.N.props) hn)
   have HSP:=hq7 (qQ (f:=Gr.N.props) hn)
   clear hWN hbB D0 D1 D2 r2 hnok hn hpn hk hkn hlt
   go_upto_region 3 with fail
   rw [HWN.out]
   clear d0 d1 d2 c0' c1'
   obtain ⟨k0,k1,k2⟩:=cells3 HK1.out
   go_wp2_with fail
   go_loopg [21] pn (fun q x wx=> ∃(j:Nat) (pre:List PIt),x= .int .i64 j∧j+q=pn∧J pre wx∧pre.map PIt.p=(g.nodes.take k).flatMap Gr.N.props ++ n.props.take j∧W1.heap.size≤wx.heap.size)
   case atStart=>exact ⟨0,pre,rfl,by omega,HJ.out _ _ _ HJR.out HSM.out,by rw [HPRE.out];simp,by rw [←HWN.out];simp;omega⟩
   case round=>
    obtain ⟨j,pre',rfl,hj,hjj,hpre',hsz'⟩:=hrel
    have HJX:=hq7 hjj
    have HPX:=hq7 hpre'
    have HJN:=hq7 hj
    have HBX2:=hq7 (HX.out _ _ hjj).1
    clear hjj hpre'
    cases gk with
    | succ q'=>
     have hjn:j<pn:=by omega
     have hjnI:(j:Int)<pn:=by omega
     obtain ⟨p,hp⟩: ∃p,n.props[j]?=some p:=⟨_,List.getElem?_eq_getElem (by rw [HPN.out];exact hjn)⟩
     obtain ⟨b',o',An',cn',At',ct',rfl,hbB',⟨E0,E1,E2,E3,E4,E5⟩,q1,q2⟩:=HRP.out.prop hp
     have hlt':b'<B:=hbB'
     obtain ⟨z,hz⟩: ∃z:ByteArray,(⟨p.key.toArray⟩:ByteArray)=z:=⟨_,rfl⟩
     obtain ⟨zt,hzt⟩: ∃z:ByteArray,(⟨p.val.text.toArray⟩:ByteArray)=z:=⟨_,rfl⟩
     have hzk:ST p.key= .string z:=by unfold ST;rw [hz]
     have hztk:ST p.val.text= .string zt:=by unfold ST;rw [hzt]
     rw [hzk] at E0
     rw [hztk] at E3
     clear hz hzt
     have e0:=(HBX2.out.cell (p:=⟨b',o'+j*6,none⟩) hlt').trans E0
     have e1:=(HBX2.out.cell (p:=⟨b',o'+j*6+1,none⟩) hlt').trans E1
     have e2:=(HBX2.out.cell (p:=⟨b',o'+j*6+2,none⟩) hlt').trans E2
     have e3:=(HBX2.out.cell (p:=⟨b',o'+j*6+3,none⟩) hlt').trans E3
     have e4:=(HBX2.out.cell (p:=⟨b',o'+j*6+4,none⟩) hlt').trans E4
     have e5:=(HBX2.out.cell (p:=⟨b',o'+j*6+5,none⟩) hlt').trans E5
     obtain ⟨WY,hWY⟩: ∃W,wr.alloc (.cells #[.string z, .int .i64 p.val.kind, .int .i64 p.val.num, .string zt, .slice An' p.val.nums.length cn', .slice At' p.val.texts.length ct'] 61)=W:=⟨_,rfl⟩
     have hsame:Same1 T W1.heap.size wr WY:=by rw [←hWY];exact (Same1.refl _ _ _).alloc _
     have hky:Blk WY wr.heap.size 61 #[.string z, .int .i64 p.val.kind, .int .i64 p.val.num, .string zt, .slice An' p.val.nums.length cn', .slice At' p.val.texts.length ct']:=by rw [←hWY];exact Blk.new _ _ _
     have hstep:wE Ws B ALL pre' ⟨p,An',cn',At',ct'⟩:=by
      refine ⟨?_,q1,q2⟩
      rw [List.map_append,HALL.out,HSP.out]
      rw [List.append_assoc,List.append_assoc]
      exact Ee HPX.out hp
     obtain ⟨fn,tmps,assign,body,hy,hRd⟩:=HY.out pre' ⟨p,An',cn',At',ct'⟩ wr WY HJX.out hsame trivial hstep
     simp only [lJ,PIt.cells,hzk,hztk] at hy hRd
     clear hzk hztk
     have HY1:=hq7 (show (Instr.yield l #[.agg #[.string z, .int .i64 p.val.kind, .int .i64 p.val.num, .string zt, .slice An' p.val.nums.length cn', .slice At' p.val.texts.length ct']]).run Tryz.prog WY= .ok (.round l fn tmps assign body) WY from hy)
     have HRD:=hq7 hRd
     have HWY:=hq7 hWY
     have HKY:=hq7 hky
     have HTK:=hq7 (mD hp)
     have hzy:WY.heap.size=wr.heap.size+1:=by rw [←hWY];simp
     have HZY:=hq7 hzy
     clear hWY hsame hky hstep hy hRd q1 q2 hbB' E0 E1 E2 E3 E4 E5 hlt' hp hjn hj hzy
     go_upto_region 6 with (fail)
     rw [show wr.alloc (.cells #[.string z, .int .i64 p.val.kind, .int .i64 p.val.num, .string zt, .slice An' p.val.nums.length cn', .slice At' p.val.texts.length ct'] 61)=WY from HWY.out]
     clear e0 e1 e2 e3 e4 e5
     obtain ⟨e0,e1,e2,e3,e4,e5⟩:=cells6 HKY.out
     have hy':=HY1.out
     refine (wpIn_wide (n:=8)).1 ?_
     gi_wp2
     refine HRD.out.mono ?_
     rintro e W' (⟨rfl,hj,hk⟩ |⟨rfl,hf⟩)
     ·have HJW:=hq7 hj
      have hzw:=hk.size
      rw [HZY.out] at hzw
      clear hk hj hy' e0 e1 e2 e3 e4 e5
      gi_wp2
      go_wp2
      go_roundg q'
      case measure=>omega
      case rel=>exact ⟨j+1,_,int_eq (by omega),by have:=HJN.out;omega,HJW.out,by rw [List.map_append,HPX.out,HTK.out,List.append_assoc];rfl,by omega⟩
     ·clear hy'
      gi_wp2
      go_wp2
      refine bodyPost_ret (results_none rfl _ _ _) rfl ?_
      exact ⟨⟨_,rfl⟩,hf⟩
    | zero=>
     obtain rfl:j=pn:=by omega
     have hfin:n.props.take j=n.props:=List.take_of_length_le (by rw [HPN.out];exact Nat.le_refl _)
     have hpx:=HPX.out
     rw [hfin] at hpx
     have HPF:=hq7 hpx
     clear hfin hpx hj
     go_wp2
     go_roundg q
     case measure=>omega
     case rel=>exact ⟨k+1,pre',int_eq (by omega),by have:=HK.out;omega,HJX.out,by rw [HPF.out,HFL.out],hsz'⟩
  | zero=>
   obtain rfl:k=nn:=by omega
   have hfin:g.nodes.take k=g.nodes:=List.take_of_length_le (by rw [HNN.out];exact Nat.le_refl _)
   have hpx:=HPRE.out
   rw [hfin] at hpx
   have HPF:=hq7 hpx
   clear hfin hpx hk
   go_wp2_with fail
   go_loopg [34] rn (fun q x wr=> ∃(k:Nat) (pre:List PIt),x= .int .i64 k∧k+q=rn∧J pre wr∧pre.map PIt.p=g.nodes.flatMap Gr.N.props ++(g.ah.take k).flatMap Gr.R.props∧W1.heap.size≤wr.heap.size)
   case atStart=>exact ⟨0,pre,rfl,by omega,HJR.out,by rw [HPF.out];simp,hsz⟩
   case round=>
    clear c0' c1' hsz HPRE HPF HJR HK HBW
    obtain ⟨k,pre,rfl,hk,hj,hpre,hsz⟩:=hrel
    have HJR:=hq7 hj
    have HPRE:=hq7 hpre
    have HK:=hq7 hk
    have HBW:=hq7 (HX.out _ _ hj).1
    obtain ⟨c0',c1'⟩:=cells2 (HX.out _ _ hj).2
    clear hj hpre
    cases gk with
    | succ q=>
     have hkn:k<rn:=by omega
     have hknI:(k:Int)<rn:=by omega
     obtain ⟨n,hn⟩: ∃n,g.ah[k]?=some n:=⟨_,List.getElem?_eq_getElem (by rw [HRN.out];exact hkn)⟩
     obtain ⟨b,o,Ap,cp,rfl,hbB,⟨D0,D1,D2,D3,D4⟩,r2⟩:=HR.out.rel hn
     have hlt:b<B:=hbB
     obtain ⟨zy,hzy⟩: ∃z:ByteArray,(⟨n.type.toArray⟩:ByteArray)=z:=⟨_,rfl⟩
     unfold ST at D1
     rw [hzy] at D1
     clear hzy
     have d0:=(HBW.out.cell (p:=⟨b,o+k*5,none⟩) hlt).trans D0
     have d1:=(HBW.out.cell (p:=⟨b,o+k*5+1,none⟩) hlt).trans D1
     have d2:=(HBW.out.cell (p:=⟨b,o+k*5+2,none⟩) hlt).trans D2
     have d3:=(HBW.out.cell (p:=⟨b,o+k*5+3,none⟩) hlt).trans D3
     have d4:=(HBW.out.cell (p:=⟨b,o+k*5+4,none⟩) hlt).trans D4
     obtain ⟨WN,hWN⟩: ∃W,wr.alloc (.cells #[.int .i64 n.id, .string zy, .int .i64 n.src, .int .i64 n.dst, .slice Ap n.props.length cp] 63)=W:=⟨_,rfl⟩
     have HWN:=hq7 hWN
     have HSM:=hq7 (show Same1 T W1.heap.size wr WN by rw [←hWN];exact (Same1.refl _ _ _).alloc _)
     have HK1:=hq7 (show Blk WN wr.heap.size 63 #[.int .i64 n.id, .string zy, .int .i64 n.src, .int .i64 n.dst, .slice Ap n.props.length cp] by rw [←hWN];exact Blk.new _ _ _)
     have HRP:=hq7 r2
     have hnok:=HOK.out.rs n (List.mem_of_getElem? hn)
     obtain ⟨pn,hpn⟩: ∃m,n.props.length=m:=⟨_,rfl⟩
     have hpl:=hnok.pl
     rw [hpn] at hpl d4 HWN HK1
     have HPN:=hq7 hpn
     have HFL:=hq7 (ou (f:=Gr.R.props) hn)
     have HSP:=hq7 (qQ (f:=Gr.R.props) hn)
     clear hWN hbB D0 D1 D2 D3 D4 r2 hnok hn hpn hk hkn hlt
     go_upto_region 12 with fail
     rw [HWN.out]
     clear d0 d1 d2 d3 d4 c0' c1'
     obtain ⟨k0,k1,k2,k3,k4⟩:=cells5 HK1.out
     go_wp2_with fail
     go_loopg [41] pn (fun q x wx=> ∃(j:Nat) (pre:List PIt),x= .int .i64 j∧j+q=pn∧J pre wx∧pre.map PIt.p=g.nodes.flatMap Gr.N.props ++(g.ah.take k).flatMap Gr.R.props ++ n.props.take j∧W1.heap.size≤wx.heap.size)
     case atStart=>exact ⟨0,pre,rfl,by omega,HJ.out _ _ _ HJR.out HSM.out,by rw [HPRE.out];simp,by rw [←HWN.out];simp;omega⟩
     case round=>
      obtain ⟨j,pre',rfl,hj,hjj,hpre',hsz'⟩:=hrel
      have HJX:=hq7 hjj
      have HPX:=hq7 hpre'
      have HJN:=hq7 hj
      have HBX2:=hq7 (HX.out _ _ hjj).1
      clear hjj hpre'
      cases gk with
      | succ q'=>
       have hjn:j<pn:=by omega
       have hjnI:(j:Int)<pn:=by omega
       obtain ⟨p,hp⟩: ∃p,n.props[j]?=some p:=⟨_,List.getElem?_eq_getElem (by rw [HPN.out];exact hjn)⟩
       obtain ⟨b',o',An',cn',At',ct',rfl,hbB',⟨E0,E1,E2,E3,E4,E5⟩,q1,q2⟩:=HRP.out.prop hp
       have hlt':b'<B:=hbB'
       obtain ⟨z,hz⟩: ∃z:ByteArray,(⟨p.key.toArray⟩:ByteArray)=z:=⟨_,rfl⟩
       obtain ⟨zt,hzt⟩: ∃z:ByteArray,(⟨p.val.text.toArray⟩:ByteArray)=z:=⟨_,rfl⟩
       have hzk:ST p.key= .string z:=by unfold ST;rw [hz]
       have hztk:ST p.val.text= .string zt:=by unfold ST;rw [hzt]
       rw [hzk] at E0
       rw [hztk] at E3
       clear hz hzt
       have e0:=(HBX2.out.cell (p:=⟨b',o'+j*6,none⟩) hlt').trans E0
       have e1:=(HBX2.out.cell (p:=⟨b',o'+j*6+1,none⟩) hlt').trans E1
       have e2:=(HBX2.out.cell (p:=⟨b',o'+j*6+2,none⟩) hlt').trans E2
       have e3:=(HBX2.out.cell (p:=⟨b',o'+j*6+3,none⟩) hlt').trans E3
       have e4:=(HBX2.out.cell (p:=⟨b',o'+j*6+4,none⟩) hlt').trans E4
       have e5:=(HBX2.out.cell (p:=⟨b',o'+j*6+5,none⟩) hlt').trans E5
       obtain ⟨WY,hWY⟩: ∃W,wr.alloc (.cells #[.string z, .int .i64 p.val.kind, .int .i64 p.val.num, .string zt, .slice An' p.val.nums.length cn', .slice At' p.val.texts.length ct'] 61)=W:=⟨_,rfl⟩
       have hsame:Same1 T W1.heap.size wr WY:=by rw [←hWY];exact (Same1.refl _ _ _).alloc _
       have hky:Blk WY wr.heap.size 61 #[.string z, .int .i64 p.val.kind, .int .i64 p.val.num, .string zt, .slice An' p.val.nums.length cn', .slice At' p.val.texts.length ct']:=by rw [←hWY];exact Blk.new _ _ _
       have hstep:wE Ws B ALL pre' ⟨p,An',cn',At',ct'⟩:=by
        refine ⟨?_,q1,q2⟩
        rw [List.map_append,HALL.out,HSP.out]
        rw [←List.append_assoc]
        exact Ee HPX.out hp
       obtain ⟨fn,tmps,assign,body,hy,hRd⟩:=HY.out pre' ⟨p,An',cn',At',ct'⟩ wr WY HJX.out hsame trivial hstep
       simp only [lJ,PIt.cells,hzk,hztk] at hy hRd
       clear hzk hztk
       have HY1:=hq7 (show (Instr.yield l #[.agg #[.string z, .int .i64 p.val.kind, .int .i64 p.val.num, .string zt, .slice An' p.val.nums.length cn', .slice At' p.val.texts.length ct']]).run Tryz.prog WY= .ok (.round l fn tmps assign body) WY from hy)
       have HRD:=hq7 hRd
       have HWY:=hq7 hWY
       have HKY:=hq7 hky
       have HTK:=hq7 (mD hp)
       have hzy:WY.heap.size=wr.heap.size+1:=by rw [←hWY];simp
       have HZY:=hq7 hzy
       clear hWY hsame hky hstep hy hRd q1 q2 hbB' E0 E1 E2 E3 E4 E5 hlt' hp hjn hj hzy
       go_upto_region 15 with (fail)
       rw [show wr.alloc (.cells #[.string z, .int .i64 p.val.kind, .int .i64 p.val.num, .string zt, .slice An' p.val.nums.length cn', .slice At' p.val.texts.length ct'] 61)=WY from HWY.out]
       clear e0 e1 e2 e3 e4 e5
       obtain ⟨e0,e1,e2,e3,e4,e5⟩:=cells6 HKY.out
       have hy':=HY1.out
       refine (wpIn_wide (n:=8)).1 ?_
       gi_wp2
       refine HRD.out.mono ?_
       rintro e W' (⟨rfl,hj,hk⟩ |⟨rfl,hf⟩)
       ·have HJW:=hq7 hj
        have hzw:=hk.size
        rw [HZY.out] at hzw
        clear hk hj hy' e0 e1 e2 e3 e4 e5
        gi_wp2
        go_wp2
        go_roundg q'
        case measure=>omega
        case rel=>exact ⟨j+1,_,int_eq (by omega),by have:=HJN.out;omega,HJW.out,by rw [List.map_append,HPX.out,HTK.out,List.append_assoc];rfl,by omega⟩
       ·clear hy'
        gi_wp2
        go_wp2
        refine bodyPost_ret (results_none rfl _ _ _) rfl ?_
        exact ⟨⟨_,rfl⟩,hf⟩
      | zero=>
       obtain rfl:j=pn:=by omega
       have hfin:n.props.take j=n.props:=List.take_of_length_le (by rw [HPN.out];exact Nat.le_refl _)
       have hpx:=HPX.out
       rw [hfin] at hpx
       have HPF:=hq7 hpx
       clear hfin hpx hj
       go_wp2
       go_roundg q
       case measure=>omega
       case rel=>exact ⟨k+1,pre',int_eq (by omega),by have:=HK.out;omega,HJX.out,by rw [HPF.out,HFL.out,List.append_assoc],hsz'⟩
    | zero=>
     obtain rfl:k=rn:=by omega
     have hfin:g.ah.take k=g.ah:=List.take_of_length_le (by rw [HRN.out];exact Nat.le_refl _)
     have hpx:=HPRE.out
     rw [hfin,←HALL.out] at hpx
     have HFIN:=hq7 (HE.out _ _ HJR.out hpx)
     clear hfin hpx hk
     go_wp2
     go_end0
     exact ⟨⟨_,rfl⟩,HFIN.out⟩
end Go.Proofs.YtoofbflplhbpbaaGreatDoor
namespace Go.Proofs.YtoofbflplhbpbaaGreatDoor
open Go.RowKit
def gG (w w':World):Prop:= ∀(g:Nat) (t:TypeId) (cs:Array Value),Blk w g t cs→t≠5→Blk w' g t cs
theorem gG.refl (w:World):gG w w:=fun _ _ _ h _=>h
theorem gG.trans {a b c:World} (h:gG a b) (k:gG b c):gG a c:=fun g t cs hb hne=>k g t cs (h g t cs hb hne) hne
theorem gG.of_below {a b:World} (h:Below a.heap.size a b):gG a b:=fun _ _ _ hb _=>hb.below h hb.lt
theorem gG.of_append {w w':World} {B n:Nat} {v:Value} {xs:List Value} (h:w.ownsRow B 5 1 v n xs) (hg:w.grownBy w' v.ownBlock):gG w w':=fun g t cs hb hne=>hb.grown hg (fun e=>kW h hb hne.symm e.symm)
theorem wG:(Tryz.prog.info? 5).map (fun i=>(i.zero,i.size,i.bytes))=some (some (.int .u8 0),1,1):=by kernel_rfl
theorem NY (B:Nat) (A:Option Addr) (c n width:Nat) (x:Nat) (xs:List Value) (w:World) (hw:width≤8) (h:w.ownsRow B 5 1 (.slice A n c) n xs) (h1: ∀u∈xs,u.oneCell'=true) (hn:n≤1073741000) (hB:B≤w.heap.size) (hx:x<18446744073709551616):
  Calls Tryz.prog 285 #[.slice A n c, .int .i64 (width:Int), .int .u64 (x:Int)] w fun e w'=> ∃A' c' xs',e= .returned (.slice A' (n+width) c')∧w'.ownsRow B 5 1 (.slice A' (n+width) c') (n+width) xs'∧Below B w w'∧gG w w'∧ ∀u∈xs',u.oneCell'=true:=by
 have H:=hq7 h
 have HO1:=hq7 h1
 clear h1
 have hwi:(width:Int)≤8:=by omega
 have HX:=hq7 hx
 clear h hx
 go_enter Tryz.func285,Tryz.ntmps285
 go_wp2_with fail
 go_loopg [0,7] width (fun g v s wr=> ∃(k:Nat) (A':Option Addr) (c':Nat) (xs':List Value),v= .slice A' (n+k) c'∧s= .int .i64 (8*(g:Int) - 8)∧k+g=width∧wr.ownsRow B 5 1 (.slice A' (n+k) c') (n+k) xs'∧Below B w wr∧gG w wr∧ ∀u∈xs',u.oneCell'=true)
 case atStart=>exact ⟨0,A,c,xs,rfl,int_eq (by omega),by omega,H.out,Below.refl _ _,gG.refl _,HO1.out⟩
 case round=>
  obtain ⟨k,A',c',xs',rfl,rfl,hk,ho,hb,hkp,h1⟩:=hrel
  have H1:=hq7 h1
  clear h1
  have HO:=hq7 ho
  have HB:=hq7 hb
  have HKP:=hq7 hkp
  have HK:=hq7 hk
  clear ho hb hkp
  cases gk with
  | zero=>
   obtain rfl:k=width:=by omega
   clear hk
   go_wp2
   go_ret
   exact ⟨A',c',xs',rfl,HO.out,HB.out,HKP.out,H1.out⟩
  | succ g=>
   have hs:(8*((g+1:Nat):Int) - 8)=((8*g:Nat):Int):=by omega
   rw [hs]
   obtain ⟨s,hs'⟩: ∃s,8*g=s:=⟨_,rfl⟩
   rw [hs']
   have hsi:(s:Int)≤64:=by omega
   have hs0:(0:Int)≤s:=by omega
   have t0:decide ((0:Int)≤s)=true:=decide_eq_true hs0
   have HS:=hq7 hs'
   clear hs hs' hk
   have hnk:n+k<1073741824:=by have:=HK.out;omega
   have hBr:B≤wr.heap.size:=Nat.le_trans hB HB.out.size
   go_wp2_with (at_builtin;refine iD rfl (.tmp 15) (.tmp 20) 55 5 (.int .u8 0) 1 Tryz.underlying55 wG rfl (by decide) rfl B (.slice A' (n+k) c') (n+k) xs' wr rfl HO.out (.int .u8 ((x:Int) / 2 ^ s % 256)) rfl rfl hnk hBr ?_)
   intro v9 w9 hown9 hgr9 hwh9 hb9
   obtain ⟨A9,c9,rfl⟩:=ak hown9
   have HO9:=hq7 hown9
   have HB9:=hq7 (HB.out.trans hb9)
   have HKP9:=hq7 (HKP.out.trans (gG.of_append HO.out hgr9))
   clear hown9 hgr9 hwh9 hb9 hnk hBr
   go_wp2
   go_roundg g
   case measure=>omega
   case rel=>exact ⟨k+1,A9,c9,_,rfl,int_eq (by have:=HS.out;omega),by have:=HK.out;omega,HO9.out,HB9.out,HKP9.out,fun u hu=>by rcases List.mem_append.1 hu with h | h;exact H1.out u h;rw [List.mem_singleton.1 h];rfl⟩
structure Wrt (W:World) (B bw n:Nat):Prop where
 ex: ∃A c xs,Blk W bw 316 #[.slice A n c]∧W.ownsRow B 5 1 (.slice A n c) n xs∧ ∀u∈xs,u.oneCell'=true
 lo:B≤bw
theorem Wrt.below {W W':World} {B bw n:Nat} (h:Wrt W B bw n) (hb:Below W.heap.size W W'):Wrt W' B bw n:=by
 obtain ⟨A,c,xs,h1,h2,h3⟩:=h.ex
 exact ⟨⟨A,c,xs,h1.below hb h1.lt,aP h2 (bJ hb none) (fun g c t fz e=>by cases e),h3⟩,h.lo⟩
theorem NZ (n:Nat) (w:World) (hn:n=1∨n=2∨n=8):Calls Tryz.prog 284 #[.int .i64 (n:Int)] w fun e w'=>e= .returned (.bool true)∧w=w':=by
 rcases hn with rfl | rfl | rfl<;>
 ·go_enter Tryz.func284,Tryz.ntmps284
  go_wp2
  go_ret
  exact ⟨rfl,rfl⟩
theorem oz (B bw n width x:Nat) (w:World) (h:Wrt w B bw n) (hw:width=1∨width=2∨width=8) (hn:n≤1073741000) (hB:B≤w.heap.size) (hx:x<18446744073709551616):
  Calls Tryz.prog 244 #[.pointer (some ⟨bw,0,none⟩), .int .i64 (width:Int), .int .u64 (x:Int)] w fun e w'=>e= .returned (.tuple #[])∧Wrt w' B bw (n+width)∧Below B w w':=by
 obtain ⟨A,c,xs,h1,h2,h3⟩:=h.ex
 have HI:=hq7 (NZ width w hw)
 have HL:=hq7 (NY B A c n width x xs w (by omega) h2 h3 hn hB hx)
 have hc:=h1.cell 0
 simp only [List.getElem?_toArray,List.getElem?_cons_zero] at hc
 have HLO:=hq7 h.lo
 have H3:=hq7 h3
 have H1:=hq7 h1
 clear h h1 h2 h3 hw hx hn
 go_enter Tryz.func244,Tryz.ntmps244
 go_wp2_with fail
 refine HI.out.mono ?_
 rintro e w1 ⟨rfl,rfl⟩
 go_wp2_with fail
 refine HL.out.mono ?_
 rintro e w2 ⟨A',c',xs',rfl,ho,hb,hk,h1'⟩
 have k2:=hk _ _ _ H1.out (by decide)
 have hc2:=k2.cell 0
 simp only [List.getElem?_toArray,List.getElem?_cons_zero] at hc2
 have hf2:=k2.frozen 0
 have hres:Wrt (w2.setCell ⟨bw,0,none⟩ (.slice A' (n+width) c')) B bw (n+width):=by
  refine ⟨⟨A',c',xs',(k2.ay 0 _).cast (by simp), ?_,h1'⟩,HLO.out⟩
  exact aP ho (row:=some bw) (ny (bF _ _) (.inl rfl) _) (fun g cc t fz e1 e2=>by
   cases e1
   have:=k2.symm.trans e2
   injection this with this
   injection this with _ ht
   rw [←ht];decide)
 have HRES:=hq7 hres
 have HBF:=hq7 (hb.setCell (p:=⟨bw,0,none⟩) HLO.out (.slice A' (n+width) c'))
 clear ho hb hk k2 hres hc h1'
 go_wp2
 go_end0
 exact ⟨rfl,HRES.out,HBF.out⟩
theorem N7 (B bw n:Nat) (z:ByteArray) (w:World) (h:Wrt w B bw n) (hz:z.size≤1073741) (hn:n≤1073741000) (hB:B≤w.heap.size):
  Calls Tryz.prog 286 #[.pointer (some ⟨bw,0,none⟩), .string z] w fun e w'=>e= .returned (.tuple #[])∧Wrt w' B bw (n+z.size)∧Below B w w':=by
 obtain ⟨A,c,xs,h1,h2,h3⟩:=h.ex
 obtain ⟨i0,hi,hz0,hz1,hz2⟩:=info_parts wG
 have hc:=h1.cell 0
 simp only [List.getElem?_toArray,List.getElem?_cons_zero] at hc
 have HLO:=hq7 h.lo
 have H3:=hq7 h3
 have H1:=hq7 h1
 have H2:=hq7 h2
 have hsz:n+z.size≤140737488355328:=by omega
 have hml:n+z.size≤maxLen:=by unfold maxLen;omega
 have HSZ:=hq7 hsz
 have HML:=hq7 hml
 clear h h1 h2 h3 hz hn hsz hml
 go_enter Tryz.func286,Tryz.ntmps286
 go_wp2_with (at_builtin;refine Lib.wpList_append_own_string w rfl (.tmp 8) (.tmp 9) 55 9 rfl B 5 i0 Tryz.underlying55 Tryz.underlying9 hi hz0 hz1 hz2 (.slice A n c) n xs rfl H2.out z rfl HML.out HSZ.out hB ?_)
 intro v9 w9 hown9 hgr9 hwh9
 obtain ⟨A9,c9,rfl⟩:=ak hown9
 have k2:=H1.out.grown hgr9 (fun e=>kW H2.out H1.out (by decide) e.symm)
 have hb:Below B w w9:=(Below.refl B w).grown hgr9 hB (fun j e=>(H2.out.lt j e).1)
 have hc2:=k2.cell 0
 simp only [List.getElem?_toArray,List.getElem?_cons_zero] at hc2
 have hf2:=k2.frozen 0
 have hres:Wrt (w9.setCell ⟨bw,0,none⟩ (.slice A9 (n+z.size) c9)) B bw (n+z.size):=by
  refine ⟨⟨A9,c9,xs ++ Lib.strCells z,(k2.ay 0 _).cast (by simp), ?_,fun u hu=>by rcases List.mem_append.1 hu with h | h;exact H3.out u h;exact Lib.strCells_oneCell z u h⟩,HLO.out⟩
  exact aP hown9 (row:=some bw) (ny (bF _ _) (.inl rfl) _) (fun g cc t fz e1 e2=>by
   cases e1
   have:=k2.symm.trans e2
   injection this with this
   injection this with _ ht
   rw [←ht];decide)
 have HRES:=hq7 hres
 have HBF:=hq7 (hb.setCell (p:=⟨bw,0,none⟩) HLO.out (.slice A9 (n+z.size) c9))
 clear hown9 hgr9 hwh9 hb k2 hres hc
 go_wp2
 go_end0
 exact ⟨rfl,HRES.out,HBF.out⟩
theorem wH (B bw n:Nat) (w:World) (h:Wrt w B bw n) (hn:n≤1073741824):
  Calls Tryz.prog 247 #[.pointer (some ⟨bw,0,none⟩)] w fun e w'=> ∃A' c',e= .returned (.slice A' n c')∧Below w.heap.size w w':=by
 obtain ⟨A,c,xs,h1,h2,h3⟩:=h.ex
 have hc:=h1.cell 0
 simp only [List.getElem?_toArray,List.getElem?_cons_zero] at hc
 have HC:=hq7 (Nv w.heap.size A c n xs w (Reads.dL h2) h3 hn (Nat.le_refl _))
 clear h h1 h2 h3 hn
 go_enter Tryz.func247,Tryz.ntmps247
 go_wp2_with fail
 refine HC.out.mono ?_
 rintro e w2 ⟨v,rfl,ho,hb⟩
 obtain ⟨A',c',rfl⟩:=ak ho
 clear ho
 go_wp2
 go_ret
 exact ⟨A',c',rfl,hb⟩
theorem N8 (w:World):Calls Tryz.prog 243 #[] w fun e w'=>e= .returned (.pointer (some ⟨w.heap.size,0,none⟩))∧Wrt w' w.heap.size w.heap.size 0∧Below w.heap.size w w':=by
 go_enter Tryz.func243,Tryz.ntmps243
 go_wp2
 go_ret
 exact ⟨rfl,⟨⟨none,0, [],Blk.new _ _ _,World.ownsRow_nil _ _ _ _,fun u hu=>by cases hu⟩,Nat.le_refl _⟩,(Below.refl _ _).alloc (Nat.le_refl _) _⟩
end Go.Proofs.YtoofbflplhbpbaaGreatDoor
