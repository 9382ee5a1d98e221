/- Contracts and plain laws,part 34. -/
import Derived.Test.YtkdakckjafomhaaGreatDoorUW33
set_option maxHeartbeats 64000000
set_option maxRecDepth 1000000
set_option linter.all false
namespace Go.Proofs.YtkdakckjafomhaaGreatDoor
open Go.RowKit
def Nb (W:World) (g off m:Nat):Prop:= ∀j,j<m-> ∃y:UInt8,W.cell? ⟨g,off+j,none⟩=some (.int .u8 (y.toNat:Int))
theorem Nb.grown {W W':World} {g off m:Nat} {row:Option Nat} (h:Nb W g off m) (hg:W.grownBy W' row) (hne:some g≠row):Nb W' g off m:=fun j hj=>by
 obtain⟨y,hy⟩:=h j hj;have hlt:g<W.heap.size:=World.block_lt_of_cell? W ⟨g,off+j,none⟩ hy
 refine⟨y, ?_⟩;have hb:=hg.block g hlt hne;simp only[World.cell?,hb]at hy⊢;exact hy
theorem alm (x:Int): ∃v:Nat,v<18446744073709551616/\IntKind.u64.wrap x=(v:Int):=by
 have e:IntKind.u64.wrap x=x % 18446744073709551616:=by rw[IntKind.wrap_u64]
 exact⟨(x % 18446744073709551616).toNat,by omega,by rw[e];omega⟩
def Rh (B n k m g off:Nat) (w:World) (A:Option Addr) (c:Nat) (V:World):Prop:= ∃l:List UInt8,OwnB B (.slice A (n+k) c) l V/\l.length=n+k/\Below B w V/\Nb V g off m/\(Value.slice A (n+k) c).ownBlock≠some g
theorem acF (B:Nat) (A:Option Addr) (c n:Nat) (kd x:Int) (l:List UInt8) (w:World) (h:OwnB B (.slice A n c) l w) (h1:l.length=n) (hn:n<=536870912) (hB:B<=w.heap.size):
  Calls Tryz.prog 188 #[.slice A n c,.int .i64 kd,.int .i64 x] w (oN B (n+(if kd=1 then 1 else 8)) w):=by
 obtain⟨v,hv,hw⟩:=alm x;have uy:=ah (aof v w hv);have H:=ah h;have HL:=ah h1
 have HN:=ah hn;have aK:=ah hB;obtain⟨m,hm⟩:=aj (if kd=1 then 1 else 8)
 rw[hm];have HM:=ah hm;clear hv h h1 hn hB hm;go_enter Tryz.func188,Tryz.ntmps188
 go_wp2_with fail;refine uy.mono ?_;rintro e w1 ⟨A1,c1,l1,rfl,ho,hl,hb⟩
 have HX:=ah (And.intro ho (And.intro hl hb));clear ho hl hb uy hw
 have hX: ∃g,A1=some ⟨g,0,none⟩/\w.heap.size<=g/\Nb w1 g 0 8/\8<=c1:=by
  obtain⟨ho,hl,hb⟩:=HX.out;unfold OwnB at ho;rw[hl]at ho
  rcases ho.2 with⟨e,h0⟩|⟨g,cap,cur,e,hg,hc,q1,q2,q3⟩
  ·exact absurd h0 (by decide)
  cases e;refine⟨g,rfl,hg,fun j hj=> ?_,by first|exact q1|exact q2|omega⟩
  obtain⟨g',e',-,hcl,-⟩:=Ag (t:=j) ho (by omega)
  cases e'
  exact⟨l1[j]'(by rw[hl];exact hj),by rw[afW,hcl];unfold Lib.byteCells;rw[adX,dF (by rw[hl];exact hj)];rfl⟩
 obtain⟨g,rfl,hgw,hby,hc1⟩:=hX
 have HY:=ah (show∀off,off+m<=8->Rh B n 0 m g off w A c w1 from fun off ho=>⟨l,own_below H.out HX.out.2.2,HL.out,HX.out.2.2.mono aK.out,fun j hj=>by have:=hby (off+j) (by omega);rwa [afW]at this,fun e=>by have:=(World.ownsRow.lt H.out g e).2;omega⟩)
 clear hby hgw HX;obtain⟨tb,htb⟩:=aj (kd == 1)
 go_upto_if 13 with fail
 go_cut [7] (fun s7 wx=> ∃(off cx:Nat),s7=.slice (some ⟨g,off,none⟩) m cx/\Rh B n 0 m g off w A c wx)
 case first=>
  cases tb with
  |true=>
   have hm1:m=1:=by rw[<-HM.out,adk (aeI.1 htb)]
   subst hm1;have aqa:(8:Int)<=c1:=by omega
   clear htb;refine wp_cond_true rfl ?_;go_wp2;go_meet
   exact⟨7,c1 - 7,by simp,HY.out 7 (by omega)⟩
  |false=>
   have hm8:m=8:=by rw[<-HM.out,ade (fun e=>by rw[e]at htb;cases htb)]
   subst hm8;clear htb;refine wp_cond_false rfl ?_;go_wp2;go_meet
   exact⟨0,c1,rfl,HY.out 0 (by omega)⟩
 obtain⟨off,cx,rfl,hs⟩:=hcut;have HS:=ah hs
 have HM8:=ah (show m<=8 by rw[<-HM.out];split<;>omega)
 clear hs HY;go_wp2_with fail
 go_loopg [0,8] m (fun q v x wr=> ∃(k:Nat) (A':Option Addr) (c':Nat),v=.slice A' (n+k) c'/\x=.int .i64 k/\k+q=m/\Rh B n k m g off w A' c' wr)
 case atStart=>exact⟨0,A,c,rfl,rfl,by omega,HS.out⟩
 obtain⟨k,A',c',rfl,rfl,hk,l2,ho,hl,hb,hy,hne⟩:=hrel;have HO:=ah ho;have HL2:=ah hl
 have HB:=ah hb;have HY:=ah hy;have vK:=ah hne;clear ho hl hb hy hne HS;cases gk with
 |zero=>
  obtain rfl:k=m:=by omega
  clear hk;go_wp2;go_ret;exact⟨_,_,_,rfl,HO.out,HL2.out,HB.out⟩
 |succ q=>
  have hkm:k<m:=by omega
  have Rf:(k:Int)<m:=by omega
  have pk:(0:Int)<=(k:Int):=by omega
  have tk:((k:Int)).toNat=k:=by omega
  obtain⟨y,hy⟩:=HY.out k hkm
  have hlt:g<wr.heap.size:=World.block_lt_of_cell? wr ⟨g,off+k,none⟩ hy
  have hl2:n+k<1073741824:=by have:=HN.out;have:=HM8.out;omega
  have hBr:B<=wr.heap.size:=adg aK.out HB.size;have HK:=ah hk;have qO:=ah hlt
  have ho:=HO.out;unfold OwnB at ho;rw[HL2.out]at ho;have zK:=ah ho;clear hk hkm hlt ho
  go_wp2_with (at_builtin;refine fD rfl (.tmp 22) (.tmp 27) 124 5 (.int .u8 0) 1 Tryz.underlying124 UW rfl (by decide) rfl B (.slice A' (n+k) c') (n+k) (Lib.byteCells l2) wr rfl zK.out (.int .u8 (y.toNat:Int)) rfl rfl hl2 hBr ?_)
  intro v9 w9 aG aN gG aB;obtain⟨A9,c9,rfl⟩:=aF aG
  have H9:=ah (show Rh B n (k+1) m g off w A9 c9 w9 from⟨l2++[y],by unfold OwnB;rw[Zq,byteCells_one,adf,HL2.out];exact aG,by rw[adf,HL2.out];rfl,HB.trans aB,HY.grown aN (fun e=>vK.out e.symm),fun e=>by
   rcases gG with h|⟨b,h,hb⟩
   ·exact vK.out (h.symm.trans e)
   have e2:b=g:=ad4 (h.symm.trans e);have:=qO.out
   omega⟩)
  clear aG aN gG aB hl2 hBr hy;go_wp2
  go_roundg q
  case measure=>omega
  exact⟨k+1,A9,c9,rfl,by rw[IntWalk.wrap64_in _ (by have:=HM8.out;have:=HK.out;omega)];rfl,by have:=HK.out;omega,H9.out⟩
theorem aln (k n:Int) (t:List UInt8) (ns:List Int) (ts:List (List UInt8)):Gr.mQ ⟨k,n,t,ns,ts⟩=if k<4 then 1+(if k=1 then 1 else 8) else if k=4 then 3+t.length else 2+ns.length*(if k - 4=1 then 1 else 8)+(ts.map fun t=>2+t.length).sum:=by
 unfold Gr.mQ;simp only;by_cases h4:k<4
 ·rw[adk h4,adk h4]
  by_cases h1:k=1
  ·rw[adk h1,adk h1]
  rw[ade h1,ade h1]
 rw[ade h4,ade h4];by_cases h6:k=5
 ·rw[adk h6,adk (show k - 4=1 by omega)]
 rw[ade h6,ade (show¬k - 4=1 by omega)]
theorem alo (B:Nat) (u:Value) (v:ak.V) (w:World) (h:oV w B u v) (hB:B<=w.heap.size) (h0:ak.check v=0):
  Calls Tryz.prog 144 #[u] w fun e w'=> ∃A c,e=.returned (.slice A (Gr.mQ v) c)/\Below w.heap.size w w':=by
 obtain⟨hp1,WQ,-,Ea,AB,htl,Gs,-⟩:=ak.EO h0
 have hch:=fun(W:World) (hb:Below w.heap.size w W)=>JJ B u v W (h.below (hb.mono hB)) (adg hB hb.size)
 rw[h0]at hch;obtain⟨A1,c1,A2,c2,rfl,dG,cO⟩:=h.ex;obtain⟨k0,n0,t0,ns,ts⟩:=v
 simp only at hch dG cO hp1 WQ Ea AB htl Gs⊢
 obtain⟨y,rfl⟩: ∃y:UInt8,k0=(y.toNat:Int):=⟨UInt8.ofNat k0.toNat,by rw[anz (show k0.toNat<UInt8.size from by show k0.toNat<256;omega)];omega⟩
 obtain⟨z,hz⟩:=aj (⟨t0.toArray⟩:ByteArray)
 have hzs:z.size=t0.length:=by rw[<-hz];exact gq _
 rw[hz]at hch⊢;obtain⟨nn,hnn⟩:=aj ns.length;obtain⟨tn,htn⟩:=aj ts.length
 rw[hnn]at hch Ea dG⊢;rw[htn]at hch AB cO⊢
 obtain⟨W1,hW1⟩:=aj ((w.alloc (.cells #[.int .i64 (y.toNat:Int),.int .i64 n0,.string z,.slice A1 nn c1,.slice A2 tn c2] 37)).alloc (.cells #[] 5))
 have hb1:Below w.heap.size w W1:=by rw[<-hW1];exact((Below.refl _ w).alloc (ac4 _) _).alloc (by simp) _
 have k1:au W1 w.heap.size 37 #[.int .i64 (y.toNat:Int),.int .i64 n0,.string z,.slice A1 nn c1,.slice A2 tn c2]:=by rw[<-hW1];exact(au.new _ _ _).alloc _
 have o1:OwnB (w.heap.size+1) (.slice (some ⟨w.heap.size+1,0,none⟩) 0 0) [] W1:=by
  have:=oM (w.alloc (.cells #[.int .i64 (y.toNat:Int),.int .i64 n0,.string z,.slice A1 nn c1,.slice A2 tn c2] 37)) 5 1
  rw[hW1]at this
  simpa[OwnB,Lib.byteCells] using this
 have FK:=ah (hch W1 hb1);have bW:=ah k1;have HB1:=ah hb1;have vV:=ah o1;have HW1:=ah hW1
 have HR1:=ah (dG.below (hb1.mono hB));have HR2:=ah (cO.below (hb1.mono hB))
 obtain⟨E,vW⟩:=aj (Gr.mQ ⟨(y.toNat:Int),n0,t0,ns,ts⟩);rw[vW];have GU:=ah vW
 have nJ:=aln (y.toNat:Int) n0 t0 ns ts;rw[vW,<-hzs,hnn]at nJ;have HEP:=ah nJ
 have MI:=ah (U0 Gs);have aI:=ah htn;have dZ:=ah hB
 clear h hch dG cO hW1 hb1 k1 o1 h0 hz vW nJ Gs hnn htn hB
 go_enter Tryz.func144,Tryz.ntmps144
 go_upto_region 2 with fail
 rw[HW1.out];clear HW1;obtain⟨d0,d1,d2,d3,d4⟩:=cells5 bW.out;go_wp2_with fail
 refine FK.mono ?_;rintro e w2 ⟨rfl,hb2⟩;have HB2:=ah (HB1.trans (hb2.mono HB1.size))
 have aY:=ah (bW.below hb2 bW.lt)
 have zK:=ah (show OwnB (w.heap.size+1) (.slice (some ⟨w.heap.size+1,0,none⟩) 0 0) [] w2 from own_below vV.out hb2)
 have HR3:=ah (And.intro (HR1.below (hb2.mono (adg dZ.out HB1.size))) (HR2.below (hb2.mono (adg dZ.out HB1.size))))
 have hlt2:w.heap.size+1<=w2.heap.size:=aY.lt;clear d0 d1 d2 d3 d4 hb2 HR1 HR2 vV bW
 obtain⟨d0,d1,d2,d3,d4⟩:=cells5 aY.out;have hw2:=(J8 y).2
 go_wp2_with (at_builtin;refine uV rfl (.tmp 11) (.tmp 15) rfl (w.heap.size+1) (.slice (some ⟨w.heap.size+1,0,none⟩) 0 0) [] w2 rfl zK.out [y] _ (by simp[Lib.byteCells]) 1 rfl rfl (by decide) (by decide) hlt2 ?_)
 intro v9 w9 aG aN aB;obtain⟨A9,c9,Em⟩:=aG.form;have Em:v9=.slice A9 1 c9:=Em;subst Em
 have bH:=ah (aY.below aB (apI _));have bg:=ah (HB2.trans (aB.mono (aoc _)))
 have fJ:=ah aG
 have HR9:=ah (And.intro (HR3.out.1.below (aB.mono (adg dZ.out (aoc _)))) (HR3.out.2.below (aB.mono (adg dZ.out (aoc _)))))
 have Nc:w.heap.size+1<=w9.heap.size:=bH.lt;clear d0 d1 d2 d3 d4 aG aN aB aY zK HB2 HR3
 obtain⟨d0,d1,d2,d3,d4⟩:=cells5 bH.out;have nV:=ah (And.intro hzs htl)
 by_cases h4:y.toNat<4
 ·have I4:(y.toNat:Int)<4:=by omega
  have t4:decide ((y.toNat:Int)<4)=true:=adb I4
  have hln:=acF (w.heap.size+1) A9 c9 1 (y.toNat:Int) n0 _ w9 fJ.out rfl (by omega) Nc
  obtain⟨RL,hRL⟩:=aj (if(y.toNat:Int)=1 then 1 else 8)
  rw[hRL]at hln;have dN:=ah hln;have aO:=ah hRL;clear hln
  have HE:=ah (show Gr.mQ ⟨(y.toNat:Int),n0,t0,ns,ts⟩=1+(if(y.toNat:Int)=1 then 1 else 8) by
   unfold Gr.mQ;rw[adk I4];by_cases h1:(y.toNat:Int)=1
   ·rw[adk h1,adk h1]
   rw[ade h1,ade h1])
  rw[hRL,GU.out]at HE;clear htl hzs Ea AB h4 hRL;go_wp2_with fail;refine dN.mono ?_
  rintro e w3 ⟨A3,c3,l3,rfl,-,-,hb3⟩;have HB3:=ah (bg.trans (hb3.mono (aoc _)));clear hb3
  go_wp2;go_ret;exact⟨A3,c3,by rw[HE.out];rfl,HB3.out⟩
 have I4:(4:Int)<=(y.toNat:Int):=by omega
 have t4:decide ((y.toNat:Int)<4)=false:=ac5 (by omega)
 by_cases h5:y.toNat=4
 ·have t5:((y.toNat:Int) == 4)=true:=by rw[aeI];omega
  have Jo:=ah (acE (w.heap.size+1) A9 c9 1 z.size z _ w9 fJ.out rfl (by omega) rfl (by omega) Nc)
  have HE:=ah (show E=1+2+z.size by rw[HEP.out,ade (by omega),adk (by omega)])
  clear htl hzs Ea AB h4 h5;go_wp2_with fail;refine Jo.mono ?_
  rintro e w3 ⟨A3,c3,l3,rfl,-,-,hb3⟩;have HB3:=ah (bg.trans (hb3.mono (aoc _)));clear hb3
  go_wp2;go_ret;exact⟨A3,c3,by rw[HE.out];rfl,HB3.out⟩
 have BO:(nn:Int)<=40:=Int.ofNat_le.2 Ea;have QZ:(tn:Int)<=40:=Int.ofNat_le.2 AB
 have t5:((y.toNat:Int) == 4)=false:=adh.2 (by omega)
 have h5i:(5:Int)<=(y.toNat:Int):=by omega
 obtain⟨kd,hkd⟩:=aj ((y.toNat:Int) - 4);have aqb:1<=kd:=by omega
 have aqc:kd<=4:=by omega
 have hwk:IntKind.i64.wrap kd=kd:=IntWalk.i64_in _ (by omega)
 obtain⟨yc,hyc⟩: ∃yc:UInt8,(nn:Int)+(tn:Int)=(yc.toNat:Int):=⟨UInt8.ofNat (nn+tn),by rw[anz (show nn+tn<UInt8.size from by show nn+tn<256;omega)];omega⟩
 obtain⟨hw0,hw1⟩:=J8 yc;obtain⟨L,hL⟩:=aj (if kd=1 then 1 else 8)
 have hL8:L<=8:=by rw[<-hL];split<;>omega
 have HE:=ah (show E=2+nn*L+(ts.map fun t=>2+t.length).sum by rw[HEP.out,ade (by omega),ade (by omega),hkd,hL])
 have dJ:=ah hL;clear htl hzs hL h4 h5
 go_wp2_with (at_builtin;refine uV rfl (.tmp 33) (.tmp 42) rfl (w.heap.size+1) (.slice A9 1 c9) ([]++[y]) w9 rfl fJ.out [yc] _ (by simp[Lib.byteCells]) 1 rfl rfl (by simp) (by decide) Nc ?_)
 intro v8 w8 yH zT hb8;have yJ: [y,yc].length=2:=rfl;obtain⟨A8,c8,Es⟩:=yH.form
 rw[yJ]at Es;subst Es
 have H8:=ah (show oN (w.heap.size+1) 2 w9 (.returned (.slice A8 2 c8)) w8 from⟨A8,c8,_,rfl,yH,yJ,hb8⟩)
 have Eb:=ah (fun(W:World) (hb:Below (w.heap.size+1) w9 W)=>cells5 (bH.below hb (apI _)))
 have dS:=ah (fun(W:World) (hb:Below (w.heap.size+1) w9 W)=>(And.intro (HR9.out.1.below (hb.mono (adg dZ.out (aoc _)))) (HR9.out.2.below (hb.mono (adg dZ.out (aoc _))))))
 have mg:=ah (show w.heap.size+1<=w9.heap.size/\Below (w.heap.size+1) w9 w8 from⟨Nc,hb8⟩)
 clear yH zT hb8 yJ hw0 hw1 hyc Nc hw2 d0 d1 d2 d3 d4 hlt2
 obtain⟨d0,d1,d2,d3,d4⟩:=Eb.out w8 mg.out.2;go_wp2_with fail
 go_loopg [3,4] nn (fun g v x wr=> ∃(k:Nat) (A':Option Addr) (c':Nat),v=.slice A' (2+k*L) c'/\x=.int .i64 k/\k+g=nn/\oN (w.heap.size+1) (2+k*L) w9 (.returned (.slice A' (2+k*L) c')) wr)
 case atStart=>exact⟨0,A8,c8,by rw[anv],rfl,by omega,by rw[anv];exact H8.out⟩
 obtain⟨k,A',c',rfl,rfl,hk,A2,c2,l2,he,ho,hl,hb⟩:=hrel;cases he;have HO:=ah ho
 have HL2:=ah hl;have HB:=ah hb;have HK:=ah hk;clear ho hl hb H8 d0 d1 d2 d3 d4
 obtain⟨d0,d1,d2,d3,d4⟩:=Eb.out wr HB.out;have MK:k*L<=40*8:=anL (by omega) hL8
 have hBr:w.heap.size+1<=wr.heap.size:=adg mg.out.1 HB.size;cases gk with
 |succ g=>
  have hkn:k<nn:=by omega
  have dH:(k:Int)<nn:=by omega
  have pk:(0:Int)<=(k:Int):=by omega
  have tk:((k:Int)).toNat=k:=by omega
  obtain⟨p,o,x,rfl,hlt,hx,hp⟩:=(dS.out wr HB.out).1.cell hkn;rw[adX]at hx
  obtain⟨v0,hv,rfl⟩:=ae4.1 hx;unfold I64 at hp
  have hln:=fun(V:World) (hb:Below wr.heap.size wr V)=>acF (w.heap.size+1) A' c' (2+k*L) kd v0 l2 V (own_below HO.out hb) HL2.out (by omega) (adg hBr hb.size)
  simp only[dJ.out]at hln;have Xv:=ah hln
  have jV:=ah (show Below wr.heap.size wr wr.drew from(Below.refl _ wr).drew)
  have uM:=ah (show Below (w.heap.size+1) wr wr.drew from(Below.refl _ wr).drew)
  have hpl:p<w.heap.size+1:=am0 (adW hlt dZ.out)
  have HKK:Hid (∀X,Below (w.heap.size+1) wr X->X.cell? ⟨w.heap.size,0,none⟩=some (.int .i64 (y.toNat:Int))/\X.cell? ⟨w.heap.size,3,none⟩=some (.slice (some ⟨p,o,none⟩) nn c1)/\X.cell? ⟨p,o+k,none⟩=some (.int .i64 v0)):=fun X hb=>
   ⟨(hb.cell (p:=⟨w.heap.size,0,none⟩) (apI _)).trans d0,(hb.cell (p:=⟨w.heap.size,3,none⟩) (apI _)).trans d3,(hb.cell (p:=⟨p,o+k,none⟩) hpl).trans hp⟩
  have vP:=ah (show 2+k*L+L=2+(k+1)*L by rw[anj,amQ])
  clear hkn hlt hx hv hln MK hBr hk hpl;go_wp2_with fail
  go_region_held3 (fun w'=>w'.cell? ⟨w.heap.size,0,none⟩=some (.int .i64 (y.toNat:Int))/\w'.cell? ⟨w.heap.size,3,none⟩=some (.slice (some ⟨p,o,none⟩) nn c1)/\w'.cell? ⟨p,o+k,none⟩=some (.int .i64 v0)) (first|go_keep|exact HKK.out _ kL|fail)
   ((first|(go_at_call 188;refine(Xv.out _ jV.out).mono ?_;rintro e w7 ⟨A7,c7,l7,rfl,Ei,Ej,hb7⟩;have kL:Below (w.heap.size+1) wr w7:=uM.trans hb7;have qE:=ah (And.intro Ei Ej);clear Ei Ej hb7)|fail))
  have HQ7:=ah (HB.trans kL);clear kL d0 d1 d2 d3 d4 hp;go_wp2
  go_roundg g
  case measure=>omega
  refine⟨k+1,A7,c7,by rw[<-vP.out],rfl,by have:=HK.out;omega, ?_⟩
  rw[<-vP.out];exact⟨A7,c7,l7,rfl,qE.out.1,qE.out.2,HQ7.out⟩
 |zero=>
  obtain rfl:k=nn:=by omega
  obtain⟨M,hM⟩:=aj (2+k*L);have aeV:M<=322:=by omega
  rw[hM]at HO HL2 HE⊢
  have H9:=ah (show oN (w.heap.size+1) M w9 (.returned (.slice A' M c')) wr from⟨A',c',l2,rfl,HO.out,HL2.out,HB.out⟩)
  clear MK hk hM HO HL2;go_wp2_with fail
  go_loopg [3,5] tn (fun g v x wq=> ∃(j:Nat) (A':Option Addr) (c':Nat),v=.slice A' (M+((ts.take j).map fun t=>2+t.length).sum) c'/\x=.int .i64 j/\j+g=tn/\oN (w.heap.size+1) (M+((ts.take j).map fun t=>2+t.length).sum) w9 (.returned (.slice A' (M+((ts.take j).map fun t=>2+t.length).sum) c')) wq)
  case atStart=>exact⟨0,A',c',rfl,rfl,by omega,H9.out⟩
  obtain⟨j,A4,c4,rfl,rfl,hj,A5,c5,l5,he,ho,hl,hb⟩:=hrel;cases he
  have hsum:((ts.take j).map fun t=>2+t.length).sum<=1002*40:=by
   have h1:=U1 (l:=ts.take j) (fun t ht=>MI.out t (anU ht))
   have h2:(ts.take j).length<=40:=by rw[aeb];have:=aI.out;omega
   exact adg h1 (afZ _ h2)
  obtain⟨T,hT⟩: ∃T,((ts.take j).map fun t=>2+t.length).sum=T:=⟨_,rfl⟩
  rw[hT]at ho hl hsum⊢;have zK:=ah ho;have HL5:=ah hl;have bG:=ah hb;have HJ:=ah hj
  have HT:=ah hT;clear ho hl hb H9 d0 d1 d2 d3 d4 hT
  obtain⟨d0,d1,d2,d3,d4⟩:=Eb.out _ bG.out;cases gk with
  |succ g=>
   have hkn:j<tn:=by omega
   have dH:(j:Int)<tn:=by omega
   have pk:(0:Int)<=(j:Int):=by omega
   have tk:((j:Int)).toNat=j:=by omega
   obtain⟨p,o,x,rfl,hlt,hx,hp⟩:=(dS.out _ bG.out).2.cell hkn;rw[adX]at hx
   obtain⟨v0,hv,rfl⟩:=ae4.1 hx;unfold ST at hp
   obtain⟨zy,hzy⟩:=aj (⟨v0.toArray⟩:ByteArray);rw[hzy]at hp
   have hzl:zy.size=v0.length:=by rw[<-hzy];exact gq _
   have hyl:=MI.out v0 (adI hv)
   have hln:=acE (w.heap.size+1) A4 c4 (M+T) zy.size zy l5 _ zK.out HL5.out (by omega) rfl (by omega) (adg mg.out.1 bG.size)
   have Xv:=ah hln
   have jE:=ah (show M+T+2+zy.size=M+((ts.take (j+1)).map fun t=>2+t.length).sum by rw[abO hv,HT.out,hzl];omega)
   clear hkn hlt hx hv hln hsum hj hzy hzl hyl;go_wp2_with fail;refine Xv.mono ?_
   rintro e w7 ⟨A7,c7,l7,rfl,Ei,Ej,hb7⟩
   have qE:=ah (And.intro Ei (And.intro Ej (bG.trans hb7)))
   clear Ei Ej hb7 d0 d1 d2 d3 d4 hp;go_wp2
   go_roundg g
   case measure=>omega
   refine⟨j+1,A7,c7,by rw[<-jE.out],rfl,by have:=HJ.out;omega, ?_⟩
   rw[<-jE.out];exact⟨A7,c7,l7,rfl,qE.out.1,qE.out.2.1,qE.out.2.2⟩
  |zero=>
   obtain rfl:j=tn:=by omega
   have hfin:ts.take j=ts:=ado (by rw[aI.out];exact ac4 _)
   have Ec:=ah (show E=M+T by rw[HE.out,<-HT.out,hfin])
   have yA:=ah (bg.trans (bG.mono (aoc _)));clear hj hfin hsum;go_wp2;go_ret
   exact⟨A4,c4,by rw[Ec.out];rfl,yA.out⟩
theorem alp {ps:List Gr.P} {k:Nat} {p:Gr.P} (h:ps[k]?=some p):Gr.bT (ps.take (k+1))=Gr.bT (ps.take k)+Gr.mQ p.val:=by
 rw[ae3,h,J5];simp[Gr.bT]
theorem acG (B:Nat) (A:Option Addr) (c n:Nat) (ps:List Gr.P) (w:World) (h:bY w B 6 (aX w B) A ps) (hl:ps.length=n) (hok: ∀p∈ps,uF p) (h0: ∀p∈ps,ak.check p.val=0) (hB:B<=w.heap.size) (hn:n<=1073741824):
  Calls Tryz.prog 96 #[.slice A n c] w fun e w'=>e=.returned (.int .i64 (Gr.bT ps:Nat))/\Below w.heap.size w w':=by
 have HT:=ah (fun(k:Nat)=>show Gr.bT (ps.take k)<=41000*1073741824 from adg (U3 (fun p hp=>h0 p (anU hp))) (afZ _ (by rw[aeb,hl];omega)))
 have H:=ah h;have HL:=ah hl;have aV:=ah hok;have bf:=ah h0;have aK:=ah hB
 clear h hl hok h0 hB;go_enter Tryz.func96,Tryz.ntmps96;go_wp2_with fail
 go_loopg [3,4] n (fun q s x wr=> ∃k:Nat,s=.int .i64 (Gr.bT (ps.take k):Nat)/\x=.int .i64 k/\k+q=n/\Below w.heap.size w wr)
 case atStart=>exact⟨0,rfl,rfl,by omega,Below.refl _ _⟩
 obtain⟨k,rfl,rfl,hk,hb⟩:=hrel;have HB:=ah hb;clear hb;have hs:=HT.out k;cases gk with
 |zero=>
  obtain rfl:k=n:=by omega
  have hf:ps.take k=ps:=ado (by rw[HL.out];exact ac4 _)
  rw[hf];clear hk hs hf;go_wp2;go_ret;exact⟨rfl,HB.out⟩
 |succ q=>
  have hkn:k<n:=by omega
  have dH:(k:Int)<n:=by omega
  have pk:(0:Int)<=(k:Int):=by omega
  have tk:((k:Int)).toNat=k:=by omega
  obtain⟨p,hp⟩: ∃p,ps[k]?=some p:=⟨_,dF (by rw[HL.out];exact hkn)⟩
  have hm:=adI hp;have hBw:=HB.mono aK.out
  obtain⟨b,o,An,cn,At,ct,rfl,hlt,⟨-,p1,p2,p3,p4,p5⟩,ra,rb⟩:=(H.out.below hBw (aX.below hBw)).prop hp
  have hen:=alo B _ p.val wr (Df (cn:=cn) (ct:=ct) (aV.out p hm).val ra rb) (adg aK.out HB.size) (bf.out p hm)
  simp only[ST]at p3 hen;obtain⟨z2,hz2⟩:=aj (⟨p.val.text.toArray⟩:ByteArray)
  rw[hz2]at p3 hen;obtain⟨E,hE⟩:=aj (Gr.mQ p.val);obtain⟨S,hS⟩:=aj (Gr.bT (ps.take k))
  have hel:=U2 (bf.out p hm);rw[hE]at hen hel;rw[hS]at hs⊢
  have QV:(S:Int)<=41000*1073741824:=by omega
  have hEi:(E:Int)<=41000:=by omega
  have BR:=ah hen;have Nh:=ah (show Gr.bT (ps.take (k+1))=S+E by rw[alp hp,hS,hE])
  have HK:=ah hk;clear hkn hp hm hBw hlt ra rb hen hz2 hE hS hel hs hk;go_wp2_with fail
  refine BR.mono ?_;rintro e w2 ⟨A2,c2,rfl,hb2⟩;have HB2:=ah (HB.trans (hb2.mono HB.size))
  clear hb2 p1 p2 p3 p4 p5;go_wp2
  go_roundg q
  case measure=>omega
  exact⟨k+1,int_eq (by rw[Nh.out];omega),int_eq (by omega),by have:=HK.out;omega,HB2.out⟩
theorem acH {α:Type} {l:List α} {f:α->List Gr.P} {k:Nat} {a:α} (h:l[k]?=some a):Gr.bT ((l.take (k+1)).flatMap f)=Gr.bT ((l.take k).flatMap f)+Gr.bT (f a):=by
 rw[J3 h,J5]
theorem Qc {α:Type} (l:List α) (f:α->List Gr.P) (k:Nat):Gr.bT ((l.take k).flatMap f)<=Gr.bT (l.flatMap f):=by
 conv=>rhs;rw[<-aeN k l,afG,J5]
 omega
theorem alq (B:Nat) (u:Value) (g:Gr.G) (w:World) (h:jQ w B u g) (hB:B<=w.heap.size) (hck: ∀p∈Gr.dX g,ak.check p.val=0) (hlen:(Gr.dX g).length<=1073741824):
  Calls Tryz.prog 57 #[u] w fun e w'=>e=.returned (.int .i64 (Gr.weight g:Nat))/\Below w.heap.size w w':=by
 have hok:=h.ok;obtain⟨An,cn,Ar,cr,rfl,hN,hR⟩:=h.ex
 have hle:Gr.weight g<=41000*1073741824:=adg (U3 hck) (afZ _ hlen)
 have hsum:Gr.weight g=Gr.bT (g.nodes.flatMap Gr.N.props)+Gr.bT (g.aA.flatMap Gr.R.props):=by unfold Gr.weight Gr.dX;rw[J5]
 have hcn: ∀n∈g.nodes,∀p∈n.props,ak.check p.val=0:=fun n hn p hp=>hck p (anB _ (ae9.2 ⟨n,hn,hp⟩))
 have hcr: ∀n∈g.aA,∀p∈n.props,ak.check p.val=0:=fun n hn p hp=>hck p (aom _ (ae9.2 ⟨n,hn,hp⟩))
 obtain⟨nn,hnn⟩:=aj g.nodes.length;obtain⟨rn,hrn⟩:=aj g.aA.length;have hnl:=hok.nl
 have hrl:=hok.rl;rw[hnn]at hnl⊢;rw[hrn]at hrl⊢;have HN:=ah hN;have HR:=ah hR
 have aV:=ah hok;have qw:=ah hcn;have yh:=ah hcr;have aC:=ah hnn;have fP:=ah hrn
 have jE:=ah hsum;have jm:=ah hle;have aK:=ah hB
 have oC:=ah (au.new w 26 #[.slice An nn cn,.slice Ar rn cr])
 have HB0:=ah (show Below w.heap.size w (w.alloc (.cells #[.slice An nn cn,.slice Ar rn cr] 26)) from(Below.refl _ w).alloc (ac4 _) _)
 clear h hok hN hR hcn hcr hnn hrn hsum hle hB hck hlen;go_enter Tryz.func57,Tryz.ntmps57
 go_wp2_with fail
 go_loopg [3,4] nn (fun q s x wr=> ∃k:Nat,s=.int .i64 (Gr.bT ((g.nodes.take k).flatMap Gr.N.props):Nat)/\x=.int .i64 k/\k+q=nn/\Below w.heap.size w wr/\au wr w.heap.size 26 #[.slice An nn cn,.slice Ar rn cr])
 case atStart=>exact⟨0,rfl,rfl,by omega,HB0.out,oC.out⟩
 obtain⟨k,rfl,rfl,hk,hb,hbk⟩:=hrel;have HB:=ah hb;have Ep:=ah hbk
 obtain⟨c0,c1⟩:=cells2 hbk;have hs:=Qc g.nodes Gr.N.props k;clear hb hbk oC HB0
 cases gk with
 |zero=>
  obtain rfl:k=nn:=by omega
  have hf:g.nodes.take k=g.nodes:=ado (by rw[aC.out];exact ac4 _)
  rw[hf];obtain⟨T,hT⟩:=aj (Gr.bT (g.nodes.flatMap Gr.N.props));rw[hT]at jE⊢
  have aqd:T<=41000*1073741824:=by have:=jm.out;have:=jE.out;omega
  clear hk hs hf hT;go_wp2_with fail
  go_loopg [3,5] rn (fun q s x wr=> ∃m:Nat,s=.int .i64 ((T+Gr.bT ((g.aA.take m).flatMap Gr.R.props):Nat):Int)/\x=.int .i64 m/\m+q=rn/\Below w.heap.size w wr/\au wr w.heap.size 26 #[.slice An k cn,.slice Ar rn cr])
  case atStart=>exact⟨0,rfl,rfl,by omega,HB.out,Ep.out⟩
  obtain⟨m,rfl,rfl,hm,hb,hbk⟩:=hrel;have HB2:=ah hb;have ae6:=ah hbk;clear c0 c1
  obtain⟨c0,c1⟩:=cells2 hbk;have hs:=Qc g.aA Gr.R.props m;clear hb hbk HB Ep
  cases gk with
  |zero=>
   obtain rfl:m=rn:=by omega
   have hf:g.aA.take m=g.aA:=ado (by rw[fP.out];exact ac4 _)
   rw[hf];rw[hf]at hs;clear hm hf hs;go_wp2;go_ret;exact⟨by rw[jE.out];rfl,HB2.out⟩
  |succ q=>
   have hmn:m<rn:=by omega
   have aes:(m:Int)<rn:=by omega
   have pk:(0:Int)<=(m:Int):=by omega
   have tk:((m:Int)).toNat=m:=by omega
   obtain⟨r,hr⟩: ∃r,g.aA[m]?=some r:=⟨_,dF (by rw[fP.out];exact hmn)⟩
   have hmm:=adI hr;have hBw:=HB2.mono aK.out
   obtain⟨b,o,Ap,cp,rfl,hlt,⟨-,-,-,-,d4⟩,rp⟩:=(HR.below hBw (iP.below hBw)).rel hr
   obtain⟨pn,hpn⟩:=aj r.props.length
   have hen:=acG B Ap cp pn r.props _ rp hpn (aV.rs r hmm).ps (yh.out r hmm) (adg aK.out HB2.size) (hpn▸(aV.rs r hmm).pl)
   rw[hpn]at d4;obtain⟨E,hE⟩:=aj (Gr.bT r.props)
   obtain⟨S,hS⟩:=aj (Gr.bT ((g.aA.take m).flatMap Gr.R.props))
   have hs2:=Qc g.aA Gr.R.props (m+1);have hes:=acH (f:=Gr.R.props) hr;rw[hE]at hen hes
   rw[hS]at hs hes⊢;have hall:=jE.out;have hle2:=jm.out
   have hSE:T+S+E<=41000*1073741824:=by omega
   have QV:((T+S:Nat):Int)+(E:Int)<=41000*1073741824:=by omega
   obtain⟨Q,hQ⟩:=aj (T+S);rw[hQ]at QV⊢;have BR:=ah hen
   have Nh:=ah (show T+Gr.bT ((g.aA.take (m+1)).flatMap Gr.R.props)=Q+E by rw[hes];omega)
   have HK:=ah hm;clear hmn hr hmm hBw hlt rp hpn hen hE hS hs2 hes hall hle2 hSE hQ hs hm
   go_wp2_with fail;refine BR.mono ?_;rintro e w2 ⟨rfl,hb2⟩
   have HB3:=ah (HB2.trans (hb2.mono HB2.size));have Xw:=ah (ae6.below hb2 ae6.lt)
   clear hb2 d4 c0 c1;go_wp2
   go_roundg q
   case measure=>omega
   exact⟨m+1,int_eq (by rw[Nh.out];omega),int_eq (by omega),by have:=HK.out;omega,HB3.out,Xw.out⟩
 |succ q=>
  have hkn:k<nn:=by omega
  have dH:(k:Int)<nn:=by omega
  have pk:(0:Int)<=(k:Int):=by omega
  have tk:((k:Int)).toNat=k:=by omega
  obtain⟨r,hr⟩: ∃r,g.nodes[k]?=some r:=⟨_,dF (by rw[aC.out];exact hkn)⟩
  have hmm:=adI hr;have hBw:=HB.mono aK.out
  obtain⟨b,o,Al,cl,Ap,cp,rfl,hlt,⟨-,-,d2⟩,-,rp⟩:=(HN.below hBw (iO.below hBw)).node hr
  obtain⟨pn,hpn⟩:=aj r.props.length
  have hen:=acG B Ap cp pn r.props _ rp hpn (aV.ns r hmm).ps (qw.out r hmm) (adg aK.out HB.size) (hpn▸(aV.ns r hmm).pl)
  rw[hpn]at d2;obtain⟨E,hE⟩:=aj (Gr.bT r.props)
  obtain⟨S,hS⟩:=aj (Gr.bT ((g.nodes.take k).flatMap Gr.N.props))
  have hs2:=Qc g.nodes Gr.N.props (k+1);have hes:=acH (f:=Gr.N.props) hr
  rw[hE]at hen hes;rw[hS]at hs hes⊢;have hall:=jE.out;have hle2:=jm.out
  have QV:(S:Int)+(E:Int)<=41000*1073741824:=by omega
  have BR:=ah hen
  have Nh:=ah (show Gr.bT ((g.nodes.take (k+1)).flatMap Gr.N.props)=S+E from hes)
  have HK:=ah hk;clear hkn hr hmm hBw hlt rp hpn hen hE hS hs2 hes hall hle2 hs hk
  go_wp2_with fail;refine BR.mono ?_;rintro e w2 ⟨rfl,hb2⟩
  have HB3:=ah (HB.trans (hb2.mono HB.size));have Xw:=ah (Ep.below hb2 Ep.lt)
  clear hb2 d2 c0 c1;go_wp2
  go_roundg q
  case measure=>omega
  exact⟨k+1,int_eq (by rw[Nh.out];omega),int_eq (by omega),by have:=HK.out;omega,HB3.out,Xw.out⟩
end Go.Proofs.YtkdakckjafomhaaGreatDoor
