/- Contracts and plain laws,part 26. -/
import Derived.Test.YtanlehkalkafdaaGreatDoorUR24
import Derived.Test.YtanlehkalkafdaaGreatDoorUR25
set_option maxHeartbeats 64000000
set_option maxRecDepth 1000000
set_option linter.all false
namespace Go.Proofs.YtanlehkalkafdaaGreatDoor
open Go.RowKit
def numLen (k:Int):Nat:=if Cel.cbase k=1 then 1 else 8
theorem u64_of (n:Int): ∃x:Nat,IntKind.u64.wrap n=(x:Int)/\x<18446744073709551616:=⟨Cel.u64 n,u64_wrap n,Cel.u64_lt n⟩
theorem putNum_any (B bw n:Nat) (k m:Int) (w:World) (h:Wrt w B bw n) (hk:Cel.In64 k) (hn:n<=1073741000) (hB:B<=w.heap.size):
  Calls Tryz.prog 183 #[.pointer (some ⟨bw,0,none⟩),.int .i64 k,.int .i64 m] w fun e w'=>e=.returned (.tuple #[])/\Wrt w' B bw (n+numLen k)/\Below B w w':=by
 have HB:=ah (base_any k w hk);obtain⟨x,hx,hlt⟩:=u64_of m
 have H1:=ah (wnum_any B bw n 1 x w h (.inl rfl) hn hB hlt)
 have H8:=ah (wnum_any B bw n 8 x w h (.inr (.inr rfl)) hn hB hlt)
 obtain⟨b,hb⟩:=aj (Cel.cbase k)
 have HL:Hid (numLen k=if b=1 then 1 else 8):=by show numLen k=_;unfold numLen;rw[hb]
 rw[hb]at HB;clear h hk hn hB hlt hb;by_cases h1:b=1
 ·have t1:(b == 1)=true:=uw.2 h1
  have hl:=HL.out;rw[rY h1]at hl;rw[hl];clear h1 H8 hl
  go_enter Tryz.func183,Tryz.ntmps183;go_wp2_with fail;refine HB.mono ?_
  rintro e w1 ⟨rfl,rfl⟩;go_wp2_with fail;refine H1.mono ?_;rintro e w2 ⟨rfl,hw,hb⟩
  have HW:=ah hw;have HBB:=ah hb;clear hw hb;go_wp2
  refine bodyPost_ret (results_none rfl _ _ _) rfl ?_;exact⟨rfl,HW.out,HBB.out⟩
 have t1:(b == 1)=false:=rX.2 h1;have hl:=HL.out;rw[rU h1]at hl;rw[hl];clear h1 H1 hl
 go_enter Tryz.func183,Tryz.ntmps183;go_wp2_with fail;refine HB.mono ?_
 rintro e w1 ⟨rfl,rfl⟩;go_wp2_with fail;refine H8.mono ?_;rintro e w2 ⟨rfl,hw,hb⟩
 have HW:=ah hw;have HBB:=ah hb;clear hw hb;go_wp2
 go_end0
 exact⟨rfl,HW.out,HBB.out⟩
theorem putText_any (B bw n:Nat) (z:ByteArray) (w:World) (h:Wrt w B bw n) (hz:z.size<=1073741) (hn:n<=1073740000) (hB:B<=w.heap.size):
  Calls Tryz.prog 184 #[.pointer (some ⟨bw,0,none⟩),.string z] w fun e w'=>e=.returned (.tuple #[])/\Wrt w' B bw (n+(2+z.size))/\Below B w w':=by
 have hzi:(z.size:Int)<=1073741:=by omega
 have H2:=ah (wnum_any B bw n 2 z.size w h (.inr (.inl rfl)) (by omega) hB (by omega))
 have HS:=ah (fun(W:World) (hw:Wrt W B bw (n+2)) (hb:B<=W.heap.size)=>wstr_any B bw (n+2) z W hw hz (by omega) hb)
 have HBH:=ah hB;clear h hz hn hB;go_enter Tryz.func184,Tryz.ntmps184;go_wp2_with fail
 refine H2.mono ?_;rintro e w1 ⟨rfl,hw,hb⟩;have HC:=ah (HS.out w1 hw (rV HBH.out hb.size))
 have HBB:=ah hb;clear hw hb;go_wp2_with fail;refine HC.mono ?_;rintro e w2 ⟨rfl,hw,hb⟩
 have HW:=ah hw;have HB2:=ah (HBB.trans hb);clear hw hb;go_wp2
 go_end0
 exact⟨rfl,by rw[<-wV];exact HW.out,HB2.out⟩
theorem longs_each {l:List Cel.L} (h:Cel.longs l=false): ∀t∈l,t.length<=1000:=by
 intro t ht;unfold Cel.longs at h;rw[yX]at h;have:=h t ht;simp at this;exact this
theorem sum_take {l:List (List UInt8)} {k:Nat} {t:List UInt8} (h:l[k]?=some t):((l.take (k+1)).map fun t=>2+t.length).sum=((l.take k).map fun t=>2+t.length).sum+(2+t.length):=by
 rw[uM,h];simp
theorem sum_le {l:List (List UInt8)} (h: ∀t∈l,t.length<=1000):(l.map fun t=>2+t.length).sum<=1002*l.length:=by
 induction l with
 |nil=>simp
 |cons a l ih=>
  have:=ih fun t ht=>h t (by simp[ht])
  have:=h a (by simp)
  simp only[tV,vO,sS];omega
theorem encode_any (B:Nat) (u:Value) (v:Cel.V) (w:World) (h:VIn w B u v) (hB:B<=w.heap.size) (h0:Cel.check v=0):
  Calls Tryz.prog 132 #[u] w fun e w'=> ∃A c,e=.returned (.tuple #[.slice A (Gr.encLen v) c,.int .i64 0])/\Below w.heap.size w w':=by
 obtain⟨hp1,hp8,-,hp40,ht40,htl,hlg,-⟩:=Cel.check_parts h0
 have hch:=fun(W:World) (hb:Below w.heap.size w W)=>check_any B u v W (h.below (hb.mono hB)) (rV hB hb.size)
 rw[h0]at hch;obtain⟨A1,c1,A2,c2,rfl,ra1,ra2⟩:=h.ex;have HKI:=ah h.kin
 obtain⟨k0,n0,t0,ns,ts⟩:=v;simp only at hch ra1 ra2 hp1 hp8 hp40 ht40 htl hlg HKI⊢
 obtain⟨z,hz⟩:=aj (⟨t0.toArray⟩:ByteArray)
 have hzs:z.size=t0.length:=by rw[<-hz];exact size_list _
 rw[hz]at hch⊢;obtain⟨nn,hnn⟩:=aj ns.length;obtain⟨tn,htn⟩:=aj ts.length
 rw[hnn]at hch hp40 ra1⊢;rw[htn]at hch ht40 ra2⊢
 obtain⟨W1,hW1⟩:=aj (w.alloc (.cells #[.int .i64 k0,.int .i64 n0,.string z,.slice A1 nn c1,.slice A2 tn c2] 51))
 have hb1:Below w.heap.size w W1:=by rw[<-hW1];exact(Below.refl _ w).alloc (rM _) _
 have k1:Blk W1 w.heap.size 51 #[.int .i64 k0,.int .i64 n0,.string z,.slice A1 nn c1,.slice A2 tn c2]:=by rw[<-hW1];exact Blk.new _ _ _
 have HCH:=ah (hch W1 hb1);have HK1:=ah k1;have HB1:=ah hb1;have HW1:=ah hW1
 have HBW:=ah hB;have R1:=ah (ra1.below (hb1.mono hB))
 have R2:=ah (ra2.below (hb1.mono hB))
 have hE:Gr.encLen ⟨k0,n0,t0,ns,ts⟩=if k0<4 then 1+numLen k0 else if k0=4 then 3+z.size else 2+nn*numLen k0+(ts.map fun t=>2+t.length).sum:=by
  unfold Gr.encLen numLen Cel.cbase;simp only;by_cases h4:k0<4
  ·rw[rY h4,rY h4,rU (by omega: ¬4<k0)]
   by_cases h1:k0=1
   ·rw[rY h1,rY h1]
   rw[rU h1,rU h1]
  rw[rU h4,rU h4];by_cases h5:k0=4
  ·rw[rY h5,rY h5,hzs]
  rw[rU h5,rU h5,rY (show 4<k0 by omega),hnn]
  by_cases h6:k0=5
  ·rw[rY h6,rY (show k0 - 4=1 by omega)]
  rw[rU h6,rU (show¬k0 - 4=1 by omega)]
 obtain⟨E,hEE⟩:=aj (Gr.encLen ⟨k0,n0,t0,ns,ts⟩);rw[hEE]at hE⊢;have HE:=ah hE
 have HTS:=ah (longs_each hlg);have HTN:=ah htn;have HNN:=ah hnn
 have hzb:z.size<=1000:=by omega
 have HZB:=ah hzb;clear hch ra1 ra2 hb1 k1 hW1 h h0 hE hEE hz hzs hnn htn htl hlg hB
 go_enter Tryz.func132,Tryz.ntmps132
 go_upto_region 1 with fail
 rw[HW1.out];clear HW1;obtain⟨a0,a1,a2,a3,a4,-⟩:=val_cells HK1.out;go_wp2_with fail
 refine HCH.mono ?_;rintro e w2 ⟨rfl,hb2⟩;have HB2:=ah (bel_next HB1.out hb2)
 have HK2:=ah (HK1.below hb2 HK1.lt)
 have HR1:=ah (R1.out.below (hb2.mono (rV HBW.out HB1.size)))
 have HR2:=ah (R2.out.below (hb2.mono (rV HBW.out HB1.size)))
 clear a0 a1 a2 a3 a4 hb2 HCH R1 R2;go_wp2_with fail;refine(newWriter_any w2).mono ?_
 rintro e w3 ⟨rfl,hw3,hb3⟩;have hbl:w2.heap.size<=w3.heap.size:=hb3.size;have HB3:=ah hb3
 obtain⟨a0,a1,a2,a3,a4,-⟩:=val_cells (HK2.below hb3 HK2.lt)
 obtain⟨x0,hx0,hlt0⟩:=u64_of k0
 have HN:=ah (wnum_any w2.heap.size w2.heap.size 0 1 x0 w3 hw3 (.inl rfl) (by decide) hbl hlt0)
 clear hw3 hb3 hlt0;go_wp2_with fail;refine HN.mono ?_;rintro e w4 ⟨rfl,hw4,hb4⟩
 have HW4:=ah hw4;have HB4:=ah hb4;have hl4:=hb4.size
 have hl4':w2.heap.size<=w4.heap.size:=rV hbl hl4
 have HKV:=ah (fun(W:World) (hb:Below w2.heap.size w3 W)=>val_cells ((HK2.below HB3.out HK2.lt).below hb HK2.lt))
 clear a0 a1 a2 a3 a4 hw4 hb4 HN;obtain⟨a0,a1,a2,a3,a4,-⟩:=HKV.out w4 HB4.out
 have hBB:B<=w2.heap.size:=rV HBW.out HB2.size;by_cases h3:k0<=3
 ·have t3:decide (k0<=3)=true:=rQ h3
  have HPN:=ah (putNum_any w2.heap.size w2.heap.size (0+1) k0 n0 w4 HW4.out HKI.out (by decide) hl4')
  have hnle:numLen k0<=8:=by unfold numLen;split<;>omega
  have HFE:=ah (show E=0+1+numLen k0 by rw[HE.out,rY (by omega)])
  clear hx0;go_wp2_with fail;refine HPN.mono ?_;rintro e w5 ⟨rfl,hw5,hb5⟩;have HWX:=ah hw5
  have HB5:=ah (HB4.trans hb5);clear a0 a1 a2 a3 a4 hw5 hb5
  have HBY:=ah (wbytes_any w2.heap.size w2.heap.size (0+1+numLen k0) w5 HWX.out (by omega))
  have HBF:=ah (bel_next HB2.out (HB3.trans HB5.out));go_wp2_with fail;refine HBY.mono ?_
  rintro e w9 ⟨A',c',rfl,hb9⟩;have HB9:=ah (bel_next HBF.out hb9);clear hb9;go_wp2
  go_ret2
  exact⟨A',c',by rw[HFE.out];rfl,HB9.out⟩
 have t3:decide (k0<=3)=false:=rO h3;have h3':3<k0:=by omega
 by_cases h4:k0=4
 ·have t4:(k0 == 4)=true:=uw.2 h4
  have HPN:=ah (putText_any w2.heap.size w2.heap.size (0+1) z w4 HW4.out (by have:=HZB.out;omega) (by decide) hl4')
  have HFE:=ah (show E=0+1+(2+z.size) by rw[HE.out,rU (by omega),rY h4];omega)
  clear hx0 h4 h3;go_wp2_with fail;refine HPN.mono ?_;rintro e w5 ⟨rfl,hw5,hb5⟩
  have HWX:=ah hw5;have HB5:=ah (HB4.trans hb5);have hzz:=HZB.out
  clear a0 a1 a2 a3 a4 hw5 hb5
  have HBY:=ah (wbytes_any w2.heap.size w2.heap.size (0+1+(2+z.size)) w5 HWX.out (by omega))
  have HBF:=ah (bel_next HB2.out (HB3.trans HB5.out));go_wp2_with fail;refine HBY.mono ?_
  rintro e w9 ⟨A',c',rfl,hb9⟩;have HB9:=ah (bel_next HBF.out hb9);clear hb9;go_wp2
  go_ret2
  exact⟨A',c',by rw[HFE.out];rfl,HB9.out⟩
 have t4:(k0 == 4)=false:=rX.2 h4;have h5:4<k0:=by omega
 obtain⟨x1,hx1,hlt1⟩:=u64_of ((nn:Int)+(tn:Int))
 have HPN:=ah (wnum_any w2.heap.size w2.heap.size (0+1) 1 x1 w4 HW4.out (.inl rfl) (by decide) hl4' hlt1)
 have HFE:=ah (show E=0+1+1+nn*numLen k0+(ts.map fun t=>2+t.length).sum by rw[HE.out,rU (by omega),rU h4])
 obtain⟨L,hL⟩:=aj (numLen k0);have hnle:L<=8:=by rw[<-hL];unfold numLen;split<;>omega
 have HLL:=ah hL;rw[hL]at HFE;clear hx0 h4 h3 hlt1 hL;go_wp2_with fail
 refine HPN.mono ?_;rintro e w5 ⟨rfl,hw5,hb5⟩;have HW5:=ah hw5
 have HB5:=ah (HB4.trans hb5);clear a0 a1 a2 a3 a4 hw5 hb5 hx1 HPN
 obtain⟨a0,a1,a2,a3,a4,-⟩:=HKV.out w5 HB5.out;have hnni:(nn:Int)<=40:=by omega
 have htni:(tn:Int)<=40:=by omega
 go_wp2_with fail
 go_loopg [34] nn (fun g x wr=> ∃k:Nat,x=.int .i64 k/\k+g=nn/\Wrt wr w2.heap.size w2.heap.size (0+1+1+k*L)/\Below w2.heap.size w3 wr)
 case atStart=>exact⟨0,rfl,by omega,by simpa using HW5.out,HB5.out⟩
 obtain⟨k,rfl,hk,hwr,hbr⟩:=hrel;have HWR:=ah hwr;have HBR:=ah hbr;have HKK:=ah hk
 clear hwr hbr a0 a1 a2 a3 a4;obtain⟨a0,a1,a2,a3,a4,-⟩:=HKV.out wr HBR.out
 have hbl':w2.heap.size<=wr.heap.size:=rV hbl HBR.size
 have hkL:k*L<=40*8:=yh (by omega) hnle
 cases gk with
 |succ g=>
  have hkn:k<nn:=by omega
  have hknI:(k:Int)<nn:=by omega
  obtain⟨p,o,x,rfl,hpB,hx,hp⟩:=(HR1.below ((HB3.trans HBR.out).mono hBB)).cell hkn
  rw[tu]at hx;obtain⟨y,hy,rfl⟩:=uP.1 hx;unfold I64 at hp
  have HPN:=ah (putNum_any w2.heap.size w2.heap.size (0+1+1+k*L) k0 y wr HWR.out HKI.out (by omega) hbl')
  rw[HLL.out]at HPN;clear hx hy hk hkn hkL;go_wp2_with fail;refine HPN.mono ?_
  rintro e w6 ⟨rfl,hw6,hb6⟩;have HW6:=ah hw6;have HB6:=ah (HBR.trans hb6)
  clear hw6 hb6 a0 a1 a2 a3 a4 hp;go_wp2
  go_roundg g
  case measure=>omega
  exact⟨k+1,int_eq (by omega),by have:=HKK.out;omega,by rw[x9,<-wV];exact HW6.out,HB6.out⟩
 |zero=>
  obtain rfl:k=nn:=by omega
  clear hk;go_wp2_with fail
  go_loopg [47] tn (fun g x wx=> ∃j:Nat,x=.int .i64 j/\j+g=tn/\Wrt wx w2.heap.size w2.heap.size (0+1+1+k*L+((ts.take j).map fun t=>2+t.length).sum)/\Below w2.heap.size w3 wx)
  case atStart=>exact⟨0,rfl,by omega,by simpa using HWR.out,HBR.out⟩
  obtain⟨j,rfl,hj,hwr,hbr⟩:=hrel;rename_i wx;have HWR2:=ah hwr;have HBR2:=ah hbr
  have HJ:=ah hj;clear hwr hbr a0 a1 a2 a3 a4
  obtain⟨a0,a1,a2,a3,a4,-⟩:=HKV.out _ HBR2.out
  have hsum:((ts.take j).map fun t=>2+t.length).sum<=1002*40:=by
   have h1:=sum_le (l:=ts.take j) (fun t ht=>HTS.out t (xg ht))
   have h2:(ts.take j).length<=40:=by rw[tK];have:=HTN.out;omega
   exact rV h1 (wF _ h2)
  cases gk with
  |succ g=>
   have hjn:j<tn:=by omega
   have hjnI:(j:Int)<tn:=by omega
   obtain⟨p,o,x,rfl,hpB,hx,hp⟩:=(HR2.below ((HB3.trans HBR2.out).mono hBB)).cell hjn
   rw[tu]at hx;obtain⟨y,hy,rfl⟩:=uP.1 hx;unfold ST at hp
   obtain⟨zy,hzy⟩:=aj (⟨y.toArray⟩:ByteArray);rw[hzy]at hp
   have hzl:zy.size=y.length:=by rw[<-hzy];exact size_list _
   have hyl:=HTS.out y (sK hy)
   have HPN:=ah (putText_any w2.heap.size w2.heap.size _ zy _ HWR2.out (by omega) (by omega) (rV hbl HBR2.size))
   have HSM:=ah (sum_take hy);have HZL:=ah hzl;clear hx hy hj hjn hkL hsum hzy hzl hyl
   go_wp2_with fail;refine HPN.mono ?_;rintro e w6 ⟨rfl,hw6,hb6⟩;have HW6:=ah hw6
   have HB6:=ah (HBR2.trans hb6);clear hw6 hb6 a0 a1 a2 a3 a4 hp;go_wp2
   go_roundg g
   case measure=>omega
   exact⟨j+1,int_eq (by omega),by have:=HJ.out;omega,by rw[HSM.out,<-HZL.out,<-wV];exact HW6.out,HB6.out⟩
  |zero=>
   obtain rfl:j=tn:=by omega
   have hfin:ts.take j=ts:=sG (by rw[HTN.out];exact rM _)
   have hWX:=HWR2.out;rw[hfin]at hWX hsum;have HWX:=ah hWX;clear hj hfin hWX
   have HBY:=ah (wbytes_any w2.heap.size w2.heap.size _ _ HWX.out (by omega))
   have HBF:=ah (bel_next HB2.out (HB3.trans HBR2.out));go_wp2_with fail
   refine HBY.mono ?_;rintro e w9 ⟨A',c',rfl,hb9⟩;have HB9:=ah (bel_next HBF.out hb9)
   clear hb9;go_wp2
   go_ret2
   exact⟨A',c',by rw[HFE.out];rfl,HB9.out⟩
theorem vWeight_any (B:Nat) (u:Value) (v:Cel.V) (w:World) (h:VIn w B u v) (hB:B<=w.heap.size) (h0:Cel.check v=0):
  Calls Tryz.prog 92 #[u] w fun e w'=>e=.returned (.int .i64 (Gr.encLen v:Nat))/\Below w.heap.size w w':=by
 have he:=fun(W:World) (hb:Below w.heap.size w W)=>encode_any B u v W (h.below (hb.mono hB)) (rV hB hb.size) h0
 obtain⟨A1,c1,A2,c2,rfl,ra1,ra2⟩:=h.ex
 obtain⟨W1,hW1⟩:=aj (w.alloc (.cells #[.int .i64 v.kind,.int .i64 v.num,.string ⟨v.text.toArray⟩,.slice A1 v.nums.length c1,.slice A2 v.texts.length c2] 51))
 have hb1:Below w.heap.size w W1:=by rw[<-hW1];exact(Below.refl _ w).alloc (rM _) _
 have k1:Blk W1 w.heap.size 51 #[.int .i64 v.kind,.int .i64 v.num,.string ⟨v.text.toArray⟩,.slice A1 v.nums.length c1,.slice A2 v.texts.length c2]:=by rw[<-hW1];exact Blk.new _ _ _
 have HE:=ah (he W1 hb1);have HW1:=ah hW1;have HB1:=ah hb1
 obtain⟨a0,a1,a2,a3,a4,-⟩:=val_cells k1;clear he ra1 ra2 hW1 hb1 k1 h h0
 go_enter Tryz.func92,Tryz.ntmps92
 go_upto_region 1 with fail
 rw[HW1.out];clear HW1;go_wp2_with fail;refine HE.mono ?_;rintro e w2 ⟨A',c',rfl,hb2⟩
 have HB2:=ah (bel_next HB1.out hb2);clear hb2;go_wp2;go_ret;exact⟨rfl,HB2.out⟩
attribute [local go_sem] Oper.semAt_some
theorem propsF_any (u v:Value) (w:World):
  Calls Tryz.prog 48 #[.agg #[u,v]] w fun e w'=>e=.returned (.func (.func 93) #[] #[.pointer (some ⟨w.heap.size,0,none⟩)])/\w.alloc (.cells #[u,v] 25)=w':=by
 go_enter Tryz.func48,Tryz.ntmps48;go_wp2;go_ret;exact⟨rfl,rfl⟩
def wgtW1 (x:PIt) (W:World):World:=W.alloc (.cells x.cells 53)
theorem encLen_le {v:Cel.V} (h:Cel.check v=0):Gr.encLen v<=41000:=by
 obtain⟨-,-,-,h1,h2,h3,h4,-⟩:=Cel.check_parts h;have hs:=sum_le (longs_each h4)
 have hm:v.nums.length*(if v.kind=5 then 1 else 8)<=40*8:=yh h1 (by split<;>omega)
 have hs2:1002*v.texts.length<=1002*40:=wF _ h2;have hs3:=rV hs hs2;unfold Gr.encLen
 split
 ·split<;>omega
 split
 ·omega
 exact rV (Nat.add_le_add (Nat.add_le_add_left hm 2) hs3) (by decide)
theorem weightOf_app (a b:List Gr.P):Gr.weightOf (a++b)=Gr.weightOf a+Gr.weightOf b:=by unfold Gr.weightOf;simp
theorem weightOf_le {l:List Gr.P} (h: ∀p∈l,Cel.check p.val=0):Gr.weightOf l<=41000*l.length:=by
 unfold Gr.weightOf
 induction l with
 |nil=>simp
 |cons a l ih=>
  have:=ih fun p hp=>h p (by simp[hp])
  have:=encLen_le (h a (by simp))
  simp only[tV,vO,sS];omega
theorem sum_cell {V w':World} {b:Nat} {T:TypeId} {x:Value} (h:Blk V b T #[x]) (hb:Hid (Below V.heap.size V w')):w'.cell? ⟨b,0,none⟩=some x/\w'.frozen? ⟨b,0,none⟩=false:=by
 have k:=h.below hb.out h.lt;exact⟨k.cell 0,k.frozen 0⟩
theorem weight_any (B:Nat) (u:Value) (g:Gr.G) (w:World) (h:GIn w B u g) (hB:B<=w.heap.size) (hck: ∀p∈Gr.allProps g,Cel.check p.val=0) (hlen:(Gr.allProps g).length<=1073741824):
  Calls Tryz.prog 47 #[u] w fun e w'=>e=.returned (.int .i64 (Gr.weight g:Nat))/\Below w.heap.size w w':=by
 have hok:=h.ok;obtain⟨An,cn,Ar,cr,rfl,hN,hR⟩:=h.ex
 refine calls_of_wp_marks Tryz.func47 rfl ?_
 simp only[Tryz.ntmps47,xQ,sS,uO,Nat.reduceAdd,Nat.reduceSub,AZ,Ba,BO,xX,tY,uG]
 go_wp2_with (go_at_call 48;refine(propsF_any _ _ _).mono ?_;rintro e w' ⟨rfl,rfl⟩)
 obtain⟨W,hW⟩:=aj (((w.alloc (.cells #[.slice An g.nodes.length cn,.slice Ar g.rels.length cr] 25)).alloc (.cells #[.int .i64 0] 3)).alloc (.cells #[.slice An g.nodes.length cn,.slice Ar g.rels.length cr] 25))
 have hsz:W.heap.size=w.heap.size+3:=by rw[<-hW];simp
 have b1:Blk W (w.heap.size+1) 3 #[.int .i64 0]:=by
  rw[<-hW]
  have:=(Blk.new (w.alloc (.cells #[.slice An g.nodes.length cn,.slice Ar g.rels.length cr] 25)) 3 #[.int .i64 0]).alloc (.cells #[.slice An g.nodes.length cn,.slice Ar g.rels.length cr] 25)
  simpa using this
 have b2:Blk W (w.heap.size+1+1) 25 #[.slice An g.nodes.length cn,.slice Ar g.rels.length cr]:=by
  rw[<-hW]
  have:=Blk.new ((w.alloc (.cells #[.slice An g.nodes.length cn,.slice Ar g.rels.length cr] 25)).alloc (.cells #[.int .i64 0] 3)) 25 #[.slice An g.nodes.length cn,.slice Ar g.rels.length cr]
  simpa using this
 have bb:Below w.heap.size w W:=by rw[<-hW];exact(((Below.refl _ w).alloc (rM _) _).alloc (by simp) _).alloc (by simp;omega) _
 rw[hW];have HN:=ah hN;have HR:=ah hR;have HOK:=ah hok;have HCK:=ah hck
 obtain⟨nn,hnn⟩:=aj g.nodes.length;obtain⟨rn,hrn⟩:=aj g.rels.length
 clear hW hN hR hok hck;refine(wpIn_wide (n:=9)).1 ?_
 refine' wp_iter_a 165 (gf:=93) (lb:= #[.pointer (some ⟨w.heap.size+1+1,0,none⟩)]) rfl (enters_of Tryz.func93 (by kernel_rfl) rfl) (encs:=pEnc) (fun x=>rfl) (Pre:=fun _ _ _=>True) _ wgtW1 (fun x W=>(Below.refl _ W).alloc (rM _) _) (fun _ _ _ _ _ _ _ _=>trivial)
  (fun W1 hb hn=>props_iter 165 W.heap.size B (w.heap.size+1+1) g An Ar cn cr w HN.out HR.out HOK.out W1)
  (fun pre V=>Blk V (w.heap.size+1) 3 #[.int .i64 (Gr.weightOf (pre.map PIt.p):Nat)]/\Blk V (w.heap.size+1+1) 25 #[.slice An g.nodes.length cn,.slice Ar g.rels.length cr]/\Below w.heap.size w V)
  (fun c V=>False)
  ?hI ?hIx ?hAux ⟨b1,b2,bb⟩ ?assign ?body ?done ?stop
 case hI=>
  rintro pre A B' ⟨h1,h2,h3⟩ hs
  exact⟨hs.blk h1 (by decide),hs.blk h2 (by decide),h3.trans (hs.below (by omega) h3.size)⟩
 case hIx=>
  rintro c A B' h hs;exact h
 case hAux=>
  rintro pre V ⟨-,h2,h3⟩;exact⟨h3.mono hB,h2⟩
 case assign=>
  intro l x V K hK;simp only[pEnc,PIt.cells,ST]
  gi_wp2
  exact hK
 case body=>
  rintro l pre x W0 Va V ⟨h1,h2,h3⟩ hs1 hs2 hblk hvs - hstep hl hn0
  have hs':=hs1.trans hs2;obtain⟨p,An',cn',At',ct'⟩:=x;obtain⟨hpre,rd1,rd2⟩:=hstep
  have hmem:p∈Gr.allProps g:=hpre.subset (by simp)
  have hpok:POk p:=by
   unfold Gr.allProps at hmem
   rcases tZ.1 hmem with hm|hm
   ·obtain⟨n,hn,hp⟩:=uF.1 hm
    exact(HOK.ns n hn).ps p hp
   obtain⟨n,hn,hp⟩:=uF.1 hm;exact(HOK.rs n hn).ps p hp
  have hc0:=HCK.out p hmem;have g1:=hs'.blk h1 (show 3≠165 by decide)
  have g2:=hs'.blk h2 (show 25≠165 by decide)
  have g3:=h3.trans (hs'.below (by omega) h3.size)
  have gt:=hblk Va.heap.size 53 _ (Blk.new _ _ _)
  have hle:Gr.weightOf (pre.map PIt.p)<=41000*1073741824:=by
   have q:=(hpre.length_le);rw[sU,rP,uh]at q
   have q2:=weightOf_le (l:=pre.map PIt.p) (fun y hy=>HCK.out y (hpre.subset (by rw[uf];exact wZ _ hy)))
   rw[sU]at q2;refine rV q2 (wF _ (by omega))
  have hel:=encLen_le hc0
  have hvin:=(vin_of (cn:=cn') (ct:=ct') hpok.val rd1 rd2).below (g3.mono hB)
  have hW:=fun(V':World) (hv:Below V.heap.size V V')=>vWeight_any B _ p.val V' (hvin.below (hv.mono (rV hB g3.size))) (rV (rV hB g3.size) hv.size) hc0
  obtain⟨S,hS⟩:=aj (Gr.weightOf (pre.map PIt.p));obtain⟨E,hE⟩:=aj (Gr.encLen p.val)
  rw[hS]at g1 hle;rw[hE]at hW hel;have HS:=ah hS;have HE:=ah hE;have G1:=ah g1
  have G2:=ah g2;have G3:=ah g3;simp only[PIt.cells,ST]at gt hW
  obtain⟨t0,t1,t2,t3,t4,t5⟩:=cells6 gt;have c1:=g1.cell 0;simp only[sJ,sD]at c1
  have f1:=g1.frozen 0;have HW:=ah hW;have hSi:(S:Int)<=41000*1073741824:=by omega
  have hEi:(E:Int)<=41000:=by omega
  clear hs' hs1 hs2 hblk h1 h2 h3 hpre rd1 rd2 hmem hpok hc0 g1 g2 g3 gt hle hel hvin hW hS hE b1 b2 bb
  have hwr:IntKind.i64.wrap ((S:Int)+(E:Int))=(S:Int)+(E:Int):=IntWalk.i64_in _ (by omega)
  have hmx:Tryz.prog.follows .mixedOrders=true:=by kernel_rfl
  have hfw:Fence.wide.fn 92:=trivial
  gi_wp2
  gi_region_with_o (gi_at_call 92;refine(CallsIn.inRound l (callsIn_wide.2 (HW.out _ (by first|exact Below.refl _ _|exact Below.drew (Below.refl _ _))))).mono ?_;rintro e w' ⟨rfl,hb⟩;have HBV:Hid (Below V.heap.size V w'):=(by first|exact hb|exact(Below.drew (Below.refl _ _)).trans hb);obtain⟨c2,f2⟩:=sum_cell G1.out HBV;clear hb)
  all_goals
   refine⟨((KeepsOthers.of_grownBy (only_of_below HBV.out none) (fun j o e=>by cases e)).from _).trans ((KeepsOthers.setCell _ _ _).from _), ?_, ?_, ?_, ?_⟩
   ·refine(KeepT.of_grown (only_of_below HBV.out none) (fun g c fz e=>by cases e)).trans (KeepT.of_grown (grownBy_set w' ⟨w.heap.size+1,0,none⟩ _) (fun g c fz e hc=> ?_))
    cases e;have:=G1.out.below HBV.out G1.out.lt;unfold Blk at this
    rw[show w'.heap[w.heap.size+1]?=_ from hc]at this
    cases this
   ·have:=(G1.out.below HBV.out G1.out.lt).set_ 0 (.int .i64 ((S:Int)+(E:Int)))
    have hx:Gr.weightOf (List.map PIt.p [⟨p,An',cn',At',ct'⟩])=E:=by rw[<-HE.out];simp[Gr.weightOf]
    rw[uf,weightOf_app,HS.out,hx,vW];exact this
   ·exact(G2.out.below HBV.out G2.out.lt).far (by simp) _
   exact(G3.out.trans (HBV.mono G3.out.size)).setCell (by simp) _
 case done=>
  rintro D xs V hD hend ⟨h1,h2,h3⟩ hK;unfold PEnd at hend;rw[hend]at h1
  have c1:=h1.cell 0;have f1:=h1.frozen 0;simp only[sJ,sD]at c1;have H1:=ah h1
  have H3:=ah h3;have HKD:=ah hK;have HSZ:=ah hsz;have HDD:=ah hD
  clear h1 h2 h3 hend hK hsz hD b1 b2 bb;go_wp2
  have n1:D≠w.heap.size+1:=by have:=HSZ.out;have:=HDD.out;omega
  have hK2:(V.setCell ⟨w.heap.size+1,0,none⟩ (.int .i64 (Gr.weightOf (Gr.allProps g):Nat))).heap[D]?=some (.deferred (some [])):=by
   rw[Below.heap_setCell _ _ _ _ n1];exact HKD.out
  have B1:=blk_putObj (o:=.deferred none) hK2 (H1.set_ 0 (.int .i64 (Gr.weightOf (Gr.allProps g):Nat)))
  have q1:=B1.cell 0;simp at q1
  refine ret_mark hK2 (v:=.int .i64 (Gr.weightOf (Gr.allProps g):Nat)) (by simp[results,Tryz.results47,go_sem,q1]) ?_
  exact⟨rfl,below_putObj (H3.setCell (p:=⟨w.heap.size+1,0,none⟩) (by simp) _) (by have:=HSZ.out;have:=HDD.out;omega)⟩
 rintro D c V hD h hK;exact h.elim
end Go.Proofs.YtanlehkalkafdaaGreatDoor
namespace Go.Proofs.YtanlehkalkafdaaGreatDoor
open Go.RowKit Go.Maps
structure NmRel (w:World) (u v:Value) (l:List (List UInt8)) (V:World):Prop where
 box:Blk V w.heap.size 25 #[u,v]
 map:CntS V (w.heap.size+1) l
 var:Blk V (w.heap.size+1+1) 93 #[.map (some (w.heap.size+1))]
 bel:Below w.heap.size w V
theorem NmRel.below {w V V':World} {u v:Value} {l:List (List UInt8)} (h:NmRel w u v l V) (hb:Below V.heap.size V V'):NmRel w u v l V':=
 ⟨h.box.below hb h.box.lt,h.map.below hb,h.var.below hb h.var.lt,h.bel.trans (hb.mono h.bel.size)⟩
theorem NmRel.put {w V V':World} {u v:Value} {l l':List (List UInt8)} (h:NmRel w u v l V) (hc:CntS V' (w.heap.size+1) l') (hg:V.grownBy V' (some (w.heap.size+1))):NmRel w u v l' V':=
 ⟨h.box.grown hg (by simp),hc,h.var.grown hg (by simp),h.bel.grown hg h.bel.size (fun j e=>by cases e;omega)⟩
theorem NmRel.start (w:World) (u v:Value):NmRel w u v [] (((w.alloc (.cells #[u,v] 25)).alloc (.map #[] 0)).alloc (.cells #[.map (some (w.heap.size+1))] 93)):=by
 have h1:=CntS.made (w.alloc (.cells #[u,v] 25))
 have h2:=Blk.new ((w.alloc (.cells #[u,v] 25)).alloc (.map #[] 0)) 93 #[.map (some (w.heap.size+1))]
 rw[World.size_alloc]at h1;rw[World.size_alloc,World.size_alloc]at h2
 exact⟨((Blk.new w _ _).alloc _).alloc _,h1.below ((Below.refl _ _).alloc (rM _) _),h2,(((Below.refl _ w).alloc (rM _) _).alloc (by simp) _).alloc (by simp;omega) _⟩
theorem names1_any (B:Nat) (u:Value) (g:Gr.G) (w:World) (h:GIn w B u g) (hB:B<=w.heap.size) (hlen:(Gr.names1 g).length<=1073741824):
  Calls Tryz.prog 20 #[u,.int .i64 1] w fun e w'=> ∃A c,e=.returned (.slice A (Gr.dedup (Gr.names1 g)).length c)/\w'.ownsRow w.heap.size 9 1 (.slice A (Gr.dedup (Gr.names1 g)).length c) (Gr.dedup (Gr.names1 g)).length ((sortL (Gr.names1 g)).map ST)/\Below w.heap.size w w':=by
 have hok:=h.ok;obtain⟨An,cn,Ar,cr,rfl,hN,hR⟩:=h.ex;have hmm:= @run_makeMap Tryz.prog
 have HN:=ah hN;have HOK:=ah hok;obtain⟨nn,hnn⟩:=aj g.nodes.length;have hnl:=hok.nl
 rw[hnn]at hnl⊢;have HNN:=ah hnn;have HLN:=ah hlen;clear hN hR hok h hnn hlen
 have HST:=ah (NmRel.start w (.slice An nn cn) (.slice Ar g.rels.length cr))
 obtain⟨W1,hW1⟩:=aj (((w.alloc (.cells #[.slice An nn cn,.slice Ar g.rels.length cr] 25)).alloc (.map #[] 0)).alloc (.cells #[.map (some (w.heap.size+1))] 93))
 have HW1:=ah hW1;rw[hW1]at HST;clear hW1;obtain⟨c0,c1⟩:=cells2 HST.box
 go_enter Tryz.func20,Tryz.ntmps20
 go_upto_region 4 with fail
 rw[HW1.out];clear HW1;go_wp2_with fail
 go_loopg [20] nn (fun q x wr=> ∃k:Nat,x=.int .i64 k/\k+q=nn/\NmRel w (.slice An nn cn) (.slice Ar g.rels.length cr) ((g.nodes.take k).flatMap Gr.N.labels) wr)
 case atStart=>exact⟨0,rfl,by omega,HST.out⟩
 obtain⟨k,rfl,hk,hrl⟩:=hrel;have HRL:=ah hrl;have HK:=ah hk;clear hrl c0 c1;cases gk with
 |succ q=>
  have hkn:k<nn:=by omega
  have hknI:(k:Int)<nn:=by omega
  obtain⟨n,hn⟩: ∃n,g.nodes[k]?=some n:=⟨_,ay (by rw[HNN.out];exact hkn)⟩
  obtain⟨b,o,Al,cl,Ap,cp,rfl,hbB,⟨D0,D1,D2⟩,r1,-⟩:=HN.node hn;have hBW:=HRL.bel.mono hB
  have d0:=(hBW.cell (p:=⟨b,o+k*3,none⟩) hbB).trans D0
  have d1:=(hBW.cell (p:=⟨b,o+k*3+1,none⟩) hbB).trans D1
  have d2:=(hBW.cell (p:=⟨b,o+k*3+2,none⟩) hbB).trans D2
  obtain⟨ln,hln⟩:=aj n.labels.length;have hnok:=HOK.ns n (sK hn);have hll:=hnok.ll
  rw[hln]at hll d1 r1
  obtain⟨WN,hWN⟩:=aj (wr.alloc (.cells #[.int .i64 n.id,.slice Al ln cl,.slice Ap n.props.length cp] 48))
  have HWN:=ah hWN
  have HRN:=ah (show NmRel w _ _ _ WN by rw[<-hWN];exact HRL.below ((Below.refl _ _).alloc (rM _) _))
  have HK1:=ah (show Blk WN wr.heap.size 48 #[.int .i64 n.id,.slice Al ln cl,.slice Ap n.props.length cp] by rw[<-hWN];exact Blk.new _ _ _)
  have HRD:=ah r1;have HLS:=ah hnok.ls;have HLL:=ah hln
  have HFL:=ah (flatMap_take (f:=Gr.N.labels) hn)
  have HSP:=ah (flatMap_split (f:=Gr.N.labels) hn)
  clear hWN hbB D0 D1 D2 r1 hnok hn hln hk hkn hBW
  go_upto_region 7 with fail
  rw[HWN.out];clear d0 d1 d2;obtain⟨e0,e1,e2⟩:=cells3 HK1.out;go_wp2_with fail
  go_loopg [27] ln (fun q x wx=> ∃j:Nat,x=.int .i64 j/\j+q=ln/\NmRel w (.slice (some ⟨b,o,none⟩) nn cn) (.slice Ar g.rels.length cr) ((g.nodes.take k).flatMap Gr.N.labels++n.labels.take j) wx)
  case atStart=>exact⟨0,rfl,by omega,by simpa using HRN.out⟩
  obtain⟨j,rfl,hj,hrx⟩:=hrel;have HRX:=ah hrx;have HJ:=ah hj;clear hrx e0 e1 e2
  cases gk with
  |succ q'=>
   have hjn:j<ln:=by omega
   have hjnI:(j:Int)<ln:=by omega
   obtain⟨p,o',x,rfl,hpB,hx,hp⟩:=(HRD.below (HRX.bel.mono hB)).cell hjn;rw[tu]at hx
   obtain⟨y,hy,rfl⟩:=uP.1 hx;unfold ST at hp;obtain⟨z,hz⟩:=aj (⟨y.toArray⟩:ByteArray)
   rw[hz]at hp;have hzd:z.data.toList=y:=by rw[<-hz]
   have hzs:z.size<=maxLen:=by
    have:=HLS.out y (sK hy);rw[Lib.size_eq,hzd];unfold maxLen;omega
   obtain⟨L,hL⟩:=aj ((g.nodes.take k).flatMap Gr.N.labels++n.labels.take j)
   have hLl:L.length<1073741824:=by
    have h1:=HLN.out;have h2:=uo List.length HSP.out
    have h3:=uo List.length (list_split hy);simp only[rP,sS]at h2 h3
    unfold Gr.names1 at h1;rw[<-hL,rP];omega
   have HMC:=HRX;rw[hL]at HMC;have hlk:=HMC.map.look (t:=93) Tryz.underlying93 hzs
   obtain⟨N,hNc⟩:=aj (L.count z.data.toList);have hNle:N<=L.length:=by rw[<-hNc];exact vP
   rw[hNc]at hlk;have v0:=HMC.var.cell 0;simp only[sJ,sD]at v0;have HNC:=ah hNc
   have HZD:=ah hzd;have HZS:=ah hzs;have HLT:=ah (list_take hy);have HL:=ah hL
   have HLl:=ah hLl;have hNi:(N:Int)<=1073741824:=by omega
   clear hx hy hz hzd hzs hj hjn hNc hL hLl hNle
   go_wp2_with (at_mapUpdate;refine wpList_put_S _ rfl HMC.map (by have:=HLl.out;omega) (.tmp 31) (.tmp 32) (.tmp 34) 93 rfl Tryz.underlying93 rfl z HZS.out rfl (by rw[HNC.out];rfl) ?_)
   intro w1 hc1 hg1;have HR1:=ah (HMC.put hc1 hg1);clear hc1 hg1 hlk v0 hp;go_wp2
   go_roundg q'
   case measure=>omega
   exact⟨j+1,int_eq (by omega),by have:=HJ.out;omega,by rw[HLT.out,<-sV,HL.out,<-HZD.out];exact HR1.out⟩
  |zero=>
   obtain rfl:j=ln:=by omega
   have hfin:n.labels.take j=n.labels:=sG (by rw[HLL.out];exact rM _)
   have hrx:=HRX.out;rw[hfin,<-HFL.out]at hrx;have HRF:=ah hrx;clear hfin hrx hj;go_wp2
   go_roundg q
   case measure=>omega
   exact⟨k+1,int_eq (by omega),by have:=HK.out;omega,HRF.out⟩
 |zero=>
  obtain rfl:k=nn:=by omega
  have hfin:g.nodes.take k=g.nodes:=sG (by rw[HNN.out];exact rM _)
  have hrl:=HRL.out;rw[hfin]at hrl;have HRF:=ah hrl;have v0:=hrl.var.cell 0
  simp only[sJ,sD]at v0
  have HSO:=ah (sorted_any (w.heap.size+1) (Gr.names1 g) wr hrl.map HLN.out)
  clear hfin hrl hk;go_wp2_with fail;refine(keys_any _ _).mono ?_;rintro e w2 ⟨rfl,rfl⟩
  go_wp2_with fail;refine HSO.mono ?_;rintro e w3 ⟨A,c,rfl,ho,hb⟩;have HO:=ah ho
  have HB:=ah hb;clear ho hb v0;go_wp2;go_ret
  have hbb:=HRF.bel.alloc HRF.bel.size (.cells #[.map (some (w.heap.size+1))] 93)
  exact⟨A,c,rfl,own_base HO.out hbb.size,hbb.trans (HB.mono hbb.size)⟩
theorem names2_any (B:Nat) (u:Value) (g:Gr.G) (w:World) (h:GIn w B u g) (hB:B<=w.heap.size):
  Calls Tryz.prog 20 #[u,.int .i64 2] w fun e w'=> ∃A c,e=.returned (.slice A (Gr.dedup (Gr.names2 g)).length c)/\w'.ownsRow w.heap.size 9 1 (.slice A (Gr.dedup (Gr.names2 g)).length c) (Gr.dedup (Gr.names2 g)).length ((sortL (Gr.names2 g)).map ST)/\Below w.heap.size w w':=by
 have hok:=h.ok;obtain⟨An,cn,Ar,cr,rfl,hN,hR⟩:=h.ex;have hmm:= @run_makeMap Tryz.prog
 have HR:=ah hR;have HOK:=ah hok;obtain⟨rn,hrn⟩:=aj g.rels.length;have hrl:=hok.rl
 rw[hrn]at hrl⊢;have HRN:=ah hrn;clear hN hR hok h hrn
 have HST:=ah (NmRel.start w (.slice An g.nodes.length cn) (.slice Ar rn cr))
 obtain⟨W1,hW1⟩:=aj (((w.alloc (.cells #[.slice An g.nodes.length cn,.slice Ar rn cr] 25)).alloc (.map #[] 0)).alloc (.cells #[.map (some (w.heap.size+1))] 93))
 have HW1:=ah hW1;rw[hW1]at HST;clear hW1;obtain⟨c0,c1⟩:=cells2 HST.box
 go_enter Tryz.func20,Tryz.ntmps20
 go_upto_region 14 with fail
 rw[HW1.out];clear HW1;go_wp2_with fail
 go_loopg [42] rn (fun q x wr=> ∃k:Nat,x=.int .i64 k/\k+q=rn/\NmRel w (.slice An g.nodes.length cn) (.slice Ar rn cr) ((g.rels.take k).map Gr.R.type) wr)
 case atStart=>exact⟨0,rfl,by omega,HST.out⟩
 obtain⟨k,rfl,hk,hrl⟩:=hrel;have HRL:=ah hrl;have HK:=ah hk;clear hrl c0 c1;cases gk with
 |succ q=>
  have hkn:k<rn:=by omega
  have hknI:(k:Int)<rn:=by omega
  obtain⟨n,hn⟩: ∃n,g.rels[k]?=some n:=⟨_,ay (by rw[HRN.out];exact hkn)⟩
  obtain⟨b,o,Ap,cp,rfl,hbB,⟨D0,D1,D2,D3,D4⟩,-⟩:=HR.rel hn
  obtain⟨z,hz⟩:=aj (⟨n.type.toArray⟩:ByteArray);unfold ST at D1;rw[hz]at D1
  have hBW:=HRL.bel.mono hB;have d0:=(hBW.cell (p:=⟨b,o+k*5,none⟩) hbB).trans D0
  have d1:=(hBW.cell (p:=⟨b,o+k*5+1,none⟩) hbB).trans D1
  have d2:=(hBW.cell (p:=⟨b,o+k*5+2,none⟩) hbB).trans D2
  have d3:=(hBW.cell (p:=⟨b,o+k*5+3,none⟩) hbB).trans D3
  have d4:=(hBW.cell (p:=⟨b,o+k*5+4,none⟩) hbB).trans D4
  have hzd:z.data.toList=n.type:=by rw[<-hz]
  have hzs:z.size<=maxLen:=by
   have:=(HOK.rs n (sK hn)).tl;rw[Lib.size_eq,hzd];unfold maxLen;omega
  obtain⟨WN,hWN⟩:=aj (wr.alloc (.cells #[.int .i64 n.id,.string z,.int .i64 n.src,.int .i64 n.dst,.slice Ap n.props.length cp] 55))
  have HWN:=ah hWN
  have HRN2:=ah (show NmRel w _ _ _ WN by rw[<-hWN];exact HRL.below ((Below.refl _ _).alloc (rM _) _))
  have HK1:=ah (show Blk WN wr.heap.size 55 #[.int .i64 n.id,.string z,.int .i64 n.src,.int .i64 n.dst,.slice Ap n.props.length cp] by rw[<-hWN];exact Blk.new _ _ _)
  obtain⟨L,hL⟩:=aj ((g.rels.take k).map Gr.R.type)
  have hLl:L.length<1073741824:=by rw[<-hL,sU,tK];omega
  rw[hL]at HRN2;have hlk:=HRN2.map.look (t:=93) Tryz.underlying93 hzs
  obtain⟨N,hNc⟩:=aj (L.count z.data.toList);have hNle:N<=L.length:=by rw[<-hNc];exact vP
  rw[hNc]at hlk;have v0:=HRN2.var.cell 0;simp only[sJ,sD]at v0;have HNC:=ah hNc
  have HZD:=ah hzd;have HZS:=ah hzs;have HLT:=ah (list_take hn);have HL:=ah hL
  have HLl:=ah hLl;have hNi:(N:Int)<=1073741824:=by omega
  clear hWN hbB D0 D1 D2 D3 D4 hn hk hkn hBW hz hzd hzs hNc hL hLl hNle
  go_upto_region 17 with fail
  rw[HWN.out];clear d0 d1 d2 d3 d4;obtain⟨e0,e1,e2,e3,e4⟩:=cells5 HK1.out
  go_wp2_with (at_mapUpdate;refine wpList_put_S _ rfl HRN2.map (by have:=HLl.out;omega) (.tmp 46) (.tmp 48) (.tmp 50) 93 rfl Tryz.underlying93 rfl z HZS.out rfl (by rw[HNC.out];rfl) ?_)
  intro w1 hc1 hg1;have HR1:=ah (HRN2.put hc1 hg1);clear hc1 hg1 hlk v0 e0 e1 e2 e3 e4
  go_wp2
  go_roundg q
  case measure=>omega
  exact⟨k+1,int_eq (by omega),by have:=HK.out;omega,by rw[HLT.out,uf,HL.out];have h:=HR1.out;rw[HZD.out]at h;exact h⟩
 |zero=>
  obtain rfl:k=rn:=by omega
  have hfin:g.rels.take k=g.rels:=sG (by rw[HRN.out];exact rM _)
  have hrl:=HRL.out;rw[hfin]at hrl;have HRF:=ah hrl;have v0:=hrl.var.cell 0
  simp only[sJ,sD]at v0
  have HSO:=ah (sorted_any (w.heap.size+1) (Gr.names2 g) wr hrl.map (by unfold Gr.names2;rw[sU,HRN.out];omega))
  clear hfin hrl hk;go_wp2_with fail;refine(keys_any _ _).mono ?_;rintro e w2 ⟨rfl,rfl⟩
  go_wp2_with fail;refine HSO.mono ?_;rintro e w3 ⟨A,c,rfl,ho,hb⟩;have HO:=ah ho
  have HB:=ah hb;clear ho hb v0;go_wp2;go_ret
  have hbb:=HRF.bel.alloc HRF.bel.size (.cells #[.map (some (w.heap.size+1))] 93)
  exact⟨A,c,rfl,own_base HO.out hbb.size,hbb.trans (HB.mono hbb.size)⟩
attribute [local go_sem] Oper.semAt_some
theorem names3_any (B:Nat) (u:Value) (g:Gr.G) (w:World) (h:GIn w B u g) (hB:B<=w.heap.size) (hlen:(Gr.allProps g).length<=1073741823):
  Calls Tryz.prog 20 #[u,.int .i64 3] w fun e w'=> ∃A c,e=.returned (.slice A (Gr.dedup (Gr.names3 g)).length c)/\w'.ownsRow w.heap.size 9 1 (.slice A (Gr.dedup (Gr.names3 g)).length c) (Gr.dedup (Gr.names3 g)).length ((sortL (Gr.names3 g)).map ST)/\Below w.heap.size w w':=by
 have hok:=h.ok;obtain⟨An,cn,Ar,cr,rfl,hN,hR⟩:=h.ex;have hmm:= @run_makeMap Tryz.prog
 have HN:=ah hN;have HR:=ah hR;have HOK:=ah hok;have HLEN:=ah hlen
 obtain⟨nn,hnn⟩:=aj g.nodes.length;obtain⟨rn,hrn⟩:=aj g.rels.length
 have HIT:=ah (fun(T n₁ Bt:Nat) (W1:World)=>props_iter T n₁ B Bt g An Ar cn cr w hN hR hok W1)
 rw[hnn,hrn]at HIT;rw[hnn,hrn];clear hN hR hok h hlen
 have HST:=ah (NmRel.start w (.slice An nn cn) (.slice Ar rn cr))
 obtain⟨W0,hW0⟩:=aj (((w.alloc (.cells #[.slice An nn cn,.slice Ar rn cr] 25)).alloc (.map #[] 0)).alloc (.cells #[.map (some (w.heap.size+1))] 93))
 have hz0:W0.heap.size=w.heap.size+3:=by rw[<-hW0];simp
 have HW0:=ah hW0;rw[hW0]at HST;clear hW0;obtain⟨c0,c1⟩:=cells2 HST.box
 refine calls_of_wp_marks Tryz.func20 rfl ?_
 simp only[Tryz.ntmps20,xQ,sS,uO,Nat.reduceAdd,Nat.reduceSub,AZ,Ba,BO,xX,tY,uG]
 go_upto_region 20 with fail
 rw[HW0.out];clear HW0
 go_wp2_with (go_at_call 48;refine(propsF_any _ _ _).mono ?_;rintro e w' ⟨rfl,rfl⟩)
 obtain⟨W,hW⟩:=aj (W0.alloc (.cells #[.slice An nn cn,.slice Ar rn cr] 25))
 have hsz:W.heap.size=w.heap.size+4:=by rw[<-hW,World.size_alloc,hz0]
 have hrel0:NmRel w (.slice An nn cn) (.slice Ar rn cr) [] W:=by rw[<-hW];exact HST.below ((Below.refl _ _).alloc (rM _) _)
 have hcap0:Blk W W0.heap.size 25 #[.slice An nn cn,.slice Ar rn cr]:=by rw[<-hW];exact Blk.new _ _ _
 rw[hW];rw[hz0]at hcap0;clear hW c0 c1;refine(wpIn_wide (n:=9)).1 ?_
 refine' wp_iter_a 165 (gf:=93) (lb:= #[.pointer (some ⟨w.heap.size+3,0,none⟩)]) rfl (enters_of Tryz.func93 (by kernel_rfl) rfl) (encs:=pEnc) (fun x=>rfl) (Pre:=fun _ _ _=>True) _ wgtW1 (fun x W=>(Below.refl _ W).alloc (rM _) _) (fun _ _ _ _ _ _ _ _=>trivial)
  (fun W1 hb hn=>HIT.out 165 W.heap.size (w.heap.size+3) W1)
  (fun pre V=>NmRel w (.slice An nn cn) (.slice Ar rn cr) (pre.map fun x=>x.p.key) V/\Blk V (w.heap.size+3) 25 #[.slice An nn cn,.slice Ar rn cr])
  (fun c V=>False)
  ?hI ?hIx ?hAux ⟨hrel0,hcap0⟩ ?assign ?body ?done ?stop
 case hI=>
  rintro pre A B' ⟨h1,h2⟩ hs
  exact⟨⟨hs.blk h1.box (by decide),hs.cntS h1.map,hs.blk h1.var (by decide),h1.bel.trans (hs.below (by omega) h1.bel.size)⟩,hs.blk h2 (by decide)⟩
 case hIx=>
  rintro c A B' h hs;exact h
 case hAux=>
  rintro pre V ⟨h1,h2⟩;exact⟨h1.bel.mono hB,h2⟩
 case assign=>
  intro l x V K hK;simp only[pEnc,PIt.cells,ST]
  gi_wp2
  exact hK
 case body=>
  rintro l pre x W0 Va V ⟨h1,h2⟩ hs1 hs2 hblk hvs - hstep hl hn0;have hs':=hs1.trans hs2
  obtain⟨p,An',cn',At',ct'⟩:=x;obtain⟨hpre,rd1,rd2⟩:=hstep
  have hmem:p∈Gr.allProps g:=hpre.subset (by simp)
  have hpok:POk p:=by
   unfold Gr.allProps at hmem
   rcases tZ.1 hmem with hm|hm
   ·obtain⟨n,hn,hp⟩:=uF.1 hm
    exact(HOK.ns n hn).ps p hp
   obtain⟨n,hn,hp⟩:=uF.1 hm;exact(HOK.rs n hn).ps p hp
  have g1:NmRel w (.slice An nn cn) (.slice Ar rn cr) (pre.map fun x=>x.p.key) V:=⟨hs'.blk h1.box (by decide),hs'.cntS h1.map,hs'.blk h1.var (by decide),h1.bel.trans (hs'.below (by omega) h1.bel.size)⟩
  have g2:=hs'.blk h2 (show 25≠165 by decide)
  have gt:=hblk Va.heap.size 53 _ (Blk.new _ _ _)
  obtain⟨z,hz⟩:=aj (⟨p.key.toArray⟩:ByteArray);have hzd:z.data.toList=p.key:=by rw[<-hz]
  have hzs:z.size<=maxLen:=by
   have:=hpok.key;rw[Lib.size_eq,hzd];unfold maxLen;omega
  simp only[PIt.cells,ST,hz]at gt;obtain⟨t0,t1,t2,t3,t4,t5⟩:=cells6 gt
  obtain⟨L,hL⟩: ∃L,pre.map (fun x=>x.p.key)=L:=⟨_,rfl⟩
  have hLl:L.length<1073741824:=by
   have q:=hpre.length_le;have:=HLEN.out;rw[sU,rP,uh]at q;rw[<-hL,sU];omega
  rw[hL]at g1;have hlk:=g1.map.look (t:=93) Tryz.underlying93 hzs
  obtain⟨N,hNc⟩:=aj (L.count z.data.toList);have hNle:N<=L.length:=by rw[<-hNc];exact vP
  rw[hNc]at hlk;have v0:=g1.var.cell 0;simp only[sJ,sD]at v0;have HNC:=ah hNc
  have HZD:=ah hzd;have HZS:=ah hzs;have HL:=ah hL;have HLl:=ah hLl;have G1:=ah g1
  have G2:=ah g2;have hNi:(N:Int)<=1073741824:=by omega
  clear hs' hs1 hs2 hblk h1 h2 hpre rd1 rd2 hmem hpok g1 g2 gt hz hzd hzs hNc hNle hL hLl hrel0 hcap0
  gi_wp2_with (gi_at_mapUpdate;refine wpListIn_put_S _ rfl G1.out.map (by have:=HLl.out;omega) (.tmp 57) (.tmp 59) (.tmp 61) 93 rfl Tryz.underlying93 rfl z HZS.out rfl (by rw[HNC.out];rfl) ?_)
  intro w1 hc1 hg1;have HR1:=ah (G1.out.put hc1 hg1);have HG1:=ah hg1;clear hc1 hg1 hlk v0
  gi_wp2
  refine⟨KeepsFrom.of_grownBy HG1.out (fun j e=>by cases e;omega),KeepT.of_grown HG1.out (fun g' c fz e hc=> ?_), ?_,G2.out.grown HG1.out (by simp)⟩
  ·cases e
   obtain⟨n',D',-,⟨es,clock,hbm,-⟩,-⟩:=G1.out.map.ex;rw[hbm]at hc;cases hc
  rw[uf,HL.out];have h:=HR1.out;rw[HZD.out]at h;exact h
 case done=>
  rintro D xs V hD hend ⟨h1,h2⟩ hK
  have hnm:xs.map (fun x=>x.p.key)=Gr.names3 g:=by
   unfold PEnd at hend;unfold Gr.names3;rw[<-hend,vV];rfl
  rw[hnm]at h1;have HRF:=ah h1;have v0:=h1.var.cell 0;simp only[sJ,sD]at v0
  have HSO:=ah (sorted_any (w.heap.size+1) (Gr.names3 g) V h1.map (by unfold Gr.names3;rw[sU];have:=HLEN.out;omega))
  have HKD:=ah hK;have HDD:=ah hD;have HSZ:=ah hsz
  clear hnm h1 h2 hend hK hD hsz hz0 hrel0 hcap0;go_wp2_with fail
  refine(keys_any _ _).mono ?_;rintro e w2 ⟨rfl,rfl⟩;go_wp2_with fail;refine HSO.mono ?_
  rintro e w3 ⟨A,c,rfl,ho,hb⟩;have hDl:D<V.heap.size:=(sW.1 HKD.out).1
  have hK2:w3.heap[D]?=some (.deferred (some [])):=(hb.block D (by rw[World.size_alloc];omega)).trans ((Below.heap_alloc V _ D hDl).trans HKD.out)
  have HO:=ah ho;have HB:=ah hb;clear ho hb v0;go_wp2
  refine ret_mark hK2 (v:=.slice A (Gr.dedup (Gr.names3 g)).length c) (by simp[results,Tryz.results20,go_sem]) ?_
  have hbb:=HRF.bel.alloc HRF.bel.size (.cells #[.map (some (w.heap.size+1))] 93)
  exact⟨A,c,rfl,own_base (own_putObj hK2 HO.out) hbb.size,below_putObj (hbb.trans (HB.mono hbb.size)) (by have:=HSZ.out;have:=HDD.out;omega)⟩
 rintro D c V hD h hK;exact h.elim
end Go.Proofs.YtanlehkalkafdaaGreatDoor
