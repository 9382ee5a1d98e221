/- Contracts and plain laws,part 31. -/
import Derived.Test.YtoofbflplhbpbaaGreatDoorUO29
import Derived.Test.YtoofbflplhbpbaaGreatDoorUO30
set_option maxHeartbeats 64000000
set_option maxRecDepth 1000000
set_option linter.all false
namespace Go.Proofs.YtoofbflplhbpbaaGreatDoor
open Go.RowKit
def qL (k:Int):Nat:=if ak.lF k=1 then 1 else 8
theorem Tc (n:Int): ∃x:Nat,IntKind.u64.wrap n=(x:Int)/\x<18446744073709551616:=⟨ak.u64 n,Ik n,ak.AV n⟩
theorem aaQ (B bw n:Nat) (k m:Int) (w:World) (h:nC w B bw n) (hk:ak.In64 k) (hn:n<=1073741000) (hB:B<=w.heap.size):
  Calls Tryz.prog 245 #[.pointer (some ⟨bw,0,none⟩), .int .i64 k, .int .i64 m] w fun e w'=>e= .returned (.tuple #[])/\nC w' B bw (n+qL k)/\Below B w w':=by
 have HB:=ah (QC k w hk);obtain ⟨x,hx,hlt⟩:=Tc m
 have H1:=ah (I8 B bw n 1 x w h (.inl rfl) hn hB hlt)
 have H8:=ah (I8 B bw n 8 x w h (.inr (.inr rfl)) hn hB hlt)
 obtain ⟨b,hb⟩: ∃b,ak.lF k=b:=⟨_,rfl⟩
 have HL:Hid (qL k=if b=1 then 1 else 8):=by show qL k=_;unfold qL;rw [hb]
 rw [hb] at HB;clear h hk hn hB hlt hb;by_cases h1:b=1
 ·have t1:(b == 1)=true:=adp.2 h1
  have hl:=HL.out;rw [ab7 h1] at hl;rw [hl];clear h1 H8 hl
  go_enter Tryz.func245,Tryz.ntmps245;go_wp2_with fail;refine HB.out.mono ?_
  rintro e w1 ⟨rfl,rfl⟩;go_wp2_with fail;refine H1.out.mono ?_;rintro e w2 ⟨rfl,hw,hb⟩
  have HW:=ah hw;have aH:=ah hb;clear hw hb;go_wp2
  refine bodyPost_ret (results_none rfl _ _ _) rfl ?_;exact ⟨rfl,HW.out,aH.out⟩
 have t1:(b == 1)=false:=ab3.2 h1;have hl:=HL.out;rw [ab6 h1] at hl;rw [hl];clear h1 H1 hl
 go_enter Tryz.func245,Tryz.ntmps245;go_wp2_with fail;refine HB.out.mono ?_
 rintro e w1 ⟨rfl,rfl⟩;go_wp2_with fail;refine H8.out.mono ?_;rintro e w2 ⟨rfl,hw,hb⟩
 have HW:=ah hw;have aH:=ah hb;clear hw hb;go_wp2
 go_end0
 exact ⟨rfl,HW.out,aH.out⟩
theorem aaR (B bw n:Nat) (z:ByteArray) (w:World) (h:nC w B bw n) (hz:z.size<=1073741) (hn:n<=1073740000) (hB:B<=w.heap.size):
  Calls Tryz.prog 246 #[.pointer (some ⟨bw,0,none⟩), .string z] w fun e w'=>e= .returned (.tuple #[])/\nC w' B bw (n+(2+z.size))/\Below B w w':=by
 have hzi:(z.size:Int)<=1073741:=by omega
 have H2:=ah (I8 B bw n 2 z.size w h (.inr (.inl rfl)) (by omega) hB (by omega))
 have HS:=ah (fun (W:World) (hw:nC W B bw (n+2)) (hb:B<=W.heap.size)=>aiZ B bw (n+2) z W hw hz (by omega) hb)
 have wB:=ah hB;clear h hz hn hB;go_enter Tryz.func246,Tryz.ntmps246;go_wp2_with fail
 refine H2.out.mono ?_;rintro e w1 ⟨rfl,hw,hb⟩
 have HC:=ah (HS.out w1 hw (ab5 wB.out hb.size));have aH:=ah hb;clear hw hb
 go_wp2_with fail;refine HC.out.mono ?_;rintro e w2 ⟨rfl,hw,hb⟩;have HW:=ah hw
 have HB2:=ah (aH.out.trans hb);clear hw hb;go_wp2
 go_end0
 exact ⟨rfl,by rw [<-akR];exact HW.out,HB2.out⟩
theorem Td {l:List ak.L} (h:ak.jr l=false): ∀t∈l,t.length<=1000:=by
 intro t ht;unfold ak.jr at h;rw [am9] at h;have:=h t ht;simp at this;exact this
theorem aaS {l:List (List UInt8)} {k:Nat} {t:List UInt8} (h:l[k]?=some t):((l.take (k+1)).map fun t=>2+t.length).sum=((l.take k).map fun t=>2+t.length).sum+(2+t.length):=by
 rw [adZ,h];simp
theorem Tf {l:List (List UInt8)} (h: ∀t∈l,t.length<=1000):(l.map fun t=>2+t.length).sum<=1002*l.length:=by
 induction l with
 | nil=>simp
 | cons a l ih=>
  have:=ih fun t ht=>h t (by simp [ht])
  have:=h a (by simp)
  simp only [adA,alG,acd];omega
theorem ai1 (B:Nat) (u:Value) (v:ak.V) (w:World) (h:jR w B u v) (hB:B<=w.heap.size) (h0:ak.check v=0):
  Calls Tryz.prog 189 #[u] w fun e w'=> ∃A c,e= .returned (.tuple #[.slice A (Gr.kQ v) c, .int .i64 0])/\Below w.heap.size w w':=by
 obtain ⟨hp1,uP,-,CS,zM,htl,jF,-⟩:=ak.yU h0
 have hch:=fun (W:World) (hb:Below w.heap.size w W)=>check_any B u v W (h.below (hb.mono hB)) (ab5 hB hb.size)
 rw [h0] at hch;obtain ⟨A1,c1,A2,c2,rfl,cO,bP⟩:=h.ex;have VL:=ah h.kin
 obtain ⟨k0,n0,t0,ns,ts⟩:=v;simp only at hch cO bP hp1 uP CS zM htl jF VL⊢
 obtain ⟨z,hz⟩: ∃z:ByteArray,(⟨t0.toArray⟩:ByteArray)=z:=⟨_,rfl⟩
 have hzs:z.size=t0.length:=by rw [<-hz];exact bf _
 rw [hz] at hch⊢;obtain ⟨nn,hnn⟩: ∃n,ns.length=n:=⟨_,rfl⟩
 obtain ⟨tn,htn⟩: ∃n,ts.length=n:=⟨_,rfl⟩;rw [hnn] at hch CS cO⊢;rw [htn] at hch zM bP⊢
 obtain ⟨W1,hW1⟩: ∃W1,w.alloc (.cells #[.int .i64 k0, .int .i64 n0, .string z, .slice A1 nn c1, .slice A2 tn c2] 25)=W1:=⟨_,rfl⟩
 have hb1:Below w.heap.size w W1:=by rw [<-hW1];exact (Below.refl _ w).alloc (ab1 _) _
 have k1:aj W1 w.heap.size 25 #[.int .i64 k0, .int .i64 n0, .string z, .slice A1 nn c1, .slice A2 tn c2]:=by rw [<-hW1];exact aj.new _ _ _
 have yE:=ah (hch W1 hb1);have aT:=ah k1;have HB1:=ah hb1;have HW1:=ah hW1;have eP:=ah hB
 have R1:=ah (cO.below (hb1.mono hB));have R2:=ah (bP.below (hb1.mono hB))
 have hE:Gr.kQ ⟨k0,n0,t0,ns,ts⟩=if k0<4 then 1+qL k0 else if k0=4 then 3+z.size else 2+nn*qL k0+(ts.map fun t=>2+t.length).sum:=by
  unfold Gr.kQ qL ak.lF;simp only;by_cases h4:k0<4
  ·rw [ab7 h4,ab7 h4,ab6 (by omega: ¬4<k0)]
   by_cases h1:k0=1
   ·rw [ab7 h1,ab7 h1]
   rw [ab6 h1,ab6 h1]
  rw [ab6 h4,ab6 h4];by_cases h5:k0=4
  ·rw [ab7 h5,ab7 h5,hzs]
  rw [ab6 h5,ab6 h5,ab7 (show 4<k0 by omega),hnn]
  by_cases h6:k0=5
  ·rw [ab7 h6,ab7 (show k0 - 4=1 by omega)]
  rw [ab6 h6,ab6 (show¬k0 - 4=1 by omega)]
 obtain ⟨E,hEE⟩: ∃E,Gr.kQ ⟨k0,n0,t0,ns,ts⟩=E:=⟨_,rfl⟩;rw [hEE] at hE⊢;have HE:=ah hE
 have KL:=ah (Td jF);have aI:=ah htn;have ay:=ah hnn;have hzb:z.size<=1000:=by omega
 have HZB:=ah hzb;clear hch cO bP hb1 k1 hW1 h h0 hE hEE hz hzs hnn htn htl jF hB
 go_enter Tryz.func189,Tryz.ntmps189
 go_upto_region 1 with fail
 rw [HW1.out];clear HW1;obtain ⟨a0,a1,a2,a3,a4,-⟩:=gY aT.out;go_wp2_with fail
 refine yE.out.mono ?_;rintro e w2 ⟨rfl,hb2⟩;have HB2:=ah (oG HB1.out hb2)
 have aC:=ah (aT.out.below hb2 aT.out.lt)
 have HR1:=ah (R1.out.below (hb2.mono (ab5 eP.out HB1.out.size)))
 have HR2:=ah (R2.out.below (hb2.mono (ab5 eP.out HB1.out.size)))
 clear a0 a1 a2 a3 a4 hb2 yE R1 R2;go_wp2_with fail;refine (ai0 w2).mono ?_
 rintro e w3 ⟨rfl,hw3,hb3⟩;have hbl:w2.heap.size<=w3.heap.size:=hb3.size;have HB3:=ah hb3
 obtain ⟨a0,a1,a2,a3,a4,-⟩:=gY (aC.out.below hb3 aC.out.lt);obtain ⟨x0,hx0,hlt0⟩:=Tc k0
 have HN:=ah (I8 w2.heap.size w2.heap.size 0 1 x0 w3 hw3 (.inl rfl) (by decide) hbl hlt0)
 clear hw3 hb3 hlt0;go_wp2_with fail;refine HN.out.mono ?_;rintro e w4 ⟨rfl,hw4,hb4⟩
 have G8:=ah hw4;have HB4:=ah hb4;have hl4:=hb4.size
 have VN:w2.heap.size<=w4.heap.size:=ab5 hbl hl4
 have CU:=ah (fun (W:World) (hb:Below w2.heap.size w3 W)=>gY ((aC.out.below HB3.out aC.out.lt).below hb aC.out.lt))
 clear a0 a1 a2 a3 a4 hw4 hb4 HN;obtain ⟨a0,a1,a2,a3,a4,-⟩:=CU.out w4 HB4.out
 have hBB:B<=w2.heap.size:=ab5 eP.out HB2.out.size;by_cases h3:k0<=3
 ·have t3:decide (k0<=3)=true:=abW h3
  have fK:=ah (aaQ w2.heap.size w2.heap.size (0+1) k0 n0 w4 G8.out VL.out (by decide) VN)
  have adM:qL k0<=8:=by unfold qL;split<;> omega
  have CW:=ah (show E=0+1+qL k0 by rw [HE.out,ab7 (by omega)])
  clear hx0;go_wp2_with fail;refine fK.out.mono ?_;rintro e w5 ⟨rfl,hw5,hb5⟩
  have KN:=ah hw5;have bZ:=ah (HB4.out.trans hb5);clear a0 a1 a2 a3 a4 hw5 hb5
  have x8:=ah (S9 w2.heap.size w2.heap.size (0+1+qL k0) w5 KN.out (by omega))
  have kJ:=ah (oG HB2.out (HB3.out.trans bZ.out));go_wp2_with fail;refine x8.out.mono ?_
  rintro e w9 ⟨A',c',rfl,aF⟩;have dh:=ah (oG kJ.out aF);clear aF;go_wp2
  go_ret2
  exact ⟨A',c',by rw [CW.out];rfl,dh.out⟩
 have t3:decide (k0<=3)=false:=abX h3;have h3':3<k0:=by omega
 by_cases h4:k0=4
 ·have t4:(k0 == 4)=true:=adp.2 h4
  have fK:=ah (aaR w2.heap.size w2.heap.size (0+1) z w4 G8.out (by have:=HZB.out;omega) (by decide) VN)
  have CW:=ah (show E=0+1+(2+z.size) by rw [HE.out,ab6 (by omega),ab7 h4];omega)
  clear hx0 h4 h3;go_wp2_with fail;refine fK.out.mono ?_;rintro e w5 ⟨rfl,hw5,hb5⟩
  have KN:=ah hw5;have bZ:=ah (HB4.out.trans hb5);have hzz:=HZB.out
  clear a0 a1 a2 a3 a4 hw5 hb5
  have x8:=ah (S9 w2.heap.size w2.heap.size (0+1+(2+z.size)) w5 KN.out (by omega))
  have kJ:=ah (oG HB2.out (HB3.out.trans bZ.out));go_wp2_with fail;refine x8.out.mono ?_
  rintro e w9 ⟨A',c',rfl,aF⟩;have dh:=ah (oG kJ.out aF);clear aF;go_wp2
  go_ret2
  exact ⟨A',c',by rw [CW.out];rfl,dh.out⟩
 have t4:(k0 == 4)=false:=ab3.2 h4;have h5:4<k0:=by omega
 obtain ⟨x1,hx1,hlt1⟩:=Tc ((nn:Int)+(tn:Int))
 have fK:=ah (I8 w2.heap.size w2.heap.size (0+1) 1 x1 w4 G8.out (.inl rfl) (by decide) VN hlt1)
 have CW:=ah (show E=0+1+1+nn*qL k0+(ts.map fun t=>2+t.length).sum by rw [HE.out,ab6 (by omega),ab6 h4])
 obtain ⟨L,hL⟩: ∃L,qL k0=L:=⟨_,rfl⟩;have adM:L<=8:=by rw [<-hL];unfold qL;split<;> omega
 have dR:=ah hL;rw [hL] at CW;clear hx0 h4 h3 hlt1 hL;go_wp2_with fail
 refine fK.out.mono ?_;rintro e w5 ⟨rfl,hw5,hb5⟩;have yF:=ah hw5
 have bZ:=ah (HB4.out.trans hb5);clear a0 a1 a2 a3 a4 hw5 hb5 hx1 fK
 obtain ⟨a0,a1,a2,a3,a4,-⟩:=CU.out w5 bZ.out;have anS:(nn:Int)<=40:=by omega
 have anT:(tn:Int)<=40:=by omega
 go_wp2_with fail
 go_loopg [34] nn (fun g x wr=> ∃k:Nat,x= .int .i64 k/\k+g=nn/\nC wr w2.heap.size w2.heap.size (0+1+1+k*L)/\Below w2.heap.size w3 wr)
 case atStart=>exact ⟨0,rfl,by omega,by simpa using yF.out,bZ.out⟩
 obtain ⟨k,rfl,hk,hwr,hbr⟩:=hrel;have CX:=ah hwr;have Ep:=ah hbr;have HKK:=ah hk
 clear hwr hbr a0 a1 a2 a3 a4;obtain ⟨a0,a1,a2,a3,a4,-⟩:=CU.out wr Ep.out
 have al2:w2.heap.size<=wr.heap.size:=ab5 hbl Ep.out.size
 have KO:k*L<=40*8:=alj (by omega) adM
 cases gk with
 | succ g=>
  have hkn:k<nn:=by omega
  have dD:(k:Int)<nn:=by omega
  obtain ⟨p,o,x,rfl,pU,hx,hp⟩:=(HR1.out.below ((HB3.out.trans Ep.out).mono hBB)).cell hkn
  rw [acJ] at hx;obtain ⟨y,hy,rfl⟩:=ac7.1 hx;unfold I64 at hp
  have fK:=ah (aaQ w2.heap.size w2.heap.size (0+1+1+k*L) k0 y wr CX.out VL.out (by omega) al2)
  rw [dR.out] at fK;clear hx hy hk hkn KO;go_wp2_with fail;refine fK.out.mono ?_
  rintro e w6 ⟨rfl,hw6,hb6⟩;have JO:=ah hw6;have nD:=ah (Ep.out.trans hb6)
  clear hw6 hb6 a0 a1 a2 a3 a4 hp;go_wp2
  go_roundg g
  case measure=>omega
  exact ⟨k+1,int_eq (by omega),by have:=HKK.out;omega,by rw [alm,<-akR];exact JO.out,nD.out⟩
 | zero=>
  obtain rfl:k=nn:=by omega
  clear hk;go_wp2_with fail
  go_loopg [47] tn (fun g x wx=> ∃j:Nat,x= .int .i64 j/\j+g=tn/\nC wx w2.heap.size w2.heap.size (0+1+1+k*L+((ts.take j).map fun t=>2+t.length).sum)/\Below w2.heap.size w3 wx)
  case atStart=>exact ⟨0,rfl,by omega,by simpa using CX.out,Ep.out⟩
  obtain ⟨j,rfl,hj,hwr,hbr⟩:=hrel;rename_i wx;have adN:=ah hwr;have KP:=ah hbr
  have HJ:=ah hj;clear hwr hbr a0 a1 a2 a3 a4;obtain ⟨a0,a1,a2,a3,a4,-⟩:=CU.out _ KP.out
  have hsum:((ts.take j).map fun t=>2+t.length).sum<=1002*40:=by
   have h1:=Tf (l:=ts.take j) (fun t ht=>KL.out t (ak9 ht))
   have h2:(ts.take j).length<=40:=by rw [acW];have:=aI.out;omega
   exact ab5 h1 (akV _ h2)
  cases gk with
  | succ g=>
   have hjn:j<tn:=by omega
   have DU:(j:Int)<tn:=by omega
   obtain ⟨p,o,x,rfl,pU,hx,hp⟩:=(HR2.out.below ((HB3.out.trans KP.out).mono hBB)).cell hjn
   rw [acJ] at hx;obtain ⟨y,hy,rfl⟩:=ac7.1 hx;unfold ST at hp
   obtain ⟨zy,hzy⟩: ∃z:ByteArray,(⟨y.toArray⟩:ByteArray)=z:=⟨_,rfl⟩;rw [hzy] at hp
   have hzl:zy.size=y.length:=by rw [<-hzy];exact bf _
   have hyl:=KL.out y (acf hy)
   have fK:=ah (aaR w2.heap.size w2.heap.size _ zy _ adN.out (by omega) (by omega) (ab5 hbl KP.out.size))
   have iJ:=ah (aaS hy);have lN:=ah hzl;clear hx hy hj hjn KO hsum hzy hzl hyl
   go_wp2_with fail;refine fK.out.mono ?_;rintro e w6 ⟨rfl,hw6,hb6⟩;have JO:=ah hw6
   have nD:=ah (KP.out.trans hb6);clear hw6 hb6 a0 a1 a2 a3 a4 hp;go_wp2
   go_roundg g
   case measure=>omega
   exact ⟨j+1,int_eq (by omega),by have:=HJ.out;omega,by rw [iJ.out,<-lN.out,<-akR];exact JO.out,nD.out⟩
  | zero=>
   obtain rfl:j=tn:=by omega
   have hfin:ts.take j=ts:=acg (by rw [aI.out];exact ab1 _)
   have VO:=adN.out;rw [hfin] at VO hsum;have KN:=ah VO;clear hj hfin VO
   have x8:=ah (S9 w2.heap.size w2.heap.size _ _ KN.out (by omega))
   have kJ:=ah (oG HB2.out (HB3.out.trans KP.out));go_wp2_with fail;refine x8.out.mono ?_
   rintro e w9 ⟨A',c',rfl,aF⟩;have dh:=ah (oG kJ.out aF);clear aF;go_wp2
   go_ret2
   exact ⟨A',c',by rw [CW.out];rfl,dh.out⟩
theorem ai2 (B:Nat) (u:Value) (v:ak.V) (w:World) (h:jR w B u v) (hB:B<=w.heap.size) (h0:ak.check v=0):
  Calls Tryz.prog 139 #[u] w fun e w'=>e= .returned (.int .i64 (Gr.kQ v:Nat))/\Below w.heap.size w w':=by
 have he:=fun (W:World) (hb:Below w.heap.size w W)=>ai1 B u v W (h.below (hb.mono hB)) (ab5 hB hb.size) h0
 obtain ⟨A1,c1,A2,c2,rfl,cO,bP⟩:=h.ex
 obtain ⟨W1,hW1⟩: ∃W1,w.alloc (.cells #[.int .i64 v.kind, .int .i64 v.num, .string ⟨v.text.toArray⟩, .slice A1 v.nums.length c1, .slice A2 v.texts.length c2] 25)=W1:=⟨_,rfl⟩
 have hb1:Below w.heap.size w W1:=by rw [<-hW1];exact (Below.refl _ w).alloc (ab1 _) _
 have k1:aj W1 w.heap.size 25 #[.int .i64 v.kind, .int .i64 v.num, .string ⟨v.text.toArray⟩, .slice A1 v.nums.length c1, .slice A2 v.texts.length c2]:=by rw [<-hW1];exact aj.new _ _ _
 have HE:=ah (he W1 hb1);have HW1:=ah hW1;have HB1:=ah hb1
 obtain ⟨a0,a1,a2,a3,a4,-⟩:=gY k1;clear he cO bP hW1 hb1 k1 h h0
 go_enter Tryz.func139,Tryz.ntmps139
 go_upto_region 1 with fail
 rw [HW1.out];clear HW1;go_wp2_with fail;refine HE.out.mono ?_;rintro e w2 ⟨A',c',rfl,hb2⟩
 have HB2:=ah (oG HB1.out hb2);clear hb2;go_wp2;go_ret;exact ⟨rfl,HB2.out⟩
attribute [local go_sem] Oper.semAt_some
theorem aaT (u v:Value) (w:World):
  Calls Tryz.prog 136 #[.agg #[u,v]] w fun e w'=>e= .returned (.func (.func 186) #[] #[.pointer (some ⟨w.heap.size,0,none⟩)])/\w.alloc (.cells #[u,v] 39)=w':=by
 go_enter Tryz.func136,Tryz.ntmps136;go_wp2;go_ret;exact ⟨rfl,rfl⟩
def adO (x:fP) (W:World):World:=W.alloc (.cells x.cells 61)
theorem NH {v:ak.V} (h:ak.check v=0):Gr.kQ v<=41000:=by
 obtain ⟨-,-,-,h1,h2,h3,h4,-⟩:=ak.yU h;have hs:=Tf (Td h4)
 have hm:v.nums.length*(if v.kind=5 then 1 else 8)<=40*8:=alj h1 (by split<;> omega)
 have hs2:1002*v.texts.length<=1002*40:=akV _ h2;have hs3:=ab5 hs hs2;unfold Gr.kQ
 split
 ·split<;> omega
 split
 ·omega
 exact ab5 (Nat.add_le_add (Nat.add_le_add_left hm 2) hs3) (by decide)
theorem I9 (a b:List Gr.P):Gr.bM (a ++ b)=Gr.bM a+Gr.bM b:=by unfold Gr.bM;simp
theorem Ja {l:List Gr.P} (h: ∀p∈l,ak.check p.val=0):Gr.bM l<=41000*l.length:=by
 unfold Gr.bM
 induction l with
 | nil=>simp
 | cons a l ih=>
  have:=ih fun p hp=>h p (by simp [hp])
  have:=NH (h a (by simp))
  simp only [adA,alG,acd];omega
theorem ai3 {V w':World} {b:Nat} {T:TypeId} {x:Value} (h:aj V b T #[x]) (hb:Hid (Below V.heap.size V w')):w'.cell? ⟨b,0,none⟩=some x/\w'.frozen? ⟨b,0,none⟩=false:=by
 have k:=h.below hb.out h.lt;exact ⟨k.cell 0,k.frozen 0⟩
theorem ai4 (B:Nat) (u:Value) (g:Gr.G) (w:World) (h:fE w B u g) (hB:B<=w.heap.size) (hck: ∀p∈Gr.fH g,ak.check p.val=0) (hlen:(Gr.fH g).length<=1073741824):
  Calls Tryz.prog 80 #[u] w fun e w'=>e= .returned (.int .i64 (Gr.weight g:Nat))/\Below w.heap.size w w':=by
 have hok:=h.ok;obtain ⟨An,cn,Ar,cr,rfl,hN,hR⟩:=h.ex;refine Rx Tryz.func80 rfl ?_
 simp only [Tryz.ntmps80,amb,acd,adk,Nat.reduceAdd,Nat.reduceSub,anX,aoe,aoO,alO,adI,adV]
 go_wp2_with (go_at_call 136;refine (aaT _ _ _).mono ?_;rintro e w' ⟨rfl,rfl⟩)
 obtain ⟨W,hW⟩: ∃W,((w.alloc (.cells #[.slice An g.nodes.length cn, .slice Ar g.au.length cr] 39)).alloc (.cells #[.int .i64 0] 3)).alloc (.cells #[.slice An g.nodes.length cn, .slice Ar g.au.length cr] 39)=W:=⟨_,rfl⟩
 have hsz:W.heap.size=w.heap.size+3:=by rw [<-hW];simp
 have b1:aj W (w.heap.size+1) 3 #[.int .i64 0]:=by
  rw [<-hW]
  have:=(aj.new (w.alloc (.cells #[.slice An g.nodes.length cn, .slice Ar g.au.length cr] 39)) 3 #[.int .i64 0]).alloc (.cells #[.slice An g.nodes.length cn, .slice Ar g.au.length cr] 39)
  simpa using this
 have b2:aj W (w.heap.size+1+1) 39 #[.slice An g.nodes.length cn, .slice Ar g.au.length cr]:=by
  rw [<-hW]
  have:=aj.new ((w.alloc (.cells #[.slice An g.nodes.length cn, .slice Ar g.au.length cr] 39)).alloc (.cells #[.int .i64 0] 3)) 39 #[.slice An g.nodes.length cn, .slice Ar g.au.length cr]
  simpa using this
 have bb:Below w.heap.size w W:=by rw [<-hW];exact (((Below.refl _ w).alloc (ab1 _) _).alloc (by simp) _).alloc (by simp;omega) _
 rw [hW];have HN:=ah hN;have HR:=ah hR;have aK:=ah hok;have aU:=ah hck
 obtain ⟨nn,hnn⟩: ∃n,g.nodes.length=n:=⟨_,rfl⟩;obtain ⟨rn,hrn⟩: ∃n,g.au.length=n:=⟨_,rfl⟩
 clear hW hN hR hok hck;refine (wpIn_wide (n:=9)).1 ?_
 refine' RD 207 (gf:=186) (lb:= #[.pointer (some ⟨w.heap.size+1+1,0,none⟩)]) rfl (enters_of Tryz.func186 (by kernel_rfl) rfl) (encs:=DF) (fun x=>rfl) (Pre:=fun _ _ _=>True) _ adO (fun x W=>(Below.refl _ W).alloc (ab1 _) _) (fun _ _ _ _ _ _ _ _=>trivial)
  (fun W1 hb hn=>aaP 207 W.heap.size B (w.heap.size+1+1) g An Ar cn cr w HN.out HR.out aK.out W1)
  (fun pre V=>aj V (w.heap.size+1) 3 #[.int .i64 (Gr.bM (pre.map fP.p):Nat)]/\aj V (w.heap.size+1+1) 39 #[.slice An g.nodes.length cn, .slice Ar g.au.length cr]/\Below w.heap.size w V)
  (fun c V=>False)
  ?hI ?hIx ?hAux ⟨b1,b2,bb⟩ ?assign ?body ?done ?stop
 case hI=>
  rintro pre A B' ⟨h1,h2,h3⟩ hs
  exact ⟨hs.blk h1 (by decide),hs.blk h2 (by decide),h3.trans (hs.below (by omega) h3.size)⟩
 case hIx=>
  rintro c A B' h hs;exact h
 case hAux=>
  rintro pre V ⟨-,h2,h3⟩;exact ⟨h3.mono hB,h2⟩
 case assign=>
  intro l x V K hK;simp only [DF,fP.cells,ST]
  gi_wp2
  exact hK
 case body=>
  rintro l pre x W0 Va V ⟨h1,h2,h3⟩ hs1 hs2 hblk hvs - hstep hl hn0
  have hs':=hs1.trans hs2;obtain ⟨p,mg,kM,mD,kN⟩:=x;obtain ⟨hpre,OZ,O1⟩:=hstep
  have hmem:p∈Gr.fH g:=hpre.subset (by simp)
  have sU:pV p:=by
   unfold Gr.fH at hmem
   rcases acU.1 hmem with hm | hm
   ·obtain ⟨n,hn,hp⟩:=ad1.1 hm
    exact (aK.out.ns n hn).ps p hp
   obtain ⟨n,hn,hp⟩:=ad1.1 hm;exact (aK.out.rs n hn).ps p hp
  have hc0:=aU.out p hmem;have g1:=hs'.blk h1 (show 3≠207 by decide)
  have g2:=hs'.blk h2 (show 39≠207 by decide)
  have g3:=h3.trans (hs'.below (by omega) h3.size)
  have gt:=hblk Va.heap.size 61 _ (aj.new _ _ _)
  have hle:Gr.bM (pre.map fP.p)<=41000*1073741824:=by
   have q:=(hpre.length_le);rw [ace,dA,adX] at q
   have q2:=Ja (l:=pre.map fP.p) (fun y hy=>aU.out y (hpre.subset (by rw [ade];exact akY _ hy)))
   rw [ace] at q2;refine ab5 q2 (akV _ (by omega))
  have hel:=NH hc0;have uK:=(xP (cn:=kM) (ct:=kN) sU.val OZ O1).below (g3.mono hB)
  have hW:=fun (V':World) (hv:Below V.heap.size V V')=>ai2 B _ p.val V' (uK.below (hv.mono (ab5 hB g3.size))) (ab5 (ab5 hB g3.size) hv.size) hc0
  obtain ⟨S,hS⟩: ∃S,Gr.bM (pre.map fP.p)=S:=⟨_,rfl⟩
  obtain ⟨E,hE⟩: ∃E,Gr.kQ p.val=E:=⟨_,rfl⟩;rw [hS] at g1 hle;rw [hE] at hW hel
  have HS:=ah hS;have HE:=ah hE;have G1:=ah g1;have G2:=ah g2;have G3:=ah g3
  simp only [fP.cells,ST] at gt hW;obtain ⟨t0,t1,t2,t3,t4,t5⟩:=yg gt;have c1:=g1.cell 0
  simp only [acz,ab9] at c1;have f1:=g1.frozen 0;have HW:=ah hW
  have O4:(S:Int)<=41000*1073741824:=by omega
  have hEi:(E:Int)<=41000:=by omega
  clear hs' hs1 hs2 hblk h1 h2 h3 hpre OZ O1 hmem sU hc0 g1 g2 g3 gt hle hel uK hW hS hE b1 b2 bb
  have hwr:IntKind.i64.wrap ((S:Int)+(E:Int))=(S:Int)+(E:Int):=IntWalk.i64_in _ (by omega)
  have hmx:Tryz.prog.follows .mixedOrders=true:=by kernel_rfl
  have hfw:Fence.wide.fn 139:=trivial
  gi_wp2
  gi_region_with_o (gi_at_call 139;refine (CallsIn.inRound l (callsIn_wide.2 (HW.out _ (by first | exact Below.refl _ _ | exact Below.drew (Below.refl _ _))))).mono ?_;rintro e w' ⟨rfl,hb⟩;have Es:Hid (Below V.heap.size V w'):=(by first | exact hb | exact (Below.drew (Below.refl _ _)).trans hb);obtain ⟨c2,f2⟩:=ai3 G1.out Es;clear hb)
  all_goals
   refine ⟨((KeepsOthers.of_grownBy (iT Es.out none) (fun j o e=>by cases e)).from _).trans ((KeepsOthers.setCell _ _ _).from _), ?_, ?_, ?_, ?_⟩
   ·refine (jO.vN (iT Es.out none) (fun g c fz e=>by cases e)).trans (jO.vN (grownBy_set w' ⟨w.heap.size+1,0,none⟩ _) (fun g c fz e hc=> ?_))
    cases e;have:=G1.out.below Es.out G1.out.lt;unfold aj at this
    rw [show w'.heap[w.heap.size+1]?=_ from hc] at this
    cases this
   ·have:=(G1.out.below Es.out G1.out.lt).aS 0 (.int .i64 ((S:Int)+(E:Int)))
    have hx:Gr.bM (List.map fP.p [⟨p,mg,kM,mD,kN⟩])=E:=by rw [<-HE.out];simp [Gr.bM]
    rw [ade,I9,HS.out,hx,akB];exact this
   ·exact (G2.out.below Es.out G2.out.lt).far (by simp) _
   exact (G3.out.trans (Es.out.mono G3.out.size)).setCell (by simp) _
 case done=>
  rintro D xs V hD hend ⟨h1,h2,h3⟩ hK;unfold SX at hend;rw [hend] at h1;have c1:=h1.cell 0
  have f1:=h1.frozen 0;simp only [acz,ab9] at c1;have H1:=ah h1;have H3:=ah h3
  have wF:=ah hK;have dL:=ah hsz;have ku:=ah hD;clear h1 h2 h3 hend hK hsz hD b1 b2 bb
  go_wp2;have n1:D≠w.heap.size+1:=by have:=dL.out;have:=ku.out;omega
  have hK2:(V.setCell ⟨w.heap.size+1,0,none⟩ (.int .i64 (Gr.bM (Gr.fH g):Nat))).heap[D]?=some (.deferred (some [])):=by
   rw [Below.heap_setCell _ _ _ _ n1];exact wF.out
  have B1:=Dw (o:= .deferred none) hK2 (H1.out.aS 0 (.int .i64 (Gr.bM (Gr.fH g):Nat)))
  have q1:=B1.cell 0;simp at q1
  refine Nk hK2 (v:= .int .i64 (Gr.bM (Gr.fH g):Nat)) (by simp [results,Tryz.results80,go_sem,q1]) ?_
  exact ⟨rfl,Nj (H3.out.setCell (p:=⟨w.heap.size+1,0,none⟩) (by simp) _) (by have:=dL.out;have:=ku.out;omega)⟩
 rintro D c V hD h hK;exact h.elim
end Go.Proofs.YtoofbflplhbpbaaGreatDoor
namespace Go.Proofs.YtoofbflplhbpbaaGreatDoor
open Go.RowKit Go.Maps
structure lI (w:World) (u v:Value) (l:List (List UInt8)) (V:World):Prop where
 box:aj V w.heap.size 39 #[u,v]
 map:gK V (w.heap.size+1) l
 var:aj V (w.heap.size+1+1) 150 #[.map (some (w.heap.size+1))]
 bel:Below w.heap.size w V
theorem lI.below {w V V':World} {u v:Value} {l:List (List UInt8)} (h:lI w u v l V) (hb:Below V.heap.size V V'):lI w u v l V':=
 ⟨h.box.below hb h.box.lt,h.map.below hb,h.var.below hb h.var.lt,h.bel.trans (hb.mono h.bel.size)⟩
theorem lI.put {w V V':World} {u v:Value} {l l':List (List UInt8)} (h:lI w u v l V) (hc:gK V' (w.heap.size+1) l') (hg:V.grownBy V' (some (w.heap.size+1))):lI w u v l' V':=
 ⟨h.box.grown hg (by simp),hc,h.var.grown hg (by simp),h.bel.grown hg h.bel.size (fun j e=>by cases e;omega)⟩
theorem lI.start (w:World) (u v:Value):lI w u v [] (((w.alloc (.cells #[u,v] 39)).alloc (.map #[] 0)).alloc (.cells #[.map (some (w.heap.size+1))] 150)):=by
 have h1:=gK.made (w.alloc (.cells #[u,v] 39))
 have h2:=aj.new ((w.alloc (.cells #[u,v] 39)).alloc (.map #[] 0)) 150 #[.map (some (w.heap.size+1))]
 rw [World.size_alloc] at h1;rw [World.size_alloc,World.size_alloc] at h2
 exact ⟨((aj.new w _ _).alloc _).alloc _,h1.below ((Below.refl _ _).alloc (ab1 _) _),h2,(((Below.refl _ w).alloc (ab1 _) _).alloc (by simp) _).alloc (by simp;omega) _⟩
theorem ai5 (B:Nat) (u:Value) (g:Gr.G) (w:World) (h:fE w B u g) (hB:B<=w.heap.size) (hlen:(Gr.oL g).length<=1073741824):
  Calls Tryz.prog 79 #[u, .int .i64 1] w fun e w'=> ∃A c,e= .returned (.slice A (Gr.dedup (Gr.oL g)).length c)/\w'.ownsRow w.heap.size 9 1 (.slice A (Gr.dedup (Gr.oL g)).length c) (Gr.dedup (Gr.oL g)).length ((sortL (Gr.oL g)).map ST)/\Below w.heap.size w w':=by
 have hok:=h.ok;obtain ⟨An,cn,Ar,cr,rfl,hN,hR⟩:=h.ex;have hmm:= @run_makeMap Tryz.prog
 have HN:=ah hN;have aK:=ah hok;obtain ⟨nn,hnn⟩: ∃n,g.nodes.length=n:=⟨_,rfl⟩
 have hnl:=hok.nl;rw [hnn] at hnl⊢;have ay:=ah hnn;have dF:=ah hlen
 clear hN hR hok h hnn hlen
 have HST:=ah (lI.start w (.slice An nn cn) (.slice Ar g.au.length cr))
 obtain ⟨W1,hW1⟩: ∃W1,((w.alloc (.cells #[.slice An nn cn, .slice Ar g.au.length cr] 39)).alloc (.map #[] 0)).alloc (.cells #[.map (some (w.heap.size+1))] 150)=W1:=⟨_,rfl⟩
 have HW1:=ah hW1;rw [hW1] at HST;clear hW1;obtain ⟨c0,c1⟩:=cells2 HST.out.box
 go_enter Tryz.func79,Tryz.ntmps79
 go_upto_region 4 with fail
 rw [HW1.out];clear HW1;go_wp2_with fail
 go_loopg [20] nn (fun q x wr=> ∃k:Nat,x= .int .i64 k/\k+q=nn/\lI w (.slice An nn cn) (.slice Ar g.au.length cr) ((g.nodes.take k).flatMap Gr.N.labels) wr)
 case atStart=>exact ⟨0,rfl,by omega,HST.out⟩
 obtain ⟨k,rfl,hk,hrl⟩:=hrel;have aW:=ah hrl;have HK:=ah hk;clear hrl c0 c1;cases gk with
 | succ q=>
  have hkn:k<nn:=by omega
  have dD:(k:Int)<nn:=by omega
  obtain ⟨n,hn⟩: ∃n,g.nodes[k]?=some n:=⟨_,ab2 (by rw [ay.out];exact hkn)⟩
  obtain ⟨b,o,Al,cl,Ap,cp,rfl,hbB,⟨D0,D1,D2⟩,r1,-⟩:=HN.out.node hn
  have hBW:=aW.out.bel.mono hB;have d0:=(hBW.cell (p:=⟨b,o+k*3,none⟩) hbB).trans D0
  have d1:=(hBW.cell (p:=⟨b,o+k*3+1,none⟩) hbB).trans D1
  have d2:=(hBW.cell (p:=⟨b,o+k*3+2,none⟩) hbB).trans D2
  obtain ⟨ln,hln⟩: ∃m,n.labels.length=m:=⟨_,rfl⟩;have jG:=aK.out.ns n (acf hn)
  have hll:=jG.ll;rw [hln] at hll d1 r1
  obtain ⟨WN,aX⟩: ∃W,wr.alloc (.cells #[.int .i64 n.id, .slice Al ln cl, .slice Ap n.props.length cp] 59)=W:=⟨_,rfl⟩
  have eG:=ah aX
  have gy:=ah (show lI w _ _ _ WN by rw [<-aX];exact aW.out.below ((Below.refl _ _).alloc (ab1 _) _))
  have aT:=ah (show aj WN wr.heap.size 59 #[.int .i64 n.id, .slice Al ln cl, .slice Ap n.props.length cp] by rw [<-aX];exact aj.new _ _ _)
  have lU:=ah r1;have HLS:=ah jG.ls;have dR:=ah hln;have qP:=ah (I7 (f:=Gr.N.labels) hn)
  have iF:=ah (NG (f:=Gr.N.labels) hn);clear aX hbB D0 D1 D2 r1 jG hn hln hk hkn hBW
  go_upto_region 7 with fail
  rw [eG.out];clear d0 d1 d2;obtain ⟨e0,e1,e2⟩:=cells3 aT.out;go_wp2_with fail
  go_loopg [27] ln (fun q x wx=> ∃j:Nat,x= .int .i64 j/\j+q=ln/\lI w (.slice (some ⟨b,o,none⟩) nn cn) (.slice Ar g.au.length cr) ((g.nodes.take k).flatMap Gr.N.labels ++ n.labels.take j) wx)
  case atStart=>exact ⟨0,rfl,by omega,by simpa using gy.out⟩
  obtain ⟨j,rfl,hj,hrx⟩:=hrel;have VP:=ah hrx;have HJ:=ah hj;clear hrx e0 e1 e2
  cases gk with
  | succ q'=>
   have hjn:j<ln:=by omega
   have DU:(j:Int)<ln:=by omega
   obtain ⟨p,o',x,rfl,pU,hx,hp⟩:=(lU.out.below (VP.out.bel.mono hB)).cell hjn
   rw [acJ] at hx;obtain ⟨y,hy,rfl⟩:=ac7.1 hx;unfold ST at hp
   obtain ⟨z,hz⟩: ∃z:ByteArray,(⟨y.toArray⟩:ByteArray)=z:=⟨_,rfl⟩;rw [hz] at hp
   have hzd:z.data.toList=y:=by rw [<-hz]
   have hzs:z.size<=maxLen:=by
    have:=HLS.out y (acf hy);rw [Lib.size_eq,hzd];unfold maxLen;omega
   obtain ⟨L,hL⟩: ∃L,(g.nodes.take k).flatMap Gr.N.labels ++ n.labels.take j=L:=⟨_,rfl⟩
   have kK:L.length<1073741824:=by
    have h1:=dF.out;have h2:=ab8 List.length iF.out;have h3:=ab8 List.length (aaN hy)
    simp only [dA,acd] at h2 h3;unfold Gr.oL at h1;rw [<-hL,dA];omega
   have KQ:=VP;rw [hL] at KQ;have hlk:=KQ.out.map.look (t:=150) Tryz.underlying150 hzs
   obtain ⟨N,hNc⟩: ∃N,L.count z.data.toList=N:=⟨_,rfl⟩
   have qj:N<=L.length:=by rw [<-hNc];exact akp
   rw [hNc] at hlk;have v0:=KQ.out.var.cell 0;simp only [acz,ab9] at v0;have jc:=ah hNc
   have HZD:=ah hzd;have lJ:=ah hzs;have aB:=ah (FV hy);have HL:=ah hL;have tC:=ah kK
   have hNi:(N:Int)<=1073741824:=by omega
   clear hx hy hz hzd hzs hj hjn hNc hL kK qj
   go_wp2_with (at_mapUpdate;refine Nv _ rfl KQ.out.map (by have:=tC.out;omega) (.tmp 31) (.tmp 32) (.tmp 34) 150 rfl Tryz.underlying150 rfl z lJ.out rfl (by rw [jc.out];rfl) ?_)
   intro w1 hc1 hg1;have HR1:=ah (KQ.out.put hc1 hg1);clear hc1 hg1 hlk v0 hp;go_wp2
   go_roundg q'
   case measure=>omega
   exact ⟨j+1,int_eq (by omega),by have:=HJ.out;omega,by rw [aB.out,<-acF,HL.out,<-HZD.out];exact HR1.out⟩
  | zero=>
   obtain rfl:j=ln:=by omega
   have hfin:n.labels.take j=n.labels:=acg (by rw [dR.out];exact ab1 _)
   have hrx:=VP.out;rw [hfin,<-qP.out] at hrx;have ny:=ah hrx;clear hfin hrx hj;go_wp2
   go_roundg q
   case measure=>omega
   exact ⟨k+1,int_eq (by omega),by have:=HK.out;omega,ny.out⟩
 | zero=>
  obtain rfl:k=nn:=by omega
  have hfin:g.nodes.take k=g.nodes:=acg (by rw [ay.out];exact ab1 _)
  have hrl:=aW.out;rw [hfin] at hrl;have ny:=ah hrl;have v0:=hrl.var.cell 0
  simp only [acz,ab9] at v0;have Ej:=ah (SS (w.heap.size+1) (Gr.oL g) wr hrl.map dF.out)
  clear hfin hrl hk;go_wp2_with fail;refine (SQ _ _).mono ?_;rintro e w2 ⟨rfl,rfl⟩
  go_wp2_with fail;refine Ej.out.mono ?_;rintro e w3 ⟨A,c,rfl,ho,hb⟩;have HO:=ah ho
  have HB:=ah hb;clear ho hb v0;go_wp2;go_ret
  have hbb:=ny.out.bel.alloc ny.out.bel.size (.cells #[.map (some (w.heap.size+1))] 150)
  exact ⟨A,c,rfl,own_base HO.out hbb.size,hbb.trans (HB.out.mono hbb.size)⟩
theorem ai6 (B:Nat) (u:Value) (g:Gr.G) (w:World) (h:fE w B u g) (hB:B<=w.heap.size):
  Calls Tryz.prog 79 #[u, .int .i64 2] w fun e w'=> ∃A c,e= .returned (.slice A (Gr.dedup (Gr.names2 g)).length c)/\w'.ownsRow w.heap.size 9 1 (.slice A (Gr.dedup (Gr.names2 g)).length c) (Gr.dedup (Gr.names2 g)).length ((sortL (Gr.names2 g)).map ST)/\Below w.heap.size w w':=by
 have hok:=h.ok;obtain ⟨An,cn,Ar,cr,rfl,hN,hR⟩:=h.ex;have hmm:= @run_makeMap Tryz.prog
 have HR:=ah hR;have aK:=ah hok;obtain ⟨rn,hrn⟩: ∃n,g.au.length=n:=⟨_,rfl⟩
 have hrl:=hok.rl;rw [hrn] at hrl⊢;have gy:=ah hrn;clear hN hR hok h hrn
 have HST:=ah (lI.start w (.slice An g.nodes.length cn) (.slice Ar rn cr))
 obtain ⟨W1,hW1⟩: ∃W1,((w.alloc (.cells #[.slice An g.nodes.length cn, .slice Ar rn cr] 39)).alloc (.map #[] 0)).alloc (.cells #[.map (some (w.heap.size+1))] 150)=W1:=⟨_,rfl⟩
 have HW1:=ah hW1;rw [hW1] at HST;clear hW1;obtain ⟨c0,c1⟩:=cells2 HST.out.box
 go_enter Tryz.func79,Tryz.ntmps79
 go_upto_region 14 with fail
 rw [HW1.out];clear HW1;go_wp2_with fail
 go_loopg [42] rn (fun q x wr=> ∃k:Nat,x= .int .i64 k/\k+q=rn/\lI w (.slice An g.nodes.length cn) (.slice Ar rn cr) ((g.au.take k).map Gr.R.type) wr)
 case atStart=>exact ⟨0,rfl,by omega,HST.out⟩
 obtain ⟨k,rfl,hk,hrl⟩:=hrel;have aW:=ah hrl;have HK:=ah hk;clear hrl c0 c1;cases gk with
 | succ q=>
  have hkn:k<rn:=by omega
  have dD:(k:Int)<rn:=by omega
  obtain ⟨n,hn⟩: ∃n,g.au[k]?=some n:=⟨_,ab2 (by rw [gy.out];exact hkn)⟩
  obtain ⟨b,o,Ap,cp,rfl,hbB,⟨D0,D1,D2,D3,D4⟩,-⟩:=HR.out.rel hn
  obtain ⟨z,hz⟩: ∃z:ByteArray,(⟨n.type.toArray⟩:ByteArray)=z:=⟨_,rfl⟩;unfold ST at D1
  rw [hz] at D1;have hBW:=aW.out.bel.mono hB
  have d0:=(hBW.cell (p:=⟨b,o+k*5,none⟩) hbB).trans D0
  have d1:=(hBW.cell (p:=⟨b,o+k*5+1,none⟩) hbB).trans D1
  have d2:=(hBW.cell (p:=⟨b,o+k*5+2,none⟩) hbB).trans D2
  have d3:=(hBW.cell (p:=⟨b,o+k*5+3,none⟩) hbB).trans D3
  have d4:=(hBW.cell (p:=⟨b,o+k*5+4,none⟩) hbB).trans D4
  have hzd:z.data.toList=n.type:=by rw [<-hz]
  have hzs:z.size<=maxLen:=by
   have:=(aK.out.rs n (acf hn)).tl;rw [Lib.size_eq,hzd];unfold maxLen;omega
  obtain ⟨WN,aX⟩: ∃W,wr.alloc (.cells #[.int .i64 n.id, .string z, .int .i64 n.src, .int .i64 n.dst, .slice Ap n.props.length cp] 63)=W:=⟨_,rfl⟩
  have eG:=ah aX
  have yG:=ah (show lI w _ _ _ WN by rw [<-aX];exact aW.out.below ((Below.refl _ _).alloc (ab1 _) _))
  have aT:=ah (show aj WN wr.heap.size 63 #[.int .i64 n.id, .string z, .int .i64 n.src, .int .i64 n.dst, .slice Ap n.props.length cp] by rw [<-aX];exact aj.new _ _ _)
  obtain ⟨L,hL⟩: ∃L,(g.au.take k).map Gr.R.type=L:=⟨_,rfl⟩
  have kK:L.length<1073741824:=by rw [<-hL,ace,acW];omega
  rw [hL] at yG;have hlk:=yG.out.map.look (t:=150) Tryz.underlying150 hzs
  obtain ⟨N,hNc⟩: ∃N,L.count z.data.toList=N:=⟨_,rfl⟩
  have qj:N<=L.length:=by rw [<-hNc];exact akp
  rw [hNc] at hlk;have v0:=yG.out.var.cell 0;simp only [acz,ab9] at v0;have jc:=ah hNc
  have HZD:=ah hzd;have lJ:=ah hzs;have aB:=ah (FV hn);have HL:=ah hL;have tC:=ah kK
  have hNi:(N:Int)<=1073741824:=by omega
  clear aX hbB D0 D1 D2 D3 D4 hn hk hkn hBW hz hzd hzs hNc hL kK qj
  go_upto_region 17 with fail
  rw [eG.out];clear d0 d1 d2 d3 d4;obtain ⟨e0,e1,e2,e3,e4⟩:=cells5 aT.out
  go_wp2_with (at_mapUpdate;refine Nv _ rfl yG.out.map (by have:=tC.out;omega) (.tmp 46) (.tmp 48) (.tmp 50) 150 rfl Tryz.underlying150 rfl z lJ.out rfl (by rw [jc.out];rfl) ?_)
  intro w1 hc1 hg1;have HR1:=ah (yG.out.put hc1 hg1);clear hc1 hg1 hlk v0 e0 e1 e2 e3 e4
  go_wp2
  go_roundg q
  case measure=>omega
  exact ⟨k+1,int_eq (by omega),by have:=HK.out;omega,by rw [aB.out,ade,HL.out];have h:=HR1.out;rw [HZD.out] at h;exact h⟩
 | zero=>
  obtain rfl:k=rn:=by omega
  have hfin:g.au.take k=g.au:=acg (by rw [gy.out];exact ab1 _)
  have hrl:=aW.out;rw [hfin] at hrl;have ny:=ah hrl;have v0:=hrl.var.cell 0
  simp only [acz,ab9] at v0
  have Ej:=ah (SS (w.heap.size+1) (Gr.names2 g) wr hrl.map (by unfold Gr.names2;rw [ace,gy.out];omega))
  clear hfin hrl hk;go_wp2_with fail;refine (SQ _ _).mono ?_;rintro e w2 ⟨rfl,rfl⟩
  go_wp2_with fail;refine Ej.out.mono ?_;rintro e w3 ⟨A,c,rfl,ho,hb⟩;have HO:=ah ho
  have HB:=ah hb;clear ho hb v0;go_wp2;go_ret
  have hbb:=ny.out.bel.alloc ny.out.bel.size (.cells #[.map (some (w.heap.size+1))] 150)
  exact ⟨A,c,rfl,own_base HO.out hbb.size,hbb.trans (HB.out.mono hbb.size)⟩
attribute [local go_sem] Oper.semAt_some
theorem ai7 (B:Nat) (u:Value) (g:Gr.G) (w:World) (h:fE w B u g) (hB:B<=w.heap.size) (hlen:(Gr.fH g).length<=1073741823):
  Calls Tryz.prog 79 #[u, .int .i64 3] w fun e w'=> ∃A c,e= .returned (.slice A (Gr.dedup (Gr.nS g)).length c)/\w'.ownsRow w.heap.size 9 1 (.slice A (Gr.dedup (Gr.nS g)).length c) (Gr.dedup (Gr.nS g)).length ((sortL (Gr.nS g)).map ST)/\Below w.heap.size w w':=by
 have hok:=h.ok;obtain ⟨An,cn,Ar,cr,rfl,hN,hR⟩:=h.ex;have hmm:= @run_makeMap Tryz.prog
 have HN:=ah hN;have HR:=ah hR;have aK:=ah hok;have HLEN:=ah hlen
 obtain ⟨nn,hnn⟩: ∃n,g.nodes.length=n:=⟨_,rfl⟩;obtain ⟨rn,hrn⟩: ∃n,g.au.length=n:=⟨_,rfl⟩
 have HIT:=ah (fun (T n₁ Bt:Nat) (W1:World)=>aaP T n₁ B Bt g An Ar cn cr w hN hR hok W1)
 rw [hnn,hrn] at HIT;rw [hnn,hrn];clear hN hR hok h hlen
 have HST:=ah (lI.start w (.slice An nn cn) (.slice Ar rn cr))
 obtain ⟨W0,hW0⟩: ∃W1,((w.alloc (.cells #[.slice An nn cn, .slice Ar rn cr] 39)).alloc (.map #[] 0)).alloc (.cells #[.map (some (w.heap.size+1))] 150)=W1:=⟨_,rfl⟩
 have hz0:W0.heap.size=w.heap.size+3:=by rw [<-hW0];simp
 have HW0:=ah hW0;rw [hW0] at HST;clear hW0;obtain ⟨c0,c1⟩:=cells2 HST.out.box
 refine Rx Tryz.func79 rfl ?_
 simp only [Tryz.ntmps79,amb,acd,adk,Nat.reduceAdd,Nat.reduceSub,anX,aoe,aoO,alO,adI,adV]
 go_upto_region 20 with fail
 rw [HW0.out];clear HW0
 go_wp2_with (go_at_call 136;refine (aaT _ _ _).mono ?_;rintro e w' ⟨rfl,rfl⟩)
 obtain ⟨W,hW⟩: ∃W,W0.alloc (.cells #[.slice An nn cn, .slice Ar rn cr] 39)=W:=⟨_,rfl⟩
 have hsz:W.heap.size=w.heap.size+4:=by rw [<-hW,World.size_alloc,hz0]
 have VQ:lI w (.slice An nn cn) (.slice Ar rn cr) [] W:=by rw [<-hW];exact HST.out.below ((Below.refl _ _).alloc (ab1 _) _)
 have hcap0:aj W W0.heap.size 39 #[.slice An nn cn, .slice Ar rn cr]:=by rw [<-hW];exact aj.new _ _ _
 rw [hW];rw [hz0] at hcap0;clear hW c0 c1;refine (wpIn_wide (n:=9)).1 ?_
 refine' RD 207 (gf:=186) (lb:= #[.pointer (some ⟨w.heap.size+3,0,none⟩)]) rfl (enters_of Tryz.func186 (by kernel_rfl) rfl) (encs:=DF) (fun x=>rfl) (Pre:=fun _ _ _=>True) _ adO (fun x W=>(Below.refl _ W).alloc (ab1 _) _) (fun _ _ _ _ _ _ _ _=>trivial)
  (fun W1 hb hn=>HIT.out 207 W.heap.size (w.heap.size+3) W1)
  (fun pre V=>lI w (.slice An nn cn) (.slice Ar rn cr) (pre.map fun x=>x.p.key) V/\aj V (w.heap.size+3) 39 #[.slice An nn cn, .slice Ar rn cr])
  (fun c V=>False)
  ?hI ?hIx ?hAux ⟨VQ,hcap0⟩ ?assign ?body ?done ?stop
 case hI=>
  rintro pre A B' ⟨h1,h2⟩ hs
  exact ⟨⟨hs.blk h1.box (by decide),hs.aal h1.map,hs.blk h1.var (by decide),h1.bel.trans (hs.below (by omega) h1.bel.size)⟩,hs.blk h2 (by decide)⟩
 case hIx=>
  rintro c A B' h hs;exact h
 case hAux=>
  rintro pre V ⟨h1,h2⟩;exact ⟨h1.bel.mono hB,h2⟩
 case assign=>
  intro l x V K hK;simp only [DF,fP.cells,ST]
  gi_wp2
  exact hK
 case body=>
  rintro l pre x W0 Va V ⟨h1,h2⟩ hs1 hs2 hblk hvs - hstep hl hn0;have hs':=hs1.trans hs2
  obtain ⟨p,mg,kM,mD,kN⟩:=x;obtain ⟨hpre,OZ,O1⟩:=hstep
  have hmem:p∈Gr.fH g:=hpre.subset (by simp)
  have sU:pV p:=by
   unfold Gr.fH at hmem
   rcases acU.1 hmem with hm | hm
   ·obtain ⟨n,hn,hp⟩:=ad1.1 hm
    exact (aK.out.ns n hn).ps p hp
   obtain ⟨n,hn,hp⟩:=ad1.1 hm;exact (aK.out.rs n hn).ps p hp
  have g1:lI w (.slice An nn cn) (.slice Ar rn cr) (pre.map fun x=>x.p.key) V:=⟨hs'.blk h1.box (by decide),hs'.aal h1.map,hs'.blk h1.var (by decide),h1.bel.trans (hs'.below (by omega) h1.bel.size)⟩
  have g2:=hs'.blk h2 (show 39≠207 by decide)
  have gt:=hblk Va.heap.size 61 _ (aj.new _ _ _)
  obtain ⟨z,hz⟩: ∃z:ByteArray,(⟨p.key.toArray⟩:ByteArray)=z:=⟨_,rfl⟩
  have hzd:z.data.toList=p.key:=by rw [<-hz]
  have hzs:z.size<=maxLen:=by
   have:=sU.key;rw [Lib.size_eq,hzd];unfold maxLen;omega
  simp only [fP.cells,ST,hz] at gt;obtain ⟨t0,t1,t2,t3,t4,t5⟩:=yg gt
  obtain ⟨L,hL⟩: ∃L,pre.map (fun x=>x.p.key)=L:=⟨_,rfl⟩
  have kK:L.length<1073741824:=by
   have q:=hpre.length_le;have:=HLEN.out;rw [ace,dA,adX] at q;rw [<-hL,ace];omega
  rw [hL] at g1;have hlk:=g1.map.look (t:=150) Tryz.underlying150 hzs
  obtain ⟨N,hNc⟩: ∃N,L.count z.data.toList=N:=⟨_,rfl⟩
  have qj:N<=L.length:=by rw [<-hNc];exact akp
  rw [hNc] at hlk;have v0:=g1.var.cell 0;simp only [acz,ab9] at v0;have jc:=ah hNc
  have HZD:=ah hzd;have lJ:=ah hzs;have HL:=ah hL;have tC:=ah kK;have G1:=ah g1
  have G2:=ah g2;have hNi:(N:Int)<=1073741824:=by omega
  clear hs' hs1 hs2 hblk h1 h2 hpre OZ O1 hmem sU g1 g2 gt hz hzd hzs hNc qj hL kK VQ hcap0
  gi_wp2_with (gi_at_mapUpdate;refine ah4 _ rfl G1.out.map (by have:=tC.out;omega) (.tmp 57) (.tmp 59) (.tmp 61) 150 rfl Tryz.underlying150 rfl z lJ.out rfl (by rw [jc.out];rfl) ?_)
  intro w1 hc1 hg1;have HR1:=ah (G1.out.put hc1 hg1);have wC:=ah hg1;clear hc1 hg1 hlk v0
  gi_wp2
  refine ⟨KeepsFrom.of_grownBy wC.out (fun j e=>by cases e;omega),jO.vN wC.out (fun g' c fz e hc=> ?_), ?_,G2.out.grown wC.out (by simp)⟩
  ·cases e
   obtain ⟨n',D',-,⟨es,clock,hbm,-⟩,-⟩:=G1.out.map.ex;rw [hbm] at hc;cases hc
  rw [ade,HL.out];have h:=HR1.out;rw [HZD.out] at h;exact h
 case done=>
  rintro D xs V hD hend ⟨h1,h2⟩ hK
  have hnm:xs.map (fun x=>x.p.key)=Gr.nS g:=by
   unfold SX at hend;unfold Gr.nS;rw [<-hend,aez];rfl
  rw [hnm] at h1;have ny:=ah h1;have v0:=h1.var.cell 0;simp only [acz,ab9] at v0
  have Ej:=ah (SS (w.heap.size+1) (Gr.nS g) V h1.map (by unfold Gr.nS;rw [ace];have:=HLEN.out;omega))
  have wF:=ah hK;have ku:=ah hD;have dL:=ah hsz
  clear hnm h1 h2 hend hK hD hsz hz0 VQ hcap0;go_wp2_with fail;refine (SQ _ _).mono ?_
  rintro e w2 ⟨rfl,rfl⟩;go_wp2_with fail;refine Ej.out.mono ?_;rintro e w3 ⟨A,c,rfl,ho,hb⟩
  have hDl:D<V.heap.size:=(acI.1 wF.out).1
  have hK2:w3.heap[D]?=some (.deferred (some [])):=(hb.block D (by rw [World.size_alloc];omega)).trans ((Below.heap_alloc V _ D hDl).trans wF.out)
  have HO:=ah ho;have HB:=ah hb;clear ho hb v0;go_wp2
  refine Nk hK2 (v:= .slice A (Gr.dedup (Gr.nS g)).length c) (by simp [results,Tryz.results79,go_sem]) ?_
  have hbb:=ny.out.bel.alloc ny.out.bel.size (.cells #[.map (some (w.heap.size+1))] 150)
  exact ⟨A,c,rfl,own_base (ZK hK2 HO.out) hbb.size,Nj (hbb.trans (HB.out.mono hbb.size)) (by have:=dL.out;have:=ku.out;omega)⟩
 rintro D c V hD h hK;exact h.elim
end Go.Proofs.YtoofbflplhbpbaaGreatDoor
