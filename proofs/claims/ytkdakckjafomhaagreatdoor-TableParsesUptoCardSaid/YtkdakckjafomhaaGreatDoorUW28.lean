/- Contracts and plain laws,part 28. -/
import Derived.Test.YtkdakckjafomhaaGreatDoorUW26
import Derived.Test.YtkdakckjafomhaaGreatDoorUW27
set_option maxHeartbeats 64000000
set_option maxRecDepth 1000000
set_option linter.all false
namespace Go.Proofs.YtkdakckjafomhaaGreatDoor
open Go.RowKit
def sD (k:Int):Nat:=if ak.gV k=1 then 1 else 8
theorem UZ (n:Int): ∃x:Nat,IntKind.u64.wrap n=(x:Int)/\x<18446744073709551616:=⟨ak.u64 n,O4 n,ak.EM n⟩
theorem abM (B bw n:Nat) (k m:Int) (w:World) (h:rE w B bw n) (hk:ak.In64 k) (hn:n<=1073741000) (hB:B<=w.heap.size):
  Calls Tryz.prog 184 #[.pointer (some ⟨bw,0,none⟩),.int .i64 k,.int .i64 m] w fun e w'=>e=.returned (.tuple #[])/\rE w' B bw (n+sD k)/\Below B w w':=by
 have HB:=ah (TJ k w hk);obtain⟨x,hx,hlt⟩:=UZ m
 have H1:=ah (J4 B bw n 1 x w h (.inl rfl) hn hB hlt)
 have H8:=ah (J4 B bw n 8 x w h (.inr (.inr rfl)) hn hB hlt);obtain⟨b,hb⟩:=aj (ak.gV k)
 have HL:Hid (sD k=if b=1 then 1 else 8):=by show sD k=_;unfold sD;rw[hb]
 rw[hb]at HB;clear h hk hn hB hlt hb;by_cases h1:b=1
 ·have t1:(b == 1)=true:=aeI.2 h1
  have hl:=HL.out;rw[adk h1]at hl;rw[hl];clear h1 H8 hl
  go_enter Tryz.func184,Tryz.ntmps184;go_wp2_with fail;refine HB.mono ?_
  rintro e w1 ⟨rfl,rfl⟩;go_wp2_with fail;refine H1.mono ?_;rintro e w2 ⟨rfl,hw,hb⟩
  have HW:=ah hw;have aK:=ah hb;clear hw hb;go_wp2
  refine bodyPost_ret (results_none rfl _ _ _) rfl ?_;exact⟨rfl,HW.out,aK.out⟩
 have t1:(b == 1)=false:=adh.2 h1;have hl:=HL.out;rw[ade h1]at hl;rw[hl];clear h1 H1 hl
 go_enter Tryz.func184,Tryz.ntmps184;go_wp2_with fail;refine HB.mono ?_
 rintro e w1 ⟨rfl,rfl⟩;go_wp2_with fail;refine H8.mono ?_;rintro e w2 ⟨rfl,hw,hb⟩
 have HW:=ah hw;have aK:=ah hb;clear hw hb;go_wp2
 go_end0
 exact⟨rfl,HW.out,aK.out⟩
theorem abN (B bw n:Nat) (z:ByteArray) (w:World) (h:rE w B bw n) (hz:z.size<=1073741) (hn:n<=1073740000) (hB:B<=w.heap.size):
  Calls Tryz.prog 185 #[.pointer (some ⟨bw,0,none⟩),.string z] w fun e w'=>e=.returned (.tuple #[])/\rE w' B bw (n+(2+z.size))/\Below B w w':=by
 have hzi:(z.size:Int)<=1073741:=by omega
 have H2:=ah (J4 B bw n 2 z.size w h (.inr (.inl rfl)) (by omega) hB (by omega))
 have HS:=ah (fun(W:World) (hw:rE W B bw (n+2)) (hb:B<=W.heap.size)=>akI B bw (n+2) z W hw hz (by omega) hb)
 have HBH:=ah hB;clear h hz hn hB;go_enter Tryz.func185,Tryz.ntmps185;go_wp2_with fail
 refine H2.mono ?_;rintro e w1 ⟨rfl,hw,hb⟩
 have HC:=ah (HS.out w1 hw (adg HBH.out hb.size));have aK:=ah hb;clear hw hb
 go_wp2_with fail;refine HC.mono ?_;rintro e w2 ⟨rfl,hw,hb⟩;have HW:=ah hw
 have HB2:=ah (aK.trans hb);clear hw hb;go_wp2
 go_end0
 exact⟨rfl,by rw[<-amQ];exact HW.out,HB2.out⟩
theorem U0 {l:List ak.L} (h:ak.kP l=false): ∀t∈l,t.length<=1000:=by
 intro t ht;unfold ak.kP at h;rw[aop]at h;have:=h t ht;simp at this;exact this
theorem abO {l:List (List UInt8)} {k:Nat} {t:List UInt8} (h:l[k]?=some t):((l.take (k+1)).map fun t=>2+t.length).sum=((l.take k).map fun t=>2+t.length).sum+(2+t.length):=by
 rw[ae3,h];simp
theorem U1 {l:List (List UInt8)} (h: ∀t∈l,t.length<=1000):(l.map fun t=>2+t.length).sum<=1002*l.length:=by
 induction l with
 |nil=>simp
 |cons a l ih=>
  have:=ih fun t ht=>h t (by simp[ht])
  have:=h a (by simp)
  simp only[aeR,agb,adQ];omega
theorem akK (B:Nat) (u:Value) (v:ak.V) (w:World) (h:oV w B u v) (hB:B<=w.heap.size) (h0:ak.check v=0):
  Calls Tryz.prog 139 #[u] w fun e w'=> ∃A c,e=.returned (.tuple #[.slice A (Gr.mQ v) c,.int .i64 0])/\Below w.heap.size w w':=by
 obtain⟨hp1,WQ,-,Ea,AB,htl,Gs,-⟩:=ak.EO h0
 have hch:=fun(W:World) (hb:Below w.heap.size w W)=>check_any B u v W (h.below (hb.mono hB)) (adg hB hb.size)
 rw[h0]at hch;obtain⟨A1,c1,A2,c2,rfl,dG,cO⟩:=h.ex;have WS:=ah h.kin
 obtain⟨k0,n0,t0,ns,ts⟩:=v;simp only at hch dG cO hp1 WQ Ea AB htl Gs WS⊢
 obtain⟨z,hz⟩:=aj (⟨t0.toArray⟩:ByteArray)
 have hzs:z.size=t0.length:=by rw[<-hz];exact gq _
 rw[hz]at hch⊢;obtain⟨nn,hnn⟩:=aj ns.length;obtain⟨tn,htn⟩:=aj ts.length
 rw[hnn]at hch Ea dG⊢;rw[htn]at hch AB cO⊢
 obtain⟨W1,hW1⟩:=aj (w.alloc (.cells #[.int .i64 k0,.int .i64 n0,.string z,.slice A1 nn c1,.slice A2 tn c2] 37))
 have hb1:Below w.heap.size w W1:=by rw[<-hW1];exact(Below.refl _ w).alloc (ac4 _) _
 have k1:au W1 w.heap.size 37 #[.int .i64 k0,.int .i64 n0,.string z,.slice A1 nn c1,.slice A2 tn c2]:=by rw[<-hW1];exact au.new _ _ _
 have FK:=ah (hch W1 hb1);have bW:=ah k1;have HB1:=ah hb1;have HW1:=ah hW1;have dZ:=ah hB
 have R1:=ah (dG.below (hb1.mono hB));have R2:=ah (cO.below (hb1.mono hB))
 have hE:Gr.mQ ⟨k0,n0,t0,ns,ts⟩=if k0<4 then 1+sD k0 else if k0=4 then 3+z.size else 2+nn*sD k0+(ts.map fun t=>2+t.length).sum:=by
  unfold Gr.mQ sD ak.gV;simp only;by_cases h4:k0<4
  ·rw[adk h4,adk h4,ade (by omega: ¬4<k0)]
   by_cases h1:k0=1
   ·rw[adk h1,adk h1]
   rw[ade h1,ade h1]
  rw[ade h4,ade h4];by_cases h5:k0=4
  ·rw[adk h5,adk h5,hzs]
  rw[ade h5,ade h5,adk (show 4<k0 by omega),hnn]
  by_cases h6:k0=5
  ·rw[adk h6,adk (show k0 - 4=1 by omega)]
  rw[ade h6,ade (show¬k0 - 4=1 by omega)]
 obtain⟨E,vW⟩:=aj (Gr.mQ ⟨k0,n0,t0,ns,ts⟩);rw[vW]at hE⊢;have HE:=ah hE
 have MI:=ah (U0 Gs);have aI:=ah htn;have aC:=ah hnn;have hzb:z.size<=1000:=by omega
 have HZB:=ah hzb;clear hch dG cO hb1 k1 hW1 h h0 hE vW hz hzs hnn htn htl Gs hB
 go_enter Tryz.func139,Tryz.ntmps139
 go_upto_region 1 with fail
 rw[HW1.out];clear HW1;obtain⟨a0,a1,a2,a3,a4,-⟩:=aU bW.out;go_wp2_with fail
 refine FK.mono ?_;rintro e w2 ⟨rfl,hb2⟩;have HB2:=ah (pV HB1.out hb2)
 have aY:=ah (bW.below hb2 bW.lt)
 have HR1:=ah (R1.out.below (hb2.mono (adg dZ.out HB1.size)))
 have HR2:=ah (R2.out.below (hb2.mono (adg dZ.out HB1.size)))
 clear a0 a1 a2 a3 a4 hb2 FK R1 R2;go_wp2_with fail;refine(akJ w2).mono ?_
 rintro e w3 ⟨rfl,hw3,hb3⟩;have hbl:w2.heap.size<=w3.heap.size:=hb3.size;have HB3:=ah hb3
 obtain⟨a0,a1,a2,a3,a4,-⟩:=aU (aY.below hb3 aY.lt);obtain⟨x0,hx0,hlt0⟩:=UZ k0
 have HN:=ah (J4 w2.heap.size w2.heap.size 0 1 x0 w3 hw3 (.inl rfl) (by decide) hbl hlt0)
 clear hw3 hb3 hlt0;go_wp2_with fail;refine HN.mono ?_;rintro e w4 ⟨rfl,hw4,hb4⟩
 have ou:=ah hw4;have HB4:=ah hb4;have hl4:=hb4.size
 have WT:w2.heap.size<=w4.heap.size:=adg hbl hl4
 have Eb:=ah (fun(W:World) (hb:Below w2.heap.size w3 W)=>aU ((aY.below HB3.out aY.lt).below hb aY.lt))
 clear a0 a1 a2 a3 a4 hw4 hb4 HN;obtain⟨a0,a1,a2,a3,a4,-⟩:=Eb.out w4 HB4.out
 have Jj:B<=w2.heap.size:=adg dZ.out HB2.size;by_cases h3:k0<=3
 ·have t3:decide (k0<=3)=true:=adb h3
  have dY:=ah (abM w2.heap.size w2.heap.size (0+1) k0 n0 w4 ou.out WS.out (by decide) WT)
  have aen:sD k0<=8:=by unfold sD;split<;>omega
  have Ec:=ah (show E=0+1+sD k0 by rw[HE.out,adk (by omega)])
  clear hx0;go_wp2_with fail;refine dY.mono ?_;rintro e w5 ⟨rfl,hw5,hb5⟩;have MJ:=ah hw5
  have bG:=ah (HB4.trans hb5);clear a0 a1 a2 a3 a4 hw5 hb5
  have yB:=ah (UY w2.heap.size w2.heap.size (0+1+sD k0) w5 MJ.out (by omega))
  have yA:=ah (pV HB2.out (HB3.trans bG.out));go_wp2_with fail;refine yB.mono ?_
  rintro e w9 ⟨A',c',rfl,aB⟩;have bg:=ah (pV yA.out aB);clear aB;go_wp2
  go_ret2
  exact⟨A',c',by rw[Ec.out];rfl,bg.out⟩
 have t3:decide (k0<=3)=false:=ac5 h3;have h3':3<k0:=by omega
 by_cases h4:k0=4
 ·have t4:(k0 == 4)=true:=aeI.2 h4
  have dY:=ah (abN w2.heap.size w2.heap.size (0+1) z w4 ou.out (by have:=HZB.out;omega) (by decide) WT)
  have Ec:=ah (show E=0+1+(2+z.size) by rw[HE.out,ade (by omega),adk h4];omega)
  clear hx0 h4 h3;go_wp2_with fail;refine dY.mono ?_;rintro e w5 ⟨rfl,hw5,hb5⟩
  have MJ:=ah hw5;have bG:=ah (HB4.trans hb5);have hzz:=HZB.out
  clear a0 a1 a2 a3 a4 hw5 hb5
  have yB:=ah (UY w2.heap.size w2.heap.size (0+1+(2+z.size)) w5 MJ.out (by omega))
  have yA:=ah (pV HB2.out (HB3.trans bG.out));go_wp2_with fail;refine yB.mono ?_
  rintro e w9 ⟨A',c',rfl,aB⟩;have bg:=ah (pV yA.out aB);clear aB;go_wp2
  go_ret2
  exact⟨A',c',by rw[Ec.out];rfl,bg.out⟩
 have t4:(k0 == 4)=false:=adh.2 h4;have h5:4<k0:=by omega
 obtain⟨x1,hx1,hlt1⟩:=UZ ((nn:Int)+(tn:Int))
 have dY:=ah (J4 w2.heap.size w2.heap.size (0+1) 1 x1 w4 ou.out (.inl rfl) (by decide) WT hlt1)
 have Ec:=ah (show E=0+1+1+nn*sD k0+(ts.map fun t=>2+t.length).sum by rw[HE.out,ade (by omega),ade h4])
 obtain⟨L,hL⟩:=aj (sD k0);have aen:L<=8:=by rw[<-hL];unfold sD;split<;>omega
 have dJ:=ah hL;rw[hL]at Ec;clear hx0 h4 h3 hlt1 hL;go_wp2_with fail;refine dY.mono ?_
 rintro e w5 ⟨rfl,hw5,hb5⟩;have jH:=ah hw5;have bG:=ah (HB4.trans hb5)
 clear a0 a1 a2 a3 a4 hw5 hb5 hx1 dY;obtain⟨a0,a1,a2,a3,a4,-⟩:=Eb.out w5 bG.out
 have apU:(nn:Int)<=40:=by omega
 have apV:(tn:Int)<=40:=by omega
 go_wp2_with fail
 go_loopg [34] nn (fun g x wr=> ∃k:Nat,x=.int .i64 k/\k+g=nn/\rE wr w2.heap.size w2.heap.size (0+1+1+k*L)/\Below w2.heap.size w3 wr)
 case atStart=>exact⟨0,rfl,by omega,by simpa using jH.out,bG.out⟩
 obtain⟨k,rfl,hk,hwr,hbr⟩:=hrel;have Bj:=ah hwr;have Gt:=ah hbr;have HKK:=ah hk
 clear hwr hbr a0 a1 a2 a3 a4;obtain⟨a0,a1,a2,a3,a4,-⟩:=Eb.out wr Gt.out
 have anM:w2.heap.size<=wr.heap.size:=adg hbl Gt.size;have MK:k*L<=40*8:=anL (by omega) aen
 cases gk with
 |succ g=>
  have hkn:k<nn:=by omega
  have dH:(k:Int)<nn:=by omega
  obtain⟨p,o,x,rfl,AA,hx,hp⟩:=(HR1.below ((HB3.trans Gt.out).mono Jj)).cell hkn
  rw[adX]at hx;obtain⟨y,hy,rfl⟩:=ae4.1 hx;unfold I64 at hp
  have dY:=ah (abM w2.heap.size w2.heap.size (0+1+1+k*L) k0 y wr Bj.out WS.out (by omega) anM)
  rw[dJ.out]at dY;clear hx hy hk hkn MK;go_wp2_with fail;refine dY.mono ?_
  rintro e w6 ⟨rfl,hw6,hb6⟩;have pI:=ah hw6;have dO:=ah (Gt.trans hb6)
  clear hw6 hb6 a0 a1 a2 a3 a4 hp;go_wp2
  go_roundg g
  case measure=>omega
  exact⟨k+1,int_eq (by omega),by have:=HKK.out;omega,by rw[anj,<-amQ];exact pI.out,dO.out⟩
 |zero=>
  obtain rfl:k=nn:=by omega
  clear hk;go_wp2_with fail
  go_loopg [47] tn (fun g x wx=> ∃j:Nat,x=.int .i64 j/\j+g=tn/\rE wx w2.heap.size w2.heap.size (0+1+1+k*L+((ts.take j).map fun t=>2+t.length).sum)/\Below w2.heap.size w3 wx)
  case atStart=>exact⟨0,rfl,by omega,by simpa using Bj.out,Gt.out⟩
  obtain⟨j,rfl,hj,hwr,hbr⟩:=hrel;rename_i wx;have aeo:=ah hwr;have ML:=ah hbr
  have HJ:=ah hj;clear hwr hbr a0 a1 a2 a3 a4;obtain⟨a0,a1,a2,a3,a4,-⟩:=Eb.out _ ML.out
  have hsum:((ts.take j).map fun t=>2+t.length).sum<=1002*40:=by
   have h1:=U1 (l:=ts.take j) (fun t ht=>MI.out t (anU ht))
   have h2:(ts.take j).length<=40:=by rw[aeb];have:=aI.out;omega
   exact adg h1 (afZ _ h2)
  cases gk with
  |succ g=>
   have hjn:j<tn:=by omega
   have Az:(j:Int)<tn:=by omega
   obtain⟨p,o,x,rfl,AA,hx,hp⟩:=(HR2.below ((HB3.trans ML.out).mono Jj)).cell hjn
   rw[adX]at hx;obtain⟨y,hy,rfl⟩:=ae4.1 hx;unfold ST at hp
   obtain⟨zy,hzy⟩:=aj (⟨y.toArray⟩:ByteArray);rw[hzy]at hp
   have hzl:zy.size=y.length:=by rw[<-hzy];exact gq _
   have hyl:=MI.out y (adI hy)
   have dY:=ah (abN w2.heap.size w2.heap.size _ zy _ aeo.out (by omega) (by omega) (adg hbl ML.size))
   have jE:=ah (abO hy);have uw:=ah hzl;clear hx hy hj hjn MK hsum hzy hzl hyl
   go_wp2_with fail;refine dY.mono ?_;rintro e w6 ⟨rfl,hw6,hb6⟩;have pI:=ah hw6
   have dO:=ah (ML.trans hb6);clear hw6 hb6 a0 a1 a2 a3 a4 hp;go_wp2
   go_roundg g
   case measure=>omega
   exact⟨j+1,int_eq (by omega),by have:=HJ.out;omega,by rw[jE.out,<-uw.out,<-amQ];exact pI.out,dO.out⟩
  |zero=>
   obtain rfl:j=tn:=by omega
   have hfin:ts.take j=ts:=ado (by rw[aI.out];exact ac4 _)
   have WU:=aeo.out;rw[hfin]at WU hsum;have MJ:=ah WU;clear hj hfin WU
   have yB:=ah (UY w2.heap.size w2.heap.size _ _ MJ.out (by omega))
   have yA:=ah (pV HB2.out (HB3.trans ML.out));go_wp2_with fail;refine yB.mono ?_
   rintro e w9 ⟨A',c',rfl,aB⟩;have bg:=ah (pV yA.out aB);clear aB;go_wp2
   go_ret2
   exact⟨A',c',by rw[Ec.out];rfl,bg.out⟩
theorem akL (B:Nat) (u:Value) (v:ak.V) (w:World) (h:oV w B u v) (hB:B<=w.heap.size) (h0:ak.check v=0):
  Calls Tryz.prog 90 #[u] w fun e w'=>e=.returned (.int .i64 (Gr.mQ v:Nat))/\Below w.heap.size w w':=by
 have he:=fun(W:World) (hb:Below w.heap.size w W)=>akK B u v W (h.below (hb.mono hB)) (adg hB hb.size) h0
 obtain⟨A1,c1,A2,c2,rfl,dG,cO⟩:=h.ex
 obtain⟨W1,hW1⟩:=aj (w.alloc (.cells #[.int .i64 v.kind,.int .i64 v.num,.string ⟨v.text.toArray⟩,.slice A1 v.nums.length c1,.slice A2 v.texts.length c2] 37))
 have hb1:Below w.heap.size w W1:=by rw[<-hW1];exact(Below.refl _ w).alloc (ac4 _) _
 have k1:au W1 w.heap.size 37 #[.int .i64 v.kind,.int .i64 v.num,.string ⟨v.text.toArray⟩,.slice A1 v.nums.length c1,.slice A2 v.texts.length c2]:=by rw[<-hW1];exact au.new _ _ _
 have HE:=ah (he W1 hb1);have HW1:=ah hW1;have HB1:=ah hb1
 obtain⟨a0,a1,a2,a3,a4,-⟩:=aU k1;clear he dG cO hW1 hb1 k1 h h0
 go_enter Tryz.func90,Tryz.ntmps90
 go_upto_region 1 with fail
 rw[HW1.out];clear HW1;go_wp2_with fail;refine HE.mono ?_;rintro e w2 ⟨A',c',rfl,hb2⟩
 have HB2:=ah (pV HB1.out hb2);clear hb2;go_wp2;go_ret;exact⟨rfl,HB2.out⟩
attribute [local go_sem] Oper.semAt_some
theorem abP (u v:Value) (w:World):
  Calls Tryz.prog 59 #[.agg #[u,v]] w fun e w'=>e=.returned (.func (.func 97) #[] #[.pointer (some ⟨w.heap.size,0,none⟩)])/\w.alloc (.cells #[u,v] 26)=w':=by
 go_enter Tryz.func59,Tryz.ntmps59;go_wp2;go_ret;exact⟨rfl,rfl⟩
def aep (x:gB) (W:World):World:=W.alloc (.cells x.cells 39)
theorem U2 {v:ak.V} (h:ak.check v=0):Gr.mQ v<=41000:=by
 obtain⟨-,-,-,h1,h2,h3,h4,-⟩:=ak.EO h;have hs:=U1 (U0 h4)
 have hm:v.nums.length*(if v.kind=5 then 1 else 8)<=40*8:=anL h1 (by split<;>omega)
 have hs2:1002*v.texts.length<=1002*40:=afZ _ h2;have hs3:=adg hs hs2;unfold Gr.mQ
 split
 ·split<;>omega
 split
 ·omega
 exact adg (Nat.add_le_add (Nat.add_le_add_left hm 2) hs3) (by decide)
theorem J5 (a b:List Gr.P):Gr.bT (a++b)=Gr.bT a+Gr.bT b:=by unfold Gr.bT;simp
theorem U3 {l:List Gr.P} (h: ∀p∈l,ak.check p.val=0):Gr.bT l<=41000*l.length:=by
 unfold Gr.bT
 induction l with
 |nil=>simp
 |cons a l ih=>
  have:=ih fun p hp=>h p (by simp[hp])
  have:=U2 (h a (by simp))
  simp only[aeR,agb,adQ];omega
theorem akM {V w':World} {b:Nat} {T:TypeId} {x:Value} (h:au V b T #[x]) (hb:Hid (Below V.heap.size V w')):w'.cell? ⟨b,0,none⟩=some x/\w'.frozen? ⟨b,0,none⟩=false:=by
 have k:=h.below hb.out h.lt;exact⟨k.cell 0,k.frozen 0⟩
theorem akN (B:Nat) (u:Value) (g:Gr.G) (w:World) (h:jQ w B u g) (hB:B<=w.heap.size) (hck: ∀p∈Gr.dX g,ak.check p.val=0) (hlen:(Gr.dX g).length<=1073741824):
  Calls Tryz.prog 45 #[u] w fun e w'=>e=.returned (.int .i64 (Gr.weight g:Nat))/\Below w.heap.size w w':=by
 have hok:=h.ok;obtain⟨An,cn,Ar,cr,rfl,hN,hR⟩:=h.ex;refine TR Tryz.func45 rfl ?_
 simp only[Tryz.ntmps45,ao9,adQ,ae8,Nat.reduceAdd,Nat.reduceSub,apZ,ap2,aqT,anH,aex,afq]
 go_wp2_with (go_at_call 59;refine(abP _ _ _).mono ?_;rintro e w' ⟨rfl,rfl⟩)
 obtain⟨W,hW⟩:=aj (((w.alloc (.cells #[.slice An g.nodes.length cn,.slice Ar g.aA.length cr] 26)).alloc (.cells #[.int .i64 0] 3)).alloc (.cells #[.slice An g.nodes.length cn,.slice Ar g.aA.length cr] 26))
 have hsz:W.heap.size=w.heap.size+3:=by rw[<-hW];simp
 have b1:au W (w.heap.size+1) 3 #[.int .i64 0]:=by
  rw[<-hW]
  have:=(au.new (w.alloc (.cells #[.slice An g.nodes.length cn,.slice Ar g.aA.length cr] 26)) 3 #[.int .i64 0]).alloc (.cells #[.slice An g.nodes.length cn,.slice Ar g.aA.length cr] 26)
  simpa using this
 have b2:au W (w.heap.size+1+1) 26 #[.slice An g.nodes.length cn,.slice Ar g.aA.length cr]:=by
  rw[<-hW]
  have:=au.new ((w.alloc (.cells #[.slice An g.nodes.length cn,.slice Ar g.aA.length cr] 26)).alloc (.cells #[.int .i64 0] 3)) 26 #[.slice An g.nodes.length cn,.slice Ar g.aA.length cr]
  simpa using this
 have bb:Below w.heap.size w W:=by rw[<-hW];exact(((Below.refl _ w).alloc (ac4 _) _).alloc (by simp) _).alloc (by simp;omega) _
 rw[hW];have HN:=ah hN;have HR:=ah hR;have aV:=ah hok;have bf:=ah hck
 obtain⟨nn,hnn⟩:=aj g.nodes.length;obtain⟨rn,hrn⟩:=aj g.aA.length;clear hW hN hR hok hck
 refine(wpIn_wide (n:=9)).1 ?_
 refine' aaE 140 (gf:=97) (lb:= #[.pointer (some ⟨w.heap.size+1+1,0,none⟩)]) rfl (enters_of Tryz.func97 (by kernel_rfl) rfl) (encs:=Fg) (fun x=>rfl) (Pre:=fun _ _ _=>True) _ aep (fun x W=>(Below.refl _ W).alloc (ac4 _) _) (fun _ _ _ _ _ _ _ _=>trivial)
  (fun W1 hb hn=>abL 140 W.heap.size B (w.heap.size+1+1) g An Ar cn cr w HN.out HR.out aV.out W1)
  (fun pre V=>au V (w.heap.size+1) 3 #[.int .i64 (Gr.bT (pre.map gB.p):Nat)]/\au V (w.heap.size+1+1) 26 #[.slice An g.nodes.length cn,.slice Ar g.aA.length cr]/\Below w.heap.size w V)
  (fun c V=>False)
  ?hI ?hIx ?hAux ⟨b1,b2,bb⟩ ?assign ?body ?done ?stop
 case hI=>
  rintro pre A B' ⟨h1,h2,h3⟩ hs
  exact⟨hs.blk h1 (by decide),hs.blk h2 (by decide),h3.trans (hs.below (by omega) h3.size)⟩
 case hIx=>
  rintro c A B' h hs;exact h
 case hAux=>
  rintro pre V ⟨-,h2,h3⟩;exact⟨h3.mono hB,h2⟩
 case assign=>
  intro l x V K hK;simp only[Fg,gB.cells,ST]
  gi_wp2
  exact hK
 case body=>
  rintro l pre x W0 Va V ⟨h1,h2,h3⟩ hs1 hs2 hblk hvs - hstep hl hn0
  have hs':=hs1.trans hs2;obtain⟨p,nK,lF,nM,lG⟩:=x;obtain⟨hpre,QT,QU⟩:=hstep
  have hmem:p∈Gr.dX g:=hpre.subset (by simp)
  have qo:uF p:=by
   unfold Gr.dX at hmem
   rcases aem.1 hmem with hm|hm
   ·obtain⟨n,hn,hp⟩:=ae9.1 hm
    exact(aV.ns n hn).ps p hp
   obtain⟨n,hn,hp⟩:=ae9.1 hm;exact(aV.rs n hn).ps p hp
  have hc0:=bf.out p hmem;have g1:=hs'.blk h1 (show 3≠140 by decide)
  have g2:=hs'.blk h2 (show 26≠140 by decide)
  have g3:=h3.trans (hs'.below (by omega) h3.size)
  have gt:=hblk Va.heap.size 39 _ (au.new _ _ _)
  have hle:Gr.bT (pre.map gB.p)<=41000*1073741824:=by
   have q:=(hpre.length_le);rw[adU,adf,aeM]at q
   have q2:=U3 (l:=pre.map gB.p) (fun y hy=>bf.out y (hpre.subset (by rw[ad8];exact anB _ hy)))
   rw[adU]at q2;refine adg q2 (afZ _ (by omega))
  have hel:=U2 hc0;have FZ:=(Df (cn:=lF) (ct:=lG) qo.val QT QU).below (g3.mono hB)
  have hW:=fun(V':World) (hv:Below V.heap.size V V')=>akL B _ p.val V' (FZ.below (hv.mono (adg hB g3.size))) (adg (adg hB g3.size) hv.size) hc0
  obtain⟨S,hS⟩:=aj (Gr.bT (pre.map gB.p));obtain⟨E,hE⟩:=aj (Gr.mQ p.val)
  rw[hS]at g1 hle;rw[hE]at hW hel;have HS:=ah hS;have HE:=ah hE;have G1:=ah g1
  have G2:=ah g2;have G3:=ah g3;simp only[gB.cells,ST]at gt hW
  obtain⟨t0,t1,t2,t3,t4,t5⟩:=FV gt;have c1:=g1.cell 0;simp only[adE,adn]at c1
  have f1:=g1.frozen 0;have HW:=ah hW;have QV:(S:Int)<=41000*1073741824:=by omega
  have hEi:(E:Int)<=41000:=by omega
  clear hs' hs1 hs2 hblk h1 h2 h3 hpre QT QU hmem qo hc0 g1 g2 g3 gt hle hel FZ hW hS hE b1 b2 bb
  have hwr:IntKind.i64.wrap ((S:Int)+(E:Int))=(S:Int)+(E:Int):=IntWalk.i64_in _ (by omega)
  have hmx:Tryz.prog.follows .mixedOrders=true:=by kernel_rfl
  have hfw:Fence.wide.fn 90:=trivial
  gi_wp2
  gi_region_with_o (gi_at_call 90;refine(CallsIn.inRound l (callsIn_wide.2 (HW.out _ (by first|exact Below.refl _ _|exact Below.drew (Below.refl _ _))))).mono ?_;rintro e w' ⟨rfl,hb⟩;have Gu:Hid (Below V.heap.size V w'):=(by first|exact hb|exact(Below.drew (Below.refl _ _)).trans hb);obtain⟨c2,f2⟩:=akM G1.out Gu;clear hb)
  all_goals
   refine⟨((KeepsOthers.of_grownBy (dL Gu.out none) (fun j o e=>by cases e)).from _).trans ((KeepsOthers.setCell _ _ _).from _), ?_, ?_, ?_, ?_⟩
   ·refine(kR.Ad (dL Gu.out none) (fun g c fz e=>by cases e)).trans (kR.Ad (grownBy_set w' ⟨w.heap.size+1,0,none⟩ _) (fun g c fz e hc=> ?_))
    cases e;have:=G1.out.below Gu.out G1.out.lt;unfold au at this
    rw[show w'.heap[w.heap.size+1]?=_ from hc]at this
    cases this
   ·have:=(G1.out.below Gu.out G1.out.lt).bP 0 (.int .i64 ((S:Int)+(E:Int)))
    have hx:Gr.bT (List.map gB.p [⟨p,nK,lF,nM,lG⟩])=E:=by rw[<-HE.out];simp[Gr.bT]
    rw[ad8,J5,HS.out,hx,aga];exact this
   ·exact(G2.out.below Gu.out G2.out.lt).far (by simp) _
   exact(G3.out.trans (Gu.mono G3.out.size)).setCell (by simp) _
 case done=>
  rintro D xs V hD hend ⟨h1,h2,h3⟩ hK;unfold UU at hend;rw[hend]at h1;have c1:=h1.cell 0
  have f1:=h1.frozen 0;simp only[adE,adn]at c1;have H1:=ah h1;have H3:=ah h3
  have vN:=ah hK;have fF:=ah hsz;have pY:=ah hD;clear h1 h2 h3 hend hK hsz hD b1 b2 bb
  go_wp2;have n1:D≠w.heap.size+1:=by have:=fF.out;have:=pY.out;omega
  have hK2:(V.setCell ⟨w.heap.size+1,0,none⟩ (.int .i64 (Gr.bT (Gr.dX g):Nat))).heap[D]?=some (.deferred (some [])):=by
   rw[Below.heap_setCell _ _ _ _ n1];exact vN.out
  have B1:=JR (o:=.deferred none) hK2 (H1.bP 0 (.int .i64 (Gr.bT (Gr.dX g):Nat)))
  have q1:=B1.cell 0;simp at q1
  refine Pn hK2 (v:=.int .i64 (Gr.bT (Gr.dX g):Nat)) (by simp[results,Tryz.results45,go_sem,q1]) ?_
  exact⟨rfl,Pm (H3.setCell (p:=⟨w.heap.size+1,0,none⟩) (by simp) _) (by have:=fF.out;have:=pY.out;omega)⟩
 rintro D c V hD h hK;exact h.elim
end Go.Proofs.YtkdakckjafomhaaGreatDoor
namespace Go.Proofs.YtkdakckjafomhaaGreatDoor
open Go.RowKit Go.Maps
structure mV (w:World) (u v:Value) (l:List (List UInt8)) (V:World):Prop where
 box:au V w.heap.size 26 #[u,v]
 map:jJ V (w.heap.size+1) l
 var:au V (w.heap.size+1+1) 113 #[.map (some (w.heap.size+1))]
 bel:Below w.heap.size w V
theorem mV.below {w V V':World} {u v:Value} {l:List (List UInt8)} (h:mV w u v l V) (hb:Below V.heap.size V V'):mV w u v l V':=
 ⟨h.box.below hb h.box.lt,h.map.below hb,h.var.below hb h.var.lt,h.bel.trans (hb.mono h.bel.size)⟩
theorem mV.put {w V V':World} {u v:Value} {l l':List (List UInt8)} (h:mV w u v l V) (hc:jJ V' (w.heap.size+1) l') (hg:V.grownBy V' (some (w.heap.size+1))):mV w u v l' V':=
 ⟨h.box.grown hg (by simp),hc,h.var.grown hg (by simp),h.bel.grown hg h.bel.size (fun j e=>by cases e;omega)⟩
theorem mV.start (w:World) (u v:Value):mV w u v [] (((w.alloc (.cells #[u,v] 26)).alloc (.map #[] 0)).alloc (.cells #[.map (some (w.heap.size+1))] 113)):=by
 have h1:=jJ.made (w.alloc (.cells #[u,v] 26))
 have h2:=au.new ((w.alloc (.cells #[u,v] 26)).alloc (.map #[] 0)) 113 #[.map (some (w.heap.size+1))]
 rw[World.size_alloc]at h1;rw[World.size_alloc,World.size_alloc]at h2
 exact⟨((au.new w _ _).alloc _).alloc _,h1.below ((Below.refl _ _).alloc (ac4 _) _),h2,(((Below.refl _ w).alloc (ac4 _) _).alloc (by simp) _).alloc (by simp;omega) _⟩
theorem akO (B:Nat) (u:Value) (g:Gr.G) (w:World) (h:jQ w B u g) (hB:B<=w.heap.size) (hlen:(Gr.ql g).length<=1073741824):
  Calls Tryz.prog 21 #[u,.int .i64 1] w fun e w'=> ∃A c,e=.returned (.slice A (Gr.dedup (Gr.ql g)).length c)/\w'.ownsRow w.heap.size 9 1 (.slice A (Gr.dedup (Gr.ql g)).length c) (Gr.dedup (Gr.ql g)).length ((sortL (Gr.ql g)).map ST)/\Below w.heap.size w w':=by
 have hok:=h.ok;obtain⟨An,cn,Ar,cr,rfl,hN,hR⟩:=h.ex;have hmm:= @run_makeMap Tryz.prog
 have HN:=ah hN;have aV:=ah hok;obtain⟨nn,hnn⟩:=aj g.nodes.length;have hnl:=hok.nl
 rw[hnn]at hnl⊢;have aC:=ah hnn;have dN:=ah hlen;clear hN hR hok h hnn hlen
 have HST:=ah (mV.start w (.slice An nn cn) (.slice Ar g.aA.length cr))
 obtain⟨W1,hW1⟩:=aj (((w.alloc (.cells #[.slice An nn cn,.slice Ar g.aA.length cr] 26)).alloc (.map #[] 0)).alloc (.cells #[.map (some (w.heap.size+1))] 113))
 have HW1:=ah hW1;rw[hW1]at HST;clear hW1;obtain⟨c0,c1⟩:=cells2 HST.box
 go_enter Tryz.func21,Tryz.ntmps21
 go_upto_region 4 with fail
 rw[HW1.out];clear HW1;go_wp2_with fail
 go_loopg [20] nn (fun q x wr=> ∃k:Nat,x=.int .i64 k/\k+q=nn/\mV w (.slice An nn cn) (.slice Ar g.aA.length cr) ((g.nodes.take k).flatMap Gr.N.labels) wr)
 case atStart=>exact⟨0,rfl,by omega,HST.out⟩
 obtain⟨k,rfl,hk,hrl⟩:=hrel;have aO:=ah hrl;have HK:=ah hk;clear hrl c0 c1;cases gk with
 |succ q=>
  have hkn:k<nn:=by omega
  have dH:(k:Int)<nn:=by omega
  obtain⟨n,hn⟩: ∃n,g.nodes[k]?=some n:=⟨_,dF (by rw[aC.out];exact hkn)⟩
  obtain⟨b,o,Al,cl,Ap,cp,rfl,hbB,⟨D0,D1,D2⟩,r1,-⟩:=HN.node hn;have hBW:=aO.bel.mono hB
  have d0:=(hBW.cell (p:=⟨b,o+k*3,none⟩) hbB).trans D0
  have d1:=(hBW.cell (p:=⟨b,o+k*3+1,none⟩) hbB).trans D1
  have d2:=(hBW.cell (p:=⟨b,o+k*3+2,none⟩) hbB).trans D2
  obtain⟨ln,hln⟩:=aj n.labels.length;have jU:=aV.ns n (adI hn);have hll:=jU.ll
  rw[hln]at hll d1 r1
  obtain⟨WN,bQ⟩:=aj (wr.alloc (.cells #[.int .i64 n.id,.slice Al ln cl,.slice Ap n.props.length cp] 42))
  have fU:=ah bQ
  have fP:=ah (show mV w _ _ _ WN by rw[<-bQ];exact aO.below ((Below.refl _ _).alloc (ac4 _) _))
  have bW:=ah (show au WN wr.heap.size 42 #[.int .i64 n.id,.slice Al ln cl,.slice Ap n.props.length cp] by rw[<-bQ];exact au.new _ _ _)
  have iJ:=ah r1;have HLS:=ah jU.ls;have dJ:=ah hln;have AZ:=ah (J3 (f:=Gr.N.labels) hn)
  have og:=ah (P5 (f:=Gr.N.labels) hn);clear bQ hbB D0 D1 D2 r1 jU hn hln hk hkn hBW
  go_upto_region 7 with fail
  rw[fU.out];clear d0 d1 d2;obtain⟨e0,e1,e2⟩:=cells3 bW.out;go_wp2_with fail
  go_loopg [27] ln (fun q x wx=> ∃j:Nat,x=.int .i64 j/\j+q=ln/\mV w (.slice (some ⟨b,o,none⟩) nn cn) (.slice Ar g.aA.length cr) ((g.nodes.take k).flatMap Gr.N.labels++n.labels.take j) wx)
  case atStart=>exact⟨0,rfl,by omega,by simpa using fP.out⟩
  obtain⟨j,rfl,hj,hrx⟩:=hrel;have WV:=ah hrx;have HJ:=ah hj;clear hrx e0 e1 e2
  cases gk with
  |succ q'=>
   have hjn:j<ln:=by omega
   have Az:(j:Int)<ln:=by omega
   obtain⟨p,o',x,rfl,AA,hx,hp⟩:=(iJ.below (WV.bel.mono hB)).cell hjn;rw[adX]at hx
   obtain⟨y,hy,rfl⟩:=ae4.1 hx;unfold ST at hp;obtain⟨z,hz⟩:=aj (⟨y.toArray⟩:ByteArray)
   rw[hz]at hp;have hzd:z.data.toList=y:=by rw[<-hz]
   have hzs:z.size<=maxLen:=by
    have:=HLS.out y (adI hy);rw[Lib.size_eq,hzd];unfold maxLen;omega
   obtain⟨L,hL⟩:=aj ((g.nodes.take k).flatMap Gr.N.labels++n.labels.take j)
   have gY:L.length<1073741824:=by
    have h1:=dN.out;have h2:=aeH List.length og.out;have h3:=aeH List.length (abJ hy)
    simp only[adf,adQ]at h2 h3;unfold Gr.ql at h1;rw[<-hL,adf];omega
   have MN:=WV;rw[hL]at MN;have hlk:=MN.map.look (t:=113) Tryz.underlying113 hzs
   obtain⟨N,hNc⟩:=aj (L.count z.data.toList);have qX:N<=L.length:=by rw[<-hNc];exact afU
   rw[hNc]at hlk;have v0:=MN.var.cell 0;simp only[adE,adn]at v0;have jF:=ah hNc
   have HZD:=ah hzd;have nV:=ah hzs;have qO:=ah (IC hy);have HL:=ah hL;have nG:=ah gY
   have hNi:(N:Int)<=1073741824:=by omega
   clear hx hy hz hzd hzs hj hjn hNc hL gY qX
   go_wp2_with (at_mapUpdate;refine Ud _ rfl MN.map (by have:=nG.out;omega) (.tmp 31) (.tmp 32) (.tmp 34) 113 rfl Tryz.underlying113 rfl z nV.out rfl (by rw[jF.out];rfl) ?_)
   intro w1 hc1 hg1;have HR1:=ah (MN.put hc1 hg1);clear hc1 hg1 hlk v0 hp;go_wp2
   go_roundg q'
   case measure=>omega
   exact⟨j+1,int_eq (by omega),by have:=HJ.out;omega,by rw[qO.out,<-aeG,HL.out,<-HZD.out];exact HR1.out⟩
  |zero=>
   obtain rfl:j=ln:=by omega
   have hfin:n.labels.take j=n.labels:=ado (by rw[dJ.out];exact ac4 _)
   have hrx:=WV.out;rw[hfin,<-AZ.out]at hrx;have vX:=ah hrx;clear hfin hrx hj;go_wp2
   go_roundg q
   case measure=>omega
   exact⟨k+1,int_eq (by omega),by have:=HK.out;omega,vX.out⟩
 |zero=>
  obtain rfl:k=nn:=by omega
  have hfin:g.nodes.take k=g.nodes:=ado (by rw[aC.out];exact ac4 _)
  have hrl:=aO.out;rw[hfin]at hrl;have vX:=ah hrl;have v0:=hrl.var.cell 0
  simp only[adE,adn]at v0;have eG:=ah (UQ (w.heap.size+1) (Gr.ql g) wr hrl.map dN.out)
  clear hfin hrl hk;go_wp2_with fail;refine(UO _ _).mono ?_;rintro e w2 ⟨rfl,rfl⟩
  go_wp2_with fail;refine eG.mono ?_;rintro e w3 ⟨A,c,rfl,ho,hb⟩;have HO:=ah ho
  have HB:=ah hb;clear ho hb v0;go_wp2;go_ret
  have hbb:=vX.bel.alloc vX.bel.size (.cells #[.map (some (w.heap.size+1))] 113)
  exact⟨A,c,rfl,own_base HO.out hbb.size,hbb.trans (HB.mono hbb.size)⟩
theorem akP (B:Nat) (u:Value) (g:Gr.G) (w:World) (h:jQ w B u g) (hB:B<=w.heap.size):
  Calls Tryz.prog 21 #[u,.int .i64 2] w fun e w'=> ∃A c,e=.returned (.slice A (Gr.dedup (Gr.names2 g)).length c)/\w'.ownsRow w.heap.size 9 1 (.slice A (Gr.dedup (Gr.names2 g)).length c) (Gr.dedup (Gr.names2 g)).length ((sortL (Gr.names2 g)).map ST)/\Below w.heap.size w w':=by
 have hok:=h.ok;obtain⟨An,cn,Ar,cr,rfl,hN,hR⟩:=h.ex;have hmm:= @run_makeMap Tryz.prog
 have HR:=ah hR;have aV:=ah hok;obtain⟨rn,hrn⟩:=aj g.aA.length;have hrl:=hok.rl
 rw[hrn]at hrl⊢;have fP:=ah hrn;clear hN hR hok h hrn
 have HST:=ah (mV.start w (.slice An g.nodes.length cn) (.slice Ar rn cr))
 obtain⟨W1,hW1⟩:=aj (((w.alloc (.cells #[.slice An g.nodes.length cn,.slice Ar rn cr] 26)).alloc (.map #[] 0)).alloc (.cells #[.map (some (w.heap.size+1))] 113))
 have HW1:=ah hW1;rw[hW1]at HST;clear hW1;obtain⟨c0,c1⟩:=cells2 HST.box
 go_enter Tryz.func21,Tryz.ntmps21
 go_upto_region 14 with fail
 rw[HW1.out];clear HW1;go_wp2_with fail
 go_loopg [42] rn (fun q x wr=> ∃k:Nat,x=.int .i64 k/\k+q=rn/\mV w (.slice An g.nodes.length cn) (.slice Ar rn cr) ((g.aA.take k).map Gr.R.type) wr)
 case atStart=>exact⟨0,rfl,by omega,HST.out⟩
 obtain⟨k,rfl,hk,hrl⟩:=hrel;have aO:=ah hrl;have HK:=ah hk;clear hrl c0 c1;cases gk with
 |succ q=>
  have hkn:k<rn:=by omega
  have dH:(k:Int)<rn:=by omega
  obtain⟨n,hn⟩: ∃n,g.aA[k]?=some n:=⟨_,dF (by rw[fP.out];exact hkn)⟩
  obtain⟨b,o,Ap,cp,rfl,hbB,⟨D0,D1,D2,D3,D4⟩,-⟩:=HR.rel hn
  obtain⟨z,hz⟩:=aj (⟨n.type.toArray⟩:ByteArray);unfold ST at D1;rw[hz]at D1
  have hBW:=aO.bel.mono hB;have d0:=(hBW.cell (p:=⟨b,o+k*5,none⟩) hbB).trans D0
  have d1:=(hBW.cell (p:=⟨b,o+k*5+1,none⟩) hbB).trans D1
  have d2:=(hBW.cell (p:=⟨b,o+k*5+2,none⟩) hbB).trans D2
  have d3:=(hBW.cell (p:=⟨b,o+k*5+3,none⟩) hbB).trans D3
  have d4:=(hBW.cell (p:=⟨b,o+k*5+4,none⟩) hbB).trans D4
  have hzd:z.data.toList=n.type:=by rw[<-hz]
  have hzs:z.size<=maxLen:=by
   have:=(aV.rs n (adI hn)).tl;rw[Lib.size_eq,hzd];unfold maxLen;omega
  obtain⟨WN,bQ⟩:=aj (wr.alloc (.cells #[.int .i64 n.id,.string z,.int .i64 n.src,.int .i64 n.dst,.slice Ap n.props.length cp] 44))
  have fU:=ah bQ
  have zU:=ah (show mV w _ _ _ WN by rw[<-bQ];exact aO.below ((Below.refl _ _).alloc (ac4 _) _))
  have bW:=ah (show au WN wr.heap.size 44 #[.int .i64 n.id,.string z,.int .i64 n.src,.int .i64 n.dst,.slice Ap n.props.length cp] by rw[<-bQ];exact au.new _ _ _)
  obtain⟨L,hL⟩:=aj ((g.aA.take k).map Gr.R.type)
  have gY:L.length<1073741824:=by rw[<-hL,adU,aeb];omega
  rw[hL]at zU;have hlk:=zU.map.look (t:=113) Tryz.underlying113 hzs
  obtain⟨N,hNc⟩:=aj (L.count z.data.toList);have qX:N<=L.length:=by rw[<-hNc];exact afU
  rw[hNc]at hlk;have v0:=zU.var.cell 0;simp only[adE,adn]at v0;have jF:=ah hNc
  have HZD:=ah hzd;have nV:=ah hzs;have qO:=ah (IC hn);have HL:=ah hL;have nG:=ah gY
  have hNi:(N:Int)<=1073741824:=by omega
  clear bQ hbB D0 D1 D2 D3 D4 hn hk hkn hBW hz hzd hzs hNc hL gY qX
  go_upto_region 17 with fail
  rw[fU.out];clear d0 d1 d2 d3 d4;obtain⟨e0,e1,e2,e3,e4⟩:=cells5 bW.out
  go_wp2_with (at_mapUpdate;refine Ud _ rfl zU.map (by have:=nG.out;omega) (.tmp 46) (.tmp 48) (.tmp 50) 113 rfl Tryz.underlying113 rfl z nV.out rfl (by rw[jF.out];rfl) ?_)
  intro w1 hc1 hg1;have HR1:=ah (zU.put hc1 hg1);clear hc1 hg1 hlk v0 e0 e1 e2 e3 e4
  go_wp2
  go_roundg q
  case measure=>omega
  exact⟨k+1,int_eq (by omega),by have:=HK.out;omega,by rw[qO.out,ad8,HL.out];have h:=HR1.out;rw[HZD.out]at h;exact h⟩
 |zero=>
  obtain rfl:k=rn:=by omega
  have hfin:g.aA.take k=g.aA:=ado (by rw[fP.out];exact ac4 _)
  have hrl:=aO.out;rw[hfin]at hrl;have vX:=ah hrl;have v0:=hrl.var.cell 0
  simp only[adE,adn]at v0
  have eG:=ah (UQ (w.heap.size+1) (Gr.names2 g) wr hrl.map (by unfold Gr.names2;rw[adU,fP.out];omega))
  clear hfin hrl hk;go_wp2_with fail;refine(UO _ _).mono ?_;rintro e w2 ⟨rfl,rfl⟩
  go_wp2_with fail;refine eG.mono ?_;rintro e w3 ⟨A,c,rfl,ho,hb⟩;have HO:=ah ho
  have HB:=ah hb;clear ho hb v0;go_wp2;go_ret
  have hbb:=vX.bel.alloc vX.bel.size (.cells #[.map (some (w.heap.size+1))] 113)
  exact⟨A,c,rfl,own_base HO.out hbb.size,hbb.trans (HB.mono hbb.size)⟩
attribute [local go_sem] Oper.semAt_some
theorem U4 (B:Nat) (u:Value) (g:Gr.G) (w:World) (h:jQ w B u g) (hB:B<=w.heap.size) (hlen:(Gr.dX g).length<=1073741823):
  Calls Tryz.prog 21 #[u,.int .i64 3] w fun e w'=> ∃A c,e=.returned (.slice A (Gr.dedup (Gr.jP g)).length c)/\w'.ownsRow w.heap.size 9 1 (.slice A (Gr.dedup (Gr.jP g)).length c) (Gr.dedup (Gr.jP g)).length ((sortL (Gr.jP g)).map ST)/\Below w.heap.size w w':=by
 have hok:=h.ok;obtain⟨An,cn,Ar,cr,rfl,hN,hR⟩:=h.ex;have hmm:= @run_makeMap Tryz.prog
 have HN:=ah hN;have HR:=ah hR;have aV:=ah hok;have HLEN:=ah hlen
 obtain⟨nn,hnn⟩:=aj g.nodes.length;obtain⟨rn,hrn⟩:=aj g.aA.length
 have HIT:=ah (fun(T n₁ Bt:Nat) (W1:World)=>abL T n₁ B Bt g An Ar cn cr w hN hR hok W1)
 rw[hnn,hrn]at HIT;rw[hnn,hrn];clear hN hR hok h hlen
 have HST:=ah (mV.start w (.slice An nn cn) (.slice Ar rn cr))
 obtain⟨W0,hW0⟩:=aj (((w.alloc (.cells #[.slice An nn cn,.slice Ar rn cr] 26)).alloc (.map #[] 0)).alloc (.cells #[.map (some (w.heap.size+1))] 113))
 have hz0:W0.heap.size=w.heap.size+3:=by rw[<-hW0];simp
 have HW0:=ah hW0;rw[hW0]at HST;clear hW0;obtain⟨c0,c1⟩:=cells2 HST.box
 refine TR Tryz.func21 rfl ?_
 simp only[Tryz.ntmps21,ao9,adQ,ae8,Nat.reduceAdd,Nat.reduceSub,apZ,ap2,aqT,anH,aex,afq]
 go_upto_region 20 with fail
 rw[HW0.out];clear HW0
 go_wp2_with (go_at_call 59;refine(abP _ _ _).mono ?_;rintro e w' ⟨rfl,rfl⟩)
 obtain⟨W,hW⟩:=aj (W0.alloc (.cells #[.slice An nn cn,.slice Ar rn cr] 26))
 have hsz:W.heap.size=w.heap.size+4:=by rw[<-hW,World.size_alloc,hz0]
 have WW:mV w (.slice An nn cn) (.slice Ar rn cr) [] W:=by rw[<-hW];exact HST.below ((Below.refl _ _).alloc (ac4 _) _)
 have hcap0:au W W0.heap.size 26 #[.slice An nn cn,.slice Ar rn cr]:=by rw[<-hW];exact au.new _ _ _
 rw[hW];rw[hz0]at hcap0;clear hW c0 c1;refine(wpIn_wide (n:=9)).1 ?_
 refine' aaE 140 (gf:=97) (lb:= #[.pointer (some ⟨w.heap.size+3,0,none⟩)]) rfl (enters_of Tryz.func97 (by kernel_rfl) rfl) (encs:=Fg) (fun x=>rfl) (Pre:=fun _ _ _=>True) _ aep (fun x W=>(Below.refl _ W).alloc (ac4 _) _) (fun _ _ _ _ _ _ _ _=>trivial)
  (fun W1 hb hn=>HIT.out 140 W.heap.size (w.heap.size+3) W1)
  (fun pre V=>mV w (.slice An nn cn) (.slice Ar rn cr) (pre.map fun x=>x.p.key) V/\au V (w.heap.size+3) 26 #[.slice An nn cn,.slice Ar rn cr])
  (fun c V=>False)
  ?hI ?hIx ?hAux ⟨WW,hcap0⟩ ?assign ?body ?done ?stop
 case hI=>
  rintro pre A B' ⟨h1,h2⟩ hs
  exact⟨⟨hs.blk h1.box (by decide),hs.aaO h1.map,hs.blk h1.var (by decide),h1.bel.trans (hs.below (by omega) h1.bel.size)⟩,hs.blk h2 (by decide)⟩
 case hIx=>
  rintro c A B' h hs;exact h
 case hAux=>
  rintro pre V ⟨h1,h2⟩;exact⟨h1.bel.mono hB,h2⟩
 case assign=>
  intro l x V K hK;simp only[Fg,gB.cells,ST]
  gi_wp2
  exact hK
 case body=>
  rintro l pre x W0 Va V ⟨h1,h2⟩ hs1 hs2 hblk hvs - hstep hl hn0;have hs':=hs1.trans hs2
  obtain⟨p,nK,lF,nM,lG⟩:=x;obtain⟨hpre,QT,QU⟩:=hstep
  have hmem:p∈Gr.dX g:=hpre.subset (by simp)
  have qo:uF p:=by
   unfold Gr.dX at hmem
   rcases aem.1 hmem with hm|hm
   ·obtain⟨n,hn,hp⟩:=ae9.1 hm
    exact(aV.ns n hn).ps p hp
   obtain⟨n,hn,hp⟩:=ae9.1 hm;exact(aV.rs n hn).ps p hp
  have g1:mV w (.slice An nn cn) (.slice Ar rn cr) (pre.map fun x=>x.p.key) V:=⟨hs'.blk h1.box (by decide),hs'.aaO h1.map,hs'.blk h1.var (by decide),h1.bel.trans (hs'.below (by omega) h1.bel.size)⟩
  have g2:=hs'.blk h2 (show 26≠140 by decide)
  have gt:=hblk Va.heap.size 39 _ (au.new _ _ _)
  obtain⟨z,hz⟩:=aj (⟨p.key.toArray⟩:ByteArray);have hzd:z.data.toList=p.key:=by rw[<-hz]
  have hzs:z.size<=maxLen:=by
   have:=qo.key;rw[Lib.size_eq,hzd];unfold maxLen;omega
  simp only[gB.cells,ST,hz]at gt;obtain⟨t0,t1,t2,t3,t4,t5⟩:=FV gt
  obtain⟨L,hL⟩: ∃L,pre.map (fun x=>x.p.key)=L:=⟨_,rfl⟩
  have gY:L.length<1073741824:=by
   have q:=hpre.length_le;have:=HLEN.out;rw[adU,adf,aeM]at q;rw[<-hL,adU];omega
  rw[hL]at g1;have hlk:=g1.map.look (t:=113) Tryz.underlying113 hzs
  obtain⟨N,hNc⟩:=aj (L.count z.data.toList);have qX:N<=L.length:=by rw[<-hNc];exact afU
  rw[hNc]at hlk;have v0:=g1.var.cell 0;simp only[adE,adn]at v0;have jF:=ah hNc
  have HZD:=ah hzd;have nV:=ah hzs;have HL:=ah hL;have nG:=ah gY;have G1:=ah g1
  have G2:=ah g2;have hNi:(N:Int)<=1073741824:=by omega
  clear hs' hs1 hs2 hblk h1 h2 hpre QT QU hmem qo g1 g2 gt hz hzd hzs hNc qX hL gY WW hcap0
  gi_wp2_with (gi_at_mapUpdate;refine ajr _ rfl G1.out.map (by have:=nG.out;omega) (.tmp 57) (.tmp 59) (.tmp 61) 113 rfl Tryz.underlying113 rfl z nV.out rfl (by rw[jF.out];rfl) ?_)
  intro w1 hc1 hg1;have HR1:=ah (G1.out.put hc1 hg1);have qQ:=ah hg1;clear hc1 hg1 hlk v0
  gi_wp2
  refine⟨KeepsFrom.of_grownBy qQ.out (fun j e=>by cases e;omega),kR.Ad qQ.out (fun g' c fz e hc=> ?_), ?_,G2.out.grown qQ.out (by simp)⟩
  ·cases e
   obtain⟨n',D',-,⟨es,clock,hbm,-⟩,-⟩:=G1.out.map.ex;rw[hbm]at hc;cases hc
  rw[ad8,HL.out];have h:=HR1.out;rw[HZD.out]at h;exact h
 case done=>
  rintro D xs V hD hend ⟨h1,h2⟩ hK
  have hnm:xs.map (fun x=>x.p.key)=Gr.jP g:=by
   unfold UU at hend;unfold Gr.jP;rw[<-hend,agk];rfl
  rw[hnm]at h1;have vX:=ah h1;have v0:=h1.var.cell 0;simp only[adE,adn]at v0
  have eG:=ah (UQ (w.heap.size+1) (Gr.jP g) V h1.map (by unfold Gr.jP;rw[adU];have:=HLEN.out;omega))
  have vN:=ah hK;have pY:=ah hD;have fF:=ah hsz
  clear hnm h1 h2 hend hK hD hsz hz0 WW hcap0;go_wp2_with fail;refine(UO _ _).mono ?_
  rintro e w2 ⟨rfl,rfl⟩;go_wp2_with fail;refine eG.mono ?_;rintro e w3 ⟨A,c,rfl,ho,hb⟩
  have hDl:D<V.heap.size:=(adZ.1 vN.out).1
  have hK2:w3.heap[D]?=some (.deferred (some [])):=(hb.block D (by rw[World.size_alloc];omega)).trans ((Below.heap_alloc V _ D hDl).trans vN.out)
  have HO:=ah ho;have HB:=ah hb;clear ho hb v0;go_wp2
  refine Pn hK2 (v:=.slice A (Gr.dedup (Gr.jP g)).length c) (by simp[results,Tryz.results21,go_sem]) ?_
  have hbb:=vX.bel.alloc vX.bel.size (.cells #[.map (some (w.heap.size+1))] 113)
  exact⟨A,c,rfl,own_base (aae hK2 HO.out) hbb.size,Pm (hbb.trans (HB.mono hbb.size)) (by have:=fF.out;have:=pY.out;omega)⟩
 rintro D c V hD h hK;exact h.elim
end Go.Proofs.YtkdakckjafomhaaGreatDoor
