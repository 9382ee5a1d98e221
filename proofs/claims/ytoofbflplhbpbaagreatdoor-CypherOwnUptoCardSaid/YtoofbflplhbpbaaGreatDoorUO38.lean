/- Contracts and plain laws,part 38. -/
import Derived.Test.YtoofbflplhbpbaaGreatDoorUO37
set_option maxHeartbeats 64000000
set_option maxRecDepth 1000000
set_option linter.all false
namespace Go.Proofs.YtoofbflplhbpbaaGreatDoor
open Go.RowKit
def Ll (W:World) (g off m:Nat):Prop:= ∀j,j<m-> ∃y:UInt8,W.cell? ⟨g,off+j,none⟩=some (.int .u8 (y.toNat:Int))
theorem Ll.grown {W W':World} {g off m:Nat} {row:Option Nat} (h:Ll W g off m) (hg:W.grownBy W' row) (hne:some g≠row):Ll W' g off m:=fun j hj=>by
 obtain ⟨y,hy⟩:=h j hj;have hlt:g<W.heap.size:=World.block_lt_of_cell? W ⟨g,off+j,none⟩ hy
 refine ⟨y, ?_⟩;have hb:=hg.block g hlt hne;simp only [World.cell?,hb] at hy⊢;exact hy
theorem ajz (x:Int): ∃v:Nat,v<18446744073709551616/\IntKind.u64.wrap x=(v:Int):=by
 have e:IntKind.u64.wrap x=x % 18446744073709551616:=by rw [IntKind.wrap_u64]
 exact ⟨(x % 18446744073709551616).toNat,by omega,by rw [e];omega⟩
def Po (B n k m g off:Nat) (w:World) (A:Option Addr) (c:Nat) (V:World):Prop:= ∃l:List UInt8,OwnB B (.slice A (n+k) c) l V/\l.length=n+k/\Below B w V/\Ll V g off m/\(Value.slice A (n+k) c).ownBlock≠some g
theorem abx (B:Nat) (A:Option Addr) (c n:Nat) (kd x:Int) (l:List UInt8) (w:World) (h:OwnB B (.slice A n c) l w) (h1:l.length=n) (hn:n<=536870912) (hB:B<=w.heap.size):
  Calls Tryz.prog 225 #[.slice A n c, .int .i64 kd, .int .i64 x] w (nR B (n+(if kd=1 then 1 else 8)) w):=by
 obtain ⟨v,hv,hw⟩:=ajz x;have sH:=ah (amv v w hv);have H:=ah h;have HL:=ah h1
 have HN:=ah hn;have aH:=ah hB;obtain ⟨m,hm⟩: ∃m,(if kd=1 then 1 else 8)=m:=⟨_,rfl⟩
 rw [hm];have HM:=ah hm;clear hv h h1 hn hB hm;go_enter Tryz.func225,Tryz.ntmps225
 go_wp2_with fail;refine sH.out.mono ?_;rintro e w1 ⟨A1,c1,l1,rfl,ho,hl,hb⟩
 have HX:=ah (And.intro ho (And.intro hl hb));clear ho hl hb sH hw
 have hX: ∃g,A1=some ⟨g,0,none⟩/\w.heap.size<=g/\Ll w1 g 0 8/\8<=c1:=by
  obtain ⟨ho,hl,hb⟩:=HX.out;unfold OwnB at ho;rw [hl] at ho
  rcases ho.2 with ⟨e,h0⟩ |⟨g,cap,cur,e,hg,hc,q1,q2,q3⟩
  ·exact absurd h0 (by decide)
  cases e;refine ⟨g,rfl,hg,fun j hj=> ?_,by first | exact q1 | exact q2 | omega⟩
  obtain ⟨g',e',-,hcl,-⟩:=qI (t:=j) ho (by omega)
  cases e'
  exact ⟨l1[j]'(by rw [hl];exact hj),by rw [akA,hcl];unfold Lib.byteCells;rw [acJ,ab2 (by rw [hl];exact hj)];rfl⟩
 obtain ⟨g,rfl,hgw,hby,hc1⟩:=hX
 have HY:=ah (show∀off,off+m<=8->Po B n 0 m g off w A c w1 from fun off ho=>⟨l,own_below H.out HX.out.2.2,HL.out,HX.out.2.2.mono aH.out,fun j hj=>by have:=hby (off+j) (by omega);rwa [akA] at this,fun e=>by have:=(World.ownsRow.lt H.out g e).2;omega⟩)
 clear hby hgw HX;obtain ⟨tb,htb⟩: ∃b,(kd == 1)=b:=⟨_,rfl⟩
 go_upto_if 13 with fail
 go_cut [7] (fun s7 wx=> ∃(off cx:Nat),s7= .slice (some ⟨g,off,none⟩) m cx/\Po B n 0 m g off w A c wx)
 case first=>
  cases tb with
  | true=>
   have hm1:m=1:=by rw [<-HM.out,ab7 (adp.1 htb)]
   subst hm1;have aok:(8:Int)<=c1:=by omega
   clear htb;refine wp_cond_true rfl ?_;go_wp2;go_meet
   exact ⟨7,c1 - 7,by simp,HY.out 7 (by omega)⟩
  | false=>
   have hm8:m=8:=by rw [<-HM.out,ab6 (fun e=>by rw [e] at htb;cases htb)]
   subst hm8;clear htb;refine wp_cond_false rfl ?_;go_wp2;go_meet
   exact ⟨0,c1,rfl,HY.out 0 (by omega)⟩
 obtain ⟨off,cx,rfl,hs⟩:=hcut;have HS:=ah hs
 have HM8:=ah (show m<=8 by rw [<-HM.out];split<;> omega)
 clear hs HY;go_wp2_with fail
 go_loopg [0,8] m (fun q v x wr=> ∃(k:Nat) (A':Option Addr) (c':Nat),v= .slice A' (n+k) c'/\x= .int .i64 k/\k+q=m/\Po B n k m g off w A' c' wr)
 case atStart=>exact ⟨0,A,c,rfl,rfl,by omega,HS.out⟩
 obtain ⟨k,A',c',rfl,rfl,hk,l2,ho,hl,hb,hy,hne⟩:=hrel;have HO:=ah ho;have HL2:=ah hl
 have HB:=ah hb;have HY:=ah hy;have kZ:=ah hne;clear ho hl hb hy hne HS;cases gk with
 | zero=>
  obtain rfl:k=m:=by omega
  clear hk;go_wp2;go_ret;exact ⟨_,_,_,rfl,HO.out,HL2.out,HB.out⟩
 | succ q=>
  have hkm:k<m:=by omega
  have aeh:(k:Int)<m:=by omega
  have pk:(0:Int)<=(k:Int):=by omega
  have tk:((k:Int)).toNat=k:=by omega
  obtain ⟨y,hy⟩:=HY.out k hkm
  have hlt:g<wr.heap.size:=World.block_lt_of_cell? wr ⟨g,off+k,none⟩ hy
  have hl2:n+k<1073741824:=by have:=HN.out;have:=HM8.out;omega
  have hBr:B<=wr.heap.size:=ab5 aH.out HB.out.size;have HK:=ah hk;have aB:=ah hlt
  have ho:=HO.out;unfold OwnB at ho;rw [HL2.out] at ho;have iK:=ah ho;clear hk hkm hlt ho
  go_wp2_with (at_builtin;refine rP rfl (.tmp 22) (.tmp 27) 55 5 (.int .u8 0) 1 Tryz.underlying55 SY rfl (by decide) rfl B (.slice A' (n+k) c') (n+k) (Lib.byteCells l2) wr rfl iK.out (.int .u8 (y.toNat:Int)) rfl rfl hl2 hBr ?_)
  intro v9 w9 bI bG jo aF;obtain ⟨A9,c9,rfl⟩:=aJ bI
  have H9:=ah (show Po B n (k+1) m g off w A9 c9 w9 from ⟨l2 ++ [y],by unfold OwnB;rw [Ij,byteCells_one,dA,HL2.out];exact bI,by rw [dA,HL2.out];rfl,HB.out.trans aF,HY.out.grown bG (fun e=>kZ.out e.symm),fun e=>by
   rcases jo with h |⟨b,h,hb⟩
   ·exact kZ.out (h.symm.trans e)
   have e2:b=g:=acE (h.symm.trans e);have:=aB.out
   omega⟩)
  clear bI bG jo aF hl2 hBr hy;go_wp2
  go_roundg q
  case measure=>omega
  exact ⟨k+1,A9,c9,rfl,by rw [IntWalk.wrap64_in _ (by have:=HM8.out;have:=HK.out;omega)];rfl,by have:=HK.out;omega,H9.out⟩
theorem ajA (k n:Int) (t:List UInt8) (ns:List Int) (ts:List (List UInt8)):Gr.kQ ⟨k,n,t,ns,ts⟩=if k<4 then 1+(if k=1 then 1 else 8) else if k=4 then 3+t.length else 2+ns.length*(if k - 4=1 then 1 else 8)+(ts.map fun t=>2+t.length).sum:=by
 unfold Gr.kQ;simp only;by_cases h4:k<4
 ·rw [ab7 h4,ab7 h4]
  by_cases h1:k=1
  ·rw [ab7 h1,ab7 h1]
  rw [ab6 h1,ab6 h1]
 rw [ab6 h4,ab6 h4];by_cases h6:k=5
 ·rw [ab7 h6,ab7 (show k - 4=1 by omega)]
 rw [ab6 h6,ab6 (show¬k - 4=1 by omega)]
theorem ajB (B:Nat) (u:Value) (v:ak.V) (w:World) (h:jR w B u v) (hB:B<=w.heap.size) (h0:ak.check v=0):
  Calls Tryz.prog 165 #[u] w fun e w'=> ∃A c,e= .returned (.slice A (Gr.kQ v) c)/\Below w.heap.size w w':=by
 obtain ⟨hp1,uP,-,CS,zM,htl,jF,-⟩:=ak.yU h0
 have hch:=fun (W:World) (hb:Below w.heap.size w W)=>QH B u v W (h.below (hb.mono hB)) (ab5 hB hb.size)
 rw [h0] at hch;obtain ⟨A1,c1,A2,c2,rfl,cO,bP⟩:=h.ex;obtain ⟨k0,n0,t0,ns,ts⟩:=v
 simp only at hch cO bP hp1 uP CS zM htl jF⊢
 obtain ⟨y,rfl⟩: ∃y:UInt8,k0=(y.toNat:Int):=⟨UInt8.ofNat k0.toNat,by rw [alI (show k0.toNat<UInt8.size from by show k0.toNat<256;omega)];omega⟩
 obtain ⟨z,hz⟩: ∃z:ByteArray,(⟨t0.toArray⟩:ByteArray)=z:=⟨_,rfl⟩
 have hzs:z.size=t0.length:=by rw [<-hz];exact bf _
 rw [hz] at hch⊢;obtain ⟨nn,hnn⟩: ∃n,ns.length=n:=⟨_,rfl⟩
 obtain ⟨tn,htn⟩: ∃n,ts.length=n:=⟨_,rfl⟩;rw [hnn] at hch CS cO⊢;rw [htn] at hch zM bP⊢
 obtain ⟨W1,hW1⟩: ∃W1,(w.alloc (.cells #[.int .i64 (y.toNat:Int), .int .i64 n0, .string z, .slice A1 nn c1, .slice A2 tn c2] 25)).alloc (.cells #[] 5)=W1:=⟨_,rfl⟩
 have hb1:Below w.heap.size w W1:=by rw [<-hW1];exact ((Below.refl _ w).alloc (ab1 _) _).alloc (by simp) _
 have k1:aj W1 w.heap.size 25 #[.int .i64 (y.toNat:Int), .int .i64 n0, .string z, .slice A1 nn c1, .slice A2 tn c2]:=by rw [<-hW1];exact (aj.new _ _ _).alloc _
 have o1:OwnB (w.heap.size+1) (.slice (some ⟨w.heap.size+1,0,none⟩) 0 0) [] W1:=by
  have:=qJ (w.alloc (.cells #[.int .i64 (y.toNat:Int), .int .i64 n0, .string z, .slice A1 nn c1, .slice A2 tn c2] 25)) 5 1
  rw [hW1] at this
  simpa [OwnB,Lib.byteCells] using this
 have yE:=ah (hch W1 hb1);have aT:=ah k1;have HB1:=ah hb1;have mY:=ah o1;have HW1:=ah hW1
 have HR1:=ah (cO.below (hb1.mono hB));have HR2:=ah (bP.below (hb1.mono hB))
 obtain ⟨E,hEE⟩: ∃E,Gr.kQ ⟨(y.toNat:Int),n0,t0,ns,ts⟩=E:=⟨_,rfl⟩;rw [hEE];have Ox:=ah hEE
 have WO:=ajA (y.toNat:Int) n0 t0 ns ts;rw [hEE,<-hzs,hnn] at WO;have HEP:=ah WO
 have KL:=ah (Td jF);have aI:=ah htn;have eP:=ah hB
 clear h hch cO bP hW1 hb1 k1 o1 h0 hz hEE WO jF hnn htn hB
 go_enter Tryz.func165,Tryz.ntmps165
 go_upto_region 2 with fail
 rw [HW1.out];clear HW1;obtain ⟨d0,d1,d2,d3,d4⟩:=cells5 aT.out;go_wp2_with fail
 refine yE.out.mono ?_;rintro e w2 ⟨rfl,hb2⟩
 have HB2:=ah (HB1.out.trans (hb2.mono HB1.out.size))
 have aC:=ah (aT.out.below hb2 aT.out.lt)
 have iK:=ah (show OwnB (w.heap.size+1) (.slice (some ⟨w.heap.size+1,0,none⟩) 0 0) [] w2 from own_below mY.out hb2)
 have HR3:=ah (And.intro (HR1.out.below (hb2.mono (ab5 eP.out HB1.out.size))) (HR2.out.below (hb2.mono (ab5 eP.out HB1.out.size))))
 have hlt2:w.heap.size+1<=w2.heap.size:=aC.out.lt;clear d0 d1 d2 d3 d4 hb2 HR1 HR2 mY aT
 obtain ⟨d0,d1,d2,d3,d4⟩:=cells5 aC.out;have hw2:=(Jf y).2
 go_wp2_with (at_builtin;refine qE rfl (.tmp 11) (.tmp 15) rfl (w.heap.size+1) (.slice (some ⟨w.heap.size+1,0,none⟩) 0 0) [] w2 rfl iK.out [y] _ (by simp [Lib.byteCells]) 1 rfl rfl (by decide) (by decide) hlt2 ?_)
 intro v9 w9 bI bG aF;obtain ⟨A9,c9,uY⟩:=bI.form;have uY:v9= .slice A9 1 c9:=uY;subst uY
 have qy:=ah (aC.out.below aF (adH _));have dh:=ah (HB2.out.trans (aF.mono (als _)))
 have lZ:=ah bI
 have uN:=ah (And.intro (HR3.out.1.below (aF.mono (ab5 eP.out (als _)))) (HR3.out.2.below (aF.mono (ab5 eP.out (als _)))))
 have Lm:w.heap.size+1<=w9.heap.size:=qy.out.lt;clear d0 d1 d2 d3 d4 bI bG aF aC iK HB2 HR3
 obtain ⟨d0,d1,d2,d3,d4⟩:=cells5 qy.out;have lJ:=ah (And.intro hzs htl)
 by_cases h4:y.toNat<4
 ·have OU:(y.toNat:Int)<4:=by omega
  have t4:decide ((y.toNat:Int)<4)=true:=abW OU
  have hln:=abx (w.heap.size+1) A9 c9 1 (y.toNat:Int) n0 _ w9 lZ.out rfl (by omega) Lm
  obtain ⟨RL,hRL⟩: ∃x,(if (y.toNat:Int)=1 then 1 else 8)=x:=⟨_,rfl⟩
  rw [hRL] at hln;have dF:=ah hln;have aW:=ah hRL;clear hln
  have HE:=ah (show Gr.kQ ⟨(y.toNat:Int),n0,t0,ns,ts⟩=1+(if (y.toNat:Int)=1 then 1 else 8) by
   unfold Gr.kQ;rw [ab7 OU];by_cases h1:(y.toNat:Int)=1
   ·rw [ab7 h1,ab7 h1]
   rw [ab6 h1,ab6 h1])
  rw [hRL,Ox.out] at HE;clear htl hzs CS zM h4 hRL;go_wp2_with fail;refine dF.out.mono ?_
  rintro e w3 ⟨A3,c3,l3,rfl,-,-,hb3⟩;have HB3:=ah (dh.out.trans (hb3.mono (als _)))
  clear hb3;go_wp2;go_ret;exact ⟨A3,c3,by rw [HE.out];rfl,HB3.out⟩
 have OU:(4:Int)<=(y.toNat:Int):=by omega
 have t4:decide ((y.toNat:Int)<4)=false:=abX (by omega)
 by_cases h5:y.toNat=4
 ·have t5:((y.toNat:Int) == 4)=true:=by rw [adp];omega
  have Ho:=ah (abw (w.heap.size+1) A9 c9 1 z.size z _ w9 lZ.out rfl (by omega) rfl (by omega) Lm)
  have HE:=ah (show E=1+2+z.size by rw [HEP.out,ab6 (by omega),ab7 (by omega)])
  clear htl hzs CS zM h4 h5;go_wp2_with fail;refine Ho.out.mono ?_
  rintro e w3 ⟨A3,c3,l3,rfl,-,-,hb3⟩;have HB3:=ah (dh.out.trans (hb3.mono (als _)))
  clear hb3;go_wp2;go_ret;exact ⟨A3,c3,by rw [HE.out];rfl,HB3.out⟩
 have ES:(nn:Int)<=40:=Int.ofNat_le.2 CS;have htI:(tn:Int)<=40:=Int.ofNat_le.2 zM
 have t5:((y.toNat:Int) == 4)=false:=ab3.2 (by omega)
 have h5i:(5:Int)<=(y.toNat:Int):=by omega
 obtain ⟨kd,hkd⟩: ∃kd,(y.toNat:Int) - 4=kd:=⟨_,rfl⟩;have aon:1<=kd:=by omega
 have aoo:kd<=4:=by omega
 have hwk:IntKind.i64.wrap kd=kd:=IntWalk.i64_in _ (by omega)
 obtain ⟨yc,hyc⟩: ∃yc:UInt8,(nn:Int)+(tn:Int)=(yc.toNat:Int):=⟨UInt8.ofNat (nn+tn),by rw [alI (show nn+tn<UInt8.size from by show nn+tn<256;omega)];omega⟩
 obtain ⟨hw0,hw1⟩:=Jf yc;obtain ⟨L,hL⟩: ∃L,(if kd=1 then 1 else 8)=L:=⟨_,rfl⟩
 have hL8:L<=8:=by rw [<-hL];split<;> omega
 have HE:=ah (show E=2+nn*L+(ts.map fun t=>2+t.length).sum by rw [HEP.out,ab6 (by omega),ab6 (by omega),hkd,hL])
 have dR:=ah hL;clear htl hzs hL h4 h5
 go_wp2_with (at_builtin;refine qE rfl (.tmp 33) (.tmp 42) rfl (w.heap.size+1) (.slice A9 1 c9) ([] ++ [y]) w9 rfl lZ.out [yc] _ (by simp [Lib.byteCells]) 1 rfl rfl (by simp) (by decide) Lm ?_)
 intro v8 w8 oh lW hb8;have lu: [y,yc].length=2:=rfl;obtain ⟨A8,c8,Dh⟩:=oh.form
 rw [lu] at Dh;subst Dh
 have H8:=ah (show nR (w.heap.size+1) 2 w9 (.returned (.slice A8 2 c8)) w8 from ⟨A8,c8,_,rfl,oh,lu,hb8⟩)
 have CU:=ah (fun (W:World) (hb:Below (w.heap.size+1) w9 W)=>cells5 (qy.out.below hb (adH _)))
 have jV:=ah (fun (W:World) (hb:Below (w.heap.size+1) w9 W)=>(And.intro (uN.out.1.below (hb.mono (ab5 eP.out (als _)))) (uN.out.2.below (hb.mono (ab5 eP.out (als _))))))
 have oW:=ah (show w.heap.size+1<=w9.heap.size/\Below (w.heap.size+1) w9 w8 from ⟨Lm,hb8⟩)
 clear oh lW hb8 lu hw0 hw1 hyc Lm hw2 d0 d1 d2 d3 d4 hlt2
 obtain ⟨d0,d1,d2,d3,d4⟩:=CU.out w8 oW.out.2;go_wp2_with fail
 go_loopg [3,4] nn (fun g v x wr=> ∃(k:Nat) (A':Option Addr) (c':Nat),v= .slice A' (2+k*L) c'/\x= .int .i64 k/\k+g=nn/\nR (w.heap.size+1) (2+k*L) w9 (.returned (.slice A' (2+k*L) c')) wr)
 case atStart=>exact ⟨0,A8,c8,by rw [am8],rfl,by omega,by rw [am8];exact H8.out⟩
 obtain ⟨k,A',c',rfl,rfl,hk,A2,c2,l2,he,ho,hl,hb⟩:=hrel;cases he;have HO:=ah ho
 have HL2:=ah hl;have HB:=ah hb;have HK:=ah hk;clear ho hl hb H8 d0 d1 d2 d3 d4
 obtain ⟨d0,d1,d2,d3,d4⟩:=CU.out wr HB.out;have KO:k*L<=40*8:=alj (by omega) hL8
 have hBr:w.heap.size+1<=wr.heap.size:=ab5 oW.out.1 HB.out.size;cases gk with
 | succ g=>
  have hkn:k<nn:=by omega
  have dD:(k:Int)<nn:=by omega
  have pk:(0:Int)<=(k:Int):=by omega
  have tk:((k:Int)).toNat=k:=by omega
  obtain ⟨p,o,x,rfl,hlt,hx,hp⟩:=(jV.out wr HB.out).1.cell hkn;rw [acJ] at hx
  obtain ⟨v0,hv,rfl⟩:=ac7.1 hx;unfold I64 at hp
  have hln:=fun (V:World) (hb:Below wr.heap.size wr V)=>abx (w.heap.size+1) A' c' (2+k*L) kd v0 l2 V (own_below HO.out hb) HL2.out (by omega) (ab5 hBr hb.size)
  simp only [dR.out] at hln;have WQ:=ah hln
  have ou:=ah (show Below wr.heap.size wr wr.drew from (Below.refl _ wr).drew)
  have Hg:=ah (show Below (w.heap.size+1) wr wr.drew from (Below.refl _ wr).drew)
  have hpl:p<w.heap.size+1:=akr (adf hlt eP.out)
  have HKK:Hid (∀X,Below (w.heap.size+1) wr X->X.cell? ⟨w.heap.size,0,none⟩=some (.int .i64 (y.toNat:Int))/\X.cell? ⟨w.heap.size,3,none⟩=some (.slice (some ⟨p,o,none⟩) nn c1)/\X.cell? ⟨p,o+k,none⟩=some (.int .i64 v0)):=fun X hb=>
   ⟨(hb.cell (p:=⟨w.heap.size,0,none⟩) (adH _)).trans d0,(hb.cell (p:=⟨w.heap.size,3,none⟩) (adH _)).trans d3,(hb.cell (p:=⟨p,o+k,none⟩) hpl).trans hp⟩
  have HKL:=ah (show 2+k*L+L=2+(k+1)*L by rw [alm,akR])
  clear hkn hlt hx hv hln KO hBr hk hpl;go_wp2_with fail
  go_region_held3 (fun w'=>w'.cell? ⟨w.heap.size,0,none⟩=some (.int .i64 (y.toNat:Int))/\w'.cell? ⟨w.heap.size,3,none⟩=some (.slice (some ⟨p,o,none⟩) nn c1)/\w'.cell? ⟨p,o+k,none⟩=some (.int .i64 v0)) (first | go_keep | exact HKK.out _ mF | fail)
   ((first |(go_at_call 225;refine (WQ.out _ ou.out).mono ?_;rintro e w7 ⟨A7,c7,l7,rfl,Dc,yN,hb7⟩;have mF:Below (w.heap.size+1) wr w7:=Hg.out.trans hb7;have tV:=ah (And.intro Dc yN);clear Dc yN hb7) | fail))
  have HQ7:=ah (HB.out.trans mF);clear mF d0 d1 d2 d3 d4 hp;go_wp2
  go_roundg g
  case measure=>omega
  refine ⟨k+1,A7,c7,by rw [<-HKL.out],rfl,by have:=HK.out;omega, ?_⟩
  rw [<-HKL.out];exact ⟨A7,c7,l7,rfl,tV.out.1,tV.out.2,HQ7.out⟩
 | zero=>
  obtain rfl:k=nn:=by omega
  obtain ⟨M,hM⟩: ∃M,2+k*L=M:=⟨_,rfl⟩;have aec:M<=322:=by omega
  rw [hM] at HO HL2 HE⊢
  have H9:=ah (show nR (w.heap.size+1) M w9 (.returned (.slice A' M c')) wr from ⟨A',c',l2,rfl,HO.out,HL2.out,HB.out⟩)
  clear KO hk hM HO HL2;go_wp2_with fail
  go_loopg [3,5] tn (fun g v x wq=> ∃(j:Nat) (A':Option Addr) (c':Nat),v= .slice A' (M+((ts.take j).map fun t=>2+t.length).sum) c'/\x= .int .i64 j/\j+g=tn/\nR (w.heap.size+1) (M+((ts.take j).map fun t=>2+t.length).sum) w9 (.returned (.slice A' (M+((ts.take j).map fun t=>2+t.length).sum) c')) wq)
  case atStart=>exact ⟨0,A',c',rfl,rfl,by omega,H9.out⟩
  obtain ⟨j,A4,c4,rfl,rfl,hj,A5,c5,l5,he,ho,hl,hb⟩:=hrel;cases he
  have hsum:((ts.take j).map fun t=>2+t.length).sum<=1002*40:=by
   have h1:=Tf (l:=ts.take j) (fun t ht=>KL.out t (ak9 ht))
   have h2:(ts.take j).length<=40:=by rw [acW];have:=aI.out;omega
   exact ab5 h1 (akV _ h2)
  obtain ⟨T,hT⟩: ∃T,((ts.take j).map fun t=>2+t.length).sum=T:=⟨_,rfl⟩
  rw [hT] at ho hl hsum⊢;have iK:=ah ho;have Gy:=ah hl;have bZ:=ah hb;have HJ:=ah hj
  have HT:=ah hT;clear ho hl hb H9 d0 d1 d2 d3 d4 hT
  obtain ⟨d0,d1,d2,d3,d4⟩:=CU.out _ bZ.out;cases gk with
  | succ g=>
   have hkn:j<tn:=by omega
   have dD:(j:Int)<tn:=by omega
   have pk:(0:Int)<=(j:Int):=by omega
   have tk:((j:Int)).toNat=j:=by omega
   obtain ⟨p,o,x,rfl,hlt,hx,hp⟩:=(jV.out _ bZ.out).2.cell hkn;rw [acJ] at hx
   obtain ⟨v0,hv,rfl⟩:=ac7.1 hx;unfold ST at hp
   obtain ⟨zy,hzy⟩: ∃z:ByteArray,(⟨v0.toArray⟩:ByteArray)=z:=⟨_,rfl⟩;rw [hzy] at hp
   have hzl:zy.size=v0.length:=by rw [<-hzy];exact bf _
   have hyl:=KL.out v0 (acf hv)
   have hln:=abw (w.heap.size+1) A4 c4 (M+T) zy.size zy l5 _ iK.out Gy.out (by omega) rfl (by omega) (ab5 oW.out.1 bZ.out.size)
   have WQ:=ah hln
   have iJ:=ah (show M+T+2+zy.size=M+((ts.take (j+1)).map fun t=>2+t.length).sum by rw [aaS hv,HT.out,hzl];omega)
   clear hkn hlt hx hv hln hsum hj hzy hzl hyl;go_wp2_with fail;refine WQ.out.mono ?_
   rintro e w7 ⟨A7,c7,l7,rfl,Dc,yN,hb7⟩
   have tV:=ah (And.intro Dc (And.intro yN (bZ.out.trans hb7)))
   clear Dc yN hb7 d0 d1 d2 d3 d4 hp;go_wp2
   go_roundg g
   case measure=>omega
   refine ⟨j+1,A7,c7,by rw [<-iJ.out],rfl,by have:=HJ.out;omega, ?_⟩
   rw [<-iJ.out];exact ⟨A7,c7,l7,rfl,tV.out.1,tV.out.2.1,tV.out.2.2⟩
  | zero=>
   obtain rfl:j=tn:=by omega
   have hfin:ts.take j=ts:=acg (by rw [aI.out];exact ab1 _)
   have CW:=ah (show E=M+T by rw [HE.out,<-HT.out,hfin])
   have kJ:=ah (dh.out.trans (bZ.out.mono (als _)));clear hj hfin hsum;go_wp2;go_ret
   exact ⟨A4,c4,by rw [CW.out];rfl,kJ.out⟩
theorem ajC {ps:List Gr.P} {k:Nat} {p:Gr.P} (h:ps[k]?=some p):Gr.bM (ps.take (k+1))=Gr.bM (ps.take k)+Gr.kQ p.val:=by
 rw [adZ,h,I9];simp [Gr.bM]
theorem aby (B:Nat) (A:Option Addr) (c n:Nat) (ps:List Gr.P) (w:World) (h:cZ w B 6 (aQ w B) A ps) (hl:ps.length=n) (hok: ∀p∈ps,pV p) (h0: ∀p∈ps,ak.check p.val=0) (hB:B<=w.heap.size) (hn:n<=1073741824):
  Calls Tryz.prog 116 #[.slice A n c] w fun e w'=>e= .returned (.int .i64 (Gr.bM ps:Nat))/\Below w.heap.size w w':=by
 have HT:=ah (fun (k:Nat)=>show Gr.bM (ps.take k)<=41000*1073741824 from ab5 (Ja (fun p hp=>h0 p (ak9 hp))) (akV _ (by rw [acW,hl];omega)))
 have H:=ah h;have HL:=ah hl;have aK:=ah hok;have aU:=ah h0;have aH:=ah hB
 clear h hl hok h0 hB;go_enter Tryz.func116,Tryz.ntmps116;go_wp2_with fail
 go_loopg [3,4] n (fun q s x wr=> ∃k:Nat,s= .int .i64 (Gr.bM (ps.take k):Nat)/\x= .int .i64 k/\k+q=n/\Below w.heap.size w wr)
 case atStart=>exact ⟨0,rfl,rfl,by omega,Below.refl _ _⟩
 obtain ⟨k,rfl,rfl,hk,hb⟩:=hrel;have HB:=ah hb;clear hb;have hs:=HT.out k;cases gk with
 | zero=>
  obtain rfl:k=n:=by omega
  have hf:ps.take k=ps:=acg (by rw [HL.out];exact ab1 _)
  rw [hf];clear hk hs hf;go_wp2;go_ret;exact ⟨rfl,HB.out⟩
 | succ q=>
  have hkn:k<n:=by omega
  have dD:(k:Int)<n:=by omega
  have pk:(0:Int)<=(k:Int):=by omega
  have tk:((k:Int)).toNat=k:=by omega
  obtain ⟨p,hp⟩: ∃p,ps[k]?=some p:=⟨_,ab2 (by rw [HL.out];exact hkn)⟩
  have hm:=acf hp;have hBw:=HB.out.mono aH.out
  obtain ⟨b,o,An,cn,At,ct,rfl,hlt,⟨-,p1,p2,p3,p4,p5⟩,ra,rb⟩:=(H.out.below hBw (aQ.below hBw)).prop hp
  have hen:=ajB B _ p.val wr (xP (cn:=cn) (ct:=ct) (aK.out p hm).val ra rb) (ab5 aH.out HB.out.size) (aU.out p hm)
  simp only [ST] at p3 hen
  obtain ⟨z2,hz2⟩: ∃z:ByteArray,(⟨p.val.text.toArray⟩:ByteArray)=z:=⟨_,rfl⟩
  rw [hz2] at p3 hen;obtain ⟨E,hE⟩: ∃E,Gr.kQ p.val=E:=⟨_,rfl⟩
  obtain ⟨S,hS⟩: ∃S,Gr.bM (ps.take k)=S:=⟨_,rfl⟩;have hel:=NH (aU.out p hm)
  rw [hE] at hen hel;rw [hS] at hs⊢;have O4:(S:Int)<=41000*1073741824:=by omega
  have hEi:(E:Int)<=41000:=by omega
  have uV:=ah hen;have BZ:=ah (show Gr.bM (ps.take (k+1))=S+E by rw [ajC hp,hS,hE])
  have HK:=ah hk;clear hkn hp hm hBw hlt ra rb hen hz2 hE hS hel hs hk;go_wp2_with fail
  refine uV.out.mono ?_;rintro e w2 ⟨A2,c2,rfl,hb2⟩
  have HB2:=ah (HB.out.trans (hb2.mono HB.out.size));clear hb2 p1 p2 p3 p4 p5;go_wp2
  go_roundg q
  case measure=>omega
  exact ⟨k+1,int_eq (by rw [BZ.out];omega),int_eq (by omega),by have:=HK.out;omega,HB2.out⟩
theorem abz {α:Type} {l:List α} {f:α->List Gr.P} {k:Nat} {a:α} (h:l[k]?=some a):Gr.bM ((l.take (k+1)).flatMap f)=Gr.bM ((l.take k).flatMap f)+Gr.bM (f a):=by
 rw [I7 h,I9]
theorem NQ {α:Type} (l:List α) (f:α->List Gr.P) (k:Nat):Gr.bM ((l.take k).flatMap f)<=Gr.bM (l.flatMap f):=by
 conv=>rhs;rw [<-adE k l,ad4,I9]
 omega
theorem ajD (B:Nat) (u:Value) (g:Gr.G) (w:World) (h:fE w B u g) (hB:B<=w.heap.size) (hck: ∀p∈Gr.fH g,ak.check p.val=0) (hlen:(Gr.fH g).length<=1073741824):
  Calls Tryz.prog 60 #[u] w fun e w'=>e= .returned (.int .i64 (Gr.weight g:Nat))/\Below w.heap.size w w':=by
 have hok:=h.ok;obtain ⟨An,cn,Ar,cr,rfl,hN,hR⟩:=h.ex
 have hle:Gr.weight g<=41000*1073741824:=ab5 (Ja hck) (akV _ hlen)
 have hsum:Gr.weight g=Gr.bM (g.nodes.flatMap Gr.N.props)+Gr.bM (g.au.flatMap Gr.R.props):=by unfold Gr.weight Gr.fH;rw [I9]
 have hcn: ∀n∈g.nodes,∀p∈n.props,ak.check p.val=0:=fun n hn p hp=>hck p (akY _ (ad1.2 ⟨n,hn,hp⟩))
 have hcr: ∀n∈g.au,∀p∈n.props,ak.check p.val=0:=fun n hn p hp=>hck p (alv _ (ad1.2 ⟨n,hn,hp⟩))
 obtain ⟨nn,hnn⟩: ∃n,g.nodes.length=n:=⟨_,rfl⟩;obtain ⟨rn,hrn⟩: ∃n,g.au.length=n:=⟨_,rfl⟩
 have hnl:=hok.nl;have hrl:=hok.rl;rw [hnn] at hnl⊢;rw [hrn] at hrl⊢;have HN:=ah hN
 have HR:=ah hR;have aK:=ah hok;have CJ:=ah hcn;have CO:=ah hcr;have ay:=ah hnn
 have gy:=ah hrn;have iJ:=ah hsum;have iE:=ah hle;have aH:=ah hB
 have Lj:=ah (aj.new w 39 #[.slice An nn cn, .slice Ar rn cr])
 have HB0:=ah (show Below w.heap.size w (w.alloc (.cells #[.slice An nn cn, .slice Ar rn cr] 39)) from (Below.refl _ w).alloc (ab1 _) _)
 clear h hok hN hR hcn hcr hnn hrn hsum hle hB hck hlen;go_enter Tryz.func60,Tryz.ntmps60
 go_wp2_with fail
 go_loopg [3,4] nn (fun q s x wr=> ∃k:Nat,s= .int .i64 (Gr.bM ((g.nodes.take k).flatMap Gr.N.props):Nat)/\x= .int .i64 k/\k+q=nn/\Below w.heap.size w wr/\aj wr w.heap.size 39 #[.slice An nn cn, .slice Ar rn cr])
 case atStart=>exact ⟨0,rfl,rfl,by omega,HB0.out,Lj.out⟩
 obtain ⟨k,rfl,rfl,hk,hb,hbk⟩:=hrel;have HB:=ah hb;have iL:=ah hbk
 obtain ⟨c0,c1⟩:=cells2 hbk;have hs:=NQ g.nodes Gr.N.props k;clear hb hbk Lj HB0
 cases gk with
 | zero=>
  obtain rfl:k=nn:=by omega
  have hf:g.nodes.take k=g.nodes:=acg (by rw [ay.out];exact ab1 _)
  rw [hf];obtain ⟨T,hT⟩: ∃T,Gr.bM (g.nodes.flatMap Gr.N.props)=T:=⟨_,rfl⟩;rw [hT] at iJ⊢
  have aop:T<=41000*1073741824:=by have:=iE.out;have:=iJ.out;omega
  clear hk hs hf hT;go_wp2_with fail
  go_loopg [3,5] rn (fun q s x wr=> ∃m:Nat,s= .int .i64 ((T+Gr.bM ((g.au.take m).flatMap Gr.R.props):Nat):Int)/\x= .int .i64 m/\m+q=rn/\Below w.heap.size w wr/\aj wr w.heap.size 39 #[.slice An k cn, .slice Ar rn cr])
  case atStart=>exact ⟨0,rfl,rfl,by omega,HB.out,iL.out⟩
  obtain ⟨m,rfl,rfl,hm,hb,hbk⟩:=hrel;have HB2:=ah hb;have ael:=ah hbk;clear c0 c1
  obtain ⟨c0,c1⟩:=cells2 hbk;have hs:=NQ g.au Gr.R.props m;clear hb hbk HB iL
  cases gk with
  | zero=>
   obtain rfl:m=rn:=by omega
   have hf:g.au.take m=g.au:=acg (by rw [gy.out];exact ab1 _)
   rw [hf];rw [hf] at hs;clear hm hf hs;go_wp2;go_ret;exact ⟨by rw [iJ.out];rfl,HB2.out⟩
  | succ q=>
   have hmn:m<rn:=by omega
   have O5:(m:Int)<rn:=by omega
   have pk:(0:Int)<=(m:Int):=by omega
   have tk:((m:Int)).toNat=m:=by omega
   obtain ⟨r,hr⟩: ∃r,g.au[m]?=some r:=⟨_,ab2 (by rw [gy.out];exact hmn)⟩
   have hmm:=acf hr;have hBw:=HB2.out.mono aH.out
   obtain ⟨b,o,Ap,cp,rfl,hlt,⟨-,-,-,-,d4⟩,rp⟩:=(HR.out.below hBw (ig.below hBw)).rel hr
   obtain ⟨pn,hpn⟩: ∃n,r.props.length=n:=⟨_,rfl⟩
   have hen:=aby B Ap cp pn r.props _ rp hpn (aK.out.rs r hmm).ps (CO.out r hmm) (ab5 aH.out HB2.out.size) (hpn▸(aK.out.rs r hmm).pl)
   rw [hpn] at d4;obtain ⟨E,hE⟩: ∃E,Gr.bM r.props=E:=⟨_,rfl⟩
   obtain ⟨S,hS⟩: ∃S,Gr.bM ((g.au.take m).flatMap Gr.R.props)=S:=⟨_,rfl⟩
   have hs2:=NQ g.au Gr.R.props (m+1);have hes:=abz (f:=Gr.R.props) hr;rw [hE] at hen hes
   rw [hS] at hs hes⊢;have hall:=iJ.out;have hle2:=iE.out
   have hSE:T+S+E<=41000*1073741824:=by omega
   have O4:((T+S:Nat):Int)+(E:Int)<=41000*1073741824:=by omega
   obtain ⟨Q,hQ⟩: ∃Q,T+S=Q:=⟨_,rfl⟩;rw [hQ] at O4⊢;have uV:=ah hen
   have BZ:=ah (show T+Gr.bM ((g.au.take (m+1)).flatMap Gr.R.props)=Q+E by rw [hes];omega)
   have HK:=ah hm;clear hmn hr hmm hBw hlt rp hpn hen hE hS hs2 hes hall hle2 hSE hQ hs hm
   go_wp2_with fail;refine uV.out.mono ?_;rintro e w2 ⟨rfl,hb2⟩
   have HB3:=ah (HB2.out.trans (hb2.mono HB2.out.size))
   have WS:=ah (ael.out.below hb2 ael.out.lt);clear hb2 d4 c0 c1;go_wp2
   go_roundg q
   case measure=>omega
   exact ⟨m+1,int_eq (by rw [BZ.out];omega),int_eq (by omega),by have:=HK.out;omega,HB3.out,WS.out⟩
 | succ q=>
  have hkn:k<nn:=by omega
  have dD:(k:Int)<nn:=by omega
  have pk:(0:Int)<=(k:Int):=by omega
  have tk:((k:Int)).toNat=k:=by omega
  obtain ⟨r,hr⟩: ∃r,g.nodes[k]?=some r:=⟨_,ab2 (by rw [ay.out];exact hkn)⟩
  have hmm:=acf hr;have hBw:=HB.out.mono aH.out
  obtain ⟨b,o,Al,cl,Ap,cp,rfl,hlt,⟨-,-,d2⟩,-,rp⟩:=(HN.out.below hBw (gZ.below hBw)).node hr
  obtain ⟨pn,hpn⟩: ∃n,r.props.length=n:=⟨_,rfl⟩
  have hen:=aby B Ap cp pn r.props _ rp hpn (aK.out.ns r hmm).ps (CJ.out r hmm) (ab5 aH.out HB.out.size) (hpn▸(aK.out.ns r hmm).pl)
  rw [hpn] at d2;obtain ⟨E,hE⟩: ∃E,Gr.bM r.props=E:=⟨_,rfl⟩
  obtain ⟨S,hS⟩: ∃S,Gr.bM ((g.nodes.take k).flatMap Gr.N.props)=S:=⟨_,rfl⟩
  have hs2:=NQ g.nodes Gr.N.props (k+1);have hes:=abz (f:=Gr.N.props) hr
  rw [hE] at hen hes;rw [hS] at hs hes⊢;have hall:=iJ.out;have hle2:=iE.out
  have O4:(S:Int)+(E:Int)<=41000*1073741824:=by omega
  have uV:=ah hen
  have BZ:=ah (show Gr.bM ((g.nodes.take (k+1)).flatMap Gr.N.props)=S+E from hes)
  have HK:=ah hk;clear hkn hr hmm hBw hlt rp hpn hen hE hS hs2 hes hall hle2 hs hk
  go_wp2_with fail;refine uV.out.mono ?_;rintro e w2 ⟨rfl,hb2⟩
  have HB3:=ah (HB.out.trans (hb2.mono HB.out.size))
  have WS:=ah (iL.out.below hb2 iL.out.lt);clear hb2 d2 c0 c1;go_wp2
  go_roundg q
  case measure=>omega
  exact ⟨k+1,int_eq (by rw [BZ.out];omega),int_eq (by omega),by have:=HK.out;omega,HB3.out,WS.out⟩
end Go.Proofs.YtoofbflplhbpbaaGreatDoor
