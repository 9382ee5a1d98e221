/- Contracts and plain laws,part 44. -/
import Derived.Test.YtoofbflplhbpbaaGreatDoorBK43
set_option maxHeartbeats 64000000
set_option maxRecDepth 1000000
set_option linter.all false
namespace Go.Proofs.YtoofbflplhbpbaaGreatDoor
open Go.RowKit
theorem refWidth8 (w:World):Calls Tryz.prog 293 #[.int .i64 8] w fun e w'=>e= .returned (.bool true)∧Below w.heap.size w w':=by
 go_enter Tryz.func293,Tryz.ntmps293
 go_wp2
 go_ret
 exact ⟨rfl,by first | exact Below.refl _ _ | exact below_drewN (Below.refl _ _) _⟩
theorem OV (l:List UInt8) (i:Nat) (y:UInt8):(Lib.byteCells l).set i (.int .u8 (y.toNat:Int))=Lib.byteCells (l.set i y):=by
 unfold Lib.byteCells
 rw [List.map_set]
theorem OW (v:Nat): ∃y:UInt8,(v:Int).tmod 256=(y.toNat:Int):=by
 refine ⟨UInt8.ofNat (v % 256), ?_⟩
 rw [UInt8.toNat_ofNat_of_lt' (show v % 256<UInt8.size from Nat.mod_lt _ (by decide))]
 exact (Int.ofNat_tmod v 256).symm
theorem refNum8 (v:Nat) (w:World) (hv:v<18446744073709551616):
  Calls Tryz.prog 271 #[.int .i64 8, .int .u64 v] w (fD w.heap.size 8 w):=by
 have HV:=hq7 hv
 have HW:=hq7 (fun (X:World)=>refWidth8 X)
 have H0:=hq7 (show fD w.heap.size 0 w (.returned (.slice (some ⟨w.heap.size,0,none⟩) 0 0)) (w.alloc (.cells #[] 5)) from ⟨_,_, [],rfl,gZ w 5 1,rfl,(Below.refl _ w).alloc (Nat.le_refl _) _⟩)
 clear hv
 go_enter Tryz.func271,Tryz.ntmps271
 go_wp2_with fail
 refine (HW.out _).mono ?_
 rintro e w1 ⟨rfl,hb1⟩
 have H1:=hq7 (show fD w.heap.size 0 w (.returned (.slice (some ⟨w.heap.size,0,none⟩) 0 0)) w1 from by
  obtain ⟨A',c',l',he,ho,hl,hb⟩:=H0.out
  exact ⟨A',c',l',he,own_below ho hb1,hl,hb.trans (hb1.mono hb.size)⟩)
 clear hb1 H0
 go_wp2_with fail
 go_loopg [5,6] 8 (fun g v x wr=> ∃(k:Nat) (A':Option Addr) (c':Nat),v= .slice A' k c'∧x= .int .i64 k∧k+g=8∧fD w.heap.size k w (.returned (.slice A' k c')) wr)
 case atStart=>exact ⟨0,_,_,rfl,rfl,by omega,H1.out⟩
 case round=>
  obtain ⟨k,A',c',rfl,rfl,hk,A2,c2,l2,he,ho,hl,hb⟩:=hrel
  cases he
  have HO:=hq7 ho
  have HL2:=hq7 hl
  have HB:=hq7 hb
  clear ho hl hb H1
  cases gk with
  | zero=>
   obtain rfl:k=8:=by omega
   have H8:=hq7 (show fD w.heap.size 8 w (.returned (.slice A' 8 c')) wr from ⟨_,_,_,rfl,HO.out,HL2.out,HB.out⟩)
   clear HO HL2 HB hk
   go_wp2_with fail
   go_loopg [1,7] 8 (fun g y x wq=> ∃(u:Nat),y= .int .u64 u∧x= .int .i64 ((g:Int) - 1)∧g≤8∧Hid (u<18446744073709551616)∧fD w.heap.size 8 w (.returned (.slice A' 8 c')) wq)
   case atStart=>exact ⟨v,rfl,rfl,by omega,HV.out,H8.out⟩
   case round=>
    obtain ⟨u,rfl,rfl,hk,hu,A2,c2,l2,he,ho,hl,hb⟩:=hrel
    cases he
    have HU:Hid (u<18446744073709551616):=hu
    have HO:=hq7 ho
    have HL2:=hq7 hl
    have HB:=hq7 hb
    clear ho hl hb H8 hu
    cases gk with
    | zero=>
     clear hk
     go_wp2
     go_ret
     exact ⟨_,_,_,rfl,HO.out,HL2.out,HB.out⟩
    | succ g=>
     have hg1:((g+1:Nat):Int) - 1=(g:Int):=by omega
     rw [hg1]
     have hgI:(g:Int)<8:=by omega
     have pg:(0:Int)≤(g:Int):=by omega
     have tg:((g:Int)).toNat=g:=by omega
     have hg8:g<8:=by omega
     obtain ⟨y,hy⟩:=OW u
     have hy2:=(oH y).2
     have hq:(u:Int).tdiv 256=((u / 256:Nat):Int):=(Int.ofNat_tdiv u 256).symm
     obtain ⟨u2,hu2⟩: ∃x,u / 256=x:=⟨_,rfl⟩
     rw [hu2] at hq
     have HU2:=hq7 (show u2<18446744073709551616 by rw [←hu2];exact Nat.lt_of_le_of_lt (Nat.div_le_self _ _) HU.out)
     have ho:=HO.out
     unfold OwnB at ho
     rw [HL2.out] at ho
     obtain ⟨b,rfl,hbl,hcell,hfr,hset⟩:=jQ (t:=g) ho (by omega)
     have hc0: ∃x,wr.cell? ⟨b,g,none⟩=some x:=⟨_,hcell.trans (List.getElem?_eq_getElem (by simp [Lib.byteCells,HL2.out];omega))⟩
     obtain ⟨x0,hx0⟩:=hc0
     have hs9:=hset (.int .u8 (y.toNat:Int))
     rw [OV] at hs9
     have HN:=hq7 (show fD w.heap.size 8 w (.returned (.slice (some ⟨b,0,none⟩) 8 c')) (wr.setCell ⟨b,g,none⟩ (.int .u8 (y.toNat:Int))) from ⟨_,_,_,rfl,by unfold OwnB;rw [List.length_set,HL2.out];exact hs9,by rw [List.length_set];exact HL2.out,HB.out.setCell (p:=⟨b,g,none⟩) hbl _⟩)
     have HK:=hq7 hk
     clear ho hcell hset hs9 hk hu2 hbl hg8 hg1
     go_wp2_with fail
     go_roundg g
     case measure=>omega
     case rel=>exact ⟨u2,by rw [IntWalk.u64_in _ (by have:=HU2.out;omega)],rfl,by have:=HK.out;omega,HU2.out,HN.out⟩
  | succ g=>
   have hkm:k<8:=by omega
   have hkmI:(k:Int)<8:=by omega
   have HK:=hq7 hk
   have hl2:l2.length<1073741824:=by rw [HL2.out];omega
   have hBr:w.heap.size≤wr.heap.size:=HB.out.size
   clear hk hkm
   go_wp2_with (at_builtin;refine nH rfl (.tmp 18) (.tmp 19) rfl w.heap.size (.slice A' k c') l2 wr rfl HO.out [0] _ (by simp [Lib.byteCells]) 1 rfl rfl hl2 (by decide) hBr ?_)
   intro v8 w8 ho8 hg8 hb8
   have hl8:(l2 ++ [0]).length=k+1:=by rw [List.length_append,HL2.out];rfl
   obtain ⟨A8,c8,hv8⟩:=ho8.form
   rw [hl8] at hv8
   subst hv8
   have H8:=hq7 (show fD w.heap.size (k+1) w (.returned (.slice A8 (k+1) c8)) w8 from ⟨A8,c8,_,rfl,ho8,hl8,HB.out.trans hb8⟩)
   clear ho8 hg8 hb8 hl8 hl2 hBr
   go_wp2
   go_roundg g
   case measure=>omega
   case rel=>exact ⟨k+1,A8,c8,rfl,rfl,by have:=HK.out;omega,H8.out⟩
def Byt (W:World) (g off m:Nat):Prop:= ∀j,j<m→ ∃y:UInt8,W.cell? ⟨g,off+j,none⟩=some (.int .u8 (y.toNat:Int))
theorem Byt.grown {W W':World} {g off m:Nat} {row:Option Nat} (h:Byt W g off m) (hg:W.grownBy W' row) (hne:some g≠row):Byt W' g off m:=fun j hj=>by
 obtain ⟨y,hy⟩:=h j hj
 have hlt:g<W.heap.size:=World.block_lt_of_cell? W ⟨g,off+j,none⟩ hy
 refine ⟨y, ?_⟩
 have hb:=hg.block g hlt hne
 simp only [World.cell?,hb] at hy⊢
 exact hy
theorem OX (x:Int): ∃v:Nat,v<18446744073709551616∧IntKind.u64.wrap x=(v:Int):=by
 have e:IntKind.u64.wrap x=x % 18446744073709551616:=by rw [IntKind.wrap_u64]
 exact ⟨(x % 18446744073709551616).toNat,by omega,by rw [e];omega⟩
def LnS (B n k m g off:Nat) (w:World) (A:Option Addr) (c:Nat) (V:World):Prop:= ∃l:List UInt8,OwnB B (.slice A (n+k) c) l V∧l.length=n+k∧Below B w V∧Byt V g off m∧(Value.slice A (n+k) c).ownBlock≠some g
theorem Fv (B:Nat) (A:Option Addr) (c n:Nat) (kd x:Int) (l:List UInt8) (w:World) (h:OwnB B (.slice A n c) l w) (h1:l.length=n) (hn:n≤536870912) (hB:B≤w.heap.size):
  Calls Tryz.prog 225 #[.slice A n c, .int .i64 kd, .int .i64 x] w (fD B (n+(if kd=1 then 1 else 8)) w):=by
 obtain ⟨v,hv,hw⟩:=OX x
 have HNUM:=hq7 (refNum8 v w hv)
 have H:=hq7 h
 have HL:=hq7 h1
 have HN:=hq7 hn
 have HBB:=hq7 hB
 obtain ⟨m,hm⟩: ∃m,(if kd=1 then 1 else 8)=m:=⟨_,rfl⟩
 rw [hm]
 have HM:=hq7 hm
 clear hv h h1 hn hB hm
 go_enter Tryz.func225,Tryz.ntmps225
 go_wp2_with fail
 refine HNUM.out.mono ?_
 rintro e w1 ⟨A1,c1,l1,rfl,ho,hl,hb⟩
 have HX:=hq7 (And.intro ho (And.intro hl hb))
 clear ho hl hb HNUM hw
 have hX: ∃g,A1=some ⟨g,0,none⟩∧w.heap.size≤g∧Byt w1 g 0 8∧8≤c1:=by
  obtain ⟨ho,hl,hb⟩:=HX.out
  unfold OwnB at ho
  rw [hl] at ho
  rcases ho.2 with ⟨e,h0⟩ |⟨g,cap,cur,e,hg,hc,q1,q2,q3⟩
  ·exact absurd h0 (by decide)
  ·cases e
   refine ⟨g,rfl,hg,fun j hj=> ?_,by first | exact q1 | exact q2 | omega⟩
   obtain ⟨g',e',-,hcl,-⟩:=jQ (t:=j) ho (by omega)
   cases e'
   exact ⟨l1[j]'(by rw [hl];exact hj),by rw [Nat.zero_add,hcl];unfold Lib.byteCells;rw [List.getElem?_map,List.getElem?_eq_getElem (by rw [hl];exact hj)];rfl⟩
 obtain ⟨g,rfl,hgw,hby,hc1⟩:=hX
 have HY:=hq7 (show∀off,off+m≤8→LnS B n 0 m g off w A c w1 from fun off ho=>⟨l,own_below H.out HX.out.2.2,HL.out,HX.out.2.2.mono HBB.out,fun j hj=>by have:=hby (off+j) (by omega);rwa [Nat.zero_add] at this,fun e=>by have:=(World.ownsRow.lt H.out g e).2;omega⟩)
 clear hby hgw HX
 obtain ⟨tb,htb⟩: ∃b,(kd == 1)=b:=⟨_,rfl⟩
 go_upto_if 13 with fail
 go_cut [7] (fun s7 wx=> ∃(off cx:Nat),s7= .slice (some ⟨g,off,none⟩) m cx∧LnS B n 0 m g off w A c wx)
 case first=>
  cases tb with
  | true=>
   have hm1:m=1:=by rw [←HM.out,if_pos (beq_iff_eq.1 htb)]
   subst hm1
   have hc1I:(8:Int)≤c1:=by omega
   clear htb
   refine wp_cond_true rfl ?_
   go_wp2
   go_meet
   exact ⟨7,c1 - 7,by simp,HY.out 7 (by omega)⟩
  | false=>
   have hm8:m=8:=by rw [←HM.out,if_neg (fun e=>by rw [e] at htb;cases htb)]
   subst hm8
   clear htb
   refine wp_cond_false rfl ?_
   go_wp2
   go_meet
   exact ⟨0,c1,rfl,HY.out 0 (by omega)⟩
 case rest=>
  obtain ⟨off,cx,rfl,hs⟩:=hcut
  have HS:=hq7 hs
  have HM8:=hq7 (show m≤8 by rw [←HM.out];split<;> omega)
  clear hs HY
  go_wp2_with fail
  go_loopg [0,8] m (fun q v x wr=> ∃(k:Nat) (A':Option Addr) (c':Nat),v= .slice A' (n+k) c'∧x= .int .i64 k∧k+q=m∧LnS B n k m g off w A' c' wr)
  case atStart=>exact ⟨0,A,c,rfl,rfl,by omega,HS.out⟩
  case round=>
   obtain ⟨k,A',c',rfl,rfl,hk,l2,ho,hl,hb,hy,hne⟩:=hrel
   have HO:=hq7 ho
   have HL2:=hq7 hl
   have HB:=hq7 hb
   have HY:=hq7 hy
   have HNE:=hq7 hne
   clear ho hl hb hy hne HS
   cases gk with
   | zero=>
    obtain rfl:k=m:=by omega
    clear hk
    go_wp2
    go_ret
    exact ⟨_,_,_,rfl,HO.out,HL2.out,HB.out⟩
   | succ q=>
    have hkm:k<m:=by omega
    have hkmI:(k:Int)<m:=by omega
    have pk:(0:Int)≤(k:Int):=by omega
    have tk:((k:Int)).toNat=k:=by omega
    obtain ⟨y,hy⟩:=HY.out k hkm
    have hlt:g<wr.heap.size:=World.block_lt_of_cell? wr ⟨g,off+k,none⟩ hy
    have hl2:n+k<1073741824:=by have:=HN.out;have:=HM8.out;omega
    have hBr:B≤wr.heap.size:=Nat.le_trans HBB.out HB.out.size
    have HK:=hq7 hk
    have HLT:=hq7 hlt
    have ho:=HO.out
    unfold OwnB at ho
    rw [HL2.out] at ho
    have HO2:=hq7 ho
    clear hk hkm hlt ho
    go_wp2_with (at_builtin;refine iD rfl (.tmp 22) (.tmp 27) 55 5 (.int .u8 0) 1 Tryz.underlying55 wG rfl (by decide) rfl B (.slice A' (n+k) c') (n+k) (Lib.byteCells l2) wr rfl HO2.out (.int .u8 (y.toNat:Int)) rfl rfl hl2 hBr ?_)
    intro v9 w9 ho9 hg9 hw9 hb9
    obtain ⟨A9,c9,rfl⟩:=ak ho9
    have H9:=hq7 (show LnS B n (k+1) m g off w A9 c9 w9 from ⟨l2 ++ [y],by unfold OwnB;rw [zA,byteCells_one,List.length_append,HL2.out];exact ho9,by rw [List.length_append,HL2.out];rfl,HB.out.trans hb9,HY.out.grown hg9 (fun e=>HNE.out e.symm),fun e=>by
     rcases hw9 with h |⟨b,h,hb⟩
     ·exact HNE.out (h.symm.trans e)
     ·have e2:b=g:=Option.some.inj (h.symm.trans e)
      have:=HLT.out
      omega⟩)
    clear ho9 hg9 hw9 hb9 hl2 hBr hy
    go_wp2
    go_roundg q
    case measure=>omega
    case rel=>exact ⟨k+1,A9,c9,rfl,by rw [IntWalk.wrap64_in _ (by have:=HM8.out;have:=HK.out;omega)];rfl,by have:=HK.out;omega,H9.out⟩
theorem OY (k n:Int) (t:List UInt8) (ns:List Int) (ts:List (List UInt8)):Gr.dQ ⟨k,n,t,ns,ts⟩=if k<4 then 1+(if k=1 then 1 else 8) else if k=4 then 3+t.length else 2+ns.length*(if k - 4=1 then 1 else 8)+(ts.map fun t=>2+t.length).sum:=by
 unfold Gr.dQ
 simp only
 by_cases h4:k<4
 ·rw [if_pos h4,if_pos h4]
  by_cases h1:k=1
  ·rw [if_pos h1,if_pos h1]
  ·rw [if_neg h1,if_neg h1]
 ·rw [if_neg h4,if_neg h4]
  by_cases h6:k=5
  ·rw [if_pos h6,if_pos (show k - 4=1 by omega)]
  ·rw [if_neg h6,if_neg (show¬k - 4=1 by omega)]
theorem OZ (B:Nat) (u:Value) (v:Cel.V) (w:World) (h:VIn w B u v) (hB:B≤w.heap.size) (h0:Cel.check v=0):
  Calls Tryz.prog 165 #[u] w fun e w'=> ∃A c,e= .returned (.slice A (Gr.dQ v) c)∧Below w.heap.size w w':=by
 obtain ⟨hp1,hp8,-,hp40,ht40,htl,hlg,-⟩:=Cel.jB h0
 have hch:=fun (W:World) (hb:Below w.heap.size w W)=>zJ B u v W (h.below (hb.mono hB)) (Nat.le_trans hB hb.size)
 rw [h0] at hch
 obtain ⟨A1,c1,A2,c2,rfl,ra1,ra2⟩:=h.ex
 obtain ⟨k0,n0,t0,ns,ts⟩:=v
 simp only at hch ra1 ra2 hp1 hp8 hp40 ht40 htl hlg⊢
 obtain ⟨y,rfl⟩: ∃y:UInt8,k0=(y.toNat:Int):=⟨UInt8.ofNat k0.toNat,by rw [UInt8.toNat_ofNat_of_lt' (show k0.toNat<UInt8.size from by show k0.toNat<256;omega)];omega⟩
 obtain ⟨z,hz⟩: ∃z:ByteArray,(⟨t0.toArray⟩:ByteArray)=z:=⟨_,rfl⟩
 have hzs:z.size=t0.length:=by rw [←hz];exact aJ _
 rw [hz] at hch⊢
 obtain ⟨nn,hnn⟩: ∃n,ns.length=n:=⟨_,rfl⟩
 obtain ⟨tn,htn⟩: ∃n,ts.length=n:=⟨_,rfl⟩
 rw [hnn] at hch hp40 ra1⊢
 rw [htn] at hch ht40 ra2⊢
 obtain ⟨W1,hW1⟩: ∃W1,(w.alloc (.cells #[.int .i64 (y.toNat:Int), .int .i64 n0, .string z, .slice A1 nn c1, .slice A2 tn c2] 25)).alloc (.cells #[] 5)=W1:=⟨_,rfl⟩
 have hb1:Below w.heap.size w W1:=by rw [←hW1];exact ((Below.refl _ w).alloc (Nat.le_refl _) _).alloc (by simp) _
 have k1:Blk W1 w.heap.size 25 #[.int .i64 (y.toNat:Int), .int .i64 n0, .string z, .slice A1 nn c1, .slice A2 tn c2]:=by rw [←hW1];exact (Blk.new _ _ _).alloc _
 have o1:OwnB (w.heap.size+1) (.slice (some ⟨w.heap.size+1,0,none⟩) 0 0) [] W1:=by
  have:=gZ (w.alloc (.cells #[.int .i64 (y.toNat:Int), .int .i64 n0, .string z, .slice A1 nn c1, .slice A2 tn c2] 25)) 5 1
  rw [hW1] at this
  simpa [OwnB,Lib.byteCells] using this
 have HCH:=hq7 (hch W1 hb1)
 have HK1:=hq7 k1
 have HB1:=hq7 hb1
 have HO1:=hq7 o1
 have HW1:=hq7 hW1
 have HR1:=hq7 (ra1.below (hb1.mono hB))
 have HR2:=hq7 (ra2.below (hb1.mono hB))
 obtain ⟨E,hEE⟩: ∃E,Gr.dQ ⟨(y.toNat:Int),n0,t0,ns,ts⟩=E:=⟨_,rfl⟩
 rw [hEE]
 have HEE:=hq7 hEE
 have hep:=OY (y.toNat:Int) n0 t0 ns ts
 rw [hEE,←hzs,hnn] at hep
 have HEP:=hq7 hep
 have HTS:=hq7 (wJ hlg)
 have HTN:=hq7 htn
 have HBW:=hq7 hB
 clear h hch ra1 ra2 hW1 hb1 k1 o1 h0 hz hEE hep hlg hnn htn hB
 go_enter Tryz.func165,Tryz.ntmps165
 go_upto_region 2 with fail
 rw [HW1.out]
 clear HW1
 obtain ⟨d0,d1,d2,d3,d4⟩:=cells5 HK1.out
 go_wp2_with fail
 refine HCH.out.mono ?_
 rintro e w2 ⟨rfl,hb2⟩
 have HB2:=hq7 (HB1.out.trans (hb2.mono HB1.out.size))
 have HK2:=hq7 (HK1.out.below hb2 HK1.out.lt)
 have HO2:=hq7 (show OwnB (w.heap.size+1) (.slice (some ⟨w.heap.size+1,0,none⟩) 0 0) [] w2 from own_below HO1.out hb2)
 have HR3:=hq7 (And.intro (HR1.out.below (hb2.mono (Nat.le_trans HBW.out HB1.out.size))) (HR2.out.below (hb2.mono (Nat.le_trans HBW.out HB1.out.size))))
 have hlt2:w.heap.size+1≤w2.heap.size:=HK2.out.lt
 clear d0 d1 d2 d3 d4 hb2 HR1 HR2 HO1 HK1
 obtain ⟨d0,d1,d2,d3,d4⟩:=cells5 HK2.out
 have hw2:=(oH y).2
 go_wp2_with (at_builtin;refine nH rfl (.tmp 11) (.tmp 15) rfl (w.heap.size+1) (.slice (some ⟨w.heap.size+1,0,none⟩) 0 0) [] w2 rfl HO2.out [y] _ (by simp [Lib.byteCells]) 1 rfl rfl (by decide) (by decide) hlt2 ?_)
 intro v9 w9 ho9 hg9 hb9
 obtain ⟨A9,c9,hv9⟩:=ho9.form
 have hv9:v9= .slice A9 1 c9:=hv9
 subst hv9
 have HK9:=hq7 (HK2.out.below hb9 (Nat.lt_succ_self _))
 have HB9:=hq7 (HB2.out.trans (hb9.mono (Nat.le_succ _)))
 have HO9:=hq7 ho9
 have HR9:=hq7 (And.intro (HR3.out.1.below (hb9.mono (Nat.le_trans HBW.out (Nat.le_succ _)))) (HR3.out.2.below (hb9.mono (Nat.le_trans HBW.out (Nat.le_succ _)))))
 have hlt9:w.heap.size+1≤w9.heap.size:=HK9.out.lt
 clear d0 d1 d2 d3 d4 ho9 hg9 hb9 HK2 HO2 HB2 HR3
 obtain ⟨d0,d1,d2,d3,d4⟩:=cells5 HK9.out
 have HZS:=hq7 (And.intro hzs htl)
 by_cases h4:y.toNat<4
 ·have h4i:(y.toNat:Int)<4:=by omega
  have t4:decide ((y.toNat:Int)<4)=true:=decide_eq_true h4i
  have hln:=Fv (w.heap.size+1) A9 c9 1 (y.toNat:Int) n0 _ w9 HO9.out rfl (by omega) hlt9
  obtain ⟨RL,hRL⟩: ∃x,(if (y.toNat:Int)=1 then 1 else 8)=x:=⟨_,rfl⟩
  rw [hRL] at hln
  have HLN:=hq7 hln
  have HRL:=hq7 hRL
  clear hln
  have HE:=hq7 (show Gr.dQ ⟨(y.toNat:Int),n0,t0,ns,ts⟩=1+(if (y.toNat:Int)=1 then 1 else 8) by
   unfold Gr.dQ
   rw [if_pos h4i]
   by_cases h1:(y.toNat:Int)=1
   ·rw [if_pos h1,if_pos h1]
   ·rw [if_neg h1,if_neg h1])
  rw [hRL,HEE.out] at HE
  clear htl hzs hp40 ht40 h4 hRL
  go_wp2_with fail
  refine HLN.out.mono ?_
  rintro e w3 ⟨A3,c3,l3,rfl,-,-,hb3⟩
  have HB3:=hq7 (HB9.out.trans (hb3.mono (Nat.le_succ _)))
  clear hb3
  go_wp2
  go_ret
  exact ⟨A3,c3,by rw [HE.out];rfl,HB3.out⟩
 have h4i:(4:Int)≤(y.toNat:Int):=by omega
 have t4:decide ((y.toNat:Int)<4)=false:=decide_eq_false (by omega)
 by_cases h5:y.toNat=4
 ·have t5:((y.toNat:Int) == 4)=true:=by rw [beq_iff_eq];omega
  have HLA:=hq7 (Fq (w.heap.size+1) A9 c9 1 z.size z _ w9 HO9.out rfl (by omega) rfl (by omega) hlt9)
  have HE:=hq7 (show E=1+2+z.size by rw [HEP.out,if_neg (by omega),if_pos (by omega)])
  clear htl hzs hp40 ht40 h4 h5
  go_wp2_with fail
  refine HLA.out.mono ?_
  rintro e w3 ⟨A3,c3,l3,rfl,-,-,hb3⟩
  have HB3:=hq7 (HB9.out.trans (hb3.mono (Nat.le_succ _)))
  clear hb3
  go_wp2
  go_ret
  exact ⟨A3,c3,by rw [HE.out];rfl,HB3.out⟩
 ·have hnI:(nn:Int)≤40:=Int.ofNat_le.2 hp40
  have htI:(tn:Int)≤40:=Int.ofNat_le.2 ht40
  have t5:((y.toNat:Int) == 4)=false:=beq_eq_false_iff_ne.2 (by omega)
  have h5i:(5:Int)≤(y.toNat:Int):=by omega
  obtain ⟨kd,hkd⟩: ∃kd,(y.toNat:Int) - 4=kd:=⟨_,rfl⟩
  have hkd1:1≤kd:=by omega
  have hkd4:kd≤4:=by omega
  have hwk:IntKind.i64.wrap kd=kd:=IntWalk.i64_in _ (by omega)
  obtain ⟨yc,hyc⟩: ∃yc:UInt8,(nn:Int)+(tn:Int)=(yc.toNat:Int):=⟨UInt8.ofNat (nn+tn),by rw [UInt8.toNat_ofNat_of_lt' (show nn+tn<UInt8.size from by show nn+tn<256;omega)];omega⟩
  obtain ⟨hw0,hw1⟩:=oH yc
  obtain ⟨L,hL⟩: ∃L,(if kd=1 then 1 else 8)=L:=⟨_,rfl⟩
  have hL8:L≤8:=by rw [←hL];split<;> omega
  have HE:=hq7 (show E=2+nn*L+(ts.map fun t=>2+t.length).sum by rw [HEP.out,if_neg (by omega),if_neg (by omega),hkd,hL])
  have HLL:=hq7 hL
  clear htl hzs hL h4 h5
  go_wp2_with (at_builtin;refine nH rfl (.tmp 33) (.tmp 42) rfl (w.heap.size+1) (.slice A9 1 c9) ([] ++ [y]) w9 rfl HO9.out [yc] _ (by simp [Lib.byteCells]) 1 rfl rfl (by simp) (by decide) hlt9 ?_)
  intro v8 w8 ho8 hg8 hb8
  have hl8: [y,yc].length=2:=rfl
  obtain ⟨A8,c8,hv8⟩:=ho8.form
  rw [hl8] at hv8
  subst hv8
  have H8:=hq7 (show fD (w.heap.size+1) 2 w9 (.returned (.slice A8 2 c8)) w8 from ⟨A8,c8,_,rfl,ho8,hl8,hb8⟩)
  have HKV:=hq7 (fun (W:World) (hb:Below (w.heap.size+1) w9 W)=>cells5 (HK9.out.below hb (Nat.lt_succ_self _)))
  have HRA:=hq7 (fun (W:World) (hb:Below (w.heap.size+1) w9 W)=>(And.intro (HR9.out.1.below (hb.mono (Nat.le_trans HBW.out (Nat.le_succ _)))) (HR9.out.2.below (hb.mono (Nat.le_trans HBW.out (Nat.le_succ _))))))
  have HB8:=hq7 (show w.heap.size+1≤w9.heap.size∧Below (w.heap.size+1) w9 w8 from ⟨hlt9,hb8⟩)
  clear ho8 hg8 hb8 hl8 hw0 hw1 hyc hlt9 hw2 d0 d1 d2 d3 d4 hlt2
  obtain ⟨d0,d1,d2,d3,d4⟩:=HKV.out w8 HB8.out.2
  go_wp2_with fail
  go_loopg [3,4] nn (fun g v x wr=> ∃(k:Nat) (A':Option Addr) (c':Nat),v= .slice A' (2+k*L) c'∧x= .int .i64 k∧k+g=nn∧fD (w.heap.size+1) (2+k*L) w9 (.returned (.slice A' (2+k*L) c')) wr)
  case atStart=>exact ⟨0,A8,c8,by rw [Nat.zero_mul],rfl,by omega,by rw [Nat.zero_mul];exact H8.out⟩
  case round=>
   obtain ⟨k,A',c',rfl,rfl,hk,A2,c2,l2,he,ho,hl,hb⟩:=hrel
   cases he
   have HO:=hq7 ho
   have HL2:=hq7 hl
   have HB:=hq7 hb
   have HK:=hq7 hk
   clear ho hl hb H8 d0 d1 d2 d3 d4
   obtain ⟨d0,d1,d2,d3,d4⟩:=HKV.out wr HB.out
   have hkL:k*L≤40*8:=Nat.mul_le_mul (by omega) hL8
   have hBr:w.heap.size+1≤wr.heap.size:=Nat.le_trans HB8.out.1 HB.out.size
   cases gk with
   | succ g=>
    have hkn:k<nn:=by omega
    have hknI:(k:Int)<nn:=by omega
    have pk:(0:Int)≤(k:Int):=by omega
    have tk:((k:Int)).toNat=k:=by omega
    obtain ⟨p,o,x,rfl,hlt,hx,hp⟩:=(HRA.out wr HB.out).1.cell hkn
    rw [List.getElem?_map] at hx
    obtain ⟨v0,hv,rfl⟩:=Option.map_eq_some_iff.1 hx
    unfold I64 at hp
    have hln:=fun (V:World) (hb:Below wr.heap.size wr V)=>Fv (w.heap.size+1) A' c' (2+k*L) kd v0 l2 V (own_below HO.out hb) HL2.out (by omega) (Nat.le_trans hBr hb.size)
    simp only [HLL.out] at hln
    have HLNN:=hq7 hln
    have HBD:=hq7 (show Below wr.heap.size wr wr.drew from (Below.refl _ wr).drew)
    have HBE:=hq7 (show Below (w.heap.size+1) wr wr.drew from (Below.refl _ wr).drew)
    have hpl:p<w.heap.size+1:=Nat.lt_succ_of_lt (Nat.lt_of_lt_of_le hlt HBW.out)
    have HKK:Hid (∀X,Below (w.heap.size+1) wr X→X.cell? ⟨w.heap.size,0,none⟩=some (.int .i64 (y.toNat:Int))∧X.cell? ⟨w.heap.size,3,none⟩=some (.slice (some ⟨p,o,none⟩) nn c1)∧X.cell? ⟨p,o+k,none⟩=some (.int .i64 v0)):=fun X hb=>
     ⟨(hb.cell (p:=⟨w.heap.size,0,none⟩) (Nat.lt_succ_self _)).trans d0,(hb.cell (p:=⟨w.heap.size,3,none⟩) (Nat.lt_succ_self _)).trans d3,(hb.cell (p:=⟨p,o+k,none⟩) hpl).trans hp⟩
    have HKL:=hq7 (show 2+k*L+L=2+(k+1)*L by rw [Nat.succ_mul,Nat.add_assoc])
    clear hkn hlt hx hv hln hkL hBr hk hpl
    go_wp2_with fail
    go_region_held3 (fun w'=>w'.cell? ⟨w.heap.size,0,none⟩=some (.int .i64 (y.toNat:Int))∧w'.cell? ⟨w.heap.size,3,none⟩=some (.slice (some ⟨p,o,none⟩) nn c1)∧w'.cell? ⟨p,o+k,none⟩=some (.int .i64 v0)) (first | go_keep | exact HKK.out _ hqv | fail)
     ((first |(go_at_call 225;refine (HLNN.out _ HBD.out).mono ?_;rintro e w7 ⟨A7,c7,l7,rfl,ho7,hl7,hb7⟩;have hqv:Below (w.heap.size+1) wr w7:=HBE.out.trans hb7;have HX7:=hq7 (And.intro ho7 hl7);clear ho7 hl7 hb7) | fail))
    have HQ7:=hq7 (HB.out.trans hqv)
    clear hqv d0 d1 d2 d3 d4 hp
    go_wp2
    go_roundg g
    case measure=>omega
    case rel=>
     refine ⟨k+1,A7,c7,by rw [←HKL.out],rfl,by have:=HK.out;omega, ?_⟩
     rw [←HKL.out]
     exact ⟨A7,c7,l7,rfl,HX7.out.1,HX7.out.2,HQ7.out⟩
   | zero=>
    obtain rfl:k=nn:=by omega
    obtain ⟨M,hM⟩: ∃M,2+k*L=M:=⟨_,rfl⟩
    have hMle:M≤322:=by omega
    rw [hM] at HO HL2 HE⊢
    have H9:=hq7 (show fD (w.heap.size+1) M w9 (.returned (.slice A' M c')) wr from ⟨A',c',l2,rfl,HO.out,HL2.out,HB.out⟩)
    clear hkL hk hM HO HL2
    go_wp2_with fail
    go_loopg [3,5] tn (fun g v x wq=> ∃(j:Nat) (A':Option Addr) (c':Nat),v= .slice A' (M+((ts.take j).map fun t=>2+t.length).sum) c'∧x= .int .i64 j∧j+g=tn∧fD (w.heap.size+1) (M+((ts.take j).map fun t=>2+t.length).sum) w9 (.returned (.slice A' (M+((ts.take j).map fun t=>2+t.length).sum) c')) wq)
    case atStart=>exact ⟨0,A',c',rfl,rfl,by omega,H9.out⟩
    case round=>
     obtain ⟨j,A4,c4,rfl,rfl,hj,A5,c5,l5,he,ho,hl,hb⟩:=hrel
     cases he
     have hsum:((ts.take j).map fun t=>2+t.length).sum≤1002*40:=by
      have h1:=wK (l:=ts.take j) (fun t ht=>HTS.out t (List.mem_of_mem_take ht))
      have h2:(ts.take j).length≤40:=by rw [List.length_take];have:=HTN.out;omega
      exact Nat.le_trans h1 (Nat.mul_le_mul_left _ h2)
     obtain ⟨T,hT⟩: ∃T,((ts.take j).map fun t=>2+t.length).sum=T:=⟨_,rfl⟩
     rw [hT] at ho hl hsum⊢
     have HO2:=hq7 ho
     have HL5:=hq7 hl
     have HB5:=hq7 hb
     have HJ:=hq7 hj
     have HT:=hq7 hT
     clear ho hl hb H9 d0 d1 d2 d3 d4 hT
     obtain ⟨d0,d1,d2,d3,d4⟩:=HKV.out _ HB5.out
     cases gk with
     | succ g=>
      have hkn:j<tn:=by omega
      have hknI:(j:Int)<tn:=by omega
      have pk:(0:Int)≤(j:Int):=by omega
      have tk:((j:Int)).toNat=j:=by omega
      obtain ⟨p,o,x,rfl,hlt,hx,hp⟩:=(HRA.out _ HB5.out).2.cell hkn
      rw [List.getElem?_map] at hx
      obtain ⟨v0,hv,rfl⟩:=Option.map_eq_some_iff.1 hx
      unfold ST at hp
      obtain ⟨zy,hzy⟩: ∃z:ByteArray,(⟨v0.toArray⟩:ByteArray)=z:=⟨_,rfl⟩
      rw [hzy] at hp
      have hzl:zy.size=v0.length:=by rw [←hzy];exact aJ _
      have hyl:=HTS.out v0 (List.mem_of_getElem? hv)
      have hln:=Fq (w.heap.size+1) A4 c4 (M+T) zy.size zy l5 _ HO2.out HL5.out (by omega) rfl (by omega) (Nat.le_trans HB8.out.1 HB5.out.size)
      have HLNN:=hq7 hln
      have HSM:=hq7 (show M+T+2+zy.size=M+((ts.take (j+1)).map fun t=>2+t.length).sum by rw [Ej hv,HT.out,hzl];omega)
      clear hkn hlt hx hv hln hsum hj hzy hzl hyl
      go_wp2_with fail
      refine HLNN.out.mono ?_
      rintro e w7 ⟨A7,c7,l7,rfl,ho7,hl7,hb7⟩
      have HX7:=hq7 (And.intro ho7 (And.intro hl7 (HB5.out.trans hb7)))
      clear ho7 hl7 hb7 d0 d1 d2 d3 d4 hp
      go_wp2
      go_roundg g
      case measure=>omega
      case rel=>
       refine ⟨j+1,A7,c7,by rw [←HSM.out],rfl,by have:=HJ.out;omega, ?_⟩
       rw [←HSM.out]
       exact ⟨A7,c7,l7,rfl,HX7.out.1,HX7.out.2.1,HX7.out.2.2⟩
     | zero=>
      obtain rfl:j=tn:=by omega
      have hfin:ts.take j=ts:=List.take_of_length_le (by rw [HTN.out];exact Nat.le_refl _)
      have HFE:=hq7 (show E=M+T by rw [HE.out,←HT.out,hfin])
      have HBF:=hq7 (HB9.out.trans (HB5.out.mono (Nat.le_succ _)))
      clear hj hfin hsum
      go_wp2
      go_ret
      exact ⟨A4,c4,by rw [HFE.out];rfl,HBF.out⟩
theorem O1 {ps:List Gr.P} {k:Nat} {p:Gr.P} (h:ps[k]?=some p):Gr.aG (ps.take (k+1))=Gr.aG (ps.take k)+Gr.dQ p.val:=by
 rw [List.take_add_one,h,oC]
 simp [Gr.aG]
theorem Fz (B:Nat) (A:Option Addr) (c n:Nat) (ps:List Gr.P) (w:World) (h:Lst w B 6 (aB w B) A ps) (hl:ps.length=n) (hok: ∀p∈ps,POk p) (h0: ∀p∈ps,Cel.check p.val=0) (hB:B≤w.heap.size) (hn:n≤1073741824):
  Calls Tryz.prog 116 #[.slice A n c] w fun e w'=>e= .returned (.int .i64 (Gr.aG ps:Nat))∧Below w.heap.size w w':=by
 have HT:=hq7 (fun (k:Nat)=>show Gr.aG (ps.take k)≤41000*1073741824 from Nat.le_trans (wM (fun p hp=>h0 p (List.mem_of_mem_take hp))) (Nat.mul_le_mul_left _ (by rw [List.length_take,hl];omega)))
 have H:=hq7 h
 have HL:=hq7 hl
 have HOK:=hq7 hok
 have HCK:=hq7 h0
 have HBB:=hq7 hB
 clear h hl hok h0 hB
 go_enter Tryz.func116,Tryz.ntmps116
 go_wp2_with fail
 go_loopg [3,4] n (fun q s x wr=> ∃k:Nat,s= .int .i64 (Gr.aG (ps.take k):Nat)∧x= .int .i64 k∧k+q=n∧Below w.heap.size w wr)
 case atStart=>exact ⟨0,rfl,rfl,by omega,Below.refl _ _⟩
 case round=>
  obtain ⟨k,rfl,rfl,hk,hb⟩:=hrel
  have HB:=hq7 hb
  clear hb
  have hs:=HT.out k
  cases gk with
  | zero=>
   obtain rfl:k=n:=by omega
   have hf:ps.take k=ps:=List.take_of_length_le (by rw [HL.out];exact Nat.le_refl _)
   rw [hf]
   clear hk hs hf
   go_wp2
   go_ret
   exact ⟨rfl,HB.out⟩
  | succ q=>
   have hkn:k<n:=by omega
   have hknI:(k:Int)<n:=by omega
   have pk:(0:Int)≤(k:Int):=by omega
   have tk:((k:Int)).toNat=k:=by omega
   obtain ⟨p,hp⟩: ∃p,ps[k]?=some p:=⟨_,List.getElem?_eq_getElem (by rw [HL.out];exact hkn)⟩
   have hm:=List.mem_of_getElem? hp
   have hBw:=HB.out.mono HBB.out
   obtain ⟨b,o,An,cn,At,ct,rfl,hlt,⟨-,p1,p2,p3,p4,p5⟩,ra,rb⟩:=(H.out.below hBw (aB.below hBw)).prop hp
   have hen:=OZ B _ p.val wr (jO (cn:=cn) (ct:=ct) (HOK.out p hm).val ra rb) (Nat.le_trans HBB.out HB.out.size) (HCK.out p hm)
   simp only [ST] at p3 hen
   obtain ⟨z2,hz2⟩: ∃z:ByteArray,(⟨p.val.text.toArray⟩:ByteArray)=z:=⟨_,rfl⟩
   rw [hz2] at p3 hen
   obtain ⟨E,hE⟩: ∃E,Gr.dQ p.val=E:=⟨_,rfl⟩
   obtain ⟨S,hS⟩: ∃S,Gr.aG (ps.take k)=S:=⟨_,rfl⟩
   have hel:=wL (HCK.out p hm)
   rw [hE] at hen hel
   rw [hS] at hs⊢
   have hSi:(S:Int)≤41000*1073741824:=by omega
   have hEi:(E:Int)≤41000:=by omega
   have HEN:=hq7 hen
   have HES:=hq7 (show Gr.aG (ps.take (k+1))=S+E by rw [O1 hp,hS,hE])
   have HK:=hq7 hk
   clear hkn hp hm hBw hlt ra rb hen hz2 hE hS hel hs hk
   go_wp2_with fail
   refine HEN.out.mono ?_
   rintro e w2 ⟨A2,c2,rfl,hb2⟩
   have HB2:=hq7 (HB.out.trans (hb2.mono HB.out.size))
   clear hb2 p1 p2 p3 p4 p5
   go_wp2
   go_roundg q
   case measure=>omega
   case rel=>exact ⟨k+1,int_eq (by rw [HES.out];omega),int_eq (by omega),by have:=HK.out;omega,HB2.out⟩
theorem FB {α:Type} {l:List α} {f:α→List Gr.P} {k:Nat} {a:α} (h:l[k]?=some a):Gr.aG ((l.take (k+1)).flatMap f)=Gr.aG ((l.take k).flatMap f)+Gr.aG (f a):=by
 rw [ou h,oC]
theorem qW {α:Type} (l:List α) (f:α→List Gr.P) (k:Nat):Gr.aG ((l.take k).flatMap f)≤Gr.aG (l.flatMap f):=by
 conv=>rhs;rw [←List.take_append_drop k l,List.flatMap_append,oC]
 omega
theorem O4 (B:Nat) (u:Value) (g:Gr.G) (w:World) (h:GIn w B u g) (hB:B≤w.heap.size) (hck: ∀p∈Gr.bf g,Cel.check p.val=0) (hlen:(Gr.bf g).length≤1073741824):
  Calls Tryz.prog 60 #[u] w fun e w'=>e= .returned (.int .i64 (Gr.weight g:Nat))∧Below w.heap.size w w':=by
 have hok:=h.ok
 obtain ⟨An,cn,Ar,cr,rfl,hN,hR⟩:=h.ex
 have hle:Gr.weight g≤41000*1073741824:=Nat.le_trans (wM hck) (Nat.mul_le_mul_left _ hlen)
 have hsum:Gr.weight g=Gr.aG (g.nodes.flatMap Gr.N.props)+Gr.aG (g.ah.flatMap Gr.R.props):=by unfold Gr.weight Gr.bf;rw [oC]
 have hcn: ∀n∈g.nodes,∀p∈n.props,Cel.check p.val=0:=fun n hn p hp=>hck p (List.mem_append_left _ (List.mem_flatMap.2 ⟨n,hn,hp⟩))
 have hcr: ∀n∈g.ah,∀p∈n.props,Cel.check p.val=0:=fun n hn p hp=>hck p (List.mem_append_right _ (List.mem_flatMap.2 ⟨n,hn,hp⟩))
 obtain ⟨nn,hnn⟩: ∃n,g.nodes.length=n:=⟨_,rfl⟩
 obtain ⟨rn,hrn⟩: ∃n,g.ah.length=n:=⟨_,rfl⟩
 have hnl:=hok.nl
 have hrl:=hok.rl
 rw [hnn] at hnl⊢
 rw [hrn] at hrl⊢
 have HN:=hq7 hN
 have HR:=hq7 hR
 have HOK:=hq7 hok
 have HCN:=hq7 hcn
 have HCR:=hq7 hcr
 have HNN:=hq7 hnn
 have HRN:=hq7 hrn
 have HSM:=hq7 hsum
 have HLE:=hq7 hle
 have HBB:=hq7 hB
 have HK0:=hq7 (Blk.new w 39 #[.slice An nn cn, .slice Ar rn cr])
 have HB0:=hq7 (show Below w.heap.size w (w.alloc (.cells #[.slice An nn cn, .slice Ar rn cr] 39)) from (Below.refl _ w).alloc (Nat.le_refl _) _)
 clear h hok hN hR hcn hcr hnn hrn hsum hle hB hck hlen
 go_enter Tryz.func60,Tryz.ntmps60
 go_wp2_with fail
 go_loopg [3,4] nn (fun q s x wr=> ∃k:Nat,s= .int .i64 (Gr.aG ((g.nodes.take k).flatMap Gr.N.props):Nat)∧x= .int .i64 k∧k+q=nn∧Below w.heap.size w wr∧Blk wr w.heap.size 39 #[.slice An nn cn, .slice Ar rn cr])
 case atStart=>exact ⟨0,rfl,rfl,by omega,HB0.out,HK0.out⟩
 case round=>
  obtain ⟨k,rfl,rfl,hk,hb,hbk⟩:=hrel
  have HB:=hq7 hb
  have HBK:=hq7 hbk
  obtain ⟨c0,c1⟩:=cells2 hbk
  have hs:=qW g.nodes Gr.N.props k
  clear hb hbk HK0 HB0
  cases gk with
  | zero=>
   obtain rfl:k=nn:=by omega
   have hf:g.nodes.take k=g.nodes:=List.take_of_length_le (by rw [HNN.out];exact Nat.le_refl _)
   rw [hf]
   obtain ⟨T,hT⟩: ∃T,Gr.aG (g.nodes.flatMap Gr.N.props)=T:=⟨_,rfl⟩
   rw [hT] at HSM⊢
   have hTle:T≤41000*1073741824:=by have:=HLE.out;have:=HSM.out;omega
   clear hk hs hf hT
   go_wp2_with fail
   go_loopg [3,5] rn (fun q s x wr=> ∃m:Nat,s= .int .i64 ((T+Gr.aG ((g.ah.take m).flatMap Gr.R.props):Nat):Int)∧x= .int .i64 m∧m+q=rn∧Below w.heap.size w wr∧Blk wr w.heap.size 39 #[.slice An k cn, .slice Ar rn cr])
   case atStart=>exact ⟨0,rfl,rfl,by omega,HB.out,HBK.out⟩
   case round=>
    obtain ⟨m,rfl,rfl,hm,hb,hbk⟩:=hrel
    have HB2:=hq7 hb
    have HBK2:=hq7 hbk
    clear c0 c1
    obtain ⟨c0,c1⟩:=cells2 hbk
    have hs:=qW g.ah Gr.R.props m
    clear hb hbk HB HBK
    cases gk with
    | zero=>
     obtain rfl:m=rn:=by omega
     have hf:g.ah.take m=g.ah:=List.take_of_length_le (by rw [HRN.out];exact Nat.le_refl _)
     rw [hf]
     rw [hf] at hs
     clear hm hf hs
     go_wp2
     go_ret
     exact ⟨by rw [HSM.out];rfl,HB2.out⟩
    | succ q=>
     have hmn:m<rn:=by omega
     have hmnI:(m:Int)<rn:=by omega
     have pk:(0:Int)≤(m:Int):=by omega
     have tk:((m:Int)).toNat=m:=by omega
     obtain ⟨r,hr⟩: ∃r,g.ah[m]?=some r:=⟨_,List.getElem?_eq_getElem (by rw [HRN.out];exact hmn)⟩
     have hmm:=List.mem_of_getElem? hr
     have hBw:=HB2.out.mono HBB.out
     obtain ⟨b,o,Ap,cp,rfl,hlt,⟨-,-,-,-,d4⟩,rp⟩:=(HR.out.below hBw (bV.below hBw)).rel hr
     obtain ⟨pn,hpn⟩: ∃n,r.props.length=n:=⟨_,rfl⟩
     have hen:=Fz B Ap cp pn r.props _ rp hpn (HOK.out.rs r hmm).ps (HCR.out r hmm) (Nat.le_trans HBB.out HB2.out.size) (hpn▸(HOK.out.rs r hmm).pl)
     rw [hpn] at d4
     obtain ⟨E,hE⟩: ∃E,Gr.aG r.props=E:=⟨_,rfl⟩
     obtain ⟨S,hS⟩: ∃S,Gr.aG ((g.ah.take m).flatMap Gr.R.props)=S:=⟨_,rfl⟩
     have hs2:=qW g.ah Gr.R.props (m+1)
     have hes:=FB (f:=Gr.R.props) hr
     rw [hE] at hen hes
     rw [hS] at hs hes⊢
     have hall:=HSM.out
     have hle2:=HLE.out
     have hSE:T+S+E≤41000*1073741824:=by omega
     have hSi:((T+S:Nat):Int)+(E:Int)≤41000*1073741824:=by omega
     obtain ⟨Q,hQ⟩: ∃Q,T+S=Q:=⟨_,rfl⟩
     rw [hQ] at hSi⊢
     have HEN:=hq7 hen
     have HES:=hq7 (show T+Gr.aG ((g.ah.take (m+1)).flatMap Gr.R.props)=Q+E by rw [hes];omega)
     have HK:=hq7 hm
     clear hmn hr hmm hBw hlt rp hpn hen hE hS hs2 hes hall hle2 hSE hQ hs hm
     go_wp2_with fail
     refine HEN.out.mono ?_
     rintro e w2 ⟨rfl,hb2⟩
     have HB3:=hq7 (HB2.out.trans (hb2.mono HB2.out.size))
     have HBK3:=hq7 (HBK2.out.below hb2 HBK2.out.lt)
     clear hb2 d4 c0 c1
     go_wp2
     go_roundg q
     case measure=>omega
     case rel=>exact ⟨m+1,int_eq (by rw [HES.out];omega),int_eq (by omega),by have:=HK.out;omega,HB3.out,HBK3.out⟩
  | succ q=>
   have hkn:k<nn:=by omega
   have hknI:(k:Int)<nn:=by omega
   have pk:(0:Int)≤(k:Int):=by omega
   have tk:((k:Int)).toNat=k:=by omega
   obtain ⟨r,hr⟩: ∃r,g.nodes[k]?=some r:=⟨_,List.getElem?_eq_getElem (by rw [HNN.out];exact hkn)⟩
   have hmm:=List.mem_of_getElem? hr
   have hBw:=HB.out.mono HBB.out
   obtain ⟨b,o,Al,cl,Ap,cp,rfl,hlt,⟨-,-,d2⟩,-,rp⟩:=(HN.out.below hBw (bU.below hBw)).node hr
   obtain ⟨pn,hpn⟩: ∃n,r.props.length=n:=⟨_,rfl⟩
   have hen:=Fz B Ap cp pn r.props _ rp hpn (HOK.out.ns r hmm).ps (HCN.out r hmm) (Nat.le_trans HBB.out HB.out.size) (hpn▸(HOK.out.ns r hmm).pl)
   rw [hpn] at d2
   obtain ⟨E,hE⟩: ∃E,Gr.aG r.props=E:=⟨_,rfl⟩
   obtain ⟨S,hS⟩: ∃S,Gr.aG ((g.nodes.take k).flatMap Gr.N.props)=S:=⟨_,rfl⟩
   have hs2:=qW g.nodes Gr.N.props (k+1)
   have hes:=FB (f:=Gr.N.props) hr
   rw [hE] at hen hes
   rw [hS] at hs hes⊢
   have hall:=HSM.out
   have hle2:=HLE.out
   have hSi:(S:Int)+(E:Int)≤41000*1073741824:=by omega
   have HEN:=hq7 hen
   have HES:=hq7 (show Gr.aG ((g.nodes.take (k+1)).flatMap Gr.N.props)=S+E from hes)
   have HK:=hq7 hk
   clear hkn hr hmm hBw hlt rp hpn hen hE hS hs2 hes hall hle2 hs hk
   go_wp2_with fail
   refine HEN.out.mono ?_
   rintro e w2 ⟨rfl,hb2⟩
   have HB3:=hq7 (HB.out.trans (hb2.mono HB.out.size))
   have HBK3:=hq7 (HBK.out.below hb2 HBK.out.lt)
   clear hb2 d2 c0 c1
   go_wp2
   go_roundg q
   case measure=>omega
   case rel=>exact ⟨k+1,int_eq (by rw [HES.out];omega),int_eq (by omega),by have:=HK.out;omega,HB3.out,HBK3.out⟩
end Go.Proofs.YtoofbflplhbpbaaGreatDoor
