/- Contracts and plain laws,part 39. -/
import Derived.Test.YtoofbflplhbpbaaGreatDoorBK38
set_option maxHeartbeats 64000000
set_option maxRecDepth 1000000
set_option linter.all false
namespace Go.Proofs.YtoofbflplhbpbaaGreatDoor
open Go.RowKit
theorem Blk.others {w w':World} {g b:Nat} {t e:TypeId} {cs:Array Value} (h:Blk w g t cs) (ho:Lib.OthersKept e (some b) w w') (hg:g≠b) (ht:t≠e):Blk w' g t cs:=
 ho g _ h (fun x=>hg (Option.some.inj x)) (fun _ _ x=>ht (by cases x;rfl))
structure PrS (w:World) (b:Nat) (l:List UInt8) (V:World):Prop where
 bel:Below w.heap.size w V
 bld:Bld b b l V
 lt:w.heap.size≤b
 sz:b<V.heap.size
theorem PrS.below {w V V':World} {b:Nat} {l:List UInt8} (h:PrS w b l V) (hb:Below V.heap.size V V'):PrS w b l V':=
 ⟨h.bel.trans (hb.mono h.bel.size),h.bld.below hb,h.lt,Nat.lt_of_lt_of_le h.sz hb.size⟩
theorem PrS.put {w V V':World} {b:Nat} {l l':List UInt8} (h:PrS w b l V) (hl:Bld b b l' V') (hb:Below b V V'):PrS w b l' V':=
 ⟨h.bel.trans (hb.mono h.lt),hl,h.lt,Nat.lt_of_lt_of_le h.sz hb.size⟩
structure PrN (w:World) (b nd:Nat) (T:TypeId) (gc nc:Array Value) (l:List UInt8) (V:World):Prop where
 s:PrS w b l V
 g:Blk V w.heap.size 39 gc
 n:Blk V nd T nc
 ne:nd≠b∧w.heap.size≠b∧T≠5
theorem PrN.below {w V V':World} {b nd:Nat} {T:TypeId} {gc nc:Array Value} {l:List UInt8} (h:PrN w b nd T gc nc l V) (hb:Below V.heap.size V V'):PrN w b nd T gc nc l V':=
 ⟨h.s.below hb,h.g.below hb h.g.lt,h.n.below hb h.n.lt,h.ne⟩
theorem PrN.put {w V V':World} {b nd:Nat} {T:TypeId} {gc nc:Array Value} {l l':List UInt8} (h:PrN w b nd T gc nc l V) (hl:Bld b b l' V') (hb:Below b V V') (ho:Lib.OthersKept 5 (some b) V V'):PrN w b nd T gc nc l' V':=
 ⟨h.s.put hl hb,h.g.others ho h.ne.2.1 (by decide),h.n.others ho h.ne.1 h.ne.2.2,h.ne⟩
theorem EI {α:Type} (l:List α) (k:Nat) (f:α→List UInt8):((l.take k).flatMap f).length≤(l.flatMap f).length:=by
 conv=>rhs;rw [←List.take_append_drop k l]
 rw [List.flatMap_append,List.length_append]
 omega
theorem EJ (B:Nat) (u:Value) (g:Gr.G) (w:World) (h:GIn w B u g) (hB:B≤w.heap.size) (hL:Laid w):
  Calls Tryz.prog 20 #[u] w fun e w'=>e= .returned (.tuple #[.string ⟨(Cy.jT g).1.toArray⟩, .int .i64 ((Cy.jT g).2:Nat)])∧Below w.heap.size w w':=by
 have HG:=hq7 h
 have HL:=hq7 hL
 have HOK:=hq7 h.ok
 have hck:=fun (V:World) (hb:Below w.heap.size w V)=>Es B u g V (h.below (hb.mono hB)) (Nat.le_trans hB hb.size)
 have hgood:=fun e0:(Gr.check g).1=0=>(Gr.qj (g:=g)).1 e0
 have hlen:=fun e0:(Gr.check g).1=0=>EH (hgood e0) h.ok
 obtain ⟨R,hR⟩: ∃R,Cy.jT g=R:=⟨_,rfl⟩
 rw [hR]
 unfold Cy.jT at hR
 obtain ⟨c1,hc1⟩: ∃c,(Gr.check g).1=c:=⟨_,rfl⟩
 obtain ⟨c2,hc2⟩: ∃c,(Gr.check g).2=c:=⟨_,rfl⟩
 rw [hc1] at hR hgood hlen
 rw [hc1,hc2] at hck
 obtain ⟨An,cn,Ar,cr,rfl,hN,hRl⟩:=h.ex
 obtain ⟨nn,hnn⟩: ∃n,g.nodes.length=n:=⟨_,rfl⟩
 obtain ⟨rn,hrn⟩: ∃n,g.ah.length=n:=⟨_,rfl⟩
 rw [hnn,hrn] at hck⊢
 obtain ⟨W1,hW1⟩: ∃W1,w.alloc (.cells #[.slice An nn cn, .slice Ar rn cr] 39)=W1:=⟨_,rfl⟩
 have hb1:Below w.heap.size w W1:=by rw [←hW1];exact (Below.refl _ w).alloc (Nat.le_refl _) _
 have k1:Blk W1 w.heap.size 39 #[.slice An nn cn, .slice Ar rn cr]:=by rw [←hW1];exact Blk.new _ _ _
 have HW1:=hq7 hW1
 have HK1:=hq7 k1
 have HB1:=hq7 hb1
 have HCK:=hq7 (hck W1 hb1)
 have HGD:=hq7 hgood
 have HLN:=hq7 hlen
 have HR:=hq7 hR
 have HN:=hq7 hN
 have HRL:=hq7 hRl
 have hnnb:nn≤1073741824:=by rw [←hnn];exact HOK.out.nl
 have hrnb:rn≤1073741824:=by rw [←hrn];exact HOK.out.rl
 have HNN:=hq7 hnn
 have HRN:=hq7 hrn
 have HBw:=hq7 hB
 obtain ⟨a0,a1⟩:=cells2 k1
 clear h hL hck hgood hlen hR hN hRl hnn hrn hB hb1 hW1 k1 hc1 hc2
 go_enter Tryz.func20,Tryz.ntmps20
 go_upto_region 1 with fail
 rw [HW1.out]
 clear HW1
 go_wp2_with fail
 refine HCK.out.mono ?_
 rintro e w2 ⟨rfl,hb2⟩
 have HB2:=hq7 (HB1.out.trans (hb2.mono HB1.out.size))
 have HK2:=hq7 (HK1.out.below hb2 HK1.out.lt)
 clear hb2 a0 a1 HCK HK1
 obtain ⟨a0,a1⟩:=cells2 HK2.out
 by_cases hc0:c1=0
 case neg=>
  have HRR:=hq7 (show R=([],c1) by rw [←HR.out,if_neg hc0])
  have t0:((c1:Int) !=0)=true:=by rw [bne_iff_ne];omega
  clear hc0
  go_wp2
  go_ret2
  exact ⟨by rw [HRR.out];rfl,HB2.out⟩
 subst hc0
 have HRR:=hq7 (show R=(Cy.print g,0) by rw [←HR.out,if_pos rfl])
 have HPL:=hq7 (HLN.out rfl)
 have HGOOD:=hq7 (HGD.out rfl)
 have HNP:=hq7 (Good.node HGOOD.out HOK.out)
 have HRP:=hq7 (Good.rel HGOOD.out HOK.out)
 obtain ⟨b,hbb⟩: ∃b,w2.heap.size=b:=⟨_,rfl⟩
 obtain ⟨W3,hW3⟩: ∃W3,w2.alloc (.cells #[.pointer none, .slice none 0 0] 70)=W3:=⟨_,rfl⟩
 have HW3:=hq7 hW3
 have HS0:=hq7 (show PrS w b [] W3 by rw [←hW3,←hbb];exact ⟨HB2.out.alloc HB2.out.size _,Bld.fresh w2,HB2.out.size,by simp⟩)
 have HK3:=hq7 (show Blk W3 w.heap.size 39 #[.slice An nn cn, .slice Ar rn cr] by rw [←hW3];exact HK2.out.alloc _)
 have HBB:=hq7 hbb
 have hgb:=HK2.out.lt
 rw [hbb] at hgb
 clear hW3 HLN HGD HR
 go_upto_region 5 with fail
 rw [HW3.out]
 try rw [hbb]
 clear a0 a1 HK2 HW3 hbb
 obtain ⟨a0,a1⟩:=cells2 HK3.out
 have hbl0:b≠w.heap.size:=fun e=>by rw [e] at hgb;exact Nat.lt_irrefl _ hgb
 go_wp2_with fail
 go_loopg [24] nn (fun q x wr=> ∃k:Nat,x= .int .i64 k∧k+q=nn∧PrS w b ((g.nodes.take k).flatMap Cy.bM) wr∧Blk wr w.heap.size 39 #[.slice An nn cn, .slice Ar rn cr])
 case atStart=>exact ⟨0,rfl,by omega,HS0.out,HK3.out⟩
 case round=>
  obtain ⟨k,rfl,hk,hs,hkb⟩:=hrel
  have HS:=hq7 hs
  have HK:=hq7 hk
  have HKB:=hq7 hkb
  clear a0 a1
  obtain ⟨a0,a1⟩:=cells2 hkb
  clear hs hkb HS0 HK3
  cases gk with
  | succ q=>
   have hkn:k<nn:=by omega
   have hknI:(k:Int)<nn:=by omega
   obtain ⟨n,hn⟩: ∃n,g.nodes[k]?=some n:=⟨_,List.getElem?_eq_getElem (by rw [HNN.out];exact hkn)⟩
   have hft:=tY hn Cy.bM
   have hpl:((g.nodes.take (k+1)).flatMap Cy.bM).length≤8388608:=by
    have h1:=EI g.nodes (k+1) Cy.bM
    have h2:=HPL.out
    rw [qU,List.length_append] at h2
    omega
   rw [hft] at hpl
   obtain ⟨L,hL⟩: ∃L,(g.nodes.take k).flatMap Cy.bM=L:=⟨_,rfl⟩
   rw [hL] at hpl hft HS
   have hBW:=HS.out.bel.mono HBw.out
   obtain ⟨nb,o,Al,cl,Ap,cp,rfl,hbB,⟨D0,D1,D2⟩,hlr,hpr⟩:=HN.out.node hn
   have d0:=(hBW.cell (p:=⟨nb,o+k*3,none⟩) hbB).trans D0
   have d1:=(hBW.cell (p:=⟨nb,o+k*3+1,none⟩) hbB).trans D1
   have d2:=(hBW.cell (p:=⟨nb,o+k*3+2,none⟩) hbB).trans D2
   obtain ⟨ll,hll⟩: ∃ll,n.labels.length=ll:=⟨_,rfl⟩
   obtain ⟨pl,hpll⟩: ∃pl,n.props.length=pl:=⟨_,rfl⟩
   rw [hll] at d1 hlr
   rw [hpll] at d2
   have hnp:=HNP.out n (List.mem_of_getElem? hn)
   have hll8:ll≤8:=by rw [←hll];exact hnp.ll
   obtain ⟨WN,hWN⟩: ∃W,wr.alloc (.cells #[.int .i64 n.id, .slice Al ll cl, .slice Ap pl cp] 59)=W:=⟨_,rfl⟩
   have hbn:Below wr.heap.size wr WN:=by rw [←hWN];exact (Below.refl _ _).alloc (Nat.le_refl _) _
   have HSN:=hq7 (HS.out.below hbn)
   have HKN:=hq7 (HKB.out.below hbn HKB.out.lt)
   obtain ⟨nd,hnd⟩: ∃x,wr.heap.size=x:=⟨_,rfl⟩
   have HND:=hq7 (show Blk WN nd 59 #[.int .i64 n.id, .slice Al ll cl, .slice Ap pl cp] by rw [←hWN,←hnd];exact Blk.new _ _ _)
   have HNE:=hq7 (show nd≠b∧nd≠w.heap.size by have:=HS.out.sz;have:=HS.out.lt;have:=HKB.out.lt;omega)
   have hnw:=fun (V:World) (hb:Below w.heap.size w V)=>wR n.id V hnp.ok.id (HL.out.below hb)
   obtain ⟨zi,hzi⟩: ∃z:ByteArray,(⟨(110 :: Lib.itoa n.id).toArray⟩:ByteArray)=z:=⟨_,rfl⟩
   rw [hzi] at hnw
   have HNW:=hq7 hnw
   have HZI:=hq7 hzi
   have hzis:zi.size≤22:=by rw [←hzi,aJ,List.length_cons];have:=iT hnp.ok.id.1 hnp.ok.id.2;omega
   have HWN:=hq7 hWN
   have HNPn:=hq7 hnp
   have HPLk:=hq7 hpl
   have HFT:=hq7 hft
   have HLR:=hq7 hlr
   have HPR:=hq7 hpr
   have HLL:=hq7 hll
   have HPLL:=hq7 hpll
   clear hn hft hpl hL hBW hbB D0 D1 D2 hlr hpr hnp hWN hbn hnw hzi HS HKB hll hpll hkn hk
   go_upto_region 8 with fail
   rw [HWN.out]
   try rw [hnd]
   clear hnd a0 a1 d0 d1 d2
   obtain ⟨d0,d1,d2⟩:=cells3 HND.out
   obtain ⟨a0,a1⟩:=cells2 HKN.out
   go_wp2_with fail
   refine (HNW.out WN HSN.out.bel).mono ?_
   rintro e w4 ⟨rfl,hb4⟩
   have HN4:=hq7 (show PrN w b nd 59 #[.slice (some ⟨nb,o,none⟩) nn cn, .slice Ar rn cr] #[.int .i64 n.id, .slice Al ll cl, .slice Ap pl cp] L w4 from ⟨HSN.out.below hb4,HKN.out.below hb4 HKN.out.lt,HND.out.below hb4 HND.out.lt,HNE.out.1,hbl0.symm,by decide⟩)
   clear hb4 HSN HKN HND a0 a1 d0 d1 d2 HNW
   have hLl:L.length≤8388608:=by have:=HPLk.out;rw [List.length_append] at this;omega
   have hq1:(⟨#[67,82,69,65,84,69,32,40]⟩ ++ zi:ByteArray).size≤30:=by rw [ByteArray.size_append];show 8+zi.size≤30;omega
   have HW1:=hq7 (jg b b L (⟨#[67,82,69,65,84,69,32,40]⟩ ++ zi) w4 HN4.out.s.bld (by omega) (by omega) (Nat.le_of_lt HN4.out.s.sz))
   go_wp2_with fail
   refine HW1.out.mono ?_
   rintro e w5 ⟨rfl,hl5,hb5,ho5⟩
   obtain ⟨L1,hL1⟩: ∃L1,L ++(⟨#[67,82,69,65,84,69,32,40]⟩ ++ zi:ByteArray).data.toList=L1:=⟨_,rfl⟩
   rw [hL1] at hl5
   have HN5:=hq7 (HN4.out.put hl5 hb5 ho5)
   have HL1:=hq7 (show L1=L ++(Cy.fK ++ [32,40,110] ++ Lib.itoa n.id) by rw [←hL1,←HZI.out];simp [Cy.fK])
   clear hl5 hb5 ho5 hL1 HN4 HW1 hq1
   obtain ⟨d0,d1,d2⟩:=cells3 HN5.out.n
   go_wp2_with fail
   go_loopg [36] ll (fun q x wl=> ∃j:Nat,x= .int .i64 j∧j+q=ll∧PrN w b nd 59 #[.slice (some ⟨nb,o,none⟩) nn cn, .slice Ar rn cr] #[.int .i64 n.id, .slice Al ll cl, .slice Ap pl cp] (L1 ++(n.labels.take j).flatMap (fun l=>58 :: l)) wl)
   case atStart=>exact ⟨0,rfl,by omega,by rw [List.take_zero,List.flatMap_nil,List.append_nil];exact HN5.out⟩
   case round=>
    obtain ⟨j,rfl,hj,hs⟩:=hrel
    have HJ:=hq7 hj
    have HNJ:=hq7 hs
    clear hs d0 d1 d2
    cases gk with
    | succ qi=>
     have hjl:j<ll:=by omega
     have hjlI:(j:Int)<ll:=by omega
     obtain ⟨pb,po,x,rfl,hpb,hx,hp⟩:=(HLR.out.below (HNJ.out.s.bel.mono HBw.out)).cell hjl
     rw [List.getElem?_map] at hx
     obtain ⟨y,hy,rfl⟩:=Option.map_eq_some_iff.1 hx
     unfold ST at hp
     obtain ⟨zy,hzy⟩: ∃z:ByteArray,(⟨y.toArray⟩:ByteArray)=z:=⟨_,rfl⟩
     rw [hzy] at hp
     have hyl:=HNPn.out.ls y (List.mem_of_getElem? hy)
     have hzys:zy.size≤40:=by rw [←hzy,aJ];exact hyl
     have hlt:=tY hy (fun l=>(58:UInt8) :: l)
     obtain ⟨LJ,hLJ⟩: ∃LJ,L1 ++(n.labels.take j).flatMap (fun l=>58 :: l)=LJ:=⟨_,rfl⟩
     have hLJl:LJ.length≤8388608:=by
      have h1:=HPLk.out
      have e:n.labels.flatMap (fun l=>58 :: l)=(n.labels.take j).flatMap (fun l=>58 :: l) ++(n.labels.drop j).flatMap (fun l=>58 :: l):=by rw [←List.flatMap_append,List.take_append_drop]
      have h2:L ++ Cy.bM n=LJ ++((n.labels.drop j).flatMap (fun l=>58 :: l) ++ Cy.fE n.props ++ [41,59,10]):=by
       unfold Cy.bM
       rw [e,←hLJ,HL1.out]
       simp
      rw [h2,List.length_append] at h1
      omega
     rw [hLJ] at HNJ
     have hq1:(⟨#[58]⟩ ++ zy:ByteArray).size≤41:=by rw [ByteArray.size_append];show 1+zy.size≤41;omega
     have HW1:=hq7 (jg b b LJ (⟨#[58]⟩ ++ zy) wr HNJ.out.s.bld (by omega) (by omega) (Nat.le_of_lt HNJ.out.s.sz))
     have HLT:=hq7 (show L1 ++(n.labels.take (j+1)).flatMap (fun l=>58 :: l)=LJ ++(⟨#[58]⟩ ++ zy:ByteArray).data.toList by rw [hlt,←hLJ,←hzy];simp)
     clear hx hy hzy hyl hlt hLJ hjl hj hpb
     go_wp2_with fail
     refine HW1.out.mono ?_
     rintro e w6 ⟨rfl,hl6,hb6,ho6⟩
     have HN6:=hq7 (HNJ.out.put hl6 hb6 ho6)
     clear hl6 hb6 ho6
     go_wp2
     go_roundg qi
     case measure=>omega
     case rel=>exact ⟨j+1,int_eq (by omega),by have:=HJ.out;omega,by rw [HLT.out];exact HN6.out⟩
    | zero=>
     obtain rfl:j=ll:=by omega
     have hnj:=HNJ.out
     rw [List.take_of_length_le (by rw [HLL.out];exact Nat.le_refl _)] at hnj
     obtain ⟨L2,hL2⟩: ∃L2,L1 ++ n.labels.flatMap (fun l=>58 :: l)=L2:=⟨_,rfl⟩
     rw [hL2] at hnj
     have HN6:=hq7 hnj
     have hpm:=fun (V:World) (hb:Below w.heap.size w V)=>Et B Ap cp n.props V (HPR.out.below (hb.mono HBw.out) (aB.below (hb.mono HBw.out))) (Nat.le_trans HBw.out hb.size) HNPn.out.pl HNPn.out.ps (HL.out.below hb)
     rw [HPLL.out] at hpm
     obtain ⟨zm,hzm⟩: ∃z:ByteArray,(⟨(Cy.fE n.props).toArray⟩:ByteArray)=z:=⟨_,rfl⟩
     rw [hzm] at hpm
     have hzms:zm.size≤6500003:=by rw [←hzm,aJ];exact (wQ HNPn.out.pl HNPn.out.ps).2
     have HPM:=hq7 hpm
     have HLF:=hq7 (show L ++ Cy.bM n=L2 ++(zm ++⟨#[41,59,10]⟩:ByteArray).data.toList by rw [←hL2,HL1.out,←hzm];simp [Cy.bM])
     have hL2l:L2.length≤8388608:=by
      have h1:=HPLk.out
      rw [HLF.out,List.length_append] at h1
      omega
     have hq1:(zm ++⟨#[41,59,10]⟩:ByteArray).size≤6500006:=by rw [ByteArray.size_append];show zm.size+3≤6500006;omega
     clear hnj hL2 hpm hzm hj HNJ
     obtain ⟨d0,d1,d2⟩:=cells3 HN6.out.n
     go_wp2_with fail
     refine (HPM.out wr HN6.out.s.bel).mono ?_
     rintro e w7 ⟨rfl,hb7⟩
     have HN7:=hq7 (HN6.out.below hb7)
     clear hb7 HN6 d0 d1 d2
     have HW1:=hq7 (jg b b L2 (zm ++⟨#[41,59,10]⟩) w7 HN7.out.s.bld (by omega) (by omega) (Nat.le_of_lt HN7.out.s.sz))
     go_wp2_with fail
     refine HW1.out.mono ?_
     rintro e w8 ⟨rfl,hl8,hb8,ho8⟩
     have HN8:=hq7 (HN7.out.put hl8 hb8 ho8)
     clear hl8 hb8 ho8
     go_wp2
     go_roundg q
     case measure=>omega
     case rel=>exact ⟨k+1,int_eq (by omega),by have:=HK.out;omega,by rw [HFT.out,HLF.out];exact HN8.out.s,HN8.out.g⟩
  | zero=>
   obtain rfl:k=nn:=by omega
   have hs:=HS.out
   rw [List.take_of_length_le (by rw [HNN.out];exact Nat.le_refl _)] at hs
   have HSA:=hq7 hs
   clear hs HS hk
   go_wp2_with fail
   go_loopg [53] rn (fun q x wr=> ∃m:Nat,x= .int .i64 m∧m+q=rn∧PrS w b (g.nodes.flatMap Cy.bM ++(g.ah.take m).flatMap Cy.dH) wr∧Blk wr w.heap.size 39 #[.slice An k cn, .slice Ar rn cr])
   case atStart=>exact ⟨0,rfl,by omega,by rw [List.take_zero,List.flatMap_nil,List.append_nil];exact HSA.out,HKB.out⟩
   case round=>
    obtain ⟨m,rfl,hm,hs,hkb⟩:=hrel
    have HKR:=hq7 hkb
    clear hkb
    have HS:=hq7 hs
    have HM:=hq7 hm
    clear hs HSA HKB a0 a1
    cases gk with
    | zero=>
     obtain rfl:m=rn:=by omega
     have hs:=HS.out
     rw [List.take_of_length_le (by rw [HRN.out];exact Nat.le_refl _),←qU] at hs
     have HSF:=hq7 hs
     have HC:=hq7 (tC b b (Cy.print g) wr hs.bld (Nat.le_of_lt hs.sz))
     clear hs HS hm
     go_wp2_with fail
     refine HC.out.mono ?_
     rintro e w9 ⟨rfl,-,hb9,-⟩
     have HB9:=hq7 (HSF.out.bel.trans (hb9.mono HSF.out.lt))
     clear hb9
     go_wp2
     go_ret2
     exact ⟨by rw [HRR.out];rfl,HB9.out⟩
    | succ q=>
     have hmn:m<rn:=by omega
     have hmnI:(m:Int)<rn:=by omega
     obtain ⟨r,hr⟩: ∃r,g.ah[m]?=some r:=⟨_,List.getElem?_eq_getElem (by rw [HRN.out];exact hmn)⟩
     have hft:=tY hr Cy.dH
     have hpl:(g.nodes.flatMap Cy.bM ++(g.ah.take (m+1)).flatMap Cy.dH).length≤8388608:=by
      have h1:=EI g.ah (m+1) Cy.dH
      have h2:=HPL.out
      rw [qU,List.length_append] at h2
      rw [List.length_append]
      omega
     rw [hft,←List.append_assoc] at hpl
     obtain ⟨L,hL⟩: ∃L,g.nodes.flatMap Cy.bM ++(g.ah.take m).flatMap Cy.dH=L:=⟨_,rfl⟩
     have HFT:=hq7 (show g.nodes.flatMap Cy.bM ++(g.ah.take (m+1)).flatMap Cy.dH=L ++ Cy.dH r by rw [hft,←List.append_assoc,hL])
     rw [hL] at hpl HS
     have hBW:=HS.out.bel.mono HBw.out
     obtain ⟨rb,o,Ap,cp,rfl,hbB,⟨D0,D1,D2,D3,D4⟩,hpr⟩:=HRL.out.rel hr
     have d0:=(hBW.cell (p:=⟨rb,o+m*5,none⟩) hbB).trans D0
     have d1:=(hBW.cell (p:=⟨rb,o+m*5+1,none⟩) hbB).trans D1
     have d2:=(hBW.cell (p:=⟨rb,o+m*5+2,none⟩) hbB).trans D2
     have d3:=(hBW.cell (p:=⟨rb,o+m*5+3,none⟩) hbB).trans D3
     have d4:=(hBW.cell (p:=⟨rb,o+m*5+4,none⟩) hbB).trans D4
     obtain ⟨pl,hpll⟩: ∃pl,r.props.length=pl:=⟨_,rfl⟩
     rw [hpll] at d4
     have hrp:=HRP.out r (List.mem_of_getElem? hr)
     obtain ⟨zt,hzt⟩: ∃z:ByteArray,(⟨r.type.toArray⟩:ByteArray)=z:=⟨_,rfl⟩
     unfold ST at d1
     rw [hzt] at d1
     have hzts:zt.size≤40:=by rw [←hzt,aJ];exact hrp.tl
     obtain ⟨WN,hWN⟩: ∃W,wr.alloc (.cells #[.int .i64 r.id, .string zt, .int .i64 r.src, .int .i64 r.dst, .slice Ap pl cp] 63)=W:=⟨_,rfl⟩
     have hbn:Below wr.heap.size wr WN:=by rw [←hWN];exact (Below.refl _ _).alloc (Nat.le_refl _) _
     have HSN:=hq7 (HS.out.below hbn)
     have HKN:=hq7 (HKR.out.below hbn HKR.out.lt)
     obtain ⟨nd,hnd⟩: ∃x,wr.heap.size=x:=⟨_,rfl⟩
     have hk0:Blk WN nd 63 #[.int .i64 r.id, .string zt, .int .i64 r.src, .int .i64 r.dst, .slice Ap pl cp]:=by rw [←hWN,←hnd];exact Blk.new _ _ _
     have hne:nd≠b:=by have:=HS.out.sz;omega
     have HND:=hq7 hk0
     have HNE:=hq7 hne
     have e0:WN.cell? ⟨nd,0,none⟩=some (.int .i64 r.id):=hk0.cell 0
     have e1:WN.cell? ⟨nd,1,none⟩=some (.string zt):=hk0.cell 1
     have e2:WN.cell? ⟨nd,2,none⟩=some (.int .i64 r.src):=hk0.cell 2
     have q0:=fun n os=>fA (w:=WN) hk0.lt e0 n os
     have q1:=fun n os=>fA (w:=WN) hk0.lt e1 n os
     have q2:=fun n os=>fA (w:=WN) hk0.lt e2 n os
     obtain ⟨zs,hzs⟩: ∃z:ByteArray,(⟨(110 :: Lib.itoa r.src).toArray⟩:ByteArray)=z:=⟨_,rfl⟩
     obtain ⟨zi,hzi⟩: ∃z:ByteArray,(⟨(Lib.itoa r.id).toArray⟩:ByteArray)=z:=⟨_,rfl⟩
     have hLW:=HL.out.below HSN.out.bel
     have HNW:=hq7 (fun n os=>nX (by have:=wR r.src (wide WN n os) hrp.ok.src (hLW.below (jo WN n os));rw [hzs] at this;exact this))
     have HFI:=hq7 (fun n os=>nX (by have:=sK r.id (wide WN n os) hrp.ok.id.1 hrp.ok.id.2 (hLW.below (jo WN n os));rw [hzi] at this;exact this))
     have hzss:zs.size≤22:=by rw [←hzs,aJ,List.length_cons];have:=iT hrp.ok.src.1 hrp.ok.src.2;omega
     have hzis:zi.size≤21:=by rw [←hzi,aJ];exact iT hrp.ok.id.1 hrp.ok.id.2
     have s1:(⟨#[67,82,69,65,84,69,32,40]⟩ ++ zs:ByteArray).size≤30:=by rw [ByteArray.size_append];show 8+zs.size≤30;omega
     have s2:(⟨#[67,82,69,65,84,69,32,40]⟩ ++ zs ++⟨#[41,45,91,114]⟩:ByteArray).size≤34:=by rw [ByteArray.size_append];show _+4≤34;omega
     have s3:(⟨#[67,82,69,65,84,69,32,40]⟩ ++ zs ++⟨#[41,45,91,114]⟩ ++ zi:ByteArray).size≤55:=by rw [ByteArray.size_append];omega
     have s4:(⟨#[67,82,69,65,84,69,32,40]⟩ ++ zs ++⟨#[41,45,91,114]⟩ ++ zi ++⟨#[58]⟩:ByteArray).size≤56:=by rw [ByteArray.size_append];show _+1≤56;omega
     have s5:(⟨#[67,82,69,65,84,69,32,40]⟩ ++ zs ++⟨#[41,45,91,114]⟩ ++ zi ++⟨#[58]⟩ ++ zt:ByteArray).size≤96:=by rw [ByteArray.size_append];omega
     have t1:(9223372036854775807<8+zs.size)=False:=eq_false (by omega)
     have t2:(9223372036854775807<8+zs.size+4)=False:=eq_false (by omega)
     have t3:(9223372036854775807<8+zs.size+4+zi.size)=False:=eq_false (by omega)
     have t4:(9223372036854775807<8+zs.size+4+zi.size+1)=False:=eq_false (by omega)
     have t5:(9223372036854775807<8+zs.size+4+zi.size+1+zt.size)=False:=eq_false (by omega)
     have hLl:L.length≤8388608:=by rw [List.length_append] at hpl;omega
     have HWN:=hq7 hWN
     have HRPr:=hq7 hrp
     have HPLk:=hq7 hpl
     have HPR:=hq7 hpr
     have HPLL:=hq7 hpll
     have HZ:=hq7 (And.intro hzs (And.intro hzi hzt))
     clear hr hft hpl hL hBW hbB D0 D1 D2 D3 D4 hpr hrp hWN hbn hk0 hne hzs hzi hzt hLW HS hpll hmn hm
     go_upto_region 19 with fail
     rw [HWN.out]
     try rw [hnd]
     clear hnd d0 d1 d2 d3 d4
     refine CS 13 (by kernel_rfl) (by kernel_rfl) ?_
     simp only [List.take_succ_cons,List.take_zero,List.drop_succ_cons,List.drop_zero]
     repeat (quiet_step (first | exact HNW.out _ _ | exact HFI.out _ _ | fail))
     refine wpQuiet_nil ?_
     rintro _ ⟨⟨qn,qos⟩,rfl⟩
     obtain ⟨WW,hWW⟩: ∃W,wide WN qn qos=W:=⟨_,rfl⟩
     have hbw:=jo WN qn qos
     show wpList _ _ _ _ _ (wide WN qn qos)
     rw [hWW] at hbw⊢
     have HN4:=hq7 (show PrN w b nd 63 #[.slice An k cn, .slice (some ⟨rb,o,none⟩) rn cr] #[.int .i64 r.id, .string zt, .int .i64 r.src, .int .i64 r.dst, .slice Ap pl cp] L WW from ⟨HSN.out.below hbw,HKN.out.below hbw HKN.out.lt,HND.out.below hbw HND.out.lt,HNE.out,hbl0.symm,by decide⟩)
     clear hWW hbw HSN HKN HND e0 e1 e2 q0 q1 q2 t1 t2 t3 t4 t5 HNW HFI
     obtain ⟨zq,hzq⟩: ∃z:ByteArray,(⟨#[67,82,69,65,84,69,32,40]⟩ ++ zs ++⟨#[41,45,91,114]⟩ ++ zi ++⟨#[58]⟩ ++ zt:ByteArray)=z:=⟨_,rfl⟩
     rw [hzq] at s5
     have HW1:=hq7 (jg b b L zq WW HN4.out.s.bld (by omega) (by omega) (Nat.le_of_lt HN4.out.s.sz))
     try rw [hzq]
     have HZQ:=hq7 hzq
     clear hzq s1 s2 s3 s4
     go_wp2_with fail
     refine HW1.out.mono ?_
     rintro e w5 ⟨rfl,hl5,hb5,ho5⟩
     obtain ⟨L1,hL1⟩: ∃L1,L ++ zq.data.toList=L1:=⟨_,rfl⟩
     rw [hL1] at hl5
     have HN5:=hq7 (HN4.out.put hl5 hb5 ho5)
     have HL1:=hq7 (show L1=L ++(Cy.fK ++ [32,40,110] ++ Lib.itoa r.src ++ [41,45,91,114] ++ Lib.itoa r.id ++ [58] ++ r.type) by rw [←hL1,←HZQ.out,←HZ.out.1,←HZ.out.2.1,←HZ.out.2.2];simp [Cy.fK])
     clear hl5 hb5 ho5 hL1 HN4 HW1
     have hk0:=HN5.out.n
     have e3:w5.cell? ⟨nd,3,none⟩=some (.int .i64 r.dst):=hk0.cell 3
     have e4:w5.cell? ⟨nd,4,none⟩=some (.slice Ap pl cp):=hk0.cell 4
     have q3:=fun n os=>fA (w:=w5) hk0.lt e3 n os
     have q4:=fun n os=>fA (w:=w5) hk0.lt e4 n os
     obtain ⟨zd,hzd⟩: ∃z:ByteArray,(⟨(110 :: Lib.itoa r.dst).toArray⟩:ByteArray)=z:=⟨_,rfl⟩
     obtain ⟨zm,hzm⟩: ∃z:ByteArray,(⟨(Cy.fE r.props).toArray⟩:ByteArray)=z:=⟨_,rfl⟩
     have hbV:=fun n os=>HN5.out.s.bel.trans ((jo w5 n os).mono HN5.out.s.bel.size)
     have HNW:=hq7 (fun n os=>nX (by have:=wR r.dst (wide w5 n os) HRPr.out.ok.dst (HL.out.below (hbV n os));rw [hzd] at this;exact this))
     have HPM:=hq7 (fun n os=>nX (by have:=Et B Ap cp r.props (wide w5 n os) (HPR.out.below ((hbV n os).mono HBw.out) (aB.below ((hbV n os).mono HBw.out))) (Nat.le_trans HBw.out (hbV n os).size) HRPr.out.pl HRPr.out.ps (HL.out.below (hbV n os));rw [hzm,HPLL.out] at this;exact this))
     have hzds:zd.size≤22:=by rw [←hzd,aJ,List.length_cons];have:=iT HRPr.out.ok.dst.1 HRPr.out.ok.dst.2;omega
     have hzms:zm.size≤6500003:=by rw [←hzm,aJ];exact (wQ HRPr.out.pl HRPr.out.ps).2
     have t1:(9223372036854775807<zm.size+4)=False:=eq_false (by omega)
     have t2:(9223372036854775807<zm.size+4+zd.size)=False:=eq_false (by omega)
     have t3:(9223372036854775807<zm.size+4+zd.size+3)=False:=eq_false (by omega)
     have HLF:=hq7 (show L ++ Cy.dH r=L1 ++(zm ++⟨#[93,45,62,40]⟩ ++ zd ++⟨#[41,59,10]⟩:ByteArray).data.toList by rw [HL1.out,←hzm,←hzd];simp [Cy.dH])
     have HZ2:=hq7 (And.intro hzd hzm)
     have HPV:=hq7 hbV
     clear hk0 hbV hzd hzm
     go_upto_region 20 with fail
     refine CS 9 (by kernel_rfl) (by kernel_rfl) ?_
     simp only [List.take_succ_cons,List.take_zero,List.drop_succ_cons,List.drop_zero]
     repeat (quiet_step (first | exact HNW.out _ _ | exact HPM.out _ _ | fail))
     refine wpQuiet_nil ?_
     rintro _ ⟨⟨qn2,qos2⟩,rfl⟩
     obtain ⟨WV,hWV⟩: ∃W,wide w5 qn2 qos2=W:=⟨_,rfl⟩
     have hbw:=jo w5 qn2 qos2
     show wpList _ _ _ _ _ (wide w5 qn2 qos2)
     rw [hWV] at hbw⊢
     have HN6:=hq7 (HN5.out.below hbw)
     clear hWV hbw e3 e4 q3 q4 t1 t2 t3 HNW HPM HPV
     obtain ⟨zq2,hzq2⟩: ∃z:ByteArray,(zm ++⟨#[93,45,62,40]⟩ ++ zd ++⟨#[41,59,10]⟩:ByteArray)=z:=⟨_,rfl⟩
     have HLG:=hq7 (show L ++ Cy.dH r=L1 ++ zq2.data.toList by rw [HLF.out,hzq2])
     have hzqs:zq2.size≤6500040:=by rw [←hzq2];simp only [ByteArray.size_append];show zm.size+4+zd.size+3≤_;omega
     have hL1l:L1.length≤8388608:=by
      have h1:=HPLk.out
      rw [HLG.out,List.length_append] at h1
      omega
     have HW2:=hq7 (jg b b L1 zq2 WV HN6.out.s.bld (by omega) (by omega) (Nat.le_of_lt HN6.out.s.sz))
     try rw [hzq2]
     clear hzq2 HLF
     go_wp2_with fail
     refine HW2.out.mono ?_
     rintro e w8 ⟨rfl,hl8,hb8,ho8⟩
     have HN8:=hq7 (HN6.out.put hl8 hb8 ho8)
     clear hl8 hb8 ho8
     go_wp2
     go_roundg q
     case measure=>omega
     case rel=>exact ⟨m+1,int_eq (by omega),by have:=HM.out;omega,by rw [HFT.out,HLG.out];exact HN8.out.s,HN8.out.g⟩
def SPK1:List UInt8:= [67,82,69,65,84,69,32,40,110,49,41,44,32,40,110,48,58,65,32,123,107,58,32,91,58,105,110,116,32,49,93,125,41,44,32,40,110,48,41,45,91,114,48,58,84,93,45,62,40,110,49,41,59]
def SPK2:List UInt8:= [67,82,69,65,84,69,32,40,110,48,58,65,32,123,107,58,32,91,58,105,110,116,32,49,93,125,41,59,10,67,82,69,65,84,69,32,40,110,49,41,59,10,67,82,69,65,84,69,32,40,110,48,41,45,91,114,48,58,84,93,45,62,40,110,49,41,59,10]
def SPK3:List UInt8:= [67,82,69,65,84,69,32,40,110,48,41]
def spkN0:Gr.N:=⟨0, [[65]], [⟨[107],⟨6,0, [], [1], []⟩⟩]⟩
def spkN1:Gr.N:=⟨1, [], []⟩
def oG:Gr.G:=⟨[spkN0,spkN1], [⟨0, [84],0,1, []⟩]⟩
def wX:Gr.G:=⟨[spkN1,spkN0], [⟨0, [84],0,1, []⟩]⟩
theorem Ot:Gr.canon wX=oG:=by
 have e0:Gr.gQ spkN0=spkN0:=by
  have h1:Gr.jk [[65]]= [[65]]:=List.mergeSort_singleton _
  have h2:Gr.iG [⟨[107],⟨6,0, [], [1], []⟩⟩]= [⟨[107],⟨6,0, [], [1], []⟩⟩]:=List.mergeSort_singleton _
  unfold Gr.gQ spkN0
  rw [h1,h2]
 have e1:Gr.gQ spkN1=spkN1:=by
  have h1:Gr.jk []= []:=List.mergeSort_nil
  have h2:Gr.iG []= []:=List.mergeSort_nil
  unfold Gr.gQ spkN1
  rw [h1,h2]
 have e2:Gr.iU ⟨0, [84],0,1, []⟩=⟨0, [84],0,1, []⟩:=by
  have h2:Gr.iG []= []:=List.mergeSort_nil
  unfold Gr.iU
  rw [h2]
 have e3: [spkN0,spkN1]=Gr.eU (fun a b:Int=>decide (a≤b)) Gr.N.id [spkN1,spkN0]:=DN vX (by decide) (List.Perm.swap _ _ _) (by decide)
 have e4:Gr.eU (fun a b:Int=>decide (a≤b)) Gr.R.id [(⟨0, [84],0,1, []⟩:Gr.R)]= [⟨0, [84],0,1, []⟩]:=List.mergeSort_singleton _
 unfold Gr.canon wX oG
 simp only [List.map_cons,List.map_nil,e0,e1,e2,e4]
 rw [←e3]
theorem Ou:(Gr.check oG).1=0:=by kernel_rfl
theorem Ov:(Lex.read SPK1).2=none:=by kernel_rfl
theorem Ox:(Cy.patterns (Lex.read SPK1).1).map (Cy.make Gr.G0)=some (wX,0):=by kernel_rfl
theorem EK:Cy.parse SPK1=(oG,0):=by
 obtain ⟨ps,h1,h2⟩:=Option.map_eq_some_iff.1 Ox
 unfold Cy.parse
 simp only [Ov,h1,h2,Ot,Ou]
 simp
theorem Oy:Cy.parse SPK3=(Gr.G0,250):=by kernel_rfl
theorem Oz:Cy.jT oG=(SPK2,0):=by kernel_rfl
theorem OA:Cy.kZ ⟨8,0, [], [], []⟩=([91,58,116,101,120,116,93],0):=by kernel_rfl
theorem OB (w:World) (hL: ∀V,Below w.heap.size w V→Laid V):Calls Tryz.prog 16 #[] w fun e w'=>e= .returned (.bool true)∧Below w.heap.size w w':=by
 have hp1:=qR ⟨SPK1.toArray⟩ (by decide) w hL
 rw [show (⟨SPK1.toArray⟩:ByteArray).data.toList=SPK1 from rfl,EK] at hp1
 have HP1:=hq7 hp1
 have HL:=hq7 hL
 clear hp1 hL
 go_enter Tryz.func16,Tryz.ntmps16
 go_wp2_with fail
 refine HP1.out.mono ?_
 rintro e w1 ⟨u,rfl,hg,hb⟩
 have hgin:=hg.gin (Cy.BZ EK).1.ok
 obtain ⟨A1,c1,A2,c2,Al,cl,g,rfl,rfl,hcell⟩: ∃A1 c1 A2 c2 Al cl g,u= .agg #[.slice A1 2 c1, .slice A2 1 c2]∧A1=some ⟨g,0,none⟩∧w1.cell? ⟨g,1,none⟩=some (.slice Al 1 cl):=by
  obtain ⟨sn,sr,ln,lr,rfl,q1,q2,q3,q4,q5,q6⟩:=hg
  obtain ⟨A1,c1,rfl⟩:=ak q3
  obtain ⟨A2,c2,rfl⟩:=ak q6
  cases ln with
  | nil=>cases q1
  | cons x r=>
   obtain ⟨x0,cs⟩:=x
   obtain ⟨sl,sp,e,o1,-⟩:=q2 _ (List.mem_cons_self ..)
   obtain ⟨Al,cl,rfl⟩:=ak o1
   injection q1 with q1 _
   simp only at q1 e
   subst q1 e
   obtain ⟨g,e,-,hc,-⟩:=jQ q3 (t:=1) (by decide)
   exact ⟨A1,c1,A2,c2,Al,cl,g,rfl,e,hc⟩
 have hb2:Below w1.heap.size w1 (w1.alloc (.cells #[.slice (some ⟨g,0,none⟩) 2 c1, .slice A2 1 c2] 39)):=(Below.refl _ _).alloc (Nat.le_refl _) _
 obtain ⟨d0,d1⟩:=cells2 (Blk.new w1 39 #[.slice (some ⟨g,0,none⟩) 2 c1, .slice A2 1 c2])
 have e1:(w1.alloc (.cells #[.slice (some ⟨g,0,none⟩) 2 c1, .slice A2 1 c2] 39)).cell? ⟨g,1,none⟩=some (.slice Al 1 cl):=(hb2.cell (World.block_lt_of_cell? w1 _ hcell)).trans hcell
 have hpr:=EJ w1.heap.size _ _ _ (hgin.below hb2) (by simp) (HL.out _ (hb.trans (hb2.mono hb.size)))
 rw [Oz] at hpr
 have HPR:=hq7 hpr
 have HB2:=hq7 (hb.trans (hb2.mono hb.size))
 clear hg hgin hb hb2 hcell hpr HP1
 go_wp2_with fail
 refine HPR.out.mono ?_
 rintro e w3 ⟨rfl,b3⟩
 obtain ⟨z2,hz2⟩: ∃z:ByteArray,(⟨SPK2.toArray⟩:ByteArray)=z:=⟨_,rfl⟩
 rw [hz2]
 have t2:z2.toList=SPK2:=by rw [←hz2];exact jr _
 have hb3:=HB2.out.trans (b3.mono HB2.out.size)
 have hp3:=qR ⟨SPK3.toArray⟩ (by decide) w3 (fun V hV=>HL.out V (hb3.trans (hV.mono hb3.size)))
 rw [show (⟨SPK3.toArray⟩:ByteArray).data.toList=SPK3 from rfl,Oy] at hp3
 have HP3:=hq7 hp3
 have HB3:=hq7 hb3
 clear hz2 hp3 hb3 b3 HPR HB2
 go_wp2_with fail
 refine HP3.out.mono ?_
 rintro e w4 ⟨u4,rfl,hg4,b4⟩
 obtain ⟨A4,c4,A5,c5,rfl⟩: ∃A c B d,u4= .agg #[.slice A 0 c, .slice B 0 d]:=by
  obtain ⟨sn,sr,ln,lr,rfl,-,-,h3,-,-,h6⟩:=hg4
  obtain ⟨A,c,rfl⟩:=ak h3
  obtain ⟨B,d,rfl⟩:=ak h6
  exact ⟨A,c,B,d,rfl⟩
 have hb4:Below w.heap.size w (w4.alloc (.cells #[.slice A4 0 c4, .slice A5 0 c5] 39)):=(HB3.out.trans (b4.mono HB3.out.size)).alloc (Nat.le_trans HB3.out.size b4.size) _
 have hli:=D6 0 (.agg #[.int .i64 8, .int .i64 0, .string ⟨#[]⟩, .slice none 0 0, .slice none 0 0]) ⟨8,0, [], [], []⟩ (w4.alloc (.cells #[.slice A4 0 c4, .slice A5 0 c5] 39)) ⟨⟨none,0,none,0,rfl,Reads.none_,Reads.none_⟩,⟨by decide,by decide⟩,⟨by decide,by decide⟩,by simp,by simp,by simp,by simp,by simp⟩ (Nat.zero_le _) (HL.out _ hb4)
 rw [OA] at hli
 have HLI:=hq7 hli
 have HB4:=hq7 hb4
 clear hg4 b4 hli hb4 HP3 HB3
 go_wp2_with fail
 refine HLI.out.mono ?_
 rintro e w5 ⟨rfl,b5⟩
 have HB5:=hq7 (HB4.out.trans (b5.mono HB4.out.size))
 clear b5
 go_wp2_with fail
 go_ret
 exact ⟨rfl,HB5.out⟩
end Go.Proofs.YtoofbflplhbpbaaGreatDoor
