/- Contracts and plain laws,part 37. -/
import Derived.Test.YtoofbflplhbpbaaGreatDoorBK36
set_option maxHeartbeats 64000000
set_option maxRecDepth 1000000
set_option linter.all false
namespace Go.Proofs.YtoofbflplhbpbaaGreatDoor
open Go.RowKit Go.Maps
structure dY (w:World) (u v:Value) (l:List (List UInt8)) (V:World):Prop where
 box:Blk V w.heap.size 39 #[u,v]
 map:bn V (w.heap.size+1) l
 var:Blk V (w.heap.size+1+1) 150 #[.map (some (w.heap.size+1))]
 bel:Below w.heap.size w V
theorem dY.below {w V V':World} {u v:Value} {l:List (List UInt8)} (h:dY w u v l V) (hb:Below V.heap.size V V'):dY w u v l V':=
 ⟨h.box.below hb h.box.lt,h.map.below hb,h.var.below hb h.var.lt,h.bel.trans (hb.mono h.bel.size)⟩
theorem dY.put {w V V':World} {u v:Value} {l l':List (List UInt8)} (h:dY w u v l V) (hc:bn V' (w.heap.size+1) l') (hg:V.grownBy V' (some (w.heap.size+1))):dY w u v l' V':=
 ⟨h.box.grown hg (by simp),hc,h.var.grown hg (by simp),h.bel.grown hg h.bel.size (fun j e=>by cases e;omega)⟩
theorem dY.start (w:World) (u v:Value):dY w u v [] (((w.alloc (.cells #[u,v] 39)).alloc (.map #[] 0)).alloc (.cells #[.map (some (w.heap.size+1))] 150)):=by
 have h1:=bn.made (w.alloc (.cells #[u,v] 39))
 have h2:=Blk.new ((w.alloc (.cells #[u,v] 39)).alloc (.map #[] 0)) 150 #[.map (some (w.heap.size+1))]
 rw [World.size_alloc] at h1
 rw [World.size_alloc,World.size_alloc] at h2
 exact ⟨((Blk.new w _ _).alloc _).alloc _,h1.below ((Below.refl _ _).alloc (Nat.le_refl _) _),h2,(((Below.refl _ w).alloc (Nat.le_refl _) _).alloc (by simp) _).alloc (by simp;omega) _⟩
theorem Oe (B:Nat) (u:Value) (g:Gr.G) (w:World) (h:GIn w B u g) (hB:B≤w.heap.size) (hlen:(Gr.names1 g).length≤1073741824):
  Calls Tryz.prog 79 #[u, .int .i64 1] w fun e w'=> ∃A c,e= .returned (.slice A (Gr.dedup (Gr.names1 g)).length c)∧w'.ownsRow w.heap.size 9 1 (.slice A (Gr.dedup (Gr.names1 g)).length c) (Gr.dedup (Gr.names1 g)).length ((sortL (Gr.names1 g)).map ST)∧Below w.heap.size w w':=by
 have hok:=h.ok
 obtain ⟨An,cn,Ar,cr,rfl,hN,hR⟩:=h.ex
 have hmm:= @run_makeMap Tryz.prog
 have HN:=hq7 hN
 have HOK:=hq7 hok
 obtain ⟨nn,hnn⟩: ∃n,g.nodes.length=n:=⟨_,rfl⟩
 have hnl:=hok.nl
 rw [hnn] at hnl⊢
 have HNN:=hq7 hnn
 have HLN:=hq7 hlen
 clear hN hR hok h hnn hlen
 have HST:=hq7 (dY.start w (.slice An nn cn) (.slice Ar g.ah.length cr))
 obtain ⟨W1,hW1⟩: ∃W1,((w.alloc (.cells #[.slice An nn cn, .slice Ar g.ah.length cr] 39)).alloc (.map #[] 0)).alloc (.cells #[.map (some (w.heap.size+1))] 150)=W1:=⟨_,rfl⟩
 have HW1:=hq7 hW1
 rw [hW1] at HST
 clear hW1
 obtain ⟨c0,c1⟩:=cells2 HST.out.box
 go_enter Tryz.func79,Tryz.ntmps79
 go_upto_region 4 with fail
 rw [HW1.out]
 clear HW1
 go_wp2_with fail
 go_loopg [20] nn (fun q x wr=> ∃k:Nat,x= .int .i64 k∧k+q=nn∧dY w (.slice An nn cn) (.slice Ar g.ah.length cr) ((g.nodes.take k).flatMap Gr.N.labels) wr)
 case atStart=>exact ⟨0,rfl,by omega,HST.out⟩
 case round=>
  obtain ⟨k,rfl,hk,hrl⟩:=hrel
  have HRL:=hq7 hrl
  have HK:=hq7 hk
  clear hrl c0 c1
  cases gk with
  | succ q=>
   have hkn:k<nn:=by omega
   have hknI:(k:Int)<nn:=by omega
   obtain ⟨n,hn⟩: ∃n,g.nodes[k]?=some n:=⟨_,List.getElem?_eq_getElem (by rw [HNN.out];exact hkn)⟩
   obtain ⟨b,o,Al,cl,Ap,cp,rfl,hbB,⟨D0,D1,D2⟩,r1,-⟩:=HN.out.node hn
   have hBW:=HRL.out.bel.mono hB
   have d0:=(hBW.cell (p:=⟨b,o+k*3,none⟩) hbB).trans D0
   have d1:=(hBW.cell (p:=⟨b,o+k*3+1,none⟩) hbB).trans D1
   have d2:=(hBW.cell (p:=⟨b,o+k*3+2,none⟩) hbB).trans D2
   obtain ⟨ln,hln⟩: ∃m,n.labels.length=m:=⟨_,rfl⟩
   have hnok:=HOK.out.ns n (List.mem_of_getElem? hn)
   have hll:=hnok.ll
   rw [hln] at hll d1 r1
   obtain ⟨WN,hWN⟩: ∃W,wr.alloc (.cells #[.int .i64 n.id, .slice Al ln cl, .slice Ap n.props.length cp] 59)=W:=⟨_,rfl⟩
   have HWN:=hq7 hWN
   have HRN:=hq7 (show dY w _ _ _ WN by rw [←hWN];exact HRL.out.below ((Below.refl _ _).alloc (Nat.le_refl _) _))
   have HK1:=hq7 (show Blk WN wr.heap.size 59 #[.int .i64 n.id, .slice Al ln cl, .slice Ap n.props.length cp] by rw [←hWN];exact Blk.new _ _ _)
   have HRD:=hq7 r1
   have HLS:=hq7 hnok.ls
   have HLL:=hq7 hln
   have HFL:=hq7 (ou (f:=Gr.N.labels) hn)
   have HSP:=hq7 (qQ (f:=Gr.N.labels) hn)
   clear hWN hbB D0 D1 D2 r1 hnok hn hln hk hkn hBW
   go_upto_region 7 with fail
   rw [HWN.out]
   clear d0 d1 d2
   obtain ⟨e0,e1,e2⟩:=cells3 HK1.out
   go_wp2_with fail
   go_loopg [27] ln (fun q x wx=> ∃j:Nat,x= .int .i64 j∧j+q=ln∧dY w (.slice (some ⟨b,o,none⟩) nn cn) (.slice Ar g.ah.length cr) ((g.nodes.take k).flatMap Gr.N.labels ++ n.labels.take j) wx)
   case atStart=>exact ⟨0,rfl,by omega,by simpa using HRN.out⟩
   case round=>
    obtain ⟨j,rfl,hj,hrx⟩:=hrel
    have HRX:=hq7 hrx
    have HJ:=hq7 hj
    clear hrx e0 e1 e2
    cases gk with
    | succ q'=>
     have hjn:j<ln:=by omega
     have hjnI:(j:Int)<ln:=by omega
     obtain ⟨p,o',x,rfl,hpB,hx,hp⟩:=(HRD.out.below (HRX.out.bel.mono hB)).cell hjn
     rw [List.getElem?_map] at hx
     obtain ⟨y,hy,rfl⟩:=Option.map_eq_some_iff.1 hx
     unfold ST at hp
     obtain ⟨z,hz⟩: ∃z:ByteArray,(⟨y.toArray⟩:ByteArray)=z:=⟨_,rfl⟩
     rw [hz] at hp
     have hzd:z.data.toList=y:=by rw [←hz]
     have hzs:z.size≤maxLen:=by
      have:=HLS.out y (List.mem_of_getElem? hy)
      rw [Lib.size_eq,hzd]
      unfold maxLen
      omega
     obtain ⟨L,hL⟩: ∃L,(g.nodes.take k).flatMap Gr.N.labels ++ n.labels.take j=L:=⟨_,rfl⟩
     have hLl:L.length<1073741824:=by
      have h1:=HLN.out
      have h2:=congrArg List.length HSP.out
      have h3:=congrArg List.length (Ed hy)
      simp only [List.length_append,List.length_cons] at h2 h3
      unfold Gr.names1 at h1
      rw [←hL,List.length_append]
      omega
     have HMC:=HRX
     rw [hL] at HMC
     have hlk:=HMC.out.map.look (t:=150) Tryz.underlying150 hzs
     obtain ⟨N,hNc⟩: ∃N,L.count z.data.toList=N:=⟨_,rfl⟩
     have hNle:N≤L.length:=by rw [←hNc];exact List.count_le_length
     rw [hNc] at hlk
     have v0:=HMC.out.var.cell 0
     simp only [List.getElem?_toArray,List.getElem?_cons_zero] at v0
     have HNC:=hq7 hNc
     have HZD:=hq7 hzd
     have HZS:=hq7 hzs
     have HLT:=hq7 (mD hy)
     have HL:=hq7 hL
     have HLl:=hq7 hLl
     have hNi:(N:Int)≤1073741824:=by omega
     clear hx hy hz hzd hzs hj hjn hNc hL hLl hNle
     go_wp2_with (at_mapUpdate;refine qJ _ rfl HMC.out.map (by have:=HLl.out;omega) (.tmp 31) (.tmp 32) (.tmp 34) 150 rfl Tryz.underlying150 rfl z HZS.out rfl (by rw [HNC.out];rfl) ?_)
     intro w1 hc1 hg1
     have HR1:=hq7 (HMC.out.put hc1 hg1)
     clear hc1 hg1 hlk v0 hp
     go_wp2
     go_roundg q'
     case measure=>omega
     case rel=>exact ⟨j+1,int_eq (by omega),by have:=HJ.out;omega,by rw [HLT.out,←List.append_assoc,HL.out,←HZD.out];exact HR1.out⟩
    | zero=>
     obtain rfl:j=ln:=by omega
     have hfin:n.labels.take j=n.labels:=List.take_of_length_le (by rw [HLL.out];exact Nat.le_refl _)
     have hrx:=HRX.out
     rw [hfin,←HFL.out] at hrx
     have HRF:=hq7 hrx
     clear hfin hrx hj
     go_wp2
     go_roundg q
     case measure=>omega
     case rel=>exact ⟨k+1,int_eq (by omega),by have:=HK.out;omega,HRF.out⟩
  | zero=>
   obtain rfl:k=nn:=by omega
   have hfin:g.nodes.take k=g.nodes:=List.take_of_length_le (by rw [HNN.out];exact Nat.le_refl _)
   have hrl:=HRL.out
   rw [hfin] at hrl
   have HRF:=hq7 hrl
   have v0:=hrl.var.cell 0
   simp only [List.getElem?_toArray,List.getElem?_cons_zero] at v0
   have HSO:=hq7 (wC (w.heap.size+1) (Gr.names1 g) wr hrl.map HLN.out)
   clear hfin hrl hk
   go_wp2_with fail
   refine (wB _ _).mono ?_
   rintro e w2 ⟨rfl,rfl⟩
   go_wp2_with fail
   refine HSO.out.mono ?_
   rintro e w3 ⟨A,c,rfl,ho,hb⟩
   have HO:=hq7 ho
   have HB:=hq7 hb
   clear ho hb v0
   go_wp2
   go_ret
   have hbb:=HRF.out.bel.alloc HRF.out.bel.size (.cells #[.map (some (w.heap.size+1))] 150)
   exact ⟨A,c,rfl,own_base HO.out hbb.size,hbb.trans (HB.out.mono hbb.size)⟩
theorem Og (B:Nat) (u:Value) (g:Gr.G) (w:World) (h:GIn w B u g) (hB:B≤w.heap.size):
  Calls Tryz.prog 79 #[u, .int .i64 2] w fun e w'=> ∃A c,e= .returned (.slice A (Gr.dedup (Gr.names2 g)).length c)∧w'.ownsRow w.heap.size 9 1 (.slice A (Gr.dedup (Gr.names2 g)).length c) (Gr.dedup (Gr.names2 g)).length ((sortL (Gr.names2 g)).map ST)∧Below w.heap.size w w':=by
 have hok:=h.ok
 obtain ⟨An,cn,Ar,cr,rfl,hN,hR⟩:=h.ex
 have hmm:= @run_makeMap Tryz.prog
 have HR:=hq7 hR
 have HOK:=hq7 hok
 obtain ⟨rn,hrn⟩: ∃n,g.ah.length=n:=⟨_,rfl⟩
 have hrl:=hok.rl
 rw [hrn] at hrl⊢
 have HRN:=hq7 hrn
 clear hN hR hok h hrn
 have HST:=hq7 (dY.start w (.slice An g.nodes.length cn) (.slice Ar rn cr))
 obtain ⟨W1,hW1⟩: ∃W1,((w.alloc (.cells #[.slice An g.nodes.length cn, .slice Ar rn cr] 39)).alloc (.map #[] 0)).alloc (.cells #[.map (some (w.heap.size+1))] 150)=W1:=⟨_,rfl⟩
 have HW1:=hq7 hW1
 rw [hW1] at HST
 clear hW1
 obtain ⟨c0,c1⟩:=cells2 HST.out.box
 go_enter Tryz.func79,Tryz.ntmps79
 go_upto_region 14 with fail
 rw [HW1.out]
 clear HW1
 go_wp2_with fail
 go_loopg [42] rn (fun q x wr=> ∃k:Nat,x= .int .i64 k∧k+q=rn∧dY w (.slice An g.nodes.length cn) (.slice Ar rn cr) ((g.ah.take k).map Gr.R.type) wr)
 case atStart=>exact ⟨0,rfl,by omega,HST.out⟩
 case round=>
  obtain ⟨k,rfl,hk,hrl⟩:=hrel
  have HRL:=hq7 hrl
  have HK:=hq7 hk
  clear hrl c0 c1
  cases gk with
  | succ q=>
   have hkn:k<rn:=by omega
   have hknI:(k:Int)<rn:=by omega
   obtain ⟨n,hn⟩: ∃n,g.ah[k]?=some n:=⟨_,List.getElem?_eq_getElem (by rw [HRN.out];exact hkn)⟩
   obtain ⟨b,o,Ap,cp,rfl,hbB,⟨D0,D1,D2,D3,D4⟩,-⟩:=HR.out.rel hn
   obtain ⟨z,hz⟩: ∃z:ByteArray,(⟨n.type.toArray⟩:ByteArray)=z:=⟨_,rfl⟩
   unfold ST at D1
   rw [hz] at D1
   have hBW:=HRL.out.bel.mono hB
   have d0:=(hBW.cell (p:=⟨b,o+k*5,none⟩) hbB).trans D0
   have d1:=(hBW.cell (p:=⟨b,o+k*5+1,none⟩) hbB).trans D1
   have d2:=(hBW.cell (p:=⟨b,o+k*5+2,none⟩) hbB).trans D2
   have d3:=(hBW.cell (p:=⟨b,o+k*5+3,none⟩) hbB).trans D3
   have d4:=(hBW.cell (p:=⟨b,o+k*5+4,none⟩) hbB).trans D4
   have hzd:z.data.toList=n.type:=by rw [←hz]
   have hzs:z.size≤maxLen:=by
    have:=(HOK.out.rs n (List.mem_of_getElem? hn)).tl
    rw [Lib.size_eq,hzd]
    unfold maxLen
    omega
   obtain ⟨WN,hWN⟩: ∃W,wr.alloc (.cells #[.int .i64 n.id, .string z, .int .i64 n.src, .int .i64 n.dst, .slice Ap n.props.length cp] 63)=W:=⟨_,rfl⟩
   have HWN:=hq7 hWN
   have HRN2:=hq7 (show dY w _ _ _ WN by rw [←hWN];exact HRL.out.below ((Below.refl _ _).alloc (Nat.le_refl _) _))
   have HK1:=hq7 (show Blk WN wr.heap.size 63 #[.int .i64 n.id, .string z, .int .i64 n.src, .int .i64 n.dst, .slice Ap n.props.length cp] by rw [←hWN];exact Blk.new _ _ _)
   obtain ⟨L,hL⟩: ∃L,(g.ah.take k).map Gr.R.type=L:=⟨_,rfl⟩
   have hLl:L.length<1073741824:=by rw [←hL,List.length_map,List.length_take];omega
   rw [hL] at HRN2
   have hlk:=HRN2.out.map.look (t:=150) Tryz.underlying150 hzs
   obtain ⟨N,hNc⟩: ∃N,L.count z.data.toList=N:=⟨_,rfl⟩
   have hNle:N≤L.length:=by rw [←hNc];exact List.count_le_length
   rw [hNc] at hlk
   have v0:=HRN2.out.var.cell 0
   simp only [List.getElem?_toArray,List.getElem?_cons_zero] at v0
   have HNC:=hq7 hNc
   have HZD:=hq7 hzd
   have HZS:=hq7 hzs
   have HLT:=hq7 (mD hn)
   have HL:=hq7 hL
   have HLl:=hq7 hLl
   have hNi:(N:Int)≤1073741824:=by omega
   clear hWN hbB D0 D1 D2 D3 D4 hn hk hkn hBW hz hzd hzs hNc hL hLl hNle
   go_upto_region 17 with fail
   rw [HWN.out]
   clear d0 d1 d2 d3 d4
   obtain ⟨e0,e1,e2,e3,e4⟩:=cells5 HK1.out
   go_wp2_with (at_mapUpdate;refine qJ _ rfl HRN2.out.map (by have:=HLl.out;omega) (.tmp 46) (.tmp 48) (.tmp 50) 150 rfl Tryz.underlying150 rfl z HZS.out rfl (by rw [HNC.out];rfl) ?_)
   intro w1 hc1 hg1
   have HR1:=hq7 (HRN2.out.put hc1 hg1)
   clear hc1 hg1 hlk v0 e0 e1 e2 e3 e4
   go_wp2
   go_roundg q
   case measure=>omega
   case rel=>exact ⟨k+1,int_eq (by omega),by have:=HK.out;omega,by rw [HLT.out,List.map_append,HL.out];have h:=HR1.out;rw [HZD.out] at h;exact h⟩
  | zero=>
   obtain rfl:k=rn:=by omega
   have hfin:g.ah.take k=g.ah:=List.take_of_length_le (by rw [HRN.out];exact Nat.le_refl _)
   have hrl:=HRL.out
   rw [hfin] at hrl
   have HRF:=hq7 hrl
   have v0:=hrl.var.cell 0
   simp only [List.getElem?_toArray,List.getElem?_cons_zero] at v0
   have HSO:=hq7 (wC (w.heap.size+1) (Gr.names2 g) wr hrl.map (by unfold Gr.names2;rw [List.length_map,HRN.out];omega))
   clear hfin hrl hk
   go_wp2_with fail
   refine (wB _ _).mono ?_
   rintro e w2 ⟨rfl,rfl⟩
   go_wp2_with fail
   refine HSO.out.mono ?_
   rintro e w3 ⟨A,c,rfl,ho,hb⟩
   have HO:=hq7 ho
   have HB:=hq7 hb
   clear ho hb v0
   go_wp2
   go_ret
   have hbb:=HRF.out.bel.alloc HRF.out.bel.size (.cells #[.map (some (w.heap.size+1))] 150)
   exact ⟨A,c,rfl,own_base HO.out hbb.size,hbb.trans (HB.out.mono hbb.size)⟩
attribute [local go_sem] Oper.semAt_some
theorem Oh (B:Nat) (u:Value) (g:Gr.G) (w:World) (h:GIn w B u g) (hB:B≤w.heap.size) (hlen:(Gr.bf g).length≤1073741823):
  Calls Tryz.prog 79 #[u, .int .i64 3] w fun e w'=> ∃A c,e= .returned (.slice A (Gr.dedup (Gr.names3 g)).length c)∧w'.ownsRow w.heap.size 9 1 (.slice A (Gr.dedup (Gr.names3 g)).length c) (Gr.dedup (Gr.names3 g)).length ((sortL (Gr.names3 g)).map ST)∧Below w.heap.size w w':=by
 have hok:=h.ok
 obtain ⟨An,cn,Ar,cr,rfl,hN,hR⟩:=h.ex
 have hmm:= @run_makeMap Tryz.prog
 have HN:=hq7 hN
 have HR:=hq7 hR
 have HOK:=hq7 hok
 have HLEN:=hq7 hlen
 obtain ⟨nn,hnn⟩: ∃n,g.nodes.length=n:=⟨_,rfl⟩
 obtain ⟨rn,hrn⟩: ∃n,g.ah.length=n:=⟨_,rfl⟩
 have HIT:=hq7 (fun (T n₁ Bt:Nat) (W1:World)=>Ef T n₁ B Bt g An Ar cn cr w hN hR hok W1)
 rw [hnn,hrn] at HIT
 rw [hnn,hrn]
 clear hN hR hok h hlen
 have HST:=hq7 (dY.start w (.slice An nn cn) (.slice Ar rn cr))
 obtain ⟨W0,hW0⟩: ∃W1,((w.alloc (.cells #[.slice An nn cn, .slice Ar rn cr] 39)).alloc (.map #[] 0)).alloc (.cells #[.map (some (w.heap.size+1))] 150)=W1:=⟨_,rfl⟩
 have hz0:W0.heap.size=w.heap.size+3:=by rw [←hW0];simp
 have HW0:=hq7 hW0
 rw [hW0] at HST
 clear hW0
 obtain ⟨c0,c1⟩:=cells2 HST.out.box
 refine uQ Tryz.func79 rfl ?_
 simp only [Tryz.ntmps79,List.size_toArray,List.length_cons,List.length_nil,Nat.reduceAdd,Nat.reduceSub,Array.replicate_succ,Array.replicate_zero,List.push_toArray,List.append_toArray,List.nil_append,List.cons_append]
 go_upto_region 20 with fail
 rw [HW0.out]
 clear HW0
 go_wp2_with (go_at_call 136;refine (Em _ _ _).mono ?_;rintro e w' ⟨rfl,rfl⟩)
 obtain ⟨W,hW⟩: ∃W,W0.alloc (.cells #[.slice An nn cn, .slice Ar rn cr] 39)=W:=⟨_,rfl⟩
 have hsz:W.heap.size=w.heap.size+4:=by rw [←hW,World.size_alloc,hz0]
 have hrel0:dY w (.slice An nn cn) (.slice Ar rn cr) [] W:=by rw [←hW];exact HST.out.below ((Below.refl _ _).alloc (Nat.le_refl _) _)
 have hcap0:Blk W W0.heap.size 39 #[.slice An nn cn, .slice Ar rn cr]:=by rw [←hW];exact Blk.new _ _ _
 rw [hW]
 rw [hz0] at hcap0
 clear hW c0 c1
 refine (wpIn_wide (n:=9)).1 ?_
 refine' uU 207 (gf:=186) (lb:= #[.pointer (some ⟨w.heap.size+3,0,none⟩)]) rfl (enters_of Tryz.func186 (by kernel_rfl) rfl) (encs:=lJ) (fun x=>rfl) (Pre:=fun _ _ _=>True) _ wgtW1 (fun x W=>(Below.refl _ W).alloc (Nat.le_refl _) _) (fun _ _ _ _ _ _ _ _=>trivial)
  (fun W1 hb hn=>HIT.out 207 W.heap.size (w.heap.size+3) W1)
  (fun pre V=>dY w (.slice An nn cn) (.slice Ar rn cr) (pre.map fun x=>x.p.key) V∧Blk V (w.heap.size+3) 39 #[.slice An nn cn, .slice Ar rn cr])
  (fun c V=>False)
  ?hI ?hIx ?hAux ⟨hrel0,hcap0⟩ ?assign ?body ?done ?stop
 case hI=>
  rintro pre A B' ⟨h1,h2⟩ hs
  exact ⟨⟨hs.blk h1.box (by decide),hs.Du h1.map,hs.blk h1.var (by decide),h1.bel.trans (hs.below (by omega) h1.bel.size)⟩,hs.blk h2 (by decide)⟩
 case hIx=>
  rintro c A B' h hs
  exact h
 case hAux=>
  rintro pre V ⟨h1,h2⟩
  exact ⟨h1.bel.mono hB,h2⟩
 case assign=>
  intro l x V K hK
  simp only [lJ,PIt.cells,ST]
  gi_wp2
  exact hK
 case body=>
  rintro l pre x W0 Va V ⟨h1,h2⟩ hs1 hs2 hblk hvs - hstep hl hn0
  have hs':=hs1.trans hs2
  obtain ⟨p,An',cn',At',ct'⟩:=x
  obtain ⟨hpre,rd1,rd2⟩:=hstep
  have hmem:p∈Gr.bf g:=hpre.subset (by simp)
  have hpok:POk p:=by
   unfold Gr.bf at hmem
   rcases List.mem_append.1 hmem with hm | hm
   ·obtain ⟨n,hn,hp⟩:=List.mem_flatMap.1 hm
    exact (HOK.out.ns n hn).ps p hp
   ·obtain ⟨n,hn,hp⟩:=List.mem_flatMap.1 hm
    exact (HOK.out.rs n hn).ps p hp
  have g1:dY w (.slice An nn cn) (.slice Ar rn cr) (pre.map fun x=>x.p.key) V:=⟨hs'.blk h1.box (by decide),hs'.Du h1.map,hs'.blk h1.var (by decide),h1.bel.trans (hs'.below (by omega) h1.bel.size)⟩
  have g2:=hs'.blk h2 (show 39≠207 by decide)
  have gt:=hblk Va.heap.size 61 _ (Blk.new _ _ _)
  obtain ⟨z,hz⟩: ∃z:ByteArray,(⟨p.key.toArray⟩:ByteArray)=z:=⟨_,rfl⟩
  have hzd:z.data.toList=p.key:=by rw [←hz]
  have hzs:z.size≤maxLen:=by
   have:=hpok.key
   rw [Lib.size_eq,hzd]
   unfold maxLen
   omega
  simp only [PIt.cells,ST,hz] at gt
  obtain ⟨t0,t1,t2,t3,t4,t5⟩:=cells6 gt
  obtain ⟨L,hL⟩: ∃L,pre.map (fun x=>x.p.key)=L:=⟨_,rfl⟩
  have hLl:L.length<1073741824:=by
   have q:=hpre.length_le
   have:=HLEN.out
   rw [List.length_map,List.length_append,List.length_singleton] at q
   rw [←hL,List.length_map]
   omega
  rw [hL] at g1
  have hlk:=g1.map.look (t:=150) Tryz.underlying150 hzs
  obtain ⟨N,hNc⟩: ∃N,L.count z.data.toList=N:=⟨_,rfl⟩
  have hNle:N≤L.length:=by rw [←hNc];exact List.count_le_length
  rw [hNc] at hlk
  have v0:=g1.var.cell 0
  simp only [List.getElem?_toArray,List.getElem?_cons_zero] at v0
  have HNC:=hq7 hNc
  have HZD:=hq7 hzd
  have HZS:=hq7 hzs
  have HL:=hq7 hL
  have HLl:=hq7 hLl
  have G1:=hq7 g1
  have G2:=hq7 g2
  have hNi:(N:Int)≤1073741824:=by omega
  clear hs' hs1 hs2 hblk h1 h2 hpre rd1 rd2 hmem hpok g1 g2 gt hz hzd hzs hNc hNle hL hLl hrel0 hcap0
  gi_wp2_with (gi_at_mapUpdate;refine Me _ rfl G1.out.map (by have:=HLl.out;omega) (.tmp 57) (.tmp 59) (.tmp 61) 150 rfl Tryz.underlying150 rfl z HZS.out rfl (by rw [HNC.out];rfl) ?_)
  intro w1 hc1 hg1
  have HR1:=hq7 (G1.out.put hc1 hg1)
  have HG1:=hq7 hg1
  clear hc1 hg1 hlk v0
  gi_wp2
  refine ⟨KeepsFrom.of_grownBy HG1.out (fun j e=>by cases e;omega),dI.iW HG1.out (fun g' c fz e hc=> ?_), ?_,G2.out.grown HG1.out (by simp)⟩
  ·cases e
   obtain ⟨n',D',-,⟨es,clock,hbm,-⟩,-⟩:=G1.out.map.ex
   rw [hbm] at hc
   cases hc
  ·rw [List.map_append,HL.out]
   have h:=HR1.out
   rw [HZD.out] at h
   exact h
 case done=>
  rintro D xs V hD hend ⟨h1,h2⟩ hK
  have hnm:xs.map (fun x=>x.p.key)=Gr.names3 g:=by
   unfold wF at hend
   unfold Gr.names3
   rw [←hend,List.map_map]
   rfl
  rw [hnm] at h1
  have HRF:=hq7 h1
  have v0:=h1.var.cell 0
  simp only [List.getElem?_toArray,List.getElem?_cons_zero] at v0
  have HSO:=hq7 (wC (w.heap.size+1) (Gr.names3 g) V h1.map (by unfold Gr.names3;rw [List.length_map];have:=HLEN.out;omega))
  have HKD:=hq7 hK
  have HDD:=hq7 hD
  have HSZ:=hq7 hsz
  clear hnm h1 h2 hend hK hD hsz hz0 hrel0 hcap0
  go_wp2_with fail
  refine (wB _ _).mono ?_
  rintro e w2 ⟨rfl,rfl⟩
  go_wp2_with fail
  refine HSO.out.mono ?_
  rintro e w3 ⟨A,c,rfl,ho,hb⟩
  have hDl:D<V.heap.size:=(Array.getElem?_eq_some_iff.1 HKD.out).1
  have hK2:w3.heap[D]?=some (.deferred (some [])):=(hb.block D (by rw [World.size_alloc];omega)).trans ((Below.heap_alloc V _ D hDl).trans HKD.out)
  have HO:=hq7 ho
  have HB:=hq7 hb
  clear ho hb v0
  go_wp2
  refine qC hK2 (v:= .slice A (Gr.dedup (Gr.names3 g)).length c) (by simp [results,Tryz.results79,go_sem]) ?_
  have hbb:=HRF.out.bel.alloc HRF.out.bel.size (.cells #[.map (some (w.heap.size+1))] 150)
  exact ⟨A,c,rfl,own_base (Ci hK2 HO.out) hbb.size,qB (hbb.trans (HB.out.mono hbb.size)) (by have:=HSZ.out;have:=HDD.out;omega)⟩
 case stop=>
  rintro D c V hD h hK
  exact h.elim
end Go.Proofs.YtoofbflplhbpbaaGreatDoor
namespace Go.Proofs.YtoofbflplhbpbaaGreatDoor
open Go.RowKit Go.Maps
theorem aS.grown {w w':World} {b:Nat} {l:List Int} {t:TypeId} {cs:Array Value} {g:Nat} (h:aS w b l) (hg:Blk w g t cs):g≠b:=by
 rintro rfl
 obtain ⟨n,D,-,⟨es,clock,hb,-⟩,-⟩:=h.ex
 unfold Blk at hg
 rw [hg] at hb
 cases hb
structure iL (w:World) (u v:Value) (l:List Int) (V:World):Prop where
 box:Blk V w.heap.size 39 #[u,v]
 map:aS V (w.heap.size+1) l
 bel:Below w.heap.size w V
theorem iL.below {w V V':World} {u v:Value} {l:List Int} (h:iL w u v l V) (hb:Below V.heap.size V V'):iL w u v l V':=
 ⟨h.box.below hb h.box.lt,h.map.below hb,h.bel.trans (hb.mono h.bel.size)⟩
theorem iL.put {w V V':World} {u v:Value} {l l':List Int} (h:iL w u v l V) (hc:aS V' (w.heap.size+1) l') (hg:V.grownBy V' (some (w.heap.size+1))):iL w u v l' V':=
 ⟨h.box.grown hg (by simp),hc,h.bel.grown hg h.bel.size (fun j e=>by cases e;omega)⟩
theorem iL.start (w:World) (u v:Value):iL w u v [] ((w.alloc (.cells #[u,v] 39)).alloc (.map #[] 0)):=by
 have h1:=aS.made (w.alloc (.cells #[u,v] 39))
 rw [World.size_alloc] at h1
 exact ⟨(Blk.new w _ _).alloc _,h1,((Below.refl _ w).alloc (Nat.le_refl _) _).alloc (by simp) _⟩
theorem En {g:Gr.G} {k e:Nat} {n:Gr.N} (hn:g.nodes[k]?=some n) (he:Gr.bH (Gr.aj Gr.N.id g.nodes k) n=e) (hne:e≠0) (h0: ∀j a,j<k→g.nodes[j]?=some a→Gr.bH (Gr.aj Gr.N.id g.nodes j) a=0):Gr.check g=(e,k):=by
 have:=Gr.uf Gr.bH Gr.N.id (i:=0) hn he hne h0
 rw [Nat.zero_add] at this
 unfold Gr.check
 rw [this,if_pos hne]
theorem Eo {g:Gr.G} {k e:Nat} {r:Gr.R} (hz: ∀j a,g.nodes[j]?=some a→Gr.bH (Gr.aj Gr.N.id g.nodes j) a=0) (hn:g.ah[k]?=some r) (he:Gr.bQ (g.nodes.map Gr.N.id) (Gr.aj Gr.R.id g.ah k) r=e) (hne:e≠0)
  (h0: ∀j a,j<k→g.ah[j]?=some a→Gr.bQ (g.nodes.map Gr.N.id) (Gr.aj Gr.R.id g.ah j) a=0):Gr.check g=(e,g.nodes.length+k):=by
 unfold Gr.check
 rw [Gr.ku Gr.bH Gr.N.id hz,if_neg (by decide),Gr.uf (Gr.bQ (g.nodes.map Gr.N.id)) Gr.R.id (i:=g.nodes.length) hn he hne h0,if_pos hne]
theorem Ep {g:Gr.G} (hz: ∀j a,g.nodes[j]?=some a→Gr.bH (Gr.aj Gr.N.id g.nodes j) a=0) (hr: ∀j a,g.ah[j]?=some a→Gr.bQ (g.nodes.map Gr.N.id) (Gr.aj Gr.R.id g.ah j) a=0):
  Gr.check g=if 200<(Gr.dedup (Gr.names1 g)).length∨200<(Gr.dedup (Gr.names2 g)).length∨200<(Gr.dedup (Gr.names3 g)).length then (66,0) else if 262144<Gr.weight g then (67,0) else (0,0):=by
 unfold Gr.check
 rw [Gr.ku Gr.bH Gr.N.id hz,if_neg (by decide),Gr.ku (Gr.bQ (g.nodes.map Gr.N.id)) Gr.R.id hr,if_neg (by decide)]
theorem Es (B:Nat) (u:Value) (g:Gr.G) (w:World) (h:GIn w B u g) (hB:B≤w.heap.size):
  Calls Tryz.prog 41 #[u] w fun e w'=>e= .returned (.tuple #[.int .i64 ((Gr.check g).1:Nat), .int .i64 ((Gr.check g).2:Nat)])∧Below w.heap.size w w':=by
 have HG:=hq7 h
 have hok:=h.ok
 obtain ⟨An,cn,Ar,cr,rfl,hN,hR⟩:=h.ex
 have hmm:= @run_makeMap Tryz.prog
 have HN:=hq7 hN
 have HR:=hq7 hR
 have HOK:=hq7 hok
 obtain ⟨nn,hnn⟩: ∃n,g.nodes.length=n:=⟨_,rfl⟩
 obtain ⟨rn,hrn⟩: ∃n,g.ah.length=n:=⟨_,rfl⟩
 have hnl:=hok.nl
 have hrl:=hok.rl
 rw [hnn] at hnl
 rw [hrn] at hrl
 rw [hnn,hrn] at HG
 rw [hnn,hrn]
 have HNN:=hq7 hnn
 have HRN:=hq7 hrn
 have HCN:=hq7 (fun (V:World) (k:Nat) (n:Gr.N) (hb:Below B w V) (hn:g.nodes[k]?=some n) (hs:B≤V.heap.size)=>NV B An cn g.nodes k n V (hN.below hb (bU.below hb)) hs hok.nl hok.ns hn)
 have HCR:=hq7 (fun (V:World) (k:Nat) (r:Gr.R) (mb:Nat) (ids:List Int) (hb:Below B w V) (hn:g.ah[k]?=some r) (hs:B≤V.heap.size) (hc:aS V mb ids)=>NW B Ar cr g.ah k r mb ids V (hR.below hb (bV.below hb)) hs hok.rl hok.rs hn hc)
 rw [hnn] at HCN
 rw [hrn] at HCR
 clear hN hR hok h hnn hrn
 have HST:=hq7 (iL.start w (.slice An nn cn) (.slice Ar rn cr))
 obtain ⟨W1,hW1⟩: ∃W1,(w.alloc (.cells #[.slice An nn cn, .slice Ar rn cr] 39)).alloc (.map #[] 0)=W1:=⟨_,rfl⟩
 have HW1:=hq7 hW1
 rw [hW1] at HST
 clear hW1
 obtain ⟨c0,c1⟩:=cells2 HST.out.box
 go_enter Tryz.func41,Tryz.ntmps41
 go_upto_region 2 with fail
 rw [HW1.out]
 clear HW1
 go_wp2_with fail
 go_loopg [15] nn (fun q x wr=> ∃k:Nat,x= .int .i64 k∧k+q=nn∧iL w (.slice An nn cn) (.slice Ar rn cr) ((g.nodes.map Gr.N.id).take k) wr∧ ∀j a,j<k→g.nodes[j]?=some a→Gr.bH (Gr.aj Gr.N.id g.nodes j) a=0)
 case atStart=>exact ⟨0,rfl,by omega,HST.out,fun j a h=>by omega⟩
 case round=>
  obtain ⟨k,rfl,hk,hrl,hz⟩:=hrel
  have HRL:=hq7 hrl
  have HK:=hq7 hk
  have HZ:=hq7 hz
  clear hrl hz c0 c1
  cases gk with
  | succ q=>
   have hkn:k<nn:=by omega
   have hknI:(k:Int)<nn:=by omega
   obtain ⟨n,hn⟩: ∃n,g.nodes[k]?=some n:=⟨_,List.getElem?_eq_getElem (by rw [HNN.out];exact hkn)⟩
   obtain ⟨b,o,Al,cl,Ap,cp,rfl,hbB,⟨D0,D1,D2⟩,-,-⟩:=HN.out.node hn
   have hBW:=HRL.out.bel.mono hB
   have d0:=(hBW.cell (p:=⟨b,o+k*3,none⟩) hbB).trans D0
   have d1:=(hBW.cell (p:=⟨b,o+k*3+1,none⟩) hbB).trans D1
   have d2:=(hBW.cell (p:=⟨b,o+k*3+2,none⟩) hbB).trans D2
   obtain ⟨WN,hWN⟩: ∃W,wr.alloc (.cells #[.int .i64 n.id, .slice Al n.labels.length cl, .slice Ap n.props.length cp] 59)=W:=⟨_,rfl⟩
   have HWN:=hq7 hWN
   have HRN2:=hq7 (show iL w _ _ _ WN by rw [←hWN];exact HRL.out.below ((Below.refl _ _).alloc (Nat.le_refl _) _))
   have HK1:=hq7 (show Blk WN wr.heap.size 59 #[.int .i64 n.id, .slice Al n.labels.length cl, .slice Ap n.props.length cp] by rw [←hWN];exact Blk.new _ _ _)
   have hcn:=HCN.out WN k n (HRN2.out.bel.mono hB) hn (Nat.le_trans hB HRN2.out.bel.size)
   obtain ⟨E,hE⟩: ∃E,Gr.bH (Gr.aj Gr.N.id g.nodes k) n=E:=⟨_,rfl⟩
   rw [hE] at hcn
   have HC:=hq7 hcn
   have HE:=hq7 hE
   have HNK:=hq7 hn
   have hnid:=(HOK.out.ns n (List.mem_of_getElem? hn)).id
   have HID:=hq7 hnid
   clear hWN hbB D0 D1 D2 hk hkn hBW hcn hE hnid hn
   go_upto_region 5 with fail
   rw [HWN.out]
   clear d0 d1 d2
   obtain ⟨c0,c1⟩:=cells2 HRN2.out.box
   go_wp2_with fail
   refine HC.out.mono ?_
   rintro e w2 ⟨rfl,hb⟩
   have HR2:=hq7 (HRN2.out.below hb)
   have HK2:=hq7 (HK1.out.below hb HK1.out.lt)
   clear hb c0 c1 HC
   cases E with
   | succ e=>
    have hck:=En HNK.out HE.out (by omega) HZ.out
    have HCK:=hq7 hck
    have hne:(((e+1:Nat):Int) !=0)=true:=by rw [bne_iff_ne];omega
    clear hck
    go_wp2
    go_ret2
    exact ⟨by rw [HCK.out];rfl,HR2.out.bel⟩
   | zero=>
    have HMORE:=hq7 (jv HNK.out HZ.out HE.out)
    obtain ⟨L,hL⟩: ∃L,(g.nodes.map Gr.N.id).take k=L:=⟨_,rfl⟩
    have hLl:L.length<1073741824:=by rw [←hL,List.length_take,List.length_map,HNN.out];have:=HK.out;omega
    rw [hL] at HR2
    obtain ⟨N,hNc⟩: ∃N,L.count n.id=N:=⟨_,rfl⟩
    have hNle:N≤L.length:=by rw [←hNc];exact List.count_le_length
    have hlk:=HR2.out.map.look (t:=97) Tryz.underlying97 HID.out
    rw [hNc] at hlk
    have HNC:=hq7 hNc
    have HL:=hq7 hL
    have HLl:=hq7 hLl
    have hNi:(N:Int)≤1073741824:=by omega
    obtain ⟨d0,d1,d2⟩:=cells3 HK2.out
    clear hNc hL hLl hNle
    go_wp2_with (at_mapUpdate;refine vJ _ rfl HR2.out.map (by have:=HLl.out;omega) (.tmp 28) (.tmp 30) (.tmp 32) 97 rfl Tryz.underlying97 rfl n.id HID.out rfl (by rw [HNC.out];rfl) ?_)
    intro w3 hc3 hg3
    have HR3:=hq7 (HR2.out.put hc3 hg3)
    clear hc3 hg3 hlk d0 d1 d2
    go_wp2
    go_roundg q
    case measure=>omega
    case rel=>exact ⟨k+1,int_eq (by omega),by have:=HK.out;omega,by rw [mD (a:=n.id) (by rw [List.getElem?_map,HNK.out];rfl),HL.out];exact HR3.out,HMORE.out⟩
  | zero=>
   obtain rfl:k=nn:=by omega
   have hZN: ∀j a,g.nodes[j]?=some a→Gr.bH (Gr.aj Gr.N.id g.nodes j) a=0:=fun j a ha=>HZ.out j a (by have:=(List.getElem?_eq_some_iff.1 ha).1;have:=HNN.out;omega) ha
   have hfin:(g.nodes.map Gr.N.id).take k=g.nodes.map Gr.N.id:=List.take_of_length_le (by rw [List.length_map,HNN.out];exact Nat.le_refl _)
   have hrl2:=HRL.out
   rw [hfin] at hrl2
   have HRF:=hq7 hrl2
   have HZN:=hq7 hZN
   obtain ⟨c0,c1⟩:=cells2 hrl2.box
   clear hfin hrl2 hk hZN HRL HZ HST
   go_wp2_with fail
   go_loopg [37] rn (fun q x wr=> ∃m:Nat,x= .int .i64 m∧m+q=rn∧iL w (.slice An k cn) (.slice Ar rn cr) (g.nodes.map Gr.N.id) wr∧ ∀j a,j<m→g.ah[j]?=some a→Gr.bQ (g.nodes.map Gr.N.id) (Gr.aj Gr.R.id g.ah j) a=0)
   case atStart=>exact ⟨0,rfl,by omega,HRF.out,fun j a h=>by omega⟩
   case round=>
    obtain ⟨m,rfl,hm,hrl,hz⟩:=hrel
    have HRL:=hq7 hrl
    have HK:=hq7 hm
    have HZ:=hq7 hz
    clear hrl hz c0 c1
    cases gk with
    | succ q=>
     have hmn:m<rn:=by omega
     have hmnI:(m:Int)<rn:=by omega
     obtain ⟨r,hr⟩: ∃r,g.ah[m]?=some r:=⟨_,List.getElem?_eq_getElem (by rw [HRN.out];exact hmn)⟩
     have hcr:=HCR.out wr m r (w.heap.size+1) (g.nodes.map Gr.N.id) (HRL.out.bel.mono hB) hr (Nat.le_trans hB HRL.out.bel.size) HRL.out.map
     obtain ⟨E,hE⟩: ∃E,Gr.bQ (g.nodes.map Gr.N.id) (Gr.aj Gr.R.id g.ah m) r=E:=⟨_,rfl⟩
     rw [hE] at hcr
     have HC:=hq7 hcr
     have HE:=hq7 hE
     have HNK:=hq7 hr
     obtain ⟨c0,c1⟩:=cells2 HRL.out.box
     clear hm hmn hcr hE hr
     go_wp2_with fail
     refine HC.out.mono ?_
     rintro e w2 ⟨rfl,hb⟩
     have HR2:=hq7 (HRL.out.below hb)
     clear hb c0 c1 HC
     obtain ⟨c0,c1⟩:=cells2 HR2.out.box
     cases E with
     | succ e=>
      have hck:=Eo HZN.out HNK.out HE.out (by omega) HZ.out
      have HCK:=hq7 hck
      have hne:(((e+1:Nat):Int) !=0)=true:=by rw [bne_iff_ne];omega
      clear hck
      go_upto_region 15 with fail
      go_quiet (fail)
      go_wp2
      go_ret2
      exact ⟨by rw [HCK.out,HNN.out,Int.natCast_add];rfl,below_drewN HR2.out.bel nq⟩
     | zero=>
      have HMORE:=hq7 (jv HNK.out HZ.out HE.out)
      go_wp2
      go_roundg q
      case measure=>omega
      case rel=>exact ⟨m+1,int_eq (by omega),by have:=HK.out;omega,HR2.out,HMORE.out⟩
    | zero=>
     obtain rfl:m=rn:=by omega
     have hZR: ∀j a,g.ah[j]?=some a→Gr.bQ (g.nodes.map Gr.N.id) (Gr.aj Gr.R.id g.ah j) a=0:=fun j a ha=>HZ.out j a (by have:=(List.getElem?_eq_some_iff.1 ha).1;have:=HRN.out;omega) ha
     have hrest:=Ep HZN.out hZR
     have hNG:Gr.iI g.nodes:=⟨fun j n hn=>Gr.qg.1 (HZN.out j n hn)⟩
     have hRG:Gr.jm (g.nodes.map Gr.N.id) g.ah:=⟨fun j n hn=>Gr.qh.1 (hZR j n hn)⟩
     have HPL:=hq7 (Gr.Ac hNG hRG)
     have HPV:=hq7 (Gr.Ad hNG hRG)
     have HLL:=hq7 hNG.Aa
     have HREST:=hq7 hrest
     have H1:=hq7 (fun (V:World) (hb:Below w.heap.size w V)=>Oe B _ g V (HG.out.below (hb.mono hB)) (Nat.le_trans hB hb.size) (by have:=HLL.out;unfold Gr.names1;omega))
     have H2:=hq7 (fun (V:World) (hb:Below w.heap.size w V)=>Og B _ g V (HG.out.below (hb.mono hB)) (Nat.le_trans hB hb.size))
     have H3:=hq7 (fun (V:World) (hb:Below w.heap.size w V)=>Oh B _ g V (HG.out.below (hb.mono hB)) (Nat.le_trans hB hb.size) (by have:=HPL.out;omega))
     have HW:=hq7 (fun (V:World) (hb:Below w.heap.size w V)=>Oc B _ g V (HG.out.below (hb.mono hB)) (Nat.le_trans hB hb.size) HPV.out (by have:=HPL.out;omega))
     obtain ⟨l1,hl1⟩: ∃n,(Gr.dedup (Gr.names1 g)).length=n:=⟨_,rfl⟩
     obtain ⟨l2,hl2⟩: ∃n,(Gr.dedup (Gr.names2 g)).length=n:=⟨_,rfl⟩
     obtain ⟨l3,hl3⟩: ∃n,(Gr.dedup (Gr.names3 g)).length=n:=⟨_,rfl⟩
     obtain ⟨wt,hwt⟩: ∃n,Gr.weight g=n:=⟨_,rfl⟩
     rw [hl1] at H1 HREST
     rw [hl2] at H2 HREST
     rw [hl3] at H3 HREST
     rw [hwt] at HW HREST
     clear hm hrest hNG hRG hZR hl1 hl2 hl3 hwt HCN HCR
     obtain ⟨c0,c1⟩:=cells2 HRL.out.box
     go_wp2_with fail
     refine wp_loop_rounds 4 ?_
     rw [rounds_succ]
     go_wp2_with fail
     refine (H1.out wr HRL.out.bel).mono ?_
     rintro e w2 ⟨A1,d1,rfl,-,hb⟩
     have HS1:=hq7 (HRL.out.below hb)
     clear hb c0 c1
     obtain ⟨c0,c1⟩:=cells2 HS1.out.box
     by_cases hq1:200<l1
     ·have t1:decide (200<l1)=true:=decide_eq_true hq1
      have t1i:(200:Int)<l1:=by omega
      have hck:Gr.check g=(66,0):=by rw [HREST.out,if_pos (.inl hq1)]
      have HCK:=hq7 hck
      clear hck hq1 H1 H2 H3 HW
      go_wp2
      go_ret2
      exact ⟨by rw [HCK.out];rfl,HS1.out.bel⟩
     ·have t1:decide (200<l1)=false:=decide_eq_false hq1
      have t1i:(l1:Int)≤200:=by omega
      go_wp2_with fail
      rw [rounds_succ]
      go_wp2_with fail
      refine (H2.out w2 HS1.out.bel).mono ?_
      rintro e w3 ⟨A2,d2,rfl,-,hb⟩
      have HS2:=hq7 (HS1.out.below hb)
      clear hb c0 c1
      obtain ⟨c0,c1⟩:=cells2 HS2.out.box
      by_cases hq2:200<l2
      ·have t2:decide (200<l2)=true:=decide_eq_true hq2
       have t2i:(200:Int)<l2:=by omega
       have hck:Gr.check g=(66,0):=by rw [HREST.out,if_pos (.inr (.inl hq2))]
       have HCK:=hq7 hck
       clear hck hq2 H1 H2 H3 HW
       go_wp2
       go_ret2
       exact ⟨by rw [HCK.out];rfl,HS2.out.bel⟩
      ·have t2:decide (200<l2)=false:=decide_eq_false hq2
       have t2i:(l2:Int)≤200:=by omega
       go_wp2_with fail
       rw [rounds_succ]
       go_wp2_with fail
       refine (H3.out w3 HS2.out.bel).mono ?_
       rintro e w4 ⟨A3,d3,rfl,-,hb⟩
       have HS3:=hq7 (HS2.out.below hb)
       clear hb c0 c1
       obtain ⟨c0,c1⟩:=cells2 HS3.out.box
       by_cases hq3:200<l3
       ·have t3:decide (200<l3)=true:=decide_eq_true hq3
        have t3i:(200:Int)<l3:=by omega
        have hck:Gr.check g=(66,0):=by rw [HREST.out,if_pos (.inr (.inr hq3))]
        have HCK:=hq7 hck
        clear hck hq3 H1 H2 H3 HW
        go_wp2
        go_ret2
        exact ⟨by rw [HCK.out];rfl,HS3.out.bel⟩
       ·have t3:decide (200<l3)=false:=decide_eq_false hq3
        have t3i:(l3:Int)≤200:=by omega
        go_wp2_with fail
        rw [rounds_succ]
        go_wp2_with fail
        refine (HW.out w4 HS3.out.bel).mono ?_
        rintro e w5 ⟨rfl,hb⟩
        have HS4:=hq7 (HS3.out.below hb)
        clear hb c0 c1
        by_cases hq4:262144<wt
        ·have t4:decide (262144<wt)=true:=decide_eq_true hq4
         have t4i:(262144:Int)<wt:=by omega
         have hck:Gr.check g=(67,0):=by rw [HREST.out,if_neg (by omega),if_pos hq4]
         have HCK:=hq7 hck
         clear hck hq4 H1 H2 H3 HW
         go_wp2
         go_ret2
         exact ⟨by rw [HCK.out];rfl,HS4.out.bel⟩
        ·have t4:decide (262144<wt)=false:=decide_eq_false hq4
         have t4i:(wt:Int)≤262144:=by omega
         have hck:Gr.check g=(0,0):=by rw [HREST.out,if_neg (by omega),if_neg hq4]
         have HCK:=hq7 hck
         clear hck hq4 H1 H2 H3 HW
         go_wp2
         go_ret2
         exact ⟨by rw [HCK.out];rfl,HS4.out.bel⟩
end Go.Proofs.YtoofbflplhbpbaaGreatDoor
