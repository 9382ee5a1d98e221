/- Contracts and plain laws,part 34. -/
import Derived.Test.YtoofbflplhbpbaaGreatDoorBK25
import Derived.Shelf.SlIter.Nil
import Derived.Shelf.SortM.Plain
import Derived.Shelf.SortM.SortNone
import Derived.Ground.GgzProg
import Derived.Ground.SlgmProg
import Derived.Shelf.SlGeneric
set_option maxHeartbeats 64000000
set_option maxRecDepth 1000000
set_option linter.all false
namespace Go.Proofs
open Go.Shelf
def Tryz.Ea:Go.Shelf.Ren:=⟨fun | 7=>138 | 10=>188 | n=>n,fun | 23=>150 | 26=>9 | 3=>3 | 28=>203 | 0=>0 | 27=>202 | 33=>49 | 4=>4 | n=>n,fun | n=>n⟩
theorem Tryz.keys138:Go.Proofs.SlLaysZ.n7 Tryz.prog Tryz.Ea:={
 mixed:=by kernel_rfl
 f7:=⟨Tryz.f138.name,by decide,Tryz.func138.trans (congrArg some (by kernel_rfl))⟩
 f10:=⟨Tryz.f188.name,by decide,Tryz.func188.trans (congrArg some (by kernel_rfl))⟩
 t0:=Tryz.underlying0
 a0:=Tryz.isAgg0
 z0:=Tryz.sizeOf0
 v0:=Tryz.zeroValue0
 t4:=Tryz.underlying4
 a4:=Tryz.isAgg4
 z4:=Tryz.sizeOf4
 v4:=Tryz.zeroValue4
 t23:=Tryz.underlying150
 a23:=Tryz.isAgg150
 z23:=Tryz.sizeOf150
 v23:=Tryz.zeroValue150
 t26:=Tryz.underlying9
 a26:=Tryz.isAgg9
 z26:=Tryz.sizeOf9
 v26:=Tryz.zeroValue9
 t27:=Tryz.underlying202
 a27:=Tryz.isAgg202
 z27:=Tryz.sizeOf202
 v27:=Tryz.zeroValue202
 t28:=Tryz.underlying203
 a28:=Tryz.isAgg203
 z28:=Tryz.sizeOf203
 v28:=Tryz.zeroValue203
 t33:=Tryz.underlying49
 a33:=Tryz.isAgg49
 z33:=Tryz.sizeOf49
 v33:=Tryz.zeroValue49}
def Tryz.Eb:Go.Shelf.Ren:=⟨fun | 6=>137 | 8=>187 | 9=>96 | 11=>242 | 13=>148 | 12=>147 | 23=>215 | 24=>175 | 14=>206 | 15=>207 | 16=>208 | 17=>209 | 18=>210 | 19=>211 | 20=>212 | 21=>213 | 22=>214 | 25=>256 | 26=>257 | 27=>258 | 28=>259 | 29=>260 | 30=>261 | 31=>289 | n=>n,fun | 26=>9 | 28=>203 | 24=>23 | 0=>0 | 3=>3 | 37=>189 | 48=>262 | 50=>123 | 4=>4 | 40=>256 | 39=>255 | 45=>148 | 5=>5 | 9=>9 | 51=>293 | 55=>297 | 57=>319 | 58=>50 | 33=>49 | n=>n,fun | n=>n⟩
theorem Tryz.sorted137:Go.Proofs.SlLaysZ.n6 Tryz.prog Tryz.Eb:={
 mixed:=by kernel_rfl
 f6:=⟨Tryz.f137.name,by decide,Tryz.func137.trans (congrArg some (by kernel_rfl))⟩
 f8:=⟨Tryz.f187.name,by decide,Tryz.func187.trans (congrArg some (by kernel_rfl))⟩
 f11:=⟨Tryz.f242.name,by decide,Tryz.func242.trans (congrArg some (by kernel_rfl))⟩
 t0:=Tryz.underlying0
 a0:=Tryz.isAgg0
 z0:=Tryz.sizeOf0
 v0:=Tryz.zeroValue0
 t24:=Tryz.underlying23
 a24:=Tryz.isAgg23
 z24:=Tryz.sizeOf23
 v24:=Tryz.zeroValue23
 t26:=Tryz.underlying9
 a26:=Tryz.isAgg9
 z26:=Tryz.sizeOf9
 v26:=Tryz.zeroValue9
 t28:=Tryz.underlying203
 a28:=Tryz.isAgg203
 z28:=Tryz.sizeOf203
 v28:=Tryz.zeroValue203
 i26:=by kernel_rfl}
def Tryz.NT:Go.Shelf.Ren:=⟨fun | 6=>96 | 8=>148 | 9=>147 | 19=>215 | 20=>175 | 21=>206 | 22=>207 | 23=>208 | 24=>209 | 25=>210 | 26=>211 | 27=>212 | 28=>213 | 29=>214 | 36=>256 | 31=>257 | 32=>258 | 37=>259 | 38=>260 | 39=>261 | 41=>289 | n=>n,fun | 27=>23 | 29=>9 | 3=>3 | 32=>189 | 26=>23 | 0=>0 | 44=>262 | 46=>123 | 4=>4 | 36=>256 | 35=>255 | 41=>148 | 5=>5 | 9=>9 | 53=>293 | 57=>297 | 63=>319 | 64=>50 | n=>n,fun | n=>n⟩
theorem Tryz.sort96:Go.Proofs.SlLaysM.n6 Tryz.prog Tryz.NT:={
 mixed:=by kernel_rfl
 f6:=⟨Tryz.f96.name,by decide,Tryz.func96.trans (congrArg some (by kernel_rfl))⟩
 f8:=Tryz.func148.trans (congrArg some (by kernel_rfl))
 f9:=⟨Tryz.f147.name,by decide,Tryz.func147.trans (congrArg some (by kernel_rfl))⟩
 f19:=Tryz.func215.trans (congrArg some (by kernel_rfl))
 f20:=Tryz.func175.trans (congrArg some (by kernel_rfl))
 f21:=⟨Tryz.f206.name,by decide,Tryz.func206.trans (congrArg some (by kernel_rfl))⟩
 f22:=⟨Tryz.f207.name,by decide,Tryz.func207.trans (congrArg some (by kernel_rfl))⟩
 f23:=⟨Tryz.f208.name,by decide,Tryz.func208.trans (congrArg some (by kernel_rfl))⟩
 f24:=⟨Tryz.f209.name,by decide,Tryz.func209.trans (congrArg some (by kernel_rfl))⟩
 f25:=⟨Tryz.f210.name,by decide,Tryz.func210.trans (congrArg some (by kernel_rfl))⟩
 f26:=⟨Tryz.f211.name,by decide,Tryz.func211.trans (congrArg some (by kernel_rfl))⟩
 f27:=⟨Tryz.f212.name,by decide,Tryz.func212.trans (congrArg some (by kernel_rfl))⟩
 f28:=⟨Tryz.f213.name,by decide,Tryz.func213.trans (congrArg some (by kernel_rfl))⟩
 f29:=⟨Tryz.f214.name,by decide,Tryz.func214.trans (congrArg some (by kernel_rfl))⟩
 f31:=Tryz.func257.trans (congrArg some (by kernel_rfl))
 f32:=Tryz.func258.trans (congrArg some (by kernel_rfl))
 f36:=⟨Tryz.f256.name,by decide,Tryz.func256.trans (congrArg some (by kernel_rfl))⟩
 f37:=⟨Tryz.f259.name,by decide,Tryz.func259.trans (congrArg some (by kernel_rfl))⟩
 f38:=⟨Tryz.f260.name,by decide,Tryz.func260.trans (congrArg some (by kernel_rfl))⟩
 f39:=⟨Tryz.f261.name,by decide,Tryz.func261.trans (congrArg some (by kernel_rfl))⟩
 f41:=⟨Tryz.f289.name,by decide,Tryz.func289.trans (congrArg some (by kernel_rfl))⟩
 t0:=Tryz.underlying0
 a0:=Tryz.isAgg0
 z0:=Tryz.sizeOf0
 v0:=Tryz.zeroValue0
 t3:=Tryz.underlying3
 a3:=Tryz.isAgg3
 z3:=Tryz.sizeOf3
 v3:=Tryz.zeroValue3
 t4:=Tryz.underlying4
 a4:=Tryz.isAgg4
 z4:=Tryz.sizeOf4
 v4:=Tryz.zeroValue4
 t5:=Tryz.underlying5
 a5:=Tryz.isAgg5
 z5:=Tryz.sizeOf5
 v5:=Tryz.zeroValue5
 t9:=Tryz.underlying9
 a9:=Tryz.isAgg9
 z9:=Tryz.sizeOf9
 v9:=Tryz.zeroValue9
 t26:=Tryz.underlying23
 a26:=Tryz.isAgg23
 z26:=Tryz.sizeOf23
 v26:=Tryz.zeroValue23
 t27:=Tryz.underlying23
 a27:=Tryz.isAgg23
 z27:=Tryz.sizeOf23
 v27:=Tryz.zeroValue23
 t29:=Tryz.underlying9
 a29:=Tryz.isAgg9
 z29:=Tryz.sizeOf9
 v29:=Tryz.zeroValue9
 t32:=Tryz.underlying189
 a32:=Tryz.isAgg189
 z32:=Tryz.sizeOf189
 v32:=Tryz.zeroValue189
 t35:=Tryz.underlying255
 a35:=Tryz.isAgg255
 z35:=Tryz.sizeOf255
 v35:=Tryz.zeroValue255
 t36:=Tryz.underlying256
 a36:=Tryz.isAgg256
 z36:=Tryz.sizeOf256
 v36:=Tryz.zeroValue256
 t41:=Tryz.underlying148
 a41:=Tryz.isAgg148
 z41:=Tryz.sizeOf148
 v41:=Tryz.zeroValue148
 t44:=Tryz.underlying262
 a44:=Tryz.isAgg262
 z44:=Tryz.sizeOf262
 v44:=Tryz.zeroValue262
 t46:=Tryz.underlying123
 a46:=Tryz.isAgg123
 z46:=Tryz.sizeOf123
 v46:=Tryz.zeroValue123
 t53:=Tryz.underlying293
 a53:=Tryz.isAgg293
 z53:=Tryz.sizeOf293
 v53:=Tryz.zeroValue293
 t57:=Tryz.underlying297
 a57:=Tryz.isAgg297
 z57:=Tryz.sizeOf297
 v57:=Tryz.zeroValue297
 t63:=Tryz.underlying319
 a63:=Tryz.isAgg319
 z63:=Tryz.sizeOf319
 v63:=Tryz.zeroValue319
 t64:=Tryz.underlying50
 a64:=Tryz.isAgg50
 z64:=Tryz.sizeOf50
 v64:=Tryz.zeroValue50}
end Go.Proofs
namespace Go.Proofs.YtoofbflplhbpbaaGreatDoor
open Go.RowKit Go.Maps Go.Sort Go.Shelf
theorem NU (m:Nat):AnyZ.SortsIn Tryz.prog Tryz.Eb Fence.wide m:=
 ⟨fun blk off cap ss W hH hblk hsz=>callsIn_wide.2 (AnyM.slices_Sort_string Tryz.sort96 blk off cap ss W hH hblk hsz),
  fun p cap W=>callsIn_wide.2 (AnyM.slices_Sort_string_none Tryz.sort96 p cap W)⟩
theorem wB (mb:Option Nat) (W:World):Calls Tryz.prog 138 #[.map mb] W fun e w'=>e= .returned (.func (.func 188) #[] #[.pointer (some ⟨W.heap.size,0,none⟩)])∧W.alloc (.cells #[.map mb] 150)=w':=
 (callsIn_wide.1 (AnyZ.keys_in Tryz.keys138 Fence.wide 5 trivial rfl mb W)).mono fun _ _ ⟨h1,h2⟩=>⟨h1,h2.symm⟩
def sortL (l:List (List UInt8)):List (List UInt8):=(Gr.dedup l).mergeSort fun x y=>decide (x≤y)
theorem Ec: ∀l:List (List UInt8),(Gr.dedup l).length≤l.length
 | []=>by simp [Gr.dedup]
 | a :: r=>by
  have ih:=Ec r
  rw [Gr.dedup]
  split
  ·rw [List.length_cons];omega
  ·rw [List.length_cons,List.length_cons];omega
theorem wC (b:Nat) (l:List (List UInt8)) (w:World) (h:bn w b l) (hl:l.length≤1073741824):
  Calls Tryz.prog 137 #[.func (.func 188) #[] #[.pointer (some ⟨w.heap.size,0,none⟩)]] (w.alloc (.cells #[.map (some b)] 150)) fun e w'=> ∃A c,e= .returned (.slice A (Gr.dedup l).length c)∧
   w'.ownsRow (w.alloc (.cells #[.map (some b)] 150)).heap.size 9 1 (.slice A (Gr.dedup l).length c) (Gr.dedup l).length ((sortL l).map ST)∧Below (w.alloc (.cells #[.map (some b)] 150)).heap.size (w.alloc (.cells #[.map (some b)] 150)) w':=by
 obtain ⟨nn,D0,hn,hown,hT,hc,hh⟩:=h.ex
 have hbl:=hown.lt
 have hperm:(Gr.dedup l).Perm (strKeys D0):=Collected.perm (left:=fun _=>false) ⟨Gr.pY l,fun x=>by rw [Gr.nJ,hh x];simp⟩ hown qI Tryz.underlying9 (fun _=>rfl)
 have hdl:=Ec l
 have hsz:Maps.size D0≤1073741824:=by
  have h1:=hperm.length_eq
  have h2:(strKeys D0).length=Maps.size D0:=by
   obtain ⟨es,rfl⟩:=hT.isMap
   rw [Maps.size_eq]
   exact List.length_map _
  omega
 have hseq:SeqGives Fence.wide 2 Tryz.prog 188 #[.pointer (some ⟨w.heap.size,0,none⟩)] encStr (fun ss=>ss.Perm (strKeys D0)) (Maps.size D0) (w.alloc (.cells #[.map (some b)] 150)):=
  AnyZ.keys_gives (ρ:=Tryz.Ea) {Tryz.keys138 with} Fence.wide _ trivial rfl (by omega) w.heap.size b nn D0 _ (by simp) (by simp) (by
   obtain ⟨es,clock,hb,Ft,hs,hD⟩:=hown
   exact ⟨es,clock,(Below.heap_alloc _ _ b hbl).trans hb,Ft,hs,hD⟩)
 refine (callsIn_wide.1 (AnyZ.sorted_in Tryz.sorted137 Fence.wide 5 trivial trivial trivial trivial rfl (by omega) (NU _) (enters_of Tryz.func96 (by kernel_rfl) rfl) 188 #[.pointer (some ⟨w.heap.size,0,none⟩)] trivial (enters_of Tryz.func188 (by kernel_rfl) rfl) _ _ (by unfold maxLen;omega) (by omega) _ hseq)).mono ?_
 rintro e w' ⟨v,ss,rfl,hS,hrow,-,hb⟩
 have hss:=hS.trans hperm.symm
 have hm:=mergeSort_of_perm hss
 rw [show ss.mergeSort (fun x y=>decide (x≤y))=sortL l from hm,hss.length_eq] at hrow
 obtain ⟨A,c,rfl⟩:=ak hrow
 exact ⟨A,c,rfl,hrow,hb⟩
end Go.Proofs.YtoofbflplhbpbaaGreatDoor
namespace Go.Proofs.YtoofbflplhbpbaaGreatDoor
open Go.RowKit
theorem Lst.node {W:World} {B:Nat} {A:Option Addr} {l:List Gr.N} (h:Lst W B 3 (bU W B) A l) {k:Nat} {n:Gr.N} (hk:l[k]?=some n): ∃b o Al cl Ap cp,A=some ⟨b,o,none⟩∧b<B∧
  (W.cell? ⟨b,o+k*3,none⟩=some (.int .i64 n.id)∧W.cell? ⟨b,o+k*3+1,none⟩=some (.slice Al n.labels.length cl)∧W.cell? ⟨b,o+k*3+2,none⟩=some (.slice Ap n.props.length cp))∧
  Reads W B 1 Al n.labels.length (n.labels.map ST)∧Lst W B 6 (aB W B) Ap n.props:=by
 obtain ⟨b,o,cs,hA,hb,⟨Al,cl,Ap,cp,rfl,h1,h2⟩,-,hc⟩:=h k n hk
 exact ⟨b,o,Al,cl,Ap,cp,hA,hb,⟨hc 0 _ rfl,hc 1 _ rfl,hc 2 _ rfl⟩,h1,h2⟩
theorem NV (B:Nat) (A:Option Addr) (c:Nat) (ns:List Gr.N) (k:Nat) (n:Gr.N) (w:World) (h:Lst w B 3 (bU w B) A ns) (hB:B≤w.heap.size) (hl:ns.length≤1073741824) (hs: ∀n∈ns,NOk n) (hk:ns[k]?=some n):
  Calls Tryz.prog 77 #[.slice A ns.length c, .int .i64 (k:Int)] w fun e w'=>e= .returned (.int .i64 (Gr.bH (Gr.aj Gr.N.id ns k) n:Nat))∧Below w.heap.size w w':=by
 obtain ⟨R,hR⟩: ∃R,Gr.bH (Gr.aj Gr.N.id ns k) n=R:=⟨_,rfl⟩
 rw [hR]
 unfold Gr.bH at hR
 have hok:=hs n (List.mem_of_getElem? hk)
 have hkl:k<ns.length:=(List.getElem?_eq_some_iff.1 hk).1
 obtain ⟨m,hm⟩: ∃m,ns.length=m:=⟨_,rfl⟩
 rw [hm] at hl hkl⊢
 obtain ⟨b,o,Al,cl,Ap,cp,rfl,hbB,⟨c0,c1,c2⟩,r1,r2⟩:=h.node hk
 obtain ⟨id0,ls0,ps0⟩:=n
 simp only at hR c0 c1 c2 r1 r2
 obtain ⟨W1,hW1⟩: ∃W1,w.alloc (.cells #[.int .i64 id0, .slice Al ls0.length cl, .slice Ap ps0.length cp] 59)=W1:=⟨_,rfl⟩
 have hb1:Below w.heap.size w W1:=by rw [←hW1];exact (Below.refl _ w).alloc (Nat.le_refl _) _
 have k1:Blk W1 w.heap.size 59 #[.int .i64 id0, .slice Al ls0.length cl, .slice Ap ps0.length cp]:=by rw [←hW1];exact Blk.new _ _ _
 have HD:=hq7 (cells3 k1)
 have hBm:=hb1.mono hB
 have HLB:=hq7 (fun (q:Nat)=>LD B Al cl ls0 (W1.drewN q) ((r1.below hBm).below (below_drewN (Below.refl B W1) q)) hok.ll hok.ls)
 have HPR:=hq7 (fun (q:Nat)=>Dk B Ap cp ps0 (W1.drewN q) ((r2.below hBm (aB.below hBm)).below (below_drewN (Below.refl B W1) q) (aB.below (below_drewN (Below.refl B W1) q))) (Nat.le_trans hB hb1.size) hok.pl hok.ps)
 obtain ⟨LV,hLV⟩: ∃x,Gr.iF ls0=x:=⟨_,rfl⟩
 obtain ⟨PV,hPV⟩: ∃x,Gr.aQ ps0=x:=⟨_,rfl⟩
 rw [hLV] at HLB hR
 rw [hPV] at HPR hR
 have HQ:Hid (∀(j:Nat) (q:Gr.N),ns[j]?=some q→W1.cell? ⟨b,o+j*3,none⟩=some (.int .i64 q.id)):=fun j q hq=>by
  obtain ⟨b',o',_,_,_,_,he,hlt,⟨e0,-⟩,-⟩:=h.node hq
  injection he with he
  injection he with he1 he2
  subst he1
  subst he2
  exact (hBm.cell (by exact hlt)).trans e0
 have HB1:=hq7 hb1
 have HW1:=hq7 hW1
 have HU:=hq7 iC
 have HM:=hq7 hm
 have hkI:(k:Int)<m:=by omega
 obtain ⟨x1,hx1⟩: ∃x,decide (id0<0)=x:=⟨_,rfl⟩
 obtain ⟨x2,hx2⟩: ∃x,decide ((1024:Int)≤id0)=x:=⟨_,rfl⟩
 clear hW1 hb1 k1 hBm hLV hPV h r1 r2 hk hs hok hm hbB
 go_enter Tryz.func77,Tryz.ntmps77
 go_upto_region 2 with fail
 rw [HW1.out]
 clear c0 c1 c2 HW1
 obtain ⟨d0,d1,d2⟩:=HD.out
 have hu:=HU.out
 cases x1 with
 | true=>
  have hi:=of_decide_eq_true hx1
  rw [if_pos (.inl hi)] at hR
  subst hR
  clear HLB HPR HQ
  go_wp2
  go_ret
  exact ⟨rfl,HB1.out⟩
 | false=>
  have hi:=of_decide_eq_false hx1
  have hi':0≤id0:=by omega
  cases x2 with
  | true=>
   have hj:=of_decide_eq_true hx2
   rw [if_pos (.inr hj)] at hR
   subst hR
   clear HLB HPR HQ
   go_wp2
   go_ret
   exact ⟨rfl,HB1.out⟩
  | false=>
   have hj:=of_decide_eq_false hx2
   have hj':id0<1024:=by omega
   rw [if_neg (by omega)] at hR
   have HR:=hq7 hR
   clear hi hj hR
   by_cases h0:k=0
   ·have hk0:(k:Int)≤0:=by omega
    have tk:decide (0<k)=false:=decide_eq_false (by omega)
    have hpv:Gr.aj Gr.N.id ns k=none:=by subst h0;rfl
    have hr2:=HR.out
    rw [hpv,if_neg (by simp)] at hr2
    have HT:=hq7 (show LV≠0→R=LV from fun h=>by rw [←hr2,if_pos h])
    have HT2:=hq7 (show LV=0→R=PV from fun h=>by rw [←hr2,if_neg (by omega)])
    clear h0 hpv hr2
    go_upto_region 4 with fail
    go_quiet (fail)
    go_wp2_with fail
    cases LV with
    | succ e=>
     have hr:=HT.out (by omega)
     have HRR:=hq7 hr
     have hne:(((e+1:Nat):Int) !=0)=true:=by rw [bne_iff_ne];omega
     clear hr HPR
     refine (HLB.out nq).mono ?_
     rintro e w2 ⟨rfl,rfl⟩
     go_wp2
     go_ret
     exact ⟨by rw [HRR.out];rfl,below_drewN HB1.out nq⟩
    | zero=>
     have hr:=HT2.out rfl
     have HRR:=hq7 hr
     clear hr
     refine (HLB.out nq).mono ?_
     rintro e w2 ⟨rfl,rfl⟩
     obtain ⟨d0,d1,d2⟩:=HD.out
     go_wp2_with fail
     refine (HPR.out nq).mono ?_
     rintro e w3 ⟨rfl,hb3⟩
     have HB3:=hq7 (fG (below_drewN HB1.out nq) hb3)
     clear hb3
     go_wp2
     go_ret
     exact ⟨by rw [HRR.out];rfl,HB3.out⟩
   ·obtain ⟨m',hm'⟩: ∃m',k=m'+1:=⟨k - 1,by omega⟩
    have tk:decide (0<k)=true:=decide_eq_true (by omega)
    have hkp:(0:Int)<k:=by omega
    have hsub:(k:Int) - 1=(m':Int):=by omega
    have hmn:(m':Int)<m:=by omega
    obtain ⟨q,hq⟩: ∃q,ns[m']?=some q:=⟨_,List.getElem?_eq_getElem (by have:=HM.out;omega)⟩
    have e0:=HQ.out m' q hq
    have hpv:Gr.aj Gr.N.id ns k=some q.id:=by rw [hm'];show ns[m']?.map Gr.N.id=_;rw [hq];rfl
    have hr2:=HR.out
    rw [hpv] at hr2
    obtain ⟨y,hy⟩: ∃y,q.id=y:=⟨_,rfl⟩
    rw [hy] at e0 hr2
    clear h0 hq hpv hm' hy
    by_cases hle:id0≤y
    ·have tl:decide (id0≤y)=true:=decide_eq_true hle
     have hr:R=6:=by rw [←hr2,if_pos (by simpa using hle)]
     have HRR:=hq7 hr
     clear hr hr2 HLB HPR
     go_upto_region 4 with fail
     go_quiet (fail)
     go_wp2
     go_ret
     exact ⟨by rw [HRR.out];rfl,below_drewN HB1.out nq⟩
    ·have tl:decide (id0≤y)=false:=decide_eq_false hle
     have hle':y<id0:=by omega
     rw [if_neg (by simpa using hle)] at hr2
     have HT:=hq7 (show LV≠0→R=LV from fun h=>by rw [←hr2,if_pos h])
     have HT2:=hq7 (show LV=0→R=PV from fun h=>by rw [←hr2,if_neg (by omega)])
     clear hr2 hle
     go_upto_region 4 with fail
     go_quiet (fail)
     go_wp2_with fail
     cases LV with
     | succ e=>
      have hr:=HT.out (by omega)
      have HRR:=hq7 hr
      have hne:(((e+1:Nat):Int) !=0)=true:=by rw [bne_iff_ne];omega
      clear hr HPR
      refine (HLB.out nq).mono ?_
      rintro e w2 ⟨rfl,rfl⟩
      go_wp2
      go_ret
      exact ⟨by rw [HRR.out];rfl,below_drewN HB1.out nq⟩
     | zero=>
      have hr:=HT2.out rfl
      have HRR:=hq7 hr
      clear hr
      refine (HLB.out nq).mono ?_
      rintro e w2 ⟨rfl,rfl⟩
      obtain ⟨d0,d1,d2⟩:=HD.out
      go_wp2_with fail
      refine (HPR.out nq).mono ?_
      rintro e w3 ⟨rfl,hb3⟩
      have HB3:=hq7 (fG (below_drewN HB1.out nq) hb3)
      clear hb3
      go_wp2
      go_ret
      exact ⟨by rw [HRR.out];rfl,HB3.out⟩
theorem Lst.rel {W:World} {B:Nat} {A:Option Addr} {l:List Gr.R} (h:Lst W B 5 (bV W B) A l) {k:Nat} {r:Gr.R} (hk:l[k]?=some r): ∃b o Ap cp,A=some ⟨b,o,none⟩∧b<B∧
  (W.cell? ⟨b,o+k*5,none⟩=some (.int .i64 r.id)∧W.cell? ⟨b,o+k*5+1,none⟩=some (ST r.type)∧W.cell? ⟨b,o+k*5+2,none⟩=some (.int .i64 r.src)∧W.cell? ⟨b,o+k*5+3,none⟩=some (.int .i64 r.dst)∧W.cell? ⟨b,o+k*5+4,none⟩=some (.slice Ap r.props.length cp))∧
  Lst W B 6 (aB W B) Ap r.props:=by
 obtain ⟨b,o,cs,hA,hb,⟨Ap,cp,rfl,h2⟩,-,hc⟩:=h k r hk
 exact ⟨b,o,Ap,cp,hA,hb,⟨hc 0 _ rfl,hc 1 _ rfl,hc 2 _ rfl,hc 3 _ rfl,hc 4 _ rfl⟩,h2⟩
theorem NW (B:Nat) (A:Option Addr) (c:Nat) (rs:List Gr.R) (k:Nat) (r:Gr.R) (mb:Nat) (ids:List Int) (w:World) (h:Lst w B 5 (bV w B) A rs) (hB:B≤w.heap.size) (hl:rs.length≤1073741824) (hs: ∀r∈rs,ROk r) (hk:rs[k]?=some r) (hmb:aS w mb ids):
  Calls Tryz.prog 78 #[.slice A rs.length c, .int .i64 (k:Int), .map (some mb)] w fun e w'=>e= .returned (.int .i64 (Gr.bQ ids (Gr.aj Gr.R.id rs k) r:Nat))∧Below w.heap.size w w':=by
 obtain ⟨R,hR⟩: ∃R,Gr.bQ ids (Gr.aj Gr.R.id rs k) r=R:=⟨_,rfl⟩
 rw [hR]
 unfold Gr.bQ at hR
 have hok:=hs r (List.mem_of_getElem? hk)
 have hkl:k<rs.length:=(List.getElem?_eq_some_iff.1 hk).1
 obtain ⟨m,hm⟩: ∃m,rs.length=m:=⟨_,rfl⟩
 rw [hm] at hl hkl⊢
 obtain ⟨b,o,Ap,cp,rfl,hbB,⟨c0,c1,c2,c3,c4⟩,r2⟩:=h.rel hk
 obtain ⟨id0,ty0,src0,dst0,ps0⟩:=r
 simp only at hR c0 c1 c2 c3 c4 r2
 obtain ⟨z,hz⟩: ∃z:ByteArray,(⟨ty0.toArray⟩:ByteArray)=z:=⟨_,rfl⟩
 have hzd:z.data.toList=ty0:=by rw [←hz]
 unfold ST at c1
 rw [hz] at c1
 obtain ⟨W1,hW1⟩: ∃W1,w.alloc (.cells #[.int .i64 id0, .string z, .int .i64 src0, .int .i64 dst0, .slice Ap ps0.length cp] 63)=W1:=⟨_,rfl⟩
 have hb1:Below w.heap.size w W1:=by rw [←hW1];exact (Below.refl _ w).alloc (Nat.le_refl _) _
 have k1:Blk W1 w.heap.size 63 #[.int .i64 id0, .string z, .int .i64 src0, .int .i64 dst0, .slice Ap ps0.length cp]:=by rw [←hW1];exact Blk.new _ _ _
 have HD:=hq7 (cells5 k1)
 have hBm:=hb1.mono hB
 have hgn:=lY z
 rw [hzd] at hgn
 have HGN:=hq7 (fun (W:World)=>hgn W (by rw [Lib.size_eq,hzd];exact hok.tl))
 have HPR:=hq7 (fun (q:Nat)=>Dk B Ap cp ps0 (W1.drewN q) ((r2.below hBm (aB.below hBm)).below (below_drewN (Below.refl B W1) q) (aB.below (below_drewN (Below.refl B W1) q))) (Nat.le_trans hB hb1.size) hok.pl hok.ps)
 obtain ⟨GV,hGV⟩: ∃x,Gr.aI ty0=x:=⟨_,rfl⟩
 obtain ⟨PV,hPV⟩: ∃x,Gr.aQ ps0=x:=⟨_,rfl⟩
 rw [hGV] at HGN hR
 rw [hPV] at HPR hR
 have hcm:=hmb.below hb1
 have HL1:=hq7 (fun (q:Nat)=>(show aS (W1.drewN q) mb ids from ⟨hcm.ex⟩).look (t:=97) Tryz.underlying97 hok.src)
 have HL2:=hq7 (fun (q:Nat)=>(show aS (W1.drewN q) mb ids from ⟨hcm.ex⟩).look (t:=97) Tryz.underlying97 hok.dst)
 have hc1:ids.count src0=0↔src0∉ids:=List.count_eq_zero
 have hc2:ids.count dst0=0↔dst0∉ids:=List.count_eq_zero
 obtain ⟨n1,hn1⟩: ∃n,ids.count src0=n:=⟨_,rfl⟩
 obtain ⟨n2,hn2⟩: ∃n,ids.count dst0=n:=⟨_,rfl⟩
 rw [hn1] at HL1 hc1
 rw [hn2] at HL2 hc2
 have HC1:=hq7 hc1
 have HC2:=hq7 hc2
 have HQ:Hid (∀(j:Nat) (q:Gr.R),rs[j]?=some q→W1.cell? ⟨b,o+j*5,none⟩=some (.int .i64 q.id)):=fun j q hq=>by
  obtain ⟨b',o',_,_,he,hlt,⟨e0,-⟩,-⟩:=h.rel hq
  injection he with he
  injection he with he1 he2
  subst he1
  subst he2
  exact (hBm.cell (by exact hlt)).trans e0
 have HB1:=hq7 hb1
 have HW1:=hq7 hW1
 have HU:=hq7 iC
 have HM:=hq7 hm
 have hkI:(k:Int)<m:=by omega
 obtain ⟨x1,hx1⟩: ∃x,decide (id0<0)=x:=⟨_,rfl⟩
 obtain ⟨x2,hx2⟩: ∃x,decide ((2048:Int)≤id0)=x:=⟨_,rfl⟩
 clear hW1 hb1 k1 hBm hGV hPV h r2 hk hs hok hm hbB hmb hcm hc1 hc2 hn1 hn2 hgn hz hzd
 go_enter Tryz.func78,Tryz.ntmps78
 go_upto_region 2 with fail
 rw [HW1.out]
 clear c0 c1 c2 c3 c4 HW1
 obtain ⟨d0,d1,d2,d3,d4⟩:=HD.out
 have hu:=HU.out
 cases x1 with
 | true=>
  have hi:=of_decide_eq_true hx1
  rw [if_pos (.inl hi)] at hR
  subst hR
  clear HGN HPR HQ
  go_wp2
  go_ret
  exact ⟨rfl,HB1.out⟩
 | false=>
  have hi:=of_decide_eq_false hx1
  have hi':0≤id0:=by omega
  cases x2 with
  | true=>
   have hj:=of_decide_eq_true hx2
   rw [if_pos (.inr hj)] at hR
   subst hR
   clear HGN HPR HQ
   go_wp2
   go_ret
   exact ⟨rfl,HB1.out⟩
  | false=>
   have hj:=of_decide_eq_false hx2
   have hj':id0<2048:=by omega
   rw [if_neg (by omega)] at hR
   have HR:=hq7 hR
   clear hi hj hR
   by_cases h0:k=0
   ·have hk0:(k:Int)≤0:=by omega
    have tk:decide (0<k)=false:=decide_eq_false (by omega)
    have hpv:Gr.aj Gr.R.id rs k=none:=by subst h0;rfl
    have hr2:=HR.out
    rw [hpv,if_neg (by simp)] at hr2
    have HT:=hq7 hr2
    clear h0 hpv hr2
    go_upto_region 4 with fail
    go_quiet (fail)
    go_wp2_with fail
    refine (HGN.out _).mono ?_
    rintro e w2 ⟨rfl,rfl⟩
    cases GV with
    | false=>
     have hr:=HT.out
     rw [if_pos rfl] at hr
     subst hr
     clear HPR
     go_wp2
     go_ret
     exact ⟨rfl,below_drewN HB1.out nq⟩
    | true=>
     have hr:=HT.out
     rw [if_neg (by decide)] at hr
     have l1:=HL1.out nq
     have l2:=HL2.out nq
     by_cases h1:n1=0
     ·have t1:((n1:Int) == 0)=true:=beq_iff_eq.2 (by omega)
      rw [if_pos (.inl (HC1.out.1 h1))] at hr
      subst hr
      clear HPR h1
      go_wp2
      go_ret
      exact ⟨rfl,below_drewN HB1.out nq⟩
     ·have t1:((n1:Int) == 0)=false:=beq_eq_false_iff_ne.2 (by omega)
      by_cases h2:n2=0
      ·have t2:((n2:Int) == 0)=true:=beq_iff_eq.2 (by omega)
       rw [if_pos (.inr (HC2.out.1 h2))] at hr
       subst hr
       clear HPR h1 h2
       go_wp2
       go_ret
       exact ⟨rfl,below_drewN HB1.out nq⟩
      ·have t2:((n2:Int) == 0)=false:=beq_eq_false_iff_ne.2 (by omega)
       rw [if_neg (by rintro (h | h);exact h1 (HC1.out.2 h);exact h2 (HC2.out.2 h))] at hr
       subst hr
       clear h1 h2
       go_wp2_with fail
       refine (HPR.out nq).mono ?_
       rintro e w3 ⟨rfl,hb3⟩
       have HB3:=hq7 (fG (below_drewN HB1.out nq) hb3)
       clear hb3
       go_wp2
       go_ret
       exact ⟨rfl,HB3.out⟩
   ·obtain ⟨m',hm'⟩: ∃m',k=m'+1:=⟨k - 1,by omega⟩
    have tk:decide (0<k)=true:=decide_eq_true (by omega)
    have hkp:(0:Int)<k:=by omega
    have hsub:(k:Int) - 1=(m':Int):=by omega
    have hmn:(m':Int)<m:=by omega
    obtain ⟨q,hq⟩: ∃q,rs[m']?=some q:=⟨_,List.getElem?_eq_getElem (by have:=HM.out;omega)⟩
    have e0:=HQ.out m' q hq
    have hpv:Gr.aj Gr.R.id rs k=some q.id:=by rw [hm'];show rs[m']?.map Gr.R.id=_;rw [hq];rfl
    have hr2:=HR.out
    rw [hpv] at hr2
    obtain ⟨y,hy⟩: ∃y,q.id=y:=⟨_,rfl⟩
    rw [hy] at e0 hr2
    clear h0 hq hpv hm' hy
    by_cases hle:id0≤y
    ·have tl:decide (id0≤y)=true:=decide_eq_true hle
     have hr:R=6:=by rw [←hr2,if_pos (by simpa using hle)]
     have HRR:=hq7 hr
     clear hr hr2 HGN HPR
     go_upto_region 4 with fail
     go_quiet (fail)
     go_wp2
     go_ret
     exact ⟨by rw [HRR.out];rfl,below_drewN HB1.out nq⟩
    ·have tl:decide (id0≤y)=false:=decide_eq_false hle
     have hle':y<id0:=by omega
     rw [if_neg (by simpa using hle)] at hr2
     have HT:=hq7 hr2
     clear hr2 hle
     go_upto_region 4 with fail
     go_quiet (fail)
     go_wp2_with fail
     refine (HGN.out _).mono ?_
     rintro e w2 ⟨rfl,rfl⟩
     cases GV with
     | false=>
      have hr:=HT.out
      rw [if_pos rfl] at hr
      subst hr
      clear HPR
      go_wp2
      go_ret
      exact ⟨rfl,below_drewN HB1.out nq⟩
     | true=>
      have hr:=HT.out
      rw [if_neg (by decide)] at hr
      have l1:=HL1.out nq
      have l2:=HL2.out nq
      by_cases h1:n1=0
      ·have t1:((n1:Int) == 0)=true:=beq_iff_eq.2 (by omega)
       rw [if_pos (.inl (HC1.out.1 h1))] at hr
       subst hr
       clear HPR h1
       go_wp2
       go_ret
       exact ⟨rfl,below_drewN HB1.out nq⟩
      ·have t1:((n1:Int) == 0)=false:=beq_eq_false_iff_ne.2 (by omega)
       by_cases h2:n2=0
       ·have t2:((n2:Int) == 0)=true:=beq_iff_eq.2 (by omega)
        rw [if_pos (.inr (HC2.out.1 h2))] at hr
        subst hr
        clear HPR h1 h2
        go_wp2
        go_ret
        exact ⟨rfl,below_drewN HB1.out nq⟩
       ·have t2:((n2:Int) == 0)=false:=beq_eq_false_iff_ne.2 (by omega)
        rw [if_neg (by rintro (h | h);exact h1 (HC1.out.2 h);exact h2 (HC2.out.2 h))] at hr
        subst hr
        clear h1 h2
        go_wp2_with fail
        refine (HPR.out nq).mono ?_
        rintro e w3 ⟨rfl,hb3⟩
        have HB3:=hq7 (fG (below_drewN HB1.out nq) hb3)
        clear hb3
        go_wp2
        go_ret
        exact ⟨rfl,HB3.out⟩
end Go.Proofs.YtoofbflplhbpbaaGreatDoor
