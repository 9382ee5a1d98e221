/- Contracts and plain laws,part 45. -/
import Derived.Test.YtoofbflplhbpbaaGreatDoorBK39
import Derived.Test.YtoofbflplhbpbaaGreatDoorBK44
import Derived.Deep.WholeRow
set_option maxHeartbeats 64000000
set_option maxRecDepth 1000000
set_option linter.all false
namespace Go.Proofs.YtoofbflplhbpbaaGreatDoor
open Go.RowKit
def There (V:World) (b:Nat) (ids:List Int):Prop:= ∃cs:Array Value,Blk V b 112 cs∧cs.size=1024∧ ∀i:Nat,i<1024→cs[i]?=some (.bool (decide ((i:Int)∈ids)))
theorem There.below {V V':World} {b:Nat} {ids:List Int} (h:There V b ids) (hb:Below V.heap.size V V'):There V' b ids:=by
 obtain ⟨cs,h1,h2⟩:=h
 exact ⟨cs,h1.below hb h1.lt,h2⟩
theorem There.cell {V:World} {b:Nat} {ids:List Int} (h:There V b ids) {i:Nat} (hi:i<1024):V.cell? ⟨b,i,none⟩=some (.bool (decide ((i:Int)∈ids)))∧V.frozen? ⟨b,i,none⟩=false:=by
 obtain ⟨cs,h1,h2,h3⟩:=h
 exact ⟨(h1.cell i).trans (h3 i hi),h1.frozen i⟩
theorem There.put {V:World} {b:Nat} {ids:List Int} (h:There V b ids) {i:Nat} (hi:i<1024):There (V.setCell ⟨b,i,none⟩ (.bool true)) b (ids ++ [(i:Int)]):=by
 obtain ⟨cs,h1,h2,h3⟩:=h
 refine ⟨_,h1.ay i (.bool true),by rw [Array.size_setIfInBounds];exact h2,fun j hj=> ?_⟩
 rw [Array.getElem?_setIfInBounds]
 split
 ·rename_i e
  subst e
  rw [if_pos (by omega)]
  simp
 ·rename_i e
  rw [h3 j hj]
  congr 2
  rw [Bool.eq_iff_iff]
  simp only [decide_eq_true_eq,List.mem_append,List.mem_singleton]
  constructor
  ·exact .inl
  ·rintro (h | h)
   ·exact h
   ·omega
structure RcS (w:World) (u v:Value) (ids:List Int) (V:World):Prop where
 box:Blk V w.heap.size 39 #[u,v]
 arr:There V (w.heap.size+1) ids
 bel:Below w.heap.size w V
theorem RcS.below {w V V':World} {u v:Value} {ids:List Int} (h:RcS w u v ids V) (hb:Below V.heap.size V V'):RcS w u v ids V':=
 ⟨h.box.below hb h.box.lt,h.arr.below hb,h.bel.trans (hb.mono h.bel.size)⟩
theorem RcS.put {w V:World} {u v:Value} {ids:List Int} (h:RcS w u v ids V) {i:Nat} (hi:i<1024):RcS w u v (ids ++ [(i:Int)]) (V.setCell ⟨w.heap.size+1,i,none⟩ (.bool true)):=
 ⟨h.box.far (by simp) _,h.arr.put hi,h.bel.setCell (p:=⟨w.heap.size+1,i,none⟩) (by simp) _⟩
def jy (p:Option Int):Int:=p.getD (-1)
theorem O5:(Tryz.prog.info? 112).map (fun i=>(i.zero,i.size))=some (some (.agg (Array.replicate 1024 (.bool false))),1024):=by kernel_rfl
theorem FC {g:Gr.G} {k:Nat} {n:Gr.N} (hn:g.nodes[k]?=some n):Gr.bH (Gr.aj Gr.N.id g.nodes k) n=if n.id<0∨1024≤n.id then 61 else if (Gr.aj Gr.N.id g.nodes k).any (fun q=>decide (n.id≤q))=true then 6 else mG n:=rfl
theorem O6 (ids:List Int) (P:Option Int) (r:Gr.R):Gr.bQ ids P r=if r.id<0∨2048≤r.id then 62 else if P.any (fun q=>decide (r.id≤q))=true then 6 else if Gr.aI r.type=false then 60 else if r.src∉ids∨r.dst∉ids then 65 else Gr.aQ r.props:=rfl
theorem FD {p:Option Int} {x:Int} (h:0≤x):p.any (fun q=>decide (x≤q))=decide (x≤jy p):=by
 cases p with
 | none=>exact (decide_eq_false (show¬x≤ -1 by omega)).symm
 | some q=>rfl
theorem FH {α:Type} {l:List α} {key:α→Int} {k:Nat} {a:α} (h:l[k]?=some a):jy (Gr.aj key l (k+1))=key a:=by
 show jy (l[k]?.map key)=key a
 rw [h]
 rfl
theorem O7: ∃cs:Array Value,cs.size=1024∧(∀w,(zeroValue 112).run Tryz.prog w= .ok (.agg cs) w)∧
  (∀W:World,(storeCells ⟨W.heap.size,0,none⟩ cs.toList 0).run Tryz.prog (W.alloc (.cells cs 112))= .ok () (W.alloc (.cells cs 112)))∧ ∀W:World,There (W.alloc (.cells cs 112)) W.heap.size []:=by
 have hcz:(Array.replicate 1024 (Value.bool false)).size=1024:=Array.size_replicate
 obtain ⟨hz,hi⟩:=zero_of_info O5
 refine ⟨Array.replicate 1024 (Value.bool false),hcz,hz,fun W=>run_storeCells_new (P:=Tryz.prog) W 112 _ _ (by rw [hcz];exact hi) rfl ?_,fun W=>⟨_,Blk.new _ _ _,hcz,fun i hi=> ?_⟩⟩
 ·rw [Array.all_eq_true]
  intro i hi
  rw [Array.getElem_replicate]
  rfl
 ·rw [Array.getElem?_replicate,if_pos hi]
  simp
theorem O8 (B:Nat) (u:Value) (g:Gr.G) (w:World) (h:GIn w B u g) (hB:B≤w.heap.size):
  Calls Tryz.prog 25 #[u] w fun e w'=>e= .returned (.tuple #[.int .i64 ((Gr.check g).1:Nat), .int .i64 ((Gr.check g).2:Nat)])∧Below w.heap.size w w':=by
 have hok:=h.ok
 have HG:=hq7 h
 obtain ⟨An,cn,Ar,cr,rfl,hN,hR⟩:=h.ex
 obtain ⟨nn,hnn⟩: ∃n,g.nodes.length=n:=⟨_,rfl⟩
 obtain ⟨rn,hrn⟩: ∃n,g.ah.length=n:=⟨_,rfl⟩
 have hnl:=hok.nl
 have hrl:=hok.rl
 rw [hnn] at hnl HG⊢
 rw [hrn] at hrl HG⊢
 have HN:=hq7 hN
 have HR:=hq7 hR
 have HOK:=hq7 hok
 have HNN:=hq7 hnn
 have HRN:=hq7 hrn
 have HBB:=hq7 hB
 obtain ⟨cs,hcz,hz,hsc,hst⟩:=O7
 have hsc:=hsc (w.alloc (.cells #[.slice An nn cn, .slice Ar rn cr] 39))
 have hst:=hst (w.alloc (.cells #[.slice An nn cn, .slice Ar rn cr] 39))
 rw [World.size_alloc] at hsc hst
 obtain ⟨W1,hW1⟩: ∃W1,(w.alloc (.cells #[.slice An nn cn, .slice Ar rn cr] 39)).alloc (.cells cs 112)=W1:=⟨_,rfl⟩
 have HS0:=hq7 (show RcS w (.slice An nn cn) (.slice Ar rn cr) [] W1 from hW1▸⟨(Blk.new w _ _).alloc _,hst,((Below.refl _ w).alloc (Nat.le_refl _) _).alloc (by simp) _⟩)
 have HW1:=hq7 hW1
 clear h hN hR hok hnn hrn hB hst hW1
 go_enter Tryz.func25,Tryz.ntmps25
 go_upto_region 2 with fail
 rw [HW1.out]
 clear HW1 hsc hz hcz
 obtain ⟨c0,c1⟩:=cells2 HS0.out.box
 go_wp2_with fail
 go_loopg [5,6] nn (fun q la x wr=> ∃k:Nat,la= .int .i64 (jy (Gr.aj Gr.N.id g.nodes k))∧x= .int .i64 k∧k+q=nn∧RcS w (.slice An nn cn) (.slice Ar rn cr) ((g.nodes.map Gr.N.id).take k) wr∧Hid (∀j a,j<k→g.nodes[j]?=some a→Gr.bH (Gr.aj Gr.N.id g.nodes j) a=0))
 case atStart=>exact ⟨0,rfl,rfl,by omega,HS0.out,fun j a h=>by omega⟩
 case round=>
  obtain ⟨k,rfl,rfl,hk,hrl,hz⟩:=hrel
  have HZ:Hid (∀j a,j<k→g.nodes[j]?=some a→Gr.bH (Gr.aj Gr.N.id g.nodes j) a=0):=hz
  have HRL:=hq7 hrl
  have HK:=hq7 hk
  clear hz hrl c0 c1 HS0
  obtain ⟨c0,c1⟩:=cells2 HRL.out.box
  cases gk with
  | succ q=>
   have hkn:k<nn:=by omega
   have hknI:(k:Int)<nn:=by omega
   have pk:(0:Int)≤(k:Int):=by omega
   have tk:((k:Int)).toNat=k:=by omega
   obtain ⟨n,hn⟩: ∃n,g.nodes[k]?=some n:=⟨_,List.getElem?_eq_getElem (by rw [HNN.out];exact hkn)⟩
   have hBw:=HRL.out.bel.mono HBB.out
   obtain ⟨b,o,Al,cl,Ap,cp,rfl,hlt,⟨d0,d1,d2⟩,ra,rp⟩:=(HN.out.below hBw (bU.below hBw)).node hn
   have hnok:=HOK.out.ns n (List.mem_of_getElem? hn)
   have hck:=FC hn
   have HNK:=hq7 hn
   obtain ⟨P,hP⟩: ∃P,Gr.aj Gr.N.id g.nodes k=P:=⟨_,rfl⟩
   rw [hP] at hck⊢
   have HST:=hq7 (fun (e:Nat) (he:Gr.bH P n=e) (hne:e≠0)=>En hn (hP▸he) hne HZ.out)
   have HMORE:=hq7 (fun (he:Gr.bH P n=0)=>jv hn HZ.out (hP▸he))
   have HLE:=hq7 (fun (x:Int) (h:0≤x)=>FD (p:=P) h)
   obtain ⟨LA,hLA⟩: ∃x,jy P=x:=⟨_,rfl⟩
   rw [hLA] at HLE⊢
   have HCK:=hq7 hck
   clear hkn hn hck hP hLA hk
   by_cases h1:n.id<0
   ·have hr:=HST.out 61 (by rw [HCK.out,if_pos (.inl h1)]) (by decide)
    have HRR:=hq7 hr
    have t1:decide (n.id<0)=true:=decide_eq_true h1
    clear hr hlt ra rp hBw hnok
    go_wp2
    go_ret2
    exact ⟨by rw [HRR.out];rfl,HRL.out.bel⟩
   ·have t1:decide (n.id<0)=false:=decide_eq_false h1
    have h1':0≤n.id:=by omega
    by_cases h2:1023<n.id
    ·have hr:=HST.out 61 (by rw [HCK.out,if_pos (.inr (by omega))]) (by decide)
     have HRR:=hq7 hr
     have t2:decide (1023<n.id)=true:=decide_eq_true h2
     clear hr hlt ra rp hBw hnok
     go_wp2
     go_ret2
     exact ⟨by rw [HRR.out];rfl,HRL.out.bel⟩
    ·have t2:decide (1023<n.id)=false:=decide_eq_false h2
     obtain ⟨b3,hb3⟩: ∃b,decide (n.id≤LA)=b:=⟨_,rfl⟩
     have HB3:=hq7 (show Gr.bH P n=if b3=true then 6 else mG n by rw [HCK.out,if_neg (by omega),HLE.out n.id h1',hb3])
     cases b3 with
     | true=>
      have hle:=of_decide_eq_true hb3
      have hr:=HST.out 6 HB3.out (by decide)
      have HRR:=hq7 hr
      clear hr hlt ra rp hBw hnok
      go_wp2
      go_ret2
      exact ⟨by rw [HRR.out];rfl,HRL.out.bel⟩
     | false=>
      have hle:LA<n.id:=by have:=of_decide_eq_false hb3;omega
      obtain ⟨i,hi⟩: ∃i:Nat,n.id=(i:Int):=⟨n.id.toNat,by omega⟩
      have hi4:i<1024:=by omega
      have hiI:(i:Int)<1024:=by omega
      have pi:(0:Int)≤(i:Int):=by omega
      have ti:((i:Int)).toNat=i:=by omega
      obtain ⟨a0,f0⟩:=HRL.out.arr.cell hi4
      obtain ⟨W5,hW5⟩: ∃W5,wr.setCell ⟨w.heap.size+1,i,none⟩ (.bool true)=W5:=⟨_,rfl⟩
      have HR5:=hq7 (show RcS w (.slice (some ⟨b,o,none⟩) nn cn) (.slice Ar rn cr) ((g.nodes.map Gr.N.id).take k ++ [(i:Int)]) W5 from hW5▸HRL.out.put hi4)
      have hb5:Below B wr W5:=hW5▸(Below.refl B wr).setCell (p:=⟨w.heap.size+1,i,none⟩) (Nat.le_trans HBB.out (Nat.le_succ _)) _
      obtain ⟨ln,hln⟩: ∃x,n.labels.length=x:=⟨_,rfl⟩
      obtain ⟨pn,hpn⟩: ∃x,n.props.length=x:=⟨_,rfl⟩
      have hcall:=OT B n Al Ap cl cp W5 (ra.below hb5) (rp.below hb5 (aB.below hb5)) (Nat.le_trans HBB.out HR5.out.bel.size) hnok
      rw [hi,hln,hpn] at hcall
      rw [hi] at d0 t1 t2 hb3 hle h1'
      rw [hln] at d1
      rw [hpn] at d2
      obtain ⟨E,hE⟩: ∃E,mG n=E:=⟨_,rfl⟩
      rw [hE] at hcall HB3
      have HCL:=hq7 hcall
      have HD:=hq7 (fun (X:World) (hb:Below B wr X)=>show X.cell? ⟨b,o+k*3,none⟩=some (.int .i64 (i:Int))∧X.cell? ⟨b,o+k*3+1,none⟩=some (.slice Al ln cl)∧X.cell? ⟨b,o+k*3+2,none⟩=some (.slice Ap pn cp) from ⟨(hb.cell (p:=⟨b,o+k*3,none⟩) hlt).trans d0,(hb.cell (p:=⟨b,o+k*3+1,none⟩) hlt).trans d1,(hb.cell (p:=⟨b,o+k*3+2,none⟩) hlt).trans d2⟩)
      have HB5:=hq7 hb5
      have HW5:=hq7 hW5
      have HIK:=hq7 (show (g.nodes.map Gr.N.id).take (k+1)=(g.nodes.map Gr.N.id).take k ++ [(i:Int)] from by rw [←hi];exact mD (a:=n.id) (by rw [List.getElem?_map,HNK.out];rfl))
      have HID:=hq7 (show jy (Gr.aj Gr.N.id g.nodes (k+1))=(i:Int) from (FH (key:=Gr.N.id) HNK.out).trans hi)
      clear hi hi4 hW5 hb5 hln hpn hcall hE hlt ra rp hBw hnok h1 h2
      go_upto_region 13 with fail
      rw [HW5.out]
      clear d0 d1 d2 c0 c1 a0 f0
      obtain ⟨d0,d1,d2⟩:=HD.out W5 HB5.out
      obtain ⟨c0,c1⟩:=cells2 HR5.out.box
      go_wp2_with fail
      refine HCL.out.mono ?_
      rintro e w6 ⟨rfl,hb6⟩
      have HR6:=hq7 (HR5.out.below hb6)
      clear hb6 d0 d1 d2 c0 c1
      cases E with
      | succ e=>
       have hr:=HST.out (e+1) HB3.out (by omega)
       have HRR:=hq7 hr
       have hne:(((e+1:Nat):Int) !=0)=true:=by rw [bne_iff_ne];omega
       clear hr
       go_wp2
       go_ret2
       exact ⟨by rw [HRR.out];rfl,HR6.out.bel⟩
      | zero=>
       have HMR:=hq7 (HMORE.out HB3.out)
       go_wp2
       go_roundg q
       case measure=>omega
       case rel=>exact ⟨k+1,by rw [HID.out],int_eq (by omega),by have:=HK.out;omega,by rw [HIK.out];exact HR6.out,HMR.out⟩
  | zero=>
   obtain rfl:nn=k:=by omega
   have hZN: ∀j a,g.nodes[j]?=some a→Gr.bH (Gr.aj Gr.N.id g.nodes j) a=0:=fun j a ha=>HZ.out j a (by have:=(List.getElem?_eq_some_iff.1 ha).1;have:=HNN.out;omega) ha
   have hrng: ∀x∈g.nodes.map Gr.N.id,0≤x∧x≤1023:=fun x hx=>by
    obtain ⟨n,hn,rfl⟩:=List.mem_map.1 hx
    obtain ⟨j,hj,e⟩:=List.getElem_of_mem hn
    have:=hZN j n (by rw [List.getElem?_eq_getElem hj,e])
    rw [FC (by rw [List.getElem?_eq_getElem hj,e])] at this
    split at this
    ·cases this
    ·omega
   obtain ⟨ids,hids⟩: ∃l,g.nodes.map Gr.N.id=l:=⟨_,rfl⟩
   rw [List.take_of_length_le (by rw [List.length_map,HNN.out];exact Nat.le_refl _),hids] at HRL
   rw [hids] at hrng
   have HZN:=hq7 hZN
   have HRNG:=hq7 hrng
   have HIDS:=hq7 hids
   obtain ⟨LA0,hLA0⟩: ∃x,jy (Gr.aj Gr.N.id g.nodes nn)=x:=⟨_,rfl⟩
   rw [hLA0]
   clear hk hZN hrng hids HZ hLA0
   go_wp2_with fail
   go_loopg [5,9] rn (fun q la x wr=> ∃m:Nat,la= .int .i64 (jy (Gr.aj Gr.R.id g.ah m))∧x= .int .i64 m∧m+q=rn∧RcS w (.slice An nn cn) (.slice Ar rn cr) ids wr∧Hid (∀j a,j<m→g.ah[j]?=some a→Gr.bQ (g.nodes.map Gr.N.id) (Gr.aj Gr.R.id g.ah j) a=0))
   case atStart=>exact ⟨0,rfl,rfl,by omega,HRL.out,fun j a h=>by omega⟩
   case round=>
    obtain ⟨m,rfl,rfl,hm,hrl2,hz⟩:=hrel
    have HZ:Hid (∀j a,j<m→g.ah[j]?=some a→Gr.bQ (g.nodes.map Gr.N.id) (Gr.aj Gr.R.id g.ah j) a=0):=hz
    have HRL2:=hq7 hrl2
    have HK:=hq7 hm
    clear hz hrl2 c0 c1 HRL
    obtain ⟨c0,c1⟩:=cells2 HRL2.out.box
    cases gk with
    | succ q=>
     have hmn:m<rn:=by omega
     have hmnI:(m:Int)<rn:=by omega
     have pk:(0:Int)≤(m:Int):=by omega
     have tk:((m:Int)).toNat=m:=by omega
     obtain ⟨r,hr⟩: ∃r,g.ah[m]?=some r:=⟨_,List.getElem?_eq_getElem (by rw [HRN.out];exact hmn)⟩
     have hBw:=HRL2.out.bel.mono HBB.out
     obtain ⟨b,o,Ap,cp,rfl,hlt,⟨d0,d1,d2,d3,d4⟩,rp⟩:=(HR.out.below hBw (bV.below hBw)).rel hr
     have hrok:=HOK.out.rs r (List.mem_of_getElem? hr)
     obtain ⟨P,hP⟩: ∃P,Gr.aj Gr.R.id g.ah m=P:=⟨_,rfl⟩
     have hck:=O6 ids P r
     rw [hP]
     have HST:=hq7 (fun (e:Nat) (he:Gr.bQ ids P r=e) (hne:e≠0)=>Eo HZN.out hr (by rw [HIDS.out,hP];exact he) hne HZ.out)
     have HMORE:=hq7 (fun (he:Gr.bQ ids P r=0)=>jv hr HZ.out (by rw [HIDS.out,hP];exact he))
     have HLE:=hq7 (fun (x:Int) (h:0≤x)=>FD (p:=P) h)
     obtain ⟨LA,hLA⟩: ∃x,jy P=x:=⟨_,rfl⟩
     rw [hLA] at HLE⊢
     have HCK:=hq7 hck
     have HNX:=hq7 (FH (key:=Gr.R.id) hr)
     simp only [ST] at d1
     obtain ⟨z,hz⟩: ∃z:ByteArray,(⟨r.type.toArray⟩:ByteArray)=z:=⟨_,rfl⟩
     rw [hz] at d1
     have hzl:z.size≤1073741824:=by rw [←hz];exact (aJ _).symm▸hrok.tl
     have hgn:=fun (V:World)=>wY z V hzl
     have hzd:z.data.toList=r.type:=by rw [←hz]
     rw [hzd] at hgn
     obtain ⟨pn,hpn⟩: ∃x,r.props.length=x:=⟨_,rfl⟩
     obtain ⟨rb,hrb⟩: ∃x,wr.heap.size=x:=⟨_,rfl⟩
     rw [hpn] at d4
     obtain ⟨WR,hWR⟩: ∃W,wr.alloc (.cells #[.int .i64 r.id, .string z, .int .i64 r.src, .int .i64 r.dst, .slice Ap pn cp] 63)=W:=⟨_,rfl⟩
     have hb5:Below wr.heap.size wr WR:=hWR▸(Below.refl _ wr).alloc (Nat.le_refl _) _
     have HSR:=hq7 (HRL2.out.below hb5)
     have HKR:=hq7 (show Blk WR rb 63 #[.int .i64 r.id, .string z, .int .i64 r.src, .int .i64 r.dst, .slice Ap pn cp] by rw [←hWR,←hrb];exact Blk.new _ _ _)
     have hpw:=fun (X:World) (hb:Below wr.heap.size wr X)=>EY B Ap cp r.props X (rp.below (hb.mono (Nat.le_trans HBB.out HRL2.out.bel.size)) (aB.below (hb.mono (Nat.le_trans HBB.out HRL2.out.bel.size)))) (Nat.le_trans (Nat.le_trans HBB.out HRL2.out.bel.size) hb.size) hrok.pl hrok.ps
     rw [hpn] at hpw
     have HPW:=hq7 hpw
     have HGN:=hq7 hgn
     have HB5:=hq7 hb5
     have HWR:=hq7 hWR
     have HRB:=hq7 hrb
     clear hmn hr hBw hlt hrok hP hck hLA hz hzl hgn hzd hpn hrb hWR hb5 hpw rp hm
     go_upto_region 21 with fail
     rw [HWR.out,HRB.out]
     clear d0 d1 d2 d3 d4 c0 c1 HWR HRB
     obtain ⟨d0,d1,d2,d3,d4⟩:=cells5 HKR.out
     obtain ⟨c0,c1⟩:=cells2 HSR.out.box
     by_cases h1:r.id<0
     ·have hr:=HST.out 62 (by rw [HCK.out,if_pos (.inl h1)]) (by decide)
      have HRR:=hq7 hr
      have t1:decide (r.id<0)=true:=decide_eq_true h1
      clear hr
      go_wp2
      go_ret2
      exact ⟨by rw [HRR.out,HNN.out,Int.natCast_add];rfl,HSR.out.bel⟩
     have t1:decide (r.id<0)=false:=decide_eq_false h1
     have h1':0≤r.id:=by omega
     by_cases h2:2047<r.id
     ·have hr:=HST.out 62 (by rw [HCK.out,if_pos (.inr (by omega))]) (by decide)
      have HRR:=hq7 hr
      have t2:decide (2047<r.id)=true:=decide_eq_true h2
      clear hr
      go_wp2
      go_ret2
      exact ⟨by rw [HRR.out,HNN.out,Int.natCast_add];rfl,HSR.out.bel⟩
     have t2:decide (2047<r.id)=false:=decide_eq_false h2
     obtain ⟨b3,hb3⟩: ∃b,decide (r.id≤LA)=b:=⟨_,rfl⟩
     have HB3:=hq7 (show Gr.bQ ids P r=if b3=true then 6 else if Gr.aI r.type=false then 60 else if r.src∉ids∨r.dst∉ids then 65 else Gr.aQ r.props by rw [HCK.out,if_neg (by omega),HLE.out r.id h1',hb3])
     cases b3 with
     | true=>
      have hle:=of_decide_eq_true hb3
      have hr:=HST.out 6 HB3.out (by decide)
      have HRR:=hq7 hr
      clear hr
      go_wp2
      go_ret2
      exact ⟨by rw [HRR.out,HNN.out,Int.natCast_add];rfl,HSR.out.bel⟩
     | false=>
      have hle:LA<r.id:=by have:=of_decide_eq_false hb3;omega
      obtain ⟨GN,hg⟩: ∃b,Gr.aI r.type=b:=⟨_,rfl⟩
      rw [hg] at HGN HB3
      have HB4:=hq7 (show Gr.bQ ids P r=if GN=false then 60 else if r.src∉ids∨r.dst∉ids then 65 else Gr.aQ r.props from HB3.out)
      clear hg HB3
      go_wp2_with fail
      refine (HGN.out _).mono ?_
      rintro e w6 ⟨rfl,hb6⟩
      have HS6:=hq7 (HSR.out.below hb6)
      have HK6:=hq7 (HKR.out.below hb6 HKR.out.lt)
      have HB6:=hq7 (HB5.out.trans (hb6.mono HB5.out.size))
      clear hb6 d0 d1 d2 d3 d4 c0 c1 HSR HKR
      obtain ⟨d0,d1,d2,d3,d4⟩:=cells5 HK6.out
      cases GN with
      | false=>
       have hr:=HST.out 60 HB4.out (by decide)
       have HRR:=hq7 hr
       clear hr
       go_wp2
       go_ret2
       exact ⟨by rw [HRR.out,HNN.out,Int.natCast_add];rfl,HS6.out.bel⟩
      | true=>
       have HBAD:=hq7 (fun (h:r.src∉ids∨r.dst∉ids)=>HST.out 65 (by rw [HB4.out,if_neg (by decide),if_pos h]) (by decide))
       by_cases e1:r.src<0
       ·have hr:=HBAD.out (.inl (fun h=>by have:=HRNG.out _ h;omega))
        have HRR:=hq7 hr
        have tb:decide (r.src<0)=true:=decide_eq_true e1
        clear hr
        go_wp2
        go_ret2
        exact ⟨by rw [HRR.out,HNN.out,Int.natCast_add];rfl,HS6.out.bel⟩
       have te1:decide (r.src<0)=false:=decide_eq_false e1
       by_cases e2:r.dst<0
       ·have hr:=HBAD.out (.inr (fun h=>by have:=HRNG.out _ h;omega))
        have HRR:=hq7 hr
        have tb:decide (r.dst<0)=true:=decide_eq_true e2
        clear hr
        go_wp2
        go_ret2
        exact ⟨by rw [HRR.out,HNN.out,Int.natCast_add];rfl,HS6.out.bel⟩
       have te2:decide (r.dst<0)=false:=decide_eq_false e2
       by_cases e3:1023<r.src
       ·have hr:=HBAD.out (.inl (fun h=>by have:=HRNG.out _ h;omega))
        have HRR:=hq7 hr
        have tb:decide (1023<r.src)=true:=decide_eq_true e3
        clear hr
        go_wp2
        go_ret2
        exact ⟨by rw [HRR.out,HNN.out,Int.natCast_add];rfl,HS6.out.bel⟩
       have te3:decide (1023<r.src)=false:=decide_eq_false e3
       by_cases e4:1023<r.dst
       ·have hr:=HBAD.out (.inr (fun h=>by have:=HRNG.out _ h;omega))
        have HRR:=hq7 hr
        have tb:decide (1023<r.dst)=true:=decide_eq_true e4
        clear hr
        go_wp2
        go_ret2
        exact ⟨by rw [HRR.out,HNN.out,Int.natCast_add];rfl,HS6.out.bel⟩
       have te4:decide (1023<r.dst)=false:=decide_eq_false e4
       obtain ⟨i,hi⟩: ∃i:Nat,r.src=(i:Int):=⟨r.src.toNat,by omega⟩
       obtain ⟨j,hj⟩: ∃j:Nat,r.dst=(j:Int):=⟨r.dst.toNat,by omega⟩
       have hi4:i<1024:=by omega
       have hj4:j<1024:=by omega
       have hiI:(i:Int)<1024:=by omega
       have hjI:(j:Int)<1024:=by omega
       have pi:(0:Int)≤(i:Int):=by omega
       have pj:(0:Int)≤(j:Int):=by omega
       have ti:((i:Int)).toNat=i:=by omega
       have tj:((j:Int)).toNat=j:=by omega
       have a0:=(HS6.out.arr.cell hi4).1
       have a1:=(HS6.out.arr.cell hj4).1
       rw [hi] at d2 te1 te3 HBAD HB4
       rw [hj] at d3 te2 te4 HBAD HB4
       obtain ⟨be,hbe⟩: ∃b,decide ((i:Int)∈ids)=b:=⟨_,rfl⟩
       obtain ⟨bd,hbd⟩: ∃b,decide ((j:Int)∈ids)=b:=⟨_,rfl⟩
       rw [hbe] at a0
       rw [hbd] at a1
       have HBE:=hq7 hbe
       have HBD:=hq7 hbd
       clear hi hj hi4 hj4 e1 e2 e3 e4 hbe hbd
       cases be with
       | false=>
        have hr:=HBAD.out (.inl (of_decide_eq_false HBE.out))
        have HRR:=hq7 hr
        clear hr
        go_wp2
        go_ret2
        exact ⟨by rw [HRR.out,HNN.out,Int.natCast_add];rfl,HS6.out.bel⟩
       | true=>
        cases bd with
        | false=>
         have hr:=HBAD.out (.inr (of_decide_eq_false HBD.out))
         have HRR:=hq7 hr
         clear hr
         go_wp2
         go_ret2
         exact ⟨by rw [HRR.out,HNN.out,Int.natCast_add];rfl,HS6.out.bel⟩
        | true=>
         have HB7:=hq7 (show Gr.bQ ids P r=Gr.aQ r.props by
          rw [HB4.out,if_neg (by decide),if_neg (fun h=>h.elim (fun h=>h (of_decide_eq_true HBE.out)) (fun h=>h (of_decide_eq_true HBD.out)))])
         obtain ⟨E,hE⟩: ∃E,Gr.aQ r.props=E:=⟨_,rfl⟩
         rw [hE] at HB7 HPW
         clear hE
         go_wp2_with fail
         refine (HPW.out w6 HB6.out).mono ?_
         rintro e w7 ⟨rfl,hb7⟩
         have HS7:=hq7 (HS6.out.below hb7)
         clear hb7 d0 d1 d2 d3 d4 a0 a1
         cases E with
         | succ e=>
          have hr:=HST.out (e+1) HB7.out (by omega)
          have HRR:=hq7 hr
          have hne:(((e+1:Nat):Int) !=0)=true:=by rw [bne_iff_ne];omega
          clear hr
          go_wp2
          go_ret2
          exact ⟨by rw [HRR.out,HNN.out,Int.natCast_add];rfl,HS7.out.bel⟩
         | zero=>
          have HMR:=hq7 (HMORE.out HB7.out)
          go_wp2
          go_roundg q
          case measure=>omega
          case rel=>exact ⟨m+1,by rw [HNX.out],int_eq (by omega),by have:=HK.out;omega,HS7.out,HMR.out⟩
    | zero=>
     obtain rfl:rn=m:=by omega
     have hZR: ∀j a,g.ah[j]?=some a→Gr.bQ (g.nodes.map Gr.N.id) (Gr.aj Gr.R.id g.ah j) a=0:=fun j a ha=>HZ.out j a (by have:=(List.getElem?_eq_some_iff.1 ha).1;have:=HRN.out;omega) ha
     have hrest:=Ep HZN.out hZR
     have hNG:Gr.iI g.nodes:=⟨fun j n hn=>Gr.qg.1 (HZN.out j n hn)⟩
     have hRG:Gr.jm (g.nodes.map Gr.N.id) g.ah:=⟨fun j n hn=>Gr.qh.1 (hZR j n hn)⟩
     have h1:=hNG.Aa
     have h2:=hRG.len
     have h3:=Gr.Ac hNG hRG
     have hN1:(fQ 1 g).length≤1073741800:=by rw [nmAll1];unfold Gr.names1;omega
     have hN2:(fQ 2 g).length≤1073741800:=by rw [nmAll2];unfold Gr.names2;rw [List.length_map];omega
     have hN3:(fQ 3 g).length≤1073741800:=by rw [nmAll3];unfold Gr.names3;rw [List.length_map];omega
     have hg:=fun (V:World) (hb:Below w.heap.size w V)=>HG.out.below (hb.mono HBB.out)
     have H1:=hq7 (fun (V:World) (hb:Below w.heap.size w V)=>xq 1 B _ g V (hg V hb) (Nat.le_trans HBB.out hb.size) hN1)
     have H2:=hq7 (fun (V:World) (hb:Below w.heap.size w V)=>xq 2 B _ g V (hg V hb) (Nat.le_trans HBB.out hb.size) hN2)
     have H3:=hq7 (fun (V:World) (hb:Below w.heap.size w V)=>xq 3 B _ g V (hg V hb) (Nat.le_trans HBB.out hb.size) hN3)
     have HW:=hq7 (fun (V:World) (hb:Below w.heap.size w V)=>O4 B _ g V (hg V hb) (Nat.le_trans HBB.out hb.size) (Gr.Ad hNG hRG) (by omega))
     simp only [nmAll1] at H1
     simp only [nmAll2] at H2
     simp only [nmAll3] at H3
     obtain ⟨l1,hl1⟩: ∃n,(Gr.dedup (Gr.names1 g)).length=n:=⟨_,rfl⟩
     obtain ⟨l2,hl2⟩: ∃n,(Gr.dedup (Gr.names2 g)).length=n:=⟨_,rfl⟩
     obtain ⟨l3,hl3⟩: ∃n,(Gr.dedup (Gr.names3 g)).length=n:=⟨_,rfl⟩
     obtain ⟨wt,hwt⟩: ∃n,Gr.weight g=n:=⟨_,rfl⟩
     rw [hl1] at H1 hrest
     rw [hl2] at H2 hrest
     rw [hl3] at H3 hrest
     rw [hwt] at HW hrest
     have HREST:=hq7 hrest
     obtain ⟨LA,hLA⟩: ∃x,jy (Gr.aj Gr.R.id g.ah rn)=x:=⟨_,rfl⟩
     rw [hLA]
     clear hm hrest hNG hRG hZR hl1 hl2 hl3 hwt h1 h2 h3 hN1 hN2 hN3 hg hLA HZ
     go_wp2_with fail
     refine (H1.out wr HRL2.out.bel).mono ?_
     rintro e w2 ⟨A1,d1,rfl,hb⟩
     have HS1:=hq7 (HRL2.out.below hb)
     clear hb c0 c1
     obtain ⟨c0,c1⟩:=cells2 HS1.out.box
     by_cases hq1:200<l1
     ·have t1:decide ((200:Int)<l1)=true:=decide_eq_true (by omega)
      have t1i:(200:Int)<l1:=by omega
      have HCK:=hq7 (show Gr.check g=(66,0) by rw [HREST.out,if_pos (.inl hq1)])
      clear hq1 H1 H2 H3 HW
      go_wp2
      go_ret2
      exact ⟨by rw [HCK.out];rfl,HS1.out.bel⟩
     have t1:decide ((200:Int)<l1)=false:=decide_eq_false (by omega)
     have t1i:(l1:Int)≤200:=by omega
     go_wp2_with fail
     refine (H2.out w2 HS1.out.bel).mono ?_
     rintro e w3 ⟨A2,d2,rfl,hb⟩
     have HS2:=hq7 (HS1.out.below hb)
     clear hb c0 c1
     obtain ⟨c0,c1⟩:=cells2 HS2.out.box
     by_cases hq2:200<l2
     ·have t2:decide ((200:Int)<l2)=true:=decide_eq_true (by omega)
      have t2i:(200:Int)<l2:=by omega
      have HCK:=hq7 (show Gr.check g=(66,0) by rw [HREST.out,if_pos (.inr (.inl hq2))])
      clear hq2 H1 H2 H3 HW
      go_wp2
      go_ret2
      exact ⟨by rw [HCK.out];rfl,HS2.out.bel⟩
     have t2:decide ((200:Int)<l2)=false:=decide_eq_false (by omega)
     have t2i:(l2:Int)≤200:=by omega
     go_wp2_with fail
     refine (H3.out w3 HS2.out.bel).mono ?_
     rintro e w4 ⟨A3,d3,rfl,hb⟩
     have HS3:=hq7 (HS2.out.below hb)
     clear hb c0 c1
     obtain ⟨c0,c1⟩:=cells2 HS3.out.box
     by_cases hq3:200<l3
     ·have t3:decide ((200:Int)<l3)=true:=decide_eq_true (by omega)
      have t3i:(200:Int)<l3:=by omega
      have HCK:=hq7 (show Gr.check g=(66,0) by rw [HREST.out,if_pos (.inr (.inr hq3))])
      clear hq3 H1 H2 H3 HW
      go_wp2
      go_ret2
      exact ⟨by rw [HCK.out];rfl,HS3.out.bel⟩
     have t3:decide ((200:Int)<l3)=false:=decide_eq_false (by omega)
     have t3i:(l3:Int)≤200:=by omega
     go_wp2_with fail
     refine (HW.out w4 HS3.out.bel).mono ?_
     rintro e w5 ⟨rfl,hb⟩
     have HS4:=hq7 (HS3.out.below hb)
     clear hb c0 c1
     by_cases hq4:262144<wt
     ·have t4:decide ((262144:Int)<wt)=true:=decide_eq_true (by omega)
      have t4i:(262144:Int)<wt:=by omega
      have HCK:=hq7 (show Gr.check g=(67,0) by rw [HREST.out,if_neg (by omega),if_pos hq4])
      clear hq4 H1 H2 H3 HW
      go_wp2
      go_ret2
      exact ⟨by rw [HCK.out];rfl,HS4.out.bel⟩
     have t4:decide ((262144:Int)<wt)=false:=decide_eq_false (by omega)
     have t4i:(wt:Int)≤262144:=by omega
     have HCK:=hq7 (show Gr.check g=(0,0) by rw [HREST.out,if_neg (by omega),if_neg hq4])
     clear hq4 H1 H2 H3 HW
     go_wp2
     go_ret2
     exact ⟨by rw [HCK.out];rfl,HS4.out.bel⟩
theorem O9 {g:Gr.G} (h:Gr.Good g):Small g:=by
 have hn: ∀n∈g.nodes,n.labels.length≤8∧n.props.length≤16:=fun n hn=>by
  obtain ⟨_,h1⟩:=h.nodes.mem hn
  exact ⟨h1.labels.len,h1.props.len⟩
 refine ⟨Nat.le_trans h.nodes.len (by decide),Nat.le_trans h.ah.len (by decide),fun n hx=>Nat.le_trans (hn n hx).1 (by decide),fun n hx=>Nat.le_trans (hn n hx).2 (by decide),fun r hr=> ?_⟩
 obtain ⟨_,h1⟩:=h.ah.mem hr
 exact Nat.le_trans h1.props.len (by decide)
theorem Pe {g:Gr.G} (h:Cy.Fine g) (ok:GOk g):Gr.check g=(0,0)∧Cy.jT g=(Cy.print g,0)∧(Cy.print g).length≤8388608∧Cy.parse (Cy.print g)=(g,0):=by
 have h0:(Gr.check g).1=0:=Gr.qj.2 h.good
 have hl:=EH h.good ok
 exact ⟨Gr.JE h0,by unfold Cy.jT;rw [if_pos h0],hl,Cy.J9 h (Nat.le_trans hl (by decide))⟩
theorem GIn.form {W:World} {B:Nat} {u:Value} {g:Gr.G} (h:GIn W B u g) {a b:Nat} (ha:g.nodes.length=a) (hb:g.ah.length=b): ∃A1 c1 A2 c2,u= .agg #[.slice A1 a c1, .slice A2 b c2]:=by
 obtain ⟨A1,c1,A2,c2,e,-,-⟩:=h.ex
 subst ha hb
 exact ⟨A1,c1,A2,c2,e⟩
theorem Pg (s:ByteArray) (w:World) (hs:s.size≤1073741823) (hL:Laid w):
  Calls Tryz.prog 8 #[.string s] w fun e w'=>e= .returned (.bool true)∧Below w.heap.size w w':=by
 have HSP:=hq7 (OB w (fun V hV=>hL.below hV))
 obtain ⟨R,hR⟩: ∃R,Cy.parse s.data.toList=R:=⟨_,rfl⟩
 obtain ⟨g,e0⟩:=R
 have HSZ:=hq7 (Cy.BZ hR)
 have hp:=fun (V:World) (hb:Below w.heap.size w V)=>qR s hs V (fun X hX=>hL.below (hb.trans (hX.mono hb.size)))
 rw [hR] at hp
 have HP:=hq7 hp
 have HL:=hq7 hL
 clear hR hp hL
 go_enter Tryz.func8,Tryz.ntmps8
 go_wp2_with fail
 refine HSP.out.mono ?_
 rintro e w1 ⟨rfl,b1⟩
 have HB1:=hq7 b1
 clear b1 HSP
 go_wp2_with fail
 refine (HP.out w1 HB1.out).mono ?_
 rintro e w2 ⟨u,rfl,hg,b2⟩
 have HOK:=hq7 (show GOk g from HSZ.out.1.ok)
 have hgin:=hg.gin HOK.out
 obtain ⟨nn,hnn⟩: ∃n,g.nodes.length=n:=⟨_,rfl⟩
 obtain ⟨rn,hrn⟩: ∃n,g.ah.length=n:=⟨_,rfl⟩
 obtain ⟨A1,c1,A2,c2,rfl⟩:=hgin.form hnn hrn
 obtain ⟨W3,hW3⟩: ∃W,w2.alloc (.cells #[.slice A1 nn c1, .slice A2 rn c2] 39)=W:=⟨_,rfl⟩
 obtain ⟨gb,hgb⟩: ∃x,w2.heap.size=x:=⟨_,rfl⟩
 have hb3:Below w2.heap.size w2 W3:=hW3▸(Below.refl _ w2).alloc (Nat.le_refl _) _
 have HK3:=hq7 (show Blk W3 gb 39 #[.slice A1 nn c1, .slice A2 rn c2] by rw [←hW3,←hgb];exact Blk.new _ _ _)
 have HG3:=hq7 (show GIn W3 w2.heap.size (.agg #[.slice A1 nn c1, .slice A2 rn c2]) g from hgin.below hb3)
 have HZ3:=hq7 hb3.size
 have HB3:=hq7 ((HB1.out.trans (b2.mono HB1.out.size)).trans (hb3.mono (Nat.le_trans HB1.out.size b2.size)))
 have HW3:=hq7 hW3
 have HGB:=hq7 hgb
 have HNN:=hq7 (And.intro hnn hrn)
 clear hgb hW3 hb3 hnn hrn hgin hg b2
 go_upto_region 4 with fail
 rw [HW3.out,HGB.out]
 clear HW3 HGB
 obtain ⟨c0,c1⟩:=cells2 HK3.out
 by_cases he:e0=0
 ·subst he
  have HR:=hq7 (Pe (HSZ.out.2.1 rfl) HOK.out)
  have HSM:=hq7 (O9 (HSZ.out.2.1 rfl).good)
  have hck:=O8 w2.heap.size _ g W3 HG3.out HZ3.out
  rw [HR.out.1] at hck
  have HCK:=hq7 hck
  clear hck
  go_wp2_with fail
  refine HCK.out.mono ?_
  rintro e w4 ⟨rfl,b4⟩
  have HB4:=hq7 (HB3.out.trans (b4.mono HB3.out.size))
  have HK4:=hq7 (HK3.out.below b4 HK3.out.lt)
  have HG4:=hq7 (HG3.out.below (b4.mono HZ3.out))
  have HZ4:=hq7 (Nat.le_trans HZ3.out b4.size)
  clear b4 c0 c1 HCK
  obtain ⟨c0,c1⟩:=cells2 HK4.out
  have HCP:=hq7 (OH w2.heap.size _ g w4 HG4.out HZ4.out HSM.out)
  go_wp2_with fail
  refine HCP.out.mono ?_
  rintro e w5 ⟨u5,rfl,hg5,b5⟩
  have HB5:=hq7 (HB4.out.trans (b5.mono HB4.out.size))
  have HK5:=hq7 (HK4.out.below b5 HK4.out.lt)
  have HG5:=hq7 (HG4.out.below (b5.mono HZ4.out))
  have HZ5:=hq7 (Nat.le_trans HZ4.out b5.size)
  have hpr:=EJ w5.heap.size u5 g w5 (hg5.gin HOK.out) (Nat.le_refl _) (HL.out.below HB5.out)
  obtain ⟨z,hz⟩: ∃z:ByteArray,(⟨(Cy.print g).toArray⟩:ByteArray)=z:=⟨_,rfl⟩
  rw [HR.out.2.1,hz] at hpr
  have hzd:z.data.toList=Cy.print g:=by rw [←hz]
  have hps:=fun (V:World) (hb:Below w.heap.size w V)=>qR z (by rw [Lib.size_eq,hzd];exact Nat.le_trans HR.out.2.2.1 (by decide)) V (fun X hX=>HL.out.below (hb.trans (hX.mono hb.size)))
  rw [hzd,HR.out.2.2.2] at hps
  have HPR:=hq7 hpr
  have HPS:=hq7 hps
  clear hg5 b5 c0 c1 hpr hps hz hzd HCP
  go_wp2_with fail
  refine HPR.out.mono ?_
  rintro e w6 ⟨rfl,b6⟩
  have HB6:=hq7 (HB5.out.trans (b6.mono HB5.out.size))
  have HK6:=hq7 (HK5.out.below b6 HK5.out.lt)
  have HG6:=hq7 (HG5.out.below (b6.mono HZ5.out))
  have HZ6:=hq7 (Nat.le_trans HZ5.out b6.size)
  clear b6 HPR
  go_wp2_with fail
  refine (HPS.out w6 HB6.out).mono ?_
  rintro e w7 ⟨u7,rfl,hg7,b7⟩
  have hgin:=hg7.gin HOK.out
  obtain ⟨A3,c3,A4,c4,rfl⟩:=hgin.form HNN.out.1 HNN.out.2
  obtain ⟨W8,hW8⟩: ∃W,w7.alloc (.cells #[.slice A3 nn c3, .slice A4 rn c4] 39)=W:=⟨_,rfl⟩
  obtain ⟨gc,hgc⟩: ∃x,w7.heap.size=x:=⟨_,rfl⟩
  have hb8:Below w7.heap.size w7 W8:=hW8▸(Below.refl _ w7).alloc (Nat.le_refl _) _
  have HK8:=hq7 (show Blk W8 gc 39 #[.slice A3 nn c3, .slice A4 rn c4] by rw [←hW8,←hgc];exact Blk.new _ _ _)
  have h68:Below w6.heap.size w6 W8:=b7.trans (hb8.mono b7.size)
  have HK9:=hq7 (HK6.out.below h68 HK6.out.lt)
  have HB8:=hq7 (HB6.out.trans (h68.mono HB6.out.size))
  have HSM2:=hq7 (OD w7.heap.size _ _ g W8 ((HG6.out.below (h68.mono HZ6.out)).more (Nat.le_trans HZ6.out b7.size)) (hgin.below hb8) hb8.size)
  have HW8:=hq7 hW8
  have HGC:=hq7 hgc
  clear hgc hW8 hb8 h68 hgin hg7 b7 HPS
  go_upto_region 13 with fail
  rw [HW8.out,HGC.out]
  clear HW8 HGC
  obtain ⟨c0,c1⟩:=cells2 HK8.out
  obtain ⟨d0,d1⟩:=cells2 HK9.out
  go_wp2_with fail
  refine HSM2.out.mono ?_
  rintro e w9 ⟨rfl,b9⟩
  have HB9:=hq7 (HB8.out.trans (b9.mono HB8.out.size))
  clear b9
  go_wp2
  go_ret
  exact ⟨rfl,HB9.out⟩
 ·have h0:=HSZ.out.2.2 he
  have hn0:nn=0:=by rw [←HNN.out.1,h0];rfl
  have hr0:rn=0:=by rw [←HNN.out.2,h0];rfl
  subst hn0 hr0
  have hne:((e0:Int) !=0)=true:=by rw [bne_iff_ne];omega
  clear h0 he
  go_wp2
  go_ret
  exact ⟨rfl,HB3.out⟩
end Go.Proofs.YtoofbflplhbpbaaGreatDoor
