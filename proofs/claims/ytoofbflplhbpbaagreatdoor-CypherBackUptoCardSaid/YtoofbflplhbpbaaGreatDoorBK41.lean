/- Contracts and plain laws,part 41. -/
import Derived.Test.YtoofbflplhbpbaaGreatDoorBK38
import Derived.Test.YtoofbflplhbpbaaGreatDoorBK40
set_option maxHeartbeats 64000000
set_option maxRecDepth 1000000
set_option linter.all false
namespace Go.Proofs.YtoofbflplhbpbaaGreatDoor
open Go.RowKit
structure Small (g:Gr.G):Prop where
 n:g.nodes.length≤67108864
 r:g.ah.length≤67108864
 l: ∀n∈g.nodes,n.labels.length≤67108864
 np: ∀n∈g.nodes,n.props.length≤67108864
 rp: ∀r∈g.ah,r.props.length≤67108864
theorem OH (B:Nat) (u:Value) (g:Gr.G) (w:World) (h:GIn w B u g) (hB:B≤w.heap.size) (hs:Small g):
  Calls Tryz.prog 19 #[u] w fun e w'=> ∃u',e= .returned u'∧dA w' w.heap.size u' g∧Below w.heap.size w w':=by
 have hok:=h.ok
 obtain ⟨An,cn,Ar,cr,rfl,hN,hR⟩:=h.ex
 obtain ⟨n,hn⟩: ∃n,g.nodes.length=n:=⟨_,rfl⟩
 obtain ⟨m,hm⟩: ∃m,g.ah.length=m:=⟨_,rfl⟩
 have hnl:n≤67108864:=hn▸hs.n
 have hml:m≤67108864:=hm▸hs.r
 rw [hn,hm]
 have HS:=hq7 hs
 have HOK:=hq7 hok
 have HN:=hq7 hN
 have HR:=hq7 hR
 have HLN:=hq7 hn
 have HLM:=hq7 hm
 have HBB:=hq7 hB
 have HC0:=hq7 (show CpG w (.slice An n cn) (.slice Ar m cr) g 0 0 (.slice none 0 0) (.slice none 0 0) (((w.alloc (.cells #[.slice An n cn, .slice Ar m cr] 39)).alloc (.cells #[.slice none 0 0, .slice none 0 0] 39)).alloc (.cells #[.slice none 0 0, .slice none 0 0] 39)) from
  ⟨((Blk.new _ _ _).alloc _).alloc _,by have:=(Blk.new (w.alloc (.cells #[.slice An n cn, .slice Ar m cr] 39)) 39 #[.slice none 0 0, .slice none 0 0]).alloc (.cells #[.slice none 0 0, .slice none 0 0] 39);simpa using this,
   by have:=Blk.new ((w.alloc (.cells #[.slice An n cn, .slice Ar m cr] 39)).alloc (.cells #[.slice none 0 0, .slice none 0 0] 39)) 39 #[.slice none 0 0, .slice none 0 0];simpa using this,
   ⟨[],by simp,by simp,World.ownsRow_nil _ _ _ _⟩,⟨[],by simp,by simp,World.ownsRow_nil _ _ _ _⟩,(((Below.refl _ w).alloc (Nat.le_refl _) _).alloc (by simp) _).alloc (by simp;omega) _⟩)
 clear h hok hN hR hn hm hB hs
 go_enter Tryz.func19,Tryz.ntmps19
 go_upto_region 3 with fail
 obtain ⟨W0,hW0⟩: ∃x,((w.alloc (.cells #[.slice An n cn, .slice Ar m cr] 39)).alloc (.cells #[.slice none 0 0, .slice none 0 0] 39)).alloc (.cells #[.slice none 0 0, .slice none 0 0] 39)=x:=⟨_,rfl⟩
 rw [hW0] at HC0⊢
 clear hW0
 go_loopg [4] n (fun kx s4 wr=> ∃(k:Nat) (A':Option Addr) (c':Nat),s4= .int .i64 k∧k+kx=n∧CpG w (.slice An n cn) (.slice Ar m cr) g k 0 (.slice A' k c') (.slice none 0 0) wr)
 case atStart=>exact ⟨0,_,_,rfl,by omega,HC0.out⟩
 case round=>
  obtain ⟨k,A',c',rfl,hk,hc⟩:=hrel
  have HC:=hq7 hc
  obtain ⟨b0,b1⟩:=cells2 hc.box
  have o0:wr.cell? ⟨w.heap.size+1+1,0,none⟩=some (.slice A' k c'):=hc.out.cell 0
  clear HC0 hc
  cases gk with
  | zero=>
   obtain rfl:k=n:=by omega
   have HC2:=hq7 HC.out
   clear hk HC o0
   go_wp2_with fail
   go_loopg [6] m (fun kx s6 wq=> ∃(j:Nat) (A2:Option Addr) (c2:Nat),s6= .int .i64 j∧j+kx=m∧CpG w (.slice An k cn) (.slice Ar m cr) g k j (.slice A' k c') (.slice A2 j c2) wq)
   case atStart=>exact ⟨0,_,_,rfl,by omega,HC2.out⟩
   case round=>
    obtain ⟨j,A2,c2,rfl,hk,hc⟩:=hrel
    have HC:=hq7 hc
    obtain ⟨b0,b1⟩:=cells2 hc.box
    obtain ⟨o0,o1⟩:=cells2 (show Blk wr (w.heap.size+1+1) _ _ from hc.out)
    clear HC2 hc
    cases gk with
    | zero=>
     obtain rfl:j=m:=by omega
     have hres:=HC.out.res
     obtain ⟨q0,q1⟩:=cells2 hres
     have f0:=hres.frozen 0
     have f1:=hres.frozen 1
     have hgo:dA wr w.heap.size (.agg #[.slice A' k c', .slice A2 j c2]) g:=by
      obtain ⟨ln,x1,x2,x3⟩:=HC.out.nx
      obtain ⟨lr,y1,y2,y3⟩:=HC.out.rx
      exact ⟨_,_,ln,lr,rfl,by rw [x1,←HLN.out,List.take_length],x2,by rw [HLN.out];exact x3,by rw [y1,←HLM.out,List.take_length],y2,by rw [HLM.out];exact y3⟩
     have k4:=Kt.cell (base:=w.heap.size) hres (by omega) 0 (.slice A' k c')
     have hr4:=hres.ay 0 (.slice A' k c')
     have k5:=Kt.cell (base:=w.heap.size) hr4 (by omega) 1 (.slice A2 j c2)
     have k6:=k4.trans k5
     have HF:=hq7 (And.intro (hgo.kt k6 (by decide) (by decide) (by decide) (by decide) (by decide)) (And.intro (Blk.cast (hr4.ay 1 (.slice A2 j c2)) (by simp):Blk _ _ _ #[.slice A' k c', .slice A2 j c2]) (HC.out.bel.trans k6.bel)))
     clear hres hgo k4 hr4 k5 k6
     go_wp2_with fail
     refine D9 rfl (by simp) HF.out.2.1 ⟨_,rfl,HF.out.1,HF.out.2.2⟩
    | succ kq=>
     have hkn:j<m:=by omega
     have hknI:(j:Int)<m:=by omega
     have pk:(0:Int)≤(j:Int):=by omega
     have tk:((j:Int)).toNat=j:=by omega
     obtain ⟨p,hp⟩: ∃p,g.ah[j]?=some p:=⟨_,List.getElem?_eq_getElem (by rw [HLM.out];exact hkn)⟩
     have hbw:=HC.out.bel
     have hsz:=hbw.size
     have hBw:=hbw.mono HBB.out
     obtain ⟨b,o,cs,rfl,hlt,hnc,hl3,hcell⟩:=(HR.out.below hBw (bV.below hBw)) j p hp
     obtain ⟨Ap,cp,rfl,rp⟩:=hnc
     have p0:=hcell 0 _ rfl
     have p1:=hcell 1 _ rfl
     have p2:=hcell 2 _ rfl
     have p3:=hcell 3 _ rfl
     have p4:=hcell 4 _ rfl
     rw [Nat.add_zero] at p0
     obtain ⟨pn,hpn⟩: ∃x,p.props.length=x:=⟨_,rfl⟩
     obtain ⟨zt,hzt⟩: ∃z:ByteArray,(⟨p.type.toArray⟩:ByteArray)=z:=⟨_,rfl⟩
     have e0:ST p.type= .string zt:=by rw [←hzt];rfl
     rw [e0] at p1
     rw [hpn] at p4
     obtain ⟨W5,hW5⟩: ∃x,wr.alloc (.cells #[.int .i64 p.id, .string zt, .int .i64 p.src, .int .i64 p.dst, .slice Ap pn cp] 63)=x:=⟨_,rfl⟩
     obtain ⟨nb,hnb⟩: ∃x,wr.heap.size=x:=⟨_,rfl⟩
     have hb5:Below wr.heap.size wr W5:=hW5▸(Below.refl _ wr).alloc (Nat.le_refl _) _
     have hz5:w.heap.size≤W5.heap.size:=Nat.le_trans hsz hb5.size
     have hk5:Blk W5 nb 63 #[.int .i64 p.id, .string zt, .int .i64 p.src, .int .i64 p.dst, .slice Ap pn cp]:=by rw [←hW5,←hnb];exact Blk.new _ _ _
     have hBz:B≤W5.heap.size:=Nat.le_trans HBB.out hz5
     have HC5:=hq7 (HC.out.below hb5)
     have HNE:=hq7 (show some nb≠(Value.slice A2 j c2).ownBlock from fun e=>by
      obtain ⟨_,_,_,hr⟩:=HC.out.rx
      have:=(World.ownsRow.lt hr nb e.symm).2
      omega)
     have HBD:=hq7 (show Below W5.heap.size W5 W5.drew from (Below.refl _ W5).drew)
     have HCP:=hq7 (EO B Ap cp pn p.props W5.drew ((rp.below (hb5.mono (Nat.le_trans HBB.out hsz)) (aB.below (hb5.mono (Nat.le_trans HBB.out hsz)))).below (HBD.out.mono hBz) (aB.below (HBD.out.mono hBz))) hpn (HOK.out.rs p (List.mem_of_getElem? hp)).ps (Nat.le_trans hBz HBD.out.size) (by rw [←hpn];exact HS.out.rp p (List.mem_of_getElem? hp)))
     have HKK:=hq7 (fun (X:World) (h:Blk X nb 63 #[.int .i64 p.id, .string zt, .int .i64 p.src, .int .i64 p.dst, .slice Ap pn cp])=>cells5 h)
     have HOO:=hq7 (fun (X:World) (hb:Below W5.heap.size W5 X)=>show X.cell? ⟨w.heap.size+1+1,1,none⟩=some (.slice A2 j c2) from (HC5.out.below hb).out.cell 1)
     have HK5:=hq7 hk5
     have hl5:j<536870912:=by omega
     have e1:W5.cell? ⟨w.heap.size+1+1,1,none⟩=some (.slice A2 j c2):=HOO.out _ (Below.refl _ W5)
     obtain ⟨d0,d1,d2,d3,d4⟩:=cells5 hk5
     have HW5:=hq7 hW5
     have HNB:=hq7 hnb
     have HP:=hq7 hp
     have HLP:=hq7 (And.intro e0 hpn)
     have HKQ:=hq7 hk
     have HZ5:=hq7 hz5
     clear hcell hW5 hl3 hb5 hk5 rp hp hpn hzt e0 hBz hbw hsz hBw hlt hnb hk hz5
     go_upto_region 11 with fail
     rw [HW5.out]
     rw [HNB.out]
     clear p0 p1 p2 p3 p4 b0 b1 o0 o1 HC
     have HMK:=hq7 (fun (X:World) (h:Blk X nb 63 #[.int .i64 p.id, .string zt, .int .i64 p.src, .int .i64 p.dst, .slice Ap pn cp]) (ho:X.cell? ⟨w.heap.size+1+1,1,none⟩=some (.slice A2 j c2))=>show X.cell? ⟨nb,0,none⟩=some (.int .i64 p.id)∧X.cell? ⟨nb,1,none⟩=some (.string zt)∧X.cell? ⟨nb,2,none⟩=some (.int .i64 p.src)∧X.cell? ⟨nb,3,none⟩=some (.int .i64 p.dst)∧X.cell? ⟨nb,4,none⟩=some (.slice Ap pn cp)∧X.cell? ⟨w.heap.size+1+1,1,none⟩=some (.slice A2 j c2) from by obtain ⟨q0,q1,q2,q3,q4⟩:=cells5 h;exact ⟨q0,q1,q2,q3,q4,ho⟩)
     refine Pv 17 (fun w'=>w'.cell? ⟨nb,0,none⟩=some (.int .i64 p.id)∧w'.cell? ⟨nb,1,none⟩=some (.string zt)∧w'.cell? ⟨nb,2,none⟩=some (.int .i64 p.src)∧w'.cell? ⟨nb,3,none⟩=some (.int .i64 p.dst)∧w'.cell? ⟨nb,4,none⟩=some (.slice Ap pn cp)∧w'.cell? ⟨w.heap.size+1+1,1,none⟩=some (.slice A2 j c2)) (by kernel_rfl) (by kernel_rfl) (HMK.out _ (HK5.out.below HBD.out HK5.out.lt) (HOO.out _ HBD.out)) (fun hHeld=> ?_)
     simp only [List.take_succ_cons,List.take_zero]
     refine wpAnyH_take (i:=0) (v:= ?_) (by simp only [List.getElem?_toArray,List.getElem?_cons_succ,List.getElem?_cons_zero];rfl) (by kernel_rfl) (by kernel_rfl) (by kernel_rfl) (by intro _ _ _ h;exact h) (Or.inl ⟨by rfl, ?_⟩) (by assumption) ?_
     rotate_left
     ·(intro wq hSw;(try dsimp only at hSw);(try go_simp);(try with_reducible rfl))
     (try simp only [Act.put,List.setIfInBounds_toArray,List.set_cons_zero,List.set_cons_succ])
     refine wpAnyH_take (i:=1) (v:= ?_) (by simp only [List.getElem?_toArray,List.getElem?_cons_succ,List.getElem?_cons_zero];rfl) (by kernel_rfl) (by kernel_rfl) (by kernel_rfl) (by intro _ _ _ h;exact h) (Or.inl ⟨by rfl, ?_⟩) (by assumption) ?_
     rotate_left
     ·(intro wq hSw;(try dsimp only at hSw);(try go_simp);(try with_reducible rfl))
     (try simp only [Act.put,List.setIfInBounds_toArray,List.set_cons_zero,List.set_cons_succ])
     refine wpAnyH_take (i:=2) (v:= ?_) (by simp only [List.getElem?_toArray,List.getElem?_cons_succ,List.getElem?_cons_zero];rfl) (by kernel_rfl) (by kernel_rfl) (by kernel_rfl) (by intro _ _ _ h;exact h) (Or.inl ⟨by rfl, ?_⟩) (by assumption) ?_
     rotate_left
     ·(intro wq hSw;(try dsimp only at hSw);(try go_simp);(try with_reducible rfl))
     (try simp only [Act.put,List.setIfInBounds_toArray,List.set_cons_zero,List.set_cons_succ])
     refine wpAnyH_take (i:=3) (v:= ?_) (by simp only [List.getElem?_toArray,List.getElem?_cons_succ,List.getElem?_cons_zero];rfl) (by kernel_rfl) (by kernel_rfl) (by kernel_rfl) (by intro _ _ _ h;exact h) (Or.inl ⟨by rfl, ?_⟩) (by assumption) ?_
     rotate_left
     ·(intro wq hSw;(try dsimp only at hSw);(try go_simp);(try with_reducible rfl))
     (try simp only [Act.put,List.setIfInBounds_toArray,List.set_cons_zero,List.set_cons_succ])
     refine wpAnyH_take (i:=4) (v:= ?_) (by simp only [List.getElem?_toArray,List.getElem?_cons_succ,List.getElem?_cons_zero];rfl) (by kernel_rfl) (by kernel_rfl) (by kernel_rfl) (by intro _ _ _ h;exact h) (Or.inl ⟨by rfl, ?_⟩) (by assumption) ?_
     rotate_left
     ·(intro wq hSw;(try dsimp only at hSw);(try go_simp);(try with_reducible rfl))
     (try simp only [Act.put,List.setIfInBounds_toArray,List.set_cons_zero,List.set_cons_succ])
     refine wpAnyH_take (i:=5) (v:= ?_) (by simp only [List.getElem?_toArray,List.getElem?_cons_succ,List.getElem?_cons_zero];rfl) (by kernel_rfl) (by kernel_rfl) (by kernel_rfl) (by intro _ _ _ h;exact h) (Or.inl ⟨by rfl, ?_⟩) (by assumption) ?_
     rotate_left
     ·(intro wq hSw;(try dsimp only at hSw);(try go_simp);(try with_reducible rfl))
     (try simp only [Act.put,List.setIfInBounds_toArray,List.set_cons_zero,List.set_cons_succ])
     refine wpAnyH_take (i:=6) (v:= ?_) (by simp only [List.getElem?_toArray,List.getElem?_cons_succ,List.getElem?_cons_zero];rfl) (by kernel_rfl) (by kernel_rfl) (by kernel_rfl) (by intro _ _ _ h;exact h) (Or.inl ⟨by rfl, ?_⟩) (by assumption) ?_
     rotate_left
     ·(intro wq hSw;(try dsimp only at hSw);(try go_simp);(try with_reducible rfl))
     (try simp only [Act.put,List.setIfInBounds_toArray,List.set_cons_zero,List.set_cons_succ])
     refine wpAnyH_take (i:=7) (v:= ?_) (by simp only [List.getElem?_toArray,List.getElem?_cons_succ,List.getElem?_cons_zero];rfl) (by kernel_rfl) (by kernel_rfl) (by kernel_rfl) (by intro _ _ _ h;exact h) (Or.inl ⟨by rfl, ?_⟩) (by assumption) ?_
     rotate_left
     ·(intro wq hSw;(try dsimp only at hSw);(try go_simp);(try with_reducible rfl))
     (try simp only [Act.put,List.setIfInBounds_toArray,List.set_cons_zero,List.set_cons_succ])
     refine wpAnyH_take (i:=8) (v:= ?_) (by simp only [List.getElem?_toArray,List.getElem?_cons_succ,List.getElem?_cons_zero];rfl) (by kernel_rfl) (by kernel_rfl) (by kernel_rfl) (by intro _ _ _ h;exact h) (Or.inl ⟨by rfl, ?_⟩) (by assumption) ?_
     rotate_left
     ·(intro wq hSw;(try dsimp only at hSw);(try go_simp);(try with_reducible rfl))
     (try simp only [Act.put,List.setIfInBounds_toArray,List.set_cons_zero,List.set_cons_succ])
     refine wpAnyH_take (i:=9) (v:= ?_) (by simp only [List.getElem?_toArray,List.getElem?_cons_succ,List.getElem?_cons_zero];rfl) (by kernel_rfl) (by kernel_rfl) (by kernel_rfl) (by intro _ _ _ h;exact h) (Or.inl ⟨by rfl, ?_⟩) (by assumption) ?_
     rotate_left
     ·(intro wq hSw;(try dsimp only at hSw);(try go_simp);(try with_reducible rfl))
     (try simp only [Act.put,List.setIfInBounds_toArray,List.set_cons_zero,List.set_cons_succ])
     refine wpAnyH_take (i:=10) (v:= ?_) (by simp only [List.getElem?_toArray,List.getElem?_cons_succ,List.getElem?_cons_zero];rfl) (by kernel_rfl) (by kernel_rfl) (by kernel_rfl) (by intro _ _ _ h;exact h) (Or.inl ⟨by rfl, ?_⟩) (by assumption) ?_
     rotate_left
     ·(intro wq hSw;(try dsimp only at hSw);(try go_simp);(try with_reducible rfl))
     (try simp only [Act.put,List.setIfInBounds_toArray,List.set_cons_zero,List.set_cons_succ])
     refine wpAnyH_take (i:=11) (v:= ?_) (by simp only [List.getElem?_toArray,List.getElem?_cons_succ,List.getElem?_cons_zero];rfl) (by kernel_rfl) (by kernel_rfl) (by kernel_rfl) (by intro _ _ _ h;exact h) (Or.inl ⟨by rfl, ?_⟩) (by assumption) ?_
     rotate_left
     ·(intro wq hSw;(try dsimp only at hSw);(try go_simp);(try with_reducible rfl))
     (try simp only [Act.put,List.setIfInBounds_toArray,List.set_cons_zero,List.set_cons_succ])
     clear hHeld
     refine wpAnyH_ready (rs:= [12]) (by kernel_rfl) (by simp) (AllReadyH.cons (by simp only [List.getElem?_toArray,List.getElem?_cons_succ,List.getElem?_cons_zero];rfl) (fun K hK=> ?_) AllReadyH.nil)
     go_simp
     go_at_call 40
     refine HCP.out.mono ?_
     rintro e w7 ⟨v7,rfl,hp7,hb7⟩
     have hqv:=HBD.out.trans (hb7.mono HBD.out.size)
     have hk7:=HK5.out.below hqv HK5.out.lt
     have hv7:=hp7.form
     obtain ⟨A7,c7,rfl⟩:=hv7
     rw [HLP.out.2] at hp7
     have hn7:dw w7 w.heap.size (p, [.int .i64 p.id, .string zt, .int .i64 p.src, .int .i64 p.dst, .slice A7 pn c7]):=⟨_,by rw [HLP.out.1],hp7.base (Nat.le_trans HZ5.out HBD.out.size)⟩
     have hx7:=(HC5.out.below hqv).rel HP.out hn7
     obtain ⟨xs7,hr7,hs7⟩:=hx7
     have HR7:=hq7 hr7
     have HS7:=hq7 hs7
     have e4:=HOO.out _ hqv
     have e5:=HOO.out _ (hqv.alloc hqv.size (.cells #[.int .i64 p.id, .string zt, .int .i64 p.src, .int .i64 p.dst, .slice A7 pn c7] 63))
     have hz7:=Nat.le_trans HZ5.out hqv.size
     clear hn7 hr7 hs7 hp7
     rw [HLP.out.2]
     go_wp2_with fail
     refine hK.out _ _ (HMK.out _ hk7 e4) (fun hHeld=> ?_)
     clear hK K
     (try simp only [Act.put,List.setIfInBounds_toArray,List.set_cons_zero,List.set_cons_succ])
     refine wpAnyH_take (i:=13) (v:= ?_) (by simp only [List.getElem?_toArray,List.getElem?_cons_succ,List.getElem?_cons_zero];rfl) (by kernel_rfl) (by kernel_rfl) (by kernel_rfl) (by intro _ _ _ h;exact h) (Or.inl ⟨by rfl, ?_⟩) (by assumption) ?_
     rotate_left
     ·(intro wq hSw;(try dsimp only at hSw);(try go_simp);(try with_reducible rfl))
     (try simp only [Act.put,List.setIfInBounds_toArray,List.set_cons_zero,List.set_cons_succ])
     clear hHeld
     refine wpAnyH_ready (rs:= [14]) (by kernel_rfl) (by simp) (AllReadyH.cons (by simp only [List.getElem?_toArray,List.getElem?_cons_succ,List.getElem?_cons_zero];rfl) (fun K hK=> ?_) AllReadyH.nil)
     go_simp
     refine hK.out _ _ (HMK.out _ (hk7.alloc _) e5) (fun hHeld=> ?_)
     clear hK K
     (try simp only [Act.put,List.setIfInBounds_toArray,List.set_cons_zero,List.set_cons_succ])
     clear hHeld
     refine wpAnyH_ready (rs:= [15]) (by kernel_rfl) (by simp) (AllReadyH.cons (by simp only [List.getElem?_toArray,List.getElem?_cons_succ,List.getElem?_cons_zero];rfl) (fun K hK=> ?_) AllReadyH.nil)
     refine lZ rfl (.tmp 49) (.tmp 62) 37 63 (.agg #[.int .i64 0, .string ⟨#[]⟩, .int .i64 0, .int .i64 0, .slice none 0 0]) 5 64 Tryz.underlying37 DF rfl (by decide) (by decide) rfl w.heap.size (.slice A2 j c2) j xs7 w7 rfl HR7.out [.int .i64 p.id, .string zt, .int .i64 p.src, .int .i64 p.dst, .slice A7 pn c7] _ rfl rfl (by simp [Value.oneCell']) rfl hl5 hz7 ?_
     intro v9 w9 ho9 hg9 hw9 hb9
     have hf9:=HS7.out w9 v9 hg9 ho9
     have hob:=hf9.1
     have HC9:=hq7 hf9.2
     have hk9:=hk7.grown hg9 HNE.out
     have hv9:=ak ho9
     obtain ⟨A9,c9,rfl⟩:=hv9
     have f0:w9.cell? ⟨w.heap.size+1+1,1,none⟩=some (.slice A2 j c2):=hob.cell 1
     have f1:w9.frozen? ⟨w.heap.size+1+1,1,none⟩=false:=hob.frozen 1
     have hks:=hk9.grown (grownBy_set w9 ⟨w.heap.size+2,1,none⟩ (.slice A9 (j+1) c9)) (fun e=>by have e':=Option.some.inj e;have hh:=(hk9.ne_ hob (by decide));exact hh e')
     refine hK.out _ _ (HMK.out _ hk9 f0) (fun hHeld=> ?_)
     clear hK K
     (try simp only [Act.put,List.setIfInBounds_toArray,List.set_cons_zero,List.set_cons_succ])
     refine wpAnyH_take (i:=16) (v:= ?_) (by simp only [List.getElem?_toArray,List.getElem?_cons_succ,List.getElem?_cons_zero];rfl) (by kernel_rfl) (by kernel_rfl) (by kernel_rfl) (by intro _ _ _ h;exact h) (Or.inl ⟨by rfl, ?_⟩) (by assumption) ?_
     rotate_left
     ·(intro wq hSw;(try dsimp only at hSw);(try go_simp);(try with_reducible rfl))
     (try simp only [Act.put,List.setIfInBounds_toArray,List.set_cons_zero,List.set_cons_succ])
     clear hHeld
     refine wpAnyH_done (by kernel_rfl) ?_ _
     refine Px (by simp only [List.getElem?_toArray,List.getElem?_cons_succ,List.getElem?_cons_zero];rfl) (fun K hK=> ?_)
     go_simp
     refine hK.out _ _ ?_
     clear hK K
     all_goals
      clear f0 f1 hob hf9 hks hk9 hk7 hqv hb7 hb9 hw9 ho9 hg9 hz7 e4 e5 e1 HKK HOO HCP HBD HR7 HS7
      go_wp2_with fail
      go_roundg kq
      case measure=>omega
      case rel=>exact ⟨j+1,A9,c9,rfl,by have:=HKQ.out;omega,HC9.out⟩
  | succ kq=>
   have hkn:k<n:=by omega
   have hknI:(k:Int)<n:=by omega
   have pk:(0:Int)≤(k:Int):=by omega
   have tk:((k:Int)).toNat=k:=by omega
   obtain ⟨p,hp⟩: ∃p,g.nodes[k]?=some p:=⟨_,List.getElem?_eq_getElem (by rw [HLN.out];exact hkn)⟩
   have hbw:=HC.out.bel
   have hsz:=hbw.size
   have hBw:=hbw.mono HBB.out
   obtain ⟨b,o,cs,rfl,hlt,hnc,hl3,hcell⟩:=(HN.out.below hBw (bU.below hBw)) k p hp
   obtain ⟨Al,cl,Ap,cp,rfl,ra,rp⟩:=hnc
   have p0:=hcell 0 _ rfl
   have p1:=hcell 1 _ rfl
   have p2:=hcell 2 _ rfl
   rw [Nat.add_zero] at p0
   obtain ⟨ln,hln⟩: ∃x,p.labels.length=x:=⟨_,rfl⟩
   obtain ⟨pn,hpn⟩: ∃x,p.props.length=x:=⟨_,rfl⟩
   rw [hln] at p1 ra
   rw [hpn] at p2
   obtain ⟨W5,hW5⟩: ∃x,wr.alloc (.cells #[.int .i64 p.id, .slice Al ln cl, .slice Ap pn cp] 59)=x:=⟨_,rfl⟩
   obtain ⟨nb,hnb⟩: ∃x,wr.heap.size=x:=⟨_,rfl⟩
   have hb5:Below wr.heap.size wr W5:=hW5▸(Below.refl _ wr).alloc (Nat.le_refl _) _
   have hz5:w.heap.size≤W5.heap.size:=Nat.le_trans hsz hb5.size
   have hk5:Blk W5 nb 59 #[.int .i64 p.id, .slice Al ln cl, .slice Ap pn cp]:=by rw [←hW5,←hnb];exact Blk.new _ _ _
   have hBz:B≤W5.heap.size:=Nat.le_trans HBB.out hz5
   have HC5:=hq7 (HC.out.below hb5)
   have HNE:=hq7 (show some nb≠(Value.slice A' k c').ownBlock from fun e=>by
    obtain ⟨_,_,_,hr⟩:=HC.out.nx
    have:=(World.ownsRow.lt hr nb e.symm).2
    omega)
   have HBA:=hq7 (show Below W5.heap.size W5 (W5.drew.alloc (.cells #[] 9)) from ((Below.refl _ W5).drew).alloc (Nat.le_refl _) _)
   have HEA:=hq7 (show (W5.drew.alloc (.cells #[] 9)).ownsRow W5.heap.size 9 1 (.slice (some ⟨W5.heap.size,0,none⟩) 0 0) 0 [] from gZ W5.drew 9 1)
   have HRA:=hq7 ((ra.below (hb5.mono (Nat.le_trans HBB.out hsz))).below (HBA.out.mono hBz))
   have HCP:=hq7 (fun (X:World) (hb:Below W5.heap.size W5 X)=>EO B Ap cp pn p.props X ((rp.below (hb5.mono (Nat.le_trans HBB.out hsz)) (aB.below (hb5.mono (Nat.le_trans HBB.out hsz)))).below (hb.mono hBz) (aB.below (hb.mono hBz))) hpn (HOK.out.ns p (List.mem_of_getElem? hp)).ps (Nat.le_trans hBz hb.size) (by rw [←hpn];exact HS.out.np p (List.mem_of_getElem? hp)))
   have HKK:=hq7 (fun (X:World) (h:Blk X nb 59 #[.int .i64 p.id, .slice Al ln cl, .slice Ap pn cp])=>cells3 h)
   have HOO:=hq7 (fun (X:World) (hb:Below W5.heap.size W5 X)=>show X.cell? ⟨w.heap.size+1+1,0,none⟩=some (.slice A' k c') from (HC5.out.below hb).out.cell 0)
   have HK5:=hq7 hk5
   have hl8:ln≤67108864:=by rw [←hln];exact HS.out.l p (List.mem_of_getElem? hp)
   have hl5:k<536870912:=by omega
   have e1:W5.cell? ⟨w.heap.size+1+1,0,none⟩=some (.slice A' k c'):=HOO.out _ (Below.refl _ W5)
   have e2:(W5.alloc (.cells #[] 9)).cell? ⟨w.heap.size+1+1,0,none⟩=some (.slice A' k c'):=HOO.out _ ((Below.refl _ W5).alloc (Nat.le_refl _) _)
   obtain ⟨d0,d1,d2⟩:=cells3 hk5
   have HW5:=hq7 hW5
   have HNB:=hq7 hnb
   have HP:=hq7 hp
   have HLP:=hq7 (And.intro hln hpn)
   have HKQ:=hq7 hk
   have HZ5:=hq7 (And.intro hz5 (show W5.heap.size≤(W5.drew.alloc (.cells #[] 9)).heap.size from HBA.out.size))
   clear hcell hW5 hl3 hb5 hk5 ra rp hp hln hpn hBz hbw hsz hBw hlt hnb hk hz5
   go_upto_region 6 with fail
   rw [HW5.out]
   rw [HNB.out]
   clear p0 p1 p2 b0 b1 o0 HC
   have HMK:=hq7 (fun (X:World) (h:Blk X nb 59 #[.int .i64 p.id, .slice Al ln cl, .slice Ap pn cp]) (ho:X.cell? ⟨w.heap.size+1+1,0,none⟩=some (.slice A' k c'))=>show X.cell? ⟨nb,0,none⟩=some (.int .i64 p.id)∧X.cell? ⟨nb,1,none⟩=some (.slice Al ln cl)∧X.cell? ⟨nb,2,none⟩=some (.slice Ap pn cp)∧X.cell? ⟨w.heap.size+1+1,0,none⟩=some (.slice A' k c') from by obtain ⟨q0,q1,q2⟩:=cells3 h;exact ⟨q0,q1,q2,ho⟩)
   refine Pv 15 (fun w'=>w'.cell? ⟨nb,0,none⟩=some (.int .i64 p.id)∧w'.cell? ⟨nb,1,none⟩=some (.slice Al ln cl)∧w'.cell? ⟨nb,2,none⟩=some (.slice Ap pn cp)∧w'.cell? ⟨w.heap.size+1+1,0,none⟩=some (.slice A' k c')) (by kernel_rfl) (by kernel_rfl) (HMK.out _ (HK5.out.below ((Below.refl W5.heap.size W5).drew) HK5.out.lt) (HOO.out _ ((Below.refl W5.heap.size W5).drew))) (fun hHeld=> ?_)
   simp only [List.take_succ_cons,List.take_zero]
   refine wpAnyH_take (i:=0) (v:= ?_) (by simp only [List.getElem?_toArray,List.getElem?_cons_succ,List.getElem?_cons_zero];rfl) (by kernel_rfl) (by kernel_rfl) (by kernel_rfl) (by intro _ _ _ h;exact h) (Or.inl ⟨by rfl, ?_⟩) (by assumption) ?_
   rotate_left
   ·(intro wq hSw;(try dsimp only at hSw);(try go_simp);(try with_reducible rfl))
   (try simp only [Act.put,List.setIfInBounds_toArray,List.set_cons_zero,List.set_cons_succ])
   refine wpAnyH_take (i:=1) (v:= ?_) (by simp only [List.getElem?_toArray,List.getElem?_cons_succ,List.getElem?_cons_zero];rfl) (by kernel_rfl) (by kernel_rfl) (by kernel_rfl) (by intro _ _ _ h;exact h) (Or.inl ⟨by rfl, ?_⟩) (by assumption) ?_
   rotate_left
   ·(intro wq hSw;(try dsimp only at hSw);(try go_simp);(try with_reducible rfl))
   (try simp only [Act.put,List.setIfInBounds_toArray,List.set_cons_zero,List.set_cons_succ])
   refine wpAnyH_take (i:=2) (v:= ?_) (by simp only [List.getElem?_toArray,List.getElem?_cons_succ,List.getElem?_cons_zero];rfl) (by kernel_rfl) (by kernel_rfl) (by kernel_rfl) (by intro _ _ _ h;exact h) (Or.inl ⟨by rfl, ?_⟩) (by assumption) ?_
   rotate_left
   ·(intro wq hSw;(try dsimp only at hSw);(try go_simp);(try with_reducible rfl))
   (try simp only [Act.put,List.setIfInBounds_toArray,List.set_cons_zero,List.set_cons_succ])
   refine wpAnyH_take (i:=3) (v:= ?_) (by simp only [List.getElem?_toArray,List.getElem?_cons_succ,List.getElem?_cons_zero];rfl) (by kernel_rfl) (by kernel_rfl) (by kernel_rfl) (by intro _ _ _ h;exact h) (Or.inl ⟨by rfl, ?_⟩) (by assumption) ?_
   rotate_left
   ·(intro wq hSw;(try dsimp only at hSw);(try go_simp);(try with_reducible rfl))
   (try simp only [Act.put,List.setIfInBounds_toArray,List.set_cons_zero,List.set_cons_succ])
   refine wpAnyH_take (i:=5) (v:= ?_) (by simp only [List.getElem?_toArray,List.getElem?_cons_succ,List.getElem?_cons_zero];rfl) (by kernel_rfl) (by kernel_rfl) (by kernel_rfl) (by intro _ _ _ h;exact h) (Or.inl ⟨by rfl, ?_⟩) (by assumption) ?_
   rotate_left
   ·(intro wq hSw;(try dsimp only at hSw);(try go_simp);(try with_reducible rfl))
   (try simp only [Act.put,List.setIfInBounds_toArray,List.set_cons_zero,List.set_cons_succ])
   refine wpAnyH_take (i:=6) (v:= ?_) (by simp only [List.getElem?_toArray,List.getElem?_cons_succ,List.getElem?_cons_zero];rfl) (by kernel_rfl) (by kernel_rfl) (by kernel_rfl) (by intro _ _ _ h;exact h) (Or.inl ⟨by rfl, ?_⟩) (by assumption) ?_
   rotate_left
   ·(intro wq hSw;(try dsimp only at hSw);(try go_simp);(try with_reducible rfl))
   (try simp only [Act.put,List.setIfInBounds_toArray,List.set_cons_zero,List.set_cons_succ])
   refine wpAnyH_take (i:=8) (v:= ?_) (by simp only [List.getElem?_toArray,List.getElem?_cons_succ,List.getElem?_cons_zero];rfl) (by kernel_rfl) (by kernel_rfl) (by kernel_rfl) (by intro _ _ _ h;exact h) (Or.inl ⟨by rfl, ?_⟩) (by assumption) ?_
   rotate_left
   ·(intro wq hSw;(try dsimp only at hSw);(try go_simp);(try with_reducible rfl))
   (try simp only [Act.put,List.setIfInBounds_toArray,List.set_cons_zero,List.set_cons_succ])
   refine wpAnyH_take (i:=9) (v:= ?_) (by simp only [List.getElem?_toArray,List.getElem?_cons_succ,List.getElem?_cons_zero];rfl) (by kernel_rfl) (by kernel_rfl) (by kernel_rfl) (by intro _ _ _ h;exact h) (Or.inl ⟨by rfl, ?_⟩) (by assumption) ?_
   rotate_left
   ·(intro wq hSw;(try dsimp only at hSw);(try go_simp);(try with_reducible rfl))
   (try simp only [Act.put,List.setIfInBounds_toArray,List.set_cons_zero,List.set_cons_succ])
   clear hHeld
   refine wpAnyH_ready (rs:= [4]) (by kernel_rfl) (by simp) (AllReadyH.cons (by simp only [List.getElem?_toArray,List.getElem?_cons_succ,List.getElem?_cons_zero];rfl) (fun K hK=> ?_) AllReadyH.nil)
   go_simp
   refine hK.out _ _ (HMK.out _ (HK5.out.below HBA.out HK5.out.lt) (HOO.out _ HBA.out)) (fun hHeld=> ?_)
   clear hK K
   (try simp only [Act.put,List.setIfInBounds_toArray,List.set_cons_zero,List.set_cons_succ])
   clear hHeld
   refine wpAnyH_ready (rs:= [7]) (by kernel_rfl) (by simp) (AllReadyH.cons (by simp only [List.getElem?_toArray,List.getElem?_cons_succ,List.getElem?_cons_zero];rfl) (fun K hK=> ?_) AllReadyH.nil)
   refine OG rfl (.tmp 25) (.tmp 27) rfl W5.heap.size (W5.drew.alloc (.cells #[] 9)) rfl HEA.out B Al ln cl p.labels rfl HRA.out hl8 HZ5.out.2 ?_
   intro A6 c6 w6 ho6 hg6
   have hq6:Below W5.heap.size W5 w6:=HBA.out.grown hg6 HZ5.out.2 (fun j e=>by cases e;exact Nat.le_refl _)
   have hk6:=HK5.out.below hq6 HK5.out.lt
   have HL6:=hq7 ho6
   have e3:=HOO.out _ hq6
   clear ho6 hg6
   refine hK.out _ _ (HMK.out _ hk6 e3) (fun hHeld=> ?_)
   clear hK K
   (try simp only [Act.put,List.setIfInBounds_toArray,List.set_cons_zero,List.set_cons_succ])
   clear hHeld
   refine wpAnyH_ready (rs:= [10]) (by kernel_rfl) (by simp) (AllReadyH.cons (by simp only [List.getElem?_toArray,List.getElem?_cons_succ,List.getElem?_cons_zero];rfl) (fun K hK=> ?_) AllReadyH.nil)
   go_simp
   go_at_call 40
   refine (HCP.out _ hq6).mono ?_
   rintro e w7 ⟨v7,rfl,hp7,hb7⟩
   have hqv:=hq6.trans (hb7.mono hq6.size)
   have hk7:=HK5.out.below hqv HK5.out.lt
   have hv7:=hp7.form
   obtain ⟨A7,c7,rfl⟩:=hv7
   rw [HLP.out.2] at hp7
   have hl7:w7.ownsRow w.heap.size 9 1 (.slice A6 ln c6) p.labels.length (p.labels.map ST):=(by rw [HLP.out.1];exact own_base (own_below HL6.out hb7) HZ5.out.1)
   have hn7:dh w7 w.heap.size (p, [.int .i64 p.id, .slice A6 ln c6, .slice A7 pn c7]):=⟨_,_,rfl,hl7,hp7.base (Nat.le_trans HZ5.out.1 hq6.size)⟩
   have hx7:=(HC5.out.below hqv).node HP.out hn7
   obtain ⟨xs7,hr7,hs7⟩:=hx7
   have HR7:=hq7 hr7
   have HS7:=hq7 hs7
   have e4:=HOO.out _ hqv
   have e5:=HOO.out _ (hqv.alloc hqv.size (.cells #[.int .i64 p.id, .slice A6 ln c6, .slice A7 pn c7] 59))
   have hz7:=Nat.le_trans HZ5.out.1 hqv.size
   clear hn7 hr7 hs7 hp7
   rw [HLP.out.2]
   go_wp2_with fail
   refine hK.out _ _ (HMK.out _ hk7 e4) (fun hHeld=> ?_)
   clear hK K
   (try simp only [Act.put,List.setIfInBounds_toArray,List.set_cons_zero,List.set_cons_succ])
   refine wpAnyH_take (i:=11) (v:= ?_) (by simp only [List.getElem?_toArray,List.getElem?_cons_succ,List.getElem?_cons_zero];rfl) (by kernel_rfl) (by kernel_rfl) (by kernel_rfl) (by intro _ _ _ h;exact h) (Or.inl ⟨by rfl, ?_⟩) (by assumption) ?_
   rotate_left
   ·(intro wq hSw;(try dsimp only at hSw);(try go_simp);(try with_reducible rfl))
   (try simp only [Act.put,List.setIfInBounds_toArray,List.set_cons_zero,List.set_cons_succ])
   clear hHeld
   refine wpAnyH_ready (rs:= [12]) (by kernel_rfl) (by simp) (AllReadyH.cons (by simp only [List.getElem?_toArray,List.getElem?_cons_succ,List.getElem?_cons_zero];rfl) (fun K hK=> ?_) AllReadyH.nil)
   go_simp
   refine hK.out _ _ (HMK.out _ (hk7.alloc _) e5) (fun hHeld=> ?_)
   clear hK K
   (try simp only [Act.put,List.setIfInBounds_toArray,List.set_cons_zero,List.set_cons_succ])
   clear hHeld
   refine wpAnyH_ready (rs:= [13]) (by kernel_rfl) (by simp) (AllReadyH.cons (by simp only [List.getElem?_toArray,List.getElem?_cons_succ,List.getElem?_cons_zero];rfl) (fun K hK=> ?_) AllReadyH.nil)
   refine lZ rfl (.tmp 22) (.tmp 33) 36 59 (.agg #[.int .i64 0, .slice none 0 0, .slice none 0 0]) 3 56 Tryz.underlying36 DC rfl (by decide) (by decide) rfl w.heap.size (.slice A' k c') k xs7 w7 rfl HR7.out [.int .i64 p.id, .slice A6 ln c6, .slice A7 pn c7] _ rfl rfl (by simp [Value.oneCell']) rfl hl5 hz7 ?_
   intro v9 w9 ho9 hg9 hw9 hb9
   have hf9:=HS7.out w9 v9 hg9 ho9
   have hob:=hf9.1
   have HC9:=hq7 hf9.2
   have hk9:=hk7.grown hg9 HNE.out
   have hv9:=ak ho9
   obtain ⟨A9,c9,rfl⟩:=hv9
   have f0:w9.cell? ⟨w.heap.size+1+1,0,none⟩=some (.slice A' k c'):=hob.cell 0
   have f1:w9.frozen? ⟨w.heap.size+1+1,0,none⟩=false:=hob.frozen 0
   have hks:=hk9.grown (grownBy_set w9 ⟨w.heap.size+2,0,none⟩ (.slice A9 (k+1) c9)) (fun e=>by have e':=Option.some.inj e;have hh:=(hk9.ne_ hob (by decide));exact hh e')
   refine hK.out _ _ (HMK.out _ hk9 f0) (fun hHeld=> ?_)
   clear hK K
   (try simp only [Act.put,List.setIfInBounds_toArray,List.set_cons_zero,List.set_cons_succ])
   refine wpAnyH_take (i:=14) (v:= ?_) (by simp only [List.getElem?_toArray,List.getElem?_cons_succ,List.getElem?_cons_zero];rfl) (by kernel_rfl) (by kernel_rfl) (by kernel_rfl) (by intro _ _ _ h;exact h) (Or.inl ⟨by rfl, ?_⟩) (by assumption) ?_
   rotate_left
   ·(intro wq hSw;(try dsimp only at hSw);(try go_simp);(try with_reducible rfl))
   (try simp only [Act.put,List.setIfInBounds_toArray,List.set_cons_zero,List.set_cons_succ])
   clear hHeld
   refine wpAnyH_done (by kernel_rfl) ?_ _
   refine Px (by simp only [List.getElem?_toArray,List.getElem?_cons_succ,List.getElem?_cons_zero];rfl) (fun K hK=> ?_)
   go_simp
   refine hK.out _ _ ?_
   clear hK K
   all_goals
    clear f0 f1 hob hf9 hks hk9 hk7 hk6 hqv hq6 hb7 hb9 hw9 ho9 hg9 hz7 e3 e4 e5 e1 e2 HKK HOO HCP HEA HRA HBA HL6 HR7 HS7
    go_wp2_with fail
    go_roundg kq
    case measure=>omega
    case rel=>exact ⟨k+1,A9,c9,rfl,by have:=HKQ.out;omega,HC9.out⟩
end Go.Proofs.YtoofbflplhbpbaaGreatDoor
namespace Go.Proofs.YtoofbflplhbpbaaGreatDoor.Gr
open Go
def Asc (l:List L):Prop:=l.Pairwise (· < ·)
theorem OI {l:List L} (h:Asc l):l.Nodup:=List.Pairwise.imp (fun {a b} h e=>by subst e;exact List.lt_irrefl _ h) h
structure Mrg (a b:List L) (i j:Nat) (out:List L):Prop where
 asc:Asc out
 mem: ∀x,x∈out↔x∈a.take i∨x∈b.take j
 le: ∀x∈out,(∀y∈a.drop i,x≤y)∧(∀y∈b.drop j,x≤y)
theorem Mrg.start (a b:List L):Mrg a b 0 0 []:=⟨List.Pairwise.nil,fun x=>by simp,fun x h=>by simp at h⟩
theorem Mrg.symm {a b:List L} {i j:Nat} {out:List L} (h:Mrg a b i j out):Mrg b a j i out:=
 ⟨h.asc,fun x=>(h.mem x).trans Or.comm,fun x hx=>⟨(h.le x hx).2,(h.le x hx).1⟩⟩
theorem ES {a:List L} {i:Nat} {x:L} (hx:a[i]?=some x) (y:L):y∈a.take (i+1)↔y∈a.take i∨y=x:=by
 rw [List.take_add_one,hx]
 simp
theorem ET {a:List L} {i:Nat} {x:L} (ha:Asc a) (hx:a[i]?=some x): ∀y∈a.drop (i+1),x<y:=fun y hy=>by
 obtain ⟨hi,e⟩:=List.getElem?_eq_some_iff.1 hx
 have:(a.drop i).Pairwise (· < ·):=List.Pairwise.sublist (List.drop_sublist i a) ha
 rw [List.drop_eq_getElem_cons hi,e] at this
 exact (List.pairwise_cons.1 this).1 y hy
theorem Mrg.step {a b:List L} {i j:Nat} {out:List L} {x:L} (h:Mrg a b i j out) (ha:Asc a) (hx:a[i]?=some x) (hb: ∀y∈b.drop j,x≤y):
  (out.getLast?=some x→Mrg a b (i+1) j out)∧(out.getLast?≠some x→Mrg a b (i+1) j (out ++ [x])):=by
 have hin:x∈a.drop i:=by
  obtain ⟨hi,e⟩:=List.getElem?_eq_some_iff.1 hx
  rw [List.drop_eq_getElem_cons hi,e]
  simp
 have hsub: ∀y∈a.drop (i+1),y∈a.drop i:=fun y hy=>by
  obtain ⟨hi,e⟩:=List.getElem?_eq_some_iff.1 hx
  rw [List.drop_eq_getElem_cons hi]
  exact List.mem_cons_of_mem _ hy
 constructor
 ·intro hl
  refine ⟨h.asc,fun y=> ?_,fun y hy=>⟨fun z hz=>(h.le y hy).1 z (hsub z hz),(h.le y hy).2⟩⟩
  rw [ES hx,h.mem]
  constructor
  ·rintro (h1 | h1)
   ·exact .inl (.inl h1)
   ·exact .inr h1
  ·rintro ((h1 | rfl) | h1)
   ·exact .inl h1
   ·exact (h.mem _).1 (List.mem_of_getLast? hl)
   ·exact .inr h1
 ·intro hl
  refine ⟨List.pairwise_append.2 ⟨h.asc,by simp,fun y hy z hz=> ?_⟩,fun y=> ?_,fun y hy=> ?_⟩
  ·rw [List.mem_singleton.1 hz]
   have hle:=(h.le y hy).1 x hin
   rcases List.le_iff_lt_or_eq.1 hle with h1 | rfl
   ·exact h1
   ·exfalso
    cases out with
    | nil=>simp at hy
    | cons o r=>
     obtain ⟨q,hq⟩: ∃q,(o :: r).getLast?=some q:=⟨_,List.getLast?_eq_some_getLast (by simp)⟩
     have hqm:=List.mem_of_getLast? hq
     have hqx:=(h.le q hqm).1 y hin
     have hyq:y≤q:=by
      obtain ⟨ys,e⟩:=List.getLast?_eq_some_iff.1 hq
      have hp:=h.asc
      unfold Asc at hp
      rw [e] at hp hy
      rcases List.mem_append.1 hy with h1 | h1
      ·exact List.le_of_lt ((List.pairwise_append.1 hp).2.2 y h1 q (by simp))
      ·rw [List.mem_singleton.1 h1];exact List.le_refl _
     exact hl (by rw [hq,List.le_antisymm hqx hyq])
  ·rw [List.mem_append,h.mem,ES hx,List.mem_singleton]
   constructor
   ·rintro ((h1 | h1) | h1)
    ·exact .inl (.inl h1)
    ·exact .inr h1
    ·exact .inl (.inr h1)
   ·rintro ((h1 | h1) | h1)
    ·exact .inl (.inl h1)
    ·exact .inr h1
    ·exact .inl (.inr h1)
  ·rcases List.mem_append.1 hy with h1 | h1
   ·exact ⟨fun z hz=>(h.le y h1).1 z (hsub z hz),(h.le y h1).2⟩
   ·rw [List.mem_singleton.1 h1]
    exact ⟨fun z hz=>List.le_of_lt (ET ha hx z hz),hb⟩
theorem EU {b:List L} {j:Nat} {x y:L} (hb:Asc b) (hy:b[j]?=some y) (h:x≤y): ∀z∈b.drop j,x≤z:=fun z hz=>by
 obtain ⟨hj,e⟩:=List.getElem?_eq_some_iff.1 hy
 rw [List.drop_eq_getElem_cons hj,e] at hz
 rcases List.mem_cons.1 hz with rfl | h1
 ·exact h
 ·exact List.le_trans h (List.le_of_lt (ET hb hy z h1))
theorem Mrg.done {a b out:List L} (h:Mrg a b a.length b.length out) {s:List L} (hs: ∀x,x∈s↔x∈a∨x∈b):Asc out∧ ∀x,x∈out↔x∈s:=
 ⟨h.asc,fun x=>by rw [h.mem,hs,List.take_length,List.take_length]⟩
def Srt (s out:List L):Prop:=Asc out∧ ∀x,x∈out↔x∈s
theorem Srt.length {s out:List L} (h:Srt s out):out.length=(dedup s).length:=JC (OI h.1) h.2
theorem Srt.small {s:List L} (h:s.length<2):Srt s s:=by
 match s,h with
 | [],_=>exact ⟨List.Pairwise.nil,fun x=>Iff.rfl⟩
 | [a],_=>exact ⟨by unfold Asc;simp,fun x=>Iff.rfl⟩
end Go.Proofs.YtoofbflplhbpbaaGreatDoor.Gr
