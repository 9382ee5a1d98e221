/- Contracts and plain laws,part 30. -/
import Derived.Test.YtanlehkalkafdaaGreatDoorUR27
import Derived.Test.YtanlehkalkafdaaGreatDoorUR29
set_option maxHeartbeats 64000000
set_option maxRecDepth 1000000
set_option linter.all false
namespace Go.Proofs.YtanlehkalkafdaaGreatDoor
open Go.RowKit
structure Small (g:Gr.G):Prop where
 n:g.nodes.length<=67108864
 r:g.rels.length<=67108864
 l: ∀n∈g.nodes,n.labels.length<=67108864
 np: ∀n∈g.nodes,n.props.length<=67108864
 rp: ∀r∈g.rels,r.props.length<=67108864
theorem refCopy_any (B:Nat) (u:Value) (g:Gr.G) (w:World) (h:GIn w B u g) (hB:B<=w.heap.size) (hs:Small g):
  Calls Tryz.prog 10 #[u] w fun e w'=> ∃u',e=.returned u'/\GOwn w' w.heap.size u' g/\Below w.heap.size w w':=by
 have hok:=h.ok;obtain⟨An,cn,Ar,cr,rfl,hN,hR⟩:=h.ex;obtain⟨n,hn⟩:=aj g.nodes.length
 obtain⟨m,hm⟩:=aj g.rels.length;have hnl:n<=67108864:=hn▸hs.n;have hml:m<=67108864:=hm▸hs.r
 rw[hn,hm];have HS:=ah hs;have HOK:=ah hok;have HN:=ah hN;have HR:=ah hR;have HLN:=ah hn
 have HLM:=ah hm;have HBB:=ah hB
 have HC0:=ah (show CpG w (.slice An n cn) (.slice Ar m cr) g 0 0 (.slice none 0 0) (.slice none 0 0) (((w.alloc (.cells #[.slice An n cn,.slice Ar m cr] 25)).alloc (.cells #[.slice none 0 0,.slice none 0 0] 25)).alloc (.cells #[.slice none 0 0,.slice none 0 0] 25)) from
  ⟨((Blk.new _ _ _).alloc _).alloc _,by have:=(Blk.new (w.alloc (.cells #[.slice An n cn,.slice Ar m cr] 25)) 25 #[.slice none 0 0,.slice none 0 0]).alloc (.cells #[.slice none 0 0,.slice none 0 0] 25);simpa using this,
   by have:=Blk.new ((w.alloc (.cells #[.slice An n cn,.slice Ar m cr] 25)).alloc (.cells #[.slice none 0 0,.slice none 0 0] 25)) 25 #[.slice none 0 0,.slice none 0 0];simpa using this,
   ⟨[],by simp,by simp,World.ownsRow_nil _ _ _ _⟩,⟨[],by simp,by simp,World.ownsRow_nil _ _ _ _⟩,(((Below.refl _ w).alloc (rM _) _).alloc (by simp) _).alloc (by simp;omega) _⟩)
 clear h hok hN hR hn hm hB hs;go_enter Tryz.func10,Tryz.ntmps10
 go_upto_region 3 with fail
 obtain⟨W0,hW0⟩:=aj (((w.alloc (.cells #[.slice An n cn,.slice Ar m cr] 25)).alloc (.cells #[.slice none 0 0,.slice none 0 0] 25)).alloc (.cells #[.slice none 0 0,.slice none 0 0] 25))
 rw[hW0]at HC0⊢;clear hW0
 go_loopg [4] n (fun kx s4 wr=> ∃(k:Nat) (A':Option Addr) (c':Nat),s4=.int .i64 k/\k+kx=n/\CpG w (.slice An n cn) (.slice Ar m cr) g k 0 (.slice A' k c') (.slice none 0 0) wr)
 case atStart=>exact⟨0,_,_,rfl,by omega,HC0.out⟩
 obtain⟨k,A',c',rfl,hk,hc⟩:=hrel;have HC:=ah hc;obtain⟨b0,b1⟩:=cells2 hc.box
 have o0:wr.cell? ⟨w.heap.size+1+1,0,none⟩=some (.slice A' k c'):=hc.out.cell 0
 clear HC0 hc;cases gk with
 |zero=>
  obtain rfl:k=n:=by omega
  have HC2:=ah HC.out;clear hk HC o0;go_wp2_with fail
  go_loopg [6] m (fun kx s6 wq=> ∃(j:Nat) (A2:Option Addr) (c2:Nat),s6=.int .i64 j/\j+kx=m/\CpG w (.slice An k cn) (.slice Ar m cr) g k j (.slice A' k c') (.slice A2 j c2) wq)
  case atStart=>exact⟨0,_,_,rfl,by omega,HC2.out⟩
  obtain⟨j,A2,c2,rfl,hk,hc⟩:=hrel;have HC:=ah hc;obtain⟨b0,b1⟩:=cells2 hc.box
  obtain⟨o0,o1⟩:=cells2 (show Blk wr (w.heap.size+1+1) _ _ from hc.out)
  clear HC2 hc;cases gk with
  |zero=>
   obtain rfl:j=m:=by omega
   have hres:=HC.res;obtain⟨q0,q1⟩:=cells2 hres;have f0:=hres.frozen 0
   have f1:=hres.frozen 1
   have hgo:GOwn wr w.heap.size (.agg #[.slice A' k c',.slice A2 j c2]) g:=by
    obtain⟨ln,x1,x2,x3⟩:=HC.nx;obtain⟨lr,y1,y2,y3⟩:=HC.rx
    exact⟨_,_,ln,lr,rfl,by rw[x1,<-HLN.out,yL],x2,by rw[HLN.out];exact x3,by rw[y1,<-HLM.out,yL],y2,by rw[HLM.out];exact y3⟩
   have k4:=Kt.cell (base:=w.heap.size) hres (by omega) 0 (.slice A' k c')
   have hr4:=hres.set_ 0 (.slice A' k c')
   have k5:=Kt.cell (base:=w.heap.size) hr4 (by omega) 1 (.slice A2 j c2)
   have k6:=k4.trans k5
   have HF:=ah (And.intro (hgo.kt k6 (by decide) (by decide) (by decide) (by decide) (by decide)) (And.intro (Blk.cast (hr4.set_ 1 (.slice A2 j c2)) (by simp):Blk _ _ _ #[.slice A' k c',.slice A2 j c2]) (HC.bel.trans k6.bel)))
   clear hres hgo k4 hr4 k5 k6;go_wp2_with fail
   refine ret_gr rfl (by simp) HF.out.2.1 ⟨_,rfl,HF.out.1,HF.out.2.2⟩
  |succ kq=>
   have hkn:j<m:=by omega
   have hknI:(j:Int)<m:=by omega
   have pk:(0:Int)<=(j:Int):=by omega
   have tk:((j:Int)).toNat=j:=by omega
   obtain⟨p,hp⟩: ∃p,g.rels[j]?=some p:=⟨_,ay (by rw[HLM.out];exact hkn)⟩
   have hbw:=HC.bel;have hsz:=hbw.size;have hBw:=hbw.mono HBB.out
   obtain⟨b,o,cs,rfl,hlt,hnc,hl3,hcell⟩:=(HR.below hBw (RelC.below hBw)) j p hp
   obtain⟨Ap,cp,rfl,rp⟩:=hnc;have p0:=hcell 0 _ rfl;have p1:=hcell 1 _ rfl
   have p2:=hcell 2 _ rfl;have p3:=hcell 3 _ rfl;have p4:=hcell 4 _ rfl;rw[vw]at p0
   obtain⟨pn,hpn⟩:=aj p.props.length;obtain⟨zt,hzt⟩:=aj (⟨p.type.toArray⟩:ByteArray)
   have e0:ST p.type=.string zt:=by rw[<-hzt];rfl
   rw[e0]at p1;rw[hpn]at p4
   obtain⟨W5,hW5⟩:=aj (wr.alloc (.cells #[.int .i64 p.id,.string zt,.int .i64 p.src,.int .i64 p.dst,.slice Ap pn cp] 55))
   obtain⟨nb,hnb⟩:=aj wr.heap.size
   have hb5:Below wr.heap.size wr W5:=hW5▸(Below.refl _ wr).alloc (rM _) _
   have hz5:w.heap.size<=W5.heap.size:=rV hsz hb5.size
   have hk5:Blk W5 nb 55 #[.int .i64 p.id,.string zt,.int .i64 p.src,.int .i64 p.dst,.slice Ap pn cp]:=by rw[<-hW5,<-hnb];exact Blk.new _ _ _
   have hBz:B<=W5.heap.size:=rV HBB.out hz5;have HC5:=ah (HC.below hb5)
   have HNE:=ah (show some nb≠(Value.slice A2 j c2).ownBlock from fun e=>by
    obtain⟨_,_,_,hr⟩:=HC.rx;have:=(World.ownsRow.lt hr nb e.symm).2
    omega)
   have HBD:=ah (show Below W5.heap.size W5 W5.drew from(Below.refl _ W5).drew)
   have HCP:=ah (refCopyProps_any B Ap cp pn p.props W5.drew ((rp.below (hb5.mono (rV HBB.out hsz)) (PropC.below (hb5.mono (rV HBB.out hsz)))).below (HBD.mono hBz) (PropC.below (HBD.mono hBz))) hpn (HOK.rs p (sK hp)).ps (rV hBz HBD.size) (by rw[<-hpn];exact HS.rp p (sK hp)))
   have HKK:=ah (fun(X:World) (h:Blk X nb 55 #[.int .i64 p.id,.string zt,.int .i64 p.src,.int .i64 p.dst,.slice Ap pn cp])=>cells5 h)
   have HOO:=ah (fun(X:World) (hb:Below W5.heap.size W5 X)=>show X.cell? ⟨w.heap.size+1+1,1,none⟩=some (.slice A2 j c2) from(HC5.below hb).out.cell 1)
   have HK5:=ah hk5;have hl5:j<536870912:=by omega
   have e1:W5.cell? ⟨w.heap.size+1+1,1,none⟩=some (.slice A2 j c2):=HOO.out _ (Below.refl _ W5)
   obtain⟨d0,d1,d2,d3,d4⟩:=cells5 hk5;have HW5:=ah hW5;have HNB:=ah hnb;have HP:=ah hp
   have HLP:=ah (And.intro e0 hpn);have HKQ:=ah hk;have HZ5:=ah hz5
   clear hcell hW5 hl3 hb5 hk5 rp hp hpn hzt e0 hBz hbw hsz hBw hlt hnb hk hz5
   go_upto_region 11 with fail
   rw[HW5.out];rw[HNB.out];clear p0 p1 p2 p3 p4 b0 b1 o0 o1 HC
   have HMK:=ah (fun(X:World) (h:Blk X nb 55 #[.int .i64 p.id,.string zt,.int .i64 p.src,.int .i64 p.dst,.slice Ap pn cp]) (ho:X.cell? ⟨w.heap.size+1+1,1,none⟩=some (.slice A2 j c2))=>show X.cell? ⟨nb,0,none⟩=some (.int .i64 p.id)/\X.cell? ⟨nb,1,none⟩=some (.string zt)/\X.cell? ⟨nb,2,none⟩=some (.int .i64 p.src)/\X.cell? ⟨nb,3,none⟩=some (.int .i64 p.dst)/\X.cell? ⟨nb,4,none⟩=some (.slice Ap pn cp)/\X.cell? ⟨w.heap.size+1+1,1,none⟩=some (.slice A2 j c2) from by obtain⟨q0,q1,q2,q3,q4⟩:=cells5 h;exact⟨q0,q1,q2,q3,q4,ho⟩)
   refine wp_region_last 17 (fun w'=>w'.cell? ⟨nb,0,none⟩=some (.int .i64 p.id)/\w'.cell? ⟨nb,1,none⟩=some (.string zt)/\w'.cell? ⟨nb,2,none⟩=some (.int .i64 p.src)/\w'.cell? ⟨nb,3,none⟩=some (.int .i64 p.dst)/\w'.cell? ⟨nb,4,none⟩=some (.slice Ap pn cp)/\w'.cell? ⟨w.heap.size+1+1,1,none⟩=some (.slice A2 j c2)) (by kernel_rfl) (by kernel_rfl) (HMK.out _ (HK5.below HBD.out HK5.lt) (HOO.out _ HBD.out)) (fun hHeld=> ?_)
   simp only[wQ,yx];refine takeH 0 hHeld ?_
   (try simp only[Act.put,rW,su,sF])
   refine takeH 1 hHeld ?_
   (try simp only[Act.put,rW,su,sF])
   refine takeH 2 hHeld ?_
   (try simp only[Act.put,rW,su,sF])
   refine takeH 3 hHeld ?_
   (try simp only[Act.put,rW,su,sF])
   refine takeH 4 hHeld ?_
   (try simp only[Act.put,rW,su,sF])
   refine takeH 5 hHeld ?_
   (try simp only[Act.put,rW,su,sF])
   refine takeH 6 hHeld ?_
   (try simp only[Act.put,rW,su,sF])
   refine takeH 7 hHeld ?_
   (try simp only[Act.put,rW,su,sF])
   refine takeH 8 hHeld ?_
   (try simp only[Act.put,rW,su,sF])
   refine takeH 9 hHeld ?_
   (try simp only[Act.put,rW,su,sF])
   refine takeH 10 hHeld ?_
   (try simp only[Act.put,rW,su,sF])
   refine takeH 11 hHeld ?_
   (try simp only[Act.put,rW,su,sF])
   clear hHeld
   refine wpAnyH_ready (rs:=[12]) (by kernel_rfl) (by simp) (AllReadyH.cons (by simp only[sJ,sN,sD];rfl) (fun K hK=> ?_) AllReadyH.nil)
   go_simp
   go_at_call 18
   refine HCP.mono ?_;rintro e w7 ⟨v7,rfl,hp7,hb7⟩;have hqv:=HBD.trans (hb7.mono HBD.size)
   have hk7:=HK5.below hqv HK5.lt;have hv7:=hp7.form;obtain⟨A7,c7,rfl⟩:=hv7
   rw[HLP.out.2]at hp7
   have hn7:RelOwn w7 w.heap.size (p,[.int .i64 p.id,.string zt,.int .i64 p.src,.int .i64 p.dst,.slice A7 pn c7]):=⟨_,by rw[HLP.out.1],hp7.base (rV HZ5.out HBD.size)⟩
   have hx7:=(HC5.below hqv).rel HP.out hn7;obtain⟨xs7,hr7,hs7⟩:=hx7;have HR7:=ah hr7
   have HS7:=ah hs7;have e4:=HOO.out _ hqv
   have e5:=HOO.out _ (hqv.alloc hqv.size (.cells #[.int .i64 p.id,.string zt,.int .i64 p.src,.int .i64 p.dst,.slice A7 pn c7] 55))
   have hz7:=rV HZ5.out hqv.size;clear hn7 hr7 hs7 hp7;rw[HLP.out.2];go_wp2_with fail
   refine hK.out _ _ (HMK.out _ hk7 e4) (fun hHeld=> ?_)
   clear hK K
   (try simp only[Act.put,rW,su,sF])
   refine takeH 13 hHeld ?_
   (try simp only[Act.put,rW,su,sF])
   clear hHeld
   refine wpAnyH_ready (rs:=[14]) (by kernel_rfl) (by simp) (AllReadyH.cons (by simp only[sJ,sN,sD];rfl) (fun K hK=> ?_) AllReadyH.nil)
   go_simp;refine hK.out _ _ (HMK.out _ (hk7.alloc _) e5) (fun hHeld=> ?_)
   clear hK K
   (try simp only[Act.put,rW,su,sF])
   clear hHeld
   refine wpAnyH_ready (rs:=[15]) (by kernel_rfl) (by simp) (AllReadyH.cons (by simp only[sJ,sN,sD];rfl) (fun K hK=> ?_) AllReadyH.nil)
   refine step_append_struct rfl (.tmp 49) (.tmp 62) 23 55 (.agg #[.int .i64 0,.string ⟨#[]⟩,.int .i64 0,.int .i64 0,.slice none 0 0]) 5 64 Tryz.underlying23 info_rel rfl (by decide) (by decide) rfl w.heap.size (.slice A2 j c2) j xs7 w7 rfl HR7.out [.int .i64 p.id,.string zt,.int .i64 p.src,.int .i64 p.dst,.slice A7 pn c7] _ rfl rfl (by simp[Value.oneCell']) rfl hl5 hz7 ?_
   intro v9 w9 ho9 hg9 hw9 hb9;have hf9:=HS7.out w9 v9 hg9 ho9;have hob:=hf9.1
   have HC9:=ah hf9.2;have hk9:=hk7.grown hg9 HNE.out;have hv9:=own_form ho9
   obtain⟨A9,c9,rfl⟩:=hv9
   have f0:w9.cell? ⟨w.heap.size+1+1,1,none⟩=some (.slice A2 j c2):=hob.cell 1
   have f1:w9.frozen? ⟨w.heap.size+1+1,1,none⟩=false:=hob.frozen 1
   have hks:=hk9.grown (grownBy_set w9 ⟨w.heap.size+2,1,none⟩ (.slice A9 (j+1) c9)) (fun e=>by have e':=tN e;have hh:=(hk9.ne_ hob (by decide));exact hh e')
   refine hK.out _ _ (HMK.out _ hk9 f0) (fun hHeld=> ?_)
   clear hK K
   (try simp only[Act.put,rW,su,sF])
   refine takeH 16 hHeld ?_
   (try simp only[Act.put,rW,su,sF])
   clear hHeld;refine wpAnyH_done (by kernel_rfl) ?_ _
   refine lastQ_go (by simp only[sJ,sN,sD];rfl) (fun K hK=> ?_)
   go_simp;refine hK.out _ _ ?_;clear hK K
   all_goals
    clear f0 f1 hob hf9 hks hk9 hk7 hqv hb7 hb9 hw9 ho9 hg9 hz7 e4 e5 e1 HKK HOO HCP HBD HR7 HS7
    go_wp2_with fail
    go_roundg kq
    case measure=>omega
    exact⟨j+1,A9,c9,rfl,by have:=HKQ.out;omega,HC9.out⟩
 |succ kq=>
  have hkn:k<n:=by omega
  have hknI:(k:Int)<n:=by omega
  have pk:(0:Int)<=(k:Int):=by omega
  have tk:((k:Int)).toNat=k:=by omega
  obtain⟨p,hp⟩: ∃p,g.nodes[k]?=some p:=⟨_,ay (by rw[HLN.out];exact hkn)⟩
  have hbw:=HC.bel;have hsz:=hbw.size;have hBw:=hbw.mono HBB.out
  obtain⟨b,o,cs,rfl,hlt,hnc,hl3,hcell⟩:=(HN.below hBw (NodeC.below hBw)) k p hp
  obtain⟨Al,cl,Ap,cp,rfl,ra,rp⟩:=hnc;have p0:=hcell 0 _ rfl;have p1:=hcell 1 _ rfl
  have p2:=hcell 2 _ rfl;rw[vw]at p0;obtain⟨ln,hln⟩:=aj p.labels.length
  obtain⟨pn,hpn⟩:=aj p.props.length;rw[hln]at p1 ra;rw[hpn]at p2
  obtain⟨W5,hW5⟩:=aj (wr.alloc (.cells #[.int .i64 p.id,.slice Al ln cl,.slice Ap pn cp] 48))
  obtain⟨nb,hnb⟩:=aj wr.heap.size
  have hb5:Below wr.heap.size wr W5:=hW5▸(Below.refl _ wr).alloc (rM _) _
  have hz5:w.heap.size<=W5.heap.size:=rV hsz hb5.size
  have hk5:Blk W5 nb 48 #[.int .i64 p.id,.slice Al ln cl,.slice Ap pn cp]:=by rw[<-hW5,<-hnb];exact Blk.new _ _ _
  have hBz:B<=W5.heap.size:=rV HBB.out hz5;have HC5:=ah (HC.below hb5)
  have HNE:=ah (show some nb≠(Value.slice A' k c').ownBlock from fun e=>by
   obtain⟨_,_,_,hr⟩:=HC.nx;have:=(World.ownsRow.lt hr nb e.symm).2
   omega)
  have HBA:=ah (show Below W5.heap.size W5 (W5.drew.alloc (.cells #[] 9)) from((Below.refl _ W5).drew).alloc (rM _) _)
  have HEA:=ah (show(W5.drew.alloc (.cells #[] 9)).ownsRow W5.heap.size 9 1 (.slice (some ⟨W5.heap.size,0,none⟩) 0 0) 0 [] from own_new W5.drew 9 1)
  have HRA:=ah ((ra.below (hb5.mono (rV HBB.out hsz))).below (HBA.mono hBz))
  have HCP:=ah (fun(X:World) (hb:Below W5.heap.size W5 X)=>refCopyProps_any B Ap cp pn p.props X ((rp.below (hb5.mono (rV HBB.out hsz)) (PropC.below (hb5.mono (rV HBB.out hsz)))).below (hb.mono hBz) (PropC.below (hb.mono hBz))) hpn (HOK.ns p (sK hp)).ps (rV hBz hb.size) (by rw[<-hpn];exact HS.np p (sK hp)))
  have HKK:=ah (fun(X:World) (h:Blk X nb 48 #[.int .i64 p.id,.slice Al ln cl,.slice Ap pn cp])=>cells3 h)
  have HOO:=ah (fun(X:World) (hb:Below W5.heap.size W5 X)=>show X.cell? ⟨w.heap.size+1+1,0,none⟩=some (.slice A' k c') from(HC5.below hb).out.cell 0)
  have HK5:=ah hk5;have hl8:ln<=67108864:=by rw[<-hln];exact HS.l p (sK hp)
  have hl5:k<536870912:=by omega
  have e1:W5.cell? ⟨w.heap.size+1+1,0,none⟩=some (.slice A' k c'):=HOO.out _ (Below.refl _ W5)
  have e2:(W5.alloc (.cells #[] 9)).cell? ⟨w.heap.size+1+1,0,none⟩=some (.slice A' k c'):=HOO.out _ ((Below.refl _ W5).alloc (rM _) _)
  obtain⟨d0,d1,d2⟩:=cells3 hk5;have HW5:=ah hW5;have HNB:=ah hnb;have HP:=ah hp
  have HLP:=ah (And.intro hln hpn);have HKQ:=ah hk
  have HZ5:=ah (And.intro hz5 (show W5.heap.size<=(W5.drew.alloc (.cells #[] 9)).heap.size from HBA.size))
  clear hcell hW5 hl3 hb5 hk5 ra rp hp hln hpn hBz hbw hsz hBw hlt hnb hk hz5
  go_upto_region 6 with fail
  rw[HW5.out];rw[HNB.out];clear p0 p1 p2 b0 b1 o0 HC
  have HMK:=ah (fun(X:World) (h:Blk X nb 48 #[.int .i64 p.id,.slice Al ln cl,.slice Ap pn cp]) (ho:X.cell? ⟨w.heap.size+1+1,0,none⟩=some (.slice A' k c'))=>show X.cell? ⟨nb,0,none⟩=some (.int .i64 p.id)/\X.cell? ⟨nb,1,none⟩=some (.slice Al ln cl)/\X.cell? ⟨nb,2,none⟩=some (.slice Ap pn cp)/\X.cell? ⟨w.heap.size+1+1,0,none⟩=some (.slice A' k c') from by obtain⟨q0,q1,q2⟩:=cells3 h;exact⟨q0,q1,q2,ho⟩)
  refine wp_region_last 15 (fun w'=>w'.cell? ⟨nb,0,none⟩=some (.int .i64 p.id)/\w'.cell? ⟨nb,1,none⟩=some (.slice Al ln cl)/\w'.cell? ⟨nb,2,none⟩=some (.slice Ap pn cp)/\w'.cell? ⟨w.heap.size+1+1,0,none⟩=some (.slice A' k c')) (by kernel_rfl) (by kernel_rfl) (HMK.out _ (HK5.below ((Below.refl W5.heap.size W5).drew) HK5.lt) (HOO.out _ ((Below.refl W5.heap.size W5).drew))) (fun hHeld=> ?_)
  simp only[wQ,yx];refine takeH 0 hHeld ?_
  (try simp only[Act.put,rW,su,sF])
  refine takeH 1 hHeld ?_
  (try simp only[Act.put,rW,su,sF])
  refine takeH 2 hHeld ?_
  (try simp only[Act.put,rW,su,sF])
  refine takeH 3 hHeld ?_
  (try simp only[Act.put,rW,su,sF])
  refine takeH 5 hHeld ?_
  (try simp only[Act.put,rW,su,sF])
  refine takeH 6 hHeld ?_
  (try simp only[Act.put,rW,su,sF])
  refine takeH 8 hHeld ?_
  (try simp only[Act.put,rW,su,sF])
  refine takeH 9 hHeld ?_
  (try simp only[Act.put,rW,su,sF])
  clear hHeld
  refine wpAnyH_ready (rs:=[4]) (by kernel_rfl) (by simp) (AllReadyH.cons (by simp only[sJ,sN,sD];rfl) (fun K hK=> ?_) AllReadyH.nil)
  go_simp
  refine hK.out _ _ (HMK.out _ (HK5.below HBA.out HK5.lt) (HOO.out _ HBA.out)) (fun hHeld=> ?_)
  clear hK K
  (try simp only[Act.put,rW,su,sF])
  clear hHeld
  refine wpAnyH_ready (rs:=[7]) (by kernel_rfl) (by simp) (AllReadyH.cons (by simp only[sJ,sN,sD];rfl) (fun K hK=> ?_) AllReadyH.nil)
  refine step_append_labels rfl (.tmp 25) (.tmp 27) rfl W5.heap.size (W5.drew.alloc (.cells #[] 9)) rfl HEA.out B Al ln cl p.labels rfl HRA.out hl8 HZ5.out.2 ?_
  intro A6 c6 w6 ho6 hg6
  have hq6:Below W5.heap.size W5 w6:=HBA.grown hg6 HZ5.out.2 (fun j e=>by cases e;exact rM _)
  have hk6:=HK5.below hq6 HK5.lt;have HL6:=ah ho6;have e3:=HOO.out _ hq6;clear ho6 hg6
  refine hK.out _ _ (HMK.out _ hk6 e3) (fun hHeld=> ?_)
  clear hK K
  (try simp only[Act.put,rW,su,sF])
  clear hHeld
  refine wpAnyH_ready (rs:=[10]) (by kernel_rfl) (by simp) (AllReadyH.cons (by simp only[sJ,sN,sD];rfl) (fun K hK=> ?_) AllReadyH.nil)
  go_simp
  go_at_call 18
  refine(HCP.out _ hq6).mono ?_;rintro e w7 ⟨v7,rfl,hp7,hb7⟩
  have hqv:=hq6.trans (hb7.mono hq6.size);have hk7:=HK5.below hqv HK5.lt
  have hv7:=hp7.form;obtain⟨A7,c7,rfl⟩:=hv7;rw[HLP.out.2]at hp7
  have hl7:w7.ownsRow w.heap.size 9 1 (.slice A6 ln c6) p.labels.length (p.labels.map ST):=(by rw[HLP.out.1];exact own_base (own_below HL6.out hb7) HZ5.out.1)
  have hn7:NodeOwn w7 w.heap.size (p,[.int .i64 p.id,.slice A6 ln c6,.slice A7 pn c7]):=⟨_,_,rfl,hl7,hp7.base (rV HZ5.out.1 hq6.size)⟩
  have hx7:=(HC5.below hqv).node HP.out hn7;obtain⟨xs7,hr7,hs7⟩:=hx7;have HR7:=ah hr7
  have HS7:=ah hs7;have e4:=HOO.out _ hqv
  have e5:=HOO.out _ (hqv.alloc hqv.size (.cells #[.int .i64 p.id,.slice A6 ln c6,.slice A7 pn c7] 48))
  have hz7:=rV HZ5.out.1 hqv.size;clear hn7 hr7 hs7 hp7;rw[HLP.out.2];go_wp2_with fail
  refine hK.out _ _ (HMK.out _ hk7 e4) (fun hHeld=> ?_)
  clear hK K
  (try simp only[Act.put,rW,su,sF])
  refine takeH 11 hHeld ?_
  (try simp only[Act.put,rW,su,sF])
  clear hHeld
  refine wpAnyH_ready (rs:=[12]) (by kernel_rfl) (by simp) (AllReadyH.cons (by simp only[sJ,sN,sD];rfl) (fun K hK=> ?_) AllReadyH.nil)
  go_simp;refine hK.out _ _ (HMK.out _ (hk7.alloc _) e5) (fun hHeld=> ?_)
  clear hK K
  (try simp only[Act.put,rW,su,sF])
  clear hHeld
  refine wpAnyH_ready (rs:=[13]) (by kernel_rfl) (by simp) (AllReadyH.cons (by simp only[sJ,sN,sD];rfl) (fun K hK=> ?_) AllReadyH.nil)
  refine step_append_struct rfl (.tmp 22) (.tmp 33) 22 48 (.agg #[.int .i64 0,.slice none 0 0,.slice none 0 0]) 3 56 Tryz.underlying22 info_node rfl (by decide) (by decide) rfl w.heap.size (.slice A' k c') k xs7 w7 rfl HR7.out [.int .i64 p.id,.slice A6 ln c6,.slice A7 pn c7] _ rfl rfl (by simp[Value.oneCell']) rfl hl5 hz7 ?_
  intro v9 w9 ho9 hg9 hw9 hb9;have hf9:=HS7.out w9 v9 hg9 ho9;have hob:=hf9.1
  have HC9:=ah hf9.2;have hk9:=hk7.grown hg9 HNE.out;have hv9:=own_form ho9
  obtain⟨A9,c9,rfl⟩:=hv9
  have f0:w9.cell? ⟨w.heap.size+1+1,0,none⟩=some (.slice A' k c'):=hob.cell 0
  have f1:w9.frozen? ⟨w.heap.size+1+1,0,none⟩=false:=hob.frozen 0
  have hks:=hk9.grown (grownBy_set w9 ⟨w.heap.size+2,0,none⟩ (.slice A9 (k+1) c9)) (fun e=>by have e':=tN e;have hh:=(hk9.ne_ hob (by decide));exact hh e')
  refine hK.out _ _ (HMK.out _ hk9 f0) (fun hHeld=> ?_)
  clear hK K
  (try simp only[Act.put,rW,su,sF])
  refine takeH 14 hHeld ?_
  (try simp only[Act.put,rW,su,sF])
  clear hHeld;refine wpAnyH_done (by kernel_rfl) ?_ _
  refine lastQ_go (by simp only[sJ,sN,sD];rfl) (fun K hK=> ?_)
  go_simp;refine hK.out _ _ ?_;clear hK K
  all_goals
   clear f0 f1 hob hf9 hks hk9 hk7 hk6 hqv hq6 hb7 hb9 hw9 ho9 hg9 hz7 e3 e4 e5 e1 e2 HKK HOO HCP HEA HRA HBA HL6 HR7 HS7
   go_wp2_with fail
   go_roundg kq
   case measure=>omega
   exact⟨k+1,A9,c9,rfl,by have:=HKQ.out;omega,HC9.out⟩
end Go.Proofs.YtanlehkalkafdaaGreatDoor
namespace Go.Proofs.YtanlehkalkafdaaGreatDoor.Gr
open Go
def Asc (l:List L):Prop:=l.Pairwise (· < ·)
theorem asc_nodup {l:List L} (h:Asc l):l.Nodup:=List.Pairwise.imp (fun {a b} h e=>by subst e;exact zh _ h) h
structure Mrg (a b:List L) (i j:Nat) (out:List L):Prop where
 asc:Asc out
 mem: ∀x,x∈out↔x∈a.take i\/x∈b.take j
 le: ∀x∈out,(∀y∈a.drop i,x<=y)/\(∀y∈b.drop j,x<=y)
theorem Mrg.start (a b:List L):Mrg a b 0 0 []:=⟨List.Pairwise.nil,fun x=>by simp,fun x h=>by simp at h⟩
theorem Mrg.symm {a b:List L} {i j:Nat} {out:List L} (h:Mrg a b i j out):Mrg b a j i out:=
 ⟨h.asc,fun x=>(h.mem x).trans Or.comm,fun x hx=>⟨(h.le x hx).2,(h.le x hx).1⟩⟩
theorem take_mem {a:List L} {i:Nat} {x:L} (hx:a[i]?=some x) (y:L):y∈a.take (i+1)↔y∈a.take i\/y=x:=by
 rw[uM,hx];simp
theorem asc_rest {a:List L} {i:Nat} {x:L} (ha:Asc a) (hx:a[i]?=some x): ∀y∈a.drop (i+1),x<y:=fun y hy=>by
 obtain⟨hi,e⟩:=rZ.1 hx;have:(a.drop i).Pairwise (· < ·):=yC (BX i a) ha
 rw[tJ hi,e]at this;exact(List.pairwise_cons.1 this).1 y hy
theorem Mrg.step {a b:List L} {i j:Nat} {out:List L} {x:L} (h:Mrg a b i j out) (ha:Asc a) (hx:a[i]?=some x) (hb: ∀y∈b.drop j,x<=y):
  (out.getLast?=some x->Mrg a b (i+1) j out)/\(out.getLast?≠some x->Mrg a b (i+1) j (out++[x])):=by
 have hin:x∈a.drop i:=by
  obtain⟨hi,e⟩:=rZ.1 hx;rw[tJ hi,e];simp
 have hsub: ∀y∈a.drop (i+1),y∈a.drop i:=fun y hy=>by
  obtain⟨hi,e⟩:=rZ.1 hx;rw[tJ hi];exact uQ _ hy
 constructor
 ·intro hl
  refine⟨h.asc,fun y=> ?_,fun y hy=>⟨fun z hz=>(h.le y hy).1 z (hsub z hz),(h.le y hy).2⟩⟩
  rw[take_mem hx,h.mem]
  constructor
  ·rintro(h1|h1)
   ·exact .inl (.inl h1)
   exact .inr h1
  rintro((h1|rfl)|h1)
  ·exact .inl h1
  ·exact(h.mem _).1 (List.mem_of_getLast? hl)
  exact .inr h1
 intro hl;refine⟨wH.2 ⟨h.asc,by simp,fun y hy z hz=> ?_⟩,fun y=> ?_,fun y hy=> ?_⟩
 ·rw[ug.1 hz]
  have hle:=(h.le y hy).1 x hin
  rcases Bc.1 hle with h1|rfl
  ·exact h1
  exfalso
  cases out with
  |nil=>simp at hy
  |cons o r=>
   obtain⟨q,hq⟩: ∃q,(o :: r).getLast?=some q:=⟨_,List.getLast?_eq_some_getLast (by simp)⟩
   have hqm:=List.mem_of_getLast? hq;have hqx:=(h.le q hqm).1 y hin
   have hyq:y<=q:=by
    obtain⟨ys,e⟩:=List.getLast?_eq_some_iff.1 hq;have hp:=h.asc;unfold Asc at hp
    rw[e]at hp hy
    rcases tZ.1 hy with h1|h1
    ·exact zM ((wH.1 hp).2.2 y h1 q (by simp))
    rw[ug.1 h1];exact List.le_refl _
   exact hl (by rw[hq,Cj hqx hyq])
 ·rw[tZ,h.mem,take_mem hx,ug]
  constructor
  ·rintro((h1|h1)|h1)
   ·exact .inl (.inl h1)
   ·exact .inr h1
   exact .inl (.inr h1)
  rintro((h1|h1)|h1)
  ·exact .inl (.inl h1)
  ·exact .inr h1
  exact .inl (.inr h1)
 rcases tZ.1 hy with h1|h1
 ·exact⟨fun z hz=>(h.le y h1).1 z (hsub z hz),(h.le y h1).2⟩
 rw[ug.1 h1];exact⟨fun z hz=>zM (asc_rest ha hx z hz),hb⟩
theorem asc_head {b:List L} {j:Nat} {x y:L} (hb:Asc b) (hy:b[j]?=some y) (h:x<=y): ∀z∈b.drop j,x<=z:=fun z hz=>by
 obtain⟨hj,e⟩:=rZ.1 hy;rw[tJ hj,e]at hz
 rcases uD.1 hz with rfl|h1
 ·exact h
 exact BZ h (zM (asc_rest hb hy z h1))
theorem Mrg.done {a b out:List L} (h:Mrg a b a.length b.length out) {s:List L} (hs: ∀x,x∈s↔x∈a\/x∈b):Asc out/\ ∀x,x∈out↔x∈s:=
 ⟨h.asc,fun x=>by rw[h.mem,hs,yL,yL]⟩
def Srt (s out:List L):Prop:=Asc out/\ ∀x,x∈out↔x∈s
theorem Srt.length {s out:List L} (h:Srt s out):out.length=(dedup s).length:=dedup_length (asc_nodup h.1) h.2
theorem Srt.small {s:List L} (h:s.length<2):Srt s s:=by
 match s,h with
 |[],_=>exact⟨List.Pairwise.nil,fun x=>Iff.rfl⟩
 |[a],_=>exact⟨by unfold Asc;simp,fun x=>Iff.rfl⟩
end Go.Proofs.YtanlehkalkafdaaGreatDoor.Gr
namespace Go.Proofs.YtanlehkalkafdaaGreatDoor
open Go.RowKit
def letters:List UInt8:=[97,98,99,100,101,102,103,104,105,106,107,108,109,110,111,112,113,114,115,116,117,118,119,120,121,122,65,66,67,68,69,70,71,72,73,74,75,76,77,78,79,80,81,82,83,84,85,86,87,88,89,90,95,48,49,50,51,52,53,54,55,56,57]
def posL (c:UInt8):Nat:=letters.findIdx (· == c)
def posOk (n:Nat):Bool:=decide (posL (UInt8.ofNat n)<=63) &&(decide (posL (UInt8.ofNat n)=63) == !Lex.inWord (UInt8.ofNat n)) &&(decide (52<posL (UInt8.ofNat n)) ==(!Lex.inWord (UInt8.ofNat n) || Num.isDig (UInt8.ofNat n)))
theorem pos_all:(List.range 256).all posOk=true:=by kernel_rfl
theorem pos_of (c:UInt8):posL c<=63/\(posL c=63↔Lex.inWord c=false)/\(52<posL c↔Lex.inWord c=false\/Num.isDig c=true):=by
 have h:=wC.1 pos_all c.toNat (BJ.2 c.toNat_lt);unfold posOk at h;rw[BN]at h
 simp only[uy,tX,uw]at h;obtain⟨⟨h1,h2⟩,h3⟩:=h;refine⟨h1, ?_, ?_⟩
 ·exact⟨fun e=>by rw[rQ e]at h2;simpa using h2.symm,fun e=>by rw[e]at h2;simpa using h2⟩
 exact⟨fun e=>by rw[rQ e]at h3;simpa using h3.symm,fun e=>by
  have h4:(!Lex.inWord c || Num.isDig c)=true:=by rcases e with e|e<;>simp[e]
  rw[h4]at h3;simpa using h3⟩
theorem pos_at {c:UInt8} (h:posL c<63):letters[posL c]?=some c:=by
 have hl:posL c<letters.length:=h;rw[ay hl];have:=List.findIdx_getElem (w:=hl)
 exact uo some (uw.1 this)
theorem pos_lt {c:UInt8} {j:Nat} (h:j<posL c): ∃d,letters[j]?=some d/\d≠c:=by
 have hl:j<letters.length:=sZ h (pos_of c).1;refine⟨_,ay hl, ?_⟩
 have:=List.not_of_lt_findIdx h
 simpa using this
theorem lit_at {j:Nat} {d:UInt8} (hj:j<63) (h:letters[j]?=some d):(⟨#[97,98,99,100,101,102,103,104,105,106,107,108,109,110,111,112,113,114,115,116,117,118,119,120,121,122,65,66,67,68,69,70,71,72,73,74,75,76,77,78,79,80,81,82,83,84,85,86,87,88,89,90,95,48,49,50,51,52,53,54,55,56,57]⟩:ByteArray)[j]'hj=d:=
 tN ((get_list (⟨#[97,98,99,100,101,102,103,104,105,106,107,108,109,110,111,112,113,114,115,116,117,118,119,120,121,122,65,66,67,68,69,70,71,72,73,74,75,76,77,78,79,80,81,82,83,84,85,86,87,88,89,90,95,48,49,50,51,52,53,54,55,56,57]⟩:ByteArray) j hj).symm.trans h)
theorem refGoodName_any (s:ByteArray) (w:World) (hs:s.size<=1073741824):
  Calls Tryz.prog 41 #[.string s] w fun e w'=>e=.returned (.bool (Gr.goodName s.data.toList))/\Below w.heap.size w w':=by
 obtain⟨R,hR⟩:=aj (Gr.goodName s.data.toList);rw[hR];have HR:=ah hR;clear hR
 have hl:=Lib.size_eq s;have hg:=fun(k:Nat) (h:k<s.size)=>get_list s k h
 obtain⟨n,hn⟩:=aj s.size;rw[hn]at hl hs;have hu:=undef_nil;by_cases h0:n=0
 ·subst h0
  have hr:R=false:=by rw[<-HR.out,sH hl.symm];exact name_empty
  have HRR:=ah hr;clear hr hl hg hs;go_enter Tryz.func41,Tryz.ntmps41;go_wp2;go_ret
  exact⟨by rw[HRR.out];rfl,Below.refl _ _⟩
 have h0i:(1:Int)<=n:=by omega
 have t1:decide ((n:Int)<1)=false:=rO (by omega)
 by_cases h40:40<n
 ·have h40i:(40:Int)<n:=by omega
  have t40:decide ((40:Int)<n)=true:=rQ h40i
  have hr:R=false:=by rw[<-HR.out];exact name_long (by omega)
  have HRR:=ah hr;clear hr hl hg h0 h40 hs;go_enter Tryz.func41,Tryz.ntmps41;go_wp2;go_ret
  exact⟨by rw[HRR.out];rfl,Below.refl _ _⟩
 have h40i:(n:Int)<=40:=by omega
 have t40:decide ((40:Int)<n)=false:=rO (by omega)
 have HG:=ah hg;have HN:=ah hn;have HLL:=ah hl;have HU:=ah hu;clear hg hl
 go_enter Tryz.func41,Tryz.ntmps41;go_wp2_with fail
 go_loopg [3] n (fun kx x wr=> ∃k:Nat,x=.int .i64 k/\k+kx=n/\Below w.heap.size w wr/\Hid (∀(j:Nat) d,j<k->s.data.toList[j]?=some d->Lex.inWord d=true/\(j=0->Num.isDig d=false)))
 case atStart=>exact⟨0,rfl,by omega,by first|exact Below.refl _ _|exact(Below.refl _ _).drew,fun j d h=>absurd h (Nat.not_lt_zero _)⟩
 obtain⟨k,rfl,hk,hb,hI⟩:=hrel;have HB:=ah hb;clear hb;cases gk with
 |zero=>
  obtain rfl:k=n:=by omega
  have hr:R=true:=by
   rw[<-HR.out];have hlt:0<s.size:=by rw[HN.out];omega
   have h0:=HG.out 0 hlt
   exact name_good h0 ((hI.out 0 _ (by omega) h0).2 rfl) (by rw[<-HLL.out];omega) (fun j d hj=>(hI.out j d (by have:=(rZ.1 hj).1;rw[<-HLL.out]at this;exact this) hj).1)
  have HRR:=ah hr;clear hr;go_wp2;go_ret;exact⟨by rw[HRR.out];rfl,HB.out⟩
 |succ kq=>
  have hkn:k<s.size:=by rw[HN.out];omega
  have hknI:(k:Int)<n:=by omega
  have pk:(0:Int)<=(k:Int):=by omega
  have tk:((k:Int)).toNat=k:=by omega
  obtain⟨c,hc⟩:=aj (s[k]'hkn)
  have HC:=ah (show s.data.toList[k]?=some c by rw[<-hc];exact HG.out k hkn)
  obtain⟨q,hq⟩:=aj (posL c);have HQ:=ah hq;have hq63:q<=63:=hq▸(pos_of c).1;clear hq
  go_wp2_with fail
  go_loopg [4] q (fun jx x wr=> ∃j:Nat,x=.int .i64 j/\j+jx=q/\Below w.heap.size w wr)
  case atStart=>exact⟨0,rfl,by omega,HB.out⟩
  obtain⟨j,rfl,hj,hb⟩:=hrel;have HB2:=ah hb;clear hb;cases gk with
  |zero=>
   obtain rfl:j=q:=by omega
   have pj:(0:Int)<=(j:Int):=by omega
   have ttj:((j:Int)).toNat=j:=by omega
   by_cases h63:j=63
   ·subst h63
    have hr:R=false:=by rw[<-HR.out];exact name_bad HC.out ((pos_of c).2.1.1 HQ.out)
    have HRR:=ah hr;clear hr hj pj ttj hk
    go_upto_region 7 with fail
    go_quiet (fail)
    go_wp2_with fail;go_ret
    exact⟨by rw[HRR.out];rfl,by first|exact HB2.out|exact below_drewN HB2.out _⟩
   have hjn:j<63:=by omega
   have hjI:(j:Int)<63:=by omega
   have tj:decide ((j:Int)<63)=true:=rQ hjI
   have t63:((j:Int) == 63)=false:=rX.2 (by omega)
   have hd:=lit_at hjn (show letters[j]?=some c by rw[<-HQ.out];exact pos_at (by rw[HQ.out];exact hjn))
   have tn:((c.toNat:Int) !=c.toNat)=false:=by simp
   have hw:Lex.inWord c=true:=by
    cases h:Lex.inWord c with
    |true=>rfl
    |false=>exact absurd (HQ.symm.trans ((pos_of c).2.1.2 h)) h63
   by_cases hdig:k=0/\52<j
   ·obtain⟨rfl,h52⟩:=hdig
    have t52:decide ((52:Int)<j)=true:=rQ (by omega)
    have h52i:(52:Int)<j:=by omega
    have hr:R=false:=by
     rw[<-HR.out];refine name_digit HC.out ?_
     rcases(pos_of c).2.2.1 (by rw[HQ.out];exact h52) with h|h
     ·rw[h]at hw;cases hw
     exact h
    have HRR:=ah hr;clear hr hj hk hw h63 h52
    go_upto_region 7 with fail
    go_quiet (fail)
    go_wp2_with fail;go_ret
    exact⟨by rw[HRR.out];rfl,by first|exact HB2.out|exact below_drewN HB2.out _⟩
   have HI2:=ah (show∀(i:Nat) d,i<k+1->s.data.toList[i]?=some d->Lex.inWord d=true/\(i=0->Num.isDig d=false) from fun i d hi he=>by
    by_cases e:i=k
    ·subst e
     rw[HC.out]at he;cases he;refine⟨hw,fun e0=> ?_⟩
     cases h:Num.isDig c with
     |false=>rfl
     |true=>exact absurd ⟨e0,by have:=(pos_of c).2.2.2 (.inr h);rw[HQ.out]at this;exact this⟩ hdig
    exact hI.out i d (by omega) he)
   have HK:=ah hk
   have hor:k≠0\/(k=0/\ ¬52<j):=by
    by_cases e:k=0
    ·exact .inr ⟨e,fun h=>hdig ⟨e,h⟩⟩
    exact .inl e
   clear hj hk hw h63 hdig
   rcases hor with e|⟨rfl,e⟩
   ·have tk0:((k:Int) == 0)=false:=rX.2 (by omega)
    have tk1:(k:Int)≠0:=by omega
    clear e
    go_upto_region 7 with fail
    go_quiet (fail)
    go_wp2_with fail
    go_roundg kq
    case measure=>omega
    exact⟨k+1,by simp,by have:=HK.out;omega,by first|exact HB2.out|exact below_drewN HB2.out _,HI2.out⟩
   have t52:decide ((52:Int)<j)=false:=rO (by omega)
   have t52i:(j:Int)<=52:=by omega
   clear e
   go_upto_region 7 with fail
   go_quiet (fail)
   go_wp2_with fail
   go_roundg kq
   case measure=>omega
   exact⟨1,by simp,by have:=HK.out;omega,by first|exact HB2.out|exact below_drewN HB2.out _,HI2.out⟩
  |succ jq=>
   have hjn:j<63:=by omega
   have hjI:(j:Int)<63:=by omega
   have tj:decide ((j:Int)<63)=true:=rQ hjI;have pj:(0:Int)<=(j:Int):=by omega
   have ttj:((j:Int)).toNat=j:=by omega
   obtain⟨d,hd,hne⟩:=pos_lt (c:=c) (j:=j) (by rw[HQ.out];omega)
   have hd:=lit_at hjn hd
   have tn:((d.toNat:Int) !=c.toNat)=true:=by
    rw[tH];intro e;exact hne (vS.1 (Int.ofNat.inj e))
   have HJ:=ah hj;clear hj hne hk
   go_upto_region 7 with fail
   go_quiet (fail)
   go_wp2_with fail
   go_roundg jq
   case measure=>omega
   exact⟨j+1,by simp,by have:=HJ.out;omega,by first|exact HB2.out|exact below_drewN HB2.out _⟩
theorem refPropsWrong_any (B:Nat) (A:Option Addr) (c:Nat) (ps:List Gr.P) (w:World) (h:Lst w B 6 (PropC w B) A ps) (hB:B<=w.heap.size) (hl:ps.length<=1073741824) (hs: ∀p∈ps,POk p):
  Calls Tryz.prog 42 #[.slice A ps.length c] w fun e w'=>e=.returned (.int .i64 (Gr.propsWrong ps:Nat))/\Below w.heap.size w w':=by
 obtain⟨R,hR⟩:=aj (Gr.propsWrong ps);rw[hR];unfold Gr.propsWrong at hR
 obtain⟨n,hn⟩:=aj ps.length;rw[hn]at hl hR⊢;have HH:=ah h;have HS:=ah hs;have HN:=ah hn
 have HU:=ah undef_nil;by_cases h8:16<n
 ·rw[rY h8]at hR
  subst hR;have h8i:(16:Int)<n:=by omega
  have t8:decide ((16:Int)<n)=true:=rQ h8i;clear h h8 hs hl
  go_enter Tryz.func42,Tryz.ntmps42;go_wp2;go_ret;exact⟨rfl,Below.refl _ _⟩
 rw[rU h8]at hR;have HR:=ah hR;have h8i:(n:Int)<=16:=by omega
 have t8:decide ((16:Int)<n)=false:=rO (by omega)
 clear h h8 hs hl hR;go_enter Tryz.func42,Tryz.ntmps42;go_wp2_with fail
 go_loopg [3] n (fun g x wr=> ∃k:Nat,x=.int .i64 k/\k+g=n/\Below w.heap.size w wr/\ ∀j a,j<k->ps[j]?=some a->Gr.propWrong (Gr.prevAt Gr.P.key ps j) a=0)
 case atStart=>exact⟨0,rfl,by omega,Below.refl _ _,fun j a h=>by omega⟩
 obtain⟨k,rfl,hk,hb,hz⟩:=hrel;have HK:=ah hk;have HZ:=ah hz;have HB:=ah hb;clear hz hb
 cases gk with
 |zero=>
  obtain rfl:k=n:=by omega
  have hr:=first_done HN.out HR.out HZ.out;have HRR:=ah hr;clear hk hr;go_wp2;go_ret
  exact⟨by rw[HRR.out];rfl,HB.out⟩
 |succ g=>
  have hkn:k<n:=by omega
  have hknI:(k:Int)<n:=by omega
  obtain⟨p,hp⟩: ∃p,ps[k]?=some p:=⟨_,ay (by rw[HN.out];exact hkn)⟩
  have HP:=ah hp;have hLB:=HH.below (HB.mono hB) (PropC.below (HB.mono hB))
  obtain⟨b,o,An,cn,At,ct,rfl,hbB,⟨c0,c1,c2,c3,c4,c5⟩,r1,r2⟩:=hLB.prop hp
  obtain⟨z,hz⟩:=aj (⟨p.key.toArray⟩:ByteArray)
  obtain⟨zt,hzt⟩:=aj (⟨p.val.text.toArray⟩:ByteArray);unfold ST at c0 c3;rw[hz]at c0
  rw[hzt]at c3;clear hp hk hkn;have hpok:=HS.out p (sK HP.out)
  have hBr:B<=wr.heap.size:=rV hB HB.size;have hzd:z.data.toList=p.key:=by rw[<-hz]
  obtain⟨Nm,hNm⟩:=aj (Gr.goodName p.key);obtain⟨CV,hCV⟩:=aj (Cel.check p.val)
  have HC:=ah (refGoodName_any z wr (by rw[Lib.size_eq,hzd];exact hpok.key))
  rw[hzd,hNm]at HC
  have HBC:=ah (fun(X:World) (hb:Below wr.heap.size wr X)=>show X.cell? ⟨b,o+k*6,none⟩=some (.string z)/\X.cell? ⟨b,o+k*6+1,none⟩=some (.int .i64 p.val.kind)/\X.cell? ⟨b,o+k*6+2,none⟩=some (.int .i64 p.val.num)/\X.cell? ⟨b,o+k*6+3,none⟩=some (.string zt)/\X.cell? ⟨b,o+k*6+4,none⟩=some (.slice An p.val.nums.length cn)/\X.cell? ⟨b,o+k*6+5,none⟩=some (.slice At p.val.texts.length ct) from
   have hl:=sZ hbB hBr
   ⟨(hb.cell (p:=⟨b,o+k*6,none⟩) hl).trans c0,(hb.cell (p:=⟨b,o+k*6+1,none⟩) hl).trans c1,(hb.cell (p:=⟨b,o+k*6+2,none⟩) hl).trans c2,(hb.cell (p:=⟨b,o+k*6+3,none⟩) hl).trans c3,(hb.cell (p:=⟨b,o+k*6+4,none⟩) hl).trans c4,(hb.cell (p:=⟨b,o+k*6+5,none⟩) hl).trans c5⟩)
  have HCK0:=ah (fun(X:World) (hb:Below wr.heap.size wr X) (m:Nat)=>(show VIn (X.drewN m) B (.agg #[.int .i64 p.val.kind,.int .i64 p.val.num,.string zt,.slice An p.val.nums.length cn,.slice At p.val.texts.length ct]) p.val by
   have:=((vin_of (cn:=cn) (ct:=ct) hpok.val r1 r2).below (hb.mono hBr)).below (below_drewN (Below.refl B X) m)
   unfold ST at this
   rwa [hzt]at this))
  have HHP0:Hid (∀(X:World) (q:Gr.P) (m:Nat),Below wr.heap.size wr X->m<n->ps[m]?=some q->X.cell? ⟨b,o+m*6,none⟩=some (ST q.key)):=fun X q m hb hm hq=>by
   obtain⟨b',o',_,_,_,_,he,hlt,⟨e0,-⟩,-⟩:=hLB.prop hq
   injection he with he
   injection he with he1 he2
   subst he1;subst he2;exact((hb.mono hBr).cell (by exact hlt)).trans e0
  have HNM:=ah hNm;have HZD:=ah hzd;have HCV:=ah hCV;have HBR:=ah hBr
  have hpkI:(0:Int)<=(k:Int):=by omega
  have htk:((k:Int)).toNat=k:=by omega
  clear hNm hCV hz hzt hzd hLB r1 r2 hBr hpok hbB;go_wp2_with fail;refine HC.mono ?_
  rintro e w1 ⟨rfl,hb1⟩;clear c0 c1 c2 c3 c4 c5;obtain⟨d0,d1,d2,d3,d4,d5⟩:=HBC.out w1 hb1
  have HBW:=ah (HB.trans (hb1.mono HB.size))
  have HCK:=ah (fun(m:Nat)=>vCheck_any B _ p.val (w1.drewN m) (HCK0.out w1 hb1 m) (rV HBR.out hb1.size))
  rw[HCV.out]at HCK
  have HHP:Hid (∀q:Gr.P,∀m:Nat,m<n->ps[m]?=some q->w1.cell? ⟨b,o+m*6,none⟩=some (ST q.key)):=fun q m hm hq=>HHP0.out w1 q m hb1 hm hq
  clear hb1;cases Nm with
  |false=>
   have hr:=first_stop HR.out HP.out HZ.out (e:=60) (by unfold Gr.propWrong;rw[HNM.out,rY rfl]) (by decide)
   have HRR:=ah hr;clear hr;go_wp2;go_ret;exact⟨by rw[HRR.out];rfl,HBW.out⟩
  |true=>
   have HCONT:=ah (fun(h:Gr.propWrong (Gr.prevAt Gr.P.key ps k) p=0)=>first_more HP.out HZ.out h)
   have HSTOP:=ah (fun(e:Nat) (h:Gr.propWrong (Gr.prevAt Gr.P.key ps k) p=e) (hne:e≠0)=>first_stop HR.out HP.out HZ.out h hne)
   by_cases h0:k=0
   ·have hk0:(k:Int)<=0:=by omega
    have tk:decide (0<k)=false:=rO (by omega)
    have hpw:Gr.propWrong (Gr.prevAt Gr.P.key ps k) p=CV:=by
     subst h0;unfold Gr.propWrong
     rw[HNM.out,rU (by decide),rU (by simp[Gr.prevAt]),HCV.out]
    have HPW:=ah hpw;clear h0 hpw
    go_upto_region 8 with fail
    go_quiet (fail)
    go_wp2_with fail;refine(HCK.out _).mono ?_;rintro e w4 ⟨rfl,hb4⟩
    have HB4:=ah (bel_next (below_drewN HBW.out nq) hb4);clear hb4;cases CV with
    |zero=>
     have HM:=ah (HCONT.out HPW.out);go_wp2
     go_roundg g
     case measure=>omega
     exact⟨k+1,int_eq (by omega),by have:=HK.out;omega,HB4.out,HM.out⟩
    |succ e=>
     have hr:=HSTOP.out (e+1) HPW.out (by omega)
     have HRR:=ah hr;have hne:(((e+1:Nat):Int) !=0)=true:=by rw[tH];omega
     clear hr;go_wp2;go_ret;exact⟨by rw[HRR.out];rfl,HB4.out⟩
   obtain⟨m,hm⟩: ∃m,k=m+1:=⟨k - 1,by omega⟩
   have tk:decide (0<k)=true:=rQ (by omega)
   have hkp:(0:Int)<k:=by omega
   have hsub:(k:Int) - 1=(m:Int):=by omega
   have hmn:(m:Int)<n:=by omega
   have hmn':m<n:=by omega
   obtain⟨q,hq⟩: ∃q,ps[m]?=some q:=⟨_,ay (by omega)⟩
   have e0:=HHP.out q m hmn' hq;unfold ST at e0
   obtain⟨zq,hzq⟩:=aj (⟨q.key.toArray⟩:ByteArray)
   have hzqd:zq.toList=q.key:=by rw[<-hzq,st_toList]
   rw[hzq]at e0;obtain⟨b1,hb1⟩:=aj (Op.bytesLess z.toList zq.toList)
   obtain⟨b2,hb2⟩:=aj (z.toList == zq.toList)
   have hb:decide (p.key<=q.key)=(b1 || b2):=by rw[<-hb1,<-hb2,leq_bytes,hzqd,Lib.toList_data,HZD.out]
   have hpw:Gr.propWrong (Gr.prevAt Gr.P.key ps k) p=if(b1 || b2)=true then 6 else CV:=by
    have hpv:Gr.prevAt Gr.P.key ps k=some q.key:=by rw[hm];show ps[m]?.map Gr.P.key=_;rw[hq];rfl
    unfold Gr.propWrong;rw[HNM.out,hpv,rU (by decide),<-hb,HCV.out]
    rfl
   have HPW:=ah hpw;clear h0 hpw hq hzq hzqd hb hm hmn'
   have HTL:=ah (show(b1 || b2)=true->R=6 from fun h=>HSTOP.out 6 (by rw[HPW.out,h];rfl) (by decide))
   cases b1 with
   |true=>
    have hr:=HTL.out rfl;have HRR:=ah hr;clear hr
    go_upto_region 8 with fail
    go_quiet (fail)
    go_wp2;go_ret;exact⟨by rw[HRR.out];rfl,below_drewN HBW.out _⟩
   |false=>
    cases b2 with
    |true=>
     have hr:=HTL.out rfl;have HRR:=ah hr;clear hr
     go_upto_region 8 with fail
     go_quiet (fail)
     go_wp2;go_ret;exact⟨by rw[HRR.out];rfl,below_drewN HBW.out _⟩
    |false=>
     go_upto_region 8 with fail
     go_quiet (fail)
     go_wp2_with fail;refine(HCK.out _).mono ?_;rintro e w4 ⟨rfl,hb4⟩
     have HB4:=ah (bel_next (below_drewN HBW.out nq) hb4);clear hb4;cases CV with
     |zero=>
      have HM:=ah (HCONT.out HPW.out);go_wp2
      go_roundg g
      case measure=>omega
      exact⟨k+1,int_eq (by omega),by have:=HK.out;omega,HB4.out,HM.out⟩
     |succ e=>
      have hr:=HSTOP.out (e+1) HPW.out (by omega)
      have HRR:=ah hr;have hne:(((e+1:Nat):Int) !=0)=true:=by rw[tH];omega
      clear hr;go_wp2;go_ret;exact⟨by rw[HRR.out];rfl,HB4.out⟩
end Go.Proofs.YtanlehkalkafdaaGreatDoor
