/- Contracts and plain laws,part 35. -/
import Derived.Test.YtoofbflplhbpbaaGreatDoorUO32
import Derived.Test.YtoofbflplhbpbaaGreatDoorUO34
set_option maxHeartbeats 64000000
set_option maxRecDepth 1000000
set_option linter.all false
namespace Go.Proofs.YtoofbflplhbpbaaGreatDoor
open Go.RowKit
structure Small (g:Gr.G):Prop where
 n:g.nodes.length<=67108864
 r:g.au.length<=67108864
 l: ∀n∈g.nodes,n.labels.length<=67108864
 np: ∀n∈g.nodes,n.props.length<=67108864
 rp: ∀r∈g.au,r.props.length<=67108864
theorem TG (B:Nat) (u:Value) (g:Gr.G) (w:World) (h:fE w B u g) (hB:B<=w.heap.size) (hs:Small g):
  Calls Tryz.prog 19 #[u] w fun e w'=> ∃u',e= .returned u'/\iy w' w.heap.size u' g/\Below w.heap.size w w':=by
 have hok:=h.ok;obtain ⟨An,cn,Ar,cr,rfl,hN,hR⟩:=h.ex
 obtain ⟨n,hn⟩: ∃n,g.nodes.length=n:=⟨_,rfl⟩;obtain ⟨m,hm⟩: ∃m,g.au.length=m:=⟨_,rfl⟩
 have hnl:n<=67108864:=hn▸hs.n;have hml:m<=67108864:=hm▸hs.r;rw [hn,hm];have HS:=ah hs
 have aK:=ah hok;have HN:=ah hN;have HR:=ah hR;have dF:=ah hn;have Wv:=ah hm
 have aH:=ah hB
 have xW:=ah (show uZ w (.slice An n cn) (.slice Ar m cr) g 0 0 (.slice none 0 0) (.slice none 0 0) (((w.alloc (.cells #[.slice An n cn, .slice Ar m cr] 39)).alloc (.cells #[.slice none 0 0, .slice none 0 0] 39)).alloc (.cells #[.slice none 0 0, .slice none 0 0] 39)) from
  ⟨((aj.new _ _ _).alloc _).alloc _,by have:=(aj.new (w.alloc (.cells #[.slice An n cn, .slice Ar m cr] 39)) 39 #[.slice none 0 0, .slice none 0 0]).alloc (.cells #[.slice none 0 0, .slice none 0 0] 39);simpa using this,
   by have:=aj.new ((w.alloc (.cells #[.slice An n cn, .slice Ar m cr] 39)).alloc (.cells #[.slice none 0 0, .slice none 0 0] 39)) 39 #[.slice none 0 0, .slice none 0 0];simpa using this,
   ⟨[],by simp,by simp,World.ownsRow_nil _ _ _ _⟩,⟨[],by simp,by simp,World.ownsRow_nil _ _ _ _⟩,(((Below.refl _ w).alloc (ab1 _) _).alloc (by simp) _).alloc (by simp;omega) _⟩)
 clear h hok hN hR hn hm hB hs;go_enter Tryz.func19,Tryz.ntmps19
 go_upto_region 3 with fail
 obtain ⟨W0,hW0⟩: ∃x,((w.alloc (.cells #[.slice An n cn, .slice Ar m cr] 39)).alloc (.cells #[.slice none 0 0, .slice none 0 0] 39)).alloc (.cells #[.slice none 0 0, .slice none 0 0] 39)=x:=⟨_,rfl⟩
 rw [hW0] at xW⊢;clear hW0
 go_loopg [4] n (fun kx s4 wr=> ∃(k:Nat) (A':Option Addr) (c':Nat),s4= .int .i64 k/\k+kx=n/\uZ w (.slice An n cn) (.slice Ar m cr) g k 0 (.slice A' k c') (.slice none 0 0) wr)
 case atStart=>exact ⟨0,_,_,rfl,by omega,xW.out⟩
 obtain ⟨k,A',c',rfl,hk,hc⟩:=hrel;have HC:=ah hc;obtain ⟨b0,b1⟩:=cells2 hc.box
 have o0:wr.cell? ⟨w.heap.size+1+1,0,none⟩=some (.slice A' k c'):=hc.out.cell 0
 clear xW hc;cases gk with
 | zero=>
  obtain rfl:k=n:=by omega
  have HC2:=ah HC.out;clear hk HC o0;go_wp2_with fail
  go_loopg [6] m (fun kx s6 wq=> ∃(j:Nat) (A2:Option Addr) (c2:Nat),s6= .int .i64 j/\j+kx=m/\uZ w (.slice An k cn) (.slice Ar m cr) g k j (.slice A' k c') (.slice A2 j c2) wq)
  case atStart=>exact ⟨0,_,_,rfl,by omega,HC2.out⟩
  obtain ⟨j,A2,c2,rfl,hk,hc⟩:=hrel;have HC:=ah hc;obtain ⟨b0,b1⟩:=cells2 hc.box
  obtain ⟨o0,o1⟩:=cells2 (show aj wr (w.heap.size+1+1) _ _ from hc.out)
  clear HC2 hc;cases gk with
  | zero=>
   obtain rfl:j=m:=by omega
   have hres:=HC.out.res;obtain ⟨q0,q1⟩:=cells2 hres;have f0:=hres.frozen 0
   have f1:=hres.frozen 1
   have hgo:iy wr w.heap.size (.agg #[.slice A' k c', .slice A2 j c2]) g:=by
    obtain ⟨ln,x1,x2,x3⟩:=HC.out.nx;obtain ⟨lr,y1,y2,y3⟩:=HC.out.rx
    exact ⟨_,_,ln,lr,rfl,by rw [x1,<-dF.out,amT],x2,by rw [dF.out];exact x3,by rw [y1,<-Wv.out,amT],y2,by rw [Wv.out];exact y3⟩
   have k4:=Kt.cell (base:=w.heap.size) hres (by omega) 0 (.slice A' k c')
   have hr4:=hres.aS 0 (.slice A' k c')
   have k5:=Kt.cell (base:=w.heap.size) hr4 (by omega) 1 (.slice A2 j c2)
   have k6:=k4.trans k5
   have HF:=ah (And.intro (hgo.kt k6 (by decide) (by decide) (by decide) (by decide) (by decide)) (And.intro (aj.cast (hr4.aS 1 (.slice A2 j c2)) (by simp):aj _ _ _ #[.slice A' k c', .slice A2 j c2]) (HC.out.bel.trans k6.bel)))
   clear hres hgo k4 hr4 k5 k6;go_wp2_with fail
   refine aaJ rfl (by simp) HF.out.2.1 ⟨_,rfl,HF.out.1,HF.out.2.2⟩
  | succ kq=>
   have hkn:j<m:=by omega
   have dD:(j:Int)<m:=by omega
   have pk:(0:Int)<=(j:Int):=by omega
   have tk:((j:Int)).toNat=j:=by omega
   obtain ⟨p,hp⟩: ∃p,g.au[j]?=some p:=⟨_,ab2 (by rw [Wv.out];exact hkn)⟩
   have hbw:=HC.out.bel;have hsz:=hbw.size;have hBw:=hbw.mono aH.out
   obtain ⟨b,o,cs,rfl,hlt,hnc,hl3,hcell⟩:=(HR.out.below hBw (ig.below hBw)) j p hp
   obtain ⟨Ap,cp,rfl,rp⟩:=hnc;have p0:=hcell 0 _ rfl;have p1:=hcell 1 _ rfl
   have p2:=hcell 2 _ rfl;have p3:=hcell 3 _ rfl;have p4:=hcell 4 _ rfl;rw [akz] at p0
   obtain ⟨pn,hpn⟩: ∃x,p.props.length=x:=⟨_,rfl⟩
   obtain ⟨zt,aO⟩: ∃z:ByteArray,(⟨p.type.toArray⟩:ByteArray)=z:=⟨_,rfl⟩
   have e0:ST p.type= .string zt:=by rw [<-aO];rfl
   rw [e0] at p1;rw [hpn] at p4
   obtain ⟨W5,iG⟩: ∃x,wr.alloc (.cells #[.int .i64 p.id, .string zt, .int .i64 p.src, .int .i64 p.dst, .slice Ap pn cp] 63)=x:=⟨_,rfl⟩
   obtain ⟨nb,hnb⟩: ∃x,wr.heap.size=x:=⟨_,rfl⟩
   have hb5:Below wr.heap.size wr W5:=iG▸(Below.refl _ wr).alloc (ab1 _) _
   have EM:w.heap.size<=W5.heap.size:=ab5 hsz hb5.size
   have hk5:aj W5 nb 63 #[.int .i64 p.id, .string zt, .int .i64 p.src, .int .i64 p.dst, .slice Ap pn cp]:=by rw [<-iG,<-hnb];exact aj.new _ _ _
   have yO:B<=W5.heap.size:=ab5 aH.out EM;have Ee:=ah (HC.out.below hb5)
   have kZ:=ah (show some nb≠(Value.slice A2 j c2).ownBlock from fun e=>by
    obtain ⟨_,_,_,hr⟩:=HC.out.rx;have:=(World.ownsRow.lt hr nb e.symm).2
    omega)
   have ou:=ah (show Below W5.heap.size W5 W5.drew from (Below.refl _ W5).drew)
   have bQ:=ah (abb B Ap cp pn p.props W5.drew ((rp.below (hb5.mono (ab5 aH.out hsz)) (aQ.below (hb5.mono (ab5 aH.out hsz)))).below (ou.out.mono yO) (aQ.below (ou.out.mono yO))) hpn (aK.out.rs p (acf hp)).ps (ab5 yO ou.out.size) (by rw [<-hpn];exact HS.out.rp p (acf hp)))
   have HKK:=ah (fun (X:World) (h:aj X nb 63 #[.int .i64 p.id, .string zt, .int .i64 p.src, .int .i64 p.dst, .slice Ap pn cp])=>cells5 h)
   have rJ:=ah (fun (X:World) (hb:Below W5.heap.size W5 X)=>show X.cell? ⟨w.heap.size+1+1,1,none⟩=some (.slice A2 j c2) from (Ee.out.below hb).out.cell 1)
   have dY:=ah hk5;have hl5:j<536870912:=by omega
   have e1:W5.cell? ⟨w.heap.size+1+1,1,none⟩=some (.slice A2 j c2):=rJ.out _ (Below.refl _ W5)
   obtain ⟨d0,d1,d2,d3,d4⟩:=cells5 hk5;have yF:=ah iG;have oM:=ah hnb;have HP:=ah hp
   have EO:=ah (And.intro e0 hpn);have Wx:=ah hk;have wS:=ah EM
   clear hcell iG hl3 hb5 hk5 rp hp hpn aO e0 yO hbw hsz hBw hlt hnb hk EM
   go_upto_region 11 with fail
   rw [yF.out];rw [oM.out];clear p0 p1 p2 p3 p4 b0 b1 o0 o1 HC
   have wU:=ah (fun (X:World) (h:aj X nb 63 #[.int .i64 p.id, .string zt, .int .i64 p.src, .int .i64 p.dst, .slice Ap pn cp]) (ho:X.cell? ⟨w.heap.size+1+1,1,none⟩=some (.slice A2 j c2))=>show X.cell? ⟨nb,0,none⟩=some (.int .i64 p.id)/\X.cell? ⟨nb,1,none⟩=some (.string zt)/\X.cell? ⟨nb,2,none⟩=some (.int .i64 p.src)/\X.cell? ⟨nb,3,none⟩=some (.int .i64 p.dst)/\X.cell? ⟨nb,4,none⟩=some (.slice Ap pn cp)/\X.cell? ⟨w.heap.size+1+1,1,none⟩=some (.slice A2 j c2) from by obtain ⟨q0,q1,q2,q3,q4⟩:=cells5 h;exact ⟨q0,q1,q2,q3,q4,ho⟩)
   refine abd 17 (fun w'=>w'.cell? ⟨nb,0,none⟩=some (.int .i64 p.id)/\w'.cell? ⟨nb,1,none⟩=some (.string zt)/\w'.cell? ⟨nb,2,none⟩=some (.int .i64 p.src)/\w'.cell? ⟨nb,3,none⟩=some (.int .i64 p.dst)/\w'.cell? ⟨nb,4,none⟩=some (.slice Ap pn cp)/\w'.cell? ⟨w.heap.size+1+1,1,none⟩=some (.slice A2 j c2)) (by kernel_rfl) (by kernel_rfl) (wU.out _ (dY.out.below ou.out dY.out.lt) (rJ.out _ ou.out)) (fun hHeld=> ?_)
   simp only [akt,akd]
   refine wpAnyH_take (i:=0) (v:= ?_) (by simp only [acz,acB,ab9];rfl) (by kernel_rfl) (by kernel_rfl) (by kernel_rfl) (by intro _ _ _ h;exact h) (Or.inl ⟨by rfl, ?_⟩) (by assumption) ?_
   rotate_left
   ·(intro wq hSw;(try dsimp only at hSw);(try go_simp);(try with_reducible rfl))
   (try simp only [Act.put,acH,acN,acO])
   refine wpAnyH_take (i:=1) (v:= ?_) (by simp only [acz,acB,ab9];rfl) (by kernel_rfl) (by kernel_rfl) (by kernel_rfl) (by intro _ _ _ h;exact h) (Or.inl ⟨by rfl, ?_⟩) (by assumption) ?_
   rotate_left
   ·(intro wq hSw;(try dsimp only at hSw);(try go_simp);(try with_reducible rfl))
   (try simp only [Act.put,acH,acN,acO])
   refine wpAnyH_take (i:=2) (v:= ?_) (by simp only [acz,acB,ab9];rfl) (by kernel_rfl) (by kernel_rfl) (by kernel_rfl) (by intro _ _ _ h;exact h) (Or.inl ⟨by rfl, ?_⟩) (by assumption) ?_
   rotate_left
   ·(intro wq hSw;(try dsimp only at hSw);(try go_simp);(try with_reducible rfl))
   (try simp only [Act.put,acH,acN,acO])
   refine wpAnyH_take (i:=3) (v:= ?_) (by simp only [acz,acB,ab9];rfl) (by kernel_rfl) (by kernel_rfl) (by kernel_rfl) (by intro _ _ _ h;exact h) (Or.inl ⟨by rfl, ?_⟩) (by assumption) ?_
   rotate_left
   ·(intro wq hSw;(try dsimp only at hSw);(try go_simp);(try with_reducible rfl))
   (try simp only [Act.put,acH,acN,acO])
   refine wpAnyH_take (i:=4) (v:= ?_) (by simp only [acz,acB,ab9];rfl) (by kernel_rfl) (by kernel_rfl) (by kernel_rfl) (by intro _ _ _ h;exact h) (Or.inl ⟨by rfl, ?_⟩) (by assumption) ?_
   rotate_left
   ·(intro wq hSw;(try dsimp only at hSw);(try go_simp);(try with_reducible rfl))
   (try simp only [Act.put,acH,acN,acO])
   refine wpAnyH_take (i:=5) (v:= ?_) (by simp only [acz,acB,ab9];rfl) (by kernel_rfl) (by kernel_rfl) (by kernel_rfl) (by intro _ _ _ h;exact h) (Or.inl ⟨by rfl, ?_⟩) (by assumption) ?_
   rotate_left
   ·(intro wq hSw;(try dsimp only at hSw);(try go_simp);(try with_reducible rfl))
   (try simp only [Act.put,acH,acN,acO])
   refine wpAnyH_take (i:=6) (v:= ?_) (by simp only [acz,acB,ab9];rfl) (by kernel_rfl) (by kernel_rfl) (by kernel_rfl) (by intro _ _ _ h;exact h) (Or.inl ⟨by rfl, ?_⟩) (by assumption) ?_
   rotate_left
   ·(intro wq hSw;(try dsimp only at hSw);(try go_simp);(try with_reducible rfl))
   (try simp only [Act.put,acH,acN,acO])
   refine wpAnyH_take (i:=7) (v:= ?_) (by simp only [acz,acB,ab9];rfl) (by kernel_rfl) (by kernel_rfl) (by kernel_rfl) (by intro _ _ _ h;exact h) (Or.inl ⟨by rfl, ?_⟩) (by assumption) ?_
   rotate_left
   ·(intro wq hSw;(try dsimp only at hSw);(try go_simp);(try with_reducible rfl))
   (try simp only [Act.put,acH,acN,acO])
   refine wpAnyH_take (i:=8) (v:= ?_) (by simp only [acz,acB,ab9];rfl) (by kernel_rfl) (by kernel_rfl) (by kernel_rfl) (by intro _ _ _ h;exact h) (Or.inl ⟨by rfl, ?_⟩) (by assumption) ?_
   rotate_left
   ·(intro wq hSw;(try dsimp only at hSw);(try go_simp);(try with_reducible rfl))
   (try simp only [Act.put,acH,acN,acO])
   refine wpAnyH_take (i:=9) (v:= ?_) (by simp only [acz,acB,ab9];rfl) (by kernel_rfl) (by kernel_rfl) (by kernel_rfl) (by intro _ _ _ h;exact h) (Or.inl ⟨by rfl, ?_⟩) (by assumption) ?_
   rotate_left
   ·(intro wq hSw;(try dsimp only at hSw);(try go_simp);(try with_reducible rfl))
   (try simp only [Act.put,acH,acN,acO])
   refine wpAnyH_take (i:=10) (v:= ?_) (by simp only [acz,acB,ab9];rfl) (by kernel_rfl) (by kernel_rfl) (by kernel_rfl) (by intro _ _ _ h;exact h) (Or.inl ⟨by rfl, ?_⟩) (by assumption) ?_
   rotate_left
   ·(intro wq hSw;(try dsimp only at hSw);(try go_simp);(try with_reducible rfl))
   (try simp only [Act.put,acH,acN,acO])
   refine wpAnyH_take (i:=11) (v:= ?_) (by simp only [acz,acB,ab9];rfl) (by kernel_rfl) (by kernel_rfl) (by kernel_rfl) (by intro _ _ _ h;exact h) (Or.inl ⟨by rfl, ?_⟩) (by assumption) ?_
   rotate_left
   ·(intro wq hSw;(try dsimp only at hSw);(try go_simp);(try with_reducible rfl))
   (try simp only [Act.put,acH,acN,acO])
   clear hHeld
   refine wpAnyH_ready (rs:= [12]) (by kernel_rfl) (by simp) (AllReadyH.cons (by simp only [acz,acB,ab9];rfl) (fun K hK=> ?_) AllReadyH.nil)
   go_simp
   go_at_call 40
   refine bQ.out.mono ?_;rintro e w7 ⟨v7,rfl,qh,hb7⟩
   have mF:=ou.out.trans (hb7.mono ou.out.size);have rE:=dY.out.below mF dY.out.lt
   have hv7:=qh.form;obtain ⟨A7,c7,rfl⟩:=hv7;rw [EO.out.2] at qh
   have qg:jB w7 w.heap.size (p, [.int .i64 p.id, .string zt, .int .i64 p.src, .int .i64 p.dst, .slice A7 pn c7]):=⟨_,by rw [EO.out.1],qh.base (ab5 wS.out ou.out.size)⟩
   have hx7:=(Ee.out.below mF).rel HP.out qg;obtain ⟨Wy,rD,hs7⟩:=hx7;have gu:=ah rD
   have gU:=ah hs7;have e4:=rJ.out _ mF
   have e5:=rJ.out _ (mF.alloc mF.size (.cells #[.int .i64 p.id, .string zt, .int .i64 p.src, .int .i64 p.dst, .slice A7 pn c7] 63))
   have yA:=ab5 wS.out mF.size;clear qg rD hs7 qh;rw [EO.out.2];go_wp2_with fail
   refine hK.out _ _ (wU.out _ rE e4) (fun hHeld=> ?_)
   clear hK K
   (try simp only [Act.put,acH,acN,acO])
   refine wpAnyH_take (i:=13) (v:= ?_) (by simp only [acz,acB,ab9];rfl) (by kernel_rfl) (by kernel_rfl) (by kernel_rfl) (by intro _ _ _ h;exact h) (Or.inl ⟨by rfl, ?_⟩) (by assumption) ?_
   rotate_left
   ·(intro wq hSw;(try dsimp only at hSw);(try go_simp);(try with_reducible rfl))
   (try simp only [Act.put,acH,acN,acO])
   clear hHeld
   refine wpAnyH_ready (rs:= [14]) (by kernel_rfl) (by simp) (AllReadyH.cons (by simp only [acz,acB,ab9];rfl) (fun K hK=> ?_) AllReadyH.nil)
   go_simp;refine hK.out _ _ (wU.out _ (rE.alloc _) e5) (fun hHeld=> ?_)
   clear hK K
   (try simp only [Act.put,acH,acN,acO])
   clear hHeld
   refine wpAnyH_ready (rs:= [15]) (by kernel_rfl) (by simp) (AllReadyH.cons (by simp only [acz,acB,ab9];rfl) (fun K hK=> ?_) AllReadyH.nil)
   refine FQ rfl (.tmp 49) (.tmp 62) 37 63 (.agg #[.int .i64 0, .string ⟨#[]⟩, .int .i64 0, .int .i64 0, .slice none 0 0]) 5 64 Tryz.underlying37 aas rfl (by decide) (by decide) rfl w.heap.size (.slice A2 j c2) j Wy w7 rfl gu.out [.int .i64 p.id, .string zt, .int .i64 p.src, .int .i64 p.dst, .slice A7 pn c7] _ rfl rfl (by simp [Value.oneCell']) rfl hl5 yA ?_
   intro v9 w9 bI bG jo aF;have tu:=gU.out w9 v9 bG bI;have hob:=tu.1;have WB:=ah tu.2
   have hk9:=rE.grown bG kZ.out;have uY:=aJ bI;obtain ⟨A9,c9,rfl⟩:=uY
   have f0:w9.cell? ⟨w.heap.size+1+1,1,none⟩=some (.slice A2 j c2):=hob.cell 1
   have f1:w9.frozen? ⟨w.heap.size+1+1,1,none⟩=false:=hob.frozen 1
   have hks:=hk9.grown (grownBy_set w9 ⟨w.heap.size+2,1,none⟩ (.slice A9 (j+1) c9)) (fun e=>by have e':=acE e;have hh:=(hk9.TT hob (by decide));exact hh e')
   refine hK.out _ _ (wU.out _ hk9 f0) (fun hHeld=> ?_)
   clear hK K
   (try simp only [Act.put,acH,acN,acO])
   refine wpAnyH_take (i:=16) (v:= ?_) (by simp only [acz,acB,ab9];rfl) (by kernel_rfl) (by kernel_rfl) (by kernel_rfl) (by intro _ _ _ h;exact h) (Or.inl ⟨by rfl, ?_⟩) (by assumption) ?_
   rotate_left
   ·(intro wq hSw;(try dsimp only at hSw);(try go_simp);(try with_reducible rfl))
   (try simp only [Act.put,acH,acN,acO])
   clear hHeld;refine wpAnyH_done (by kernel_rfl) ?_ _
   refine abe (by simp only [acz,acB,ab9];rfl) (fun K hK=> ?_)
   go_simp;refine hK.out _ _ ?_;clear hK K
   all_goals
    clear f0 f1 hob tu hks hk9 rE mF hb7 aF jo bI bG yA e4 e5 e1 HKK rJ bQ ou gu gU
    go_wp2_with fail
    go_roundg kq
    case measure=>omega
    exact ⟨j+1,A9,c9,rfl,by have:=Wx.out;omega,WB.out⟩
 | succ kq=>
  have hkn:k<n:=by omega
  have dD:(k:Int)<n:=by omega
  have pk:(0:Int)<=(k:Int):=by omega
  have tk:((k:Int)).toNat=k:=by omega
  obtain ⟨p,hp⟩: ∃p,g.nodes[k]?=some p:=⟨_,ab2 (by rw [dF.out];exact hkn)⟩
  have hbw:=HC.out.bel;have hsz:=hbw.size;have hBw:=hbw.mono aH.out
  obtain ⟨b,o,cs,rfl,hlt,hnc,hl3,hcell⟩:=(HN.out.below hBw (gZ.below hBw)) k p hp
  obtain ⟨Al,cl,Ap,cp,rfl,ra,rp⟩:=hnc;have p0:=hcell 0 _ rfl;have p1:=hcell 1 _ rfl
  have p2:=hcell 2 _ rfl;rw [akz] at p0;obtain ⟨ln,hln⟩: ∃x,p.labels.length=x:=⟨_,rfl⟩
  obtain ⟨pn,hpn⟩: ∃x,p.props.length=x:=⟨_,rfl⟩;rw [hln] at p1 ra;rw [hpn] at p2
  obtain ⟨W5,iG⟩: ∃x,wr.alloc (.cells #[.int .i64 p.id, .slice Al ln cl, .slice Ap pn cp] 59)=x:=⟨_,rfl⟩
  obtain ⟨nb,hnb⟩: ∃x,wr.heap.size=x:=⟨_,rfl⟩
  have hb5:Below wr.heap.size wr W5:=iG▸(Below.refl _ wr).alloc (ab1 _) _
  have EM:w.heap.size<=W5.heap.size:=ab5 hsz hb5.size
  have hk5:aj W5 nb 59 #[.int .i64 p.id, .slice Al ln cl, .slice Ap pn cp]:=by rw [<-iG,<-hnb];exact aj.new _ _ _
  have yO:B<=W5.heap.size:=ab5 aH.out EM;have Ee:=ah (HC.out.below hb5)
  have kZ:=ah (show some nb≠(Value.slice A' k c').ownBlock from fun e=>by
   obtain ⟨_,_,_,hr⟩:=HC.out.nx;have:=(World.ownsRow.lt hr nb e.symm).2
   omega)
  have Hl:=ah (show Below W5.heap.size W5 (W5.drew.alloc (.cells #[] 9)) from ((Below.refl _ W5).drew).alloc (ab1 _) _)
  have Cm:=ah (show (W5.drew.alloc (.cells #[] 9)).ownsRow W5.heap.size 9 1 (.slice (some ⟨W5.heap.size,0,none⟩) 0 0) 0 [] from qJ W5.drew 9 1)
  have jV:=ah ((ra.below (hb5.mono (ab5 aH.out hsz))).below (Hl.out.mono yO))
  have bQ:=ah (fun (X:World) (hb:Below W5.heap.size W5 X)=>abb B Ap cp pn p.props X ((rp.below (hb5.mono (ab5 aH.out hsz)) (aQ.below (hb5.mono (ab5 aH.out hsz)))).below (hb.mono yO) (aQ.below (hb.mono yO))) hpn (aK.out.ns p (acf hp)).ps (ab5 yO hb.size) (by rw [<-hpn];exact HS.out.np p (acf hp)))
  have HKK:=ah (fun (X:World) (h:aj X nb 59 #[.int .i64 p.id, .slice Al ln cl, .slice Ap pn cp])=>cells3 h)
  have rJ:=ah (fun (X:World) (hb:Below W5.heap.size W5 X)=>show X.cell? ⟨w.heap.size+1+1,0,none⟩=some (.slice A' k c') from (Ee.out.below hb).out.cell 0)
  have dY:=ah hk5;have lu:ln<=67108864:=by rw [<-hln];exact HS.out.l p (acf hp)
  have hl5:k<536870912:=by omega
  have e1:W5.cell? ⟨w.heap.size+1+1,0,none⟩=some (.slice A' k c'):=rJ.out _ (Below.refl _ W5)
  have e2:(W5.alloc (.cells #[] 9)).cell? ⟨w.heap.size+1+1,0,none⟩=some (.slice A' k c'):=rJ.out _ ((Below.refl _ W5).alloc (ab1 _) _)
  obtain ⟨d0,d1,d2⟩:=cells3 hk5;have yF:=ah iG;have oM:=ah hnb;have HP:=ah hp
  have EO:=ah (And.intro hln hpn);have Wx:=ah hk
  have wS:=ah (And.intro EM (show W5.heap.size<=(W5.drew.alloc (.cells #[] 9)).heap.size from Hl.out.size))
  clear hcell iG hl3 hb5 hk5 ra rp hp hln hpn yO hbw hsz hBw hlt hnb hk EM
  go_upto_region 6 with fail
  rw [yF.out];rw [oM.out];clear p0 p1 p2 b0 b1 o0 HC
  have wU:=ah (fun (X:World) (h:aj X nb 59 #[.int .i64 p.id, .slice Al ln cl, .slice Ap pn cp]) (ho:X.cell? ⟨w.heap.size+1+1,0,none⟩=some (.slice A' k c'))=>show X.cell? ⟨nb,0,none⟩=some (.int .i64 p.id)/\X.cell? ⟨nb,1,none⟩=some (.slice Al ln cl)/\X.cell? ⟨nb,2,none⟩=some (.slice Ap pn cp)/\X.cell? ⟨w.heap.size+1+1,0,none⟩=some (.slice A' k c') from by obtain ⟨q0,q1,q2⟩:=cells3 h;exact ⟨q0,q1,q2,ho⟩)
  refine abd 15 (fun w'=>w'.cell? ⟨nb,0,none⟩=some (.int .i64 p.id)/\w'.cell? ⟨nb,1,none⟩=some (.slice Al ln cl)/\w'.cell? ⟨nb,2,none⟩=some (.slice Ap pn cp)/\w'.cell? ⟨w.heap.size+1+1,0,none⟩=some (.slice A' k c')) (by kernel_rfl) (by kernel_rfl) (wU.out _ (dY.out.below ((Below.refl W5.heap.size W5).drew) dY.out.lt) (rJ.out _ ((Below.refl W5.heap.size W5).drew))) (fun hHeld=> ?_)
  simp only [akt,akd]
  refine wpAnyH_take (i:=0) (v:= ?_) (by simp only [acz,acB,ab9];rfl) (by kernel_rfl) (by kernel_rfl) (by kernel_rfl) (by intro _ _ _ h;exact h) (Or.inl ⟨by rfl, ?_⟩) (by assumption) ?_
  rotate_left
  ·(intro wq hSw;(try dsimp only at hSw);(try go_simp);(try with_reducible rfl))
  (try simp only [Act.put,acH,acN,acO])
  refine wpAnyH_take (i:=1) (v:= ?_) (by simp only [acz,acB,ab9];rfl) (by kernel_rfl) (by kernel_rfl) (by kernel_rfl) (by intro _ _ _ h;exact h) (Or.inl ⟨by rfl, ?_⟩) (by assumption) ?_
  rotate_left
  ·(intro wq hSw;(try dsimp only at hSw);(try go_simp);(try with_reducible rfl))
  (try simp only [Act.put,acH,acN,acO])
  refine wpAnyH_take (i:=2) (v:= ?_) (by simp only [acz,acB,ab9];rfl) (by kernel_rfl) (by kernel_rfl) (by kernel_rfl) (by intro _ _ _ h;exact h) (Or.inl ⟨by rfl, ?_⟩) (by assumption) ?_
  rotate_left
  ·(intro wq hSw;(try dsimp only at hSw);(try go_simp);(try with_reducible rfl))
  (try simp only [Act.put,acH,acN,acO])
  refine wpAnyH_take (i:=3) (v:= ?_) (by simp only [acz,acB,ab9];rfl) (by kernel_rfl) (by kernel_rfl) (by kernel_rfl) (by intro _ _ _ h;exact h) (Or.inl ⟨by rfl, ?_⟩) (by assumption) ?_
  rotate_left
  ·(intro wq hSw;(try dsimp only at hSw);(try go_simp);(try with_reducible rfl))
  (try simp only [Act.put,acH,acN,acO])
  refine wpAnyH_take (i:=5) (v:= ?_) (by simp only [acz,acB,ab9];rfl) (by kernel_rfl) (by kernel_rfl) (by kernel_rfl) (by intro _ _ _ h;exact h) (Or.inl ⟨by rfl, ?_⟩) (by assumption) ?_
  rotate_left
  ·(intro wq hSw;(try dsimp only at hSw);(try go_simp);(try with_reducible rfl))
  (try simp only [Act.put,acH,acN,acO])
  refine wpAnyH_take (i:=6) (v:= ?_) (by simp only [acz,acB,ab9];rfl) (by kernel_rfl) (by kernel_rfl) (by kernel_rfl) (by intro _ _ _ h;exact h) (Or.inl ⟨by rfl, ?_⟩) (by assumption) ?_
  rotate_left
  ·(intro wq hSw;(try dsimp only at hSw);(try go_simp);(try with_reducible rfl))
  (try simp only [Act.put,acH,acN,acO])
  refine wpAnyH_take (i:=8) (v:= ?_) (by simp only [acz,acB,ab9];rfl) (by kernel_rfl) (by kernel_rfl) (by kernel_rfl) (by intro _ _ _ h;exact h) (Or.inl ⟨by rfl, ?_⟩) (by assumption) ?_
  rotate_left
  ·(intro wq hSw;(try dsimp only at hSw);(try go_simp);(try with_reducible rfl))
  (try simp only [Act.put,acH,acN,acO])
  refine wpAnyH_take (i:=9) (v:= ?_) (by simp only [acz,acB,ab9];rfl) (by kernel_rfl) (by kernel_rfl) (by kernel_rfl) (by intro _ _ _ h;exact h) (Or.inl ⟨by rfl, ?_⟩) (by assumption) ?_
  rotate_left
  ·(intro wq hSw;(try dsimp only at hSw);(try go_simp);(try with_reducible rfl))
  (try simp only [Act.put,acH,acN,acO])
  clear hHeld
  refine wpAnyH_ready (rs:= [4]) (by kernel_rfl) (by simp) (AllReadyH.cons (by simp only [acz,acB,ab9];rfl) (fun K hK=> ?_) AllReadyH.nil)
  go_simp
  refine hK.out _ _ (wU.out _ (dY.out.below Hl.out dY.out.lt) (rJ.out _ Hl.out)) (fun hHeld=> ?_)
  clear hK K
  (try simp only [Act.put,acH,acN,acO])
  clear hHeld
  refine wpAnyH_ready (rs:= [7]) (by kernel_rfl) (by simp) (AllReadyH.cons (by simp only [acz,acB,ab9];rfl) (fun K hK=> ?_) AllReadyH.nil)
  refine ajl rfl (.tmp 25) (.tmp 27) rfl W5.heap.size (W5.drew.alloc (.cells #[] 9)) rfl Cm.out B Al ln cl p.labels rfl jV.out lu wS.out.2 ?_
  intro A6 c6 w6 KX uO
  have hq6:Below W5.heap.size W5 w6:=Hl.out.grown uO wS.out.2 (fun j e=>by cases e;exact ab1 _)
  have hk6:=dY.out.below hq6 dY.out.lt;have D6:=ah KX;have e3:=rJ.out _ hq6;clear KX uO
  refine hK.out _ _ (wU.out _ hk6 e3) (fun hHeld=> ?_)
  clear hK K
  (try simp only [Act.put,acH,acN,acO])
  clear hHeld
  refine wpAnyH_ready (rs:= [10]) (by kernel_rfl) (by simp) (AllReadyH.cons (by simp only [acz,acB,ab9];rfl) (fun K hK=> ?_) AllReadyH.nil)
  go_simp
  go_at_call 40
  refine (bQ.out _ hq6).mono ?_;rintro e w7 ⟨v7,rfl,qh,hb7⟩
  have mF:=hq6.trans (hb7.mono hq6.size);have rE:=dY.out.below mF dY.out.lt
  have hv7:=qh.form;obtain ⟨A7,c7,rfl⟩:=hv7;rw [EO.out.2] at qh
  have yN:w7.ownsRow w.heap.size 9 1 (.slice A6 ln c6) p.labels.length (p.labels.map ST):=(by rw [EO.out.1];exact own_base (own_below D6.out hb7) wS.out.1)
  have qg:jA w7 w.heap.size (p, [.int .i64 p.id, .slice A6 ln c6, .slice A7 pn c7]):=⟨_,_,rfl,yN,qh.base (ab5 wS.out.1 hq6.size)⟩
  have hx7:=(Ee.out.below mF).node HP.out qg;obtain ⟨Wy,rD,hs7⟩:=hx7;have gu:=ah rD
  have gU:=ah hs7;have e4:=rJ.out _ mF
  have e5:=rJ.out _ (mF.alloc mF.size (.cells #[.int .i64 p.id, .slice A6 ln c6, .slice A7 pn c7] 59))
  have yA:=ab5 wS.out.1 mF.size;clear qg rD hs7 qh;rw [EO.out.2];go_wp2_with fail
  refine hK.out _ _ (wU.out _ rE e4) (fun hHeld=> ?_)
  clear hK K
  (try simp only [Act.put,acH,acN,acO])
  refine wpAnyH_take (i:=11) (v:= ?_) (by simp only [acz,acB,ab9];rfl) (by kernel_rfl) (by kernel_rfl) (by kernel_rfl) (by intro _ _ _ h;exact h) (Or.inl ⟨by rfl, ?_⟩) (by assumption) ?_
  rotate_left
  ·(intro wq hSw;(try dsimp only at hSw);(try go_simp);(try with_reducible rfl))
  (try simp only [Act.put,acH,acN,acO])
  clear hHeld
  refine wpAnyH_ready (rs:= [12]) (by kernel_rfl) (by simp) (AllReadyH.cons (by simp only [acz,acB,ab9];rfl) (fun K hK=> ?_) AllReadyH.nil)
  go_simp;refine hK.out _ _ (wU.out _ (rE.alloc _) e5) (fun hHeld=> ?_)
  clear hK K
  (try simp only [Act.put,acH,acN,acO])
  clear hHeld
  refine wpAnyH_ready (rs:= [13]) (by kernel_rfl) (by simp) (AllReadyH.cons (by simp only [acz,acB,ab9];rfl) (fun K hK=> ?_) AllReadyH.nil)
  refine FQ rfl (.tmp 22) (.tmp 33) 36 59 (.agg #[.int .i64 0, .slice none 0 0, .slice none 0 0]) 3 56 Tryz.underlying36 aar rfl (by decide) (by decide) rfl w.heap.size (.slice A' k c') k Wy w7 rfl gu.out [.int .i64 p.id, .slice A6 ln c6, .slice A7 pn c7] _ rfl rfl (by simp [Value.oneCell']) rfl hl5 yA ?_
  intro v9 w9 bI bG jo aF;have tu:=gU.out w9 v9 bG bI;have hob:=tu.1;have WB:=ah tu.2
  have hk9:=rE.grown bG kZ.out;have uY:=aJ bI;obtain ⟨A9,c9,rfl⟩:=uY
  have f0:w9.cell? ⟨w.heap.size+1+1,0,none⟩=some (.slice A' k c'):=hob.cell 0
  have f1:w9.frozen? ⟨w.heap.size+1+1,0,none⟩=false:=hob.frozen 0
  have hks:=hk9.grown (grownBy_set w9 ⟨w.heap.size+2,0,none⟩ (.slice A9 (k+1) c9)) (fun e=>by have e':=acE e;have hh:=(hk9.TT hob (by decide));exact hh e')
  refine hK.out _ _ (wU.out _ hk9 f0) (fun hHeld=> ?_)
  clear hK K
  (try simp only [Act.put,acH,acN,acO])
  refine wpAnyH_take (i:=14) (v:= ?_) (by simp only [acz,acB,ab9];rfl) (by kernel_rfl) (by kernel_rfl) (by kernel_rfl) (by intro _ _ _ h;exact h) (Or.inl ⟨by rfl, ?_⟩) (by assumption) ?_
  rotate_left
  ·(intro wq hSw;(try dsimp only at hSw);(try go_simp);(try with_reducible rfl))
  (try simp only [Act.put,acH,acN,acO])
  clear hHeld;refine wpAnyH_done (by kernel_rfl) ?_ _
  refine abe (by simp only [acz,acB,ab9];rfl) (fun K hK=> ?_)
  go_simp;refine hK.out _ _ ?_;clear hK K
  all_goals
   clear f0 f1 hob tu hks hk9 rE hk6 mF hq6 hb7 aF jo bI bG yA e3 e4 e5 e1 e2 HKK rJ bQ Cm jV Hl D6 gu gU
   go_wp2_with fail
   go_roundg kq
   case measure=>omega
   exact ⟨k+1,A9,c9,rfl,by have:=Wx.out;omega,WB.out⟩
end Go.Proofs.YtoofbflplhbpbaaGreatDoor
namespace Go.Proofs.YtoofbflplhbpbaaGreatDoor.Gr
open Go
def Asc (l:List L):Prop:=l.Pairwise (· < ·)
theorem ajp {l:List L} (h:Asc l):l.Nodup:=List.Pairwise.imp (fun {a b} h e=>by subst e;exact ao1 _ h) h
structure jI (a b:List L) (i j:Nat) (out:List L):Prop where
 KZ:Asc out
 mem: ∀x,x∈out↔x∈a.take i\/x∈b.take j
 le: ∀x∈out,(∀y∈a.drop i,x<=y)/\(∀y∈b.drop j,x<=y)
theorem jI.start (a b:List L):jI a b 0 0 []:=⟨List.Pairwise.nil,fun x=>by simp,fun x h=>by simp at h⟩
theorem jI.symm {a b:List L} {i j:Nat} {out:List L} (h:jI a b i j out):jI b a j i out:=
 ⟨h.KZ,fun x=>(h.mem x).trans Or.comm,fun x hx=>⟨(h.le x hx).2,(h.le x hx).1⟩⟩
theorem abf {a:List L} {i:Nat} {x:L} (hx:a[i]?=some x) (y:L):y∈a.take (i+1)↔y∈a.take i\/y=x:=by
 rw [adZ,hx];simp
theorem abg {a:List L} {i:Nat} {x:L} (ha:Asc a) (hx:a[i]?=some x): ∀y∈a.drop (i+1),x<y:=fun y hy=>by
 obtain ⟨hi,e⟩:=acy.1 hx;have:(a.drop i).Pairwise (· < ·):=al0 (aoQ i a) ha
 rw [adC hi,e] at this;exact (List.pairwise_cons.1 this).1 y hy
theorem jI.step {a b:List L} {i j:Nat} {out:List L} {x:L} (h:jI a b i j out) (ha:Asc a) (hx:a[i]?=some x) (hb: ∀y∈b.drop j,x<=y):
  (out.getLast?=some x->jI a b (i+1) j out)/\(out.getLast?≠some x->jI a b (i+1) j (out ++ [x])):=by
 have hin:x∈a.drop i:=by
  obtain ⟨hi,e⟩:=acy.1 hx;rw [adC hi,e];simp
 have hsub: ∀y∈a.drop (i+1),y∈a.drop i:=fun y hy=>by
  obtain ⟨hi,e⟩:=acy.1 hx;rw [adC hi];exact ada _ hy
 constructor
 ·intro hl
  refine ⟨h.KZ,fun y=> ?_,fun y hy=>⟨fun z hz=>(h.le y hy).1 z (hsub z hz),(h.le y hy).2⟩⟩
  rw [abf hx,h.mem]
  constructor
  ·rintro (h1 | h1)
   ·exact .inl (.inl h1)
   exact .inr h1
  rintro ((h1 | rfl) | h1)
  ·exact .inl h1
  ·exact (h.mem _).1 (List.mem_of_getLast? hl)
  exact .inr h1
 intro hl;refine ⟨alK.2 ⟨h.KZ,by simp,fun y hy z hz=> ?_⟩,fun y=> ?_,fun y hy=> ?_⟩
 ·rw [adg.1 hz]
  have hle:=(h.le y hy).1 x hin
  rcases List.le_iff_lt_or_eq.1 hle with h1 | rfl
  ·exact h1
  exfalso
  cases out with
  | nil=>simp at hy
  | cons o r=>
   obtain ⟨q,hq⟩: ∃q,(o :: r).getLast?=some q:=⟨_,List.getLast?_eq_some_getLast (by simp)⟩
   have hqm:=List.mem_of_getLast? hq;have hqx:=(h.le q hqm).1 y hin
   have hyq:y<=q:=by
    obtain ⟨ys,e⟩:=List.getLast?_eq_some_iff.1 hq;have hp:=h.KZ;unfold Asc at hp
    rw [e] at hp hy
    rcases acU.1 hy with h1 | h1
    ·exact anI ((alK.1 hp).2.2 y h1 q (by simp))
    rw [adg.1 h1];exact List.le_refl _
   exact hl (by rw [hq,List.le_antisymm hqx hyq])
 ·rw [acU,h.mem,abf hx,adg]
  constructor
  ·rintro ((h1 | h1) | h1)
   ·exact .inl (.inl h1)
   ·exact .inr h1
   exact .inl (.inr h1)
  rintro ((h1 | h1) | h1)
  ·exact .inl (.inl h1)
  ·exact .inr h1
  exact .inl (.inr h1)
 rcases acU.1 hy with h1 | h1
 ·exact ⟨fun z hz=>(h.le y h1).1 z (hsub z hz),(h.le y h1).2⟩
 rw [adg.1 h1];exact ⟨fun z hz=>anI (abg ha hx z hz),hb⟩
theorem abh {b:List L} {j:Nat} {x y:L} (hb:Asc b) (hy:b[j]?=some y) (h:x<=y): ∀z∈b.drop j,x<=z:=fun z hz=>by
 obtain ⟨hj,e⟩:=acy.1 hy;rw [adC hj,e] at hz
 rcases adK.1 hz with rfl | h1
 ·exact h
 exact ao5 h (anI (abg hb hy z h1))
theorem jI.done {a b out:List L} (h:jI a b a.length b.length out) {s:List L} (hs: ∀x,x∈s↔x∈a\/x∈b):Asc out/\ ∀x,x∈out↔x∈s:=
 ⟨h.KZ,fun x=>by rw [h.mem,hs,amT,amT]⟩
def bg (s out:List L):Prop:=Asc out/\ ∀x,x∈out↔x∈s
theorem bg.length {s out:List L} (h:bg s out):out.length=(dedup s).length:=agH (ajp h.1) h.2
theorem bg.small {s:List L} (h:s.length<2):bg s s:=by
 match s,h with
 | [],_=>exact ⟨List.Pairwise.nil,fun x=>Iff.rfl⟩
 | [a],_=>exact ⟨by unfold Asc;simp,fun x=>Iff.rfl⟩
end Go.Proofs.YtoofbflplhbpbaaGreatDoor.Gr
namespace Go.Proofs.YtoofbflplhbpbaaGreatDoor
open Go.RowKit
def letters:List UInt8:= [97,98,99,100,101,102,103,104,105,106,107,108,109,110,111,112,113,114,115,116,117,118,119,120,121,122,65,66,67,68,69,70,71,72,73,74,75,76,77,78,79,80,81,82,83,84,85,86,87,88,89,90,95,48,49,50,51,52,53,54,55,56,57]
def vS (c:UInt8):Nat:=letters.findIdx (· == c)
def abj (n:Nat):Bool:=decide (vS (UInt8.ofNat n)<=63) &&(decide (vS (UInt8.ofNat n)=63) == !Lex.bV (UInt8.ofNat n)) &&(decide (52<vS (UInt8.ofNat n)) ==(!Lex.bV (UInt8.ofNat n) || Num.aP (UInt8.ofNat n)))
theorem ajq:(List.range 256).all abj=true:=by kernel_rfl
theorem F5 (c:UInt8):vS c<=63/\(vS c=63↔Lex.bV c=false)/\(52<vS c↔Lex.bV c=false\/Num.aP c=true):=by
 have h:=akC.1 ajq c.toNat (aoG.2 c.toNat_lt);unfold abj at h;rw [akE] at h
 simp only [adr,acZ,adp] at h;obtain ⟨⟨h1,h2⟩,h3⟩:=h;refine ⟨h1, ?_, ?_⟩
 ·exact ⟨fun e=>by rw [abW e] at h2;simpa using h2.symm,fun e=>by rw [e] at h2;simpa using h2⟩
 exact ⟨fun e=>by rw [abW e] at h3;simpa using h3.symm,fun e=>by
  have h4:(!Lex.bV c || Num.aP c)=true:=by rcases e with e | e<;> simp [e]
  rw [h4] at h3;simpa using h3⟩
theorem pos_at {c:UInt8} (h:vS c<63):letters[vS c]?=some c:=by
 have hl:vS c<letters.length:=h;rw [ab2 hl];have:=List.findIdx_getElem (w:=hl)
 exact ab8 some (adp.1 this)
theorem ajr {c:UInt8} {j:Nat} (h:j<vS c): ∃d,letters[j]?=some d/\d≠c:=by
 have hl:j<letters.length:=adf h (F5 c).1;refine ⟨_,ab2 hl, ?_⟩
 have:=List.not_of_lt_findIdx h
 simpa using this
theorem abk {j:Nat} {d:UInt8} (hj:j<63) (h:letters[j]?=some d):(⟨#[97,98,99,100,101,102,103,104,105,106,107,108,109,110,111,112,113,114,115,116,117,118,119,120,121,122,65,66,67,68,69,70,71,72,73,74,75,76,77,78,79,80,81,82,83,84,85,86,87,88,89,90,95,48,49,50,51,52,53,54,55,56,57]⟩:ByteArray)[j]'hj=d:=
 acE ((AZ (⟨#[97,98,99,100,101,102,103,104,105,106,107,108,109,110,111,112,113,114,115,116,117,118,119,120,121,122,65,66,67,68,69,70,71,72,73,74,75,76,77,78,79,80,81,82,83,84,85,86,87,88,89,90,95,48,49,50,51,52,53,54,55,56,57]⟩:ByteArray) j hj).symm.trans h)
theorem TI (s:ByteArray) (w:World) (hs:s.size<=1073741824):
  Calls Tryz.prog 57 #[.string s] w fun e w'=>e= .returned (.bool (Gr.dw s.data.toList))/\Below w.heap.size w w':=by
 obtain ⟨R,hR⟩: ∃R,Gr.dw s.data.toList=R:=⟨_,rfl⟩;rw [hR];have HR:=ah hR;clear hR
 have hl:=Lib.size_eq s;have hg:=fun (k:Nat) (h:k<s.size)=>AZ s k h
 obtain ⟨n,hn⟩: ∃n,s.size=n:=⟨_,rfl⟩;rw [hn] at hl hs;have hu:=ug;by_cases h0:n=0
 ·subst h0
  have hr:R=false:=by rw [<-HR.out,acD hl.symm];exact Z4
  have HRR:=ah hr;clear hr hl hg hs;go_enter Tryz.func57,Tryz.ntmps57;go_wp2;go_ret
  exact ⟨by rw [HRR.out];rfl,Below.refl _ _⟩
 have h0i:(1:Int)<=n:=by omega
 have t1:decide ((n:Int)<1)=false:=abX (by omega)
 by_cases jT:40<n
 ·have JI:(40:Int)<n:=by omega
  have t40:decide ((40:Int)<n)=true:=abW JI
  have hr:R=false:=by rw [<-HR.out];exact Z5 (by omega)
  have HRR:=ah hr;clear hr hl hg h0 jT hs;go_enter Tryz.func57,Tryz.ntmps57;go_wp2;go_ret
  exact ⟨by rw [HRR.out];rfl,Below.refl _ _⟩
 have JI:(n:Int)<=40:=by omega
 have t40:decide ((40:Int)<n)=false:=abX (by omega)
 have HG:=ah hg;have HN:=ah hn;have dR:=ah hl;have HU:=ah hu;clear hg hl
 go_enter Tryz.func57,Tryz.ntmps57;go_wp2_with fail
 go_loopg [3] n (fun kx x wr=> ∃k:Nat,x= .int .i64 k/\k+kx=n/\Below w.heap.size w wr/\Hid (∀(j:Nat) d,j<k->s.data.toList[j]?=some d->Lex.bV d=true/\(j=0->Num.aP d=false)))
 case atStart=>exact ⟨0,rfl,by omega,by first | exact Below.refl _ _ | exact (Below.refl _ _).drew,fun j d h=>absurd h (Nat.not_lt_zero _)⟩
 obtain ⟨k,rfl,hk,hb,hI⟩:=hrel;have HB:=ah hb;clear hb;cases gk with
 | zero=>
  obtain rfl:k=n:=by omega
  have hr:R=true:=by
   rw [<-HR.out];have hlt:0<s.size:=by rw [HN.out];omega
   have h0:=HG.out 0 hlt
   exact Z9 h0 ((hI.out 0 _ (by omega) h0).2 rfl) (by rw [<-dR.out];omega) (fun j d hj=>(hI.out j d (by have:=(acy.1 hj).1;rw [<-dR.out] at this;exact this) hj).1)
  have HRR:=ah hr;clear hr;go_wp2;go_ret;exact ⟨by rw [HRR.out];rfl,HB.out⟩
 | succ kq=>
  have hkn:k<s.size:=by rw [HN.out];omega
  have dD:(k:Int)<n:=by omega
  have pk:(0:Int)<=(k:Int):=by omega
  have tk:((k:Int)).toNat=k:=by omega
  obtain ⟨c,hc⟩: ∃c,s[k]'hkn=c:=⟨_,rfl⟩
  have HC:=ah (show s.data.toList[k]?=some c by rw [<-hc];exact HG.out k hkn)
  obtain ⟨q,hq⟩: ∃q,vS c=q:=⟨_,rfl⟩;have HQ:=ah hq;have aoa:q<=63:=hq▸(F5 c).1;clear hq
  go_wp2_with fail
  go_loopg [4] q (fun jx x wr=> ∃j:Nat,x= .int .i64 j/\j+jx=q/\Below w.heap.size w wr)
  case atStart=>exact ⟨0,rfl,by omega,HB.out⟩
  obtain ⟨j,rfl,hj,hb⟩:=hrel;have HB2:=ah hb;clear hb;cases gk with
  | zero=>
   obtain rfl:j=q:=by omega
   have pj:(0:Int)<=(j:Int):=by omega
   have ttj:((j:Int)).toNat=j:=by omega
   by_cases h63:j=63
   ·subst h63
    have hr:R=false:=by rw [<-HR.out];exact Z8 HC.out ((F5 c).2.1.1 HQ.out)
    have HRR:=ah hr;clear hr hj pj ttj hk
    go_upto_region 7 with fail
    go_quiet (fail)
    go_wp2_with fail;go_ret
    exact ⟨by rw [HRR.out];rfl,by first | exact HB2.out | exact below_drewN HB2.out _⟩
   have hjn:j<63:=by omega
   have lT:(j:Int)<63:=by omega
   have tj:decide ((j:Int)<63)=true:=abW lT
   have t63:((j:Int) == 63)=false:=ab3.2 (by omega)
   have hd:=abk hjn (show letters[j]?=some c by rw [<-HQ.out];exact pos_at (by rw [HQ.out];exact hjn))
   have tn:((c.toNat:Int) !=c.toNat)=false:=by simp
   have hw:Lex.bV c=true:=by
    cases h:Lex.bV c with
    | true=>rfl
    | false=>exact absurd (HQ.out.symm.trans ((F5 c).2.1.2 h)) h63
   by_cases hdig:k=0/\52<j
   ·obtain ⟨rfl,h52⟩:=hdig
    have t52:decide ((52:Int)<j)=true:=abW (by omega)
    have aob:(52:Int)<j:=by omega
    have hr:R=false:=by
     rw [<-HR.out];refine Z7 HC.out ?_
     rcases (F5 c).2.2.1 (by rw [HQ.out];exact h52) with h | h
     ·rw [h] at hw;cases hw
     exact h
    have HRR:=ah hr;clear hr hj hk hw h63 h52
    go_upto_region 7 with fail
    go_quiet (fail)
    go_wp2_with fail;go_ret
    exact ⟨by rw [HRR.out];rfl,by first | exact HB2.out | exact below_drewN HB2.out _⟩
   have HI2:=ah (show∀(i:Nat) d,i<k+1->s.data.toList[i]?=some d->Lex.bV d=true/\(i=0->Num.aP d=false) from fun i d hi he=>by
    by_cases e:i=k
    ·subst e
     rw [HC.out] at he;cases he;refine ⟨hw,fun e0=> ?_⟩
     cases h:Num.aP c with
     | false=>rfl
     | true=>exact absurd ⟨e0,by have:=(F5 c).2.2.2 (.inr h);rw [HQ.out] at this;exact this⟩ hdig
    exact hI.out i d (by omega) he)
   have HK:=ah hk
   have hor:k≠0\/(k=0/\ ¬52<j):=by
    by_cases e:k=0
    ·exact .inr ⟨e,fun h=>hdig ⟨e,h⟩⟩
    exact .inl e
   clear hj hk hw h63 hdig
   rcases hor with e |⟨rfl,e⟩
   ·have tk0:((k:Int) == 0)=false:=ab3.2 (by omega)
    have tk1:(k:Int)≠0:=by omega
    clear e
    go_upto_region 7 with fail
    go_quiet (fail)
    go_wp2_with fail
    go_roundg kq
    case measure=>omega
    exact ⟨k+1,by simp,by have:=HK.out;omega,by first | exact HB2.out | exact below_drewN HB2.out _,HI2.out⟩
   have t52:decide ((52:Int)<j)=false:=abX (by omega)
   have aoc:(j:Int)<=52:=by omega
   clear e
   go_upto_region 7 with fail
   go_quiet (fail)
   go_wp2_with fail
   go_roundg kq
   case measure=>omega
   exact ⟨1,by simp,by have:=HK.out;omega,by first | exact HB2.out | exact below_drewN HB2.out _,HI2.out⟩
  | succ jq=>
   have hjn:j<63:=by omega
   have lT:(j:Int)<63:=by omega
   have tj:decide ((j:Int)<63)=true:=abW lT;have pj:(0:Int)<=(j:Int):=by omega
   have ttj:((j:Int)).toNat=j:=by omega
   obtain ⟨d,hd,hne⟩:=ajr (c:=c) (j:=j) (by rw [HQ.out];omega)
   have hd:=abk hjn hd
   have tn:((d.toNat:Int) !=c.toNat)=true:=by
    rw [acV];intro e;exact hne (ad8.1 (Int.ofNat.inj e))
   have HJ:=ah hj;clear hj hne hk
   go_upto_region 7 with fail
   go_quiet (fail)
   go_wp2_with fail
   go_roundg jq
   case measure=>omega
   exact ⟨j+1,by simp,by have:=HJ.out;omega,by first | exact HB2.out | exact below_drewN HB2.out _⟩
end Go.Proofs.YtoofbflplhbpbaaGreatDoor
