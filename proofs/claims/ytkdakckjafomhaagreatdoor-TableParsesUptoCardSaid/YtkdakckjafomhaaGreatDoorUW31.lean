/- Contracts and plain laws,part 31. -/
import Derived.Test.YtkdakckjafomhaaGreatDoorUW29
set_option maxHeartbeats 64000000
set_option maxRecDepth 1000000
set_option linter.all false
namespace Go.Proofs.YtkdakckjafomhaaGreatDoor
open Go.RowKit
theorem ak4 (B:Nat) (A1 A2:Option Addr) (c1 c2 n:Nat) (ls:List (List UInt8)) (w:World) (h1:Reads w B 1 A1 n (ls.map ST)) (h2:Reads w B 1 A2 n (ls.map ST)) (hB:B<=w.heap.size) (hn:n<=1073741824):
  Calls Tryz.prog 19 #[.slice A1 n c1,.slice A2 n c2] w fun e w'=>e=.returned (.bool true)/\Below w.heap.size w w':=by
 have H1:=ah h1;have H2:=ah h2;clear h1 h2 hB;go_enter Tryz.func19,Tryz.ntmps19
 go_wp2_with fail
 go_loopg [5] n (fun g x wr=> ∃k m:Nat,x=.int .i64 k/\k+g=n/\w.drewN m=wr)
 case atStart=>exact⟨0,0,rfl,by omega,rfl⟩
 obtain⟨k,m,rfl,hk,rfl⟩:=hrel;cases gk with
 |zero=>
  obtain rfl:k=n:=by omega
  clear hk;go_wp2;go_ret;exact⟨rfl,below_drewN (Below.refl _ _) _⟩
 |succ g=>
  have hkn:k<n:=by omega
  have dH:(k:Int)<n:=by omega
  obtain⟨p,o,x,rfl,-,hx,hp⟩:=H1.cell hkn;obtain⟨p',o',x',rfl,-,hx',hp'⟩:=H2.cell hkn
  rw[hx]at hx';obtain rfl:x=x':=ad4 hx';rw[adX]at hx;obtain⟨y,-,rfl⟩:=ae4.1 hx
  unfold ST at hp hp';have HK:=ah hk;clear hx hx' hk;go_wp2_with fail
  go_quiet (fail)
  go_wp2
  go_roundg g
  case measure=>omega
  exact⟨k+1,m+nq,int_eq' (by omega),by have:=HK.out;omega,rfl⟩
theorem ach (B:Nat) (A1 A2:Option Addr) (c1 c2 n:Nat) (ps:List Gr.P) (w:World) (h1:bY w B 6 (aX w B) A1 ps) (h2:bY w B 6 (aX w B) A2 ps) (hl:ps.length=n) (hok: ∀p∈ps,uF p) (hB:B<=w.heap.size) (hn:n<=1073741824):
  Calls Tryz.prog 20 #[.slice A1 n c1,.slice A2 n c2] w fun e w'=>e=.returned (.bool true)/\Below w.heap.size w w':=by
 have H1:=ah h1;have H2:=ah h2;have HL:=ah hl;have aV:=ah hok;have aK:=ah hB;have hu:=lM
 clear h1 h2 hB hl hok;go_enter Tryz.func20,Tryz.ntmps20;go_wp2_with fail
 go_loopg [5] n (fun g x wr=> ∃k:Nat,x=.int .i64 k/\k+g=n/\Hid (Below w.heap.size w wr))
 case atStart=>exact⟨0,rfl,by omega,Below.refl _ _⟩
 obtain⟨k,rfl,hk,hb⟩:=hrel;have HB:Hid (Below w.heap.size w wr):=hb;clear hb
 cases gk with
 |zero=>
  obtain rfl:k=n:=by omega
  clear hk;go_wp2;go_ret;exact⟨rfl,HB.out⟩
 |succ g=>
  have hkn:k<n:=by omega
  have dH:(k:Int)<n:=by omega
  obtain⟨p,hp⟩: ∃p,ps[k]?=some p:=⟨_,dF (by rw[HL.out];exact hkn)⟩
  have hBw:=HB.mono aK.out
  obtain⟨b,o,An,cn,At,ct,rfl,hlt,⟨p0,p1,p2,p3,p4,p5⟩,ra,rb⟩:=(H1.below hBw (aX.below hBw)).prop hp
  obtain⟨b',o',nK,lF,nM,lG,rfl,hlt',⟨q0,q1,q2,q3,q4,q5⟩,BN,tJ⟩:=(H2.below hBw (aX.below hBw)).prop hp
  have gZ:=aV.out p (adI hp);have hsz:=adg aK.out HB.size
  have hvs:=fun(n:Nat) (os:Array Obj)=>ajn (ahM B _ _ p.val (wide wr n os) ((Df (cn:=cn) (ct:=ct) gZ.val ra rb).below ((JW wr n os).mono hsz)) ((Df (cn:=lF) (ct:=lG) gZ.val BN tJ).below ((JW wr n os).mono hsz)) (adg hsz (Ua wr n os)))
  simp only[ST]at p0 p3 q0 q3 hvs;obtain⟨z1,hz1⟩:=aj (⟨p.key.toArray⟩:ByteArray)
  obtain⟨z2,hz2⟩:=aj (⟨p.val.text.toArray⟩:ByteArray);rw[hz1]at p0 q0
  rw[hz2]at p3 q3 hvs;have g0:=vg (adW hlt hsz) p0;have g1:=vg (adW hlt hsz) p1
  have g2:=vg (adW hlt hsz) p2;have g3:=vg (adW hlt hsz) p3;have g4:=vg (adW hlt hsz) p4
  have g5:=vg (adW hlt hsz) p5;have h0:=vg (adW hlt' hsz) q0;have h1:=vg (adW hlt' hsz) q1
  have h2:=vg (adW hlt' hsz) q2;have h3:=vg (adW hlt' hsz) q3
  have h4:=vg (adW hlt' hsz) q4;have h5:=vg (adW hlt' hsz) q5;have HVS:=ah hvs
  have HK:=ah hk
  clear ra rb BN tJ gZ hvs hz1 hz2 hp p0 p1 p2 p3 p4 p5 q0 q1 q2 q3 q4 q5 hlt hlt' hk hsz hBw
  go_wp2_with fail;refine ajo (by kernel_rfl) (by kernel_rfl) ?_
  repeat (quiet_step (first|exact HVS.out _ _|fail))
  refine wpQuiet_nil ?_;rintro _ ⟨⟨qn,qos⟩,rfl⟩
  have HB2:=ah (HB.trans ((JW wr qn qos).mono HB.size))
  clear g0 g1 g2 g3 g4 g5 h0 h1 h2 h3 h4 h5 HVS;go_wp2_with fail
  go_roundg g
  case measure=>omega
  exact⟨k+1,int_eq' (by omega),by have:=HK.out;omega,HB2.out⟩
structure um (T:TypeId) (c1 c2:Array Value) (W:World) (b1 b2:Nat) (V:World):Prop where
 k1:au V b1 T c1
 k2:au V b2 T c2
 bel:Below W.heap.size W V
theorem um.one (T:TypeId) (c1 c2:Array Value) (W:World):um T c1 c2 W W.heap.size (W.heap.size+1) ((W.alloc (.cells c1 T)).alloc (.cells c2 T)).drew:=by
 have h2:=au.new (W.alloc (.cells c1 T)) T c2;rw[World.size_alloc]at h2
 exact⟨(au.new W T c1).alloc _,h2,(((Below.refl _ W).alloc (ac4 _) _).alloc (by simp) _).drew⟩
theorem um.two (T:TypeId) (c1 c2:Array Value) (W:World):um T c1 c2 W (W.heap.size+1) W.heap.size ((W.alloc (.cells c2 T)).alloc (.cells c1 T)).drew:=
 ⟨(um.one T c2 c1 W).k2,(um.one T c2 c1 W).k1,(um.one T c2 c1 W).bel⟩
theorem aci (B:Nat) (u1 u2:Value) (g:Gr.G) (w:World) (h1:jQ w B u1 g) (h2:jQ w B u2 g) (hB:B<=w.heap.size):
  Calls Tryz.prog 7 #[u1,u2] w fun e w'=>e=.returned (.bool true)/\Below w.heap.size w w':=by
 have hok:=h1.ok;obtain⟨A1,c1,A2,c2,rfl,n1,r1⟩:=h1.ex
 obtain⟨A3,c3,A4,c4,rfl,n2,r2⟩:=h2.ex;obtain⟨n,hn⟩:=aj g.nodes.length
 obtain⟨m,hm⟩:=aj g.aA.length;have hnl:n<=1073741824:=hn▸hok.nl
 have hml:m<=1073741824:=hm▸hok.rl;rw[hn,hm]
 obtain⟨W1,hW1⟩:=aj ((w.alloc (.cells #[.slice A1 n c1,.slice A2 m c2] 26)).alloc (.cells #[.slice A3 n c3,.slice A4 m c4] 26))
 have hb1:Below w.heap.size w W1:=by rw[<-hW1];exact((Below.refl _ w).alloc (ac4 _) _).alloc (by simp) _
 have k1:au W1 w.heap.size 26 #[.slice A1 n c1,.slice A2 m c2]:=by rw[<-hW1];exact(au.new _ _ _).alloc _
 have k2:au W1 (w.heap.size+1) 26 #[.slice A3 n c3,.slice A4 m c4]:=by
  rw[<-hW1]
  have:=au.new (w.alloc (.cells #[.slice A1 n c1,.slice A2 m c2] 26)) 26 #[.slice A3 n c3,.slice A4 m c4]
  simpa using this
 have HN:=ah (And.intro hn hm);have aV:=ah hok;have aK:=ah hB
 have HP:=ah (And.intro (And.intro n1 n2) (And.intro r1 r2));have HB1:=ah hb1
 have HK:=ah (And.intro k1 k2);obtain⟨a0,a1⟩:=cells2 k1;obtain⟨b0,b1⟩:=cells2 k2
 have hu:=lM;clear h1 h2 hn hm hok hB n1 n2 r1 r2 hb1 k1 k2
 go_enter Tryz.func7,Tryz.ntmps7;go_wp2_with fail
 go_loopg [5] n (fun kx x wr=> ∃k:Nat,x=.int .i64 k/\k+kx=n/\Hid (Below W1.heap.size W1 wr))
 case atStart=>exact⟨0,rfl,by omega,Below.refl _ _⟩
 obtain⟨k,rfl,hk,hb⟩:=hrel;have HB:Hid (Below W1.heap.size W1 wr):=hb
 obtain⟨a0,a1⟩:=cells2 (HK.out.1.below HB.out HK.out.1.lt)
 obtain⟨b0,b1⟩:=cells2 (HK.out.2.below HB.out HK.out.2.lt);clear hb hW1;cases gk with
 |zero=>
  obtain rfl:k=n:=by omega
  clear hk;go_wp2_with fail
  go_loopg [8] m (fun kx x wx=> ∃j:Nat,x=.int .i64 j/\j+kx=m/\Hid (Below W1.heap.size W1 wx))
  case atStart=>exact⟨0,rfl,by omega,HB.out⟩
  obtain⟨j,rfl,hk,hb⟩:=hrel;clear HB;have HB:Hid (Below W1.heap.size W1 wr):=hb
  obtain⟨a0,a1⟩:=cells2 (HK.out.1.below HB.out HK.out.1.lt)
  obtain⟨b0,b1⟩:=cells2 (HK.out.2.below HB.out HK.out.2.lt);clear hb;cases gk with
  |zero=>
   obtain rfl:j=m:=by omega
   have HF:=ah (HB1.trans (HB.mono HB1.size));clear hk;go_wp2_with fail;go_ret
   exact⟨rfl,HF.out⟩
  |succ kq=>
   have hkn:j<m:=by omega
   have dH:(j:Int)<m:=by omega
   have pk:(0:Int)<=(j:Int):=by omega
   have tk:((j:Int)).toNat=j:=by omega
   obtain⟨p,hp⟩: ∃p,g.aA[j]?=some p:=⟨_,dF (by rw[HN.out.2];exact hkn)⟩
   have hBw:=(HB1.trans (HB.mono HB1.size)).mono aK.out
   obtain⟨b,o,Ap,cp,rfl,hlt,⟨p0,p1,p2,p3,p4⟩,rb⟩:=(HP.out.2.1.below hBw (iP.below hBw)).rel hp
   obtain⟨b',o',GL,cp',rfl,hlt',⟨q0,q1,q2,q3,q4⟩,tJ⟩:=(HP.out.2.2.below hBw (iP.below hBw)).rel hp
   obtain⟨pl,hpl⟩:=aj p.props.length;obtain⟨zt,dU⟩:=aj (⟨p.type.toArray⟩:ByteArray)
   simp only[ST]at p1 q1;rw[dU]at p1 q1;rw[hpl]at p4 q4
   have HX:=ah (And.intro hpl (And.intro hp (And.intro rb tJ)));have HKK:=ah hk
   clear hpl rb tJ hp hBw hlt hlt' hk dU
   go_upto_region 12 with fail
   go_cut [9,10] (fun s6 s7 wx=> ∃b1 b2:Nat,s6=.pointer (some ⟨b1,0,none⟩)/\s7=.pointer (some ⟨b2,0,none⟩)/\um 44 #[.int .i64 p.id,.string zt,.int .i64 p.src,.int .i64 p.dst,.slice Ap pl cp] #[.int .i64 p.id,.string zt,.int .i64 p.src,.int .i64 p.dst,.slice GL pl cp'] wr b1 b2 wx)
   case first=>
    rename_i J K0 hJ hK;have nb:b≠wr.heap.size:=agm (World.block_lt_of_cell? wr _ p0)
    have nc:b'≠wr.heap.size:=agm (World.block_lt_of_cell? wr _ q0)
    have nd:w.heap.size≠wr.heap.size:=agm (World.block_lt_of_cell? wr _ a0)
    have ne:w.heap.size+1≠wr.heap.size:=agm (World.block_lt_of_cell? wr _ b0)
    have nf:b≠wr.heap.size+1:=agm (am0 (World.block_lt_of_cell? wr _ p0))
    have ng:b'≠wr.heap.size+1:=agm (am0 (World.block_lt_of_cell? wr _ q0))
    have nh:w.heap.size≠wr.heap.size+1:=agm (am0 (World.block_lt_of_cell? wr _ a0))
    have ni:w.heap.size+1≠wr.heap.size+1:=agm (am0 (World.block_lt_of_cell? wr _ b0))
    go_region_held3 (fun w'=>w'.cell? ⟨w.heap.size,1,none⟩=some (.slice (some ⟨b,o,none⟩) m c2)/\w'.cell? ⟨w.heap.size+1,1,none⟩=some (.slice (some ⟨b',o',none⟩) m c4)/\w'.cell? ⟨b,o+j*5,none⟩=some (.int .i64 p.id)/\w'.cell? ⟨b,o+j*5+1,none⟩=some (.string zt)/\w'.cell? ⟨b,o+j*5+2,none⟩=some (.int .i64 p.src)/\w'.cell? ⟨b,o+j*5+3,none⟩=some (.int .i64 p.dst)/\w'.cell? ⟨b,o+j*5+4,none⟩=some (.slice Ap pl cp)/\
     w'.cell? ⟨b',o'+j*5,none⟩=some (.int .i64 p.id)/\w'.cell? ⟨b',o'+j*5+1,none⟩=some (.string zt)/\w'.cell? ⟨b',o'+j*5+2,none⟩=some (.int .i64 p.src)/\w'.cell? ⟨b',o'+j*5+3,none⟩=some (.int .i64 p.dst)/\w'.cell? ⟨b',o'+j*5+4,none⟩=some (.slice GL pl cp')) (go_keep) (fail)
    all_goals
     refine hK _ _ (Met.intro (hJ _ _ ?_))
     repeat apply Exists.intro
     first
      |exact⟨⟨_,_,rfl,rfl,um.one _ _ _ _⟩,rfl⟩
      |exact⟨⟨_,_,rfl,rfl,um.two _ _ _ _⟩,rfl⟩
   obtain⟨b1,b2,rfl,rfl,ht⟩:=hcut;obtain⟨d0,d1,d2,d3,d4⟩:=cells5 ht.k1
   obtain⟨g0,g1,g2,g3,g4⟩:=cells5 ht.k2;have HB2:=ah (HB.trans (ht.bel.mono HB.size))
   have hbr:Below B wr wc:=ht.bel.mono (adg aK.out (adg HB1.size HB.size))
   have hsz:=adg aK.out (adg HB1.size HB2.size);obtain⟨hpl,hp,rb,tJ⟩:=HX.out
   have gZ:=aV.rs p (adI hp)
   have og:=ah (ach B Ap GL cp cp' pl p.props wc (rb.below hbr (aX.below hbr)) (tJ.below hbr (aX.below hbr)) hpl gZ.ps hsz (hpl▸gZ.pl))
   clear ht hbr hsz hpl hp rb tJ gZ HX p0 p1 p2 p3 p4 q0 q1 q2 q3 q4;go_wp2_with fail
   refine og.mono ?_;rintro e w4 ⟨rfl,b4⟩;have HB4:=ah (HB2.trans (b4.mono HB2.size))
   clear b4 og;go_wp2_with fail
   go_roundg kq
   case measure=>omega
   exact⟨j+1,int_eq' (by omega),by have:=HKK.out;omega,HB4.out⟩
 |succ kq=>
  have hkn:k<n:=by omega
  have dH:(k:Int)<n:=by omega
  have pk:(0:Int)<=(k:Int):=by omega
  have tk:((k:Int)).toNat=k:=by omega
  obtain⟨p,hp⟩: ∃p,g.nodes[k]?=some p:=⟨_,dF (by rw[HN.out.1];exact hkn)⟩
  have hBw:=(HB1.trans (HB.mono HB1.size)).mono aK.out
  obtain⟨b,o,Al,cl,Ap,cp,rfl,hlt,⟨p0,p1,p2⟩,ra,rb⟩:=(HP.out.1.1.below hBw (iO.below hBw)).node hp
  obtain⟨b',o',Xg,cl',GL,cp',rfl,hlt',⟨q0,q1,q2⟩,BN,tJ⟩:=(HP.out.1.2.below hBw (iO.below hBw)).node hp
  obtain⟨ll,hll⟩:=aj p.labels.length;obtain⟨pl,hpl⟩:=aj p.props.length;rw[hll]at p1 q1
  rw[hpl]at p2 q2;have p0:wr.cell? _=_:=p0;have p1:wr.cell? _=_:=p1
  have p2:wr.cell? _=_:=p2;have q0:wr.cell? _=_:=q0;have q1:wr.cell? _=_:=q1
  have q2:wr.cell? _=_:=q2
  have HX:=ah (And.intro (And.intro hll hpl) (And.intro hp (And.intro (And.intro ra rb) (And.intro BN tJ))))
  have HKK:=ah hk;clear hll hpl ra rb BN tJ hp hBw hlt hlt' hk
  go_upto_region 6 with fail
  go_cut [6,7] (fun s6 s7 wx=> ∃b1 b2:Nat,s6=.pointer (some ⟨b1,0,none⟩)/\s7=.pointer (some ⟨b2,0,none⟩)/\um 42 #[.int .i64 p.id,.slice Al ll cl,.slice Ap pl cp] #[.int .i64 p.id,.slice Xg ll cl',.slice GL pl cp'] wr b1 b2 wx)
  case first=>
   rename_i J K0 hJ hK;have nb:b≠wr.heap.size:=agm (World.block_lt_of_cell? wr _ p0)
   have nc:b'≠wr.heap.size:=agm (World.block_lt_of_cell? wr _ q0)
   have nd:w.heap.size≠wr.heap.size:=agm (World.block_lt_of_cell? wr _ a0)
   have ne:w.heap.size+1≠wr.heap.size:=agm (World.block_lt_of_cell? wr _ b0)
   have nf:b≠wr.heap.size+1:=agm (am0 (World.block_lt_of_cell? wr _ p0))
   have ng:b'≠wr.heap.size+1:=agm (am0 (World.block_lt_of_cell? wr _ q0))
   have nh:w.heap.size≠wr.heap.size+1:=agm (am0 (World.block_lt_of_cell? wr _ a0))
   have ni:w.heap.size+1≠wr.heap.size+1:=agm (am0 (World.block_lt_of_cell? wr _ b0))
   go_region_held3 (fun w'=>w'.cell? ⟨w.heap.size,0,none⟩=some (.slice (some ⟨b,o,none⟩) n c1)/\w'.cell? ⟨w.heap.size+1,0,none⟩=some (.slice (some ⟨b',o',none⟩) n c3)/\w'.cell? ⟨b,o+k*3,none⟩=some (.int .i64 p.id)/\w'.cell? ⟨b,o+k*3+1,none⟩=some (.slice Al ll cl)/\w'.cell? ⟨b,o+k*3+2,none⟩=some (.slice Ap pl cp)/\
    w'.cell? ⟨b',o'+k*3,none⟩=some (.int .i64 p.id)/\w'.cell? ⟨b',o'+k*3+1,none⟩=some (.slice Xg ll cl')/\w'.cell? ⟨b',o'+k*3+2,none⟩=some (.slice GL pl cp')) (go_keep) (fail)
   all_goals
    refine hK _ _ (Met.intro (hJ _ _ ?_))
    repeat apply Exists.intro
    first
     |exact⟨⟨_,_,rfl,rfl,um.one _ _ _ _⟩,rfl⟩
     |exact⟨⟨_,_,rfl,rfl,um.two _ _ _ _⟩,rfl⟩
  obtain⟨b1,b2,rfl,rfl,ht⟩:=hcut;obtain⟨d0,d1,d2⟩:=cells3 ht.k1
  obtain⟨g0,g1,g2⟩:=cells3 ht.k2;have HT:=ah ht
  have HB2:=ah (HB.trans (ht.bel.mono HB.size))
  have hBw:=(HB1.trans (HB2.mono HB1.size)).mono aK.out
  have hbr:Below B wr wc:=ht.bel.mono (adg aK.out (adg HB1.size HB.size))
  have hsz:=adg aK.out (adg HB1.size HB2.size);obtain⟨⟨hll,hpl⟩,hp,⟨ra,rb⟩,BN,tJ⟩:=HX.out
  have gZ:=aV.ns p (adI hp);rw[hll]at ra BN
  have HST:=ah (ak4 B Al Xg cl cl' ll p.labels wc ((show Reads wr _ _ _ _ _ from ra).below hbr) ((show Reads wr _ _ _ _ _ from BN).below hbr) hsz (hll▸gZ.ll))
  have og:=ah (fun(V:World) (hb:Below wc.heap.size wc V)=>ach B Ap GL cp cp' pl p.props V
   ((show bY wr _ _ _ _ _ from rb).below (hbr.trans (hb.mono hsz)) (aX.below (hbr.trans (hb.mono hsz)))) ((show bY wr _ _ _ _ _ from tJ).below (hbr.trans (hb.mono hsz)) (aX.below (hbr.trans (hb.mono hsz)))) hpl gZ.ps (adg hsz hb.size) (hpl▸gZ.pl))
  clear ht hBw hbr hsz hll hpl hp ra rb BN tJ gZ HX p0 p1 p2 q0 q1 q2;go_wp2_with fail
  refine HST.mono ?_;rintro e w3 ⟨rfl,b3⟩
  obtain⟨d0,d1,d2⟩:=cells3 (HT.k1.below b3 HT.k1.lt)
  obtain⟨g0,g1,g2⟩:=cells3 (HT.k2.below b3 HT.k2.lt);have HSQ:=ah (og.out w3 b3)
  have HB3:=ah (HB2.trans (b3.mono HB2.size));clear b3 HST og;go_wp2_with fail
  refine HSQ.mono ?_;rintro e w4 ⟨rfl,b4⟩;have HB4:=ah (HB3.trans (b4.mono HB3.size))
  clear b4 HSQ;go_wp2_with fail
  go_roundg kq
  case measure=>omega
  exact⟨k+1,int_eq' (by omega),by have:=HKK.out;omega,HB4.out⟩
theorem mP.ak5 {W:World} {B:Nat} {u:Value} {v:ak.V} {z:ByteArray} (h:mP W B u v) (hz:(⟨v.text.toArray⟩:ByteArray)=z): ∃A1 c1 A2 c2,u=.agg #[.int .i64 v.kind,.int .i64 v.num,.string z,.slice A1 v.nums.length c1,.slice A2 v.texts.length c2]/\W.ownsRow B 2 1 (.slice A1 v.nums.length c1) v.nums.length (v.nums.map I64)/\W.ownsRow B 9 1 (.slice A2 v.texts.length c2) v.texts.length (v.texts.map ST):=by
 obtain⟨s,t,e,h1,h2⟩:=h.ex;obtain⟨A1,c1,rfl⟩:=aF h1;obtain⟨A2,c2,rfl⟩:=aF h2
 exact⟨A1,c1,A2,c2,by rw[<-hz];exact e,h1,h2⟩
theorem cu.parts {T:TypeId} {W:World} {B k:Nat} {v:Value} {ps:List Gr.P} (h:cu T W B v ps) (hk:ps.length=k): ∃l:List (Gr.P×List Value),l.map Prod.fst=ps/\(∀x∈l,fB W B x)/\W.ownsRow B T 6 v k (l.flatMap Prod.snd):=by
 subst hk;exact h
theorem ak6 (B:Nat) (A:Option Addr) (c n:Nat) (ps:List Gr.P) (w:World) (h:bY w B 6 (aX w B) A ps) (hl:ps.length=n) (hok: ∀p∈ps,uF p) (hB:B<=w.heap.size) (hn:n<=67108864):
  Calls Tryz.prog 93 #[.slice A n c] w fun e w'=> ∃v',e=.returned v'/\cu 39 w' w.heap.size v' ps/\Below w.heap.size w w':=by
 have H:=ah h;have HL:=ah hl;have aV:=ah hok;have aK:=ah hB
 have HS:=ah (show cu 39 (w.alloc (.cells #[] 39)) w.heap.size (.slice (some ⟨w.heap.size,0,none⟩) 0 0) (ps.take 0)/\Below w.heap.size w (w.alloc (.cells #[] 39)) from
  ⟨⟨[],by simp,by simp,by simpa using oM w 39 6⟩,(Below.refl _ w).alloc (ac4 _) _⟩)
 clear h hl hok hB;go_enter Tryz.func93,Tryz.ntmps93;go_wp2_with fail
 go_loopg [4,3] n (fun kx x y wr=> ∃(k:Nat) (A':Option Addr) (c':Nat),x=.int .i64 k/\y=.slice A' k c'/\k+kx=n/\Hid (cu 39 wr w.heap.size (.slice A' k c') (ps.take k)/\Below w.heap.size w wr))
 case atStart=>exact⟨0,_,_,rfl,rfl,by omega,HS.out⟩
 obtain⟨k,A',c',rfl,rfl,hk,hb⟩:=hrel
 have HB:Hid (cu 39 wr w.heap.size (.slice A' k c') (ps.take k)/\Below w.heap.size w wr):=hb
 clear hb HS;cases gk with
 |zero=>
  obtain rfl:k=n:=by omega
  clear hk;go_wp2;go_ret
  exact⟨_,rfl,by have:=HB.out.1;rwa [ado (by rw[HL.out];exact ac4 _)]at this,HB.out.2⟩
 |succ kq=>
  have hkn:k<n:=by omega
  have dH:(k:Int)<n:=by omega
  have pk:(0:Int)<=(k:Int):=by omega
  have tk:((k:Int)).toNat=k:=by omega
  obtain⟨p,hp⟩: ∃p,ps[k]?=some p:=⟨_,dF (by rw[HL.out];exact hkn)⟩
  have hsz:=HB.out.2.size;have hBw:=HB.out.2.mono aK.out
  obtain⟨b,o,An,cn,At,ct,rfl,hlt,⟨p0,p1,p2,p3,p4,p5⟩,ra,rb⟩:=(H.out.below hBw (aX.below hBw)).prop hp
  have gZ:=aV.out p (adI hp)
  have Q5:=fun(V:World) (hb:Below wr.heap.size wr V)=>ahR B _ p.val V ((Df (cn:=cn) (ct:=ct) gZ.val ra rb).below (hb.mono (adg aK.out hsz))) (adg aK.out (adg hsz hb.size))
  simp only[ST]at p0 p3 Q5;obtain⟨z1,hz1⟩:=aj (⟨p.key.toArray⟩:ByteArray)
  obtain⟨z2,hz2⟩:=aj (⟨p.val.text.toArray⟩:ByteArray);rw[hz1]at p0;rw[hz2]at p3 Q5
  have hbl:=adW hlt aK.out
  have HKK:Hid (∀w',Below w.heap.size wr w'->w'.cell? ⟨b,o+k*6,none⟩=some (.string z1)/\w'.cell? ⟨b,o+k*6+1,none⟩=some (.int .i64 p.val.kind)/\w'.cell? ⟨b,o+k*6+2,none⟩=some (.int .i64 p.val.num)/\w'.cell? ⟨b,o+k*6+3,none⟩=some (.string z2)/\w'.cell? ⟨b,o+k*6+4,none⟩=some (.slice An p.val.nums.length cn)/\w'.cell? ⟨b,o+k*6+5,none⟩=some (.slice At p.val.texts.length ct)):=fun w' hb=>
   ⟨(hb.cell (p:=⟨b,o+k*6,none⟩) hbl).trans p0,(hb.cell (p:=⟨b,o+k*6+1,none⟩) hbl).trans p1,(hb.cell (p:=⟨b,o+k*6+2,none⟩) hbl).trans p2,(hb.cell (p:=⟨b,o+k*6+3,none⟩) hbl).trans p3,(hb.cell (p:=⟨b,o+k*6+4,none⟩) hbl).trans p4,(hb.cell (p:=⟨b,o+k*6+5,none⟩) hbl).trans p5⟩
  have HVC:=ah Q5;have hbd:Below wr.heap.size wr wr.drew:=(Below.refl _ wr).drew
  have jV:=ah hbd;have HP:=ah (And.intro hp (And.intro hz1 hz2));have HK:=ah hk
  have fF:=ah hsz;have oU:=ah (show(ps.take k).length=k by rw[aeb,HL.out];omega)
  have h5:k<536870912:=by omega
  clear Q5 hbd hp hz1 hz2 hk ra rb gZ hlt hBw hsz;go_wp2_with fail
  go_region_held3 (fun w'=>w'.cell? ⟨b,o+k*6,none⟩=some (.string z1)/\w'.cell? ⟨b,o+k*6+1,none⟩=some (.int .i64 p.val.kind)/\w'.cell? ⟨b,o+k*6+2,none⟩=some (.int .i64 p.val.num)/\w'.cell? ⟨b,o+k*6+3,none⟩=some (.string z2)/\w'.cell? ⟨b,o+k*6+4,none⟩=some (.slice An p.val.nums.length cn)/\w'.cell? ⟨b,o+k*6+5,none⟩=some (.slice At p.val.texts.length ct)) (first|go_keep|exact HKK.out _ hq8|exact HKK.out _ (hq.mono fF.out)|fail)
   ((first|(go_at_call 142;refine(HVC.out _ jV.out).mono ?_;rintro e w7 ⟨u7,rfl,Ei,hb7⟩;have hq:Below wr.heap.size wr w7:=jV.trans hb7;have hf7:=Ei.ak5 HP.out.2.2;clear Ei;obtain⟨A1,c1,A2,c2,rfl,hn7,ht7⟩:=hf7;have uH:=(HB.out.1.below hq).parts oU.out;obtain⟨l7,Ej,hx7,hr7⟩:=uH;have qE:=ah (And.intro Ej (And.intro hx7 (And.intro hr7 (And.intro hn7 ht7))));have WG:=adg HB.out.2.size hq.size;clear Ej hx7 hr7 hn7 ht7 hb7)|(refine JX rfl (.tmp 12) (.tmp 25) 40 39 (.agg #[.string ⟨#[]⟩,.int .i64 0,.int .i64 0,.string ⟨#[]⟩,.slice none 0 0,.slice none 0 0]) 6 96 Tryz.underlying40 UN rfl (by decide) (by decide) rfl w.heap.size (.slice A' k c') k (l7.flatMap Prod.snd) w7 rfl qE.out.2.2.1 [.string z1,.int .i64 p.val.kind,.int .i64 p.val.num,.string z2,.slice A1 p.val.nums.length c1,.slice A2 p.val.texts.length c2] _ rfl rfl (by simp[Value.oneCell']) rfl h5 WG ?_;intro v9 w9 aG aN gG aB;have hq8:=(hq.mono fF.out).trans aB)|fail))
  have HE:=ah (cu.put (T:=39) (p:=p) (v:=.slice A' k c') (v':=v9) (ps:=ps.take k) ⟨by decide,by decide⟩ qE.out.1 qE.out.2.1 (show fB w7 w.heap.size (p,[.string z1,.int .i64 p.val.kind,.int .i64 p.val.num,.string z2,.slice A1 p.val.nums.length c1,.slice A2 p.val.texts.length c2]) from⟨_,_,by rw[<-HP.out.2.1,<-HP.out.2.2];rfl,own_base qE.out.2.2.2.1 fF.out,own_base qE.out.2.2.2.2 fF.out⟩) (by rw[oU.out];exact qE.out.2.2.1) aN (by rw[oU.out];exact aG))
  have Em:=aF aG;obtain⟨A9,c9,rfl⟩:=Em
  have uM:=ah (HB.out.2.trans ((hq.mono fF.out).trans aB));clear aG aN gG aB hq8;go_wp2
  go_roundg kq
  case measure=>omega
  refine⟨k+1,A9,c9,rfl,rfl,by have:=HK.out;omega, ?_,uM.out⟩
  have ht:ps.take (k+1)=ps.take k++[p]:=by rw[ae3,HP.out.1];rfl
  rw[ht];exact HE.out
theorem Kt.set {T:TypeId} {base b i:Nat} {w:World} {cs:Array Value} (h:au w b T cs) (hb:base<=b) (u:Value):Kt T base w (w.setCell ⟨b,i,none⟩ u):=
 ⟨(Below.refl base w).grown (grownBy_set w ⟨b,i,none⟩ u) (Nat.le_of_lt (aqI hb h.lt)) (fun k hk=>by cases hk;exact hb),fun b' c t fz hc ht=>by
  rw[(grownBy_set w ⟨b,i,none⟩ u).block b' (adZ.1 hc).1 ?_]
  ·exact hc
  intro e;cases e;unfold au at h;rw[h]at hc;cases hc
  exact ht rfl⟩
def Q7 (g:Gr.G) (base k:Nat) (s:Value) (V:World):Prop:= ∃ln:List (Gr.N×List Value),ln.map Prod.fst=g.nodes.take k/\(∀x∈ln,je V base x)/\V.ownsRow base 42 3 s k (ln.flatMap Prod.snd)
def Q8 (g:Gr.G) (base k:Nat) (s:Value) (V:World):Prop:= ∃ln:List (Gr.R×List Value),ln.map Prod.fst=g.aA.take k/\(∀x∈ln,jy V base x)/\V.ownsRow base 44 5 s k (ln.flatMap Prod.snd)
theorem Q7.kt {g:Gr.G} {base k:Nat} {s:Value} {T:TypeId} {V V':World} (h:Q7 g base k s V) (hk:Kt T base V V') (h1:2≠T) (h2:9≠T) (h3:39≠T) (h4:42≠T):Q7 g base k s V':=by
 obtain⟨ln,a,b,c⟩:=h;exact⟨ln,a,fun x hx=>(b x hx).kt hk h1 h2 h3,jf c hk h4⟩
theorem Q8.kt {g:Gr.G} {base k:Nat} {s:Value} {T:TypeId} {V V':World} (h:Q8 g base k s V) (hk:Kt T base V V') (h1:2≠T) (h2:9≠T) (h3:39≠T) (h4:44≠T):Q8 g base k s V':=by
 obtain⟨ln,a,b,c⟩:=h;exact⟨ln,a,fun x hx=>(b x hx).kt hk h1 h2 h3,jf c hk h4⟩
structure wH (w:World) (b0 b1:Value) (g:Gr.G) (k m:Nat) (s r:Value) (V:World):Prop where
 box:au V w.heap.size 26 #[b0,b1]
 res:au V (w.heap.size+1) 26 #[.slice none 0 0,.slice none 0 0]
 out:au V (w.heap.size+2) 26 #[s,r]
 nx:Q7 g w.heap.size k s V
 rx:Q8 g w.heap.size m r V
 bel:Below w.heap.size w V
theorem wH.below {w V V':World} {b0 b1 s r:Value} {g:Gr.G} {k m:Nat} (h:wH w b0 b1 g k m s r V) (hb:Below V.heap.size V V'):wH w b0 b1 g k m s r V':=
 have hk:Kt 0 w.heap.size V V':=Kt.of_below hb h.bel.size
 ⟨h.box.below hb h.box.lt,h.res.below hb h.res.lt,h.out.below hb h.out.lt,h.nx.kt hk (by decide) (by decide) (by decide) (by decide),h.rx.kt hk (by decide) (by decide) (by decide) (by decide),h.bel.trans (hb.mono h.bel.size)⟩
theorem wH.node {w W:World} {b0 b1 s r:Value} {g:Gr.G} {k m:Nat} {p:Gr.N} {cs:List Value} (h:wH w b0 b1 g k m s r W) (hp:g.nodes[k]?=some p) (hn:je W w.heap.size (p,cs)):
  ∃xs,W.ownsRow w.heap.size 42 3 s k xs/\ ∀w9 v',W.grownBy w9 s.ownBlock->w9.ownsRow w.heap.size 42 3 v' (k+1) (xs++cs)->au w9 (w.heap.size+2) 26 #[s,r]/\wH w b0 b1 g (k+1) m v' r (w9.setCell ⟨w.heap.size+2,0,none⟩ v'):=by
 obtain⟨ln,h1,h2,h3⟩:=h.nx;refine⟨_,h3,fun w9 v' hg ho=> ?_⟩
 have k1:Kt 42 w.heap.size W w9:=Kt.row h3 hg h.bel.size
 have hob:=k1.blk h.out (by decide)
 have k2:Kt 26 w.heap.size w9 (w9.setCell ⟨w.heap.size+2,0,none⟩ v'):=Kt.set hob (by omega) v'
 have ne1:some w.heap.size≠some (w.heap.size+2):=fun e=>by have:=ad4 e;omega
 have Xh:some (w.heap.size+1)≠some (w.heap.size+2):=fun e=>by have:=ad4 e;omega
 refine⟨hob,(k1.blk h.box (by decide)).grown (grownBy_set _ _ _) ne1,(k1.blk h.res (by decide)).grown (grownBy_set _ _ _) Xh,by simpa using hob.bP 0 v',⟨ln++[(p,cs)], ?_,fun x hx=> ?_, ?_⟩,(h.rx.kt k1 (by decide) (by decide) (by decide) (by decide)).kt k2 (by decide) (by decide) (by decide) (by decide),h.bel.trans (k1.bel.trans k2.bel)⟩
 ·rw[ad8,h1,ae3,hp];rfl
 ·rcases aem.1 hx with hx|hx
  ·exact((h2 x hx).kp (k1.kp (.inl rfl))).kt k2 (by decide) (by decide) (by decide)
  rw[ael.1 hx];exact(hn.kp (k1.kp (.inl rfl))).kt k2 (by decide) (by decide) (by decide)
 rw[afG]
 simpa using jf ho k2 (by decide)
theorem wH.rel {w W:World} {b0 b1 s r:Value} {g:Gr.G} {k m:Nat} {p:Gr.R} {cs:List Value} (h:wH w b0 b1 g k m s r W) (hp:g.aA[m]?=some p) (hn:jy W w.heap.size (p,cs)):
  ∃xs,W.ownsRow w.heap.size 44 5 r m xs/\ ∀w9 v',W.grownBy w9 r.ownBlock->w9.ownsRow w.heap.size 44 5 v' (m+1) (xs++cs)->au w9 (w.heap.size+2) 26 #[s,r]/\wH w b0 b1 g k (m+1) s v' (w9.setCell ⟨w.heap.size+2,1,none⟩ v'):=by
 obtain⟨ln,h1,h2,h3⟩:=h.rx;refine⟨_,h3,fun w9 v' hg ho=> ?_⟩
 have k1:Kt 44 w.heap.size W w9:=Kt.row h3 hg h.bel.size
 have hob:=k1.blk h.out (by decide)
 have k2:Kt 26 w.heap.size w9 (w9.setCell ⟨w.heap.size+2,1,none⟩ v'):=Kt.set hob (by omega) v'
 have ne1:some w.heap.size≠some (w.heap.size+2):=fun e=>by have:=ad4 e;omega
 have Xh:some (w.heap.size+1)≠some (w.heap.size+2):=fun e=>by have:=ad4 e;omega
 refine⟨hob,(k1.blk h.box (by decide)).grown (grownBy_set _ _ _) ne1,(k1.blk h.res (by decide)).grown (grownBy_set _ _ _) Xh,by simpa using hob.bP 1 v',(h.nx.kt k1 (by decide) (by decide) (by decide) (by decide)).kt k2 (by decide) (by decide) (by decide) (by decide),⟨ln++[(p,cs)], ?_,fun x hx=> ?_, ?_⟩,h.bel.trans (k1.bel.trans k2.bel)⟩
 ·rw[ad8,h1,ae3,hp];rfl
 ·rcases aem.1 hx with hx|hx
  ·exact((h2 x hx).kp (k1.kp (.inr rfl))).kt k2 (by decide) (by decide) (by decide)
  rw[ael.1 hx];exact(hn.kp (k1.kp (.inr rfl))).kt k2 (by decide) (by decide) (by decide)
 rw[afG]
 simpa using jf ho k2 (by decide)
end Go.Proofs.YtkdakckjafomhaaGreatDoor
namespace Go.Proofs.YtkdakckjafomhaaGreatDoor
open Go Go.RowKit
variable {P:Program} {md:Region.Mode} {Q:Exit->Act->World->Prop}
def J7 (P:Program) (ops:Array Oper) (N:Nat) (Q:Exit->Act->World->Prop):Exit->Act->World->Prop
 |.normal,a,w=>wpOp P ops Q N (fun a w=>Q .normal a w) a w
 |e,a,w=>Q e a w
theorem ak7 {ops:Array Oper} {N:Nat} {o:Oper} {a:Act} {w:World} {K K':Act->World->Prop} (h: ∀a w,K a w->K' a w) (hh:o.wp P a w K (J7 P ops N Q)):o.wp P a w K' Q:=by
 have h0:=Oper.wp_mono h hh;clear hh;unfold Oper.wp at*
 generalize (execOp a.eval o).run P w=r at*
 cases r with
 |ok n w'=>
  cases n<;>simp only[Oper.upon]at h0⊢<;>
   first
    |exact h0
    |exact Calls.mono h0 (fun e w'' he=>by cases e<;>first|exact he|exact(fun x=>he x))
 |halt x w'=>cases x<;>simp only[Oper.upon]at h0⊢<;>exact h0
structure nU (md:Region.Mode) (ops S:Array Oper) (N:Nat) (ls l:Array Bool):Prop where
 inv:HeadInv md ops N l
 size:ls.size=N
 same: ∀j,ls.getD j false=l.getD j false
structure IG (md:Region.Mode) (ops S:Array Oper) (N:Nat):Prop where
 short: ∀j,j<N->S[j]?=ops[j]?
 none_: ∀j,N<=j->S[j]?=none
 size:ops.size=N+1
 calm: ∀(j:Nat) oj,ops[j]?=some oj->oj.guard=none
 edge: ∀(j:Nat) oj,ops[j]?=some oj-> ∀e∈oj.after,e.on<j
 sink:Region.sinkB md ops N=true
section
variable {ops S:Array Oper} {N:Nat} {ls l:Array Bool}
theorem Qa {l:Array Bool} {j:Nat} (h:j<l.size):l.getD j true=l.getD j false:=by simp[h]
theorem nU.at_ (h:nU md ops S N ls l) (hs:ops.size=N+1) {j:Nat} (hj:j<N):ls.getD j true=l.getD j true:=by
 rw[Qa (by rw[h.size];exact hj),Qa (by rw[h.inv.size,hs];omega),h.same]
theorem nU.ready (h:nU md ops S N ls l) (k:IG md ops S N) {j:Nat} (hj:j<N):j∈Region.ready md S ls↔j∈Region.ready md ops l:=by
 rw[mem_ready,mem_ready,h.at_ k.size hj,k.short j hj];simp only[h.same]
theorem nU.set (h:nU md ops S N ls l) {i:Nat} (hi:i∈Region.ready md ops l) (hin:i<N):nU md ops S N (ls.setIfInBounds i true) (l.setIfInBounds i true):=by
 refine⟨h.inv.set hi hin,by simp[h.size],fun j=> ?_⟩
 by_cases e:i=j
 ·subst e
  have h1:i<ls.size:=by rw[h.size];exact hin
  have h2:i<l.size:=by
   obtain⟨_,o,ho,_⟩:=mem_ready.1 hi;rw[h.inv.size];exact(adZ.1 ho).1
  simp[h1,h2]
 rw[getD_set_ne false e,getD_set_ne false e];exact h.same j
theorem nU.all (h:nU md ops S N ls l) (k:IG md ops S N) (hr:Region.ready md S ls=[]): ∀n j,j<n->j<N->l.getD j false=true
 |0,j,hj,_=>by omega
 |n+1,j,hj,hN=>by
  by_cases hjn:j<n
  ·exact nU.all h k hr n j hjn hN
  have hall:=nU.all h k hr n;cases hl:l.getD j false with
  |true=>rfl
  |false=>
   exfalso
   have hlt:j<ops.size:=by rw[k.size];omega
   have hm:j∈Region.ready md ops l:=mem_ready.2 ⟨by rw[Qa (by rw[h.inv.size];exact hlt)];exact hl,ops[j],afO hlt,fun e he _=>by
    have:=k.edge j _ (afO hlt) e he
    exact hall e.on (by omega) (by omega)⟩
   have:=(h.ready k hN).2 hm;rw[hr]at this;cases this
theorem nU.last (h:nU md ops S N ls l) (k:IG md ops S N) (hr:Region.ready md S ls=[]):N∈Region.ready md ops l:=by
 have hlt:N<ops.size:=by rw[k.size];omega
 exact mem_ready.2 ⟨h.inv.tail N (ac4 _) hlt,ops[N],afO hlt,fun e he _=>by
  have:=k.edge N _ (afO hlt) e he
  exact h.all k hr (e.on+1) e.on (by omega) this⟩
theorem nU.over (h:nU md ops S N ls l) (k:IG md ops S N) (hr:Region.ready md S ls=[]):Region.ready md ops (l.setIfInBounds N true)=[]:=by
 refine List.eq_nil_iff_forall_not_mem.2 fun j hj=> ?_
 obtain⟨h0,o,ho,_⟩:=mem_ready.1 hj;have hlt:=(adZ.1 ho).1;rw[k.size]at hlt
 have hs:(l.setIfInBounds N true).size=N+1:=by simp[h.inv.size,k.size]
 rw[Qa (by rw[hs];exact hlt)]at h0
 by_cases e:j=N
 ·subst e
  have:j<l.size:=by rw[h.inv.size,k.size];omega
  simp[this]at h0
 rw[getD_set_ne false (Ne.symm e),h.all k hr (j+1) j (by omega) (by omega)]at h0
 cases h0
theorem ak8 {md:Region.Mode} {ops:Array Oper} {l:Array Bool} (h:Region.ready md ops l=[]): ∀(m:Nat) (a:Act) (w:World),Q .normal a w->wpAny P md ops Q m l a w
 |0,_,_,hq=>⟨h,hq⟩
 |m+1,_,_,hq=>⟨fun _=>hq,fun i hi=>by rw[h]at hi;cases hi⟩
theorem ak9 (k:IG md ops S N): ∀(f:Nat) (ls l:Array Bool) (a:Act) (w:World),nU md ops S N ls l->wpAny P md S (J7 P ops N Q) f ls a w->wpAny P md ops Q (f+1) l a w:=by
 have hc:Region.chainB md ops N=true:=by
  unfold Region.chainB;rw[afF];intro t ht;have:=anO.1 ht;rw[k.size]at this
  simp only[af7,aei];exact .inl (by omega)
 have hN:N<ops.size:=by rw[k.size];omega
 have fin: ∀(m:Nat) (ls l:Array Bool) (a:Act) (w:World),nU md ops S N ls l->Region.ready md S ls=[]->J7 P ops N Q .normal a w->wpAny P md ops Q (m+1) l a w:=fun m ls l a w hi hr hq=>by
  refine⟨fun h0=>(by have:=hi.last k hr;rw[h0]at this;cases this),fun i hm=> ?_⟩
  have hiN:i=N:=by
   obtain⟨h0,o,ho,_⟩:=mem_ready.1 hm;have hlt:=(adZ.1 ho).1;rw[k.size]at hlt
   rcases am5 i N with h1|h1
   ·exfalso
    have:=(hi.ready k h1).2 hm;rw[hr]at this;cases this
   omega
  subst hiN;exact wpOp_mono (fun a w h=>ak8 (hi.over k hr) m a w h) hq
 intro f
 induction f with
 |zero=>intro ls l a w hi h;exact fin 0 ls l a w hi h.1 h.2
 |succ f ih=>
  intro ls l a w hi h;by_cases hr:Region.ready md S ls=[]
  ·exact fin (f+1) ls l a w hi hr (h.1 hr)
  obtain⟨j0,hj0⟩:=List.exists_mem_of_ne_nil _ hr
  have aeL:j0<N:=by
   obtain⟨_,o,ho,_⟩:=mem_ready.1 hj0
   rcases am5 j0 N with h1|h1
   ·exact h1
   rw[k.none_ j0 h1]at ho;cases ho
  have hj1:=(hi.ready k aeL).1 hj0
  refine⟨fun h0=>(by rw[h0]at hj1;cases hj1),fun i hm=> ?_⟩
  have hiN:i<N:=by
   rcases am5 i N with h1|h1
   ·exact h1
   exact absurd hm (tail_waits k.sink hc hN hi.inv _ j0 rfl aeL (mem_ready.1 hj1).1 i h1)
  have h2:=h.2 i ((hi.ready k hiN).2 hm);obtain⟨_,o,ho,_⟩:=mem_ready.1 hm
  unfold wpOp at h2⊢;rw[k.short i hiN,ho]at h2;rw[ho];simp only at h2⊢
  have hw: ∀y,Region.wanted o y=true:=fun y=>by unfold Region.wanted;rw[k.calm i o ho]
  rw[adk (hw _)]at h2⊢;exact h2.imp (ak7 fun a w hx=>ih _ _ a w (hi.set hm hiN) hx) id
def lastB (L:List Oper) (n:Nat):Bool:=(L.length == n+1) &&(L.all (fun o=>o.guard.isNone) &&((List.range (n+1)).all (fun j=>(L[j]?).all fun oj=>oj.after.all fun e=>decide (e.on<j)) && Region.sinkB .any L.toArray n))
theorem II {id:Nat} {a:Act} {w:World} {L:List Oper} (n:Nat) (R:World->Prop) (hm:P.follows .mixedOrders=true) (hB:lastB L n=true)
  (hS:R w.drew) (h:R w.drew->wpAnyH P .any (L.take n).toArray (J7 P L.toArray n Q) R n (Array.replicate n false) a w.drew):(Code.region id L.toArray true).wp P Q a w:=by
 unfold lastB at hB;simp only[aeW,aeI]at hB;obtain⟨h0,h1,h2,h3⟩:=hB
 have k:IG .any L.toArray (L.take n).toArray n:=by
  refine⟨fun j hj=> ?_,fun j hj=> ?_,by simpa using h0,fun j oj hj=> ?_,fun j oj hj e he=> ?_,h3⟩
  ·rw[adE,adE,List.getElem?_take,adk hj]
  ·rw[adE];exact afB (by rw[aeb];omega)
  ·rw[adE]at hj
   have:=afF.1 h1 oj (adI hj);exact Option.isNone_iff_eq_none.1 this
  rw[adE]at hj;have hlt:=(adw.1 hj).1;have:=afF.1 h2 j (anO.2 (by omega))
  rw[hj]at this;simp only[Option.all_some,Array.all_eq_true_iff_forall_mem,aei]at this
  exact this e he
 refine wp_region_any hm ?_
 have hi:nU .any L.toArray (L.take n).toArray n (Array.replicate n false) (Array.replicate L.toArray.size false):=
  ⟨⟨by simp,fun j oj _ hl=>(by rw[getD_replicate_false]at hl;cases hl),fun t _ ht=>getD_in (by simpa using ht) (getD_replicate_false _ _)⟩,by simp,fun j=>by rw[getD_replicate_false,getD_replicate_false]⟩
 have:=ak9 k n _ _ a _ hi (wpAny_of_held _ _ _ _ (h hS))
 have hz:L.toArray.size=n+1:=by simpa using h0
 rw[hz]at this⊢;exact this
theorem Dq {o:Oper} {a:Act} {w:World} (ho:ops[N]?=some o) (h: ∀K':Act->World->Prop,Shut (∀a w,Q .normal a w->K' a w)->if Region.wanted o (yielded ops a.tmps)=true then Oper.wp P o a w K' Q else K' (a.put o.dst undef) w):J7 P ops N Q .normal a w:=
 wpOp_step ho fun K' hK=>h K' hK
end
end Go.Proofs.YtkdakckjafomhaaGreatDoor
namespace Go.Proofs.YtkdakckjafomhaaGreatDoor
open Go Go.RowKit
variable {P:Program} {ops:Array Oper} {Q:Exit->Act->World->Prop} {md:Region.Mode} {S:World->Prop}
theorem aS (i:Nat) {oi:Oper} {v:Value} {fuel:Nat} {listed:Array Bool} {a:Act} {w:World} (hS:S w) (h:wpAnyH P md ops Q S fuel (listed.setIfInBounds i true) (a.put oi.dst v) w)
  (hi:ops[i]?=some oi:=by simp only[adE,adL,adn];rfl) (hs:Region.noSelect ops=true:=by kernel_rfl) (hf:Region.free md ops listed i=true:=by kernel_rfl)
  (hr:(Region.ready md ops listed).contains i=true:=by kernel_rfl) (hQ: ∀c a w,Q (.panic c) (a.put oi.dst v) w->Q (.panic c) a w:=by intro _ _ _ h;exact h) (hw:Region.wanted oi (yielded ops a.tmps)=true:=by rfl)
  (hv: ∀wq,S wq->(execOp a.eval oi).run P wq=.ok (.value v) wq:=by intro wq hSw;(try dsimp only at hSw);(try go_simp);(try with_reducible rfl)):wpAnyH P md ops Q S (fuel+1) listed a w:=
 wpAnyH_take hi hs hf hr hQ (.inl ⟨hw,hv⟩) hS h
end Go.Proofs.YtkdakckjafomhaaGreatDoor
namespace Go.Proofs.YtkdakckjafomhaaGreatDoor
open Go.RowKit
structure Small (g:Gr.G):Prop where
 n:g.nodes.length<=67108864
 r:g.aA.length<=67108864
 l: ∀n∈g.nodes,n.labels.length<=67108864
 np: ∀n∈g.nodes,n.props.length<=67108864
 rp: ∀r∈g.aA,r.props.length<=67108864
end Go.Proofs.YtkdakckjafomhaaGreatDoor
namespace Go.Proofs.YtkdakckjafomhaaGreatDoor.Gr
open Go
def Asc (l:List L):Prop:=l.Pairwise (· < ·)
theorem ala {l:List L} (h:Asc l):l.Nodup:=List.Pairwise.imp (fun {a b} h e=>by subst e;exact aoF _ h) h
structure jW (a b:List L) (i j:Nat) (out:List L):Prop where
 MW:Asc out
 mem: ∀x,x∈out↔x∈a.take i\/x∈b.take j
 le: ∀x∈out,(∀y∈a.drop i,x<=y)/\(∀y∈b.drop j,x<=y)
theorem jW.start (a b:List L):jW a b 0 0 []:=⟨List.Pairwise.nil,fun x=>by simp,fun x h=>by simp at h⟩
theorem jW.symm {a b:List L} {i j:Nat} {out:List L} (h:jW a b i j out):jW b a j i out:=
 ⟨h.MW,fun x=>(h.mem x).trans Or.comm,fun x hx=>⟨(h.le x hx).2,(h.le x hx).1⟩⟩
theorem acj {a:List L} {i:Nat} {x:L} (hx:a[i]?=some x) (y:L):y∈a.take (i+1)↔y∈a.take i\/y=x:=by
 rw[ae3,hx];simp
theorem acn {a:List L} {i:Nat} {x:L} (ha:Asc a) (hx:a[i]?=some x): ∀y∈a.drop (i+1),x<y:=fun y hy=>by
 obtain⟨hi,e⟩:=adw.1 hx;have:(a.drop i).Pairwise (· < ·):=anP (apj i a) ha
 rw[aez hi,e]at this;exact(List.pairwise_cons.1 this).1 y hy
theorem jW.step {a b:List L} {i j:Nat} {out:List L} {x:L} (h:jW a b i j out) (ha:Asc a) (hx:a[i]?=some x) (hb: ∀y∈b.drop j,x<=y):
  (out.getLast?=some x->jW a b (i+1) j out)/\(out.getLast?≠some x->jW a b (i+1) j (out++[x])):=by
 have hin:x∈a.drop i:=by
  obtain⟨hi,e⟩:=adw.1 hx;rw[aez hi,e];simp
 have hsub: ∀y∈a.drop (i+1),y∈a.drop i:=fun y hy=>by
  obtain⟨hi,e⟩:=adw.1 hx;rw[aez hi];exact afg _ hy
 constructor
 ·intro hl
  refine⟨h.MW,fun y=> ?_,fun y hy=>⟨fun z hz=>(h.le y hy).1 z (hsub z hz),(h.le y hy).2⟩⟩
  rw[acj hx,h.mem]
  constructor
  ·rintro(h1|h1)
   ·exact .inl (.inl h1)
   exact .inr h1
  rintro((h1|rfl)|h1)
  ·exact .inl h1
  ·exact(h.mem _).1 (List.mem_of_getLast? hl)
  exact .inr h1
 intro hl;refine⟨amM.2 ⟨h.MW,by simp,fun y hy z hz=> ?_⟩,fun y=> ?_,fun y hy=> ?_⟩
 ·rw[ael.1 hz]
  have hle:=(h.le y hy).1 x hin
  rcases ap5.1 hle with h1|rfl
  ·exact h1
  exfalso
  cases out with
  |nil=>simp at hy
  |cons o r=>
   obtain⟨q,hq⟩: ∃q,(o :: r).getLast?=some q:=⟨_,List.getLast?_eq_some_getLast (by simp)⟩
   have hqm:=List.mem_of_getLast? hq;have hqx:=(h.le q hqm).1 y hin
   have hyq:y<=q:=by
    obtain⟨ys,e⟩:=List.getLast?_eq_some_iff.1 hq;have hp:=h.MW;unfold Asc at hp
    rw[e]at hp hy
    rcases aem.1 hy with h1|h1
    ·exact aoU ((amM.1 hp).2.2 y h1 q (by simp))
    rw[ael.1 h1];exact List.le_refl _
   exact hl (by rw[hq,ark hqx hyq])
 ·rw[aem,h.mem,acj hx,ael]
  constructor
  ·rintro((h1|h1)|h1)
   ·exact .inl (.inl h1)
   ·exact .inr h1
   exact .inl (.inr h1)
  rintro((h1|h1)|h1)
  ·exact .inl (.inl h1)
  ·exact .inr h1
  exact .inl (.inr h1)
 rcases aem.1 hy with h1|h1
 ·exact⟨fun z hz=>(h.le y h1).1 z (hsub z hz),(h.le y h1).2⟩
 rw[ael.1 h1];exact⟨fun z hz=>aoU (acn ha hx z hz),hb⟩
theorem aco {b:List L} {j:Nat} {x y:L} (hb:Asc b) (hy:b[j]?=some y) (h:x<=y): ∀z∈b.drop j,x<=z:=fun z hz=>by
 obtain⟨hj,e⟩:=adw.1 hy;rw[aez hj,e]at hz
 rcases aeY.1 hz with rfl|h1
 ·exact h
 exact apN h (aoU (acn hb hy z h1))
theorem jW.done {a b out:List L} (h:jW a b a.length b.length out) {s:List L} (hs: ∀x,x∈s↔x∈a\/x∈b):Asc out/\ ∀x,x∈out↔x∈s:=
 ⟨h.MW,fun x=>by rw[h.mem,hs,an8,an8]⟩
def bJ (s out:List L):Prop:=Asc out/\ ∀x,x∈out↔x∈s
theorem bJ.length {s out:List L} (h:bJ s out):out.length=(dedup s).length:=ajd (ala h.1) h.2
theorem bJ.small {s:List L} (h:s.length<2):bJ s s:=by
 match s,h with
 |[],_=>exact⟨List.Pairwise.nil,fun x=>Iff.rfl⟩
 |[a],_=>exact⟨by unfold Asc;simp,fun x=>Iff.rfl⟩
end Go.Proofs.YtkdakckjafomhaaGreatDoor.Gr
