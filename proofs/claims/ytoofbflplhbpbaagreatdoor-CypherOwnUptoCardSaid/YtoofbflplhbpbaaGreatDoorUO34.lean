/- Contracts and plain laws,part 34. -/
import Derived.Test.YtoofbflplhbpbaaGreatDoorUO29
import Derived.Test.YtoofbflplhbpbaaGreatDoorUO30
set_option maxHeartbeats 64000000
set_option maxRecDepth 1000000
set_option linter.all false
namespace Go.Proofs.YtoofbflplhbpbaaGreatDoor
open Go.RowKit
theorem ajj (B:Nat) (A1 A2:Option Addr) (c1 c2 n:Nat) (ls:List (List UInt8)) (w:World) (h1:Reads w B 1 A1 n (ls.map ST)) (h2:Reads w B 1 A2 n (ls.map ST)) (hB:B<=w.heap.size) (hn:n<=1073741824):
  Calls Tryz.prog 45 #[.slice A1 n c1, .slice A2 n c2] w fun e w'=>e= .returned (.bool true)/\Below w.heap.size w w':=by
 have H1:=ah h1;have H2:=ah h2;clear h1 h2 hB;go_enter Tryz.func45,Tryz.ntmps45
 go_wp2_with fail
 go_loopg [5] n (fun g x wr=> ∃k m:Nat,x= .int .i64 k/\k+g=n/\w.drewN m=wr)
 case atStart=>exact ⟨0,0,rfl,by omega,rfl⟩
 obtain ⟨k,m,rfl,hk,rfl⟩:=hrel;cases gk with
 | zero=>
  obtain rfl:k=n:=by omega
  clear hk;go_wp2;go_ret;exact ⟨rfl,below_drewN (Below.refl _ _) _⟩
 | succ g=>
  have hkn:k<n:=by omega
  have dD:(k:Int)<n:=by omega
  obtain ⟨p,o,x,rfl,-,hx,hp⟩:=H1.out.cell hkn
  obtain ⟨p',o',x',rfl,-,hx',hp'⟩:=H2.out.cell hkn;rw [hx] at hx';obtain rfl:x=x':=acE hx'
  rw [acJ] at hx;obtain ⟨y,-,rfl⟩:=ac7.1 hx;unfold ST at hp hp';have HK:=ah hk
  clear hx hx' hk;go_wp2_with fail
  go_quiet (fail)
  go_wp2
  go_roundg g
  case measure=>omega
  exact ⟨k+1,m+nq,int_eq' (by omega),by have:=HK.out;omega,rfl⟩
theorem aa9 (B:Nat) (A1 A2:Option Addr) (c1 c2 n:Nat) (ps:List Gr.P) (w:World) (h1:cZ w B 6 (aQ w B) A1 ps) (h2:cZ w B 6 (aQ w B) A2 ps) (hl:ps.length=n) (hok: ∀p∈ps,pV p) (hB:B<=w.heap.size) (hn:n<=1073741824):
  Calls Tryz.prog 46 #[.slice A1 n c1, .slice A2 n c2] w fun e w'=>e= .returned (.bool true)/\Below w.heap.size w w':=by
 have H1:=ah h1;have H2:=ah h2;have HL:=ah hl;have aK:=ah hok;have aH:=ah hB;have hu:=lD
 clear h1 h2 hB hl hok;go_enter Tryz.func46,Tryz.ntmps46;go_wp2_with fail
 go_loopg [5] n (fun g x wr=> ∃k:Nat,x= .int .i64 k/\k+g=n/\Hid (Below w.heap.size w wr))
 case atStart=>exact ⟨0,rfl,by omega,Below.refl _ _⟩
 obtain ⟨k,rfl,hk,hb⟩:=hrel;have HB:Hid (Below w.heap.size w wr):=hb;clear hb
 cases gk with
 | zero=>
  obtain rfl:k=n:=by omega
  clear hk;go_wp2;go_ret;exact ⟨rfl,HB.out⟩
 | succ g=>
  have hkn:k<n:=by omega
  have dD:(k:Int)<n:=by omega
  obtain ⟨p,hp⟩: ∃p,ps[k]?=some p:=⟨_,ab2 (by rw [HL.out];exact hkn)⟩
  have hBw:=HB.out.mono aH.out
  obtain ⟨b,o,An,cn,At,ct,rfl,hlt,⟨p0,p1,p2,p3,p4,p5⟩,ra,rb⟩:=(H1.out.below hBw (aQ.below hBw)).prop hp
  obtain ⟨b',o',mg,kM,mD,kN,rfl,hlt',⟨q0,q1,q2,q3,q4,q5⟩,Aw,rH⟩:=(H2.out.below hBw (aQ.below hBw)).prop hp
  have gV:=aK.out p (acf hp);have hsz:=ab5 aH.out HB.out.size
  have hvs:=fun (n:Nat) (os:Array Obj)=>IQ (agn B _ _ p.val (wide wr n os) ((xP (cn:=cn) (ct:=ct) gV.val ra rb).below ((xK wr n os).mono hsz)) ((xP (cn:=kM) (ct:=kN) gV.val Aw rH).below ((xK wr n os).mono hsz)) (ab5 hsz (RH wr n os)))
  simp only [ST] at p0 p3 q0 q3 hvs
  obtain ⟨z1,hz1⟩: ∃z:ByteArray,(⟨p.key.toArray⟩:ByteArray)=z:=⟨_,rfl⟩
  obtain ⟨z2,hz2⟩: ∃z:ByteArray,(⟨p.val.text.toArray⟩:ByteArray)=z:=⟨_,rfl⟩
  rw [hz1] at p0 q0;rw [hz2] at p3 q3 hvs;have g0:=nN (adf hlt hsz) p0
  have g1:=nN (adf hlt hsz) p1;have g2:=nN (adf hlt hsz) p2;have g3:=nN (adf hlt hsz) p3
  have g4:=nN (adf hlt hsz) p4;have g5:=nN (adf hlt hsz) p5;have h0:=nN (adf hlt' hsz) q0
  have h1:=nN (adf hlt' hsz) q1;have h2:=nN (adf hlt' hsz) q2
  have h3:=nN (adf hlt' hsz) q3;have h4:=nN (adf hlt' hsz) q4
  have h5:=nN (adf hlt' hsz) q5;have HVS:=ah hvs;have HK:=ah hk
  clear ra rb Aw rH gV hvs hz1 hz2 hp p0 p1 p2 p3 p4 p5 q0 q1 q2 q3 q4 q5 hlt hlt' hk hsz hBw
  go_wp2_with fail;refine ahM (by kernel_rfl) (by kernel_rfl) ?_
  repeat (quiet_step (first | exact HVS.out _ _ | fail))
  refine wpQuiet_nil ?_;rintro _ ⟨⟨qn,qos⟩,rfl⟩
  have HB2:=ah (HB.out.trans ((xK wr qn qos).mono HB.out.size))
  clear g0 g1 g2 g3 g4 g5 h0 h1 h2 h3 h4 h5 HVS;go_wp2_with fail
  go_roundg g
  case measure=>omega
  exact ⟨k+1,int_eq' (by omega),by have:=HK.out;omega,HB2.out⟩
structure su (T:TypeId) (c1 c2:Array Value) (W:World) (b1 b2:Nat) (V:World):Prop where
 k1:aj V b1 T c1
 k2:aj V b2 T c2
 bel:Below W.heap.size W V
theorem su.one (T:TypeId) (c1 c2:Array Value) (W:World):su T c1 c2 W W.heap.size (W.heap.size+1) ((W.alloc (.cells c1 T)).alloc (.cells c2 T)).drew:=by
 have h2:=aj.new (W.alloc (.cells c1 T)) T c2;rw [World.size_alloc] at h2
 exact ⟨(aj.new W T c1).alloc _,h2,(((Below.refl _ W).alloc (ab1 _) _).alloc (by simp) _).drew⟩
theorem su.two (T:TypeId) (c1 c2:Array Value) (W:World):su T c1 c2 W (W.heap.size+1) W.heap.size ((W.alloc (.cells c2 T)).alloc (.cells c1 T)).drew:=
 ⟨(su.one T c2 c1 W).k2,(su.one T c2 c1 W).k1,(su.one T c2 c1 W).bel⟩
theorem NK (B:Nat) (u1 u2:Value) (g:Gr.G) (w:World) (h1:fE w B u1 g) (h2:fE w B u2 g) (hB:B<=w.heap.size):
  Calls Tryz.prog 22 #[u1,u2] w fun e w'=>e= .returned (.bool true)/\Below w.heap.size w w':=by
 have hok:=h1.ok;obtain ⟨A1,c1,A2,c2,rfl,n1,r1⟩:=h1.ex
 obtain ⟨A3,c3,A4,c4,rfl,n2,r2⟩:=h2.ex;obtain ⟨n,hn⟩: ∃n,g.nodes.length=n:=⟨_,rfl⟩
 obtain ⟨m,hm⟩: ∃m,g.au.length=m:=⟨_,rfl⟩;have hnl:n<=1073741824:=hn▸hok.nl
 have hml:m<=1073741824:=hm▸hok.rl;rw [hn,hm]
 obtain ⟨W1,hW1⟩: ∃W1,(w.alloc (.cells #[.slice A1 n c1, .slice A2 m c2] 39)).alloc (.cells #[.slice A3 n c3, .slice A4 m c4] 39)=W1:=⟨_,rfl⟩
 have hb1:Below w.heap.size w W1:=by rw [<-hW1];exact ((Below.refl _ w).alloc (ab1 _) _).alloc (by simp) _
 have k1:aj W1 w.heap.size 39 #[.slice A1 n c1, .slice A2 m c2]:=by rw [<-hW1];exact (aj.new _ _ _).alloc _
 have k2:aj W1 (w.heap.size+1) 39 #[.slice A3 n c3, .slice A4 m c4]:=by
  rw [<-hW1]
  have:=aj.new (w.alloc (.cells #[.slice A1 n c1, .slice A2 m c2] 39)) 39 #[.slice A3 n c3, .slice A4 m c4]
  simpa using this
 have HN:=ah (And.intro hn hm);have aK:=ah hok;have aH:=ah hB
 have HP:=ah (And.intro (And.intro n1 n2) (And.intro r1 r2));have HB1:=ah hb1
 have HK:=ah (And.intro k1 k2);obtain ⟨a0,a1⟩:=cells2 k1;obtain ⟨b0,b1⟩:=cells2 k2
 have hu:=lD;clear h1 h2 hn hm hok hB n1 n2 r1 r2 hb1 k1 k2
 go_enter Tryz.func22,Tryz.ntmps22;go_wp2_with fail
 go_loopg [5] n (fun kx x wr=> ∃k:Nat,x= .int .i64 k/\k+kx=n/\Hid (Below W1.heap.size W1 wr))
 case atStart=>exact ⟨0,rfl,by omega,Below.refl _ _⟩
 obtain ⟨k,rfl,hk,hb⟩:=hrel;have HB:Hid (Below W1.heap.size W1 wr):=hb
 obtain ⟨a0,a1⟩:=cells2 (HK.out.1.below HB.out HK.out.1.lt)
 obtain ⟨b0,b1⟩:=cells2 (HK.out.2.below HB.out HK.out.2.lt);clear hb hW1;cases gk with
 | zero=>
  obtain rfl:k=n:=by omega
  clear hk;go_wp2_with fail
  go_loopg [8] m (fun kx x wx=> ∃j:Nat,x= .int .i64 j/\j+kx=m/\Hid (Below W1.heap.size W1 wx))
  case atStart=>exact ⟨0,rfl,by omega,HB.out⟩
  obtain ⟨j,rfl,hk,hb⟩:=hrel;clear HB;have HB:Hid (Below W1.heap.size W1 wr):=hb
  obtain ⟨a0,a1⟩:=cells2 (HK.out.1.below HB.out HK.out.1.lt)
  obtain ⟨b0,b1⟩:=cells2 (HK.out.2.below HB.out HK.out.2.lt);clear hb;cases gk with
  | zero=>
   obtain rfl:j=m:=by omega
   have HF:=ah (HB1.out.trans (HB.out.mono HB1.out.size));clear hk;go_wp2_with fail;go_ret
   exact ⟨rfl,HF.out⟩
  | succ kq=>
   have hkn:j<m:=by omega
   have dD:(j:Int)<m:=by omega
   have pk:(0:Int)<=(j:Int):=by omega
   have tk:((j:Int)).toNat=j:=by omega
   obtain ⟨p,hp⟩: ∃p,g.au[j]?=some p:=⟨_,ab2 (by rw [HN.out.2];exact hkn)⟩
   have hBw:=(HB1.out.trans (HB.out.mono HB1.out.size)).mono aH.out
   obtain ⟨b,o,Ap,cp,rfl,hlt,⟨p0,p1,p2,p3,p4⟩,rb⟩:=(HP.out.2.1.below hBw (ig.below hBw)).rel hp
   obtain ⟨b',o',EK,cp',rfl,hlt',⟨q0,q1,q2,q3,q4⟩,rH⟩:=(HP.out.2.2.below hBw (ig.below hBw)).rel hp
   obtain ⟨pl,hpl⟩: ∃x,p.props.length=x:=⟨_,rfl⟩
   obtain ⟨zt,aO⟩: ∃z:ByteArray,(⟨p.type.toArray⟩:ByteArray)=z:=⟨_,rfl⟩
   simp only [ST] at p1 q1;rw [aO] at p1 q1;rw [hpl] at p4 q4
   have HX:=ah (And.intro hpl (And.intro hp (And.intro rb rH)));have HKK:=ah hk
   clear hpl rb rH hp hBw hlt hlt' hk aO
   go_upto_region 12 with fail
   go_cut [9,10] (fun s6 s7 wx=> ∃b1 b2:Nat,s6= .pointer (some ⟨b1,0,none⟩)/\s7= .pointer (some ⟨b2,0,none⟩)/\su 63 #[.int .i64 p.id, .string zt, .int .i64 p.src, .int .i64 p.dst, .slice Ap pl cp] #[.int .i64 p.id, .string zt, .int .i64 p.src, .int .i64 p.dst, .slice EK pl cp'] wr b1 b2 wx)
   case first=>
    rename_i J K0 hJ hK;have nb:b≠wr.heap.size:=akQ (World.block_lt_of_cell? wr _ p0)
    have nc:b'≠wr.heap.size:=akQ (World.block_lt_of_cell? wr _ q0)
    have nd:w.heap.size≠wr.heap.size:=akQ (World.block_lt_of_cell? wr _ a0)
    have ne:w.heap.size+1≠wr.heap.size:=akQ (World.block_lt_of_cell? wr _ b0)
    have nf:b≠wr.heap.size+1:=akQ (akr (World.block_lt_of_cell? wr _ p0))
    have ng:b'≠wr.heap.size+1:=akQ (akr (World.block_lt_of_cell? wr _ q0))
    have nh:w.heap.size≠wr.heap.size+1:=akQ (akr (World.block_lt_of_cell? wr _ a0))
    have ni:w.heap.size+1≠wr.heap.size+1:=akQ (akr (World.block_lt_of_cell? wr _ b0))
    go_region_held3 (fun w'=>w'.cell? ⟨w.heap.size,1,none⟩=some (.slice (some ⟨b,o,none⟩) m c2)/\w'.cell? ⟨w.heap.size+1,1,none⟩=some (.slice (some ⟨b',o',none⟩) m c4)/\w'.cell? ⟨b,o+j*5,none⟩=some (.int .i64 p.id)/\w'.cell? ⟨b,o+j*5+1,none⟩=some (.string zt)/\w'.cell? ⟨b,o+j*5+2,none⟩=some (.int .i64 p.src)/\w'.cell? ⟨b,o+j*5+3,none⟩=some (.int .i64 p.dst)/\w'.cell? ⟨b,o+j*5+4,none⟩=some (.slice Ap pl cp)/\
     w'.cell? ⟨b',o'+j*5,none⟩=some (.int .i64 p.id)/\w'.cell? ⟨b',o'+j*5+1,none⟩=some (.string zt)/\w'.cell? ⟨b',o'+j*5+2,none⟩=some (.int .i64 p.src)/\w'.cell? ⟨b',o'+j*5+3,none⟩=some (.int .i64 p.dst)/\w'.cell? ⟨b',o'+j*5+4,none⟩=some (.slice EK pl cp')) (go_keep) (fail)
    all_goals
     refine hK _ _ (Met.intro (hJ _ _ ?_))
     repeat apply Exists.intro
     first
      | exact ⟨⟨_,_,rfl,rfl,su.one _ _ _ _⟩,rfl⟩
      | exact ⟨⟨_,_,rfl,rfl,su.two _ _ _ _⟩,rfl⟩
   obtain ⟨b1,b2,rfl,rfl,ht⟩:=hcut;obtain ⟨d0,d1,d2,d3,d4⟩:=cells5 ht.k1
   obtain ⟨g0,g1,g2,g3,g4⟩:=cells5 ht.k2
   have HB2:=ah (HB.out.trans (ht.bel.mono HB.out.size))
   have hbr:Below B wr wc:=ht.bel.mono (ab5 aH.out (ab5 HB1.out.size HB.out.size))
   have hsz:=ab5 aH.out (ab5 HB1.out.size HB2.out.size);obtain ⟨hpl,hp,rb,rH⟩:=HX.out
   have gV:=aK.out.rs p (acf hp)
   have iF:=ah (aa9 B Ap EK cp cp' pl p.props wc (rb.below hbr (aQ.below hbr)) (rH.below hbr (aQ.below hbr)) hpl gV.ps hsz (hpl▸gV.pl))
   clear ht hbr hsz hpl hp rb rH gV HX p0 p1 p2 p3 p4 q0 q1 q2 q3 q4;go_wp2_with fail
   refine iF.out.mono ?_;rintro e w4 ⟨rfl,b4⟩
   have HB4:=ah (HB2.out.trans (b4.mono HB2.out.size));clear b4 iF;go_wp2_with fail
   go_roundg kq
   case measure=>omega
   exact ⟨j+1,int_eq' (by omega),by have:=HKK.out;omega,HB4.out⟩
 | succ kq=>
  have hkn:k<n:=by omega
  have dD:(k:Int)<n:=by omega
  have pk:(0:Int)<=(k:Int):=by omega
  have tk:((k:Int)).toNat=k:=by omega
  obtain ⟨p,hp⟩: ∃p,g.nodes[k]?=some p:=⟨_,ab2 (by rw [HN.out.1];exact hkn)⟩
  have hBw:=(HB1.out.trans (HB.out.mono HB1.out.size)).mono aH.out
  obtain ⟨b,o,Al,cl,Ap,cp,rfl,hlt,⟨p0,p1,p2⟩,ra,rb⟩:=(HP.out.1.1.below hBw (gZ.below hBw)).node hp
  obtain ⟨b',o',Wq,cl',EK,cp',rfl,hlt',⟨q0,q1,q2⟩,Aw,rH⟩:=(HP.out.1.2.below hBw (gZ.below hBw)).node hp
  obtain ⟨ll,hll⟩: ∃x,p.labels.length=x:=⟨_,rfl⟩
  obtain ⟨pl,hpl⟩: ∃x,p.props.length=x:=⟨_,rfl⟩;rw [hll] at p1 q1;rw [hpl] at p2 q2
  have p0:wr.cell? _=_:=p0;have p1:wr.cell? _=_:=p1;have p2:wr.cell? _=_:=p2
  have q0:wr.cell? _=_:=q0;have q1:wr.cell? _=_:=q1;have q2:wr.cell? _=_:=q2
  have HX:=ah (And.intro (And.intro hll hpl) (And.intro hp (And.intro (And.intro ra rb) (And.intro Aw rH))))
  have HKK:=ah hk;clear hll hpl ra rb Aw rH hp hBw hlt hlt' hk
  go_upto_region 6 with fail
  go_cut [6,7] (fun s6 s7 wx=> ∃b1 b2:Nat,s6= .pointer (some ⟨b1,0,none⟩)/\s7= .pointer (some ⟨b2,0,none⟩)/\su 59 #[.int .i64 p.id, .slice Al ll cl, .slice Ap pl cp] #[.int .i64 p.id, .slice Wq ll cl', .slice EK pl cp'] wr b1 b2 wx)
  case first=>
   rename_i J K0 hJ hK;have nb:b≠wr.heap.size:=akQ (World.block_lt_of_cell? wr _ p0)
   have nc:b'≠wr.heap.size:=akQ (World.block_lt_of_cell? wr _ q0)
   have nd:w.heap.size≠wr.heap.size:=akQ (World.block_lt_of_cell? wr _ a0)
   have ne:w.heap.size+1≠wr.heap.size:=akQ (World.block_lt_of_cell? wr _ b0)
   have nf:b≠wr.heap.size+1:=akQ (akr (World.block_lt_of_cell? wr _ p0))
   have ng:b'≠wr.heap.size+1:=akQ (akr (World.block_lt_of_cell? wr _ q0))
   have nh:w.heap.size≠wr.heap.size+1:=akQ (akr (World.block_lt_of_cell? wr _ a0))
   have ni:w.heap.size+1≠wr.heap.size+1:=akQ (akr (World.block_lt_of_cell? wr _ b0))
   go_region_held3 (fun w'=>w'.cell? ⟨w.heap.size,0,none⟩=some (.slice (some ⟨b,o,none⟩) n c1)/\w'.cell? ⟨w.heap.size+1,0,none⟩=some (.slice (some ⟨b',o',none⟩) n c3)/\w'.cell? ⟨b,o+k*3,none⟩=some (.int .i64 p.id)/\w'.cell? ⟨b,o+k*3+1,none⟩=some (.slice Al ll cl)/\w'.cell? ⟨b,o+k*3+2,none⟩=some (.slice Ap pl cp)/\
    w'.cell? ⟨b',o'+k*3,none⟩=some (.int .i64 p.id)/\w'.cell? ⟨b',o'+k*3+1,none⟩=some (.slice Wq ll cl')/\w'.cell? ⟨b',o'+k*3+2,none⟩=some (.slice EK pl cp')) (go_keep) (fail)
   all_goals
    refine hK _ _ (Met.intro (hJ _ _ ?_))
    repeat apply Exists.intro
    first
     | exact ⟨⟨_,_,rfl,rfl,su.one _ _ _ _⟩,rfl⟩
     | exact ⟨⟨_,_,rfl,rfl,su.two _ _ _ _⟩,rfl⟩
  obtain ⟨b1,b2,rfl,rfl,ht⟩:=hcut;obtain ⟨d0,d1,d2⟩:=cells3 ht.k1
  obtain ⟨g0,g1,g2⟩:=cells3 ht.k2;have HT:=ah ht
  have HB2:=ah (HB.out.trans (ht.bel.mono HB.out.size))
  have hBw:=(HB1.out.trans (HB2.out.mono HB1.out.size)).mono aH.out
  have hbr:Below B wr wc:=ht.bel.mono (ab5 aH.out (ab5 HB1.out.size HB.out.size))
  have hsz:=ab5 aH.out (ab5 HB1.out.size HB2.out.size)
  obtain ⟨⟨hll,hpl⟩,hp,⟨ra,rb⟩,Aw,rH⟩:=HX.out;have gV:=aK.out.ns p (acf hp)
  rw [hll] at ra Aw
  have HST:=ah (ajj B Al Wq cl cl' ll p.labels wc ((show Reads wr _ _ _ _ _ from ra).below hbr) ((show Reads wr _ _ _ _ _ from Aw).below hbr) hsz (hll▸gV.ll))
  have iF:=ah (fun (V:World) (hb:Below wc.heap.size wc V)=>aa9 B Ap EK cp cp' pl p.props V
   ((show cZ wr _ _ _ _ _ from rb).below (hbr.trans (hb.mono hsz)) (aQ.below (hbr.trans (hb.mono hsz)))) ((show cZ wr _ _ _ _ _ from rH).below (hbr.trans (hb.mono hsz)) (aQ.below (hbr.trans (hb.mono hsz)))) hpl gV.ps (ab5 hsz hb.size) (hpl▸gV.pl))
  clear ht hBw hbr hsz hll hpl hp ra rb Aw rH gV HX p0 p1 p2 q0 q1 q2;go_wp2_with fail
  refine HST.out.mono ?_;rintro e w3 ⟨rfl,b3⟩
  obtain ⟨d0,d1,d2⟩:=cells3 (HT.out.k1.below b3 HT.out.k1.lt)
  obtain ⟨g0,g1,g2⟩:=cells3 (HT.out.k2.below b3 HT.out.k2.lt);have HSQ:=ah (iF.out w3 b3)
  have HB3:=ah (HB2.out.trans (b3.mono HB2.out.size));clear b3 HST iF;go_wp2_with fail
  refine HSQ.out.mono ?_;rintro e w4 ⟨rfl,b4⟩
  have HB4:=ah (HB3.out.trans (b4.mono HB3.out.size));clear b4 HSQ;go_wp2_with fail
  go_roundg kq
  case measure=>omega
  exact ⟨k+1,int_eq' (by omega),by have:=HKK.out;omega,HB4.out⟩
theorem rQ.ajk {W:World} {B:Nat} {u:Value} {v:ak.V} {z:ByteArray} (h:rQ W B u v) (hz:(⟨v.text.toArray⟩:ByteArray)=z): ∃A1 c1 A2 c2,u= .agg #[.int .i64 v.kind, .int .i64 v.num, .string z, .slice A1 v.nums.length c1, .slice A2 v.texts.length c2]/\W.ownsRow B 2 1 (.slice A1 v.nums.length c1) v.nums.length (v.nums.map I64)/\W.ownsRow B 9 1 (.slice A2 v.texts.length c2) v.texts.length (v.texts.map ST):=by
 obtain ⟨s,t,e,h1,h2⟩:=h.ex;obtain ⟨A1,c1,rfl⟩:=aJ h1;obtain ⟨A2,c2,rfl⟩:=aJ h2
 exact ⟨A1,c1,A2,c2,by rw [<-hz];exact e,h1,h2⟩
theorem aV.parts {T:TypeId} {W:World} {B k:Nat} {v:Value} {ps:List Gr.P} (h:aV T W B v ps) (hk:ps.length=k): ∃l:List (Gr.P×List Value),l.map Prod.fst=ps/\(∀x∈l,dJ W B x)/\W.ownsRow B T 6 v k (l.flatMap Prod.snd):=by
 subst hk;exact h
theorem abb (B:Nat) (A:Option Addr) (c n:Nat) (ps:List Gr.P) (w:World) (h:cZ w B 6 (aQ w B) A ps) (hl:ps.length=n) (hok: ∀p∈ps,pV p) (hB:B<=w.heap.size) (hn:n<=67108864):
  Calls Tryz.prog 40 #[.slice A n c] w fun e w'=> ∃v',e= .returned v'/\aV 61 w' w.heap.size v' ps/\Below w.heap.size w w':=by
 have H:=ah h;have HL:=ah hl;have aK:=ah hok;have aH:=ah hB
 have HS:=ah (show aV 61 (w.alloc (.cells #[] 61)) w.heap.size (.slice (some ⟨w.heap.size,0,none⟩) 0 0) (ps.take 0)/\Below w.heap.size w (w.alloc (.cells #[] 61)) from
  ⟨⟨[],by simp,by simp,by simpa using qJ w 61 6⟩,(Below.refl _ w).alloc (ab1 _) _⟩)
 clear h hl hok hB;go_enter Tryz.func40,Tryz.ntmps40;go_wp2_with fail
 go_loopg [4,3] n (fun kx x y wr=> ∃(k:Nat) (A':Option Addr) (c':Nat),x= .int .i64 k/\y= .slice A' k c'/\k+kx=n/\Hid (aV 61 wr w.heap.size (.slice A' k c') (ps.take k)/\Below w.heap.size w wr))
 case atStart=>exact ⟨0,_,_,rfl,rfl,by omega,HS.out⟩
 obtain ⟨k,A',c',rfl,rfl,hk,hb⟩:=hrel
 have HB:Hid (aV 61 wr w.heap.size (.slice A' k c') (ps.take k)/\Below w.heap.size w wr):=hb
 clear hb HS;cases gk with
 | zero=>
  obtain rfl:k=n:=by omega
  clear hk;go_wp2;go_ret
  exact ⟨_,rfl,by have:=HB.out.1;rwa [acg (by rw [HL.out];exact ab1 _)] at this,HB.out.2⟩
 | succ kq=>
  have hkn:k<n:=by omega
  have dD:(k:Int)<n:=by omega
  have pk:(0:Int)<=(k:Int):=by omega
  have tk:((k:Int)).toNat=k:=by omega
  obtain ⟨p,hp⟩: ∃p,ps[k]?=some p:=⟨_,ab2 (by rw [HL.out];exact hkn)⟩
  have hsz:=HB.out.2.size;have hBw:=HB.out.2.mono aH.out
  obtain ⟨b,o,An,cn,At,ct,rfl,hlt,⟨p0,p1,p2,p3,p4,p5⟩,ra,rb⟩:=(H.out.below hBw (aQ.below hBw)).prop hp
  have gV:=aK.out p (acf hp)
  have Ph:=fun (V:World) (hb:Below wr.heap.size wr V)=>agt B _ p.val V ((xP (cn:=cn) (ct:=ct) gV.val ra rb).below (hb.mono (ab5 aH.out hsz))) (ab5 aH.out (ab5 hsz hb.size))
  simp only [ST] at p0 p3 Ph
  obtain ⟨z1,hz1⟩: ∃z:ByteArray,(⟨p.key.toArray⟩:ByteArray)=z:=⟨_,rfl⟩
  obtain ⟨z2,hz2⟩: ∃z:ByteArray,(⟨p.val.text.toArray⟩:ByteArray)=z:=⟨_,rfl⟩;rw [hz1] at p0
  rw [hz2] at p3 Ph;have hbl:=adf hlt aH.out
  have HKK:Hid (∀w',Below w.heap.size wr w'->w'.cell? ⟨b,o+k*6,none⟩=some (.string z1)/\w'.cell? ⟨b,o+k*6+1,none⟩=some (.int .i64 p.val.kind)/\w'.cell? ⟨b,o+k*6+2,none⟩=some (.int .i64 p.val.num)/\w'.cell? ⟨b,o+k*6+3,none⟩=some (.string z2)/\w'.cell? ⟨b,o+k*6+4,none⟩=some (.slice An p.val.nums.length cn)/\w'.cell? ⟨b,o+k*6+5,none⟩=some (.slice At p.val.texts.length ct)):=fun w' hb=>
   ⟨(hb.cell (p:=⟨b,o+k*6,none⟩) hbl).trans p0,(hb.cell (p:=⟨b,o+k*6+1,none⟩) hbl).trans p1,(hb.cell (p:=⟨b,o+k*6+2,none⟩) hbl).trans p2,(hb.cell (p:=⟨b,o+k*6+3,none⟩) hbl).trans p3,(hb.cell (p:=⟨b,o+k*6+4,none⟩) hbl).trans p4,(hb.cell (p:=⟨b,o+k*6+5,none⟩) hbl).trans p5⟩
  have HVC:=ah Ph;have hbd:Below wr.heap.size wr wr.drew:=(Below.refl _ wr).drew
  have ou:=ah hbd;have HP:=ah (And.intro hp (And.intro hz1 hz2));have HK:=ah hk
  have dL:=ah hsz;have jh:=ah (show (ps.take k).length=k by rw [acW,HL.out];omega)
  have h5:k<536870912:=by omega
  clear Ph hbd hp hz1 hz2 hk ra rb gV hlt hBw hsz;go_wp2_with fail
  go_region_held3 (fun w'=>w'.cell? ⟨b,o+k*6,none⟩=some (.string z1)/\w'.cell? ⟨b,o+k*6+1,none⟩=some (.int .i64 p.val.kind)/\w'.cell? ⟨b,o+k*6+2,none⟩=some (.int .i64 p.val.num)/\w'.cell? ⟨b,o+k*6+3,none⟩=some (.string z2)/\w'.cell? ⟨b,o+k*6+4,none⟩=some (.slice An p.val.nums.length cn)/\w'.cell? ⟨b,o+k*6+5,none⟩=some (.slice At p.val.texts.length ct)) (first | go_keep | exact HKK.out _ hq8 | exact HKK.out _ (hq.mono dL.out) | fail)
   ((first |(go_at_call 14;refine (HVC.out _ ou.out).mono ?_;rintro e w7 ⟨u7,rfl,Dc,hb7⟩;have hq:Below wr.heap.size wr w7:=ou.out.trans hb7;have Oy:=Dc.ajk HP.out.2.2;clear Dc;obtain ⟨A1,c1,A2,c2,rfl,qg,ht7⟩:=Oy;have qh:=(HB.out.1.below hq).parts jh.out;obtain ⟨l7,yN,hx7,rD⟩:=qh;have tV:=ah (And.intro yN (And.intro hx7 (And.intro rD (And.intro qg ht7))));have yA:=ab5 HB.out.2.size hq.size;clear yN hx7 rD qg ht7 hb7) |(refine FQ rfl (.tmp 12) (.tmp 25) 57 61 (.agg #[.string ⟨#[]⟩, .int .i64 0, .int .i64 0, .string ⟨#[]⟩, .slice none 0 0, .slice none 0 0]) 6 96 Tryz.underlying57 aaE rfl (by decide) (by decide) rfl w.heap.size (.slice A' k c') k (l7.flatMap Prod.snd) w7 rfl tV.out.2.2.1 [.string z1, .int .i64 p.val.kind, .int .i64 p.val.num, .string z2, .slice A1 p.val.nums.length c1, .slice A2 p.val.texts.length c2] _ rfl rfl (by simp [Value.oneCell']) rfl h5 yA ?_;intro v9 w9 bI bG jo aF;have hq8:=(hq.mono dL.out).trans aF) | fail))
  have HE:=ah (aV.put (T:=61) (p:=p) (v:= .slice A' k c') (v':=v9) (ps:=ps.take k) ⟨by decide,by decide⟩ tV.out.1 tV.out.2.1 (show dJ w7 w.heap.size (p, [.string z1, .int .i64 p.val.kind, .int .i64 p.val.num, .string z2, .slice A1 p.val.nums.length c1, .slice A2 p.val.texts.length c2]) from ⟨_,_,by rw [<-HP.out.2.1,<-HP.out.2.2];rfl,own_base tV.out.2.2.2.1 dL.out,own_base tV.out.2.2.2.2 dL.out⟩) (by rw [jh.out];exact tV.out.2.2.1) bG (by rw [jh.out];exact bI))
  have uY:=aJ bI;obtain ⟨A9,c9,rfl⟩:=uY
  have Hg:=ah (HB.out.2.trans ((hq.mono dL.out).trans aF));clear bI bG jo aF hq8;go_wp2
  go_roundg kq
  case measure=>omega
  refine ⟨k+1,A9,c9,rfl,rfl,by have:=HK.out;omega, ?_,Hg.out⟩
  have ht:ps.take (k+1)=ps.take k ++ [p]:=by rw [adZ,HP.out.1];rfl
  rw [ht];exact HE.out
theorem Kt.set {T:TypeId} {base b i:Nat} {w:World} {cs:Array Value} (h:aj w b T cs) (hb:base<=b) (u:Value):Kt T base w (w.setCell ⟨b,i,none⟩ u):=
 ⟨(Below.refl base w).grown (grownBy_set w ⟨b,i,none⟩ u) (alS (Nat.lt_of_le_of_lt hb h.lt)) (fun k hk=>by cases hk;exact hb),fun b' c t fz hc ht=>by
  rw [(grownBy_set w ⟨b,i,none⟩ u).block b' (acI.1 hc).1 ?_]
  ·exact hc
  intro e;cases e;unfold aj at h;rw [h] at hc;cases hc
  exact ht rfl⟩
theorem ajl {ops:Array Oper} {o:Oper} {a:Act} {K:Act->World->Prop} {Q:Exit->Act->World->Prop} {E:Prop} (hgd:o.guard=none) (s x:Operand)
  (ho:o.op= .call {callee:= .builtin .append,args:= #[s,x],argTypes:= #[23,23]}) (bk:Nat) (V:World) (hs:a.eval s= .slice (some ⟨bk,0,none⟩) 0 0)
  (hown:V.ownsRow bk 9 1 (.slice (some ⟨bk,0,none⟩) 0 0) 0 []) (B:Nat) (A:Option Addr) (m c:Nat) (ls:List (List UInt8)) (hx:a.eval x= .slice A m c) (hr:Reads V B 1 A m (ls.map ST)) (hm:m<=67108864) (hB:bk<=V.heap.size)
  (k: ∀A' c' w',w'.ownsRow bk 9 1 (.slice A' m c') m (ls.map ST)->V.grownBy w' (some bk)->K (a.put o.dst (.slice A' m c')) w'):if Region.wanted o (yielded ops a.tmps)=true then Oper.wp Tryz.prog o a V K Q else E:=by
 have hw:Region.wanted o (yielded ops a.tmps)=true:=by simp [Region.wanted,hgd]
 rw [ab7 hw];obtain ⟨i0,hi,hz0,hz1,hz2⟩:=info_parts xR
 refine QA (P:=Tryz.prog) _ s x _ ho bk 9 i0 _ 1 16 Tryz.underlying23 hi hz0 hz1 hz2 rfl (by decide) _ 0 [] hs hown B A m c (ls.map ST) hx hr ?_ ?_ ?_ hB ?_
 ·intro u hu
  obtain ⟨b,_,rfl⟩:=ad5.1 hu;rfl
 ·unfold maxLen;omega
 ·omega
 intro v' w' h1 h2 _;rw [akA,adI] at h1;obtain ⟨A',c',rfl⟩:=aJ h1;exact k _ _ _ h1 h2
def Pj (g:Gr.G) (base k:Nat) (s:Value) (V:World):Prop:= ∃ln:List (Gr.N×List Value),ln.map Prod.fst=g.nodes.take k/\(∀x∈ln,jA V base x)/\V.ownsRow base 59 3 s k (ln.flatMap Prod.snd)
def Pm (g:Gr.G) (base k:Nat) (s:Value) (V:World):Prop:= ∃ln:List (Gr.R×List Value),ln.map Prod.fst=g.au.take k/\(∀x∈ln,jB V base x)/\V.ownsRow base 63 5 s k (ln.flatMap Prod.snd)
theorem Pj.kt {g:Gr.G} {base k:Nat} {s:Value} {T:TypeId} {V V':World} (h:Pj g base k s V) (hk:Kt T base V V') (h1:2≠T) (h2:9≠T) (h3:61≠T) (h4:59≠T):Pj g base k s V':=by
 obtain ⟨ln,a,b,c⟩:=h;exact ⟨ln,a,fun x hx=>(b x hx).kt hk h1 h2 h3,nP c hk h4⟩
theorem Pm.kt {g:Gr.G} {base k:Nat} {s:Value} {T:TypeId} {V V':World} (h:Pm g base k s V) (hk:Kt T base V V') (h1:2≠T) (h2:9≠T) (h3:61≠T) (h4:63≠T):Pm g base k s V':=by
 obtain ⟨ln,a,b,c⟩:=h;exact ⟨ln,a,fun x hx=>(b x hx).kt hk h1 h2 h3,nP c hk h4⟩
structure uZ (w:World) (b0 b1:Value) (g:Gr.G) (k m:Nat) (s r:Value) (V:World):Prop where
 box:aj V w.heap.size 39 #[b0,b1]
 res:aj V (w.heap.size+1) 39 #[.slice none 0 0, .slice none 0 0]
 out:aj V (w.heap.size+2) 39 #[s,r]
 nx:Pj g w.heap.size k s V
 rx:Pm g w.heap.size m r V
 bel:Below w.heap.size w V
theorem uZ.below {w V V':World} {b0 b1 s r:Value} {g:Gr.G} {k m:Nat} (h:uZ w b0 b1 g k m s r V) (hb:Below V.heap.size V V'):uZ w b0 b1 g k m s r V':=
 have hk:Kt 0 w.heap.size V V':=Kt.of_below hb h.bel.size
 ⟨h.box.below hb h.box.lt,h.res.below hb h.res.lt,h.out.below hb h.out.lt,h.nx.kt hk (by decide) (by decide) (by decide) (by decide),h.rx.kt hk (by decide) (by decide) (by decide) (by decide),h.bel.trans (hb.mono h.bel.size)⟩
theorem uZ.node {w W:World} {b0 b1 s r:Value} {g:Gr.G} {k m:Nat} {p:Gr.N} {cs:List Value} (h:uZ w b0 b1 g k m s r W) (hp:g.nodes[k]?=some p) (hn:jA W w.heap.size (p,cs)):
  ∃xs,W.ownsRow w.heap.size 59 3 s k xs/\ ∀w9 v',W.grownBy w9 s.ownBlock->w9.ownsRow w.heap.size 59 3 v' (k+1) (xs ++ cs)->aj w9 (w.heap.size+2) 39 #[s,r]/\uZ w b0 b1 g (k+1) m v' r (w9.setCell ⟨w.heap.size+2,0,none⟩ v'):=by
 obtain ⟨ln,h1,h2,h3⟩:=h.nx;refine ⟨_,h3,fun w9 v' hg ho=> ?_⟩
 have k1:Kt 59 w.heap.size W w9:=Kt.row h3 hg h.bel.size
 have hob:=k1.blk h.out (by decide)
 have k2:Kt 39 w.heap.size w9 (w9.setCell ⟨w.heap.size+2,0,none⟩ v'):=Kt.set hob (by omega) v'
 have ne1:some w.heap.size≠some (w.heap.size+2):=fun e=>by have:=acE e;omega
 have Wu:some (w.heap.size+1)≠some (w.heap.size+2):=fun e=>by have:=acE e;omega
 refine ⟨hob,(k1.blk h.box (by decide)).grown (grownBy_set _ _ _) ne1,(k1.blk h.res (by decide)).grown (grownBy_set _ _ _) Wu,by simpa using hob.aS 0 v',⟨ln ++ [(p,cs)], ?_,fun x hx=> ?_, ?_⟩,(h.rx.kt k1 (by decide) (by decide) (by decide) (by decide)).kt k2 (by decide) (by decide) (by decide) (by decide),h.bel.trans (k1.bel.trans k2.bel)⟩
 ·rw [ade,h1,adZ,hp];rfl
 ·rcases acU.1 hx with hx | hx
  ·exact ((h2 x hx).kp (k1.kp (.inl rfl))).kt k2 (by decide) (by decide) (by decide)
  rw [adg.1 hx];exact (hn.kp (k1.kp (.inl rfl))).kt k2 (by decide) (by decide) (by decide)
 rw [ad4]
 simpa using nP ho k2 (by decide)
theorem uZ.rel {w W:World} {b0 b1 s r:Value} {g:Gr.G} {k m:Nat} {p:Gr.R} {cs:List Value} (h:uZ w b0 b1 g k m s r W) (hp:g.au[m]?=some p) (hn:jB W w.heap.size (p,cs)):
  ∃xs,W.ownsRow w.heap.size 63 5 r m xs/\ ∀w9 v',W.grownBy w9 r.ownBlock->w9.ownsRow w.heap.size 63 5 v' (m+1) (xs ++ cs)->aj w9 (w.heap.size+2) 39 #[s,r]/\uZ w b0 b1 g k (m+1) s v' (w9.setCell ⟨w.heap.size+2,1,none⟩ v'):=by
 obtain ⟨ln,h1,h2,h3⟩:=h.rx;refine ⟨_,h3,fun w9 v' hg ho=> ?_⟩
 have k1:Kt 63 w.heap.size W w9:=Kt.row h3 hg h.bel.size
 have hob:=k1.blk h.out (by decide)
 have k2:Kt 39 w.heap.size w9 (w9.setCell ⟨w.heap.size+2,1,none⟩ v'):=Kt.set hob (by omega) v'
 have ne1:some w.heap.size≠some (w.heap.size+2):=fun e=>by have:=acE e;omega
 have Wu:some (w.heap.size+1)≠some (w.heap.size+2):=fun e=>by have:=acE e;omega
 refine ⟨hob,(k1.blk h.box (by decide)).grown (grownBy_set _ _ _) ne1,(k1.blk h.res (by decide)).grown (grownBy_set _ _ _) Wu,by simpa using hob.aS 1 v',(h.nx.kt k1 (by decide) (by decide) (by decide) (by decide)).kt k2 (by decide) (by decide) (by decide) (by decide),⟨ln ++ [(p,cs)], ?_,fun x hx=> ?_, ?_⟩,h.bel.trans (k1.bel.trans k2.bel)⟩
 ·rw [ade,h1,adZ,hp];rfl
 ·rcases acU.1 hx with hx | hx
  ·exact ((h2 x hx).kp (k1.kp (.inr rfl))).kt k2 (by decide) (by decide) (by decide)
  rw [adg.1 hx];exact (hn.kp (k1.kp (.inr rfl))).kt k2 (by decide) (by decide) (by decide)
 rw [ad4]
 simpa using nP ho k2 (by decide)
end Go.Proofs.YtoofbflplhbpbaaGreatDoor
namespace Go.Proofs.YtoofbflplhbpbaaGreatDoor
open Go Go.RowKit
variable {P:Program} {md:Region.Mode} {Q:Exit->Act->World->Prop}
def Je (P:Program) (ops:Array Oper) (N:Nat) (Q:Exit->Act->World->Prop):Exit->Act->World->Prop
 | .normal,a,w=>wpOp P ops Q N (fun a w=>Q .normal a w) a w
 | e,a,w=>Q e a w
theorem ajm {ops:Array Oper} {N:Nat} {o:Oper} {a:Act} {w:World} {K K':Act->World->Prop} (h: ∀a w,K a w->K' a w) (hh:o.wp P a w K (Je P ops N Q)):o.wp P a w K' Q:=by
 have h0:=Oper.wp_mono h hh;clear hh;unfold Oper.wp at*
 generalize (execOp a.eval o).run P w=r at*
 cases r with
 | ok n w'=>
  cases n<;> simp only [Oper.upon] at h0⊢ <;>
   first
    | exact h0
    | exact Calls.mono h0 (fun e w'' he=>by cases e<;> first | exact he | exact (fun x=>he x))
 | halt x w'=>cases x<;> simp only [Oper.upon] at h0⊢ <;> exact h0
structure mO (md:Region.Mode) (ops S:Array Oper) (N:Nat) (ls l:Array Bool):Prop where
 inv:HeadInv md ops N l
 size:ls.size=N
 same: ∀j,ls.getD j false=l.getD j false
structure FZ (md:Region.Mode) (ops S:Array Oper) (N:Nat):Prop where
 short: ∀j,j<N->S[j]?=ops[j]?
 none_: ∀j,N<=j->S[j]?=none
 size:ops.size=N+1
 calm: ∀(j:Nat) oj,ops[j]?=some oj->oj.guard=none
 edge: ∀(j:Nat) oj,ops[j]?=some oj-> ∀e∈oj.after,e.on<j
 sink:Region.sinkB md ops N=true
section
variable {ops S:Array Oper} {N:Nat} {ls l:Array Bool}
theorem NM {l:Array Bool} {j:Nat} (h:j<l.size):l.getD j true=l.getD j false:=by simp [h]
theorem mO.at_ (h:mO md ops S N ls l) (hs:ops.size=N+1) {j:Nat} (hj:j<N):ls.getD j true=l.getD j true:=by
 rw [NM (by rw [h.size];exact hj),NM (by rw [h.inv.size,hs];omega),h.same]
theorem mO.ready (h:mO md ops S N ls l) (k:FZ md ops S N) {j:Nat} (hj:j<N):j∈Region.ready md S ls↔j∈Region.ready md ops l:=by
 rw [mem_ready,mem_ready,h.at_ k.size hj,k.short j hj];simp only [h.same]
theorem mO.set (h:mO md ops S N ls l) {i:Nat} (hi:i∈Region.ready md ops l) (hin:i<N):mO md ops S N (ls.setIfInBounds i true) (l.setIfInBounds i true):=by
 refine ⟨h.inv.set hi hin,by simp [h.size],fun j=> ?_⟩
 by_cases e:i=j
 ·subst e
  have h1:i<ls.size:=by rw [h.size];exact hin
  have h2:i<l.size:=by
   obtain ⟨_,o,ho,_⟩:=mem_ready.1 hi;rw [h.inv.size];exact (acI.1 ho).1
  simp [h1,h2]
 rw [getD_set_ne false e,getD_set_ne false e];exact h.same j
theorem mO.all (h:mO md ops S N ls l) (k:FZ md ops S N) (hr:Region.ready md S ls= []): ∀n j,j<n->j<N->l.getD j false=true
 | 0,j,hj,_=>by omega
 | n+1,j,hj,hN=>by
  by_cases hjn:j<n
  ·exact mO.all h k hr n j hjn hN
  have hall:=mO.all h k hr n;cases hl:l.getD j false with
  | true=>rfl
  | false=>
   exfalso
   have hlt:j<ops.size:=by rw [k.size];omega
   have hm:j∈Region.ready md ops l:=mem_ready.2 ⟨by rw [NM (by rw [h.inv.size];exact hlt)];exact hl,ops[j],aeF hlt,fun e he _=>by
    have:=k.edge j _ (aeF hlt) e he
    exact hall e.on (by omega) (by omega)⟩
   have:=(h.ready k hN).2 hm;rw [hr] at this;cases this
theorem mO.last (h:mO md ops S N ls l) (k:FZ md ops S N) (hr:Region.ready md S ls= []):N∈Region.ready md ops l:=by
 have hlt:N<ops.size:=by rw [k.size];omega
 exact mem_ready.2 ⟨h.inv.tail N (ab1 _) hlt,ops[N],aeF hlt,fun e he _=>by
  have:=k.edge N _ (aeF hlt) e he
  exact h.all k hr (e.on+1) e.on (by omega) this⟩
theorem mO.over (h:mO md ops S N ls l) (k:FZ md ops S N) (hr:Region.ready md S ls= []):Region.ready md ops (l.setIfInBounds N true)= []:=by
 refine List.eq_nil_iff_forall_not_mem.2 fun j hj=> ?_
 obtain ⟨h0,o,ho,_⟩:=mem_ready.1 hj;have hlt:=(acI.1 ho).1;rw [k.size] at hlt
 have hs:(l.setIfInBounds N true).size=N+1:=by simp [h.inv.size,k.size]
 rw [NM (by rw [hs];exact hlt)] at h0
 by_cases e:j=N
 ·subst e
  have:j<l.size:=by rw [h.inv.size,k.size];omega
  simp [this] at h0
 rw [getD_set_ne false (Ne.symm e),h.all k hr (j+1) j (by omega) (by omega)] at h0
 cases h0
theorem ajn {md:Region.Mode} {ops:Array Oper} {l:Array Bool} (h:Region.ready md ops l= []): ∀(m:Nat) (a:Act) (w:World),Q .normal a w->wpAny P md ops Q m l a w
 | 0,_,_,hq=>⟨h,hq⟩
 | m+1,_,_,hq=>⟨fun _=>hq,fun i hi=>by rw [h] at hi;cases hi⟩
theorem ajo (k:FZ md ops S N): ∀(f:Nat) (ls l:Array Bool) (a:Act) (w:World),mO md ops S N ls l->wpAny P md S (Je P ops N Q) f ls a w->wpAny P md ops Q (f+1) l a w:=by
 have hc:Region.chainB md ops N=true:=by
  unfold Region.chainB;rw [akC];intro t ht;have:=aoG.1 ht;rw [k.size] at this
  simp only [ak6,acZ];exact .inl (by omega)
 have hN:N<ops.size:=by rw [k.size];omega
 have fin: ∀(m:Nat) (ls l:Array Bool) (a:Act) (w:World),mO md ops S N ls l->Region.ready md S ls= []->Je P ops N Q .normal a w->wpAny P md ops Q (m+1) l a w:=fun m ls l a w hi hr hq=>by
  refine ⟨fun h0=>(by have:=hi.last k hr;rw [h0] at this;cases this),fun i hm=> ?_⟩
  have hiN:i=N:=by
   obtain ⟨h0,o,ho,_⟩:=mem_ready.1 hm;have hlt:=(acI.1 ho).1;rw [k.size] at hlt
   rcases akZ i N with h1 | h1
   ·exfalso
    have:=(hi.ready k h1).2 hm;rw [hr] at this;cases this
   omega
  subst hiN;exact wpOp_mono (fun a w h=>ajn (hi.over k hr) m a w h) hq
 intro f
 induction f with
 | zero=>intro ls l a w hi h;exact fin 0 ls l a w hi h.1 h.2
 | succ f ih=>
  intro ls l a w hi h;by_cases hr:Region.ready md S ls= []
  ·exact fin (f+1) ls l a w hi hr (h.1 hr)
  obtain ⟨j0,hj0⟩:=List.exists_mem_of_ne_nil _ hr
  have ad3:j0<N:=by
   obtain ⟨_,o,ho,_⟩:=mem_ready.1 hj0
   rcases akZ j0 N with h1 | h1
   ·exact h1
   rw [k.none_ j0 h1] at ho;cases ho
  have hj1:=(hi.ready k ad3).1 hj0
  refine ⟨fun h0=>(by rw [h0] at hj1;cases hj1),fun i hm=> ?_⟩
  have hiN:i<N:=by
   rcases akZ i N with h1 | h1
   ·exact h1
   exact absurd hm (tail_waits k.sink hc hN hi.inv _ j0 rfl ad3 (mem_ready.1 hj1).1 i h1)
  have h2:=h.2 i ((hi.ready k hiN).2 hm);obtain ⟨_,o,ho,_⟩:=mem_ready.1 hm
  unfold wpOp at h2⊢;rw [k.short i hiN,ho] at h2;rw [ho];simp only at h2⊢
  have hw: ∀y,Region.wanted o y=true:=fun y=>by unfold Region.wanted;rw [k.calm i o ho]
  rw [ab7 (hw _)] at h2⊢;exact h2.imp (ajm fun a w hx=>ih _ _ a w (hi.set hm hiN) hx) id
def lastB (L:List Oper) (n:Nat):Bool:=(L.length == n+1) &&(L.all (fun o=>o.guard.isNone) &&((List.range (n+1)).all (fun j=>(L[j]?).all fun oj=>oj.after.all fun e=>decide (e.on<j)) && Region.sinkB .any L.toArray n))
theorem abd {id:Nat} {a:Act} {w:World} {L:List Oper} (n:Nat) (R:World->Prop) (hm:P.follows .mixedOrders=true) (hB:lastB L n=true)
  (hS:R w.drew) (h:R w.drew->wpAnyH P .any (L.take n).toArray (Je P L.toArray n Q) R n (Array.replicate n false) a w.drew):(Code.region id L.toArray true).wp P Q a w:=by
 unfold lastB at hB;simp only [adr,adp] at hB;obtain ⟨h0,h1,h2,h3⟩:=hB
 have k:FZ .any L.toArray (L.take n).toArray n:=by
  refine ⟨fun j hj=> ?_,fun j hj=> ?_,by simpa using h0,fun j oj hj=> ?_,fun j oj hj e he=> ?_,h3⟩
  ·rw [acz,acz,am6,ab7 hj]
  ·rw [acz];exact aks (by rw [acW];omega)
  ·rw [acz] at hj
   have:=akC.1 h1 oj (acf hj);exact Option.isNone_iff_eq_none.1 this
  rw [acz] at hj;have hlt:=(acy.1 hj).1;have:=akC.1 h2 j (aoG.2 (by omega))
  rw [hj] at this;simp only [Option.all_some,Array.all_eq_true_iff_forall_mem,acZ] at this
  exact this e he
 refine wp_region_any hm ?_
 have hi:mO .any L.toArray (L.take n).toArray n (Array.replicate n false) (Array.replicate L.toArray.size false):=
  ⟨⟨by simp,fun j oj _ hl=>(by rw [getD_replicate_false] at hl;cases hl),fun t _ ht=>getD_in (by simpa using ht) (getD_replicate_false _ _)⟩,by simp,fun j=>by rw [getD_replicate_false,getD_replicate_false]⟩
 have:=ajo k n _ _ a _ hi (wpAny_of_held _ _ _ _ (h hS))
 have hz:L.toArray.size=n+1:=by simpa using h0
 rw [hz] at this⊢;exact this
theorem abe {o:Oper} {a:Act} {w:World} (ho:ops[N]?=some o) (h: ∀K':Act->World->Prop,Shut (∀a w,Q .normal a w->K' a w)->if Region.wanted o (yielded ops a.tmps)=true then Oper.wp P o a w K' Q else K' (a.put o.dst undef) w):Je P ops N Q .normal a w:=
 wpOp_step ho fun K' hK=>h K' hK
end
end Go.Proofs.YtoofbflplhbpbaaGreatDoor
