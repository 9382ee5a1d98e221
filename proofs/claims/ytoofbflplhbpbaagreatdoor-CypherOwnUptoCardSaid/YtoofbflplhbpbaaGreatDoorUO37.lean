/- Contracts and plain laws,part 37. -/
import Derived.Test.YtoofbflplhbpbaaGreatDoorUO36
set_option maxHeartbeats 64000000
set_option maxRecDepth 1000000
set_option linter.all false
namespace Go.Proofs.YtoofbflplhbpbaaGreatDoor
open Go.RowKit
def vg (s:Nat) (n:Gr.N):List (List UInt8):=if s=1 then n.labels else []
def dZ (s:Nat) (ps:List Gr.P):List (List UInt8):=if s=3 then ps.map Gr.P.key else []
def rM (s:Nat) (r:Gr.R):List (List UInt8):=if s=2 then [r.type] else []
def qw (s:Nat) (n:Gr.N):List (List UInt8):=vg s n ++ dZ s n.props
def qx (s:Nat) (r:Gr.R):List (List UInt8):=rM s r ++ dZ s r.props
def pF (s:Nat) (g:Gr.G):List (List UInt8):=g.nodes.flatMap (qw s) ++ g.au.flatMap (qx s)
theorem flatMap_nil {α β:Type} (l:List α):l.flatMap (fun _=>([]:List β))= []:=by induction l<;> simp_all
theorem ad9 (g:Gr.G):pF 1 g=Gr.oL g:=by
 have e1:qw 1=Gr.N.labels:=by funext n;simp [qw,vg,dZ]
 have e2:qx 1=fun _=> []:=by funext n;simp [qx,rM,dZ]
 rw [pF,e1,e2,flatMap_nil,acK,Gr.oL]
theorem aea (g:Gr.G):pF 2 g=Gr.names2 g:=by
 have e1:qw 2=fun _=> []:=by funext n;simp [qw,vg,dZ]
 have e2:qx 2=fun r=> [Gr.R.type r]:=by funext n;simp [qx,rM,dZ]
 rw [pF,e1,e2,flatMap_nil,adI,Gr.names2]
 induction g.au<;> simp_all
theorem aeb (g:Gr.G):pF 3 g=Gr.nS g:=by
 have e1:qw 3=fun n=>n.props.map Gr.P.key:=by funext n;simp [qw,vg,dZ]
 have e2:qx 3=fun n=>n.props.map Gr.P.key:=by funext n;simp [qx,rM,dZ]
 rw [pF,e1,e2,Gr.nS,Gr.fH,ade,List.map_flatMap,List.map_flatMap]
theorem abp {α β:Type} {l:List α} {f:α->List β} {k:Nat} {a:α} (h:l[k]?=some a):((l.take k).flatMap f).length+(f a).length<=(l.flatMap f).length:=by
 rw [NG h];simp only [dA];omega
structure iR (w:World) (u v:Value) (l:List (List UInt8)) (A:Option Addr) (c m:Nat) (V:World):Prop where
 box:aj V w.heap.size 39 #[u,v]
 len:l.length=m
 own:V.ownsRow (w.heap.size+1) 9 1 (.slice A m c) m (l.map ST)
 bel:Below w.heap.size w V
theorem iR.below {w V V':World} {u v:Value} {l:List (List UInt8)} {A:Option Addr} {c m:Nat} (h:iR w u v l A c m V) (hb:Below V.heap.size V V'):iR w u v l A c m V':=
 ⟨h.box.below hb h.box.lt,h.len,dS h.own (iT hb none) (fun g c t fz e=>by cases e),h.bel.trans (hb.mono h.bel.size)⟩
theorem iR.put {w V V':World} {u v:Value} {l x:List (List UInt8)} {A A':Option Addr} {c m c':Nat} {n:Nat} (h:iR w u v l A c m V) (hx:x.length=n) (ho:V'.ownsRow (w.heap.size+1) 9 1 (.slice A' (m+n) c') (m+n) (l.map ST ++ x.map ST)) (hg:V.grownBy V' (Value.slice A m c).ownBlock):iR w u v (l ++ x) A' c' (m+n) V':=
 ⟨h.box.grown hg (fun e=>AY h.own h.box (by decide) e.symm),by rw [dA,h.len,hx],by rw [ade];exact ho,h.bel.grown hg h.bel.size (fun j e=>amc (World.ownsRow.lt h.own j e).1)⟩
theorem abq {α β:Type} {l:List α} {f:α->List β} {k:Nat} {a:α} {x y:List β} (h:l[k]?=some a) (e:f a=x ++ y):(l.take (k+1)).flatMap f=(l.take k).flatMap f ++ x ++ y:=by
 rw [I7 h,e,acF]
theorem TK {s:Nat} {k:Nat} {b:Bool} (h:((s:Int) ==(k:Int))=b):(b=true->s=k)/\(b=false-> ¬s=k):=by
 subst h
 exact ⟨fun e=>by have:=adp.1 e;omega,fun e h=>by rw [h,beq_self_eq_true] at e;cases e⟩
theorem ajt {W:World} {B e n c:Nat} {A:Option Addr} {xs:List Value} (h:W.ownsRow B e 1 (.slice A n c) n xs):n<=c:=by
 rcases h.2 with ⟨_,h0⟩ |⟨g,cap,cur,e,hg,hc,q1,q2,q3⟩
 ·omega
 cases e
 first | exact q1 | exact q2 | omega
theorem abr {s j pn M:Nat} {b:Bool} (h1:b=true->M=pn) (h2:b=false->M=0) (hj:j=M):(b=true/\(pn:Int)<=j/\decide ((j:Int)<pn)=false)\/(b=false/\(j:Int)<pn/\decide ((j:Int)<pn)=true)\/(b=false/\(pn:Int)<=j/\decide ((j:Int)<pn)=false):=by
 cases b with
 | true=>exact .inl ⟨rfl,by have:=h1 rfl;omega,abX (by have:=h1 rfl;omega)⟩
 | false=>
  by_cases h:(j:Int)<pn
  ·exact .inr (.inl ⟨rfl,h,abW h⟩)
  exact .inr (.inr ⟨rfl,by omega,abX h⟩)
theorem abt {s j M:Nat} {ps:List Gr.P} (h1:s=3->M=ps.length) (hj:j=M):dZ s (ps.take j)=dZ s ps:=by
 unfold dZ
 split
 ·rename_i h
  rw [hj,h1 h,amT]
 rfl
theorem abu {s j:Nat} {ps:List Gr.P} {p:Gr.P} (h3:s=3) (hp:ps[j]?=some p):dZ s (ps.take (j+1))=dZ s (ps.take j) ++ [p.key]:=by
 unfold dZ;rw [ab7 h3,ab7 h3,adZ,hp];simp
theorem abv (s:Nat) (ps:List Gr.P):dZ s (ps.take 0)= []:=by
 unfold dZ
 split<;> rfl
theorem keys_le (s j:Nat) (ps:List Gr.P):(dZ s (ps.take j)).length<=(dZ s ps).length:=by
 unfold dZ
 split
 ·rw [ace,ace,acW]
  omega
 exact ab1 _
theorem aju:(Tryz.prog.info? 9).map (fun i=>(i.zero,i.size,i.bytes))=some (some (.string ⟨#[]⟩),1,16):=by kernel_rfl
theorem TL (s:Nat) (B:Nat) (u:Value) (g:Gr.G) (w:World) (h:fE w B u g) (hB:B<=w.heap.size) (hlen:(pF s g).length<=1073741800):
  Calls Tryz.prog 59 #[u, .int .i64 s] w fun e w'=> ∃A c,e= .returned (.slice A (Gr.dedup (pF s g)).length c)/\Below w.heap.size w w':=by
 have hok:=h.ok;obtain ⟨An,cn,Ar,cr,rfl,hN,hR⟩:=h.ex
 obtain ⟨i0,hi,hz0,hz1,hz2⟩:=info_parts aju;obtain ⟨nn,hnn⟩: ∃n,g.nodes.length=n:=⟨_,rfl⟩
 obtain ⟨rn,hrn⟩: ∃n,g.au.length=n:=⟨_,rfl⟩;obtain ⟨b1,hb1⟩: ∃b,((s:Int) == 1)=b:=⟨_,rfl⟩
 obtain ⟨b2,hb2⟩: ∃b,((s:Int) == 2)=b:=⟨_,rfl⟩
 obtain ⟨b3,hb3⟩: ∃b,((s:Int) == 3)=b:=⟨_,rfl⟩;have yx:=ah (TK hb1);have HE2:=ah (TK hb2)
 have fJ:=ah (TK hb3);have hnl:=hok.nl;have hrl:=hok.rl;rw [hnn] at hnl⊢;rw [hrn] at hrl⊢
 have HN:=ah hN;have HR:=ah hR;have aK:=ah hok;have ay:=ah hnn;have gy:=ah hrn
 have dF:=ah hlen;have aH:=ah hB
 have gq:=ah (show iR w (.slice An nn cn) (.slice Ar rn cr) [] (some ⟨w.heap.size+1,0,none⟩) 0 0 ((w.alloc (.cells #[.slice An nn cn, .slice Ar rn cr] 39)).alloc (.cells #[] 9)) from
  ⟨(aj.new w _ _).alloc _,rfl,by have:=qJ (w.alloc (.cells #[.slice An nn cn, .slice Ar rn cr] 39)) 9 1;simpa using this,((Below.refl _ w).alloc (ab1 _) _).alloc (by simp) _⟩)
 obtain ⟨W0,hW0⟩: ∃x,(w.alloc (.cells #[.slice An nn cn, .slice Ar rn cr] 39)).alloc (.cells #[] 9)=x:=⟨_,rfl⟩
 rw [hW0] at gq;have HW0:=ah hW0;clear h hok hN hR hnn hrn hlen hB hW0
 go_enter Tryz.func59,Tryz.ntmps59
 go_upto_region 2 with fail
 rw [HW0.out];clear HW0;obtain ⟨c0,c1⟩:=cells2 gq.out.box;go_wp2_with fail
 go_loopg [5,6] nn (fun q o x wr=> ∃(k:Nat) (A':Option Addr) (c' m:Nat),o= .slice A' m c'/\x= .int .i64 k/\k+q=nn/\iR w (.slice An nn cn) (.slice Ar rn cr) ((g.nodes.take k).flatMap (qw s)) A' c' m wr)
 case atStart=>exact ⟨0,_,_,_,rfl,rfl,by omega,gq.out⟩
 obtain ⟨k,A',c',m,rfl,rfl,hk,hst⟩:=hrel;have HST:=ah hst;clear hst c0 c1 gq
 obtain ⟨c0,c1⟩:=cells2 HST.out.box;cases gk with
 | succ q=>
  have hkn:k<nn:=by omega
  have dD:(k:Int)<nn:=by omega
  have pk:(0:Int)<=(k:Int):=by omega
  have tk:((k:Int)).toNat=k:=by omega
  obtain ⟨n,hn⟩: ∃n,g.nodes[k]?=some n:=⟨_,ab2 (by rw [ay.out];exact hkn)⟩
  have hBw:=HST.out.bel.mono aH.out
  obtain ⟨b,oo,Al,cl,Ap,cp,rfl,hlt,⟨d0,d1,d2⟩,r1,rp⟩:=(HN.out.below hBw (gZ.below hBw)).node hn
  have jG:=aK.out.ns n (acf hn);obtain ⟨ln,hln⟩: ∃x,n.labels.length=x:=⟨_,rfl⟩
  obtain ⟨pn,hpn⟩: ∃x,n.props.length=x:=⟨_,rfl⟩;have hpl:=jG.pl;rw [hln] at d1 r1
  rw [hpn] at d2 hpl;obtain ⟨nb,hnb⟩: ∃x,wr.heap.size=x:=⟨_,rfl⟩
  obtain ⟨WN,aX⟩: ∃W,wr.alloc (.cells #[.int .i64 n.id, .slice Al ln cl, .slice Ap pn cp] 59)=W:=⟨_,rfl⟩
  have hbN:Below wr.heap.size wr WN:=aX▸(Below.refl _ wr).alloc (ab1 _) _
  have hkN:aj WN nb 59 #[.int .i64 n.id, .slice Al ln cl, .slice Ap pn cp]:=by rw [<-aX,<-hnb];exact aj.new _ _ _
  have hsz:=HST.out.bel.size;have hbB:Below B wr WN:=hbN.mono (ab5 aH.out hsz)
  have bU:=ah (HST.out.below hbN);have jH:=ah hkN;have eG:=ah aX;have oM:=ah hnb
  have lU:=ah (r1.below hbB);have og:=ah (rp.below hbB (aQ.below hbB));have dR:=ah hln
  have fK:=ah hpn;have yQ:=ah (ab5 (ab5 aH.out hsz) hbN.size);have amn:=ah jG
  have Lc:=ah (abp (f:=qw s) hn)
  have Az:=ah (abq (f:=qw s) (x:=vg s n) (y:=dZ s n.props) hn rfl)
  have WC:=ah (show (g.nodes.flatMap (qw s)).length<=1073741800 by have:=dF.out;unfold pF at this;rw [dA] at this;omega)
  have HK:=ah hk;clear hkn hn hBw hlt jG hln hpn hnb aX hbN hkN hsz hbB r1 rp hk
  go_upto_region 6 with fail
  rw [eG.out,oM.out];clear eG oM c0 c1 d0 d1 d2
  obtain ⟨L,hL⟩: ∃L,(g.nodes.take k).flatMap (qw s)=L:=⟨_,rfl⟩;have aoi:=ah hL
  rw [hL] at bU Lc Az;clear hL HST;obtain ⟨d0,d1,d2⟩:=cells3 jH.out
  have hml:m+((vg s n).length+(dZ s n.props).length)<=1073741800:=by
   have h1:=Lc.out;have h2:=WC.out;have h3:=bU.out.len
   rw [show qw s n=vg s n ++ dZ s n.props from rfl,dA] at h1
   omega
  have Ah:=ah hml;clear hml
  go_upto_if 26 with fail
  go_cut [5] (fun o wx=> ∃(A2:Option Addr) (c2 m2:Nat),o= .slice A2 m2 c2/\iR w (.slice (some ⟨b,oo,none⟩) nn cn) (.slice Ar rn cr) (L ++ vg s n) A2 c2 m2 wx/\Below B WN wx/\aj wx nb 59 #[.int .i64 n.id, .slice Al ln cl, .slice Ap pn cp])
  case first=>
   cases b1 with
   | false=>
    have he:vg s n= []:=ab6 (yx.out.2 rfl)
    have HF:=ah (show iR w (.slice (some ⟨b,oo,none⟩) nn cn) (.slice Ar rn cr) (L ++ vg s n) A' c' m WN by rw [he,acK];exact bU.out)
    clear he;refine wp_cond_false rfl ?_;go_wp2;go_meet
    exact ⟨A',c',m,rfl,HF.out,Below.refl _ _,jH.out⟩
   | true=>
    have he:vg s n=n.labels:=ab7 (yx.out.1 rfl)
    have dH:=ah (show m+ln<=maxLen/\(m+ln)*16<=140737488355328 by have:=Ah.out;rw [he,dR.out] at this;unfold maxLen;omega)
    have H1:=ah (abn n.labels);have HE:=ah he;clear he;refine wp_cond_true rfl ?_
    go_wp2_with (at_builtin;refine Bc WN rfl (.tmp 27) (.tmp 29) 23 rfl (w.heap.size+1) 9 i0 (.string ⟨#[]⟩) 1 16 Tryz.underlying23 hi hz0 hz1 hz2 rfl (by decide) (.slice A' m c') m (L.map ST) rfl bU.out.own B Al ln cl (n.labels.map ST) rfl lU.out H1.out dH.out.1 dH.out.2 (amd bU.out.box.lt) ?_)
    intro v9 w9 bI bG jo;obtain ⟨A9,c9,rfl⟩:=aJ bI;have HF:=ah (bU.out.put dR.out bI bG)
    have dh:=ah (show Below B WN w9 from (Below.refl B WN).grown bG yQ.out (fun j e=>ab5 aH.out (amc (World.ownsRow.lt bU.out.own j e).1)))
    have qy:=ah (jH.out.grown bG (fun e=>AY bU.out.own jH.out (by decide) e.symm))
    clear bI bG jo;go_wp2;go_meet
    exact ⟨A9,c9,m+ln,rfl,by rw [HE.out];exact HF.out,dh.out,qy.out⟩
  obtain ⟨A2,c2,m2,rfl,h2,hb2,hk2⟩:=hcut;have HS2:=ah h2;have HB2:=ah hb2;have aC:=ah hk2
  obtain ⟨L2,hL2⟩: ∃l,(L ++ vg s n)=l:=⟨_,rfl⟩;rw [hL2] at HS2 Az
  have rC:=ah (show m2+(dZ s n.props).length<=1073741800 by
   have h1:=HS2.out.len;have h2:=Ah.out;have h3:=bU.out.len;rw [<-hL2,dA] at h1
   omega)
  have WE:=ah (show L2.length+(dZ s n.props).length<=1073741800 by have:=rC.out;have:=HS2.out.len;omega)
  clear h2 hb2 hk2 hL2 d0 d1 d2;obtain ⟨M,hM⟩: ∃M,(if s=3 then pn else 0)=M:=⟨_,rfl⟩
  have HMD:=ah hM;have aec:M<=1073741824:=by rw [<-hM];split<;> omega
  have tH:=ah (show b3=true->M=pn from fun e=>by rw [<-hM,ab7 (fJ.out.1 e)])
  have Ld:=ah (show b3=false->M=0 from fun e=>by rw [<-hM,ab6 (fJ.out.2 e)])
  clear hM;go_wp2_with fail
  go_loopg [5,8] M (fun q o x wq=> ∃(j:Nat) (A3:Option Addr) (c3 m3:Nat),o= .slice A3 m3 c3/\x= .int .i64 j/\j+q=M/\iR w (.slice (some ⟨b,oo,none⟩) nn cn) (.slice Ar rn cr) (L2 ++ dZ s (n.props.take j)) A3 c3 m3 wq/\Below B WN wq/\aj wq nb 59 #[.int .i64 n.id, .slice Al ln cl, .slice Ap pn cp])
  case atStart=>exact ⟨0,A2,c2,m2,rfl,rfl,by omega,by rw [abv,acK];exact HS2.out,HB2.out,aC.out⟩
  obtain ⟨j,A3,c3,m3,rfl,rfl,hj,h3,Le,hk3⟩:=hrel;have bK:=ah h3;have HB3:=ah Le
  have bJ:=ah hk3;have HJ:=ah hj;clear h3 Le hk3 HS2 HB2 aC
  obtain ⟨d0,d1,d2⟩:=cells3 bJ.out;cases gk with
  | zero=>
   have hbb:=abr (s:=s) tH.out Ld.out hj
   have hkd:=abt (s:=s) (ps:=n.props) (fun e=>by rw [fK.out];exact tH.out (by cases b3 with | true=>rfl | false=>exact absurd e (fJ.out.2 rfl))) hj
   have HF:=ah (show iR w (.slice (some ⟨b,oo,none⟩) nn cn) (.slice Ar rn cr) ((g.nodes.take (k+1)).flatMap (qw s)) A3 c3 m3 wr by rw [Az.out,<-hkd];exact bK.out)
   obtain ⟨c0,c1⟩:=cells2 HF.out.box;clear hj hkd
   rcases hbb with ⟨rfl,lT,tj⟩ |⟨rfl,lT,tj⟩ |⟨rfl,lT,tj⟩
   all_goals
    go_wp2
    go_roundg q
    case measure=>omega
    exact ⟨k+1,A3,c3,m3,rfl,int_eq (by omega),by have:=HK.out;omega,HF.out⟩
  | succ q2=>
   cases b3 with
   | false=>have:=Ld.out rfl;omega
   | true=>
    have WG:=tH.out rfl;have hkn:j<pn:=by omega
    have lT:(j:Int)<pn:=by omega
    have tj:decide ((j:Int)<pn)=true:=abW lT;have pj:(0:Int)<=(j:Int):=by omega
    have tjn:((j:Int)).toNat=j:=by omega
    obtain ⟨p,hp⟩: ∃p,n.props[j]?=some p:=⟨_,ab2 (by rw [fK.out];exact hkn)⟩
    obtain ⟨b',o',mg,kM,mD,kN,rfl,hlt,⟨p0,-,-,-,-,-⟩,-,-⟩:=(og.out.below HB3.out (aQ.below HB3.out)).prop hp
    simp only [ST] at p0
    obtain ⟨z,hz⟩: ∃z:ByteArray,(⟨p.key.toArray⟩:ByteArray)=z:=⟨_,rfl⟩;rw [hz] at p0
    have Lh:m3<1073741824:=by
     have h1:=bK.out.len;have h2:=rC.out;have h3:=WE.out;have h4:=keys_le s j n.props
     rw [dA] at h1;omega
    have WH:=ah Lh;obtain ⟨L3,hL3⟩: ∃l,L2 ++ dZ s (n.props.take j)=l:=⟨_,rfl⟩
    rw [hL3] at bK;have nT:=ah hL3;have WI:=ah (abu (fJ.out.1 rfl) hp);have HZ:=ah hz
    clear WG hkn hp hlt hz Lh hj hL3
    go_wp2_with (at_builtin;refine rP rfl (.tmp 42) (.tmp 49) 23 9 (.string ⟨#[]⟩) 16 Tryz.underlying23 xR rfl (by decide) rfl (w.heap.size+1) (.slice A3 m3 c3) m3 (L3.map ST) wr rfl bK.out.own (.string z) rfl rfl WH.out (amd bK.out.box.lt) ?_)
    intro v9 w9 bI bG jo aF;obtain ⟨A9,c9,rfl⟩:=aJ bI
    have HF:=ah (show iR w (.slice (some ⟨b,oo,none⟩) nn cn) (.slice Ar rn cr) (L2 ++ dZ s (n.props.take (j+1))) A9 c9 (m3+1) w9 by
     rw [WI.out,<-acF,nT.out]
     exact bK.out.put (x:= [p.key]) rfl (by rw [alA,ST,HZ.out];exact bI) bG)
    have dh:=ah (HB3.out.trans ((Below.refl B wr).grown bG (ab5 yQ.out HB3.out.size) (fun j e=>ab5 aH.out (amc (World.ownsRow.lt bK.out.own j e).1))))
    have qy:=ah (bJ.out.grown bG (fun e=>AY bK.out.own bJ.out (by decide) e.symm))
    clear bI bG jo aF p0 d0 d1 d2;go_wp2
    go_roundg q2
    case measure=>omega
    exact ⟨j+1,A9,c9,m3+1,rfl,int_eq (by omega),by have:=HJ.out;omega,HF.out,dh.out,qy.out⟩
 | zero=>
  obtain rfl:nn=k:=by omega
  have hf:g.nodes.take nn=g.nodes:=acg (by rw [ay.out];exact ab1 _)
  obtain ⟨LN,hL⟩: ∃L,g.nodes.flatMap (qw s)=L:=⟨_,rfl⟩;rw [hf,hL] at HST;have qR:=ah hL
  have WC:=ah (show LN.length+(g.au.flatMap (qx s)).length<=1073741800 by have:=dF.out;unfold pF at this;rw [dA,hL] at this;exact this)
  clear hk hf hL;go_wp2_with fail
  go_loopg [5,9] rn (fun q o x wr=> ∃(k:Nat) (A':Option Addr) (c' m:Nat),o= .slice A' m c'/\x= .int .i64 k/\k+q=rn/\iR w (.slice An nn cn) (.slice Ar rn cr) (LN ++(g.au.take k).flatMap (qx s)) A' c' m wr)
  case atStart=>exact ⟨0,A',c',m,rfl,rfl,by omega,by simpa using HST.out⟩
  obtain ⟨k,A',c',m,rfl,rfl,hk,hst⟩:=hrel;have iH:=ah hst;clear hst c0 c1
  obtain ⟨c0,c1⟩:=cells2 iH.out.box;cases gk with
  | succ q=>
   have hkn:k<rn:=by omega
   have dD:(k:Int)<rn:=by omega
   have pk:(0:Int)<=(k:Int):=by omega
   have tk:((k:Int)).toNat=k:=by omega
   obtain ⟨n,hn⟩: ∃n,g.au[k]?=some n:=⟨_,ab2 (by rw [gy.out];exact hkn)⟩
   have hBw:=iH.out.bel.mono aH.out
   obtain ⟨b,oo,Ap,cp,rfl,hlt,⟨d0,d1,d2,d3,d4⟩,rp⟩:=(HR.out.below hBw (ig.below hBw)).rel hn
   have jG:=aK.out.rs n (acf hn);simp only [ST] at d1
   obtain ⟨zt,aO⟩: ∃z:ByteArray,(⟨n.type.toArray⟩:ByteArray)=z:=⟨_,rfl⟩
   obtain ⟨pn,hpn⟩: ∃x,n.props.length=x:=⟨_,rfl⟩;have hpl:=jG.pl;rw [aO] at d1
   rw [hpn] at d4 hpl;obtain ⟨nb,hnb⟩: ∃x,wr.heap.size=x:=⟨_,rfl⟩
   obtain ⟨WN,aX⟩: ∃W,wr.alloc (.cells #[.int .i64 n.id, .string zt, .int .i64 n.src, .int .i64 n.dst, .slice Ap pn cp] 63)=W:=⟨_,rfl⟩
   have hbN:Below wr.heap.size wr WN:=aX▸(Below.refl _ wr).alloc (ab1 _) _
   have hkN:aj WN nb 63 #[.int .i64 n.id, .string zt, .int .i64 n.src, .int .i64 n.dst, .slice Ap pn cp]:=by rw [<-aX,<-hnb];exact aj.new _ _ _
   have hsz:=iH.out.bel.size;have hbB:Below B wr WN:=hbN.mono (ab5 aH.out hsz)
   have bU:=ah (iH.out.below hbN);have jH:=ah hkN;have eG:=ah aX;have oM:=ah hnb
   have og:=ah (rp.below hbB (aQ.below hbB));have dR:=ah aO;have fK:=ah hpn
   have yQ:=ah (ab5 (ab5 aH.out hsz) hbN.size);have amn:=ah jG
   have Lc:=ah (abp (f:=qx s) hn)
   have Az:=ah (abq (f:=qx s) (x:=rM s n) (y:=dZ s n.props) hn rfl);have HK:=ah hk
   clear hkn hn hBw hlt jG aO hpn hnb aX hbN hkN hsz hbB rp hk
   go_upto_region 16 with fail
   rw [eG.out,oM.out];clear eG oM c0 c1 d0 d1 d2 d3 d4
   obtain ⟨LR,hLR⟩: ∃l,(g.au.take k).flatMap (qx s)=l:=⟨_,rfl⟩;rw [hLR] at bU Lc Az
   obtain ⟨L,hL⟩: ∃l,LN ++ LR=l:=⟨_,rfl⟩;rw [hL] at bU;have HLq:=ah hL
   have Az:=ah (show LN ++(g.au.take (k+1)).flatMap (qx s)=L ++ rM s n ++ dZ s n.props by rw [Az.out,<-hL,<-acF,<-acF])
   clear hL hLR iH;obtain ⟨d0,d1,d2,d3,d4⟩:=cells5 jH.out
   have hml:m+((rM s n).length+(dZ s n.props).length)<=1073741800:=by
    have h1:=Lc.out;have h2:=WC.out;have h3:=bU.out.len;rw [<-HLq.out,dA] at h3
    rw [show qx s n=rM s n ++ dZ s n.props from rfl,dA] at h1
    omega
   have Ah:=ah hml;clear hml
   go_upto_if 64 with fail
   go_cut [5] (fun o wx=> ∃(A2:Option Addr) (c2 m2:Nat),o= .slice A2 m2 c2/\iR w (.slice An nn cn) (.slice (some ⟨b,oo,none⟩) rn cr) (L ++ rM s n) A2 c2 m2 wx/\Below B WN wx/\aj wx nb 63 #[.int .i64 n.id, .string zt, .int .i64 n.src, .int .i64 n.dst, .slice Ap pn cp])
   case first=>
    cases b2 with
    | false=>
     have he:rM s n= []:=ab6 (HE2.out.2 rfl)
     have HF:=ah (show iR w (.slice An nn cn) (.slice (some ⟨b,oo,none⟩) rn cr) (L ++ rM s n) A' c' m WN by rw [he,acK];exact bU.out)
     clear he;refine wp_cond_false rfl ?_;go_wp2;go_meet
     exact ⟨A',c',m,rfl,HF.out,Below.refl _ _,jH.out⟩
    | true=>
     have he:rM s n= [n.type]:=ab7 (HE2.out.1 rfl)
     have dH:=ah (show m<1073741824 by have:=Ah.out;omega)
     have HE:=ah he;clear he;refine wp_cond_true rfl ?_
     go_wp2_with (at_builtin;refine rP rfl (.tmp 65) (.tmp 68) 23 9 (.string ⟨#[]⟩) 16 Tryz.underlying23 xR rfl (by decide) rfl (w.heap.size+1) (.slice A' m c') m (L.map ST) WN rfl bU.out.own (.string zt) rfl rfl dH.out (amd bU.out.box.lt) ?_)
     intro v9 w9 bI bG jo aF;obtain ⟨A9,c9,rfl⟩:=aJ bI
     have HF:=ah (show iR w (.slice An nn cn) (.slice (some ⟨b,oo,none⟩) rn cr) (L ++ rM s n) A9 c9 (m+1) w9 by
      rw [HE.out]
      exact bU.out.put (x:= [n.type]) rfl (by rw [alA,ST,dR.out];exact bI) bG)
     have dh:=ah (show Below B WN w9 from (Below.refl B WN).grown bG yQ.out (fun j e=>ab5 aH.out (amc (World.ownsRow.lt bU.out.own j e).1)))
     have qy:=ah (jH.out.grown bG (fun e=>AY bU.out.own jH.out (by decide) e.symm))
     clear bI bG jo aF;go_wp2;go_meet;exact ⟨A9,c9,m+1,rfl,HF.out,dh.out,qy.out⟩
   obtain ⟨A2,c2,m2,rfl,h2,hb2,hk2⟩:=hcut;have HS2:=ah h2;have HB2:=ah hb2;have aC:=ah hk2
   obtain ⟨L2,hL2⟩: ∃l,(L ++ rM s n)=l:=⟨_,rfl⟩;rw [hL2] at HS2 Az
   have rC:=ah (show m2+(dZ s n.props).length<=1073741800 by
    have h1:=HS2.out.len;have h2:=Ah.out;have h3:=bU.out.len;rw [<-hL2,dA] at h1
    omega)
   have WE:=ah (show L2.length+(dZ s n.props).length<=1073741800 by have:=rC.out;have:=HS2.out.len;omega)
   clear h2 hb2 hk2 hL2 d0 d1 d2 d3 d4
   obtain ⟨M,hM⟩: ∃M,(if s=3 then pn else 0)=M:=⟨_,rfl⟩
   have HMD:=ah hM;have aec:M<=1073741824:=by rw [<-hM];split<;> omega
   have tH:=ah (show b3=true->M=pn from fun e=>by rw [<-hM,ab7 (fJ.out.1 e)])
   have Ld:=ah (show b3=false->M=0 from fun e=>by rw [<-hM,ab6 (fJ.out.2 e)])
   clear hM;go_wp2_with fail
   go_loopg [5,11] M (fun q o x wq=> ∃(j:Nat) (A3:Option Addr) (c3 m3:Nat),o= .slice A3 m3 c3/\x= .int .i64 j/\j+q=M/\iR w (.slice An nn cn) (.slice (some ⟨b,oo,none⟩) rn cr) (L2 ++ dZ s (n.props.take j)) A3 c3 m3 wq/\Below B WN wq/\aj wq nb 63 #[.int .i64 n.id, .string zt, .int .i64 n.src, .int .i64 n.dst, .slice Ap pn cp])
   case atStart=>exact ⟨0,A2,c2,m2,rfl,rfl,by omega,by rw [abv,acK];exact HS2.out,HB2.out,aC.out⟩
   obtain ⟨j,A3,c3,m3,rfl,rfl,hj,h3,Le,hk3⟩:=hrel;have bK:=ah h3;have HB3:=ah Le
   have bJ:=ah hk3;have HJ:=ah hj;clear h3 Le hk3 HS2 HB2 aC
   obtain ⟨d0,d1,d2,d3,d4⟩:=cells5 bJ.out;cases gk with
   | zero=>
    have hbb:=abr (s:=s) tH.out Ld.out hj
    have hkd:=abt (s:=s) (ps:=n.props) (fun e=>by rw [fK.out];exact tH.out (by cases b3 with | true=>rfl | false=>exact absurd e (fJ.out.2 rfl))) hj
    have HF:=ah (show iR w (.slice An nn cn) (.slice (some ⟨b,oo,none⟩) rn cr) (LN ++(g.au.take (k+1)).flatMap (qx s)) A3 c3 m3 wr by rw [Az.out,<-hkd];exact bK.out)
    obtain ⟨c0,c1⟩:=cells2 HF.out.box;clear hj hkd
    rcases hbb with ⟨rfl,lT,tj⟩ |⟨rfl,lT,tj⟩ |⟨rfl,lT,tj⟩
    all_goals
     go_wp2
     go_roundg q
     case measure=>omega
     exact ⟨k+1,A3,c3,m3,rfl,int_eq (by omega),by have:=HK.out;omega,HF.out⟩
   | succ q2=>
    cases b3 with
    | false=>have:=Ld.out rfl;omega
    | true=>
     have WG:=tH.out rfl;have hkn:j<pn:=by omega
     have lT:(j:Int)<pn:=by omega
     have tj:decide ((j:Int)<pn)=true:=abW lT;have pj:(0:Int)<=(j:Int):=by omega
     have tjn:((j:Int)).toNat=j:=by omega
     obtain ⟨p,hp⟩: ∃p,n.props[j]?=some p:=⟨_,ab2 (by rw [fK.out];exact hkn)⟩
     obtain ⟨b',o',mg,kM,mD,kN,rfl,hlt,⟨p0,-,-,-,-,-⟩,-,-⟩:=(og.out.below HB3.out (aQ.below HB3.out)).prop hp
     simp only [ST] at p0
     obtain ⟨z,hz⟩: ∃z:ByteArray,(⟨p.key.toArray⟩:ByteArray)=z:=⟨_,rfl⟩;rw [hz] at p0
     have Lh:m3<1073741824:=by
      have h1:=bK.out.len;have h2:=rC.out;have h3:=WE.out;have h4:=keys_le s j n.props
      rw [dA] at h1;omega
     have WH:=ah Lh;obtain ⟨L3,hL3⟩: ∃l,L2 ++ dZ s (n.props.take j)=l:=⟨_,rfl⟩
     rw [hL3] at bK;have nT:=ah hL3;have WI:=ah (abu (fJ.out.1 rfl) hp);have HZ:=ah hz
     clear WG hkn hp hlt hz Lh hj hL3
     go_wp2_with (at_builtin;refine rP rfl (.tmp 81) (.tmp 88) 23 9 (.string ⟨#[]⟩) 16 Tryz.underlying23 xR rfl (by decide) rfl (w.heap.size+1) (.slice A3 m3 c3) m3 (L3.map ST) wr rfl bK.out.own (.string z) rfl rfl WH.out (amd bK.out.box.lt) ?_)
     intro v9 w9 bI bG jo aF;obtain ⟨A9,c9,rfl⟩:=aJ bI
     have HF:=ah (show iR w (.slice An nn cn) (.slice (some ⟨b,oo,none⟩) rn cr) (L2 ++ dZ s (n.props.take (j+1))) A9 c9 (m3+1) w9 by
      rw [WI.out,<-acF,nT.out]
      exact bK.out.put (x:= [p.key]) rfl (by rw [alA,ST,HZ.out];exact bI) bG)
     have dh:=ah (HB3.out.trans ((Below.refl B wr).grown bG (ab5 yQ.out HB3.out.size) (fun j e=>ab5 aH.out (amc (World.ownsRow.lt bK.out.own j e).1))))
     have qy:=ah (bJ.out.grown bG (fun e=>AY bK.out.own bJ.out (by decide) e.symm))
     clear bI bG jo aF p0 d0 d1 d2 d3 d4;go_wp2
     go_roundg q2
     case measure=>omega
     exact ⟨j+1,A9,c9,m3+1,rfl,int_eq (by omega),by have:=HJ.out;omega,HF.out,dh.out,qy.out⟩
  | zero=>
   obtain rfl:rn=k:=by omega
   have hf:g.au.take rn=g.au:=acg (by rw [gy.out];exact ab1 _)
   rw [hf,<-qR.out] at iH
   have hst:iR w (.slice An nn cn) (.slice Ar rn cr) (pF s g) A' c' m wr:=iH.out
   obtain ⟨AL,WJ⟩: ∃l,pF s g=l:=⟨_,rfl⟩;rw [WJ] at hst dF;have uF:=ah WJ
   have hcall:=ajs m wr.heap.size A' c' m AL wr (ab1 _) (Reads.je hst.own) hst.len (ab1 _) (ajt hst.own) (hst.len▸dF.out)
   have wu:=ah hcall;have aee:=ah hst;clear hk hf hst hcall WJ iH;go_wp2_with fail
   refine wu.out.mono ?_;rintro e w9 ⟨A9,c9,m9,out,rfl,Hq,-,hs9,aF⟩
   have HM9:=ah (show m9=(Gr.dedup AL).length by rw [<-Hq];exact hs9.length)
   have dh:=ah (aee.out.bel.trans (aF.mono aee.out.bel.size));clear Hq hs9 aF;go_wp2
   go_ret;exact ⟨A9,c9,by rw [HM9.out,uF.out];rfl,dh.out⟩
def F6 (n:Gr.N):Nat:=if Gr.uj n.labels≠0 then Gr.uj n.labels else Gr.dV n.props
theorem ajv (B:Nat) (p:Gr.N) (Al Ap:Option Addr) (cl cp:Nat) (w:World) (ra:Reads w B 1 Al p.labels.length (p.labels.map ST)) (rp:cZ w B 6 (aQ w B) Ap p.props) (hB:B<=w.heap.size) (hok:DW p):
  Calls Tryz.prog 56 #[.agg #[.int .i64 p.id, .slice Al p.labels.length cl, .slice Ap p.props.length cp]] w fun e w'=>e= .returned (.int .i64 (F6 p:Nat))/\Below w.heap.size w w':=by
 obtain ⟨R,hR⟩: ∃R,F6 p=R:=⟨_,rfl⟩;rw [hR];unfold F6 at hR
 obtain ⟨n,hn⟩: ∃n,p.labels.length=n:=⟨_,rfl⟩
 obtain ⟨pn,hpn⟩: ∃n,p.props.length=n:=⟨_,rfl⟩;have hl:n<=1073741824:=hn▸hok.ll
 have He:Gr.uj p.labels=if 8<n then 63 else (Gr.first Gr.labelWrong id none p.labels 0).1:=by unfold Gr.uj;rw [hn]
 have WL:=fun (X:World) (hb:Below w.heap.size w X)=>abl B Ap cp p.props X (rp.below (hb.mono hB) (aQ.below (hb.mono hB))) (ab5 hB hb.size) hok.pl hok.ps
 rw [hn] at ra⊢;rw [hpn] at WL⊢;have HH:=ah ra;have HS:=ah hok.ls;have HN:=ah hn
 have HU:=ah ug;have bQ:=ah WL;have JK:=ah He;have HR0:=ah hR;have aH:=ah hB
 have hb0:Below w.heap.size w (w.alloc (.cells #[.int .i64 p.id, .slice Al n cl, .slice Ap pn cp] 59)):=(Below.refl _ w).alloc (ab1 _) _
 have HB0:=ah hb0;have hk0:=aj.new w 59 #[.int .i64 p.id, .slice Al n cl, .slice Ap pn cp]
 have Lj:=ah hk0;clear ra rp hok hn hpn WL He hR hB hb0 hk0;by_cases h8:8<n
 ·have hr:R=63:=by rw [<-HR0.out,JK.out,ab7 h8];rfl
  have wJ:(8:Int)<n:=by omega
  have t8:decide ((8:Int)<n)=true:=abW wJ;have HRR:=ah hr;clear hr h8
  go_enter Tryz.func56,Tryz.ntmps56;go_wp2;go_ret;exact ⟨by rw [HRR.out];rfl,HB0.out⟩
 obtain ⟨RL,hRL⟩: ∃x,(Gr.first Gr.labelWrong id none p.labels 0).1=x:=⟨_,rfl⟩
 have HR:=ah hRL
 have HE:=ah (show R=if RL≠0 then RL else Gr.dV p.props by rw [<-HR0.out,JK.out,ab6 h8,hRL])
 have wJ:(n:Int)<=8:=by omega
 have t8:decide ((8:Int)<n)=false:=abX (by omega)
 clear h8 hRL;go_enter Tryz.func56,Tryz.ntmps56;go_wp2_with fail
 go_loopg [3] n (fun g x wr=> ∃k:Nat,x= .int .i64 k/\k+g=n/\Below w.heap.size w wr/\aj wr w.heap.size 59 #[.int .i64 p.id, .slice Al n cl, .slice Ap pn cp]/\Hid (∀j a,j<k->p.labels[j]?=some a->Gr.labelWrong (Gr.aG id p.labels j) a=0))
 case atStart=>exact ⟨0,rfl,by omega,HB0.out,Lj.out,fun j a h=>by omega⟩
 obtain ⟨k,rfl,hk,hb,hbk,hz⟩:=hrel;have HK:=ah hk
 have HZ:Hid (∀j a,j<k->p.labels[j]?=some a->Gr.labelWrong (Gr.aG id p.labels j) a=0):=hz
 have HB:=ah hb;have iL:=ah hbk;obtain ⟨a0,a1,a2⟩:=cells3 hbk;clear hz hb hbk HB0 Lj
 cases gk with
 | zero=>
  obtain rfl:k=n:=by omega
  have hr:=Nr HN.out HR.out HZ.out
  have hr2:R=Gr.dV p.props:=by rw [HE.out,hr,ab6 (by simp)]
  have HRR:=ah hr2;clear hk hr hr2;go_wp2_with fail;refine (bQ.out _ HB.out).mono ?_
  rintro e w4 ⟨rfl,hb4⟩;have HB4:=ah (HB.out.trans (hb4.mono HB.out.size));clear hb4
  go_wp2;go_ret;exact ⟨by rw [HRR.out];rfl,HB4.out⟩
 | succ g=>
  have hkn:k<n:=by omega
  have dD:(k:Int)<n:=by omega
  have pk:(0:Int)<=(k:Int):=by omega
  have tk:((k:Int)).toNat=k:=by omega
  have WM:=ah (HH.out.below (HB.out.mono aH.out))
  obtain ⟨a,o,x,rfl,hlt,hx,hp⟩:=WM.out.cell hkn;rw [acJ] at hx;obtain ⟨y,hy,rfl⟩:=ac7.1 hx
  unfold ST at hp;obtain ⟨z,hz⟩: ∃z:ByteArray,(⟨y.toArray⟩:ByteArray)=z:=⟨_,rfl⟩
  rw [hz] at hp;have hzd:z.data.toList=y:=by rw [<-hz]
  have hzl:z.size<=1073741824:=by rw [Lib.size_eq,hzd];exact HS.out y (acf hy)
  have hcall:=TI z wr hzl;rw [hzd] at hcall;have HY:=ah hy;have HZD:=ah hzd
  obtain ⟨GN,hg⟩: ∃b,Gr.dw y=b:=⟨_,rfl⟩;rw [hg] at hcall;have HC:=ah hcall;have jE:=ah hg
  have Pn:Hid (∀(X:World) (m:Nat) (q:List UInt8),Below wr.heap.size wr X->m<n->p.labels[m]?=some q->X.cell? ⟨a,o+m,none⟩=some (ST q)):=fun X m q hb hm hq=>by
   obtain ⟨p',o',x',he,hl',hx',hp'⟩:=WM.out.cell (k:=m) hm
   injection he with he
   injection he with he1 he2
   subst he1;subst he2;rw [acJ,hq] at hx';cases hx'
   exact ((hb.mono (ab5 aH.out HB.out.size)).cell (by exact hl')).trans hp'
  clear hx hk hy hz hzd hzl hcall hg hlt;go_wp2_with fail;refine HC.out.mono ?_
  rintro e w1 ⟨rfl,hb1⟩;have HB1:=ah (HB.out.trans (hb1.mono HB.out.size))
  have hbk1:=iL.out.below hb1 iL.out.lt;have aef:=ah hbk1
  have wo:Hid (∀(m:Nat) (q:List UInt8),m<n->p.labels[m]?=some q->w1.cell? ⟨a,o+m,none⟩=some (ST q)):=fun m q hm hq=>Pn.out w1 m q hb1 hm hq
  clear a0 a1 a2 hp;obtain ⟨a0,a1,a2⟩:=cells3 hbk1
  have hp:w1.cell? ⟨a,o+k,none⟩=some (.string z):=by have:=wo.out k y hkn HY.out;rw [this,<-HZD.out];rfl
  clear hbk1 hb1 Pn iL WM;cases GN with
  | false=>
   have hr:=BA HR.out HY.out HZ.out (e:=60) (by unfold Gr.labelWrong;rw [jE.out,ab7 rfl]) (by decide)
   have hr2:R=60:=by rw [HE.out,hr,ab7 (by decide)]
   have HRR:=ah hr2;clear hr hr2;go_wp2;go_ret;exact ⟨by rw [HRR.out];rfl,HB1.out⟩
  | true=>
   by_cases h0:k=0
   ·subst h0
    rw [akz] at hp
    have hmore:=xO HY.out HZ.out (by unfold Gr.labelWrong;rw [jE.out,ab6 (by decide)];rfl)
    have HM:=ah hmore;clear hkn hmore
    go_upto_region 8 with fail
    go_quiet (fail)
    go_wp2_with fail
    go_roundg g
    case measure=>omega
    exact ⟨1,rfl,by have:=HK.out;omega,by first | exact HB1.out | exact below_drewN HB1.out _,aef.out,HM.out⟩
   obtain ⟨m,rfl⟩: ∃m,k=m+1:=⟨k - 1,by omega⟩
   obtain ⟨q,hq⟩: ∃q,p.labels[m]?=some q:=⟨_,ab2 (by rw [HN.out];omega)⟩
   have hp':=wo.out m q (by omega) hq
   unfold ST at hp';obtain ⟨zq,kX⟩: ∃z:ByteArray,(⟨q.toArray⟩:ByteArray)=z:=⟨_,rfl⟩
   have wK:zq.toList=q:=by rw [<-kX,xM]
   rw [kX] at hp';obtain ⟨b1,hb1⟩: ∃b,Op.bytesLess z.toList zq.toList=b:=⟨_,rfl⟩
   obtain ⟨b2,hb2⟩: ∃b,(z.toList == zq.toList)=b:=⟨_,rfl⟩
   have hb:decide (y<=q)=(b1 || b2):=by rw [<-hb1,<-hb2,IV,wK,Lib.toList_data,HZD.out]
   have BQ:(1:Int)<=((m+1:Nat):Int):=by omega
   have hm0:decide ((0:Int)<((m+1:Nat):Int))=true:=abW (by omega)
   have hm1:(m:Int)<n:=by omega
   have hsub:((m+1:Nat):Int) - 1=(m:Int):=by omega
   have JJ:Gr.labelWrong (Gr.aG id p.labels (m+1)) y=if (b1 || b2)=true then 6 else 0:=by
    have hpv:Gr.aG id p.labels (m+1)=some q:=by show p.labels[m]?.map id=_;rw [hq];rfl
    unfold Gr.labelWrong;rw [jE.out,hpv,ab6 (by decide),<-hb]
    rfl
   have aeg:=ah JJ
   have sS:=ah (show (b1 || b2)=true->R=6 from fun h=>by
    have:=BA HR.out HY.out HZ.out (e:=6) (by rw [aeg.out,h];rfl) (by decide)
    rw [HE.out,this,ab7 (by decide)])
   clear hq hkn JJ hb h0 kX wK;cases b1 with
   | true=>
    have hr:=sS.out rfl;have HRR:=ah hr;clear hr
    go_upto_region 8 with fail
    go_quiet (fail)
    go_wp2;go_ret
    exact ⟨by rw [HRR.out];rfl,by first | exact HB1.out | exact below_drewN HB1.out _⟩
   | false=>
    cases b2 with
    | true=>
     have hr:=sS.out rfl;have HRR:=ah hr;clear hr
     go_upto_region 8 with fail
     go_quiet (fail)
     go_wp2;go_ret
     exact ⟨by rw [HRR.out];rfl,by first | exact HB1.out | exact below_drewN HB1.out _⟩
    | false=>
     have hmore:=xO HY.out HZ.out (by rw [aeg.out];rfl)
     have HM:=ah hmore;clear hmore
     go_upto_region 8 with fail
     go_quiet (fail)
     go_wp2_with fail
     go_roundg g
     case measure=>omega
     exact ⟨m+1+1,int_eq (by omega),by have:=HK.out;omega,by first | exact HB1.out | exact below_drewN HB1.out _,aef.out,HM.out⟩
def nR (B n:Nat) (w:World) (e:Ending) (w':World):Prop:= ∃(A':Option Addr) (c':Nat) (l':List UInt8),e= .returned (.slice A' n c')/\OwnB B (.slice A' n c') l' w'/\l'.length=n/\Below B w w'
theorem ajw (m:Nat) (hm:m<=65535): ∃y1 y2:UInt8,(m:Int).tdiv 256=(y1.toNat:Int)/\(m:Int).tmod 256=(y2.toNat:Int):=by
 refine ⟨UInt8.ofNat (m / 256),UInt8.ofNat (m % 256), ?_, ?_⟩
 ·rw [alI (show m / 256<UInt8.size from aog (Nat.lt_succ_of_le hm))]
  exact (ao3 m 256).symm
 rw [alI (show m % 256<UInt8.size from amI _ (by decide))]
 exact (amQ m 256).symm
theorem Jf (y:UInt8):wrap64 (y.toNat:Int)=y.toNat/\(y.toNat:Int) % 256=y.toNat:=by
 have h:y.toNat<256:=y.toNat_lt;exact ⟨IntWalk.wrap64_in _ (by omega),by omega⟩
theorem abw (B:Nat) (A:Option Addr) (c n m:Nat) (s:ByteArray) (l:List UInt8) (w:World) (h:OwnB B (.slice A n c) l w) (h1:l.length=n) (hn:n<=536870912) (hs:s.size=m) (hm:m<=65535) (hB:B<=w.heap.size):
  Calls Tryz.prog 226 #[.slice A n c, .string s] w (nR B (n+2+m) w):=by
 have H:=ah h;have HL:=ah h1;have BQ:(m:Int)<=65535:=by omega
 have HS:=ah hs;obtain ⟨y1,y2,hq1,hq2⟩:=ajw m hm;obtain ⟨hw0,hw1⟩:=Jf y1
 have hln:l.length<1073741824:=by clear hq1 hq2 hw0 hw1;omega
 have Ac:=ah (show∀k,k<=m->n+2+k<1073741824 from fun k hk=>by clear hq1 hq2 hw0 hw1;omega)
 clear h h1;go_enter Tryz.func226,Tryz.ntmps226
 go_wp2_with (at_builtin;refine qE rfl (.tmp 6) (.tmp 15) rfl B (.slice A n c) l w rfl H.out [y1,y2] _ (by simp [Lib.byteCells,(Jf y2).2]) 2 rfl rfl hln (by decide) hB ?_)
 intro v9 w9 bI bG aF;have Hq:(l ++ [y1,y2]).length=n+2:=by rw [dA,HL.out];rfl
 obtain ⟨A9,c9,uY⟩:=bI.form;rw [Hq] at uY;subst uY
 have H0:=ah (show nR B (n+2+0) w (.returned (.slice A9 (n+2) c9)) w9 from ⟨A9,c9,_,rfl,bI,Hq,aF⟩)
 clear bI bG aF Hq hln hq1 hq2 hw0 hw1;go_wp2_with fail
 go_loopg [0,5] m (fun g v x wr=> ∃(k:Nat) (A':Option Addr) (c':Nat),v= .slice A' (n+2+k) c'/\x= .int .i64 k/\k+g=m/\nR B (n+2+k) w (.returned (.slice A' (n+2+k) c')) wr)
 case atStart=>exact ⟨0,A9,c9,rfl,rfl,by omega,H0.out⟩
 obtain ⟨k,A',c',rfl,rfl,hk,A2,c2,l2,he,ho,hl,hb⟩:=hrel;cases he;have HO:=ah ho
 have HL2:=ah hl;have HB:=ah hb;clear ho hl hb H0;cases gk with
 | zero=>
  obtain rfl:k=m:=by omega
  clear hk;go_wp2;go_ret;exact ⟨_,_,_,rfl,HO.out,HL2.out,HB.out⟩
 | succ g=>
  have hkm:k<m:=by omega
  have aeh:(k:Int)<m:=by omega
  have pk:(0:Int)<=(k:Int):=by omega
  have tk:((k:Int)).toNat=k:=by omega
  have hks:k<s.size:=by rw [HS.out];exact hkm
  obtain ⟨y,hy⟩: ∃y,s[k]'hks=y:=⟨_,rfl⟩;have HK:=ah hk
  have hl2:l2.length<1073741824:=by rw [HL2.out];exact Ac.out k (by omega)
  have hBr:B<=wr.heap.size:=ab5 hB HB.out.size;clear hk hkm
  go_wp2_with (at_builtin;refine qE rfl (.tmp 23) (.tmp 27) rfl B (.slice A' (n+2+k) c') l2 wr rfl HO.out [y] _ (by simp [Lib.byteCells]) 1 rfl rfl hl2 (by decide) hBr ?_)
  intro v8 w8 oh lW hb8;have lu:(l2 ++ [y]).length=n+2+(k+1):=by rw [dA,HL2.out];rfl
  obtain ⟨A8,c8,Dh⟩:=oh.form;rw [lu] at Dh;subst Dh
  have H8:=ah (show nR B (n+2+(k+1)) w (.returned (.slice A8 (n+2+(k+1)) c8)) w8 from ⟨A8,c8,_,rfl,oh,lu,HB.out.trans hb8⟩)
  clear oh lW hb8 lu hl2 hBr;go_wp2
  go_roundg g
  case measure=>omega
  exact ⟨k+1,A8,c8,rfl,rfl,by have:=HK.out;omega,H8.out⟩
theorem amu (w:World):Calls Tryz.prog 293 #[.int .i64 8] w fun e w'=>e= .returned (.bool true)/\Below w.heap.size w w':=by
 go_enter Tryz.func293,Tryz.ntmps293;go_wp2;go_ret
 exact ⟨rfl,by first | exact Below.refl _ _ | exact below_drewN (Below.refl _ _) _⟩
theorem ajx (l:List UInt8) (i:Nat) (y:UInt8):(Lib.byteCells l).set i (.int .u8 (y.toNat:Int))=Lib.byteCells (l.set i y):=by
 unfold Lib.byteCells;rw [aoD]
theorem ajy (v:Nat): ∃y:UInt8,(v:Int).tmod 256=(y.toNat:Int):=by
 refine ⟨UInt8.ofNat (v % 256), ?_⟩
 rw [alI (show v % 256<UInt8.size from amI _ (by decide))]
 exact (amQ v 256).symm
theorem amv (v:Nat) (w:World) (hv:v<18446744073709551616):
  Calls Tryz.prog 271 #[.int .i64 8, .int .u64 v] w (nR w.heap.size 8 w):=by
 have HV:=ah hv;have HW:=ah (fun (X:World)=>amu X)
 have H0:=ah (show nR w.heap.size 0 w (.returned (.slice (some ⟨w.heap.size,0,none⟩) 0 0)) (w.alloc (.cells #[] 5)) from ⟨_,_, [],rfl,qJ w 5 1,rfl,(Below.refl _ w).alloc (ab1 _) _⟩)
 clear hv;go_enter Tryz.func271,Tryz.ntmps271;go_wp2_with fail;refine (HW.out _).mono ?_
 rintro e w1 ⟨rfl,hb1⟩
 have H1:=ah (show nR w.heap.size 0 w (.returned (.slice (some ⟨w.heap.size,0,none⟩) 0 0)) w1 from by
  obtain ⟨A',c',l',he,ho,hl,hb⟩:=H0.out
  exact ⟨A',c',l',he,own_below ho hb1,hl,hb.trans (hb1.mono hb.size)⟩)
 clear hb1 H0;go_wp2_with fail
 go_loopg [5,6] 8 (fun g v x wr=> ∃(k:Nat) (A':Option Addr) (c':Nat),v= .slice A' k c'/\x= .int .i64 k/\k+g=8/\nR w.heap.size k w (.returned (.slice A' k c')) wr)
 case atStart=>exact ⟨0,_,_,rfl,rfl,by omega,H1.out⟩
 obtain ⟨k,A',c',rfl,rfl,hk,A2,c2,l2,he,ho,hl,hb⟩:=hrel;cases he;have HO:=ah ho
 have HL2:=ah hl;have HB:=ah hb;clear ho hl hb H1;cases gk with
 | zero=>
  obtain rfl:k=8:=by omega
  have H8:=ah (show nR w.heap.size 8 w (.returned (.slice A' 8 c')) wr from ⟨_,_,_,rfl,HO.out,HL2.out,HB.out⟩)
  clear HO HL2 HB hk;go_wp2_with fail
  go_loopg [1,7] 8 (fun g y x wq=> ∃(u:Nat),y= .int .u64 u/\x= .int .i64 ((g:Int) - 1)/\g<=8/\Hid (u<18446744073709551616)/\nR w.heap.size 8 w (.returned (.slice A' 8 c')) wq)
  case atStart=>exact ⟨v,rfl,rfl,by omega,HV.out,H8.out⟩
  obtain ⟨u,rfl,rfl,hk,hu,A2,c2,l2,he,ho,hl,hb⟩:=hrel;cases he
  have HU:Hid (u<18446744073709551616):=hu;have HO:=ah ho;have HL2:=ah hl;have HB:=ah hb
  clear ho hl hb H8 hu;cases gk with
  | zero=>
   clear hk;go_wp2;go_ret;exact ⟨_,_,_,rfl,HO.out,HL2.out,HB.out⟩
  | succ g=>
   have hg1:((g+1:Nat):Int) - 1=(g:Int):=by omega
   rw [hg1];have hgI:(g:Int)<8:=by omega
   have pg:(0:Int)<=(g:Int):=by omega
   have tg:((g:Int)).toNat=g:=by omega
   have lW:g<8:=by omega
   obtain ⟨y,hy⟩:=ajy u;have hy2:=(Jf y).2
   have hq:(u:Int).tdiv 256=((u / 256:Nat):Int):=(ao3 u 256).symm
   obtain ⟨u2,hu2⟩: ∃x,u / 256=x:=⟨_,rfl⟩;rw [hu2] at hq
   have bH:=ah (show u2<18446744073709551616 by rw [<-hu2];exact Nat.lt_of_le_of_lt (aom _ _) HU.out)
   have ho:=HO.out;unfold OwnB at ho;rw [HL2.out] at ho
   obtain ⟨b,rfl,hbl,hcell,hfr,hset⟩:=qI (t:=g) ho (by omega)
   have hc0: ∃x,wr.cell? ⟨b,g,none⟩=some x:=⟨_,hcell.trans (ab2 (by simp [Lib.byteCells,HL2.out];omega))⟩
   obtain ⟨x0,hx0⟩:=hc0;have hs9:=hset (.int .u8 (y.toNat:Int));rw [ajx] at hs9
   have HN:=ah (show nR w.heap.size 8 w (.returned (.slice (some ⟨b,0,none⟩) 8 c')) (wr.setCell ⟨b,g,none⟩ (.int .u8 (y.toNat:Int))) from ⟨_,_,_,rfl,by unfold OwnB;rw [am4,HL2.out];exact hs9,by rw [am4];exact HL2.out,HB.out.setCell (p:=⟨b,g,none⟩) hbl _⟩)
   have HK:=ah hk;clear ho hcell hset hs9 hk hu2 hbl lW hg1;go_wp2_with fail
   go_roundg g
   case measure=>omega
   exact ⟨u2,by rw [IntWalk.u64_in _ (by have:=bH.out;omega)],rfl,by have:=HK.out;omega,bH.out,HN.out⟩
 | succ g=>
  have hkm:k<8:=by omega
  have aeh:(k:Int)<8:=by omega
  have HK:=ah hk;have hl2:l2.length<1073741824:=by rw [HL2.out];omega
  have hBr:w.heap.size<=wr.heap.size:=HB.out.size;clear hk hkm
  go_wp2_with (at_builtin;refine qE rfl (.tmp 18) (.tmp 19) rfl w.heap.size (.slice A' k c') l2 wr rfl HO.out [0] _ (by simp [Lib.byteCells]) 1 rfl rfl hl2 (by decide) hBr ?_)
  intro v8 w8 oh lW hb8;have lu:(l2 ++ [0]).length=k+1:=by rw [dA,HL2.out];rfl
  obtain ⟨A8,c8,Dh⟩:=oh.form;rw [lu] at Dh;subst Dh
  have H8:=ah (show nR w.heap.size (k+1) w (.returned (.slice A8 (k+1) c8)) w8 from ⟨A8,c8,_,rfl,oh,lu,HB.out.trans hb8⟩)
  clear oh lW hb8 lu hl2 hBr;go_wp2
  go_roundg g
  case measure=>omega
  exact ⟨k+1,A8,c8,rfl,rfl,by have:=HK.out;omega,H8.out⟩
end Go.Proofs.YtoofbflplhbpbaaGreatDoor
