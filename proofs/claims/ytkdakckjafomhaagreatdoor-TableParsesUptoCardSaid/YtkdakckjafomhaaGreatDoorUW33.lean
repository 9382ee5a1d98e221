/- Contracts and plain laws,part 33. -/
import Derived.Test.YtkdakckjafomhaaGreatDoorUW32
set_option maxHeartbeats 64000000
set_option maxRecDepth 1000000
set_option linter.all false
namespace Go.Proofs.YtkdakckjafomhaaGreatDoor
open Go.RowKit
def wI (s:Nat) (n:Gr.N):List (List UInt8):=if s=1 then n.labels else[]
def eH (s:Nat) (ps:List Gr.P):List (List UInt8):=if s=3 then ps.map Gr.P.key else[]
def tK (s:Nat) (r:Gr.R):List (List UInt8):=if s=2 then[r.type] else[]
def rG (s:Nat) (n:Gr.N):List (List UInt8):=wI s n++eH s n.props
def rH (s:Nat) (r:Gr.R):List (List UInt8):=tK s r++eH s r.props
def lV (s:Nat) (g:Gr.G):List (List UInt8):=g.nodes.flatMap (rG s)++g.aA.flatMap (rH s)
theorem flatMap_nil {α β:Type} (l:List α):l.flatMap (fun _=>([]:List β))=[]:=by induction l<;>simp_all
theorem aeS (g:Gr.G):lV 1 g=Gr.ql g:=by
 have e1:rG 1=Gr.N.labels:=by funext n;simp[rG,wI,eH]
 have e2:rH 1=fun _=> []:=by funext n;simp[rH,tK,eH]
 rw[lV,e1,e2,flatMap_nil,aey,Gr.ql]
theorem aeT (g:Gr.G):lV 2 g=Gr.names2 g:=by
 have e1:rG 2=fun _=> []:=by funext n;simp[rG,wI,eH]
 have e2:rH 2=fun r=> [Gr.R.type r]:=by funext n;simp[rH,tK,eH]
 rw[lV,e1,e2,flatMap_nil,aex,Gr.names2]
 induction g.aA<;>simp_all
theorem aeU (g:Gr.G):lV 3 g=Gr.jP g:=by
 have e1:rG 3=fun n=>n.props.map Gr.P.key:=by funext n;simp[rG,wI,eH]
 have e2:rH 3=fun n=>n.props.map Gr.P.key:=by funext n;simp[rH,tK,eH]
 rw[lV,e1,e2,Gr.jP,Gr.dX,ad8,List.map_flatMap,List.map_flatMap]
theorem acy {α β:Type} {l:List α} {f:α->List β} {k:Nat} {a:α} (h:l[k]?=some a):((l.take k).flatMap f).length+(f a).length<=(l.flatMap f).length:=by
 rw[P5 h];simp only[adf];omega
structure lH (w:World) (u v:Value) (l:List (List UInt8)) (A:Option Addr) (c m:Nat) (V:World):Prop where
 box:au V w.heap.size 26 #[u,v]
 len:l.length=m
 own:V.ownsRow (w.heap.size+1) 9 1 (.slice A m c) m (l.map ST)
 bel:Below w.heap.size w V
theorem lH.below {w V V':World} {u v:Value} {l:List (List UInt8)} {A:Option Addr} {c m:Nat} (h:lH w u v l A c m V) (hb:Below V.heap.size V V'):lH w u v l A c m V':=
 ⟨h.box.below hb h.box.lt,h.len,aW h.own (dL hb none) (fun g c t fz e=>by cases e),h.bel.trans (hb.mono h.bel.size)⟩
theorem lH.put {w V V':World} {u v:Value} {l x:List (List UInt8)} {A A':Option Addr} {c m c':Nat} {n:Nat} (h:lH w u v l A c m V) (hx:x.length=n) (ho:V'.ownsRow (w.heap.size+1) 9 1 (.slice A' (m+n) c') (m+n) (l.map ST++x.map ST)) (hg:V.grownBy V' (Value.slice A m c).ownBlock):lH w u v (l++x) A' c' (m+n) V':=
 ⟨h.box.grown hg (fun e=>ES h.own h.box (by decide) e.symm),by rw[adf,h.len,hx],by rw[ad8];exact ho,h.bel.grown hg h.bel.size (fun j e=>anW (World.ownsRow.lt h.own j e).1)⟩
theorem acz {α β:Type} {l:List α} {f:α->List β} {k:Nat} {a:α} {x y:List β} (h:l[k]?=some a) (e:f a=x++y):(l.take (k+1)).flatMap f=(l.take k).flatMap f++x++y:=by
 rw[J3 h,e,aeG]
theorem U9 {s:Nat} {k:Nat} {b:Bool} (h:((s:Int) ==(k:Int))=b):(b=true->s=k)/\(b=false-> ¬s=k):=by
 subst h
 exact⟨fun e=>by have:=aeI.1 e;omega,fun e h=>by rw[h,beq_self_eq_true]at e;cases e⟩
theorem ale {W:World} {B e n c:Nat} {A:Option Addr} {xs:List Value} (h:W.ownsRow B e 1 (.slice A n c) n xs):n<=c:=by
 rcases h.2 with⟨_,h0⟩|⟨g,cap,cur,e,hg,hc,q1,q2,q3⟩
 ·omega
 cases e
 first|exact q1|exact q2|omega
theorem acA {s j pn M:Nat} {b:Bool} (h1:b=true->M=pn) (h2:b=false->M=0) (hj:j=M):(b=true/\(pn:Int)<=j/\decide ((j:Int)<pn)=false)\/(b=false/\(j:Int)<pn/\decide ((j:Int)<pn)=true)\/(b=false/\(pn:Int)<=j/\decide ((j:Int)<pn)=false):=by
 cases b with
 |true=>exact .inl ⟨rfl,by have:=h1 rfl;omega,ac5 (by have:=h1 rfl;omega)⟩
 |false=>
  by_cases h:(j:Int)<pn
  ·exact .inr (.inl ⟨rfl,h,adb h⟩)
  exact .inr (.inr ⟨rfl,by omega,ac5 h⟩)
theorem acB {s j M:Nat} {ps:List Gr.P} (h1:s=3->M=ps.length) (hj:j=M):eH s (ps.take j)=eH s ps:=by
 unfold eH
 split
 ·rename_i h
  rw[hj,h1 h,an8]
 rfl
theorem acC {s j:Nat} {ps:List Gr.P} {p:Gr.P} (h3:s=3) (hp:ps[j]?=some p):eH s (ps.take (j+1))=eH s (ps.take j)++[p.key]:=by
 unfold eH;rw[adk h3,adk h3,ae3,hp];simp
theorem acD (s:Nat) (ps:List Gr.P):eH s (ps.take 0)=[]:=by
 unfold eH
 split<;>rfl
theorem keys_le (s j:Nat) (ps:List Gr.P):(eH s (ps.take j)).length<=(eH s ps).length:=by
 unfold eH
 split
 ·rw[adU,adU,aeb]
  omega
 exact ac4 _
theorem alf:(Tryz.prog.info? 9).map (fun i=>(i.zero,i.size,i.bytes))=some (some (.string ⟨#[]⟩),1,16):=by kernel_rfl
theorem alg (s:Nat) (B:Nat) (u:Value) (g:Gr.G) (w:World) (h:jQ w B u g) (hB:B<=w.heap.size) (hlen:(lV s g).length<=1073741800):
  Calls Tryz.prog 56 #[u,.int .i64 s] w fun e w'=> ∃A c out,e=.returned (.slice A (Gr.dedup (lV s g)).length c)/\Gr.bJ (lV s g) out/\
   w'.ownsRow w.heap.size 9 1 (.slice A (Gr.dedup (lV s g)).length c) (Gr.dedup (lV s g)).length (out.map ST)/\Below w.heap.size w w':=by
 have hok:=h.ok;obtain⟨An,cn,Ar,cr,rfl,hN,hR⟩:=h.ex
 obtain⟨i0,hi,hz0,hz1,hz2⟩:=info_parts alf;obtain⟨nn,hnn⟩:=aj g.nodes.length
 obtain⟨rn,hrn⟩:=aj g.aA.length;obtain⟨b1,hb1⟩:=aj ((s:Int) == 1)
 obtain⟨b2,hb2⟩:=aj ((s:Int) == 2);obtain⟨b3,hb3⟩:=aj ((s:Int) == 3)
 have Ba:=ah (U9 hb1);have HE2:=ah (U9 hb2);have ru:=ah (U9 hb3);have hnl:=hok.nl
 have hrl:=hok.rl;rw[hnn]at hnl⊢;rw[hrn]at hrl⊢;have HN:=ah hN;have HR:=ah hR
 have aV:=ah hok;have aC:=ah hnn;have fP:=ah hrn;have dN:=ah hlen;have aK:=ah hB
 have yG:=ah (show lH w (.slice An nn cn) (.slice Ar rn cr) [] (some ⟨w.heap.size+1,0,none⟩) 0 0 ((w.alloc (.cells #[.slice An nn cn,.slice Ar rn cr] 26)).alloc (.cells #[] 9)) from
  ⟨(au.new w _ _).alloc _,rfl,by have:=oM (w.alloc (.cells #[.slice An nn cn,.slice Ar rn cr] 26)) 9 1;simpa using this,((Below.refl _ w).alloc (ac4 _) _).alloc (by simp) _⟩)
 obtain⟨W0,hW0⟩:=aj ((w.alloc (.cells #[.slice An nn cn,.slice Ar rn cr] 26)).alloc (.cells #[] 9))
 rw[hW0]at yG;have HW0:=ah hW0;clear h hok hN hR hnn hrn hlen hB hW0
 go_enter Tryz.func56,Tryz.ntmps56
 go_upto_region 2 with fail
 rw[HW0.out];clear HW0;obtain⟨c0,c1⟩:=cells2 yG.box;go_wp2_with fail
 go_loopg [5,6] nn (fun q o x wr=> ∃(k:Nat) (A':Option Addr) (c' m:Nat),o=.slice A' m c'/\x=.int .i64 k/\k+q=nn/\lH w (.slice An nn cn) (.slice Ar rn cr) ((g.nodes.take k).flatMap (rG s)) A' c' m wr)
 case atStart=>exact⟨0,_,_,_,rfl,rfl,by omega,yG.out⟩
 obtain⟨k,A',c',m,rfl,rfl,hk,hst⟩:=hrel;have HST:=ah hst;clear hst c0 c1 yG
 obtain⟨c0,c1⟩:=cells2 HST.box;cases gk with
 |succ q=>
  have hkn:k<nn:=by omega
  have dH:(k:Int)<nn:=by omega
  have pk:(0:Int)<=(k:Int):=by omega
  have tk:((k:Int)).toNat=k:=by omega
  obtain⟨n,hn⟩: ∃n,g.nodes[k]?=some n:=⟨_,dF (by rw[aC.out];exact hkn)⟩
  have hBw:=HST.bel.mono aK.out
  obtain⟨b,oo,Al,cl,Ap,cp,rfl,hlt,⟨d0,d1,d2⟩,r1,rp⟩:=(HN.below hBw (iO.below hBw)).node hn
  have jU:=aV.ns n (adI hn);obtain⟨ln,hln⟩:=aj n.labels.length
  obtain⟨pn,hpn⟩:=aj n.props.length;have hpl:=jU.pl;rw[hln]at d1 r1;rw[hpn]at d2 hpl
  obtain⟨nb,hnb⟩:=aj wr.heap.size
  obtain⟨WN,bQ⟩:=aj (wr.alloc (.cells #[.int .i64 n.id,.slice Al ln cl,.slice Ap pn cp] 42))
  have hbN:Below wr.heap.size wr WN:=bQ▸(Below.refl _ wr).alloc (ac4 _) _
  have hkN:au WN nb 42 #[.int .i64 n.id,.slice Al ln cl,.slice Ap pn cp]:=by rw[<-bQ,<-hnb];exact au.new _ _ _
  have hsz:=HST.bel.size;have hbB:Below B wr WN:=hbN.mono (adg aK.out hsz)
  have jR:=ah (HST.below hbN);have oh:=ah hkN;have fU:=ah bQ;have iW:=ah hnb
  have iJ:=ah (r1.below hbB);have BD:=ah (rp.below hbB (aX.below hbB));have dJ:=ah hln
  have dY:=ah hpn;have wC:=ah (adg (adg aK.out hsz) hbN.size);have an9:=ah jU
  have MZ:=ah (acy (f:=rG s) hn)
  have BQ:=ah (acz (f:=rG s) (x:=wI s n) (y:=eH s n.props) hn rfl)
  have Xk:=ah (show(g.nodes.flatMap (rG s)).length<=1073741800 by have:=dN.out;unfold lV at this;rw[adf]at this;omega)
  have HK:=ah hk;clear hkn hn hBw hlt jU hln hpn hnb bQ hbN hkN hsz hbB r1 rp hk
  go_upto_region 6 with fail
  rw[fU.out,iW.out];clear fU iW c0 c1 d0 d1 d2
  obtain⟨L,hL⟩:=aj ((g.nodes.take k).flatMap (rG s));have ap8:=ah hL;rw[hL]at jR MZ BQ
  clear hL HST;obtain⟨d0,d1,d2⟩:=cells3 oh.out
  have hml:m+((wI s n).length+(eH s n.props).length)<=1073741800:=by
   have h1:=MZ.out;have h2:=Xk.out;have h3:=jR.len
   rw[show rG s n=wI s n++eH s n.props from rfl,adf]at h1
   omega
  have BF:=ah hml;clear hml
  go_upto_if 26 with fail
  go_cut [5] (fun o wx=> ∃(A2:Option Addr) (c2 m2:Nat),o=.slice A2 m2 c2/\lH w (.slice (some ⟨b,oo,none⟩) nn cn) (.slice Ar rn cr) (L++wI s n) A2 c2 m2 wx/\Below B WN wx/\au wx nb 42 #[.int .i64 n.id,.slice Al ln cl,.slice Ap pn cp])
  case first=>
   cases b1 with
   |false=>
    have he:wI s n=[]:=ade (Ba.out.2 rfl)
    have HF:=ah (show lH w (.slice (some ⟨b,oo,none⟩) nn cn) (.slice Ar rn cr) (L++wI s n) A' c' m WN by rw[he,aey];exact jR.out)
    clear he;refine wp_cond_false rfl ?_;go_wp2;go_meet
    exact⟨A',c',m,rfl,HF.out,Below.refl _ _,oh.out⟩
   |true=>
    have he:wI s n=n.labels:=adk (Ba.out.1 rfl)
    have wu:=ah (show m+ln<=maxLen/\(m+ln)*16<=140737488355328 by have:=BF.out;rw[he,dJ.out]at this;unfold maxLen;omega)
    have H1:=ah (acv n.labels);have HE:=ah he;clear he;refine wp_cond_true rfl ?_
    go_wp2_with (at_builtin;refine y5 WN rfl (.tmp 27) (.tmp 29) 34 rfl (w.heap.size+1) 9 i0 (.string ⟨#[]⟩) 1 16 Tryz.underlying34 hi hz0 hz1 hz2 rfl (by decide) (.slice A' m c') m (L.map ST) rfl jR.own B Al ln cl (n.labels.map ST) rfl iJ.out H1.out wu.out.1 wu.out.2 (apw jR.box.lt) ?_)
    intro v9 w9 aG aN gG;obtain⟨A9,c9,rfl⟩:=aF aG;have HF:=ah (jR.put dJ.out aG aN)
    have bg:=ah (show Below B WN w9 from(Below.refl B WN).grown aN wC.out (fun j e=>adg aK.out (anW (World.ownsRow.lt jR.own j e).1)))
    have bH:=ah (oh.grown aN (fun e=>ES jR.own oh.out (by decide) e.symm))
    clear aG aN gG;go_wp2;go_meet
    exact⟨A9,c9,m+ln,rfl,by rw[HE.out];exact HF.out,bg.out,bH.out⟩
  obtain⟨A2,c2,m2,rfl,h2,hb2,hk2⟩:=hcut;have HS2:=ah h2;have HB2:=ah hb2;have aY:=ah hk2
  obtain⟨L2,hL2⟩:=aj (L++wI s n);rw[hL2]at HS2 BQ
  have oZ:=ah (show m2+(eH s n.props).length<=1073741800 by
   have h1:=HS2.len;have h2:=BF.out;have h3:=jR.len;rw[<-hL2,adf]at h1
   omega)
  have Xl:=ah (show L2.length+(eH s n.props).length<=1073741800 by have:=oZ.out;have:=HS2.len;omega)
  clear h2 hb2 hk2 hL2 d0 d1 d2;obtain⟨M,hM⟩:=aj (if s=3 then pn else 0)
  have HMD:=ah hM;have aeV:M<=1073741824:=by rw[<-hM];split<;>omega
  have GR:=ah (show b3=true->M=pn from fun e=>by rw[<-hM,adk (ru.out.1 e)])
  have En:=ah (show b3=false->M=0 from fun e=>by rw[<-hM,ade (ru.out.2 e)])
  clear hM;go_wp2_with fail
  go_loopg [5,8] M (fun q o x wq=> ∃(j:Nat) (A3:Option Addr) (c3 m3:Nat),o=.slice A3 m3 c3/\x=.int .i64 j/\j+q=M/\lH w (.slice (some ⟨b,oo,none⟩) nn cn) (.slice Ar rn cr) (L2++eH s (n.props.take j)) A3 c3 m3 wq/\Below B WN wq/\au wq nb 42 #[.int .i64 n.id,.slice Al ln cl,.slice Ap pn cp])
  case atStart=>exact⟨0,A2,c2,m2,rfl,rfl,by omega,by rw[acD,aey];exact HS2.out,HB2.out,aY.out⟩
  obtain⟨j,A3,c3,m3,rfl,rfl,hj,h3,Na,hk3⟩:=hrel;have aZ:=ah h3;have HB3:=ah Na
  have dB:=ah hk3;have HJ:=ah hj;clear h3 Na hk3 HS2 HB2 aY
  obtain⟨d0,d1,d2⟩:=cells3 dB.out;cases gk with
  |zero=>
   have hbb:=acA (s:=s) GR.out En.out hj
   have hkd:=acB (s:=s) (ps:=n.props) (fun e=>by rw[dY.out];exact GR.out (by cases b3 with|true=>rfl|false=>exact absurd e (ru.out.2 rfl))) hj
   have HF:=ah (show lH w (.slice (some ⟨b,oo,none⟩) nn cn) (.slice Ar rn cr) ((g.nodes.take (k+1)).flatMap (rG s)) A3 c3 m3 wr by rw[BQ.out,<-hkd];exact aZ.out)
   obtain⟨c0,c1⟩:=cells2 HF.box;clear hj hkd
   rcases hbb with⟨rfl,nX,tj⟩|⟨rfl,nX,tj⟩|⟨rfl,nX,tj⟩
   all_goals
    go_wp2
    go_roundg q
    case measure=>omega
    exact⟨k+1,A3,c3,m3,rfl,int_eq (by omega),by have:=HK.out;omega,HF.out⟩
  |succ q2=>
   cases b3 with
   |false=>have:=En.out rfl;omega
   |true=>
    have Xm:=GR.out rfl;have hkn:j<pn:=by omega
    have nX:(j:Int)<pn:=by omega
    have tj:decide ((j:Int)<pn)=true:=adb nX;have pj:(0:Int)<=(j:Int):=by omega
    have tjn:((j:Int)).toNat=j:=by omega
    obtain⟨p,hp⟩: ∃p,n.props[j]?=some p:=⟨_,dF (by rw[dY.out];exact hkn)⟩
    obtain⟨b',o',nK,lF,nM,lG,rfl,hlt,⟨p0,-,-,-,-,-⟩,-,-⟩:=(BD.below HB3.out (aX.below HB3.out)).prop hp
    simp only[ST]at p0;obtain⟨z,hz⟩:=aj (⟨p.key.toArray⟩:ByteArray);rw[hz]at p0
    have wJ:m3<1073741824:=by
     have h1:=aZ.len;have h2:=oZ.out;have h3:=Xl.out;have h4:=keys_le s j n.props
     rw[adf]at h1;omega
    have Xn:=ah wJ;obtain⟨L3,hL3⟩:=aj (L2++eH s (n.props.take j));rw[hL3]at aZ
    have Xo:=ah hL3;have Xp:=ah (acC (ru.out.1 rfl) hp);have HZ:=ah hz
    clear Xm hkn hp hlt hz wJ hj hL3
    go_wp2_with (at_builtin;refine fD rfl (.tmp 42) (.tmp 49) 34 9 (.string ⟨#[]⟩) 16 Tryz.underlying34 Ah rfl (by decide) rfl (w.heap.size+1) (.slice A3 m3 c3) m3 (L3.map ST) wr rfl aZ.own (.string z) rfl rfl Xn.out (apw aZ.box.lt) ?_)
    intro v9 w9 aG aN gG aB;obtain⟨A9,c9,rfl⟩:=aF aG
    have HF:=ah (show lH w (.slice (some ⟨b,oo,none⟩) nn cn) (.slice Ar rn cr) (L2++eH s (n.props.take (j+1))) A9 c9 (m3+1) w9 by
     rw[Xp.out,<-aeG,Xo.out]
     exact aZ.put (x:=[p.key]) rfl (by rw[aoX,ST,HZ.out];exact aG) aN)
    have bg:=ah (HB3.trans ((Below.refl B wr).grown aN (adg wC.out HB3.size) (fun j e=>adg aK.out (anW (World.ownsRow.lt aZ.own j e).1))))
    have bH:=ah (dB.grown aN (fun e=>ES aZ.own dB.out (by decide) e.symm))
    clear aG aN gG aB p0 d0 d1 d2;go_wp2
    go_roundg q2
    case measure=>omega
    exact⟨j+1,A9,c9,m3+1,rfl,int_eq (by omega),by have:=HJ.out;omega,HF.out,bg.out,bH.out⟩
 |zero=>
  obtain rfl:nn=k:=by omega
  have hf:g.nodes.take nn=g.nodes:=ado (by rw[aC.out];exact ac4 _)
  obtain⟨LN,hL⟩:=aj (g.nodes.flatMap (rG s));rw[hf,hL]at HST;have Vq:=ah hL
  have Xk:=ah (show LN.length+(g.aA.flatMap (rH s)).length<=1073741800 by have:=dN.out;unfold lV at this;rw[adf,hL]at this;exact this)
  clear hk hf hL;go_wp2_with fail
  go_loopg [5,9] rn (fun q o x wr=> ∃(k:Nat) (A':Option Addr) (c' m:Nat),o=.slice A' m c'/\x=.int .i64 k/\k+q=rn/\lH w (.slice An nn cn) (.slice Ar rn cr) (LN ++(g.aA.take k).flatMap (rH s)) A' c' m wr)
  case atStart=>exact⟨0,A',c',m,rfl,rfl,by omega,by simpa using HST.out⟩
  obtain⟨k,A',c',m,rfl,rfl,hk,hst⟩:=hrel;have lu:=ah hst;clear hst c0 c1
  obtain⟨c0,c1⟩:=cells2 lu.box;cases gk with
  |succ q=>
   have hkn:k<rn:=by omega
   have dH:(k:Int)<rn:=by omega
   have pk:(0:Int)<=(k:Int):=by omega
   have tk:((k:Int)).toNat=k:=by omega
   obtain⟨n,hn⟩: ∃n,g.aA[k]?=some n:=⟨_,dF (by rw[fP.out];exact hkn)⟩
   have hBw:=lu.bel.mono aK.out
   obtain⟨b,oo,Ap,cp,rfl,hlt,⟨d0,d1,d2,d3,d4⟩,rp⟩:=(HR.below hBw (iP.below hBw)).rel hn
   have jU:=aV.rs n (adI hn);simp only[ST]at d1
   obtain⟨zt,dU⟩:=aj (⟨n.type.toArray⟩:ByteArray);obtain⟨pn,hpn⟩:=aj n.props.length
   have hpl:=jU.pl;rw[dU]at d1;rw[hpn]at d4 hpl;obtain⟨nb,hnb⟩:=aj wr.heap.size
   obtain⟨WN,bQ⟩:=aj (wr.alloc (.cells #[.int .i64 n.id,.string zt,.int .i64 n.src,.int .i64 n.dst,.slice Ap pn cp] 44))
   have hbN:Below wr.heap.size wr WN:=bQ▸(Below.refl _ wr).alloc (ac4 _) _
   have hkN:au WN nb 44 #[.int .i64 n.id,.string zt,.int .i64 n.src,.int .i64 n.dst,.slice Ap pn cp]:=by rw[<-bQ,<-hnb];exact au.new _ _ _
   have hsz:=lu.bel.size;have hbB:Below B wr WN:=hbN.mono (adg aK.out hsz)
   have jR:=ah (lu.below hbN);have oh:=ah hkN;have fU:=ah bQ;have iW:=ah hnb
   have BD:=ah (rp.below hbB (aX.below hbB));have dJ:=ah dU;have dY:=ah hpn
   have wC:=ah (adg (adg aK.out hsz) hbN.size);have an9:=ah jU
   have MZ:=ah (acy (f:=rH s) hn)
   have BQ:=ah (acz (f:=rH s) (x:=tK s n) (y:=eH s n.props) hn rfl);have HK:=ah hk
   clear hkn hn hBw hlt jU dU hpn hnb bQ hbN hkN hsz hbB rp hk
   go_upto_region 16 with fail
   rw[fU.out,iW.out];clear fU iW c0 c1 d0 d1 d2 d3 d4
   obtain⟨LR,hLR⟩:=aj ((g.aA.take k).flatMap (rH s));rw[hLR]at jR MZ BQ
   obtain⟨L,hL⟩:=aj (LN++LR);rw[hL]at jR;have HLq:=ah hL
   have BQ:=ah (show LN ++(g.aA.take (k+1)).flatMap (rH s)=L++tK s n++eH s n.props by rw[BQ.out,<-hL,<-aeG,<-aeG])
   clear hL hLR lu;obtain⟨d0,d1,d2,d3,d4⟩:=cells5 oh.out
   have hml:m+((tK s n).length+(eH s n.props).length)<=1073741800:=by
    have h1:=MZ.out;have h2:=Xk.out;have h3:=jR.len;rw[<-HLq.out,adf]at h3
    rw[show rH s n=tK s n++eH s n.props from rfl,adf]at h1
    omega
   have BF:=ah hml;clear hml
   go_upto_if 64 with fail
   go_cut [5] (fun o wx=> ∃(A2:Option Addr) (c2 m2:Nat),o=.slice A2 m2 c2/\lH w (.slice An nn cn) (.slice (some ⟨b,oo,none⟩) rn cr) (L++tK s n) A2 c2 m2 wx/\Below B WN wx/\au wx nb 44 #[.int .i64 n.id,.string zt,.int .i64 n.src,.int .i64 n.dst,.slice Ap pn cp])
   case first=>
    cases b2 with
    |false=>
     have he:tK s n=[]:=ade (HE2.out.2 rfl)
     have HF:=ah (show lH w (.slice An nn cn) (.slice (some ⟨b,oo,none⟩) rn cr) (L++tK s n) A' c' m WN by rw[he,aey];exact jR.out)
     clear he;refine wp_cond_false rfl ?_;go_wp2;go_meet
     exact⟨A',c',m,rfl,HF.out,Below.refl _ _,oh.out⟩
    |true=>
     have he:tK s n=[n.type]:=adk (HE2.out.1 rfl)
     have wu:=ah (show m<1073741824 by have:=BF.out;omega)
     have HE:=ah he;clear he;refine wp_cond_true rfl ?_
     go_wp2_with (at_builtin;refine fD rfl (.tmp 65) (.tmp 68) 34 9 (.string ⟨#[]⟩) 16 Tryz.underlying34 Ah rfl (by decide) rfl (w.heap.size+1) (.slice A' m c') m (L.map ST) WN rfl jR.own (.string zt) rfl rfl wu.out (apw jR.box.lt) ?_)
     intro v9 w9 aG aN gG aB;obtain⟨A9,c9,rfl⟩:=aF aG
     have HF:=ah (show lH w (.slice An nn cn) (.slice (some ⟨b,oo,none⟩) rn cr) (L++tK s n) A9 c9 (m+1) w9 by
      rw[HE.out]
      exact jR.put (x:=[n.type]) rfl (by rw[aoX,ST,dJ.out];exact aG) aN)
     have bg:=ah (show Below B WN w9 from(Below.refl B WN).grown aN wC.out (fun j e=>adg aK.out (anW (World.ownsRow.lt jR.own j e).1)))
     have bH:=ah (oh.grown aN (fun e=>ES jR.own oh.out (by decide) e.symm))
     clear aG aN gG aB;go_wp2;go_meet;exact⟨A9,c9,m+1,rfl,HF.out,bg.out,bH.out⟩
   obtain⟨A2,c2,m2,rfl,h2,hb2,hk2⟩:=hcut;have HS2:=ah h2;have HB2:=ah hb2;have aY:=ah hk2
   obtain⟨L2,hL2⟩:=aj (L++tK s n);rw[hL2]at HS2 BQ
   have oZ:=ah (show m2+(eH s n.props).length<=1073741800 by
    have h1:=HS2.len;have h2:=BF.out;have h3:=jR.len;rw[<-hL2,adf]at h1
    omega)
   have Xl:=ah (show L2.length+(eH s n.props).length<=1073741800 by have:=oZ.out;have:=HS2.len;omega)
   clear h2 hb2 hk2 hL2 d0 d1 d2 d3 d4;obtain⟨M,hM⟩:=aj (if s=3 then pn else 0)
   have HMD:=ah hM;have aeV:M<=1073741824:=by rw[<-hM];split<;>omega
   have GR:=ah (show b3=true->M=pn from fun e=>by rw[<-hM,adk (ru.out.1 e)])
   have En:=ah (show b3=false->M=0 from fun e=>by rw[<-hM,ade (ru.out.2 e)])
   clear hM;go_wp2_with fail
   go_loopg [5,11] M (fun q o x wq=> ∃(j:Nat) (A3:Option Addr) (c3 m3:Nat),o=.slice A3 m3 c3/\x=.int .i64 j/\j+q=M/\lH w (.slice An nn cn) (.slice (some ⟨b,oo,none⟩) rn cr) (L2++eH s (n.props.take j)) A3 c3 m3 wq/\Below B WN wq/\au wq nb 44 #[.int .i64 n.id,.string zt,.int .i64 n.src,.int .i64 n.dst,.slice Ap pn cp])
   case atStart=>exact⟨0,A2,c2,m2,rfl,rfl,by omega,by rw[acD,aey];exact HS2.out,HB2.out,aY.out⟩
   obtain⟨j,A3,c3,m3,rfl,rfl,hj,h3,Na,hk3⟩:=hrel;have aZ:=ah h3;have HB3:=ah Na
   have dB:=ah hk3;have HJ:=ah hj;clear h3 Na hk3 HS2 HB2 aY
   obtain⟨d0,d1,d2,d3,d4⟩:=cells5 dB.out;cases gk with
   |zero=>
    have hbb:=acA (s:=s) GR.out En.out hj
    have hkd:=acB (s:=s) (ps:=n.props) (fun e=>by rw[dY.out];exact GR.out (by cases b3 with|true=>rfl|false=>exact absurd e (ru.out.2 rfl))) hj
    have HF:=ah (show lH w (.slice An nn cn) (.slice (some ⟨b,oo,none⟩) rn cr) (LN ++(g.aA.take (k+1)).flatMap (rH s)) A3 c3 m3 wr by rw[BQ.out,<-hkd];exact aZ.out)
    obtain⟨c0,c1⟩:=cells2 HF.box;clear hj hkd
    rcases hbb with⟨rfl,nX,tj⟩|⟨rfl,nX,tj⟩|⟨rfl,nX,tj⟩
    all_goals
     go_wp2
     go_roundg q
     case measure=>omega
     exact⟨k+1,A3,c3,m3,rfl,int_eq (by omega),by have:=HK.out;omega,HF.out⟩
   |succ q2=>
    cases b3 with
    |false=>have:=En.out rfl;omega
    |true=>
     have Xm:=GR.out rfl;have hkn:j<pn:=by omega
     have nX:(j:Int)<pn:=by omega
     have tj:decide ((j:Int)<pn)=true:=adb nX;have pj:(0:Int)<=(j:Int):=by omega
     have tjn:((j:Int)).toNat=j:=by omega
     obtain⟨p,hp⟩: ∃p,n.props[j]?=some p:=⟨_,dF (by rw[dY.out];exact hkn)⟩
     obtain⟨b',o',nK,lF,nM,lG,rfl,hlt,⟨p0,-,-,-,-,-⟩,-,-⟩:=(BD.below HB3.out (aX.below HB3.out)).prop hp
     simp only[ST]at p0;obtain⟨z,hz⟩:=aj (⟨p.key.toArray⟩:ByteArray);rw[hz]at p0
     have wJ:m3<1073741824:=by
      have h1:=aZ.len;have h2:=oZ.out;have h3:=Xl.out;have h4:=keys_le s j n.props
      rw[adf]at h1;omega
     have Xn:=ah wJ;obtain⟨L3,hL3⟩:=aj (L2++eH s (n.props.take j));rw[hL3]at aZ
     have Xo:=ah hL3;have Xp:=ah (acC (ru.out.1 rfl) hp);have HZ:=ah hz
     clear Xm hkn hp hlt hz wJ hj hL3
     go_wp2_with (at_builtin;refine fD rfl (.tmp 81) (.tmp 88) 34 9 (.string ⟨#[]⟩) 16 Tryz.underlying34 Ah rfl (by decide) rfl (w.heap.size+1) (.slice A3 m3 c3) m3 (L3.map ST) wr rfl aZ.own (.string z) rfl rfl Xn.out (apw aZ.box.lt) ?_)
     intro v9 w9 aG aN gG aB;obtain⟨A9,c9,rfl⟩:=aF aG
     have HF:=ah (show lH w (.slice An nn cn) (.slice (some ⟨b,oo,none⟩) rn cr) (L2++eH s (n.props.take (j+1))) A9 c9 (m3+1) w9 by
      rw[Xp.out,<-aeG,Xo.out]
      exact aZ.put (x:=[p.key]) rfl (by rw[aoX,ST,HZ.out];exact aG) aN)
     have bg:=ah (HB3.trans ((Below.refl B wr).grown aN (adg wC.out HB3.size) (fun j e=>adg aK.out (anW (World.ownsRow.lt aZ.own j e).1))))
     have bH:=ah (dB.grown aN (fun e=>ES aZ.own dB.out (by decide) e.symm))
     clear aG aN gG aB p0 d0 d1 d2 d3 d4;go_wp2
     go_roundg q2
     case measure=>omega
     exact⟨j+1,A9,c9,m3+1,rfl,int_eq (by omega),by have:=HJ.out;omega,HF.out,bg.out,bH.out⟩
  |zero=>
   obtain rfl:rn=k:=by omega
   have hf:g.aA.take rn=g.aA:=ado (by rw[fP.out];exact ac4 _)
   rw[hf,<-Vq.out]at lu
   have hst:lH w (.slice An nn cn) (.slice Ar rn cr) (lV s g) A' c' m wr:=lu.out
   obtain⟨AL,Xq⟩:=aj (lV s g);rw[Xq]at hst dN;have lX:=ah Xq
   have hcall:=ald m wr.heap.size A' c' m AL wr (ac4 _) (Reads.dI hst.own) hst.len (ac4 _) (ale hst.own) (hst.len▸dN.out)
   have zH:=ah hcall;have Xr:=ah hst;clear hk hf hst hcall Xq lu;go_wp2_with fail
   refine zH.mono ?_;rintro e w9 ⟨A9,c9,m9,out,rfl,Eo,aG,hs9,aB⟩
   have hm9:m9=(Gr.dedup AL).length:=by rw[<-Eo];exact hs9.length
   rw[hm9]at aG⊢;have HM9:=ah (And.intro hs9 (own_base aG Xr.bel.size))
   have bg:=ah (Xr.bel.trans (aB.mono Xr.bel.size));clear Eo hs9 aB aG hm9;go_wp2;go_ret
   exact⟨A9,c9,out,by rw[lX.out];rfl,by rw[lX.out];exact HM9.out.1,by rw[lX.out];exact HM9.out.2,bg.out⟩
theorem Vb (s:Nat) (B:Nat) (u:Value) (g:Gr.G) (w:World) (h:jQ w B u g) (hB:B<=w.heap.size) (hlen:(lV s g).length<=1073741800):
  Calls Tryz.prog 56 #[u,.int .i64 s] w fun e w'=> ∃A c,e=.returned (.slice A (Gr.dedup (lV s g)).length c)/\Below w.heap.size w w':=
 (alg s B u g w h hB hlen).mono fun _ _ ⟨A,c,_,h1,_,_,h4⟩=>⟨A,c,h1,h4⟩
def IL (n:Gr.N):Nat:=if Gr.uY n.labels≠0 then Gr.uY n.labels else Gr.lQ n.props
theorem alh (B:Nat) (p:Gr.N) (Al Ap:Option Addr) (cl cp:Nat) (w:World) (ra:Reads w B 1 Al p.labels.length (p.labels.map ST)) (rp:bY w B 6 (aX w B) Ap p.props) (hB:B<=w.heap.size) (hok:QE p):
  Calls Tryz.prog 54 #[.agg #[.int .i64 p.id,.slice Al p.labels.length cl,.slice Ap p.props.length cp]] w fun e w'=>e=.returned (.int .i64 (IL p:Nat))/\Below w.heap.size w w':=by
 obtain⟨R,hR⟩:=aj (IL p);rw[hR];unfold IL at hR;obtain⟨n,hn⟩:=aj p.labels.length
 obtain⟨pn,hpn⟩:=aj p.props.length;have hl:n<=1073741824:=hn▸hok.ll
 have hLW:Gr.uY p.labels=if 8<n then 63 else(Gr.first Gr.labelWrong id none p.labels 0).1:=by unfold Gr.uY;rw[hn]
 have Xt:=fun(X:World) (hb:Below w.heap.size w X)=>acs B Ap cp p.props X (rp.below (hb.mono hB) (aX.below (hb.mono hB))) (adg hB hb.size) hok.pl hok.ps
 rw[hn]at ra⊢;rw[hpn]at Xt⊢;have HH:=ah ra;have HS:=ah hok.ls;have HN:=ah hn
 have HU:=ah CX;have dW:=ah Xt;have nY:=ah hLW;have HR0:=ah hR;have aK:=ah hB
 have hb0:Below w.heap.size w (w.alloc (.cells #[.int .i64 p.id,.slice Al n cl,.slice Ap pn cp] 42)):=(Below.refl _ w).alloc (ac4 _) _
 have HB0:=ah hb0;have hk0:=au.new w 42 #[.int .i64 p.id,.slice Al n cl,.slice Ap pn cp]
 have oC:=ah hk0;clear ra rp hok hn hpn Xt hLW hR hB hb0 hk0;by_cases h8:8<n
 ·have hr:R=63:=by rw[<-HR0.out,nY.out,adk h8];rfl
  have xZ:(8:Int)<n:=by omega
  have t8:decide ((8:Int)<n)=true:=adb xZ;have HRR:=ah hr;clear hr h8
  go_enter Tryz.func54,Tryz.ntmps54;go_wp2;go_ret;exact⟨by rw[HRR.out];rfl,HB0.out⟩
 obtain⟨RL,hRL⟩:=aj ((Gr.first Gr.labelWrong id none p.labels 0).1);have HR:=ah hRL
 have HE:=ah (show R=if RL≠0 then RL else Gr.lQ p.props by rw[<-HR0.out,nY.out,ade h8,hRL])
 have xZ:(n:Int)<=8:=by omega
 have t8:decide ((8:Int)<n)=false:=ac5 (by omega)
 clear h8 hRL;go_enter Tryz.func54,Tryz.ntmps54;go_wp2_with fail
 go_loopg [3] n (fun g x wr=> ∃k:Nat,x=.int .i64 k/\k+g=n/\Below w.heap.size w wr/\au wr w.heap.size 42 #[.int .i64 p.id,.slice Al n cl,.slice Ap pn cp]/\Hid (∀j a,j<k->p.labels[j]?=some a->Gr.labelWrong (Gr.aH id p.labels j) a=0))
 case atStart=>exact⟨0,rfl,by omega,HB0.out,oC.out,fun j a h=>by omega⟩
 obtain⟨k,rfl,hk,hb,hbk,hz⟩:=hrel;have HK:=ah hk
 have HZ:Hid (∀j a,j<k->p.labels[j]?=some a->Gr.labelWrong (Gr.aH id p.labels j) a=0):=hz
 have HB:=ah hb;have Ep:=ah hbk;obtain⟨a0,a1,a2⟩:=cells3 hbk;clear hz hb hbk HB0 oC
 cases gk with
 |zero=>
  obtain rfl:k=n:=by omega
  have hr:=PI HN.out HR.out HZ.out
  have hr2:R=Gr.lQ p.props:=by rw[HE.out,hr,ade (by simp)]
  have HRR:=ah hr2;clear hk hr hr2;go_wp2_with fail;refine(dW.out _ HB.out).mono ?_
  rintro e w4 ⟨rfl,hb4⟩;have HB4:=ah (HB.trans (hb4.mono HB.size));clear hb4;go_wp2;go_ret
  exact⟨by rw[HRR.out];rfl,HB4.out⟩
 |succ g=>
  have hkn:k<n:=by omega
  have dH:(k:Int)<n:=by omega
  have pk:(0:Int)<=(k:Int):=by omega
  have tk:((k:Int)).toNat=k:=by omega
  have Xu:=ah (HH.below (HB.mono aK.out));obtain⟨a,o,x,rfl,hlt,hx,hp⟩:=Xu.cell hkn
  rw[adX]at hx;obtain⟨y,hy,rfl⟩:=ae4.1 hx;unfold ST at hp
  obtain⟨z,hz⟩:=aj (⟨y.toArray⟩:ByteArray);rw[hz]at hp
  have hzd:z.data.toList=y:=by rw[<-hz]
  have hzl:z.size<=1073741824:=by rw[Lib.size_eq,hzd];exact HS.out y (adI hy)
  have hcall:=IK z wr hzl;rw[hzd]at hcall;have HY:=ah hy;have HZD:=ah hzd
  obtain⟨GN,hg⟩:=aj (Gr.bC y);rw[hg]at hcall;have HC:=ah hcall;have dQ:=ah hg
  have Q9:Hid (∀(X:World) (m:Nat) (q:List UInt8),Below wr.heap.size wr X->m<n->p.labels[m]?=some q->X.cell? ⟨a,o+m,none⟩=some (ST q)):=fun X m q hb hm hq=>by
   obtain⟨p',o',x',he,hl',hx',hp'⟩:=Xu.cell (k:=m) hm
   injection he with he
   injection he with he1 he2
   subst he1;subst he2;rw[adX,hq]at hx';cases hx'
   exact((hb.mono (adg aK.out HB.size)).cell (by exact hl')).trans hp'
  clear hx hk hy hz hzd hzl hcall hg hlt;go_wp2_with fail;refine HC.mono ?_
  rintro e w1 ⟨rfl,hb1⟩;have HB1:=ah (HB.trans (hb1.mono HB.size))
  have hbk1:=Ep.below hb1 Ep.lt;have ae0:=ah hbk1
  have vO:Hid (∀(m:Nat) (q:List UInt8),m<n->p.labels[m]?=some q->w1.cell? ⟨a,o+m,none⟩=some (ST q)):=fun m q hm hq=>Q9.out w1 m q hb1 hm hq
  clear a0 a1 a2 hp;obtain⟨a0,a1,a2⟩:=cells3 hbk1
  have hp:w1.cell? ⟨a,o+k,none⟩=some (.string z):=by have:=vO.out k y hkn HY.out;rw[this,<-HZD.out];rfl
  clear hbk1 hb1 Q9 Ep Xu;cases GN with
  |false=>
   have hr:=Dc HR.out HY.out HZ.out (e:=60) (by unfold Gr.labelWrong;rw[dQ.out,adk rfl]) (by decide)
   have hr2:R=60:=by rw[HE.out,hr,adk (by decide)]
   have HRR:=ah hr2;clear hr hr2;go_wp2;go_ret;exact⟨by rw[HRR.out];rfl,HB1.out⟩
  |true=>
   by_cases h0:k=0
   ·subst h0
    rw[aft]at hp
    have hmore:=zf HY.out HZ.out (by unfold Gr.labelWrong;rw[dQ.out,ade (by decide)];rfl)
    have HM:=ah hmore;clear hkn hmore
    go_upto_region 8 with fail
    go_quiet (fail)
    go_wp2_with fail
    go_roundg g
    case measure=>omega
    exact⟨1,rfl,by have:=HK.out;omega,by first|exact HB1.out|exact below_drewN HB1.out _,ae0.out,HM.out⟩
   obtain⟨m,rfl⟩: ∃m,k=m+1:=⟨k - 1,by omega⟩
   obtain⟨q,hq⟩: ∃q,p.labels[m]?=some q:=⟨_,dF (by rw[HN.out];omega)⟩
   have hp':=vO.out m q (by omega) hq
   unfold ST at hp';obtain⟨zq,qU⟩:=aj (⟨q.toArray⟩:ByteArray)
   have x8:zq.toList=q:=by rw[<-qU,rZ]
   rw[qU]at hp';obtain⟨b1,hb1⟩:=aj (Op.bytesLess z.toList zq.toList)
   obtain⟨b2,hb2⟩:=aj (z.toList == zq.toList)
   have hb:decide (y<=q)=(b1 || b2):=by rw[<-hb1,<-hb2,Iw,x8,Lib.toList_data,HZD.out]
   have Ja:(1:Int)<=((m+1:Nat):Int):=by omega
   have hm0:decide ((0:Int)<((m+1:Nat):Int))=true:=adb (by omega)
   have hm1:(m:Int)<n:=by omega
   have hsub:((m+1:Nat):Int) - 1=(m:Int):=by omega
   have lq:Gr.labelWrong (Gr.aH id p.labels (m+1)) y=if(b1 || b2)=true then 6 else 0:=by
    have hpv:Gr.aH id p.labels (m+1)=some q:=by show p.labels[m]?.map id=_;rw[hq];rfl
    unfold Gr.labelWrong;rw[dQ.out,hpv,ade (by decide),<-hb]
    rfl
   have ae1:=ah lq
   have uG:=ah (show(b1 || b2)=true->R=6 from fun h=>by
    have:=Dc HR.out HY.out HZ.out (e:=6) (by rw[ae1.out,h];rfl) (by decide)
    rw[HE.out,this,adk (by decide)])
   clear hq hkn lq hb h0 qU x8;cases b1 with
   |true=>
    have hr:=uG.out rfl;have HRR:=ah hr;clear hr
    go_upto_region 8 with fail
    go_quiet (fail)
    go_wp2;go_ret
    exact⟨by rw[HRR.out];rfl,by first|exact HB1.out|exact below_drewN HB1.out _⟩
   |false=>
    cases b2 with
    |true=>
     have hr:=uG.out rfl;have HRR:=ah hr;clear hr
     go_upto_region 8 with fail
     go_quiet (fail)
     go_wp2;go_ret
     exact⟨by rw[HRR.out];rfl,by first|exact HB1.out|exact below_drewN HB1.out _⟩
    |false=>
     have hmore:=zf HY.out HZ.out (by rw[ae1.out];rfl)
     have HM:=ah hmore;clear hmore
     go_upto_region 8 with fail
     go_quiet (fail)
     go_wp2_with fail
     go_roundg g
     case measure=>omega
     exact⟨m+1+1,int_eq (by omega),by have:=HK.out;omega,by first|exact HB1.out|exact below_drewN HB1.out _,ae0.out,HM.out⟩
def oN (B n:Nat) (w:World) (e:Ending) (w':World):Prop:= ∃(A':Option Addr) (c':Nat) (l':List UInt8),e=.returned (.slice A' n c')/\OwnB B (.slice A' n c') l' w'/\l'.length=n/\Below B w w'
theorem ali (m:Nat) (hm:m<=65535): ∃y1 y2:UInt8,(m:Int).tdiv 256=(y1.toNat:Int)/\(m:Int).tmod 256=(y2.toNat:Int):=by
 refine⟨UInt8.ofNat (m / 256),UInt8.ofNat (m % 256), ?_, ?_⟩
 ·rw[anz (show m / 256<UInt8.size from ap9 (Nat.lt_succ_of_le hm))]
  exact(arx m 256).symm
 rw[anz (show m % 256<UInt8.size from arq _ (by decide))]
 exact(Int.ofNat_tmod m 256).symm
theorem J8 (y:UInt8):wrap64 (y.toNat:Int)=y.toNat/\(y.toNat:Int) % 256=y.toNat:=by
 have h:y.toNat<256:=y.toNat_lt;exact⟨IntWalk.wrap64_in _ (by omega),by omega⟩
theorem acE (B:Nat) (A:Option Addr) (c n m:Nat) (s:ByteArray) (l:List UInt8) (w:World) (h:OwnB B (.slice A n c) l w) (h1:l.length=n) (hn:n<=536870912) (hs:s.size=m) (hm:m<=65535) (hB:B<=w.heap.size):
  Calls Tryz.prog 189 #[.slice A n c,.string s] w (oN B (n+2+m) w):=by
 have H:=ah h;have HL:=ah h1;have Ja:(m:Int)<=65535:=by omega
 have HS:=ah hs;obtain⟨y1,y2,hq1,hq2⟩:=ali m hm;obtain⟨hw0,hw1⟩:=J8 y1
 have hln:l.length<1073741824:=by clear hq1 hq2 hw0 hw1;omega
 have HLR:=ah (show∀k,k<=m->n+2+k<1073741824 from fun k hk=>by clear hq1 hq2 hw0 hw1;omega)
 clear h h1;go_enter Tryz.func189,Tryz.ntmps189
 go_wp2_with (at_builtin;refine uV rfl (.tmp 6) (.tmp 15) rfl B (.slice A n c) l w rfl H.out [y1,y2] _ (by simp[Lib.byteCells,(J8 y2).2]) 2 rfl rfl hln (by decide) hB ?_)
 intro v9 w9 aG aN aB;have Eo:(l++[y1,y2]).length=n+2:=by rw[adf,HL.out];rfl
 obtain⟨A9,c9,Em⟩:=aG.form;rw[Eo]at Em;subst Em
 have H0:=ah (show oN B (n+2+0) w (.returned (.slice A9 (n+2) c9)) w9 from⟨A9,c9,_,rfl,aG,Eo,aB⟩)
 clear aG aN aB Eo hln hq1 hq2 hw0 hw1;go_wp2_with fail
 go_loopg [0,5] m (fun g v x wr=> ∃(k:Nat) (A':Option Addr) (c':Nat),v=.slice A' (n+2+k) c'/\x=.int .i64 k/\k+g=m/\oN B (n+2+k) w (.returned (.slice A' (n+2+k) c')) wr)
 case atStart=>exact⟨0,A9,c9,rfl,rfl,by omega,H0.out⟩
 obtain⟨k,A',c',rfl,rfl,hk,A2,c2,l2,he,ho,hl,hb⟩:=hrel;cases he;have HO:=ah ho
 have HL2:=ah hl;have HB:=ah hb;clear ho hl hb H0;cases gk with
 |zero=>
  obtain rfl:k=m:=by omega
  clear hk;go_wp2;go_ret;exact⟨_,_,_,rfl,HO.out,HL2.out,HB.out⟩
 |succ g=>
  have hkm:k<m:=by omega
  have Rf:(k:Int)<m:=by omega
  have pk:(0:Int)<=(k:Int):=by omega
  have tk:((k:Int)).toNat=k:=by omega
  have hks:k<s.size:=by rw[HS.out];exact hkm
  obtain⟨y,hy⟩:=aj (s[k]'hks);have HK:=ah hk
  have hl2:l2.length<1073741824:=by rw[HL2.out];exact HLR.out k (by omega)
  have hBr:B<=wr.heap.size:=adg hB HB.size;clear hk hkm
  go_wp2_with (at_builtin;refine uV rfl (.tmp 23) (.tmp 27) rfl B (.slice A' (n+2+k) c') l2 wr rfl HO.out [y] _ (by simp[Lib.byteCells]) 1 rfl rfl hl2 (by decide) hBr ?_)
  intro v8 w8 yH zT hb8;have yJ:(l2++[y]).length=n+2+(k+1):=by rw[adf,HL2.out];rfl
  obtain⟨A8,c8,Es⟩:=yH.form;rw[yJ]at Es;subst Es
  have H8:=ah (show oN B (n+2+(k+1)) w (.returned (.slice A8 (n+2+(k+1)) c8)) w8 from⟨A8,c8,_,rfl,yH,yJ,HB.trans hb8⟩)
  clear yH zT hb8 yJ hl2 hBr;go_wp2
  go_roundg g
  case measure=>omega
  exact⟨k+1,A8,c8,rfl,rfl,by have:=HK.out;omega,H8.out⟩
theorem aoe (w:World):Calls Tryz.prog 247 #[.int .i64 8] w fun e w'=>e=.returned (.bool true)/\Below w.heap.size w w':=by
 go_enter Tryz.func247,Tryz.ntmps247;go_wp2;go_ret
 exact⟨rfl,by first|exact Below.refl _ _|exact below_drewN (Below.refl _ _) _⟩
theorem alj (l:List UInt8) (i:Nat) (y:UInt8):(Lib.byteCells l).set i (.int .u8 (y.toNat:Int))=Lib.byteCells (l.set i y):=by
 unfold Lib.byteCells;rw[List.map_set]
theorem alk (v:Nat): ∃y:UInt8,(v:Int).tmod 256=(y.toNat:Int):=by
 refine⟨UInt8.ofNat (v % 256), ?_⟩
 rw[anz (show v % 256<UInt8.size from arq _ (by decide))]
 exact(Int.ofNat_tmod v 256).symm
theorem aof (v:Nat) (w:World) (hv:v<18446744073709551616):
  Calls Tryz.prog 227 #[.int .i64 8,.int .u64 v] w (oN w.heap.size 8 w):=by
 have HV:=ah hv;have HW:=ah (fun(X:World)=>aoe X)
 have H0:=ah (show oN w.heap.size 0 w (.returned (.slice (some ⟨w.heap.size,0,none⟩) 0 0)) (w.alloc (.cells #[] 5)) from⟨_,_,[],rfl,oM w 5 1,rfl,(Below.refl _ w).alloc (ac4 _) _⟩)
 clear hv;go_enter Tryz.func227,Tryz.ntmps227;go_wp2_with fail;refine(HW.out _).mono ?_
 rintro e w1 ⟨rfl,hb1⟩
 have H1:=ah (show oN w.heap.size 0 w (.returned (.slice (some ⟨w.heap.size,0,none⟩) 0 0)) w1 from by
  obtain⟨A',c',l',he,ho,hl,hb⟩:=H0.out
  exact⟨A',c',l',he,own_below ho hb1,hl,hb.trans (hb1.mono hb.size)⟩)
 clear hb1 H0;go_wp2_with fail
 go_loopg [5,6] 8 (fun g v x wr=> ∃(k:Nat) (A':Option Addr) (c':Nat),v=.slice A' k c'/\x=.int .i64 k/\k+g=8/\oN w.heap.size k w (.returned (.slice A' k c')) wr)
 case atStart=>exact⟨0,_,_,rfl,rfl,by omega,H1.out⟩
 obtain⟨k,A',c',rfl,rfl,hk,A2,c2,l2,he,ho,hl,hb⟩:=hrel;cases he;have HO:=ah ho
 have HL2:=ah hl;have HB:=ah hb;clear ho hl hb H1;cases gk with
 |zero=>
  obtain rfl:k=8:=by omega
  have H8:=ah (show oN w.heap.size 8 w (.returned (.slice A' 8 c')) wr from⟨_,_,_,rfl,HO.out,HL2.out,HB.out⟩)
  clear HO HL2 HB hk;go_wp2_with fail
  go_loopg [1,7] 8 (fun g y x wq=> ∃(u:Nat),y=.int .u64 u/\x=.int .i64 ((g:Int) - 1)/\g<=8/\Hid (u<18446744073709551616)/\oN w.heap.size 8 w (.returned (.slice A' 8 c')) wq)
  case atStart=>exact⟨v,rfl,rfl,by omega,HV.out,H8.out⟩
  obtain⟨u,rfl,rfl,hk,hu,A2,c2,l2,he,ho,hl,hb⟩:=hrel;cases he
  have HU:Hid (u<18446744073709551616):=hu;have HO:=ah ho;have HL2:=ah hl;have HB:=ah hb
  clear ho hl hb H8 hu;cases gk with
  |zero=>
   clear hk;go_wp2;go_ret;exact⟨_,_,_,rfl,HO.out,HL2.out,HB.out⟩
  |succ g=>
   have hg1:((g+1:Nat):Int) - 1=(g:Int):=by omega
   rw[hg1];have hgI:(g:Int)<8:=by omega
   have pg:(0:Int)<=(g:Int):=by omega
   have tg:((g:Int)).toNat=g:=by omega
   have zT:g<8:=by omega
   obtain⟨y,hy⟩:=alk u;have hy2:=(J8 y).2
   have hq:(u:Int).tdiv 256=((u / 256:Nat):Int):=(arx u 256).symm
   obtain⟨u2,hu2⟩:=aj (u / 256);rw[hu2]at hq
   have aP:=ah (show u2<18446744073709551616 by rw[<-hu2];exact aqI (aql _ _) HU.out)
   have ho:=HO.out;unfold OwnB at ho;rw[HL2.out]at ho
   obtain⟨b,rfl,hbl,hcell,hfr,hset⟩:=Ag (t:=g) ho (by omega)
   have hc0: ∃x,wr.cell? ⟨b,g,none⟩=some x:=⟨_,hcell.trans (dF (by simp[Lib.byteCells,HL2.out];omega))⟩
   obtain⟨x0,hx0⟩:=hc0;have hs9:=hset (.int .u8 (y.toNat:Int));rw[alj]at hs9
   have HN:=ah (show oN w.heap.size 8 w (.returned (.slice (some ⟨b,0,none⟩) 8 c')) (wr.setCell ⟨b,g,none⟩ (.int .u8 (y.toNat:Int))) from⟨_,_,_,rfl,by unfold OwnB;rw[aru,HL2.out];exact hs9,by rw[aru];exact HL2.out,HB.setCell (p:=⟨b,g,none⟩) hbl _⟩)
   have HK:=ah hk;clear ho hcell hset hs9 hk hu2 hbl zT hg1;go_wp2_with fail
   go_roundg g
   case measure=>omega
   exact⟨u2,by rw[IntWalk.u64_in _ (by have:=aP.out;omega)],rfl,by have:=HK.out;omega,aP.out,HN.out⟩
 |succ g=>
  have hkm:k<8:=by omega
  have Rf:(k:Int)<8:=by omega
  have HK:=ah hk;have hl2:l2.length<1073741824:=by rw[HL2.out];omega
  have hBr:w.heap.size<=wr.heap.size:=HB.size;clear hk hkm
  go_wp2_with (at_builtin;refine uV rfl (.tmp 18) (.tmp 19) rfl w.heap.size (.slice A' k c') l2 wr rfl HO.out [0] _ (by simp[Lib.byteCells]) 1 rfl rfl hl2 (by decide) hBr ?_)
  intro v8 w8 yH zT hb8;have yJ:(l2++[0]).length=k+1:=by rw[adf,HL2.out];rfl
  obtain⟨A8,c8,Es⟩:=yH.form;rw[yJ]at Es;subst Es
  have H8:=ah (show oN w.heap.size (k+1) w (.returned (.slice A8 (k+1) c8)) w8 from⟨A8,c8,_,rfl,yH,yJ,HB.trans hb8⟩)
  clear yH zT hb8 yJ hl2 hBr;go_wp2
  go_roundg g
  case measure=>omega
  exact⟨k+1,A8,c8,rfl,rfl,by have:=HK.out;omega,H8.out⟩
end Go.Proofs.YtkdakckjafomhaaGreatDoor
