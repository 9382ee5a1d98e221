/- Contracts and plain laws,part 43. -/
import Derived.Test.YtoofbflplhbpbaaGreatDoorBK42
set_option maxHeartbeats 64000000
set_option maxRecDepth 1000000
set_option linter.all false
namespace Go.Proofs.YtoofbflplhbpbaaGreatDoor
open Go.RowKit
def nmL (s:Nat) (n:Gr.N):List (List UInt8):=if s=1 then n.labels else []
def nmK (s:Nat) (ps:List Gr.P):List (List UInt8):=if s=3 then ps.map Gr.P.key else []
def nmT (s:Nat) (r:Gr.R):List (List UInt8):=if s=2 then [r.type] else []
def nmN (s:Nat) (n:Gr.N):List (List UInt8):=nmL s n ++ nmK s n.props
def nmR (s:Nat) (r:Gr.R):List (List UInt8):=nmT s r ++ nmK s r.props
def fQ (s:Nat) (g:Gr.G):List (List UInt8):=g.nodes.flatMap (nmN s) ++ g.ah.flatMap (nmR s)
theorem flatMap_nil {α β:Type} (l:List α):l.flatMap (fun _=>([]:List β))= []:=by induction l<;> simp_all
theorem nmAll1 (g:Gr.G):fQ 1 g=Gr.names1 g:=by
 have e1:nmN 1=Gr.N.labels:=by funext n;simp [nmN,nmL,nmK]
 have e2:nmR 1=fun _=> []:=by funext n;simp [nmR,nmT,nmK]
 rw [fQ,e1,e2,flatMap_nil,List.append_nil,Gr.names1]
theorem nmAll2 (g:Gr.G):fQ 2 g=Gr.names2 g:=by
 have e1:nmN 2=fun _=> []:=by funext n;simp [nmN,nmL,nmK]
 have e2:nmR 2=fun r=> [Gr.R.type r]:=by funext n;simp [nmR,nmT,nmK]
 rw [fQ,e1,e2,flatMap_nil,List.nil_append,Gr.names2]
 induction g.ah<;> simp_all
theorem nmAll3 (g:Gr.G):fQ 3 g=Gr.names3 g:=by
 have e1:nmN 3=fun n=>n.props.map Gr.P.key:=by funext n;simp [nmN,nmL,nmK]
 have e2:nmR 3=fun n=>n.props.map Gr.P.key:=by funext n;simp [nmR,nmT,nmK]
 rw [fQ,e1,e2,Gr.names3,Gr.bf,List.map_append,List.map_flatMap,List.map_flatMap]
theorem Fb {α β:Type} {l:List α} {f:α→List β} {k:Nat} {a:α} (h:l[k]?=some a):((l.take k).flatMap f).length+(f a).length≤(l.flatMap f).length:=by
 rw [qQ h]
 simp only [List.length_append]
 omega
structure NmS (w:World) (u v:Value) (l:List (List UInt8)) (A:Option Addr) (c m:Nat) (V:World):Prop where
 box:Blk V w.heap.size 39 #[u,v]
 len:l.length=m
 own:V.ownsRow (w.heap.size+1) 9 1 (.slice A m c) m (l.map ST)
 bel:Below w.heap.size w V
theorem NmS.below {w V V':World} {u v:Value} {l:List (List UInt8)} {A:Option Addr} {c m:Nat} (h:NmS w u v l A c m V) (hb:Below V.heap.size V V'):NmS w u v l A c m V':=
 ⟨h.box.below hb h.box.lt,h.len,aP h.own (bJ hb none) (fun g c t fz e=>by cases e),h.bel.trans (hb.mono h.bel.size)⟩
theorem NmS.put {w V V':World} {u v:Value} {l x:List (List UInt8)} {A A':Option Addr} {c m c':Nat} {n:Nat} (h:NmS w u v l A c m V) (hx:x.length=n) (ho:V'.ownsRow (w.heap.size+1) 9 1 (.slice A' (m+n) c') (m+n) (l.map ST ++ x.map ST)) (hg:V.grownBy V' (Value.slice A m c).ownBlock):NmS w u v (l ++ x) A' c' (m+n) V':=
 ⟨h.box.grown hg (fun e=>kW h.own h.box (by decide) e.symm),by rw [List.length_append,h.len,hx],by rw [List.map_append];exact ho,h.bel.grown hg h.bel.size (fun j e=>Nat.le_of_succ_le (World.ownsRow.lt h.own j e).1)⟩
theorem Fe {α β:Type} {l:List α} {f:α→List β} {k:Nat} {a:α} {x y:List β} (h:l[k]?=some a) (e:f a=x ++ y):(l.take (k+1)).flatMap f=(l.take k).flatMap f ++ x ++ y:=by
 rw [ou h,e,List.append_assoc]
theorem xg {s:Nat} {k:Nat} {b:Bool} (h:((s:Int) ==(k:Int))=b):(b=true→s=k)∧(b=false→ ¬s=k):=by
 subst h
 exact ⟨fun e=>by have:=beq_iff_eq.1 e;omega,fun e h=>by rw [h,beq_self_eq_true] at e;cases e⟩
theorem OO {W:World} {B e n c:Nat} {A:Option Addr} {xs:List Value} (h:W.ownsRow B e 1 (.slice A n c) n xs):n≤c:=by
 rcases h.2 with ⟨_,h0⟩ |⟨g,cap,cur,e,hg,hc,q1,q2,q3⟩
 ·omega
 ·cases e
  first | exact q1 | exact q2 | omega
theorem Fg {s j pn M:Nat} {b:Bool} (h1:b=true→M=pn) (h2:b=false→M=0) (hj:j=M):(b=true∧(pn:Int)≤j∧decide ((j:Int)<pn)=false)∨(b=false∧(j:Int)<pn∧decide ((j:Int)<pn)=true)∨(b=false∧(pn:Int)≤j∧decide ((j:Int)<pn)=false):=by
 cases b with
 | true=>exact .inl ⟨rfl,by have:=h1 rfl;omega,decide_eq_false (by have:=h1 rfl;omega)⟩
 | false=>
  by_cases h:(j:Int)<pn
  ·exact .inr (.inl ⟨rfl,h,decide_eq_true h⟩)
  ·exact .inr (.inr ⟨rfl,by omega,decide_eq_false h⟩)
theorem Fh {s j M:Nat} {ps:List Gr.P} (h1:s=3→M=ps.length) (hj:j=M):nmK s (ps.take j)=nmK s ps:=by
 unfold nmK
 split
 ·rename_i h
  rw [hj,h1 h,List.take_length]
 ·rfl
theorem Fj {s j:Nat} {ps:List Gr.P} {p:Gr.P} (h3:s=3) (hp:ps[j]?=some p):nmK s (ps.take (j+1))=nmK s (ps.take j) ++ [p.key]:=by
 unfold nmK
 rw [if_pos h3,if_pos h3,List.take_add_one,hp]
 simp
theorem Fp (s:Nat) (ps:List Gr.P):nmK s (ps.take 0)= []:=by
 unfold nmK
 split<;> rfl
theorem keys_le (s j:Nat) (ps:List Gr.P):(nmK s (ps.take j)).length≤(nmK s ps).length:=by
 unfold nmK
 split
 ·rw [List.length_map,List.length_map,List.length_take]
  omega
 ·exact Nat.le_refl _
theorem OQ:(Tryz.prog.info? 9).map (fun i=>(i.zero,i.size,i.bytes))=some (some (.string ⟨#[]⟩),1,16):=by kernel_rfl
theorem xq (s:Nat) (B:Nat) (u:Value) (g:Gr.G) (w:World) (h:GIn w B u g) (hB:B≤w.heap.size) (hlen:(fQ s g).length≤1073741800):
  Calls Tryz.prog 59 #[u, .int .i64 s] w fun e w'=> ∃A c,e= .returned (.slice A (Gr.dedup (fQ s g)).length c)∧Below w.heap.size w w':=by
 have hok:=h.ok
 obtain ⟨An,cn,Ar,cr,rfl,hN,hR⟩:=h.ex
 obtain ⟨i0,hi,hz0,hz1,hz2⟩:=info_parts OQ
 obtain ⟨nn,hnn⟩: ∃n,g.nodes.length=n:=⟨_,rfl⟩
 obtain ⟨rn,hrn⟩: ∃n,g.ah.length=n:=⟨_,rfl⟩
 obtain ⟨b1,hb1⟩: ∃b,((s:Int) == 1)=b:=⟨_,rfl⟩
 obtain ⟨b2,hb2⟩: ∃b,((s:Int) == 2)=b:=⟨_,rfl⟩
 obtain ⟨b3,hb3⟩: ∃b,((s:Int) == 3)=b:=⟨_,rfl⟩
 have HE1:=hq7 (xg hb1)
 have HE2:=hq7 (xg hb2)
 have HE3:=hq7 (xg hb3)
 have hnl:=hok.nl
 have hrl:=hok.rl
 rw [hnn] at hnl⊢
 rw [hrn] at hrl⊢
 have HN:=hq7 hN
 have HR:=hq7 hR
 have HOK:=hq7 hok
 have HNN:=hq7 hnn
 have HRN:=hq7 hrn
 have HLN:=hq7 hlen
 have HBB:=hq7 hB
 have HS0:=hq7 (show NmS w (.slice An nn cn) (.slice Ar rn cr) [] (some ⟨w.heap.size+1,0,none⟩) 0 0 ((w.alloc (.cells #[.slice An nn cn, .slice Ar rn cr] 39)).alloc (.cells #[] 9)) from
  ⟨(Blk.new w _ _).alloc _,rfl,by have:=gZ (w.alloc (.cells #[.slice An nn cn, .slice Ar rn cr] 39)) 9 1;simpa using this,((Below.refl _ w).alloc (Nat.le_refl _) _).alloc (by simp) _⟩)
 obtain ⟨W0,hW0⟩: ∃x,(w.alloc (.cells #[.slice An nn cn, .slice Ar rn cr] 39)).alloc (.cells #[] 9)=x:=⟨_,rfl⟩
 rw [hW0] at HS0
 have HW0:=hq7 hW0
 clear h hok hN hR hnn hrn hlen hB hW0
 go_enter Tryz.func59,Tryz.ntmps59
 go_upto_region 2 with fail
 rw [HW0.out]
 clear HW0
 obtain ⟨c0,c1⟩:=cells2 HS0.out.box
 go_wp2_with fail
 go_loopg [5,6] nn (fun q o x wr=> ∃(k:Nat) (A':Option Addr) (c' m:Nat),o= .slice A' m c'∧x= .int .i64 k∧k+q=nn∧NmS w (.slice An nn cn) (.slice Ar rn cr) ((g.nodes.take k).flatMap (nmN s)) A' c' m wr)
 case atStart=>exact ⟨0,_,_,_,rfl,rfl,by omega,HS0.out⟩
 case round=>
  obtain ⟨k,A',c',m,rfl,rfl,hk,hst⟩:=hrel
  have HST:=hq7 hst
  clear hst c0 c1 HS0
  obtain ⟨c0,c1⟩:=cells2 HST.out.box
  cases gk with
  | succ q=>
   have hkn:k<nn:=by omega
   have hknI:(k:Int)<nn:=by omega
   have pk:(0:Int)≤(k:Int):=by omega
   have tk:((k:Int)).toNat=k:=by omega
   obtain ⟨n,hn⟩: ∃n,g.nodes[k]?=some n:=⟨_,List.getElem?_eq_getElem (by rw [HNN.out];exact hkn)⟩
   have hBw:=HST.out.bel.mono HBB.out
   obtain ⟨b,oo,Al,cl,Ap,cp,rfl,hlt,⟨d0,d1,d2⟩,r1,rp⟩:=(HN.out.below hBw (bU.below hBw)).node hn
   have hnok:=HOK.out.ns n (List.mem_of_getElem? hn)
   obtain ⟨ln,hln⟩: ∃x,n.labels.length=x:=⟨_,rfl⟩
   obtain ⟨pn,hpn⟩: ∃x,n.props.length=x:=⟨_,rfl⟩
   have hpl:=hnok.pl
   rw [hln] at d1 r1
   rw [hpn] at d2 hpl
   obtain ⟨nb,hnb⟩: ∃x,wr.heap.size=x:=⟨_,rfl⟩
   obtain ⟨WN,hWN⟩: ∃W,wr.alloc (.cells #[.int .i64 n.id, .slice Al ln cl, .slice Ap pn cp] 59)=W:=⟨_,rfl⟩
   have hbN:Below wr.heap.size wr WN:=hWN▸(Below.refl _ wr).alloc (Nat.le_refl _) _
   have hkN:Blk WN nb 59 #[.int .i64 n.id, .slice Al ln cl, .slice Ap pn cp]:=by rw [←hWN,←hnb];exact Blk.new _ _ _
   have hsz:=HST.out.bel.size
   have hbB:Below B wr WN:=hbN.mono (Nat.le_trans HBB.out hsz)
   have HSN:=hq7 (HST.out.below hbN)
   have HKN:=hq7 hkN
   have HWN:=hq7 hWN
   have HNB:=hq7 hnb
   have HRD:=hq7 (r1.below hbB)
   have HRP:=hq7 (rp.below hbB (aB.below hbB))
   have HLL:=hq7 hln
   have HPN:=hq7 hpn
   have HBN:=hq7 (Nat.le_trans (Nat.le_trans HBB.out hsz) hbN.size)
   have HOKN:=hq7 hnok
   have HFP:=hq7 (Fb (f:=nmN s) hn)
   have HFA:=hq7 (Fe (f:=nmN s) (x:=nmL s n) (y:=nmK s n.props) hn rfl)
   have HTOT:=hq7 (show (g.nodes.flatMap (nmN s)).length≤1073741800 by have:=HLN.out;unfold fQ at this;rw [List.length_append] at this;omega)
   have HK:=hq7 hk
   clear hkn hn hBw hlt hnok hln hpn hnb hWN hbN hkN hsz hbB r1 rp hk
   go_upto_region 6 with fail
   rw [HWN.out,HNB.out]
   clear HWN HNB c0 c1 d0 d1 d2
   obtain ⟨L,hL⟩: ∃L,(g.nodes.take k).flatMap (nmN s)=L:=⟨_,rfl⟩
   have HLL2:=hq7 hL
   rw [hL] at HSN HFP HFA
   clear hL HST
   obtain ⟨d0,d1,d2⟩:=cells3 HKN.out
   have hml:m+((nmL s n).length+(nmK s n.props).length)≤1073741800:=by
    have h1:=HFP.out
    have h2:=HTOT.out
    have h3:=HSN.out.len
    rw [show nmN s n=nmL s n ++ nmK s n.props from rfl,List.length_append] at h1
    omega
   have HML:=hq7 hml
   clear hml
   go_upto_if 26 with fail
   go_cut [5] (fun o wx=> ∃(A2:Option Addr) (c2 m2:Nat),o= .slice A2 m2 c2∧NmS w (.slice (some ⟨b,oo,none⟩) nn cn) (.slice Ar rn cr) (L ++ nmL s n) A2 c2 m2 wx∧Below B WN wx∧Blk wx nb 59 #[.int .i64 n.id, .slice Al ln cl, .slice Ap pn cp])
   case first=>
    cases b1 with
    | false=>
     have he:nmL s n= []:=if_neg (HE1.out.2 rfl)
     have HF:=hq7 (show NmS w (.slice (some ⟨b,oo,none⟩) nn cn) (.slice Ar rn cr) (L ++ nmL s n) A' c' m WN by rw [he,List.append_nil];exact HSN.out)
     clear he
     refine wp_cond_false rfl ?_
     go_wp2
     go_meet
     exact ⟨A',c',m,rfl,HF.out,Below.refl _ _,HKN.out⟩
    | true=>
     have he:nmL s n=n.labels:=if_pos (HE1.out.1 rfl)
     have HMM:=hq7 (show m+ln≤maxLen∧(m+ln)*16≤140737488355328 by have:=HML.out;rw [he,HLL.out] at this;unfold maxLen;omega)
     have H1:=hq7 (E9 n.labels)
     have HE:=hq7 he
     clear he
     refine wp_cond_true rfl ?_
     go_wp2_with (at_builtin;refine jX WN rfl (.tmp 27) (.tmp 29) 23 rfl (w.heap.size+1) 9 i0 (.string ⟨#[]⟩) 1 16 Tryz.underlying23 hi hz0 hz1 hz2 rfl (by decide) (.slice A' m c') m (L.map ST) rfl HSN.out.own B Al ln cl (n.labels.map ST) rfl HRD.out H1.out HMM.out.1 HMM.out.2 (Nat.succ_le_of_lt HSN.out.box.lt) ?_)
     intro v9 w9 ho9 hg9 hw9
     obtain ⟨A9,c9,rfl⟩:=ak ho9
     have HF:=hq7 (HSN.out.put HLL.out ho9 hg9)
     have HB9:=hq7 (show Below B WN w9 from (Below.refl B WN).grown hg9 HBN.out (fun j e=>Nat.le_trans HBB.out (Nat.le_of_succ_le (World.ownsRow.lt HSN.out.own j e).1)))
     have HK9:=hq7 (HKN.out.grown hg9 (fun e=>kW HSN.out.own HKN.out (by decide) e.symm))
     clear ho9 hg9 hw9
     go_wp2
     go_meet
     exact ⟨A9,c9,m+ln,rfl,by rw [HE.out];exact HF.out,HB9.out,HK9.out⟩
   case rest=>
    obtain ⟨A2,c2,m2,rfl,h2,hb2,hk2⟩:=hcut
    have HS2:=hq7 h2
    have HB2:=hq7 hb2
    have HK2:=hq7 hk2
    obtain ⟨L2,hL2⟩: ∃l,(L ++ nmL s n)=l:=⟨_,rfl⟩
    rw [hL2] at HS2 HFA
    have HM2:=hq7 (show m2+(nmK s n.props).length≤1073741800 by
     have h1:=HS2.out.len
     have h2:=HML.out
     have h3:=HSN.out.len
     rw [←hL2,List.length_append] at h1
     omega)
    have HS2':=hq7 (show L2.length+(nmK s n.props).length≤1073741800 by have:=HM2.out;have:=HS2.out.len;omega)
    clear h2 hb2 hk2 hL2 d0 d1 d2
    obtain ⟨M,hM⟩: ∃M,(if s=3 then pn else 0)=M:=⟨_,rfl⟩
    have HMD:=hq7 hM
    have hMle:M≤1073741824:=by rw [←hM];split<;> omega
    have HMP:=hq7 (show b3=true→M=pn from fun e=>by rw [←hM,if_pos (HE3.out.1 e)])
    have HM0:=hq7 (show b3=false→M=0 from fun e=>by rw [←hM,if_neg (HE3.out.2 e)])
    clear hM
    go_wp2_with fail
    go_loopg [5,8] M (fun q o x wq=> ∃(j:Nat) (A3:Option Addr) (c3 m3:Nat),o= .slice A3 m3 c3∧x= .int .i64 j∧j+q=M∧NmS w (.slice (some ⟨b,oo,none⟩) nn cn) (.slice Ar rn cr) (L2 ++ nmK s (n.props.take j)) A3 c3 m3 wq∧Below B WN wq∧Blk wq nb 59 #[.int .i64 n.id, .slice Al ln cl, .slice Ap pn cp])
    case atStart=>exact ⟨0,A2,c2,m2,rfl,rfl,by omega,by rw [Fp,List.append_nil];exact HS2.out,HB2.out,HK2.out⟩
    case round=>
     obtain ⟨j,A3,c3,m3,rfl,rfl,hj,h3,hb3',hk3⟩:=hrel
     have HS3:=hq7 h3
     have HB3:=hq7 hb3'
     have HK3:=hq7 hk3
     have HJ:=hq7 hj
     clear h3 hb3' hk3 HS2 HB2 HK2
     obtain ⟨d0,d1,d2⟩:=cells3 HK3.out
     cases gk with
     | zero=>
      have hbb:=Fg (s:=s) HMP.out HM0.out hj
      have hkd:=Fh (s:=s) (ps:=n.props) (fun e=>by rw [HPN.out];exact HMP.out (by cases b3 with | true=>rfl | false=>exact absurd e (HE3.out.2 rfl))) hj
      have HF:=hq7 (show NmS w (.slice (some ⟨b,oo,none⟩) nn cn) (.slice Ar rn cr) ((g.nodes.take (k+1)).flatMap (nmN s)) A3 c3 m3 wr by rw [HFA.out,←hkd];exact HS3.out)
      obtain ⟨c0,c1⟩:=cells2 HF.out.box
      clear hj hkd
      rcases hbb with ⟨rfl,hjI,tj⟩ |⟨rfl,hjI,tj⟩ |⟨rfl,hjI,tj⟩
      all_goals
       go_wp2
       go_roundg q
       case measure=>omega
       case rel=>exact ⟨k+1,A3,c3,m3,rfl,int_eq (by omega),by have:=HK.out;omega,HF.out⟩
     | succ q2=>
      cases b3 with
      | false=>have:=HM0.out rfl;omega
      | true=>
       have hMp:=HMP.out rfl
       have hkn:j<pn:=by omega
       have hjI:(j:Int)<pn:=by omega
       have tj:decide ((j:Int)<pn)=true:=decide_eq_true hjI
       have pj:(0:Int)≤(j:Int):=by omega
       have tjn:((j:Int)).toNat=j:=by omega
       obtain ⟨p,hp⟩: ∃p,n.props[j]?=some p:=⟨_,List.getElem?_eq_getElem (by rw [HPN.out];exact hkn)⟩
       obtain ⟨b',o',An',cn',At',ct',rfl,hlt,⟨p0,-,-,-,-,-⟩,-,-⟩:=(HRP.out.below HB3.out (aB.below HB3.out)).prop hp
       simp only [ST] at p0
       obtain ⟨z,hz⟩: ∃z:ByteArray,(⟨p.key.toArray⟩:ByteArray)=z:=⟨_,rfl⟩
       rw [hz] at p0
       have hm3:m3<1073741824:=by
        have h1:=HS3.out.len
        have h2:=HM2.out
        have h3:=HS2'.out
        have h4:=keys_le s j n.props
        rw [List.length_append] at h1
        omega
       have HM3:=hq7 hm3
       obtain ⟨L3,hL3⟩: ∃l,L2 ++ nmK s (n.props.take j)=l:=⟨_,rfl⟩
       rw [hL3] at HS3
       have HL3:=hq7 hL3
       have HKM:=hq7 (Fj (HE3.out.1 rfl) hp)
       have HZ:=hq7 hz
       clear hMp hkn hp hlt hz hm3 hj hL3
       go_wp2_with (at_builtin;refine iD rfl (.tmp 42) (.tmp 49) 23 9 (.string ⟨#[]⟩) 16 Tryz.underlying23 kR rfl (by decide) rfl (w.heap.size+1) (.slice A3 m3 c3) m3 (L3.map ST) wr rfl HS3.out.own (.string z) rfl rfl HM3.out (Nat.succ_le_of_lt HS3.out.box.lt) ?_)
       intro v9 w9 ho9 hg9 hw9 hb9
       obtain ⟨A9,c9,rfl⟩:=ak ho9
       have HF:=hq7 (show NmS w (.slice (some ⟨b,oo,none⟩) nn cn) (.slice Ar rn cr) (L2 ++ nmK s (n.props.take (j+1))) A9 c9 (m3+1) w9 by
        rw [HKM.out,←List.append_assoc,HL3.out]
        exact HS3.out.put (x:= [p.key]) rfl (by rw [List.map_singleton,ST,HZ.out];exact ho9) hg9)
       have HB9:=hq7 (HB3.out.trans ((Below.refl B wr).grown hg9 (Nat.le_trans HBN.out HB3.out.size) (fun j e=>Nat.le_trans HBB.out (Nat.le_of_succ_le (World.ownsRow.lt HS3.out.own j e).1))))
       have HK9:=hq7 (HK3.out.grown hg9 (fun e=>kW HS3.out.own HK3.out (by decide) e.symm))
       clear ho9 hg9 hw9 hb9 p0 d0 d1 d2
       go_wp2
       go_roundg q2
       case measure=>omega
       case rel=>exact ⟨j+1,A9,c9,m3+1,rfl,int_eq (by omega),by have:=HJ.out;omega,HF.out,HB9.out,HK9.out⟩
  | zero=>
   obtain rfl:nn=k:=by omega
   have hf:g.nodes.take nn=g.nodes:=List.take_of_length_le (by rw [HNN.out];exact Nat.le_refl _)
   obtain ⟨LN,hL⟩: ∃L,g.nodes.flatMap (nmN s)=L:=⟨_,rfl⟩
   rw [hf,hL] at HST
   have HLG:=hq7 hL
   have HTOT:=hq7 (show LN.length+(g.ah.flatMap (nmR s)).length≤1073741800 by have:=HLN.out;unfold fQ at this;rw [List.length_append,hL] at this;exact this)
   clear hk hf hL
   go_wp2_with fail
   go_loopg [5,9] rn (fun q o x wr=> ∃(k:Nat) (A':Option Addr) (c' m:Nat),o= .slice A' m c'∧x= .int .i64 k∧k+q=rn∧NmS w (.slice An nn cn) (.slice Ar rn cr) (LN ++(g.ah.take k).flatMap (nmR s)) A' c' m wr)
   case atStart=>exact ⟨0,A',c',m,rfl,rfl,by omega,by simpa using HST.out⟩
   case round=>
    obtain ⟨k,A',c',m,rfl,rfl,hk,hst⟩:=hrel
    have HSR:=hq7 hst
    clear hst c0 c1
    obtain ⟨c0,c1⟩:=cells2 HSR.out.box
    cases gk with
    | succ q=>
     have hkn:k<rn:=by omega
     have hknI:(k:Int)<rn:=by omega
     have pk:(0:Int)≤(k:Int):=by omega
     have tk:((k:Int)).toNat=k:=by omega
     obtain ⟨n,hn⟩: ∃n,g.ah[k]?=some n:=⟨_,List.getElem?_eq_getElem (by rw [HRN.out];exact hkn)⟩
     have hBw:=HSR.out.bel.mono HBB.out
     obtain ⟨b,oo,Ap,cp,rfl,hlt,⟨d0,d1,d2,d3,d4⟩,rp⟩:=(HR.out.below hBw (bV.below hBw)).rel hn
     have hnok:=HOK.out.rs n (List.mem_of_getElem? hn)
     simp only [ST] at d1
     obtain ⟨zt,hzt⟩: ∃z:ByteArray,(⟨n.type.toArray⟩:ByteArray)=z:=⟨_,rfl⟩
     obtain ⟨pn,hpn⟩: ∃x,n.props.length=x:=⟨_,rfl⟩
     have hpl:=hnok.pl
     rw [hzt] at d1
     rw [hpn] at d4 hpl
     obtain ⟨nb,hnb⟩: ∃x,wr.heap.size=x:=⟨_,rfl⟩
     obtain ⟨WN,hWN⟩: ∃W,wr.alloc (.cells #[.int .i64 n.id, .string zt, .int .i64 n.src, .int .i64 n.dst, .slice Ap pn cp] 63)=W:=⟨_,rfl⟩
     have hbN:Below wr.heap.size wr WN:=hWN▸(Below.refl _ wr).alloc (Nat.le_refl _) _
     have hkN:Blk WN nb 63 #[.int .i64 n.id, .string zt, .int .i64 n.src, .int .i64 n.dst, .slice Ap pn cp]:=by rw [←hWN,←hnb];exact Blk.new _ _ _
     have hsz:=HSR.out.bel.size
     have hbB:Below B wr WN:=hbN.mono (Nat.le_trans HBB.out hsz)
     have HSN:=hq7 (HSR.out.below hbN)
     have HKN:=hq7 hkN
     have HWN:=hq7 hWN
     have HNB:=hq7 hnb
     have HRP:=hq7 (rp.below hbB (aB.below hbB))
     have HLL:=hq7 hzt
     have HPN:=hq7 hpn
     have HBN:=hq7 (Nat.le_trans (Nat.le_trans HBB.out hsz) hbN.size)
     have HOKN:=hq7 hnok
     have HFP:=hq7 (Fb (f:=nmR s) hn)
     have HFA:=hq7 (Fe (f:=nmR s) (x:=nmT s n) (y:=nmK s n.props) hn rfl)
     have HK:=hq7 hk
     clear hkn hn hBw hlt hnok hzt hpn hnb hWN hbN hkN hsz hbB rp hk
     go_upto_region 16 with fail
     rw [HWN.out,HNB.out]
     clear HWN HNB c0 c1 d0 d1 d2 d3 d4
     obtain ⟨LR,hLR⟩: ∃l,(g.ah.take k).flatMap (nmR s)=l:=⟨_,rfl⟩
     rw [hLR] at HSN HFP HFA
     obtain ⟨L,hL⟩: ∃l,LN ++ LR=l:=⟨_,rfl⟩
     rw [hL] at HSN
     have HLq:=hq7 hL
     have HFA:=hq7 (show LN ++(g.ah.take (k+1)).flatMap (nmR s)=L ++ nmT s n ++ nmK s n.props by rw [HFA.out,←hL,←List.append_assoc,←List.append_assoc])
     clear hL hLR HSR
     obtain ⟨d0,d1,d2,d3,d4⟩:=cells5 HKN.out
     have hml:m+((nmT s n).length+(nmK s n.props).length)≤1073741800:=by
      have h1:=HFP.out
      have h2:=HTOT.out
      have h3:=HSN.out.len
      rw [←HLq.out,List.length_append] at h3
      rw [show nmR s n=nmT s n ++ nmK s n.props from rfl,List.length_append] at h1
      omega
     have HML:=hq7 hml
     clear hml
     go_upto_if 64 with fail
     go_cut [5] (fun o wx=> ∃(A2:Option Addr) (c2 m2:Nat),o= .slice A2 m2 c2∧NmS w (.slice An nn cn) (.slice (some ⟨b,oo,none⟩) rn cr) (L ++ nmT s n) A2 c2 m2 wx∧Below B WN wx∧Blk wx nb 63 #[.int .i64 n.id, .string zt, .int .i64 n.src, .int .i64 n.dst, .slice Ap pn cp])
     case first=>
      cases b2 with
      | false=>
       have he:nmT s n= []:=if_neg (HE2.out.2 rfl)
       have HF:=hq7 (show NmS w (.slice An nn cn) (.slice (some ⟨b,oo,none⟩) rn cr) (L ++ nmT s n) A' c' m WN by rw [he,List.append_nil];exact HSN.out)
       clear he
       refine wp_cond_false rfl ?_
       go_wp2
       go_meet
       exact ⟨A',c',m,rfl,HF.out,Below.refl _ _,HKN.out⟩
      | true=>
       have he:nmT s n= [n.type]:=if_pos (HE2.out.1 rfl)
       have HMM:=hq7 (show m<1073741824 by have:=HML.out;omega)
       have HE:=hq7 he
       clear he
       refine wp_cond_true rfl ?_
       go_wp2_with (at_builtin;refine iD rfl (.tmp 65) (.tmp 68) 23 9 (.string ⟨#[]⟩) 16 Tryz.underlying23 kR rfl (by decide) rfl (w.heap.size+1) (.slice A' m c') m (L.map ST) WN rfl HSN.out.own (.string zt) rfl rfl HMM.out (Nat.succ_le_of_lt HSN.out.box.lt) ?_)
       intro v9 w9 ho9 hg9 hw9 hb9
       obtain ⟨A9,c9,rfl⟩:=ak ho9
       have HF:=hq7 (show NmS w (.slice An nn cn) (.slice (some ⟨b,oo,none⟩) rn cr) (L ++ nmT s n) A9 c9 (m+1) w9 by
        rw [HE.out]
        exact HSN.out.put (x:= [n.type]) rfl (by rw [List.map_singleton,ST,HLL.out];exact ho9) hg9)
       have HB9:=hq7 (show Below B WN w9 from (Below.refl B WN).grown hg9 HBN.out (fun j e=>Nat.le_trans HBB.out (Nat.le_of_succ_le (World.ownsRow.lt HSN.out.own j e).1)))
       have HK9:=hq7 (HKN.out.grown hg9 (fun e=>kW HSN.out.own HKN.out (by decide) e.symm))
       clear ho9 hg9 hw9 hb9
       go_wp2
       go_meet
       exact ⟨A9,c9,m+1,rfl,HF.out,HB9.out,HK9.out⟩
     case rest=>
      obtain ⟨A2,c2,m2,rfl,h2,hb2,hk2⟩:=hcut
      have HS2:=hq7 h2
      have HB2:=hq7 hb2
      have HK2:=hq7 hk2
      obtain ⟨L2,hL2⟩: ∃l,(L ++ nmT s n)=l:=⟨_,rfl⟩
      rw [hL2] at HS2 HFA
      have HM2:=hq7 (show m2+(nmK s n.props).length≤1073741800 by
       have h1:=HS2.out.len
       have h2:=HML.out
       have h3:=HSN.out.len
       rw [←hL2,List.length_append] at h1
       omega)
      have HS2':=hq7 (show L2.length+(nmK s n.props).length≤1073741800 by have:=HM2.out;have:=HS2.out.len;omega)
      clear h2 hb2 hk2 hL2 d0 d1 d2 d3 d4
      obtain ⟨M,hM⟩: ∃M,(if s=3 then pn else 0)=M:=⟨_,rfl⟩
      have HMD:=hq7 hM
      have hMle:M≤1073741824:=by rw [←hM];split<;> omega
      have HMP:=hq7 (show b3=true→M=pn from fun e=>by rw [←hM,if_pos (HE3.out.1 e)])
      have HM0:=hq7 (show b3=false→M=0 from fun e=>by rw [←hM,if_neg (HE3.out.2 e)])
      clear hM
      go_wp2_with fail
      go_loopg [5,11] M (fun q o x wq=> ∃(j:Nat) (A3:Option Addr) (c3 m3:Nat),o= .slice A3 m3 c3∧x= .int .i64 j∧j+q=M∧NmS w (.slice An nn cn) (.slice (some ⟨b,oo,none⟩) rn cr) (L2 ++ nmK s (n.props.take j)) A3 c3 m3 wq∧Below B WN wq∧Blk wq nb 63 #[.int .i64 n.id, .string zt, .int .i64 n.src, .int .i64 n.dst, .slice Ap pn cp])
      case atStart=>exact ⟨0,A2,c2,m2,rfl,rfl,by omega,by rw [Fp,List.append_nil];exact HS2.out,HB2.out,HK2.out⟩
      case round=>
       obtain ⟨j,A3,c3,m3,rfl,rfl,hj,h3,hb3',hk3⟩:=hrel
       have HS3:=hq7 h3
       have HB3:=hq7 hb3'
       have HK3:=hq7 hk3
       have HJ:=hq7 hj
       clear h3 hb3' hk3 HS2 HB2 HK2
       obtain ⟨d0,d1,d2,d3,d4⟩:=cells5 HK3.out
       cases gk with
       | zero=>
        have hbb:=Fg (s:=s) HMP.out HM0.out hj
        have hkd:=Fh (s:=s) (ps:=n.props) (fun e=>by rw [HPN.out];exact HMP.out (by cases b3 with | true=>rfl | false=>exact absurd e (HE3.out.2 rfl))) hj
        have HF:=hq7 (show NmS w (.slice An nn cn) (.slice (some ⟨b,oo,none⟩) rn cr) (LN ++(g.ah.take (k+1)).flatMap (nmR s)) A3 c3 m3 wr by rw [HFA.out,←hkd];exact HS3.out)
        obtain ⟨c0,c1⟩:=cells2 HF.out.box
        clear hj hkd
        rcases hbb with ⟨rfl,hjI,tj⟩ |⟨rfl,hjI,tj⟩ |⟨rfl,hjI,tj⟩
        all_goals
         go_wp2
         go_roundg q
         case measure=>omega
         case rel=>exact ⟨k+1,A3,c3,m3,rfl,int_eq (by omega),by have:=HK.out;omega,HF.out⟩
       | succ q2=>
        cases b3 with
        | false=>have:=HM0.out rfl;omega
        | true=>
         have hMp:=HMP.out rfl
         have hkn:j<pn:=by omega
         have hjI:(j:Int)<pn:=by omega
         have tj:decide ((j:Int)<pn)=true:=decide_eq_true hjI
         have pj:(0:Int)≤(j:Int):=by omega
         have tjn:((j:Int)).toNat=j:=by omega
         obtain ⟨p,hp⟩: ∃p,n.props[j]?=some p:=⟨_,List.getElem?_eq_getElem (by rw [HPN.out];exact hkn)⟩
         obtain ⟨b',o',An',cn',At',ct',rfl,hlt,⟨p0,-,-,-,-,-⟩,-,-⟩:=(HRP.out.below HB3.out (aB.below HB3.out)).prop hp
         simp only [ST] at p0
         obtain ⟨z,hz⟩: ∃z:ByteArray,(⟨p.key.toArray⟩:ByteArray)=z:=⟨_,rfl⟩
         rw [hz] at p0
         have hm3:m3<1073741824:=by
          have h1:=HS3.out.len
          have h2:=HM2.out
          have h3:=HS2'.out
          have h4:=keys_le s j n.props
          rw [List.length_append] at h1
          omega
         have HM3:=hq7 hm3
         obtain ⟨L3,hL3⟩: ∃l,L2 ++ nmK s (n.props.take j)=l:=⟨_,rfl⟩
         rw [hL3] at HS3
         have HL3:=hq7 hL3
         have HKM:=hq7 (Fj (HE3.out.1 rfl) hp)
         have HZ:=hq7 hz
         clear hMp hkn hp hlt hz hm3 hj hL3
         go_wp2_with (at_builtin;refine iD rfl (.tmp 81) (.tmp 88) 23 9 (.string ⟨#[]⟩) 16 Tryz.underlying23 kR rfl (by decide) rfl (w.heap.size+1) (.slice A3 m3 c3) m3 (L3.map ST) wr rfl HS3.out.own (.string z) rfl rfl HM3.out (Nat.succ_le_of_lt HS3.out.box.lt) ?_)
         intro v9 w9 ho9 hg9 hw9 hb9
         obtain ⟨A9,c9,rfl⟩:=ak ho9
         have HF:=hq7 (show NmS w (.slice An nn cn) (.slice (some ⟨b,oo,none⟩) rn cr) (L2 ++ nmK s (n.props.take (j+1))) A9 c9 (m3+1) w9 by
          rw [HKM.out,←List.append_assoc,HL3.out]
          exact HS3.out.put (x:= [p.key]) rfl (by rw [List.map_singleton,ST,HZ.out];exact ho9) hg9)
         have HB9:=hq7 (HB3.out.trans ((Below.refl B wr).grown hg9 (Nat.le_trans HBN.out HB3.out.size) (fun j e=>Nat.le_trans HBB.out (Nat.le_of_succ_le (World.ownsRow.lt HS3.out.own j e).1))))
         have HK9:=hq7 (HK3.out.grown hg9 (fun e=>kW HS3.out.own HK3.out (by decide) e.symm))
         clear ho9 hg9 hw9 hb9 p0 d0 d1 d2 d3 d4
         go_wp2
         go_roundg q2
         case measure=>omega
         case rel=>exact ⟨j+1,A9,c9,m3+1,rfl,int_eq (by omega),by have:=HJ.out;omega,HF.out,HB9.out,HK9.out⟩
    | zero=>
     obtain rfl:rn=k:=by omega
     have hf:g.ah.take rn=g.ah:=List.take_of_length_le (by rw [HRN.out];exact Nat.le_refl _)
     rw [hf,←HLG.out] at HSR
     have hst:NmS w (.slice An nn cn) (.slice Ar rn cr) (fQ s g) A' c' m wr:=HSR.out
     obtain ⟨AL,hAL⟩: ∃l,fQ s g=l:=⟨_,rfl⟩
     rw [hAL] at hst HLN
     have HAL:=hq7 hAL
     have hcall:=OM m wr.heap.size A' c' m AL wr (Nat.le_refl _) (Reads.dL hst.own) hst.len (Nat.le_refl _) (OO hst.own) (hst.len▸HLN.out)
     have HCL:=hq7 hcall
     have HST2:=hq7 hst
     clear hk hf hst hcall hAL HSR
     go_wp2_with fail
     refine HCL.out.mono ?_
     rintro e w9 ⟨A9,c9,m9,out,rfl,hl9,-,hs9,hb9⟩
     have HM9:=hq7 (show m9=(Gr.dedup AL).length by rw [←hl9];exact hs9.length)
     have HB9:=hq7 (HST2.out.bel.trans (hb9.mono HST2.out.bel.size))
     clear hl9 hs9 hb9
     go_wp2
     go_ret
     exact ⟨A9,c9,by rw [HM9.out,HAL.out];rfl,HB9.out⟩
def mG (n:Gr.N):Nat:=if Gr.iF n.labels≠0 then Gr.iF n.labels else Gr.aQ n.props
theorem OT (B:Nat) (p:Gr.N) (Al Ap:Option Addr) (cl cp:Nat) (w:World) (ra:Reads w B 1 Al p.labels.length (p.labels.map ST)) (rp:Lst w B 6 (aB w B) Ap p.props) (hB:B≤w.heap.size) (hok:NOk p):
  Calls Tryz.prog 56 #[.agg #[.int .i64 p.id, .slice Al p.labels.length cl, .slice Ap p.props.length cp]] w fun e w'=>e= .returned (.int .i64 (mG p:Nat))∧Below w.heap.size w w':=by
 obtain ⟨R,hR⟩: ∃R,mG p=R:=⟨_,rfl⟩
 rw [hR]
 unfold mG at hR
 obtain ⟨n,hn⟩: ∃n,p.labels.length=n:=⟨_,rfl⟩
 obtain ⟨pn,hpn⟩: ∃n,p.props.length=n:=⟨_,rfl⟩
 have hl:n≤1073741824:=hn▸hok.ll
 have hLW:Gr.iF p.labels=if 8<n then 63 else (Gr.first Gr.labelWrong id none p.labels 0).1:=by unfold Gr.iF;rw [hn]
 have hCP:=fun (X:World) (hb:Below w.heap.size w X)=>EY B Ap cp p.props X (rp.below (hb.mono hB) (aB.below (hb.mono hB))) (Nat.le_trans hB hb.size) hok.pl hok.ps
 rw [hn] at ra⊢
 rw [hpn] at hCP⊢
 have HH:=hq7 ra
 have HS:=hq7 hok.ls
 have HN:=hq7 hn
 have HU:=hq7 iC
 have HCP:=hq7 hCP
 have HLW:=hq7 hLW
 have HR0:=hq7 hR
 have HBB:=hq7 hB
 have hb0:Below w.heap.size w (w.alloc (.cells #[.int .i64 p.id, .slice Al n cl, .slice Ap pn cp] 59)):=(Below.refl _ w).alloc (Nat.le_refl _) _
 have HB0:=hq7 hb0
 have hk0:=Blk.new w 59 #[.int .i64 p.id, .slice Al n cl, .slice Ap pn cp]
 have HK0:=hq7 hk0
 clear ra rp hok hn hpn hCP hLW hR hB hb0 hk0
 by_cases h8:8<n
 ·have hr:R=63:=by rw [←HR0.out,HLW.out,if_pos h8];rfl
  have h8i:(8:Int)<n:=by omega
  have t8:decide ((8:Int)<n)=true:=decide_eq_true h8i
  have HRR:=hq7 hr
  clear hr h8
  go_enter Tryz.func56,Tryz.ntmps56
  go_wp2
  go_ret
  exact ⟨by rw [HRR.out];rfl,HB0.out⟩
 obtain ⟨RL,hRL⟩: ∃x,(Gr.first Gr.labelWrong id none p.labels 0).1=x:=⟨_,rfl⟩
 have HR:=hq7 hRL
 have HE:=hq7 (show R=if RL≠0 then RL else Gr.aQ p.props by rw [←HR0.out,HLW.out,if_neg h8,hRL])
 have h8i:(n:Int)≤8:=by omega
 have t8:decide ((8:Int)<n)=false:=decide_eq_false (by omega)
 clear h8 hRL
 go_enter Tryz.func56,Tryz.ntmps56
 go_wp2_with fail
 go_loopg [3] n (fun g x wr=> ∃k:Nat,x= .int .i64 k∧k+g=n∧Below w.heap.size w wr∧Blk wr w.heap.size 59 #[.int .i64 p.id, .slice Al n cl, .slice Ap pn cp]∧Hid (∀j a,j<k→p.labels[j]?=some a→Gr.labelWrong (Gr.aj id p.labels j) a=0))
 case atStart=>exact ⟨0,rfl,by omega,HB0.out,HK0.out,fun j a h=>by omega⟩
 case round=>
  obtain ⟨k,rfl,hk,hb,hbk,hz⟩:=hrel
  have HK:=hq7 hk
  have HZ:Hid (∀j a,j<k→p.labels[j]?=some a→Gr.labelWrong (Gr.aj id p.labels j) a=0):=hz
  have HB:=hq7 hb
  have HBK:=hq7 hbk
  obtain ⟨a0,a1,a2⟩:=cells3 hbk
  clear hz hb hbk HB0 HK0
  cases gk with
  | zero=>
   obtain rfl:k=n:=by omega
   have hr:=qG HN.out HR.out HZ.out
   have hr2:R=Gr.aQ p.props:=by rw [HE.out,hr,if_neg (by simp)]
   have HRR:=hq7 hr2
   clear hk hr hr2
   go_wp2_with fail
   refine (HCP.out _ HB.out).mono ?_
   rintro e w4 ⟨rfl,hb4⟩
   have HB4:=hq7 (HB.out.trans (hb4.mono HB.out.size))
   clear hb4
   go_wp2
   go_ret
   exact ⟨by rw [HRR.out];rfl,HB4.out⟩
  | succ g=>
   have hkn:k<n:=by omega
   have hknI:(k:Int)<n:=by omega
   have pk:(0:Int)≤(k:Int):=by omega
   have tk:((k:Int)).toNat=k:=by omega
   have HHR:=hq7 (HH.out.below (HB.out.mono HBB.out))
   obtain ⟨a,o,x,rfl,hlt,hx,hp⟩:=HHR.out.cell hkn
   rw [List.getElem?_map] at hx
   obtain ⟨y,hy,rfl⟩:=Option.map_eq_some_iff.1 hx
   unfold ST at hp
   obtain ⟨z,hz⟩: ∃z:ByteArray,(⟨y.toArray⟩:ByteArray)=z:=⟨_,rfl⟩
   rw [hz] at hp
   have hzd:z.data.toList=y:=by rw [←hz]
   have hzl:z.size≤1073741824:=by rw [Lib.size_eq,hzd];exact HS.out y (List.mem_of_getElem? hy)
   have hcall:=wY z wr hzl
   rw [hzd] at hcall
   have HY:=hq7 hy
   have HZD:=hq7 hzd
   obtain ⟨GN,hg⟩: ∃b,Gr.aI y=b:=⟨_,rfl⟩
   rw [hg] at hcall
   have HC:=hq7 hcall
   have HGN:=hq7 hg
   have HHP0:Hid (∀(X:World) (m:Nat) (q:List UInt8),Below wr.heap.size wr X→m<n→p.labels[m]?=some q→X.cell? ⟨a,o+m,none⟩=some (ST q)):=fun X m q hb hm hq=>by
    obtain ⟨p',o',x',he,hl',hx',hp'⟩:=HHR.out.cell (k:=m) hm
    injection he with he
    injection he with he1 he2
    subst he1
    subst he2
    rw [List.getElem?_map,hq] at hx'
    cases hx'
    exact ((hb.mono (Nat.le_trans HBB.out HB.out.size)).cell (by exact hl')).trans hp'
   clear hx hk hy hz hzd hzl hcall hg hlt
   go_wp2_with fail
   refine HC.out.mono ?_
   rintro e w1 ⟨rfl,hb1⟩
   have HB1:=hq7 (HB.out.trans (hb1.mono HB.out.size))
   have hbk1:=HBK.out.below hb1 HBK.out.lt
   have HBK1:=hq7 hbk1
   have HHP:Hid (∀(m:Nat) (q:List UInt8),m<n→p.labels[m]?=some q→w1.cell? ⟨a,o+m,none⟩=some (ST q)):=fun m q hm hq=>HHP0.out w1 m q hb1 hm hq
   clear a0 a1 a2 hp
   obtain ⟨a0,a1,a2⟩:=cells3 hbk1
   have hp:w1.cell? ⟨a,o+k,none⟩=some (.string z):=by have:=HHP.out k y hkn HY.out;rw [this,←HZD.out];rfl
   clear hbk1 hb1 HHP0 HBK HHR
   cases GN with
   | false=>
    have hr:=kH HR.out HY.out HZ.out (e:=60) (by unfold Gr.labelWrong;rw [HGN.out,if_pos rfl]) (by decide)
    have hr2:R=60:=by rw [HE.out,hr,if_pos (by decide)]
    have HRR:=hq7 hr2
    clear hr hr2
    go_wp2
    go_ret
    exact ⟨by rw [HRR.out];rfl,HB1.out⟩
   | true=>
    by_cases h0:k=0
    ·subst h0
     rw [Nat.add_zero] at hp
     have hmore:=jv HY.out HZ.out (by unfold Gr.labelWrong;rw [HGN.out,if_neg (by decide)];rfl)
     have HM:=hq7 hmore
     clear hkn hmore
     go_upto_region 8 with fail
     go_quiet (fail)
     go_wp2_with fail
     go_roundg g
     case measure=>omega
     case rel=>exact ⟨1,rfl,by have:=HK.out;omega,by first | exact HB1.out | exact below_drewN HB1.out _,HBK1.out,HM.out⟩
    ·obtain ⟨m,rfl⟩: ∃m,k=m+1:=⟨k - 1,by omega⟩
     obtain ⟨q,hq⟩: ∃q,p.labels[m]?=some q:=⟨_,List.getElem?_eq_getElem (by rw [HN.out];omega)⟩
     have hp':=HHP.out m q (by omega) hq
     unfold ST at hp'
     obtain ⟨zq,hzq⟩: ∃z:ByteArray,(⟨q.toArray⟩:ByteArray)=z:=⟨_,rfl⟩
     have hzqd:zq.toList=q:=by rw [←hzq,jr]
     rw [hzq] at hp'
     obtain ⟨b1,hb1⟩: ∃b,Op.bytesLess z.toList zq.toList=b:=⟨_,rfl⟩
     obtain ⟨b2,hb2⟩: ∃b,(z.toList == zq.toList)=b:=⟨_,rfl⟩
     have hb:decide (y≤q)=(b1 || b2):=by rw [←hb1,←hb2,nY,hzqd,Lib.toList_data,HZD.out]
     have hmI:(1:Int)≤((m+1:Nat):Int):=by omega
     have hm0:decide ((0:Int)<((m+1:Nat):Int))=true:=decide_eq_true (by omega)
     have hm1:(m:Int)<n:=by omega
     have hsub:((m+1:Nat):Int) - 1=(m:Int):=by omega
     have hlw:Gr.labelWrong (Gr.aj id p.labels (m+1)) y=if (b1 || b2)=true then 6 else 0:=by
      have hpv:Gr.aj id p.labels (m+1)=some q:=by show p.labels[m]?.map id=_;rw [hq];rfl
      unfold Gr.labelWrong
      rw [HGN.out,hpv,if_neg (by decide),←hb]
      rfl
     have HLW2:=hq7 hlw
     have HSTOP:=hq7 (show (b1 || b2)=true→R=6 from fun h=>by
      have:=kH HR.out HY.out HZ.out (e:=6) (by rw [HLW2.out,h];rfl) (by decide)
      rw [HE.out,this,if_pos (by decide)])
     clear hq hkn hlw hb h0 hzq hzqd
     cases b1 with
     | true=>
      have hr:=HSTOP.out rfl
      have HRR:=hq7 hr
      clear hr
      go_upto_region 8 with fail
      go_quiet (fail)
      go_wp2
      go_ret
      exact ⟨by rw [HRR.out];rfl,by first | exact HB1.out | exact below_drewN HB1.out _⟩
     | false=>
      cases b2 with
      | true=>
       have hr:=HSTOP.out rfl
       have HRR:=hq7 hr
       clear hr
       go_upto_region 8 with fail
       go_quiet (fail)
       go_wp2
       go_ret
       exact ⟨by rw [HRR.out];rfl,by first | exact HB1.out | exact below_drewN HB1.out _⟩
      | false=>
       have hmore:=jv HY.out HZ.out (by rw [HLW2.out];rfl)
       have HM:=hq7 hmore
       clear hmore
       go_upto_region 8 with fail
       go_quiet (fail)
       go_wp2_with fail
       go_roundg g
       case measure=>omega
       case rel=>exact ⟨m+1+1,int_eq (by omega),by have:=HK.out;omega,by first | exact HB1.out | exact below_drewN HB1.out _,HBK1.out,HM.out⟩
def fD (B n:Nat) (w:World) (e:Ending) (w':World):Prop:= ∃(A':Option Addr) (c':Nat) (l':List UInt8),e= .returned (.slice A' n c')∧OwnB B (.slice A' n c') l' w'∧l'.length=n∧Below B w w'
theorem OU (m:Nat) (hm:m≤65535): ∃y1 y2:UInt8,(m:Int).tdiv 256=(y1.toNat:Int)∧(m:Int).tmod 256=(y2.toNat:Int):=by
 refine ⟨UInt8.ofNat (m / 256),UInt8.ofNat (m % 256), ?_, ?_⟩
 ·rw [UInt8.toNat_ofNat_of_lt' (show m / 256<UInt8.size from Nat.div_lt_of_lt_mul (Nat.lt_succ_of_le hm))]
  exact (Int.ofNat_tdiv m 256).symm
 ·rw [UInt8.toNat_ofNat_of_lt' (show m % 256<UInt8.size from Nat.mod_lt _ (by decide))]
  exact (Int.ofNat_tmod m 256).symm
theorem oH (y:UInt8):wrap64 (y.toNat:Int)=y.toNat∧(y.toNat:Int) % 256=y.toNat:=by
 have h:y.toNat<256:=y.toNat_lt
 exact ⟨IntWalk.wrap64_in _ (by omega),by omega⟩
theorem Fq (B:Nat) (A:Option Addr) (c n m:Nat) (s:ByteArray) (l:List UInt8) (w:World) (h:OwnB B (.slice A n c) l w) (h1:l.length=n) (hn:n≤536870912) (hs:s.size=m) (hm:m≤65535) (hB:B≤w.heap.size):
  Calls Tryz.prog 226 #[.slice A n c, .string s] w (fD B (n+2+m) w):=by
 have H:=hq7 h
 have HL:=hq7 h1
 have hmI:(m:Int)≤65535:=by omega
 have HS:=hq7 hs
 obtain ⟨y1,y2,hq1,hq2⟩:=OU m hm
 obtain ⟨hw0,hw1⟩:=oH y1
 have hln:l.length<1073741824:=by clear hq1 hq2 hw0 hw1;omega
 have HLR:=hq7 (show∀k,k≤m→n+2+k<1073741824 from fun k hk=>by clear hq1 hq2 hw0 hw1;omega)
 clear h h1
 go_enter Tryz.func226,Tryz.ntmps226
 go_wp2_with (at_builtin;refine nH rfl (.tmp 6) (.tmp 15) rfl B (.slice A n c) l w rfl H.out [y1,y2] _ (by simp [Lib.byteCells,(oH y2).2]) 2 rfl rfl hln (by decide) hB ?_)
 intro v9 w9 ho9 hg9 hb9
 have hl9:(l ++ [y1,y2]).length=n+2:=by rw [List.length_append,HL.out];rfl
 obtain ⟨A9,c9,hv9⟩:=ho9.form
 rw [hl9] at hv9
 subst hv9
 have H0:=hq7 (show fD B (n+2+0) w (.returned (.slice A9 (n+2) c9)) w9 from ⟨A9,c9,_,rfl,ho9,hl9,hb9⟩)
 clear ho9 hg9 hb9 hl9 hln hq1 hq2 hw0 hw1
 go_wp2_with fail
 go_loopg [0,5] m (fun g v x wr=> ∃(k:Nat) (A':Option Addr) (c':Nat),v= .slice A' (n+2+k) c'∧x= .int .i64 k∧k+g=m∧fD B (n+2+k) w (.returned (.slice A' (n+2+k) c')) wr)
 case atStart=>exact ⟨0,A9,c9,rfl,rfl,by omega,H0.out⟩
 case round=>
  obtain ⟨k,A',c',rfl,rfl,hk,A2,c2,l2,he,ho,hl,hb⟩:=hrel
  cases he
  have HO:=hq7 ho
  have HL2:=hq7 hl
  have HB:=hq7 hb
  clear ho hl hb H0
  cases gk with
  | zero=>
   obtain rfl:k=m:=by omega
   clear hk
   go_wp2
   go_ret
   exact ⟨_,_,_,rfl,HO.out,HL2.out,HB.out⟩
  | succ g=>
   have hkm:k<m:=by omega
   have hkmI:(k:Int)<m:=by omega
   have pk:(0:Int)≤(k:Int):=by omega
   have tk:((k:Int)).toNat=k:=by omega
   have hks:k<s.size:=by rw [HS.out];exact hkm
   obtain ⟨y,hy⟩: ∃y,s[k]'hks=y:=⟨_,rfl⟩
   have HK:=hq7 hk
   have hl2:l2.length<1073741824:=by rw [HL2.out];exact HLR.out k (by omega)
   have hBr:B≤wr.heap.size:=Nat.le_trans hB HB.out.size
   clear hk hkm
   go_wp2_with (at_builtin;refine nH rfl (.tmp 23) (.tmp 27) rfl B (.slice A' (n+2+k) c') l2 wr rfl HO.out [y] _ (by simp [Lib.byteCells]) 1 rfl rfl hl2 (by decide) hBr ?_)
   intro v8 w8 ho8 hg8 hb8
   have hl8:(l2 ++ [y]).length=n+2+(k+1):=by rw [List.length_append,HL2.out];rfl
   obtain ⟨A8,c8,hv8⟩:=ho8.form
   rw [hl8] at hv8
   subst hv8
   have H8:=hq7 (show fD B (n+2+(k+1)) w (.returned (.slice A8 (n+2+(k+1)) c8)) w8 from ⟨A8,c8,_,rfl,ho8,hl8,HB.out.trans hb8⟩)
   clear ho8 hg8 hb8 hl8 hl2 hBr
   go_wp2
   go_roundg g
   case measure=>omega
   case rel=>exact ⟨k+1,A8,c8,rfl,rfl,by have:=HK.out;omega,H8.out⟩
end Go.Proofs.YtoofbflplhbpbaaGreatDoor
