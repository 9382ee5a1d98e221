/- Contracts and plain laws,part 36. -/
import Derived.Test.YtoofbflplhbpbaaGreatDoorUO35
set_option maxHeartbeats 64000000
set_option maxRecDepth 1000000
set_option linter.all false
namespace Go.Proofs.YtoofbflplhbpbaaGreatDoor
open Go.RowKit
theorem abl (B:Nat) (A:Option Addr) (c:Nat) (ps:List Gr.P) (w:World) (h:cZ w B 6 (aQ w B) A ps) (hB:B<=w.heap.size) (hl:ps.length<=1073741824) (hs: ∀p∈ps,pV p):
  Calls Tryz.prog 58 #[.slice A ps.length c] w fun e w'=>e= .returned (.int .i64 (Gr.dV ps:Nat))/\Below w.heap.size w w':=by
 obtain ⟨R,hR⟩: ∃R,Gr.dV ps=R:=⟨_,rfl⟩;rw [hR];unfold Gr.dV at hR
 obtain ⟨n,hn⟩: ∃n,ps.length=n:=⟨_,rfl⟩;rw [hn] at hl hR⊢;have HH:=ah h;have HS:=ah hs
 have HN:=ah hn;have HU:=ah ug;by_cases h8:16<n
 ·rw [ab7 h8] at hR
  subst hR;have wJ:(16:Int)<n:=by omega
  have t8:decide ((16:Int)<n)=true:=abW wJ;clear h h8 hs hl
  go_enter Tryz.func58,Tryz.ntmps58;go_wp2;go_ret;exact ⟨rfl,Below.refl _ _⟩
 rw [ab6 h8] at hR;have HR:=ah hR;have wJ:(n:Int)<=16:=by omega
 have t8:decide ((16:Int)<n)=false:=abX (by omega)
 clear h h8 hs hl hR;go_enter Tryz.func58,Tryz.ntmps58;go_wp2_with fail
 go_loopg [3] n (fun g x wr=> ∃k:Nat,x= .int .i64 k/\k+g=n/\Below w.heap.size w wr/\ ∀j a,j<k->ps[j]?=some a->Gr.jY (Gr.aG Gr.P.key ps j) a=0)
 case atStart=>exact ⟨0,rfl,by omega,Below.refl _ _,fun j a h=>by omega⟩
 obtain ⟨k,rfl,hk,hb,hz⟩:=hrel;have HK:=ah hk;have HZ:=ah hz;have HB:=ah hb;clear hz hb
 cases gk with
 | zero=>
  obtain rfl:k=n:=by omega
  have hr:=Nr HN.out HR.out HZ.out;have HRR:=ah hr;clear hk hr;go_wp2;go_ret
  exact ⟨by rw [HRR.out];rfl,HB.out⟩
 | succ g=>
  have hkn:k<n:=by omega
  have dD:(k:Int)<n:=by omega
  obtain ⟨p,hp⟩: ∃p,ps[k]?=some p:=⟨_,ab2 (by rw [HN.out];exact hkn)⟩
  have HP:=ah hp;have yh:=HH.out.below (HB.out.mono hB) (aQ.below (HB.out.mono hB))
  obtain ⟨b,o,An,cn,At,ct,rfl,hbB,⟨c0,c1,c2,c3,c4,c5⟩,r1,r2⟩:=yh.prop hp
  obtain ⟨z,hz⟩: ∃z:ByteArray,(⟨p.key.toArray⟩:ByteArray)=z:=⟨_,rfl⟩
  obtain ⟨zt,aO⟩: ∃z:ByteArray,(⟨p.val.text.toArray⟩:ByteArray)=z:=⟨_,rfl⟩
  unfold ST at c0 c3;rw [hz] at c0;rw [aO] at c3;clear hp hk hkn
  have sU:=HS.out p (acf HP.out);have hBr:B<=wr.heap.size:=ab5 hB HB.out.size
  have hzd:z.data.toList=p.key:=by rw [<-hz]
  obtain ⟨Nm,DZ⟩: ∃b,Gr.dw p.key=b:=⟨_,rfl⟩;obtain ⟨CV,Gw⟩: ∃CV,ak.check p.val=CV:=⟨_,rfl⟩
  have HC:=ah (TI z wr (by rw [Lib.size_eq,hzd];exact sU.key))
  rw [hzd,DZ] at HC
  have HBC:=ah (fun (X:World) (hb:Below wr.heap.size wr X)=>show X.cell? ⟨b,o+k*6,none⟩=some (.string z)/\X.cell? ⟨b,o+k*6+1,none⟩=some (.int .i64 p.val.kind)/\X.cell? ⟨b,o+k*6+2,none⟩=some (.int .i64 p.val.num)/\X.cell? ⟨b,o+k*6+3,none⟩=some (.string zt)/\X.cell? ⟨b,o+k*6+4,none⟩=some (.slice An p.val.nums.length cn)/\X.cell? ⟨b,o+k*6+5,none⟩=some (.slice At p.val.texts.length ct) from
   have hl:=adf hbB hBr
   ⟨(hb.cell (p:=⟨b,o+k*6,none⟩) hl).trans c0,(hb.cell (p:=⟨b,o+k*6+1,none⟩) hl).trans c1,(hb.cell (p:=⟨b,o+k*6+2,none⟩) hl).trans c2,(hb.cell (p:=⟨b,o+k*6+3,none⟩) hl).trans c3,(hb.cell (p:=⟨b,o+k*6+4,none⟩) hl).trans c4,(hb.cell (p:=⟨b,o+k*6+5,none⟩) hl).trans c5⟩)
  have amf:=ah (fun (X:World) (hb:Below wr.heap.size wr X) (m:Nat)=>(show jR (X.drewN m) B (.agg #[.int .i64 p.val.kind, .int .i64 p.val.num, .string zt, .slice An p.val.nums.length cn, .slice At p.val.texts.length ct]) p.val by
   have:=((xP (cn:=cn) (ct:=ct) sU.val r1 r2).below (hb.mono hBr)).below (below_drewN (Below.refl B X) m)
   unfold ST at this
   rwa [aO] at this))
  have Pn:Hid (∀(X:World) (q:Gr.P) (m:Nat),Below wr.heap.size wr X->m<n->ps[m]?=some q->X.cell? ⟨b,o+m*6,none⟩=some (ST q.key)):=fun X q m hb hm hq=>by
   obtain ⟨b',o',_,_,_,_,he,hlt,⟨e0,-⟩,-⟩:=yh.prop hq
   injection he with he
   injection he with he1 he2
   subst he1;subst he2;exact ((hb.mono hBr).cell (by exact hlt)).trans e0
  have sV:=ah DZ;have HZD:=ah hzd;have Gx:=ah Gw;have Ep:=ah hBr
  have aod:(0:Int)<=(k:Int):=by omega
  have htk:((k:Int)).toNat=k:=by omega
  clear DZ Gw hz aO hzd yh r1 r2 hBr sU hbB;go_wp2_with fail;refine HC.out.mono ?_
  rintro e w1 ⟨rfl,hb1⟩;clear c0 c1 c2 c3 c4 c5;obtain ⟨d0,d1,d2,d3,d4,d5⟩:=HBC.out w1 hb1
  have eP:=ah (HB.out.trans (hb1.mono HB.out.size))
  have aU:=ah (fun (m:Nat)=>QH B _ p.val (w1.drewN m) (amf.out w1 hb1 m) (ab5 Ep.out hb1.size))
  rw [Gx.out] at aU
  have wo:Hid (∀q:Gr.P,∀m:Nat,m<n->ps[m]?=some q->w1.cell? ⟨b,o+m*6,none⟩=some (ST q.key)):=fun q m hm hq=>Pn.out w1 q m hb1 hm hq
  clear hb1;cases Nm with
  | false=>
   have hr:=BA HR.out HP.out HZ.out (e:=60) (by unfold Gr.jY;rw [sV.out,ab7 rfl]) (by decide)
   have HRR:=ah hr;clear hr;go_wp2;go_ret;exact ⟨by rw [HRR.out];rfl,eP.out⟩
  | true=>
   have JL:=ah (fun (h:Gr.jY (Gr.aG Gr.P.key ps k) p=0)=>xO HP.out HZ.out h)
   have sS:=ah (fun (e:Nat) (h:Gr.jY (Gr.aG Gr.P.key ps k) p=e) (hne:e≠0)=>BA HR.out HP.out HZ.out h hne)
   by_cases h0:k=0
   ·have hk0:(k:Int)<=0:=by omega
    have tk:decide (0<k)=false:=abX (by omega)
    have hpw:Gr.jY (Gr.aG Gr.P.key ps k) p=CV:=by
     subst h0;unfold Gr.jY;rw [sV.out,ab6 (by decide),ab6 (by simp [Gr.aG]),Gx.out]
    have oO:=ah hpw;clear h0 hpw
    go_upto_region 8 with fail
    go_quiet (fail)
    go_wp2_with fail;refine (aU.out _).mono ?_;rintro e w4 ⟨rfl,hb4⟩
    have HB4:=ah (oG (below_drewN eP.out nq) hb4);clear hb4;cases CV with
    | zero=>
     have HM:=ah (JL.out oO.out);go_wp2
     go_roundg g
     case measure=>omega
     exact ⟨k+1,int_eq (by omega),by have:=HK.out;omega,HB4.out,HM.out⟩
    | succ e=>
     have hr:=sS.out (e+1) oO.out (by omega)
     have HRR:=ah hr;have hne:(((e+1:Nat):Int) !=0)=true:=by rw [acV];omega
     clear hr;go_wp2;go_ret;exact ⟨by rw [HRR.out];rfl,HB4.out⟩
   obtain ⟨m,hm⟩: ∃m,k=m+1:=⟨k - 1,by omega⟩
   have tk:decide (0<k)=true:=abW (by omega)
   have hkp:(0:Int)<k:=by omega
   have hsub:(k:Int) - 1=(m:Int):=by omega
   have hmn:(m:Int)<n:=by omega
   have JM:m<n:=by omega
   obtain ⟨q,hq⟩: ∃q,ps[m]?=some q:=⟨_,ab2 (by omega)⟩
   have e0:=wo.out q m JM hq;unfold ST at e0
   obtain ⟨zq,kX⟩: ∃z:ByteArray,(⟨q.key.toArray⟩:ByteArray)=z:=⟨_,rfl⟩
   have wK:zq.toList=q.key:=by rw [<-kX,xM]
   rw [kX] at e0;obtain ⟨b1,hb1⟩: ∃b,Op.bytesLess z.toList zq.toList=b:=⟨_,rfl⟩
   obtain ⟨b2,hb2⟩: ∃b,(z.toList == zq.toList)=b:=⟨_,rfl⟩
   have hb:decide (p.key<=q.key)=(b1 || b2):=by rw [<-hb1,<-hb2,IV,wK,Lib.toList_data,HZD.out]
   have hpw:Gr.jY (Gr.aG Gr.P.key ps k) p=if (b1 || b2)=true then 6 else CV:=by
    have hpv:Gr.aG Gr.P.key ps k=some q.key:=by rw [hm];show ps[m]?.map Gr.P.key=_;rw [hq];rfl
    unfold Gr.jY;rw [sV.out,hpv,ab6 (by decide),<-hb,Gx.out]
    rfl
   have oO:=ah hpw;clear h0 hpw hq kX wK hb hm JM
   have jh:=ah (show (b1 || b2)=true->R=6 from fun h=>sS.out 6 (by rw [oO.out,h];rfl) (by decide))
   cases b1 with
   | true=>
    have hr:=jh.out rfl;have HRR:=ah hr;clear hr
    go_upto_region 8 with fail
    go_quiet (fail)
    go_wp2;go_ret;exact ⟨by rw [HRR.out];rfl,below_drewN eP.out _⟩
   | false=>
    cases b2 with
    | true=>
     have hr:=jh.out rfl;have HRR:=ah hr;clear hr
     go_upto_region 8 with fail
     go_quiet (fail)
     go_wp2;go_ret;exact ⟨by rw [HRR.out];rfl,below_drewN eP.out _⟩
    | false=>
     go_upto_region 8 with fail
     go_quiet (fail)
     go_wp2_with fail;refine (aU.out _).mono ?_;rintro e w4 ⟨rfl,hb4⟩
     have HB4:=ah (oG (below_drewN eP.out nq) hb4);clear hb4;cases CV with
     | zero=>
      have HM:=ah (JL.out oO.out);go_wp2
      go_roundg g
      case measure=>omega
      exact ⟨k+1,int_eq (by omega),by have:=HK.out;omega,HB4.out,HM.out⟩
     | succ e=>
      have hr:=sS.out (e+1) oO.out (by omega)
      have HRR:=ah hr;have hne:(((e+1:Nat):Int) !=0)=true:=by rw [acV];omega
      clear hr;go_wp2;go_ret;exact ⟨by rw [HRR.out];rfl,HB4.out⟩
theorem Reads.head {W:World} {B n q b o:Nat} {xs:List Value} (h:Reads W B 1 (some ⟨b,o,none⟩) n xs) (hq:q<=n):Reads W B 1 (some ⟨b,o,none⟩) q (xs.take q):=by
 refine ⟨by rw [acW,h.1];omega,fun h0=> ?_⟩
 obtain ⟨b',o',e,hb,hc⟩:=h.2 (by omega)
 cases e
 exact ⟨b,o,rfl,hb,fun j u hu=>hc j u (by
  rw [am6] at hu
  split at hu
  ·exact hu
  cases hu)⟩
theorem Reads.tail {W:World} {B n q b o:Nat} {xs:List Value} (h:Reads W B 1 (some ⟨b,o,none⟩) n xs) (hq:q<=n):Reads W B 1 (some ⟨b,o+q,none⟩) (n - q) (xs.drop q):=by
 refine ⟨by rw [acM,h.1];omega,fun h0=> ?_⟩
 obtain ⟨b',o',e,hb,hc⟩:=h.2 (by omega)
 cases e
 exact ⟨b,o+q,rfl,hb,fun j u hu=>by
  rw [aoH] at hu;have:=hc _ u hu
  rwa [<-akR] at this⟩
def abm (w:World) (s:List (List UInt8)) (e:Ending) (w':World):Prop:= ∃(A':Option Addr) (c' m:Nat) (out:List (List UInt8)),e= .returned (.slice A' m c')/\out.length=m/\w'.ownsRow w.heap.size 9 1 (.slice A' m c') m (out.map ST)/\Gr.bg s out/\Below w.heap.size w w'
theorem abn (l:List (List UInt8)): ∀u∈l.map ST,u.oneCell'=true:=fun u hu=>by
 obtain ⟨x,-,rfl⟩:=ad5.1 hu;rfl
theorem abo (B:Nat) (A:Option Addr) (c n:Nat) (s:List (List UInt8)) (w:World) (h:Reads w B 1 A n (s.map ST)) (hl:s.length=n) (hB:B<=w.heap.size) (hn:n<2):
  Calls Tryz.prog 115 #[.slice A n c] w (abm w s):=by
 obtain ⟨i0,hi,hz0,hz1,hz2⟩:=info_parts xR
 have HH:=ah (h.below ((Below.refl B w).alloc hB (.cells #[] 9)));have H1:=ah (abn s)
 have oP:=ah (qJ w 9 1);have dQ:=ah (show 0+n<=maxLen by unfold maxLen;omega)
 have HL2:=ah (show (0+n)*16<=140737488355328 by omega)
 have iJ:=ah (Gr.bg.small (s:=s) (by omega))
 have HL:=ah hl;have ES:(n:Int)<2:=by omega
 have t2:decide ((n:Int)<2)=true:=abW ES;clear h hn hl;go_enter Tryz.func115,Tryz.ntmps115
 go_wp2_with (at_builtin;refine Bc (w.alloc (.cells #[] 9)) rfl (.tmp 12) (.tmp 13) 23 rfl w.heap.size 9 i0 (.string ⟨#[]⟩) 1 16 Tryz.underlying23 hi hz0 hz1 hz2 rfl (by decide) (.slice (some ⟨w.heap.size,0,none⟩) 0 0) 0 [] rfl oP.out B A n c (s.map ST) rfl HH.out H1.out dQ.out HL2.out (by simp) ?_)
 intro v9 w9 aN bC dO;obtain ⟨A9,c9,rfl⟩:=aJ aN;have lZ:=ah aN
 have dh:=ah (((Below.refl w.heap.size w).alloc (ab1 _) (.cells #[] 9)).grown bC (by simp) (fun j e=>by cases e;exact ab1 _))
 clear aN bC dO;go_wp2;go_ret;exact ⟨A9,c9,n,s,rfl,HL.out,lZ.out,iJ.out,dh.out⟩
theorem TJ: ∀l:List (List UInt8),(Gr.dedup l).length<=l.length
 | []=>ab1 _
 | a :: r=>by
  have:=TJ r;rw [Gr.dedup]
  split<;> simp only [acd]<;> omega
structure yP (w2:World) (a b:List (List UInt8)) (i j:Nat) (out:List (List UInt8)) (A:Option Addr) (c m:Nat) (V:World):Prop where
 le:m<=i+j
 len:out.length=m
 own:V.ownsRow w2.heap.size 9 1 (.slice A m c) m (out.map ST)
 mrg:Gr.jI a b i j out
 bel:Below w2.heap.size w2 V
theorem yP.add {w2 V V':World} {a b out:List (List UInt8)} {i j i' j' m c c':Nat} {A A':Option Addr} {x:List UInt8} {z:ByteArray} (h:yP w2 a b i j out A c m V) (hz:(⟨x.toArray⟩:ByteArray)=z) (hm:Gr.jI a b i' j' (out ++ [x])) (hle:m+1<=i'+j') (ho:V'.ownsRow w2.heap.size 9 1 (.slice A' (m+1) c') (m+1) (out.map ST ++ [.string z])) (hb:Below w2.heap.size V V'):yP w2 a b i' j' (out ++ [x]) A' c' (m+1) V':=
 ⟨hle,by rw [dA,h.len];rfl,by rw [ade,alA,ST,hz];exact ho,hm,h.bel.trans hb⟩
theorem yP.below {w2 V V':World} {a b out:List (List UInt8)} {i j m c:Nat} {A:Option Addr} (h:yP w2 a b i j out A c m V) (hb:Below V.heap.size V V'):yP w2 a b i j out A c m V':=
 ⟨h.le,h.len,dS h.own (iT hb none) (fun g c t fz e=>by cases e),h.mrg,h.bel.trans (hb.mono h.bel.size)⟩
theorem NP {W:World} {B la i:Nat} {A:Option Addr} {xa:List (List UInt8)} (h:Reads W B 1 A la (xa.map ST)) (hi:i<la): ∃pa oa x z,A=some ⟨pa,oa,none⟩/\W.cell? ⟨pa,oa+i,none⟩=some (.string z)/\(⟨x.toArray⟩:ByteArray)=z/\xa[i]?=some x:=by
 obtain ⟨p,o,u,e,-,hx,hp⟩:=h.cell hi;rw [acJ] at hx;obtain ⟨x,hx2,rfl⟩:=ac7.1 hx
 exact ⟨p,o,x,_,e,hp,rfl,hx2⟩
theorem ajs: ∀(m B:Nat) (A:Option Addr) (c n:Nat) (s:List (List UInt8)) (w:World),n<=m->Reads w B 1 A n (s.map ST)->s.length=n->B<=w.heap.size->n<=c->n<=1073741800->
  Calls Tryz.prog 115 #[.slice A n c] w (abm w s):=by
 intro m
 induction m with
 | zero=>
  intro B A c n s w hm h hl hB hc hn;exact abo B A c n s w h hl hB (by omega)
 | succ m ih=>
 intro B A c n s w hm h hl hB hc hn;by_cases h2:n<2
 ·exact abo B A c n s w h hl hB h2
 obtain ⟨b,o,rfl,-,-⟩:=h.2 (by omega)
 obtain ⟨q,hq⟩: ∃q,n / 2=q:=⟨_,rfl⟩;have hq1:q<=n:=by omega
 have hcq: ¬c=q:=by omega
 have hq0: ¬q=0:=by omega
 have hqI:(n:Int).tdiv 2=(q:Int):=by rw [<-hq];exact (ao3 n 2).symm
 have amh:(q:Int)<=n:=by omega
 have ami:(n:Int)<=c:=by omega
 have amj:(q:Int)<=c:=by omega
 have tq:((q:Int)).toNat=q:=by omega
 have ES:(2:Int)<=n:=by omega
 have hnB:(n:Int)<=1073741800:=by omega
 have t2:decide ((n:Int)<2)=false:=abX (by omega)
 have ad6:=ih B (some ⟨b,o,none⟩) c q (s.take q) w (by omega) (by rw [List.map_take];exact h.head hq1) (by rw [acW];omega) hB (by omega) (by omega)
 have ad7:=fun (V:World) (hb:Below w.heap.size w V)=>ih B (some ⟨b,o+q,none⟩) (c - q) (n - q) (s.drop q) V (by omega) (by rw [List.map_drop];exact (h.below (hb.mono hB)).tail hq1) (by rw [acM];omega) (ab5 hB hb.size) (by omega) (by omega)
 have kV:=ah ad6;have HC2:=ah ad7
 have uJ:=ah (show∀x,x∈s↔x∈s.take q\/x∈s.drop q from fun x=>by conv=>lhs;rw [<-adE q s];rw [acU])
 have dF:=ah hl;clear ih ad6 ad7 h hm hl hq h2 hc hn hB
 go_enter Tryz.func115,Tryz.ntmps115;go_wp2_with fail;refine kV.out.mono ?_
 rintro e w1 ⟨A1,c1,la,xa,rfl,hla,oa,sa,b1⟩
 have HA:=ah (And.intro hla (And.intro oa (And.intro sa b1)));clear hla oa sa b1
 go_wp2_with fail;refine (HC2.out w1 HA.out.2.2.2).mono ?_
 rintro e w2 ⟨A2,c2,lb,xb,rfl,hlb,ob,sb,b2⟩
 have hla:la<=q:=by rw [<-HA.out.1,HA.out.2.2.1.length];exact ab5 (TJ _) (by rw [acW];omega)
 have amk:lb<=n - q:=by rw [<-hlb,sb.length];exact ab5 (TJ _) (by rw [acM,dF.out];omega)
 have hab:la+lb<=1073741800:=by omega
 have HB2:=ah (HA.out.2.2.2.trans (b2.mono HA.out.2.2.2.size))
 have jV:=ah (show Reads w2 w2.heap.size 1 A1 la (xa.map ST) from ((Reads.je HA.out.2.1).below b2).more b2.size)
 have Df:=ah (show Reads w2 w2.heap.size 1 A2 lb (xb.map ST) from Reads.je ob)
 have Ho:=ah (And.intro HA.out.1 hlb);have mZ:=ah (And.intro HA.out.2.2.1 sb)
 have gq:=ah (show yP w2 xa xb 0 0 [] (some ⟨w2.heap.size,0,none⟩) 0 0 (w2.alloc (.cells #[] 9)) from ⟨ab1 _,rfl,qJ w2 9 1,Gr.jI.start _ _,(Below.refl _ w2).alloc (ab1 _) _⟩)
 clear hla amk hlb ob sb b2 kV HC2 HA hqI amh ami amj tq ES hnB t2 hq1 hcq hq0
 go_wp2_with fail
 go_loopg [5,6,7] (la+lb) (fun g v x y wr=> ∃(i j m:Nat) (A':Option Addr) (c':Nat) (out:List (List UInt8)),v= .slice A' m c'/\x= .int .i64 i/\y= .int .i64 j/\i+j+g=la+lb/\i<=la/\j<=lb/\yP w2 xa xb i j out A' c' m wr)
 case atStart=>exact ⟨0,0,0,_,_, [],rfl,rfl,rfl,by omega,by omega,by omega,gq.out⟩
 obtain ⟨i,j,m,A',c',out,rfl,rfl,rfl,hk,hil,hjl,hst⟩:=hrel;have HST:=ah hst;clear hst gq
 cases gk with
 | zero=>
  obtain rfl:i=la:=by omega
  obtain rfl:j=lb:=by omega
  have hm:=HST.out.mrg;have hla:=Ho.out.1;have hlb:=Ho.out.2
  have hd:Gr.bg s out:=Gr.jI.done (a:=xa) (b:=xb) (by rw [hla,hlb];exact hm) (fun x=>by rw [mZ.out.1.2 x,mZ.out.2.2 x];exact uJ.out x)
  have HD:=ah hd;clear hk hil hjl hd hm hla hlb;go_wp2;go_ret
  exact ⟨A',c',m,out,rfl,HST.out.len,own_base HST.out.own HB2.out.size,HD.out,HB2.out.trans (HST.out.bel.mono HB2.out.size)⟩
 | succ g=>
  have HK:=ah hk;have hij:i<la\/j<lb:=by omega
  have hlI:(la:Int)<=1073741800:=by omega
  have BQ:(lb:Int)<=1073741800:=by omega
  have pG:=ah (show Below w2.heap.size w2 wr from HST.out.bel)
  have hc:(i<la/\j=lb)\/(i=la/\j<lb)\/(i<la/\j<lb):=by omega
  have Ul:=HST.out.le;have aof:(m:Int)<=1073741800:=by omega
  refine Or.elim hc ?c1 (fun h=>Or.elim h ?c2 ?c3)
  case' c1=>
   rintro ⟨h1,rfl⟩;have La:(i:Int)<la:=by omega
   have t1:decide ((i:Int)<la)=true:=abW La;have t3:((j:Int) ==(j:Int))=true:=by simp
   obtain ⟨pa,oa,x,z,rfl,hp,hz,hx⟩:=NP (jV.out.below pG.out) h1
   have hm:=HST.out.mrg.step mZ.out.1.1 hx (fun y hy=>by rw [<-Ho.out.2,aoV] at hy;cases hy)
   have HM:=ah (show (out.getLast?=some x->Gr.jI xa xb (i+1) j out)/\(out.getLast?≠some x->Gr.jI xa xb (i+1) j (out ++ [x])) from hm)
   obtain ⟨i',hi'⟩: ∃i',i+1=i':=⟨_,rfl⟩;obtain ⟨j',hj'⟩: ∃j',j=j':=⟨_,rfl⟩
   rw [hi',hj'] at HM;have HN:=ah (show i'+j'+g=la+j/\i'<=la/\j'<=j/\m+1<=i'+j' by omega)
   have HI:=ah (show i+1=i'/\j=j' from ⟨hi',hj'⟩)
   clear h1 hx hm hi' hj'
  case' c2=>
   rintro ⟨rfl,h1⟩;have La:(j:Int)<lb:=by omega
   have t1:decide ((i:Int)<(i:Int))=false:=abX (by omega)
   have t2:decide ((j:Int)<lb)=true:=abW La
   have t3:((j:Int) ==(lb:Int))=false:=ab3.2 (by omega)
   obtain ⟨pa,oa,x,z,rfl,hp,hz,hx⟩:=NP (Df.out.below pG.out) h1
   have hm:=HST.out.mrg.symm.step mZ.out.2.1 hx (fun y hy=>by rw [<-Ho.out.1,aoV] at hy;cases hy)
   have HM:=ah (show (out.getLast?=some x->Gr.jI xa xb i (j+1) out)/\(out.getLast?≠some x->Gr.jI xa xb i (j+1) (out ++ [x])) from ⟨fun h=>(hm.1 h).symm,fun h=>(hm.2 h).symm⟩)
   obtain ⟨i',hi'⟩: ∃i',i=i':=⟨_,rfl⟩;obtain ⟨j',hj'⟩: ∃j',j+1=j':=⟨_,rfl⟩
   have HI:=ah (show i=i'/\j+1=j' from ⟨hi',hj'⟩)
   rw [hi',hj'] at HM;have HN:=ah (show i'+j'+g=i+lb/\i'<=i/\j'<=lb/\m+1<=i'+j' by omega)
   clear h1 hx hm hi' hj'
  case' c3=>
   rintro ⟨h1,h2⟩;have La:(i:Int)<la:=by omega
   have h2I:(j:Int)<lb:=by omega
   have t1:decide ((i:Int)<la)=true:=abW La;have t2:decide ((j:Int)<lb)=true:=abW h2I
   have t3:((j:Int) ==(lb:Int))=false:=ab3.2 (by omega)
   obtain ⟨pa,oa,xx,za,rfl,hp,hz,hx⟩:=NP (jV.out.below pG.out) h1
   obtain ⟨pb,ob,xy,zb,rfl,hpb,hzb,hxb⟩:=NP (Df.out.below pG.out) h2
   obtain ⟨b1,hb1⟩: ∃b,Op.bytesLess za.toList zb.toList=b:=⟨_,rfl⟩
   obtain ⟨b2,hb2⟩: ∃b,(za.toList == zb.toList)=b:=⟨_,rfl⟩
   have hb:decide (xx<=xy)=(b1 || b2):=by rw [<-hb1,<-hb2,IV,<-hz,<-hzb,xM,xM]
   have Kz:=ah hb;have HX:=ah (And.intro hx (And.intro hxb (And.intro hz hzb)))
   have hNa:i+1+j+g=la+lb/\i+1<=la/\j<=lb/\m+1<=i+1+j:=by omega
   have hNb:i+(j+1)+g=la+lb/\i<=la/\j+1<=lb/\m+1<=i+(j+1):=by omega
   have HNA:=ah hNa;have oM:=ah hNb;clear hb hx hxb hz hzb h1 h2 hNa hNb
   refine Or.elim (show (b1=true/\b2=true)\/(b1=true/\b2=false)\/(b1=false/\b2=true)\/(b1=false/\b2=false) from by cases b1<;> cases b2<;> simp) ?d1 (fun h=>Or.elim h ?d2 (fun h=>Or.elim h ?d3 ?d4))
  case' d1 | d2 | d3=>
   rintro ⟨rfl,rfl⟩
   have hm:=HST.out.mrg.step mZ.out.1.1 HX.out.1 (Gr.abh mZ.out.2.1 HX.out.2.1 (aci Kz.out))
   have HM:=ah (show (out.getLast?=some xx->Gr.jI xa xb (i+1) j out)/\(out.getLast?≠some xx->Gr.jI xa xb (i+1) j (out ++ [xx])) from hm)
   have hz:=HX.out.2.2.1;obtain ⟨i',hi'⟩: ∃i',i+1=i':=⟨_,rfl⟩
   obtain ⟨j',hj'⟩: ∃j',j=j':=⟨_,rfl⟩;rw [hi',hj'] at HM
   have HN:=ah (show i'+j'+g=la+lb/\i'<=la/\j'<=lb/\m+1<=i'+j' by have:=HNA.out;omega)
   have HI:=ah (show i+1=i'/\j=j' from ⟨hi',hj'⟩)
   obtain ⟨x,hx⟩: ∃x,x=xx:=⟨_,rfl⟩;obtain ⟨z,hzz⟩: ∃z,z=za:=⟨_,rfl⟩;subst hx hzz
   clear hm hi' hj'
  case' d4=>
   rintro ⟨rfl,rfl⟩
   have hm:=HST.out.mrg.symm.step mZ.out.2.1 HX.out.2.1 (Gr.abh mZ.out.1.1 HX.out.1 (anI (aoM.1 (ach Kz.out))))
   have HM:=ah (show (out.getLast?=some xy->Gr.jI xa xb i (j+1) out)/\(out.getLast?≠some xy->Gr.jI xa xb i (j+1) (out ++ [xy])) from ⟨fun h=>(hm.1 h).symm,fun h=>(hm.2 h).symm⟩)
   have hz:=HX.out.2.2.2;obtain ⟨i',hi'⟩: ∃i',i=i':=⟨_,rfl⟩
   obtain ⟨j',hj'⟩: ∃j',j+1=j':=⟨_,rfl⟩;have HI:=ah (show i=i'/\j+1=j' from ⟨hi',hj'⟩)
   rw [hi',hj'] at HM
   have HN:=ah (show i'+j'+g=la+lb/\i'<=la/\j'<=lb/\m+1<=i'+j' by have:=oM.out;omega)
   obtain ⟨x,hx⟩: ∃x,x=xy:=⟨_,rfl⟩;obtain ⟨z,hzz⟩: ∃z,z=zb:=⟨_,rfl⟩;subst hx hzz
   clear hm hi' hj'
  all_goals
   have HZ:=ah hz;clear hz hc hil hjl Ul
   go_upto_region 9 with fail
   go_quiet (fail)
   go_upto_region 14 with fail
   obtain ⟨W5,iG⟩: ∃W5,wr.drewN nq=W5:=⟨_,rfl⟩
   have iO:=ah (show yP w2 xa xb i j out A' c' m W5 from iG▸HST.out.below (below_drewN (Below.refl _ _) nq))
   rw [iG];clear iG hp
   rcases aed m with h0 | h0
   ·subst h0
    have ho:out= []:=acD iO.out.len;have rC:=ah (HM.out.2 (by rw [ho];simp))
    clear ho
    go_wp2_with (at_builtin;refine rP rfl (.tmp 84) (.tmp 86) 23 9 (.string ⟨#[]⟩) 16 Tryz.underlying23 xR rfl (by decide) rfl w2.heap.size (.slice A' 0 c') 0 (out.map ST) W5 rfl iO.out.own (.string z) rfl rfl (by decide) iO.out.bel.size ?_)
    intro v9 w9 bI bG jo aF;obtain ⟨A9,c9,rfl⟩:=aJ bI
    have HE:=ah (iO.out.add HZ.out rC.out HN.out.2.2.2 bI aF);clear bI bG jo aF;go_wp2
    go_roundg g
    case measure=>omega
    exact ⟨i',j',_,A9,c9,_,rfl,int_eq (by have:=HI.out;omega),int_eq (by have:=HI.out;omega),HN.out.1,HN.out.2.1,HN.out.2.2.1,HE.out⟩
   obtain ⟨m',hm'⟩: ∃m',m=m'+1:=⟨m - 1,by omega⟩
   obtain ⟨y,hy⟩: ∃y,out[m']?=some y:=⟨_,ab2 (by rw [iO.out.len];omega)⟩
   have hlast:out.getLast?=some y:=by rw [aoK,iO.out.len,hm'];exact hy
   obtain ⟨gb,rfl,-,hcell,-⟩:=qI iO.out.own (t:=m') (by omega)
   obtain ⟨zy,hzy⟩: ∃z:ByteArray,(⟨y.toArray⟩:ByteArray)=z:=⟨_,rfl⟩;rw [acJ,hy] at hcell
   simp only [aej,ST,hzy] at hcell;have tm:((m:Int) == 0)=false:=ab3.2 (by omega)
   have hsub:(m:Int) - 1=(m':Int):=by omega
   have pm:(0:Int)<=(m':Int):=by omega
   have tmn:((m':Int)).toNat=m':=by omega
   have aoh:(m':Int)<(m:Int):=by omega
   have hm1:(1:Int)<=(m:Int):=by omega
   have hml:m<1073741824:=by omega
   have Ah:=ah hml;obtain ⟨bq,hbq⟩: ∃b,(zy.toList == z.toList)=b:=⟨_,rfl⟩
   have hbx:(y == x)=bq:=by rw [<-hbq,<-hzy,<-HZ.out,xM,xM]
   cases bq with
   | true=>
    obtain rfl:y=x:=adp.1 hbx
    have HE:=ah (show yP w2 xa xb i' j' out (some ⟨gb,0,none⟩) c' m W5 from ⟨amc HN.out.2.2.2,iO.out.len,iO.out.own,HM.out.1 hlast,iO.out.bel⟩)
    clear hlast hy hzy h0 hbx hm' hml;go_wp2
    go_roundg g
    case measure=>omega
    exact ⟨i',j',_,_,c',_,rfl,int_eq (by have:=HI.out;omega),int_eq (by have:=HI.out;omega),HN.out.1,HN.out.2.1,HN.out.2.2.1,HE.out⟩
   | false=>
    have rC:=ah (HM.out.2 (by rw [hlast];intro e;cases e;simp at hbx))
    clear hlast hy hzy h0 hbx hm' hml
    go_wp2_with (at_builtin;refine rP rfl (.tmp 84) (.tmp 86) 23 9 (.string ⟨#[]⟩) 16 Tryz.underlying23 xR rfl (by decide) rfl w2.heap.size (.slice (some ⟨gb,0,none⟩) m c') m (out.map ST) W5 rfl iO.out.own (.string z) rfl rfl Ah.out iO.out.bel.size ?_)
    intro v9 w9 bI bG jo aF;obtain ⟨A9,c9,rfl⟩:=aJ bI
    have HE:=ah (iO.out.add HZ.out rC.out HN.out.2.2.2 bI aF);clear bI bG jo aF;go_wp2
    go_roundg g
    case measure=>omega
    exact ⟨i',j',_,A9,c9,_,rfl,int_eq (by have:=HI.out;omega),int_eq (by have:=HI.out;omega),HN.out.1,HN.out.2.1,HN.out.2.2.1,HE.out⟩
end Go.Proofs.YtoofbflplhbpbaaGreatDoor
