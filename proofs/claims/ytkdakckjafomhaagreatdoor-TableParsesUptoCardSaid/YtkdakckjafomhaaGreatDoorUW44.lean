/- Contracts and plain laws,part 44. -/
import Derived.Test.YtkdakckjafomhaaGreatDoorUW43
set_option maxHeartbeats 64000000
set_option maxRecDepth 1000000
set_option linter.all false
namespace Go.Proofs.YtkdakckjafomhaaGreatDoor
open Go.RowKit
theorem Ord.Vh {α:Type} {ps:List α}: ∀{l:List Nat} {k i:Nat} {a:α},(∀i∈l,i<ps.length)->l[k]?=some i->ps[i]?=some a->(Ord.at_ ps l)[k]?=some a
 |[],k,i,a,_,h,_=>by simp at h
 |j :: l,k,i,a,hl,h,ha=>by
  obtain⟨b,hb⟩: ∃b,ps[j]?=some b:=⟨_,dF (hl j (by simp))⟩
  unfold Ord.at_;rw[anY,hb];cases k with
  |zero=>
   simp only[adn,aeK]at h⊢;subst h;rw[hb]at ha;exact ad4 ha
  |succ k=>
   simp only[adL]at h⊢;exact Ord.Vh (fun i hi=>hl i (afg _ hi)) h ha
theorem Gr.amx {g:Gr.G} {n k i:Nat} {l:List Nat} {p:Gr.N} (hn:g.nodes.length=n) (hd:(g.nodes.map Gr.N.id).Nodup) (hp:l.Perm (List.range n)) (hs:l.Pairwise fun i j=>nP (g.nodes.map Gr.N.id) [] i j=true) (hk:l[k]?=some i) (ha:g.nodes[i]?=some p):
  (Gr.canon g).nodes[k]?=some (Gr.ug p):=by
 have e:(g.nodes.map Gr.ug).map Gr.N.id=g.nodes.map Gr.N.id:=by rw[agk];rfl
 have h:=Ord.sorted PX (key:=Gr.N.id) (ps:=g.nodes.map Gr.ug) (by rw[adU];exact hn) (by rw[e];exact hd) hp hs (fun i j a b ha hb=>by rw[<-e];exact ac0 Gr.N.id _ i j a b ha hb)
 show(Gr.jd (fun a b:Int=>decide (a<=b)) Gr.N.id (g.nodes.map Gr.ug))[k]?=_
 rw[<-h]
 exact Ord.Vh (fun i hi=>by rw[adU,hn];exact anO.1 (hp.mem_iff.1 hi)) hk (by rw[adX,ha];rfl)
theorem Gr.amy {g:Gr.G} {n k i:Nat} {l:List Nat} {p:Gr.R} (hn:g.aA.length=n) (hd:(g.aA.map Gr.R.id).Nodup) (hp:l.Perm (List.range n)) (hs:l.Pairwise fun i j=>nP (g.aA.map Gr.R.id) [] i j=true) (hk:l[k]?=some i) (ha:g.aA[i]?=some p):
  (Gr.canon g).aA[k]?=some (Gr.uh p):=by
 have e:(g.aA.map Gr.uh).map Gr.R.id=g.aA.map Gr.R.id:=by rw[agk];rfl
 have h:=Ord.sorted PX (key:=Gr.R.id) (ps:=g.aA.map Gr.uh) (by rw[adU];exact hn) (by rw[e];exact hd) hp hs (fun i j a b ha hb=>by rw[<-e];exact ac0 Gr.R.id _ i j a b ha hb)
 show(Gr.jd (fun a b:Int=>decide (a<=b)) Gr.R.id (g.aA.map Gr.uh))[k]?=_
 rw[<-h]
 exact Ord.Vh (fun i hi=>by rw[adU,hn];exact anO.1 (hp.mem_iff.1 hi)) hk (by rw[adX,ha];rfl)
def CP (W:World) (A:Option Addr) (c k:Nat) (xs:List Int) (V:World):Prop:=V.ownsRow W.heap.size 3 1 (.slice A k c) k (xs.map I64)/\Below W.heap.size W V
def Ql (W:World) (A:Option Addr) (c k:Nat) (xs:List (List UInt8)) (V:World):Prop:=V.ownsRow W.heap.size 9 1 (.slice A k c) k (xs.map ST)/\Below W.heap.size W V
def AtS (w:World) (A:Option Addr) (c n:Nat) (l:List Nat) (V:World):Prop:=V.ownsRow w.heap.size 3 1 (.slice A n c) n (l.map IN)
theorem AtS.below {w V V':World} {A:Option Addr} {c n:Nat} {l:List Nat} (h:AtS w A c n l V) (hb:Below V.heap.size V V'):AtS w A c n l V':=own_below h hb
theorem CP.add {W wr w9:World} {A A9:Option Addr} {c c9 k:Nat} {xs ys:List Int} {x:Int} (h:CP W A c k xs wr) (hx:ys=xs++[x]) (ho:w9.ownsRow W.heap.size 3 1 (.slice A9 (k+1) c9) (k+1) (xs.map I64++[.int .i64 x])) (hb:Below W.heap.size wr w9):CP W A9 c9 (k+1) ys w9:=
 ⟨by rw[hx,ad8];exact ho,h.2.trans hb⟩
theorem amA (B:Nat) (u:Value) (g:Gr.G) (w:World) (h:jQ w B u g) (hB:B<=w.heap.size) (hs:Small g) (hd:JZ g):
  Calls Tryz.prog 17 #[u] w fun e w'=> ∃u',e=.returned u'/\dR w' w.heap.size u' (Gr.canon g)/\Below w.heap.size w w':=by
 have hok:=h.ok;obtain⟨An,cn,Ar,cr,rfl,hN,hR⟩:=h.ex;obtain⟨n,hn⟩:=aj g.nodes.length
 obtain⟨m,hm⟩:=aj g.aA.length;have hnl:n<=67108864:=hn▸hs.n;have hml:m<=67108864:=hm▸hs.r
 rw[hn,hm];have HS:=ah hs;have aV:=ah hok;have HN:=ah hN;have HR:=ah hR;have dN:=ah hn
 have CO:=ah hm;have aK:=ah hB
 have qJ:=ah (show wH w (.slice An n cn) (.slice Ar m cr) (Gr.canon g) 0 0 (.slice none 0 0) (.slice none 0 0) (((w.alloc (.cells #[.slice An n cn,.slice Ar m cr] 26)).alloc (.cells #[.slice none 0 0,.slice none 0 0] 26)).alloc (.cells #[.slice none 0 0,.slice none 0 0] 26)) from
  ⟨((au.new _ _ _).alloc _).alloc _,by have:=(au.new (w.alloc (.cells #[.slice An n cn,.slice Ar m cr] 26)) 26 #[.slice none 0 0,.slice none 0 0]).alloc (.cells #[.slice none 0 0,.slice none 0 0] 26);simpa using this,
   by have:=au.new ((w.alloc (.cells #[.slice An n cn,.slice Ar m cr] 26)).alloc (.cells #[.slice none 0 0,.slice none 0 0] 26)) 26 #[.slice none 0 0,.slice none 0 0];simpa using this,
   ⟨[],by simp,by simp,World.ownsRow_nil _ _ _ _⟩,⟨[],by simp,by simp,World.ownsRow_nil _ _ _ _⟩,(((Below.refl _ w).alloc (ac4 _) _).alloc (by simp) _).alloc (by simp;omega) _⟩)
 have HD:=ah hd;clear h hok hN hR hn hm hB hs hd;go_enter Tryz.func17,Tryz.ntmps17
 go_upto_region 2 with fail
 obtain⟨W0,hW0⟩:=aj (((w.alloc (.cells #[.slice An n cn,.slice Ar m cr] 26)).alloc (.cells #[.slice none 0 0,.slice none 0 0] 26)).alloc (.cells #[.slice none 0 0,.slice none 0 0] 26))
 rw[hW0]at qJ⊢;clear hW0;obtain⟨W1,hW1⟩:=aj (W0.alloc (.cells #[] 3))
 have af6:Below W0.heap.size W0 W1:=hW1▸(Below.refl _ W0).alloc (ac4 _) _
 have HI0:=ah (show CP W0 (some ⟨W0.heap.size,0,none⟩) 0 0 ((g.nodes.take 0).map Gr.N.id) W1 from⟨by rw[<-hW1];simpa using oM W0 3 1,af6⟩)
 have HW1:=ah hW1;clear hW1 af6
 go_upto_region 3 with fail
 rw[HW1.out];clear HW1;go_wp2_with fail
 go_loopg [5,4] n (fun kx x y wr=> ∃(k:Nat) (A':Option Addr) (c':Nat),x=.int .i64 k/\y=.slice A' k c'/\k+kx=n/\Hid (CP W0 A' c' k ((g.nodes.take k).map Gr.N.id) wr))
 case atStart=>exact⟨0,_,_,rfl,rfl,by omega,HI0.out⟩
 obtain⟨k,A',c',rfl,rfl,hk,hb⟩:=hrel
 have HB:Hid (CP W0 A' c' k ((g.nodes.take k).map Gr.N.id) wr):=hb
 have HC:=ah (qJ.below HB.out.2);clear hb HI0;obtain⟨b0,b1⟩:=cells2 HC.box;cases gk with
 |succ kq=>
  have hkn:k<n:=by omega
  have dH:(k:Int)<n:=by omega
  have pk:(0:Int)<=(k:Int):=by omega
  have tk:((k:Int)).toNat=k:=by omega
  have tw:IntKind.i64.wrap ((k:Int)+1)=(k:Int)+1:=by unfold IntKind.wrap;simp[IntKind.signed,IntKind.bits];omega
  obtain⟨p,hp⟩: ∃p,g.nodes[k]?=some p:=⟨_,dF (by rw[dN.out];exact hkn)⟩
  have hBw:=HC.bel.mono aK.out
  obtain⟨b,o,cs,rfl,hlt,hnc,hl3,hcell⟩:=(HN.below hBw (iO.below hBw)) k p hp
  obtain⟨Al,cl,Ap,cp,rfl,ra,rp⟩:=hnc;have p0:=hcell 0 _ rfl;rw[aft]at p0
  have HP:=ah (show(g.nodes.take (k+1)).map Gr.N.id=(g.nodes.take k).map Gr.N.id++[p.id] by rw[ae3,hp,ad8];rfl)
  have HK:=ah hk;have h5:k<1073741824:=by omega
  clear hk hp hlt hBw hcell hl3 ra rp
  go_wp2_with (at_builtin;refine fD rfl (.tmp 24) (.tmp 31) 108 3 (.int .i64 0) 8 Tryz.underlying108 Ai rfl (by decide) rfl W0.heap.size (.slice A' k c') k (((g.nodes.take k).map Gr.N.id).map I64) wr rfl HB.out.1 (.int .i64 p.id) rfl rfl h5 HB.out.2.size ?_)
  intro v9 w9 aJ bI dD aB;obtain⟨A9,c9,rfl⟩:=aF aJ
  have HX:=ah (HB.add HP.out (by rw[agk,aoV];exact aJ) aB)
  clear aJ bI dD aB HC HP p0 b0 b1;go_wp2
  go_roundg kq
  case measure=>omega
  exact⟨k+1,A9,c9,int_eq (by omega),rfl,by have:=HK.out;omega,HX.out⟩
 |zero=>
  obtain rfl:k=n:=by omega
  obtain⟨W2,hW2⟩:=aj (wr.alloc (.cells #[] 9))
  have hb2:Below wr.heap.size wr W2:=hW2▸(Below.refl _ wr).alloc (ac4 _) _
  have oz:=HB.out.1;rw[ado (by rw[dN.out];exact ac4 _)]at oz
  have ho:=Qj W2.heap.size A' (some ⟨wr.heap.size,0,none⟩) k c' 0 0 (g.nodes.map Gr.N.id) [] W2 (by rw[adU];exact dN.out) rfl (Reads.dI (own_below oz hb2)) ⟨rfl,fun h=>by omega⟩ (ac4 _) (.inr rfl) (by omega)
  rw[aft]at ho;have HO:=ah ho;have HC2:=ah (HC.below hb2);have HW2:=ah hW2
  clear hk hW2 hb2 oz ho;go_wp2_with fail
  try rw[HW2.out]
  refine HO.mono ?_;rintro e w3 ⟨Ao,co,l,rfl,ho,hp,hs⟩
  have qw:=ah (fun(j i:Nat) (p:Gr.N) (h1:l[j]?=some i) (h2:g.nodes[i]?=some p)=>Gr.amx dN.out HD.ni hp hs h1 h2)
  have qO:=ah (fun(j i:Nat) (h:l[j]?=some i)=>Ord.lt hp h)
  have dJ:=ah ho.len;have jK:=ah (HC2.below ho.bel)
  have NZ:=ah (show AtS w Ao co k l w3 from own_base ho.own HC2.bel.size)
  clear ho hp hs HC HC2 HB HO b0 b1;go_wp2_with fail
  go_loopg [7] k (fun kx x wr=> ∃(j:Nat) (A':Option Addr) (c':Nat),x=.int .i64 j/\j+kx=k/\wH w (.slice An k cn) (.slice Ar m cr) (Gr.canon g) j 0 (.slice A' j c') (.slice none 0 0) wr/\Hid (AtS w Ao co k l wr))
  case atStart=>exact⟨0,_,_,rfl,by omega,jK.out,NZ.out⟩
  obtain⟨j,A3,c3,rfl,hj,hc,ha⟩:=hrel;have HC:=ah hc;have HA:Hid (AtS w Ao co k l wr):=ha
  obtain⟨b0,b1⟩:=cells2 hc.box
  have o0:wr.cell? ⟨w.heap.size+1+1,0,none⟩=some (.slice A3 j c3):=hc.out.cell 0
  clear jK hc ha NZ;cases gk with
  |succ kq=>
   have hjn:j<k:=by omega
   have Az:(j:Int)<k:=by omega
   have pj:(0:Int)<=(j:Int):=by omega
   have tj:((j:Int)).toNat=j:=by omega
   have tw:IntKind.i64.wrap ((j:Int)+1)=(j:Int)+1:=by unfold IntKind.wrap;simp[IntKind.signed,IntKind.bits];omega
   obtain⟨i,hi⟩: ∃i,l[j]?=some i:=⟨_,dF (by rw[dJ.out];exact hjn)⟩
   have hin:=qO.out j i hi
   obtain⟨p,hp⟩: ∃p,g.nodes[i]?=some p:=⟨_,dF (by rw[dN.out];exact hin)⟩
   obtain⟨lb,lo,v,rfl,hlb,hv,hc⟩:=(Reads.dI HA.out).cell hjn;rw[adX,hi]at hv;cases hv
   unfold IN at hc;have ti:((i:Int)).toNat=i:=by omega
   have pi:(0:Int)<=(i:Int):=by omega
   have D5:(i:Int)<k:=by omega
   have hbw:=HC.bel;have hsz:=hbw.size;have hBw:=hbw.mono aK.out
   obtain⟨b,o,cs,rfl,hlt,hnc,hl3,hcell⟩:=(HN.below hBw (iO.below hBw)) i p hp
   obtain⟨Al,cl,Ap,cp,rfl,ra,rp⟩:=hnc;have p0:=hcell 0 _ rfl;have p1:=hcell 1 _ rfl
   have p2:=hcell 2 _ rfl;rw[aft]at p0;obtain⟨ln,hln⟩:=aj p.labels.length
   obtain⟨pn,hpn⟩:=aj p.props.length;rw[hln]at p1 ra;rw[hpn]at p2
   go_upto_region 11 with fail
   clear hin hl3 hcell;obtain⟨nb,hnb⟩:=aj wr.heap.size;have N7:lb<wr.heap.size:=hlb
   have yV:b<wr.heap.size:=adW hlt (adg aK.out hsz)
   have HKK:=ah (fun(w':World) (hb:Below wr.heap.size wr w')=>show w'.cell? ⟨w.heap.size,0,none⟩=some (.slice (some ⟨b,o,none⟩) k cn)/\w'.cell? ⟨lb,lo+j,none⟩=some (.int .i64 (i:Int))/\w'.cell? ⟨b,o+i*3,none⟩=some (.int .i64 p.id)/\w'.cell? ⟨b,o+i*3+1,none⟩=some (.slice Al ln cl)/\w'.cell? ⟨b,o+i*3+2,none⟩=some (.slice Ap pn cp) from
    ⟨(hb.cell (p:=⟨w.heap.size,0,none⟩) HC.box.lt).trans b0,(hb.cell (p:=⟨lb,lo+j,none⟩) N7).trans hc,(hb.cell (p:=⟨b,o+i*3,none⟩) yV).trans p0,(hb.cell (p:=⟨b,o+i*3+1,none⟩) yV).trans p1,(hb.cell (p:=⟨b,o+i*3+2,none⟩) yV).trans p2⟩)
   have iW:=ah hnb
   obtain⟨W4,jG⟩:=aj ((wr.alloc (.cells #[.int .i64 0,.slice none 0 0,.slice none 0 0] 42)).drew)
   have hk4:au W4 nb 42 #[.int .i64 0,.slice none 0 0,.slice none 0 0]:=by rw[<-jG,<-hnb];exact au.new wr _ _
   have hb4:Below wr.heap.size wr W4:=jG▸((Below.refl wr.heap.size wr).alloc (ac4 _) _).drew
   have eY:=ah hk4;have HB4:=ah hb4;have ou:=ah jG
   clear hnb jG hk4 hb4 N7 yV b0 b1 p0 p1 p2 hc
   refine II 9 (fun w'=>w'.cell? ⟨w.heap.size,0,none⟩=some (.slice (some ⟨b,o,none⟩) k cn)/\w'.cell? ⟨lb,lo+j,none⟩=some (.int .i64 (i:Int))/\w'.cell? ⟨b,o+i*3,none⟩=some (.int .i64 p.id)/\w'.cell? ⟨b,o+i*3+1,none⟩=some (.slice Al ln cl)/\w'.cell? ⟨b,o+i*3+2,none⟩=some (.slice Ap pn cp)) (by kernel_rfl) (by kernel_rfl) (HKK.out _ ((Below.refl wr.heap.size wr).drew)) (fun hHeld=> ?_)
   simp only[amL,amN];refine aS 0 hHeld ?_
   (try simp only[Act.put,ac6,adi,adl])
   refine aS 1 hHeld ?_
   (try simp only[Act.put,ac6,adi,adl])
   refine aS 2 hHeld ?_
   (try simp only[Act.put,ac6,adi,adl])
   refine aS 3 hHeld ?_
   (try simp only[Act.put,ac6,adi,adl])
   refine aS 4 hHeld ?_
   (try simp only[Act.put,ac6,adi,adl])
   refine aS 5 hHeld ?_
   (try simp only[Act.put,ac6,adi,adl])
   refine aS 6 hHeld ?_
   (try simp only[Act.put,ac6,adi,adl])
   refine aS 7 hHeld ?_
   (try simp only[Act.put,ac6,adi,adl])
   clear hHeld
   refine wpAnyH_ready (rs:=[8]) (by kernel_rfl) (by simp) (AllReadyH.cons (by simp only[adE,adL,adn];rfl) (fun K hK=> ?_) AllReadyH.nil)
   go_simp
   try rw[ou.out]
   try rw[iW.out]
   have f0:=eY.cell 0;have f1:=eY.cell 1;have f2:=eY.cell 2;have g0:=eY.frozen 0
   have g1:=eY.frozen 1;have g2:=eY.frozen 2
   refine hK.out _ _ (HKK.out _ HB4.out) (fun hHeld=> ?_)
   clear hK K
   (try simp only[Act.put,ac6,adi,adl])
   clear hHeld;refine wpAnyH_done (by kernel_rfl) ?_ _
   refine Dq (by simp only[adE,adL,adn];rfl) (fun K hK=> ?_)
   go_simp;refine hK.out _ _ ?_;clear hK K
   obtain⟨W5,bZ⟩:=aj (((W4.setCell ⟨nb,0,none⟩ (.int .i64 p.id)).setCell ⟨nb,1,none⟩ (.slice Al ln cl)).setCell ⟨nb,2,none⟩ (.slice Ap pn cp))
   have hk5:au W5 nb 42 #[.int .i64 p.id,.slice Al ln cl,.slice Ap pn cp]:=by rw[<-bZ];exact au.cast (((eY.bP 0 _).bP 1 _).bP 2 _) (by simp)
   have hb5:Below wr.heap.size wr W5:=by
    rw[<-bZ]
    exact((HB4.setCell (p:=⟨nb,0,none⟩) (anh iW.out) _).setCell (p:=⟨nb,1,none⟩) (anh iW.out) _).setCell (p:=⟨nb,2,none⟩) (anh iW.out) _
   obtain⟨W6,iY⟩:=aj (W5.alloc (.cells #[] 3))
   have hb6:Below W5.heap.size W5 W6:=iY▸(Below.refl _ W5).alloc (ac4 _) _
   have Jv:=hb5.trans (hb6.mono hb5.size);have RV:B<=wr.heap.size:=adg aK.out hsz
   have hlr:ln<=67108864:=by rw[<-hln];exact HS.l p (adI hp)
   have hra:=ra.below (Jv.mono RV)
   have ho:=Qj B (some ⟨W5.heap.size,0,none⟩) Al 0 0 ln cl [] p.labels W6 rfl hln ⟨rfl,fun h=>by omega⟩ hra (adg RV Jv.size) (.inl rfl) (by omega)
   rw[afW]at ho;have HO:=ah ho;have HC6:=ah (HC.below Jv);have HA6:=ah (HA.below Jv)
   have nZ:=ah hk5;have zN:=ah (hk5.below hb6 hk5.lt);have Yi:=ah Jv;have jH:=ah bZ
   have pI:=ah iY;have HP:=ah (And.intro hp (And.intro hln hpn));have HI:=ah hi
   have dS:=ah ra;have BD:=ah rp;have HJ:=ah hj;have MV:=ah hsz;have bG:=ah RV
   obtain⟨d0,d1,d2⟩:=cells3 hk5;obtain⟨e0,e1,e2⟩:=cells3 zN.out;rw[<-iY]at e0 e1 e2
   have aC:=ah (show some nb≠(Value.slice A3 j c3).ownBlock from fun e=>by
    obtain⟨_,_,_,hr⟩:=HC.nx;have:=(World.ownsRow.lt hr nb e.symm).2;have:=iW.out
    omega)
   clear bZ hk5 hb5 iY hb6 Jv RV hra ho hp hln hpn hi ra rp hj hsz hbw hBw hlt hlb HKK HB4 eY ou iW HC HA
   rw[jH.out];clear jH;go_wp2_with fail
   try rw[pI.out]
   refine HO.mono ?_;rintro e w7 ⟨A7,c7,l7,rfl,ho,uH,hs7⟩
   have zH:=ah (Ord.amv HP.out.2.1 uH hs7)
   have ao4:=ah (fun(j i:Nat) (h:l7[j]?=some i)=>Ord.lt uH h)
   have HL7:=ah ho.len;have sW:=ah (HC6.below ho.bel);have HA7:=ah (HA6.below ho.bel)
   have jC:=ah (zN.below ho.bel zN.lt);have qE:=ah ho.own
   have bD:=ah (Yi.trans (ho.bel.mono Yi.size))
   have zM:=ah (show w.heap.size<=w7.heap.size from adg MV.out bD.size)
   have hb8:=(Below.refl w7.heap.size w7).alloc (ac4 _) (.cells #[] 9)
   have mF:=ah (show Ql w7 (some ⟨w7.heap.size,0,none⟩) 0 0 (Ord.at_ p.labels (l7.take 0)) (w7.alloc (.cells #[] 9)) from⟨by simpa[Ord.at_] using oM w7 9 1,hb8⟩)
   clear ho uH hs7 hb8 HO HC6 HA6 zN Yi nZ d0 d1 d2 e0 e1 e2;go_wp2_with fail
   go_loopg [11,10] ln (fun kx x y wr=> ∃(k2:Nat) (A':Option Addr) (c':Nat),x=.int .i64 k2/\y=.slice A' k2 c'/\k2+kx=ln/\Hid (Ql w7 A' c' k2 (Ord.at_ p.labels (l7.take k2)) wr))
   case atStart=>exact⟨0,_,_,rfl,rfl,by omega,mF.out⟩
   obtain⟨k2,A9,c9,rfl,rfl,hk2,hb⟩:=hrel
   have bg:Hid (Ql w7 A9 c9 k2 (Ord.at_ p.labels (l7.take k2)) wr):=hb
   have bH:=ah (jC.below bg.out.2 jC.lt);obtain⟨d0,d1,d2⟩:=cells3 bH.out;clear hb mF
   cases gk with
   |succ kq2=>
    have hkn2:k2<ln:=by omega
    have aqO:(k2:Int)<ln:=by omega
    have pk2:(0:Int)<=(k2:Int):=by omega
    have tk2:((k2:Int)).toNat=k2:=by omega
    have tw2:IntKind.i64.wrap ((k2:Int)+1)=(k2:Int)+1:=by unfold IntKind.wrap;simp[IntKind.signed,IntKind.bits];omega
    obtain⟨i2,hi2⟩: ∃i,l7[k2]?=some i:=⟨_,dF (by rw[HL7.out];exact hkn2)⟩
    have hin2:=ao4.out k2 i2 hi2
    obtain⟨y,hy⟩: ∃y,p.labels[i2]?=some y:=⟨_,dF (by rw[HP.out.2.1];exact hin2)⟩
    obtain⟨LQ,lo2,v2,rfl,Xi,hv2,hc2⟩:=(Reads.dI (own_below qE.out bg.out.2)).cell hkn2
    rw[adX,hi2]at hv2;cases hv2;unfold IN at hc2
    have hbr:=(bD.mono bG.out).trans (bg.out.2.mono (adg bG.out bD.size))
    obtain⟨lb3,lo3,v3,rfl,ao6,hv3,hc3⟩:=(dS.below hbr).cell hin2;rw[adX,hy]at hv3
    cases hv3;obtain⟨z,hz⟩:=aj (⟨y.toArray⟩:ByteArray);unfold ST at hc3;rw[hz]at hc3
    have ti2:((i2:Int)).toNat=i2:=by omega
    have pi2:(0:Int)<=(i2:Int):=by omega
    have aqS:(i2:Int)<ln:=by omega
    have h5:k2<1073741824:=by omega
    have HAT:=ah (show(Ord.at_ p.labels (l7.take (k2+1))).map ST=(Ord.at_ p.labels (l7.take k2)).map ST++[.string z] by rw[Ord.acY hi2 hy,ad8];simp[ST,hz])
    have HJ2:=ah hk2;have ao7:w7.heap.size<=wr.heap.size:=bg.out.2.size
    clear hi2 hin2 hy Xi ao6 hbr hz hk2
    go_upto_region 17 with fail
    go_region_law (first|(refine EY rfl (.tmp 61) (.tmp 70) 34 9 (.string ⟨#[]⟩) 16 Tryz.underlying34 Ah rfl (by decide) rfl w7.heap.size (.slice A9 k2 c9) k2 ((Ord.at_ p.labels (l7.take k2)).map ST) wr.drew rfl bg.out.1 (.string z) rfl rfl h5 ao7 ?_;intro v9 w9 aJ bI dD aB;obtain⟨A8,c8,rfl⟩:=aF aJ)|fail)
    all_goals
     have HX9:=ah (show Ql w7 A8 c8 (k2+1) (Ord.at_ p.labels (l7.take (k2+1))) w9 from⟨by rw[HAT.out];exact aJ,bg.out.2.trans (((Below.refl w7.heap.size wr).drew).trans aB)⟩)
     clear aJ bI dD aB HAT d0 d1 d2 hc2 hc3 bg bH;go_wp2_with fail
     go_roundg kq2
     case measure=>omega
     exact⟨k2+1,A8,c8,int_eq (by omega),rfl,by have:=HJ2.out;omega,HX9.out⟩
   |zero=>
    obtain rfl:k2=ln:=by omega
    have hlab:=bg.out;rw[ado (by rw[HL7.out];exact ac4 _),zH.out]at hlab
    have qB:=ah hlab;have dZ:=ah (bD.trans (hlab.2.mono bD.size))
    have qP:=ah (sW.below hlab.2);have HA9:=ah (HA7.below hlab.2)
    clear hlab hk2 sW HA7 jC qE bg
    go_upto_region 18 with fail
    clear d0 d1 d2
    have jV:=ah (show Below wr.heap.size wr wr.drew from(Below.refl _ wr).drew)
    have Hw:B<=wr.heap.size:=adg aK.out qP.bel.size
    have hbr:=(dZ.mono bG.out).trans (jV.mono Hw)
    have dW:=ah (ac1 B Ap cp pn p.props wr.drew (BD.below hbr (aX.below hbr)) HP.out.2.2 (aV.ns p (adI HP.out.1)).ps (HD.np p (adI HP.out.1)) (adg Hw jV.size) (by rw[<-HP.out.2.2];exact HS.np p (adI HP.out.1)))
    have sQ:=ah (fun(X:World) (h:au X nb 42 #[.int .i64 p.id,.slice Al k2 cl,.slice Ap pn cp]) (ho:X.cell? ⟨w.heap.size+1+1,0,none⟩=some (.slice A3 j c3))=>show X.cell? ⟨nb,0,none⟩=some (.int .i64 p.id)/\X.cell? ⟨nb,2,none⟩=some (.slice Ap pn cp)/\X.cell? ⟨w.heap.size+1+1,0,none⟩=some (.slice A3 j c3) from by obtain⟨q0,q1,q2⟩:=cells3 h;exact⟨q0,q2,ho⟩)
    have CQ:=ah (fun(X:World) (hb:Below wr.heap.size wr X)=>show X.cell? ⟨w.heap.size+1+1,0,none⟩=some (.slice A3 j c3) from(qP.below hb).out.cell 0)
    have vK:=ah (show some nb≠(Value.slice A3 j c3).ownBlock from aC.out)
    have hl5:j<536870912:=by omega
    clear Hw hbr
    refine II 12 (fun w'=>w'.cell? ⟨nb,0,none⟩=some (.int .i64 p.id)/\w'.cell? ⟨nb,2,none⟩=some (.slice Ap pn cp)/\w'.cell? ⟨w.heap.size+1+1,0,none⟩=some (.slice A3 j c3)) (by kernel_rfl) (by kernel_rfl) (sQ.out _ (bH.below jV.out bH.lt) (CQ.out _ jV.out)) (fun hHeld=> ?_)
    simp only[amL,amN];refine aS 0 hHeld ?_
    (try simp only[Act.put,ac6,adi,adl])
    refine aS 1 hHeld ?_
    (try simp only[Act.put,ac6,adi,adl])
    refine aS 2 hHeld ?_
    (try simp only[Act.put,ac6,adi,adl])
    refine aS 3 hHeld ?_
    (try simp only[Act.put,ac6,adi,adl])
    refine aS 4 hHeld ?_
    (try simp only[Act.put,ac6,adi,adl])
    refine aS 5 hHeld ?_
    (try simp only[Act.put,ac6,adi,adl])
    refine aS 6 hHeld ?_
    (try simp only[Act.put,ac6,adi,adl])
    clear hHeld
    refine wpAnyH_ready (rs:=[7]) (by kernel_rfl) (by simp) (AllReadyH.cons (by simp only[adE,adL,adn];rfl) (fun K hK=> ?_) AllReadyH.nil)
    go_simp
    go_at_call 53
    refine dW.mono ?_;rintro e nN ⟨v11,rfl,Hy,uN⟩;have kL:=jV.trans (uN.mono jV.size)
    have vU:=bH.below kL bH.lt;obtain⟨AP,cP,rfl⟩:=Hy.form
    have hll:(Gr.pU p.labels).length=k2:=(by unfold Gr.pU Gr.jd;rw[apH];exact HP.out.2.1)
    have N8:je nN w.heap.size (Gr.ug p,[.int .i64 p.id,.slice A9 k2 c9,.slice AP (Gr.lS p.props).length cP]):=⟨_,_,rfl,by show nN.ownsRow _ _ _ _ (Gr.pU p.labels).length _;rw[hll];exact own_base (own_below qB.out.1 kL) zM.out,Hy.base (adg qP.bel.size jV.size)⟩
    obtain⟨Yj,N9,hs11⟩:=(qP.below kL).node (qw.out j i p HI.out HP.out.1) N8
    have Hz:=ah N9;have nO:=ah hs11;have Yk:=ah (HA9.below kL);have e4:=CQ.out _ kL
    have e5:=CQ.out _ (kL.alloc kL.size (.cells #[.int .i64 p.id,.slice A9 k2 c9,.slice AP (Gr.lS p.props).length cP] 42))
    have Oa:=adg qP.bel.size kL.size;obtain⟨pl,hpl⟩:=aj ((Gr.lS p.props).length)
    rw[hpl]at nO e5⊢;clear N8 N9 hs11 Hy hll;go_wp2_with fail
    refine hK.out _ _ (sQ.out _ vU e4) (fun hHeld=> ?_)
    clear hK K
    (try simp only[Act.put,ac6,adi,adl])
    refine aS 8 hHeld ?_
    (try simp only[Act.put,ac6,adi,adl])
    clear hHeld
    refine wpAnyH_ready (rs:=[9]) (by kernel_rfl) (by simp) (AllReadyH.cons (by simp only[adE,adL,adn];rfl) (fun K hK=> ?_) AllReadyH.nil)
    go_simp;refine hK.out _ _ (sQ.out _ (vU.alloc _) e5) (fun hHeld=> ?_)
    clear hK K
    (try simp only[Act.put,ac6,adi,adl])
    clear hHeld
    refine wpAnyH_ready (rs:=[10]) (by kernel_rfl) (by simp) (AllReadyH.cons (by simp only[adE,adL,adn];rfl) (fun K hK=> ?_) AllReadyH.nil)
    refine JX rfl (.tmp 73) (.tmp 81) 23 42 (.agg #[.int .i64 0,.slice none 0 0,.slice none 0 0]) 3 56 Tryz.underlying23 Ug rfl (by decide) (by decide) rfl w.heap.size (.slice A3 j c3) j Yj nN rfl Hz.out [.int .i64 p.id,.slice A9 k2 c9,.slice AP pl cP] _ rfl rfl (by simp[Value.oneCell']) rfl hl5 Oa ?_
    intro v12 w12 jT ig yu rC;obtain⟨hob,Ob⟩:=nO.out w12 v12 ig jT
    have hk12:=vU.grown ig vK.out;obtain⟨AN,cN,rfl⟩:=aF jT
    have Yl:=ah (show AtS w _ co k l (w12.setCell ⟨w.heap.size+2,0,none⟩ (.slice AN (j+1) cN)) from Iy (Uf Yk.out Hz.out ig (by decide)) hob (by decide))
    have Ym:=ah Ob
    have f0:w12.cell? ⟨w.heap.size+1+1,0,none⟩=some (.slice A3 j c3):=hob.cell 0
    have f1:w12.frozen? ⟨w.heap.size+1+1,0,none⟩=false:=hob.frozen 0
    refine hK.out _ _ (sQ.out _ hk12 f0) (fun hHeld=> ?_)
    clear hK K
    (try simp only[Act.put,ac6,adi,adl])
    refine aS 11 hHeld ?_
    (try simp only[Act.put,ac6,adi,adl])
    clear hHeld;refine wpAnyH_done (by kernel_rfl) ?_ _
    refine Dq (by simp only[adE,adL,adn];rfl) (fun K hK=> ?_)
    go_simp;refine hK.out _ _ ?_;clear hK K
    clear f0 f1 hob Ob hk12 vU kL uN rC yu jT ig Oa e4 e5 sQ CQ dW Hz nO qP HA9
    go_wp2_with fail
    go_roundg kq
    case measure=>omega
    exact⟨j+1,AN,cN,int_eq (by omega),by have:=HJ.out;omega,Ym.out,Yl.out⟩
  |zero=>
   obtain rfl:j=k:=by omega
   obtain⟨wN,rfl⟩: ∃x,x=wr:=⟨_,rfl⟩;have yh:=ah HC.out
   obtain⟨W21,RX⟩:=aj (wN.alloc (.cells #[] 3))
   have agd:Below wN.heap.size wN W21:=RX▸(Below.refl _ wN).alloc (ac4 _) _
   have HI0:=ah (show CP wN (some ⟨wN.heap.size,0,none⟩) 0 0 ((g.aA.take 0).map Gr.R.id) W21 from⟨by rw[<-RX];simpa using oM wN 3 1,agd⟩)
   have agf:=ah RX;clear agd hj HC HA o0 RX qw qO dJ;go_wp2_with fail;rw[agf.out]
   clear agf b0 b1
   go_loopg [12,4] m (fun kx x y wr=> ∃(k:Nat) (A':Option Addr) (c':Nat),x=.int .i64 k/\y=.slice A' k c'/\k+kx=m/\Hid (CP wN A' c' k ((g.aA.take k).map Gr.R.id) wr))
   case atStart=>exact⟨0,_,_,rfl,rfl,by omega,HI0.out⟩
   obtain⟨k,A',c',rfl,rfl,hk,hb⟩:=hrel
   have HB:Hid (CP wN A' c' k ((g.aA.take k).map Gr.R.id) wr):=hb
   have HC:=ah (yh.below HB.out.2);clear hb HI0;obtain⟨b0,b1⟩:=cells2 HC.box
   cases gk with
   |succ kq=>
    have hkn:k<m:=by omega
    have dH:(k:Int)<m:=by omega
    have pk:(0:Int)<=(k:Int):=by omega
    have tk:((k:Int)).toNat=k:=by omega
    have tw:IntKind.i64.wrap ((k:Int)+1)=(k:Int)+1:=by unfold IntKind.wrap;simp[IntKind.signed,IntKind.bits];omega
    obtain⟨p,hp⟩: ∃p,g.aA[k]?=some p:=⟨_,dF (by rw[CO.out];exact hkn)⟩
    have hBw:=HC.bel.mono aK.out
    obtain⟨b,o,cs,rfl,hlt,hnc,hl3,hcell⟩:=(HR.below hBw (iP.below hBw)) k p hp
    obtain⟨Ap,cp,rfl,rp⟩:=hnc;have p0:=hcell 0 _ rfl;rw[aft]at p0
    have HP:=ah (show(g.aA.take (k+1)).map Gr.R.id=(g.aA.take k).map Gr.R.id++[p.id] by rw[ae3,hp,ad8];rfl)
    have HK:=ah hk;have h5:k<1073741824:=by omega
    clear hk hp hlt hBw hcell hl3 rp
    go_wp2_with (at_builtin;refine fD rfl (.tmp 92) (.tmp 99) 108 3 (.int .i64 0) 8 Tryz.underlying108 Ai rfl (by decide) rfl wN.heap.size (.slice A' k c') k (((g.aA.take k).map Gr.R.id).map I64) wr rfl HB.out.1 (.int .i64 p.id) rfl rfl h5 HB.out.2.size ?_)
    intro v9 w9 aJ bI dD aB;obtain⟨A9,c9,rfl⟩:=aF aJ
    have HX:=ah (HB.add HP.out (by rw[agk,aoV];exact aJ) aB)
    clear aJ bI dD aB HC HP p0 b0 b1;go_wp2
    go_roundg kq
    case measure=>omega
    exact⟨k+1,A9,c9,int_eq (by omega),rfl,by have:=HK.out;omega,HX.out⟩
   |zero=>
    obtain rfl:k=m:=by omega
    obtain⟨W2,hW2⟩:=aj (wr.alloc (.cells #[] 9))
    have hb2:Below wr.heap.size wr W2:=hW2▸(Below.refl _ wr).alloc (ac4 _) _
    have oz:=HB.out.1;rw[ado (by rw[CO.out];exact ac4 _)]at oz
    have ho:=Qj W2.heap.size A' (some ⟨wr.heap.size,0,none⟩) k c' 0 0 (g.aA.map Gr.R.id) [] W2 (by rw[adU];exact CO.out) rfl (Reads.dI (own_below oz hb2)) ⟨rfl,fun h=>by omega⟩ (ac4 _) (.inr rfl) (by omega)
    rw[aft]at ho;have HO:=ah ho;have HC2:=ah (HC.below hb2);have HW2:=ah hW2
    clear hk hW2 hb2 oz ho;go_wp2_with fail
    try rw[HW2.out]
    refine HO.mono ?_;rintro e w3 ⟨Ao,co,l,rfl,ho,hp,hs⟩
    have qw:=ah (fun(j i:Nat) (p:Gr.R) (h1:l[j]?=some i) (h2:g.aA[i]?=some p)=>Gr.amy CO.out HD.ri hp hs h1 h2)
    have qO:=ah (fun(j i:Nat) (h:l[j]?=some i)=>Ord.lt hp h)
    have dJ:=ah ho.len;have jK:=ah (HC2.below ho.bel)
    have NZ:=ah (show AtS w Ao co k l w3 from own_base ho.own HC2.bel.size)
    clear ho hp hs HC HC2 HB HO b0 b1 yh;go_wp2_with fail
    go_loopg [13] k (fun kx x wr=> ∃(j2:Nat) (A':Option Addr) (c':Nat),x=.int .i64 j2/\j2+kx=k/\wH w (.slice An j cn) (.slice Ar k cr) (Gr.canon g) j j2 (.slice A3 j c3) (.slice A' j2 c') wr/\Hid (AtS w Ao co k l wr))
    case atStart=>exact⟨0,_,_,rfl,by omega,jK.out,NZ.out⟩
    obtain⟨j2,A2,c2,rfl,hj,hc,ha⟩:=hrel;have HC:=ah hc
    have HA:Hid (AtS w Ao co k l wr):=ha;obtain⟨b0,b1⟩:=cells2 hc.box
    obtain⟨o0,o1⟩:=cells2 (show au wr (w.heap.size+1+1) _ _ from hc.out)
    clear jK hc ha NZ;cases gk with
    |succ kq=>
     have hjn:j2<k:=by omega
     have Az:(j2:Int)<k:=by omega
     have pj:(0:Int)<=(j2:Int):=by omega
     have tj:((j2:Int)).toNat=j2:=by omega
     have tw:IntKind.i64.wrap ((j2:Int)+1)=(j2:Int)+1:=by unfold IntKind.wrap;simp[IntKind.signed,IntKind.bits];omega
     obtain⟨i,hi⟩: ∃i,l[j2]?=some i:=⟨_,dF (by rw[dJ.out];exact hjn)⟩
     have hin:=qO.out j2 i hi
     obtain⟨p,hp⟩: ∃p,g.aA[i]?=some p:=⟨_,dF (by rw[CO.out];exact hin)⟩
     obtain⟨lb,lo,v,rfl,hlb,hv,hc⟩:=(Reads.dI HA.out).cell hjn;rw[adX,hi]at hv;cases hv
     unfold IN at hc;have ti:((i:Int)).toNat=i:=by omega
     have pi:(0:Int)<=(i:Int):=by omega
     have D5:(i:Int)<k:=by omega
     have hbw:=HC.bel;have hsz:=hbw.size;have hBw:=hbw.mono aK.out
     obtain⟨b,o,cs,rfl,hlt,hnc,hl3,hcell⟩:=(HR.below hBw (iP.below hBw)) i p hp
     obtain⟨Ap,cp,rfl,rp⟩:=hnc;have p0:=hcell 0 _ rfl;have p1:=hcell 1 _ rfl
     have p2:=hcell 2 _ rfl;have p3:=hcell 3 _ rfl;have p4:=hcell 4 _ rfl;rw[aft]at p0
     obtain⟨pn,hpn⟩:=aj p.props.length;obtain⟨zt,dU⟩:=aj (⟨p.type.toArray⟩:ByteArray)
     have e0:ST p.type=.string zt:=by rw[<-dU];rfl
     rw[e0]at p1;rw[hpn]at p4
     go_upto_region 28 with fail
     clear hin hl3 hcell;obtain⟨nb,hnb⟩:=aj wr.heap.size;have N7:lb<wr.heap.size:=hlb
     have yV:b<wr.heap.size:=adW hlt (adg aK.out hsz)
     have HKK:=ah (fun(w':World) (hb:Below wr.heap.size wr w')=>show w'.cell? ⟨w.heap.size,1,none⟩=some (.slice (some ⟨b,o,none⟩) k cr)/\w'.cell? ⟨lb,lo+j2,none⟩=some (.int .i64 (i:Int))/\w'.cell? ⟨b,o+i*5,none⟩=some (.int .i64 p.id)/\w'.cell? ⟨b,o+i*5+1,none⟩=some (.string zt)/\w'.cell? ⟨b,o+i*5+2,none⟩=some (.int .i64 p.src)/\w'.cell? ⟨b,o+i*5+3,none⟩=some (.int .i64 p.dst)/\w'.cell? ⟨b,o+i*5+4,none⟩=some (.slice Ap pn cp) from
      ⟨(hb.cell (p:=⟨w.heap.size,1,none⟩) HC.box.lt).trans b1,(hb.cell (p:=⟨lb,lo+j2,none⟩) N7).trans hc,(hb.cell (p:=⟨b,o+i*5,none⟩) yV).trans p0,(hb.cell (p:=⟨b,o+i*5+1,none⟩) yV).trans p1,(hb.cell (p:=⟨b,o+i*5+2,none⟩) yV).trans p2,(hb.cell (p:=⟨b,o+i*5+3,none⟩) yV).trans p3,(hb.cell (p:=⟨b,o+i*5+4,none⟩) yV).trans p4⟩)
     have iW:=ah hnb
     obtain⟨W4,jG⟩:=aj ((wr.alloc (.cells #[.int .i64 0,.string ⟨#[]⟩,.int .i64 0,.int .i64 0,.slice none 0 0] 44)).drew)
     have hk4:au W4 nb 44 #[.int .i64 0,.string ⟨#[]⟩,.int .i64 0,.int .i64 0,.slice none 0 0]:=by rw[<-jG,<-hnb];exact au.new wr _ _
     have hb4:Below wr.heap.size wr W4:=jG▸((Below.refl wr.heap.size wr).alloc (ac4 _) _).drew
     have eY:=ah hk4;have HB4:=ah hb4;have ou:=ah jG
     clear hnb jG hk4 hb4 N7 yV b0 b1 p0 p1 p2 p3 p4 hc o0 o1
     refine II 9 (fun w'=>w'.cell? ⟨w.heap.size,1,none⟩=some (.slice (some ⟨b,o,none⟩) k cr)/\w'.cell? ⟨lb,lo+j2,none⟩=some (.int .i64 (i:Int))/\w'.cell? ⟨b,o+i*5,none⟩=some (.int .i64 p.id)/\w'.cell? ⟨b,o+i*5+1,none⟩=some (.string zt)/\w'.cell? ⟨b,o+i*5+2,none⟩=some (.int .i64 p.src)/\w'.cell? ⟨b,o+i*5+3,none⟩=some (.int .i64 p.dst)/\w'.cell? ⟨b,o+i*5+4,none⟩=some (.slice Ap pn cp)) (by kernel_rfl) (by kernel_rfl) (HKK.out _ ((Below.refl wr.heap.size wr).drew)) (fun hHeld=> ?_)
     simp only[amL,amN];refine aS 0 hHeld ?_
     (try simp only[Act.put,ac6,adi,adl])
     refine aS 1 hHeld ?_
     (try simp only[Act.put,ac6,adi,adl])
     refine aS 2 hHeld ?_
     (try simp only[Act.put,ac6,adi,adl])
     refine aS 3 hHeld ?_
     (try simp only[Act.put,ac6,adi,adl])
     refine aS 4 hHeld ?_
     (try simp only[Act.put,ac6,adi,adl])
     refine aS 5 hHeld ?_
     (try simp only[Act.put,ac6,adi,adl])
     refine aS 6 hHeld ?_
     (try simp only[Act.put,ac6,adi,adl])
     refine aS 7 hHeld ?_
     (try simp only[Act.put,ac6,adi,adl])
     clear hHeld
     refine wpAnyH_ready (rs:=[8]) (by kernel_rfl) (by simp) (AllReadyH.cons (by simp only[adE,adL,adn];rfl) (fun K hK=> ?_) AllReadyH.nil)
     go_simp
     try rw[ou.out]
     try rw[iW.out]
     obtain⟨f0,f1,f2,f3,f4⟩:=cells5 eY.out;have g0:=eY.frozen 0;have g1:=eY.frozen 1
     have g2:=eY.frozen 2;have g3:=eY.frozen 3;have g4:=eY.frozen 4
     refine hK.out _ _ (HKK.out _ HB4.out) (fun hHeld=> ?_)
     clear hK K
     (try simp only[Act.put,ac6,adi,adl])
     clear hHeld;refine wpAnyH_done (by kernel_rfl) ?_ _
     refine Dq (by simp only[adE,adL,adn];rfl) (fun K hK=> ?_)
     go_simp;refine hK.out _ _ ?_;clear hK K
     obtain⟨W5,bZ⟩:=aj (((((W4.setCell ⟨nb,0,none⟩ (.int .i64 p.id)).setCell ⟨nb,1,none⟩ (.string zt)).setCell ⟨nb,2,none⟩ (.int .i64 p.src)).setCell ⟨nb,3,none⟩ (.int .i64 p.dst)).setCell ⟨nb,4,none⟩ (.slice Ap pn cp))
     have hk5:au W5 nb 44 #[.int .i64 p.id,.string zt,.int .i64 p.src,.int .i64 p.dst,.slice Ap pn cp]:=by rw[<-bZ];exact au.cast (((((eY.bP 0 _).bP 1 _).bP 2 _).bP 3 _).bP 4 _) (by simp)
     have hb5:Below wr.heap.size wr W5:=by
      rw[<-bZ]
      exact((((HB4.setCell (p:=⟨nb,0,none⟩) (anh iW.out) _).setCell (p:=⟨nb,1,none⟩) (anh iW.out) _).setCell (p:=⟨nb,2,none⟩) (anh iW.out) _).setCell (p:=⟨nb,3,none⟩) (anh iW.out) _).setCell (p:=⟨nb,4,none⟩) (anh iW.out) _
     have vK:=ah (show some nb≠(Value.slice A2 j2 c2).ownBlock from fun e=>by
      obtain⟨_,_,_,hr⟩:=HC.rx;have:=(World.ownsRow.lt hr nb e.symm).2;have:=iW.out
      omega)
     have BI:=ah (HC.below hb5);have HA5:=ah (HA.below hb5)
     have jV:=ah (show Below W5.heap.size W5 W5.drew from(Below.refl _ W5).drew)
     have Hw:B<=W5.heap.size:=adg aK.out BI.bel.size
     have hbr:=(hb5.mono (adg aK.out hsz)).trans (jV.mono Hw)
     have dW:=ah (ac1 B Ap cp pn p.props W5.drew (rp.below hbr (aX.below hbr)) hpn (aV.rs p (adI hp)).ps (HD.rp p (adI hp)) (adg Hw jV.size) (by rw[<-hpn];exact HS.rp p (adI hp)))
     have nZ:=ah hk5;have HP:=ah (And.intro hp (And.intro hpn e0));have HI:=ah hi
     have HJ:=ah hj;have jH:=ah bZ
     have sQ:=ah (fun(X:World) (h:au X nb 44 #[.int .i64 p.id,.string zt,.int .i64 p.src,.int .i64 p.dst,.slice Ap pn cp]) (ho:X.cell? ⟨w.heap.size+1+1,1,none⟩=some (.slice A2 j2 c2))=>show X.cell? ⟨nb,0,none⟩=some (.int .i64 p.id)/\X.cell? ⟨nb,1,none⟩=some (.string zt)/\X.cell? ⟨nb,2,none⟩=some (.int .i64 p.src)/\X.cell? ⟨nb,3,none⟩=some (.int .i64 p.dst)/\X.cell? ⟨nb,4,none⟩=some (.slice Ap pn cp)/\X.cell? ⟨w.heap.size+1+1,1,none⟩=some (.slice A2 j2 c2) from by obtain⟨q0,q1,q2,q3,q4⟩:=cells5 h;exact⟨q0,q1,q2,q3,q4,ho⟩)
     have CQ:=ah (fun(X:World) (hb:Below W5.heap.size W5 X)=>show X.cell? ⟨w.heap.size+1+1,1,none⟩=some (.slice A2 j2 c2) from(BI.below hb).out.cell 1)
     have hl5:j2<536870912:=by omega
     clear bZ hk5 hb5 Hw hbr hp hpn dU hi rp hj hsz hbw hBw hlt hlb HKK HB4 eY ou iW HC HA e0
     rw[jH.out];clear jH
     go_upto_region 29 with fail
     refine II 17 (fun w'=>w'.cell? ⟨nb,0,none⟩=some (.int .i64 p.id)/\w'.cell? ⟨nb,1,none⟩=some (.string zt)/\w'.cell? ⟨nb,2,none⟩=some (.int .i64 p.src)/\w'.cell? ⟨nb,3,none⟩=some (.int .i64 p.dst)/\w'.cell? ⟨nb,4,none⟩=some (.slice Ap pn cp)/\w'.cell? ⟨w.heap.size+1+1,1,none⟩=some (.slice A2 j2 c2)) (by kernel_rfl) (by kernel_rfl) (sQ.out _ (nZ.below jV.out nZ.lt) (CQ.out _ jV.out)) (fun hHeld=> ?_)
     simp only[amL,amN];refine aS 0 hHeld ?_
     (try simp only[Act.put,ac6,adi,adl])
     refine aS 1 hHeld ?_
     (try simp only[Act.put,ac6,adi,adl])
     refine aS 2 hHeld ?_
     (try simp only[Act.put,ac6,adi,adl])
     refine aS 3 hHeld ?_
     (try simp only[Act.put,ac6,adi,adl])
     refine aS 4 hHeld ?_
     (try simp only[Act.put,ac6,adi,adl])
     refine aS 5 hHeld ?_
     (try simp only[Act.put,ac6,adi,adl])
     refine aS 6 hHeld ?_
     (try simp only[Act.put,ac6,adi,adl])
     refine aS 7 hHeld ?_
     (try simp only[Act.put,ac6,adi,adl])
     refine aS 8 hHeld ?_
     (try simp only[Act.put,ac6,adi,adl])
     refine aS 9 hHeld ?_
     (try simp only[Act.put,ac6,adi,adl])
     refine aS 10 hHeld ?_
     (try simp only[Act.put,ac6,adi,adl])
     refine aS 11 hHeld ?_
     (try simp only[Act.put,ac6,adi,adl])
     clear hHeld
     refine wpAnyH_ready (rs:=[12]) (by kernel_rfl) (by simp) (AllReadyH.cons (by simp only[adE,adL,adn];rfl) (fun K hK=> ?_) AllReadyH.nil)
     go_simp
     go_at_call 53
     refine dW.mono ?_;rintro e nN ⟨v11,rfl,Hy,uN⟩;have kL:=jV.trans (uN.mono jV.size)
     have vU:=nZ.below kL nZ.lt;obtain⟨AP,cP,rfl⟩:=Hy.form
     have N8:jy nN w.heap.size (Gr.uh p,[.int .i64 p.id,.string zt,.int .i64 p.src,.int .i64 p.dst,.slice AP (Gr.lS p.props).length cP]):=⟨_,by rw[<-HP.out.2.2];rfl,Hy.base (adg BI.bel.size jV.size)⟩
     obtain⟨Yj,N9,hs11⟩:=(BI.below kL).rel (qw.out j2 i p HI.out HP.out.1) N8
     have Hz:=ah N9;have nO:=ah hs11;have Yk:=ah (HA5.below kL);have e4:=CQ.out _ kL
     have e5:=CQ.out _ (kL.alloc kL.size (.cells #[.int .i64 p.id,.string zt,.int .i64 p.src,.int .i64 p.dst,.slice AP (Gr.lS p.props).length cP] 44))
     have Oa:=adg BI.bel.size kL.size;obtain⟨pl,hpl⟩:=aj ((Gr.lS p.props).length)
     rw[hpl]at nO e5⊢;clear N8 N9 hs11 Hy;go_wp2_with fail
     refine hK.out _ _ (sQ.out _ vU e4) (fun hHeld=> ?_)
     clear hK K
     (try simp only[Act.put,ac6,adi,adl])
     refine aS 13 hHeld ?_
     (try simp only[Act.put,ac6,adi,adl])
     clear hHeld
     refine wpAnyH_ready (rs:=[14]) (by kernel_rfl) (by simp) (AllReadyH.cons (by simp only[adE,adL,adn];rfl) (fun K hK=> ?_) AllReadyH.nil)
     go_simp;refine hK.out _ _ (sQ.out _ (vU.alloc _) e5) (fun hHeld=> ?_)
     clear hK K
     (try simp only[Act.put,ac6,adi,adl])
     clear hHeld
     refine wpAnyH_ready (rs:=[15]) (by kernel_rfl) (by simp) (AllReadyH.cons (by simp only[adE,adL,adn];rfl) (fun K hK=> ?_) AllReadyH.nil)
     refine JX rfl (.tmp 119) (.tmp 132) 24 44 (.agg #[.int .i64 0,.string ⟨#[]⟩,.int .i64 0,.int .i64 0,.slice none 0 0]) 5 64 Tryz.underlying24 Uh rfl (by decide) (by decide) rfl w.heap.size (.slice A2 j2 c2) j2 Yj nN rfl Hz.out [.int .i64 p.id,.string zt,.int .i64 p.src,.int .i64 p.dst,.slice AP pl cP] _ rfl rfl (by simp[Value.oneCell']) rfl hl5 Oa ?_
     intro v12 w12 jT ig yu rC;obtain⟨hob,Ob⟩:=nO.out w12 v12 ig jT
     have hk12:=vU.grown ig vK.out;obtain⟨AN,cN,rfl⟩:=aF jT
     have Yl:=ah (show AtS w _ co k l (w12.setCell ⟨w.heap.size+2,1,none⟩ (.slice AN (j2+1) cN)) from Iy (Uf Yk.out Hz.out ig (by decide)) hob (by decide))
     have Ym:=ah Ob
     have f0:w12.cell? ⟨w.heap.size+1+1,1,none⟩=some (.slice A2 j2 c2):=hob.cell 1
     have f1:w12.frozen? ⟨w.heap.size+1+1,1,none⟩=false:=hob.frozen 1
     refine hK.out _ _ (sQ.out _ hk12 f0) (fun hHeld=> ?_)
     clear hK K
     (try simp only[Act.put,ac6,adi,adl])
     refine aS 16 hHeld ?_
     (try simp only[Act.put,ac6,adi,adl])
     clear hHeld;refine wpAnyH_done (by kernel_rfl) ?_ _
     refine Dq (by simp only[adE,adL,adn];rfl) (fun K hK=> ?_)
     go_simp;refine hK.out _ _ ?_;clear hK K
     clear f0 f1 hob Ob hk12 vU kL uN rC yu jT ig Oa e4 e5 sQ CQ dW Hz nO BI HA5
     go_wp2_with fail
     go_roundg kq
     case measure=>omega
     exact⟨j2+1,AN,cN,int_eq (by omega),by have:=HJ.out;omega,Ym.out,Yl.out⟩
    |zero=>
     obtain rfl:j2=k:=by omega
     have hres:=HC.res;obtain⟨q0,q1⟩:=cells2 hres;have f0:=hres.frozen 0
     have f1:=hres.frozen 1
     have hgo:dR wr w.heap.size (.agg #[.slice A3 j c3,.slice A2 j2 c2]) (Gr.canon g):=by
      obtain⟨ln,x1,x2,x3⟩:=HC.nx;obtain⟨lr,y1,y2,y3⟩:=HC.rx
      have hn:(Gr.canon g).nodes.length=j:=(by simp[Gr.canon,Gr.jd,dN.out])
      have hm:(Gr.canon g).aA.length=j2:=(by simp[Gr.canon,Gr.jd,CO.out])
      exact⟨_,_,ln,lr,rfl,by rw[x1,<-hn,an8],x2,by rw[hn];exact x3,by rw[y1,<-hm,an8],y2,by rw[hm];exact y3⟩
     have k4:=Kt.cell (base:=w.heap.size) hres (by omega) 0 (.slice A3 j c3)
     have hr4:=hres.bP 0 (.slice A3 j c3)
     have k5:=Kt.cell (base:=w.heap.size) hr4 (by omega) 1 (.slice A2 j2 c2)
     have k6:=k4.trans k5
     have HF:=ah (And.intro (hgo.kt k6 (by decide) (by decide) (by decide) (by decide) (by decide)) (And.intro (au.cast (hr4.bP 1 (.slice A2 j2 c2)) (by simp):au _ _ _ #[.slice A3 j c3,.slice A2 j2 c2]) (HC.bel.trans k6.bel)))
     clear hres hgo k4 hr4 k5 k6;go_wp2_with fail
     refine abA rfl (by simp) HF.out.2.1 ⟨_,rfl,HF.out.1,HF.out.2.2⟩
end Go.Proofs.YtkdakckjafomhaaGreatDoor
