/- Lemmas. -/
import Derived.Test.YtdijgcnlbfgkdaaGreatDoorUP32
set_option maxHeartbeats 64000000
set_option maxRecDepth 1000000
set_option linter.all false
namespace Go.Proofs.YtdijgcnlbfgkdaaGreatDoor
open Go.RowKit Go.Proofs.Tryz
def Ord.Wh {α:Type} {ps:List α}: ∀{l:List Nat} {k i:Nat} {a:α},(∀i∈l,i<ps.length)->l[k]?=some i->ps[i]?=some a->(Ord.at_ ps l)[k]?=some a
 |[],k,i,a,_,h,_=>by simp at h
 |j :: l,k,i,a,hl,h,ha=>by
  obtain⟨b,hb⟩: ∃b,ps[j]?=some b:=⟨_,aen (hl j (by simp))⟩
  unfold Ord.at_;rw[List.filterMap_cons,hb];cases k with
  |zero=>
   simp only[aev,afs]at h⊢;subst h;rw[hb]at ha;exact aeM ha
  |succ k=>
   simp only[aeQ]at h⊢;exact Ord.Wh (fun i hi=>hl i (ahj _ hi)) h ha
def Gr.amm {g:Gr.G} {n k i:Nat} {l:List Nat} {p:Gr.N} (hn:g.nodes.length=n) (hd:(g.nodes.map Gr.N.id).Nodup) (hp:l.Perm (List.range n)) (hs:l.Pairwise fun i j=>oU (g.nodes.map Gr.N.id) [] i j=true) (hk:l[k]?=some i) (ha:g.nodes[i]?=some p):
  (Gr.canon g).nodes[k]?=some (Gr.sQ p):=by
 have e:(g.nodes.map Gr.sQ).map Gr.N.id=g.nodes.map Gr.N.id:=by rw[ahs];rfl
 have h:=Ord.sorted KU (key:=Gr.N.id) (ps:=g.nodes.map Gr.sQ) (by rw[aeP];exact hn) (by rw[e];exact hd) hp hs (fun i j a b ha hb=>by rw[<-e];exact adP Gr.N.id _ i j a b ha hb)
 show(Gr.mY (fun a b:Int=>decide (a<=b)) Gr.N.id (g.nodes.map Gr.sQ))[k]?=_
 rw[<-h];exact Ord.Wh (fun i hi=>by rw[aeP,hn];exact aou.1 (hp.mem_iff.1 hi)) hk (by rw[aeY,ha];rfl)
def Gr.amn {g:Gr.G} {n k i:Nat} {l:List Nat} {p:Gr.R} (hn:g.ay.length=n) (hd:(g.ay.map Gr.R.id).Nodup) (hp:l.Perm (List.range n)) (hs:l.Pairwise fun i j=>oU (g.ay.map Gr.R.id) [] i j=true) (hk:l[k]?=some i) (ha:g.ay[i]?=some p):
  (Gr.canon g).ay[k]?=some (Gr.vH p):=by
 have e:(g.ay.map Gr.vH).map Gr.R.id=g.ay.map Gr.R.id:=by rw[ahs];rfl
 have h:=Ord.sorted KU (key:=Gr.R.id) (ps:=g.ay.map Gr.vH) (by rw[aeP];exact hn) (by rw[e];exact hd) hp hs (fun i j a b ha hb=>by rw[<-e];exact adP Gr.R.id _ i j a b ha hb)
 show(Gr.mY (fun a b:Int=>decide (a<=b)) Gr.R.id (g.ay.map Gr.vH))[k]?=_
 rw[<-h];exact Ord.Wh (fun i hi=>by rw[aeP,hn];exact aou.1 (hp.mem_iff.1 hi)) hk (by rw[aeY,ha];rfl)
def Dk (W:World) (A:Option Addr) (c k:Nat) (xs:List Int) (V:World):Prop:=V.ownsRow W.heap.size 3 1 (.slice A k c) k (xs.map I64)/\Below W.heap.size W V
def QE (W:World) (A:Option Addr) (c k:Nat) (xs:List (List UInt8)) (V:World):Prop:=V.ownsRow W.heap.size 9 1 (.slice A k c) k (xs.map ST)/\Below W.heap.size W V
def AtS (w:World) (A:Option Addr) (c n:Nat) (l:List Nat) (V:World):Prop:=V.ownsRow w.heap.size 3 1 (.slice A n c) n (l.map IN)
def AtS.below {w V V':World} {A:Option Addr} {c n:Nat} {l:List Nat} (h:AtS w A c n l V) (hb:Below V.heap.size V V'):AtS w A c n l V':=own_below h hb
def Dk.add {W wr w9:World} {A A9:Option Addr} {c c9 k:Nat} {xs ys:List Int} {x:Int} (h:Dk W A c k xs wr) (hx:ys=xs++[x]) (ho:w9.ownsRow W.heap.size 3 1 (.slice A9 (k+1) c9) (k+1) (xs.map I64++[.int .i64 x])) (hb:Below W.heap.size wr w9):Dk W A9 c9 (k+1) ys w9:=
 ⟨by rw[hx,afg];exact ho,h.2.trans hb⟩
def amo (B:Nat) (u:Value) (g:Gr.G) (w:World) (h:nN w B u g) (hB:B<=w.heap.size) (hs:Small g) (hd:FZ g):
  Calls prog 19 #[u] w fun e w'=> ∃u',e=.returned u'/\dV w' w.heap.size u' (Gr.canon g)/\Below w.heap.size w w':=by
 have hok:=h.ok;obtain⟨An,cn,Ar,cr,rfl,hN,hR⟩:=h.ex;obtain⟨n,hn⟩:=aj g.nodes.length;obtain⟨m,hm⟩:=aj g.ay.length;have hnl:n<=67108864:=hn▸hs.n;have hml:m<=67108864:=hm▸hs.r;rw[hn,hm];refine gq7 hs hok hN hR hn hm hB fun HS bF HN HR bT Dj aN=>?_
 have yL:=ah (show xQ w (.slice An n cn) (.slice Ar m cr) (Gr.canon g) 0 0 (.slice none 0 0) (.slice none 0 0) (((w.alloc (.cells #[.slice An n cn,.slice Ar m cr] 26)).alloc (.cells #[.slice none 0 0,.slice none 0 0] 26)).alloc (.cells #[.slice none 0 0,.slice none 0 0] 26)) from
  ⟨((ak.new _ _ _).alloc _).alloc _,by have:=(ak.new (w.alloc (.cells #[.slice An n cn,.slice Ar m cr] 26)) 26 #[.slice none 0 0,.slice none 0 0]).alloc (.cells #[.slice none 0 0,.slice none 0 0] 26);simpa using this,
   by have:=ak.new ((w.alloc (.cells #[.slice An n cn,.slice Ar m cr] 26)).alloc (.cells #[.slice none 0 0,.slice none 0 0] 26)) 26 #[.slice none 0 0,.slice none 0 0];simpa using this,
   ⟨[],by simp,by simp,arU _ _ _ _⟩,⟨[],by simp,by simp,arU _ _ _ _⟩,(((aoa _ w).alloc (aej _) _).alloc (by simp) _).alloc (by simp;omega) _⟩)
 have HD:=ah hd;clear h hok hN hR hn hm hB hs hd;go_enter func19,ntmps19
 go_upto_region 2 with fail
 obtain⟨W0,hW0⟩:=aj (((w.alloc (.cells #[.slice An n cn,.slice Ar m cr] 26)).alloc (.cells #[.slice none 0 0,.slice none 0 0] 26)).alloc (.cells #[.slice none 0 0,.slice none 0 0] 26));rw[hW0]at yL⊢;clear hW0;obtain⟨W1,hW1⟩:=aj (W0.alloc (.cells #[] 3));have agN:Below W0.heap.size W0 W1:=hW1▸(aoa _ W0).alloc (aej _) _;have HI0:=ah (show Dk W0 (some ⟨W0.heap.size,0,none⟩) 0 0 ((g.nodes.take 0).map Gr.N.id) W1 from⟨by rw[<-hW1];simpa using qB W0 3 1,agN⟩)
 have HW1:=ah hW1;clear hW1 agN
 go_upto_region 3 with fail
 rw[HW1.out];clear HW1;go_wp2_with fail
 go_loopg [5,4] n (fun kx x y wr=> ∃(k:Nat) (A':Option Addr) (c':Nat),x=.int .i64 k/\y=.slice A' k c'/\k+kx=n/\Hid (Dk W0 A' c' k ((g.nodes.take k).map Gr.N.id) wr))
 case atStart=>exact⟨0,_,_,rfl,rfl,by omega,HI0.out⟩
 obtain⟨k,A',c',rfl,rfl,hk,hb⟩:=hrel;have HB:Hid (Dk W0 A' c' k ((g.nodes.take k).map Gr.N.id) wr):=hb;have HC:=ah (yL.below HB.out.2);clear hb HI0;obtain⟨b0,b1⟩:=cells2 HC.box;cases gk with
 |succ kq=>
  have hkn:k<n:=by omega
  have dW:(k:Int)<n:=by omega
  have pk:(0:Int)<=(k:Int):=by omega
  have tk:((k:Int)).toNat=k:=by omega
  have tw:IntKind.i64.wrap ((k:Int)+1)=(k:Int)+1:=by unfold IntKind.wrap;simp[IntKind.signed,IntKind.bits];omega
  obtain⟨p,hp⟩: ∃p,g.nodes[k]?=some p:=⟨_,aen (by rw[bT.out];exact hkn)⟩
  have hBw:=HC.bel.mono aN.out;obtain⟨b,o,cs,rfl,hlt,hnc,hl3,hcell⟩:=(HN.below hBw (lT.below hBw)) k p hp;obtain⟨Al,cl,Ap,cp,rfl,ra,rp⟩:=hnc;have p0:=hcell 0 _ rfl;rw[agw]at p0;have HP:=ah (show(g.nodes.take (k+1)).map Gr.N.id=(g.nodes.take k).map Gr.N.id++[p.id] by rw[afS,hp,afg];rfl)
  have HK:=ah hk;have h5:k<1073741824:=by omega
  clear hk hp hlt hBw hcell hl3 ra rp;go_wp2_with (at_builtin;refine jD rfl (.tmp 24) (.tmp 31) 138 3 (.int .i64 0) 8 asG BL rfl (by decide) rfl W0.heap.size (.slice A' k c') k (((g.nodes.take k).map Gr.N.id).map I64) wr rfl HB.out.1 (.int .i64 p.id) rfl rfl h5 HB.out.2.size ?_)
  intro v9 w9 aF aO bI aB;obtain⟨A9,c9,rfl⟩:=aH aF;have HX:=ah (HB.add HP.out (by rw[ahs,aq5];exact aF) aB)
  clear aF aO bI aB HC HP p0 b0 b1;go_wp2
  go_roundg kq
  case measure=>omega
  exact⟨k+1,A9,c9,int_eq (by omega),rfl,by have:=HK.out;omega,HX.out⟩
 |zero=>
  obtain rfl:k=n:=by omega
  obtain⟨W2,hW2⟩:=aj (wr.alloc (.cells #[] 9));have hb2:Below wr.heap.size wr W2:=hW2▸(aoa _ wr).alloc (aej _) _;have xR:=HB.out.1;rw[aeG (by rw[bT.out];exact aej _)]at xR
  have ho:=QC W2.heap.size A' (some ⟨wr.heap.size,0,none⟩) k c' 0 0 (g.nodes.map Gr.N.id) [] W2 (by rw[aeP];exact bT.out) rfl (Reads.dZ (own_below xR hb2)) ⟨rfl,fun h=>by omega⟩ (aej _) (.inr rfl) (by omega)
  rw[agw]at ho;refine gq3 ho (HC.below hb2) hW2 fun HO HC2 HW2=>?_;clear hk hW2 hb2 xR ho;go_wp2_with fail
  try rw[HW2.out]
  refine HO.mono ?_;rintro e w3 ⟨Ao,co,l,rfl,ho,hp,hs⟩;refine gq4 (fun(j i:Nat) (p:Gr.N) (h1:l[j]?=some i) (h2:g.nodes[i]?=some p)=>Gr.amm bT.out HD.ni hp hs h1 h2) (fun(j i:Nat) (h:l[j]?=some i)=>Ord.lt hp h) ho.len (HC2.below ho.bel) fun wB aA bY jk=>?_
  have Il:=ah (show AtS w Ao co k l w3 from own_base ho.own HC2.bel.size)
  clear ho hp hs HC HC2 HB HO b0 b1;go_wp2_with fail
  go_loopg [7] k (fun kx x wr=> ∃(j:Nat) (A':Option Addr) (c':Nat),x=.int .i64 j/\j+kx=k/\xQ w (.slice An k cn) (.slice Ar m cr) (Gr.canon g) j 0 (.slice A' j c') (.slice none 0 0) wr/\Hid (AtS w Ao co k l wr))
  case atStart=>exact⟨0,_,_,rfl,by omega,jk.out,Il.out⟩
  obtain⟨j,A3,c3,rfl,hj,hc,ha⟩:=hrel;have HC:=ah hc;have HA:Hid (AtS w Ao co k l wr):=ha;obtain⟨b0,b1⟩:=cells2 hc.box;have o0:wr.cell? ⟨w.heap.size+1+1,0,none⟩=some (.slice A3 j c3):=hc.out.cell 0;clear jk hc ha Il;cases gk with
  |succ kq=>
   have hjn:j<k:=by omega
   have BQ:(j:Int)<k:=by omega
   have pj:(0:Int)<=(j:Int):=by omega
   have tj:((j:Int)).toNat=j:=by omega
   have tw:IntKind.i64.wrap ((j:Int)+1)=(j:Int)+1:=by unfold IntKind.wrap;simp[IntKind.signed,IntKind.bits];omega
   obtain⟨i,hi⟩: ∃i,l[j]?=some i:=⟨_,aen (by rw[bY.out];exact hjn)⟩
   have hin:=aA.out j i hi;obtain⟨p,hp⟩: ∃p,g.nodes[i]?=some p:=⟨_,aen (by rw[bT.out];exact hin)⟩
   obtain⟨lb,lo,v,rfl,hlb,hv,hc⟩:=(Reads.dZ HA.out).cell hjn;rw[aeY,hi]at hv;cases hv;unfold IN at hc;have ti:((i:Int)).toNat=i:=by omega
   have pi:(0:Int)<=(i:Int):=by omega
   have Nv:(i:Int)<k:=by omega
   have hbw:=HC.bel;have hsz:=hbw.size;have hBw:=hbw.mono aN.out;obtain⟨b,o,cs,rfl,hlt,hnc,hl3,hcell⟩:=(HN.below hBw (lT.below hBw)) i p hp;obtain⟨Al,cl,Ap,cp,rfl,ra,rp⟩:=hnc;have p0:=hcell 0 _ rfl;have p1:=hcell 1 _ rfl;have p2:=hcell 2 _ rfl;rw[agw]at p0;obtain⟨ln,hln⟩:=aj p.labels.length;obtain⟨pn,hpn⟩:=aj p.props.length;rw[hln]at p1 ra;rw[hpn]at p2
   go_upto_region 11 with fail
   clear hin hl3 hcell;obtain⟨nb,hnb⟩:=aj wr.heap.size;have Oz:lb<wr.heap.size:=hlb;have zL:b<wr.heap.size:=afn hlt (aep aN.out hsz)
   have HKK:=ah (fun(w':World) (hb:Below wr.heap.size wr w')=>show w'.cell? ⟨w.heap.size,0,none⟩=some (.slice (some ⟨b,o,none⟩) k cn)/\w'.cell? ⟨lb,lo+j,none⟩=some (.int .i64 (i:Int))/\w'.cell? ⟨b,o+i*3,none⟩=some (.int .i64 p.id)/\w'.cell? ⟨b,o+i*3+1,none⟩=some (.slice Al ln cl)/\w'.cell? ⟨b,o+i*3+2,none⟩=some (.slice Ap pn cp) from
    ⟨(hb.cell (p:=⟨w.heap.size,0,none⟩) HC.box.lt).trans b0,(hb.cell (p:=⟨lb,lo+j,none⟩) Oz).trans hc,(hb.cell (p:=⟨b,o+i*3,none⟩) zL).trans p0,(hb.cell (p:=⟨b,o+i*3+1,none⟩) zL).trans p1,(hb.cell (p:=⟨b,o+i*3+2,none⟩) zL).trans p2⟩)
   have jd:=ah hnb;obtain⟨W4,tX⟩:=aj ((wr.alloc (.cells #[.int .i64 0,.slice none 0 0,.slice none 0 0] 37)).drew);have hk4:ak W4 nb 37 #[.int .i64 0,.slice none 0 0,.slice none 0 0]:=by rw[<-tX,<-hnb];exact ak.new wr _ _
   have hb4:Below wr.heap.size wr W4:=tX▸((aoa wr.heap.size wr).alloc (aej _) _).drew;refine gq3 hk4 hb4 tX fun lX HB4 CP=>?_;clear hnb tX hk4 hb4 Oz zL b0 b1 p0 p1 p2 hc;refine Lh 9 (fun w'=>w'.cell? ⟨w.heap.size,0,none⟩=some (.slice (some ⟨b,o,none⟩) k cn)/\w'.cell? ⟨lb,lo+j,none⟩=some (.int .i64 (i:Int))/\w'.cell? ⟨b,o+i*3,none⟩=some (.int .i64 p.id)/\w'.cell? ⟨b,o+i*3+1,none⟩=some (.slice Al ln cl)/\w'.cell? ⟨b,o+i*3+2,none⟩=some (.slice Ap pn cp)) (by kernel_rfl) (by kernel_rfl) (HKK.out _ ((aoa wr.heap.size wr).drew)) (fun hHeld=> ?_)
   simp only[ag7,agL];refine bZ 0 hHeld ?_
   (try simp only[Act.put,aes,aeD,aeE])
   refine bZ 1 hHeld ?_
   (try simp only[Act.put,aes,aeD,aeE])
   refine bZ 2 hHeld ?_
   (try simp only[Act.put,aes,aeD,aeE])
   refine bZ 3 hHeld ?_
   (try simp only[Act.put,aes,aeD,aeE])
   refine bZ 4 hHeld ?_
   (try simp only[Act.put,aes,aeD,aeE])
   refine bZ 5 hHeld ?_
   (try simp only[Act.put,aes,aeD,aeE])
   refine bZ 6 hHeld ?_
   (try simp only[Act.put,aes,aeD,aeE])
   refine bZ 7 hHeld ?_
   (try simp only[Act.put,aes,aeD,aeE])
   clear hHeld;refine asN (rs:=[8]) (by kernel_rfl) (by simp) (asC (by simp only[aeN,aeQ,aev];rfl) (fun K hK=> ?_) asL)
   go_simp
   try rw[CP.out]
   try rw[jd.out]
   have f0:=lX.cell 0;have f1:=lX.cell 1;have f2:=lX.cell 2;have g0:=lX.frozen 0;have g1:=lX.frozen 1;have g2:=lX.frozen 2;refine hK.out _ _ (HKK.out _ HB4.out) (fun hHeld=> ?_)
   clear hK K
   (try simp only[Act.put,aes,aeD,aeE])
   clear hHeld;refine atu (by kernel_rfl) ?_ _
   refine Lj (by simp only[aeN,aeQ,aev];rfl) (fun K hK=> ?_)
   go_simp;refine hK.out _ _ ?_;clear hK K;obtain⟨W5,fU⟩:=aj (((W4.setCell ⟨nb,0,none⟩ (.int .i64 p.id)).setCell ⟨nb,1,none⟩ (.slice Al ln cl)).setCell ⟨nb,2,none⟩ (.slice Ap pn cp));have hk5:ak W5 nb 37 #[.int .i64 p.id,.slice Al ln cl,.slice Ap pn cp]:=by rw[<-fU];exact ak.cast (((lX.aG 0 _).aG 1 _).aG 2 _) (by simp)
   have hb5:Below wr.heap.size wr W5:=by
    rw[<-fU];exact((HB4.setCell (p:=⟨nb,0,none⟩) (aog jd.out) _).setCell (p:=⟨nb,1,none⟩) (aog jd.out) _).setCell (p:=⟨nb,2,none⟩) (aog jd.out) _
   obtain⟨W6,xB⟩:=aj (W5.alloc (.cells #[] 3));have hb6:Below W5.heap.size W5 W6:=xB▸(aoa _ W5).alloc (aej _) _;have J7:=hb5.trans (hb6.mono hb5.size);have Tc:B<=wr.heap.size:=aep aN.out hsz;have hlr:ln<=67108864:=by rw[<-hln];exact HS.l p (aew hp)
   have hra:=ra.below (J7.mono Tc);have ho:=QC B (some ⟨W5.heap.size,0,none⟩) Al 0 0 ln cl [] p.labels W6 rfl hln ⟨rfl,fun h=>by omega⟩ hra (aep Tc J7.size) (.inl rfl) (by omega)
   rw[agO]at ho;refine gq9 ho (HC.below J7) (HA.below J7) hk5 (hk5.below hb6 hk5.lt) J7 fU xB (And.intro hp (And.intro hln hpn)) fun HO HC6 HA6 pV rY Zk tN Gv HP=>?_;refine gq6 hi ra rp hj hsz Tc fun HI ql zA HJ HZ5 dI=>?_;obtain⟨d0,d1,d2⟩:=cells3 hk5;obtain⟨e0,e1,e2⟩:=cells3 rY.out;rw[<-xB]at e0 e1 e2
   have aC:=ah (show some nb≠(Value.slice A3 j c3).ownBlock from fun e=>by
    obtain⟨_,_,_,hr⟩:=HC.nx;have:=(ar5 hr nb e.symm).2;have:=jd.out
    omega)
   clear fU hk5 hb5 xB hb6 J7 Tc hra ho hp hln hpn hi ra rp hj hsz hbw hBw hlt hlb HKK HB4 lX CP jd HC HA;rw[tN.out];clear tN;go_wp2_with fail
   try rw[Gv.out]
   refine HO.mono ?_;rintro e w7 ⟨A7,c7,l7,rfl,ho,Cj,hs7⟩;refine gq8 (Ord.amk HP.out.2.1 Cj hs7) (fun(j i:Nat) (h:l7[j]?=some i)=>Ord.lt Cj h) ho.len (HC6.below ho.bel) (HA6.below ho.bel) (rY.below ho.bel rY.lt) ho.own (Zk.trans (ho.bel.mono Zk.size)) fun Af apM NZ JV HA7 y8 sK Dl=>?_
   have AA:=ah (show w.heap.size<=w7.heap.size from aep HZ5.out Dl.size)
   have hb8:=(aoa w7.heap.size w7).alloc (aej _) (.cells #[] 9);have fF:=ah (show QE w7 (some ⟨w7.heap.size,0,none⟩) 0 0 (Ord.at_ p.labels (l7.take 0)) (w7.alloc (.cells #[] 9)) from⟨by simpa[Ord.at_] using qB w7 9 1,hb8⟩)
   clear ho Cj hs7 hb8 HO HC6 HA6 rY Zk pV d0 d1 d2 e0 e1 e2;go_wp2_with fail
   go_loopg [11,10] ln (fun kx x y wr=> ∃(k2:Nat) (A':Option Addr) (c':Nat),x=.int .i64 k2/\y=.slice A' k2 c'/\k2+kx=ln/\Hid (QE w7 A' c' k2 (Ord.at_ p.labels (l7.take k2)) wr))
   case atStart=>exact⟨0,_,_,rfl,rfl,by omega,fF.out⟩
   obtain⟨k2,A9,c9,rfl,rfl,hk2,hb⟩:=hrel;have cZ:Hid (QE w7 A9 c9 k2 (Ord.at_ p.labels (l7.take k2)) wr):=hb;have mP:=ah (y8.below cZ.out.2 y8.lt);obtain⟨d0,d1,d2⟩:=cells3 mP.out;clear hb fF;cases gk with
   |succ kq2=>
    have hkn2:k2<ln:=by omega
    have ar2:(k2:Int)<ln:=by omega
    have pk2:(0:Int)<=(k2:Int):=by omega
    have tk2:((k2:Int)).toNat=k2:=by omega
    have tw2:IntKind.i64.wrap ((k2:Int)+1)=(k2:Int)+1:=by unfold IntKind.wrap;simp[IntKind.signed,IntKind.bits];omega
    obtain⟨i2,hi2⟩: ∃i,l7[k2]?=some i:=⟨_,aen (by rw[NZ.out];exact hkn2)⟩
    have hin2:=apM.out k2 i2 hi2;obtain⟨y,hy⟩: ∃y,p.labels[i2]?=some y:=⟨_,aen (by rw[HP.out.2.1];exact hin2)⟩
    obtain⟨Nk,lo2,v2,rfl,Zl,hv2,hc2⟩:=(Reads.dZ (own_below sK.out cZ.out.2)).cell hkn2;rw[aeY,hi2]at hv2;cases hv2;unfold IN at hc2;have hbr:=(Dl.mono dI.out).trans (cZ.out.2.mono (aep dI.out Dl.size));obtain⟨lb3,lo3,v3,rfl,apO,hv3,hc3⟩:=(ql.below hbr).cell hin2;rw[aeY,hy]at hv3;cases hv3;obtain⟨z,hz⟩:=aj (⟨y.toArray⟩:ByteArray);unfold ST at hc3;rw[hz]at hc3;have ti2:((i2:Int)).toNat=i2:=by omega
    have pi2:(0:Int)<=(i2:Int):=by omega
    have ar7:(i2:Int)<ln:=by omega
    have h5:k2<1073741824:=by omega
    have HAT:=ah (show(Ord.at_ p.labels (l7.take (k2+1))).map ST=(Ord.at_ p.labels (l7.take k2)).map ST++[.string z] by rw[Ord.adN hi2 hy,afg];simp[ST,hz])
    have HJ2:=ah hk2;have apP:w7.heap.size<=wr.heap.size:=cZ.out.2.size;clear hi2 hin2 hy Zl apO hbr hz hk2
    go_upto_region 17 with fail
    go_region_law (first|(refine PZ rfl (.tmp 61) (.tmp 70) 34 9 (.string ⟨#[]⟩) 16 ar0 BF rfl (by decide) rfl w7.heap.size (.slice A9 k2 c9) k2 ((Ord.at_ p.labels (l7.take k2)).map ST) wr.drew rfl cZ.out.1 (.string z) rfl rfl h5 apP ?_;intro v9 w9 aF aO bI aB;obtain⟨A8,c8,rfl⟩:=aH aF)|fail)
    all_goals
     have HX9:=ah (show QE w7 A8 c8 (k2+1) (Ord.at_ p.labels (l7.take (k2+1))) w9 from⟨by rw[HAT.out];exact aF,cZ.out.2.trans (((aoa w7.heap.size wr).drew).trans aB)⟩)
     clear aF aO bI aB HAT d0 d1 d2 hc2 hc3 cZ mP;go_wp2_with fail
     go_roundg kq2
     case measure=>omega
     exact⟨k2+1,A8,c8,int_eq (by omega),rfl,by have:=HJ2.out;omega,HX9.out⟩
   |zero=>
    obtain rfl:k2=ln:=by omega
    have hlab:=cZ.out;rw[aeG (by rw[NZ.out];exact aej _),Af.out]at hlab
    refine gq4 hlab (Dl.trans (hlab.2.mono Dl.size)) (JV.below hlab.2) (HA7.below hlab.2) fun yX dG iD HA9=>?_;clear hlab hk2 JV HA7 y8 sK cZ
    go_upto_region 18 with fail
    clear d0 d1 d2;have dY:=ah (show Below wr.heap.size wr wr.drew from(aoa _ wr).drew)
    have Io:B<=wr.heap.size:=aep aN.out iD.bel.size;have hbr:=(dG.mono dI.out).trans (dY.mono Io);refine gq3 (adQ B Ap cp pn p.props wr.drew (zA.below hbr (bg.below hbr)) HP.out.2.2 (bF.ns p (aew HP.out.1)).ps (HD.np p (aew HP.out.1)) (aep Io dY.size) (by rw[<-HP.out.2.2];exact HS.np p (aew HP.out.1))) (fun(X:World) (h:ak X nb 37 #[.int .i64 p.id,.slice Al k2 cl,.slice Ap pn cp]) (ho:X.cell? ⟨w.heap.size+1+1,0,none⟩=some (.slice A3 j c3))=>show X.cell? ⟨nb,0,none⟩=some (.int .i64 p.id)/\X.cell? ⟨nb,2,none⟩=some (.slice Ap pn cp)/\X.cell? ⟨w.heap.size+1+1,0,none⟩=some (.slice A3 j c3) from by obtain⟨q0,q1,q2⟩:=cells3 h;exact⟨q0,q2,ho⟩) (fun(X:World) (hb:Below wr.heap.size wr X)=>show X.cell? ⟨w.heap.size+1+1,0,none⟩=some (.slice A3 j c3) from(iD.below hb).out.cell 0) fun eU tZ Dn=>?_
    have mG:=ah (show some nb≠(Value.slice A3 j c3).ownBlock from aC.out)
    have hl5:j<536870912:=by omega
    clear Io hbr;refine Lh 12 (fun w'=>w'.cell? ⟨nb,0,none⟩=some (.int .i64 p.id)/\w'.cell? ⟨nb,2,none⟩=some (.slice Ap pn cp)/\w'.cell? ⟨w.heap.size+1+1,0,none⟩=some (.slice A3 j c3)) (by kernel_rfl) (by kernel_rfl) (tZ.out _ (mP.below dY.out mP.lt) (Dn.out _ dY.out)) (fun hHeld=> ?_)
    simp only[ag7,agL];refine bZ 0 hHeld ?_
    (try simp only[Act.put,aes,aeD,aeE])
    refine bZ 1 hHeld ?_
    (try simp only[Act.put,aes,aeD,aeE])
    refine bZ 2 hHeld ?_
    (try simp only[Act.put,aes,aeD,aeE])
    refine bZ 3 hHeld ?_
    (try simp only[Act.put,aes,aeD,aeE])
    refine bZ 4 hHeld ?_
    (try simp only[Act.put,aes,aeD,aeE])
    refine bZ 5 hHeld ?_
    (try simp only[Act.put,aes,aeD,aeE])
    refine bZ 6 hHeld ?_
    (try simp only[Act.put,aes,aeD,aeE])
    clear hHeld;refine asN (rs:=[7]) (by kernel_rfl) (by simp) (asC (by simp only[aeN,aeQ,aev];rfl) (fun K hK=> ?_) asL)
    go_simp
    go_at_call 68
    refine eU.mono ?_;rintro e jg ⟨v11,rfl,Ip,Dh⟩;have lM:=dY.trans (Dh.mono dY.size);have gB:=mP.below lM mP.lt;obtain⟨AP,cP,rfl⟩:=Ip.form;have hll:(Gr.vG p.labels).length=k2:=(by unfold Gr.vG Gr.mY;rw[atB];exact HP.out.2.1)
    have OA:iP jg w.heap.size (Gr.sQ p,[.int .i64 p.id,.slice A9 k2 c9,.slice AP (Gr.kV p.props).length cP]):=⟨_,_,rfl,by show jg.ownsRow _ _ _ _ (Gr.vG p.labels).length _;rw[hll];exact own_base (own_below yX.out.1 lM) AA.out,Ip.base (aep iD.bel.size dY.size)⟩
    obtain⟨Zm,Am,hs11⟩:=(iD.below lM).node (wB.out j i p HI.out HP.out.1) OA;refine gq3 Am hs11 (HA9.below lM) fun qX yZ Zn=>?_;have e4:=Dn.out _ lM;have e5:=Dn.out _ (lM.alloc lM.size (.cells #[.int .i64 p.id,.slice A9 k2 c9,.slice AP (Gr.kV p.props).length cP] 37));have OB:=aep iD.bel.size lM.size;obtain⟨pl,hpl⟩:=aj ((Gr.kV p.props).length);rw[hpl]at yZ e5⊢;clear OA Am hs11 Ip hll;go_wp2_with fail;refine hK.out _ _ (tZ.out _ gB e4) (fun hHeld=> ?_)
    clear hK K
    (try simp only[Act.put,aes,aeD,aeE])
    refine bZ 8 hHeld ?_
    (try simp only[Act.put,aes,aeD,aeE])
    clear hHeld;refine asN (rs:=[9]) (by kernel_rfl) (by simp) (asC (by simp only[aeN,aeQ,aev];rfl) (fun K hK=> ?_) asL)
    go_simp;refine hK.out _ _ (tZ.out _ (gB.alloc _) e5) (fun hHeld=> ?_)
    clear hK K
    (try simp only[Act.put,aes,aeD,aeE])
    clear hHeld;refine asN (rs:=[10]) (by kernel_rfl) (by simp) (asC (by simp only[aeN,aeQ,aev];rfl) (fun K hK=> ?_) asL)
    refine FV rfl (.tmp 73) (.tmp 81) 23 37 (.agg #[.int .i64 0,.slice none 0 0,.slice none 0 0]) 3 56 as6 Ve rfl (by decide) (by decide) rfl w.heap.size (.slice A3 j c3) j Zm jg rfl qX.out [.int .i64 p.id,.slice A9 k2 c9,.slice AP pl cP] _ rfl rfl (by simp[Value.oneCell']) rfl hl5 OB ?_
    intro v12 w12 Iq Dp Zo Zp;obtain⟨hob,OC⟩:=yZ.out w12 v12 Dp Iq;have hk12:=gB.grown Dp mG.out;obtain⟨AN,cN,rfl⟩:=aH Iq;have Zq:=ah (show AtS w _ co k l (w12.setCell ⟨w.heap.size+2,0,none⟩ (.slice AN (j+1) cN)) from zY (IV Zn.out qX.out Dp (by decide)) hob (by decide))
    have JZ:=ah OC;have f0:w12.cell? ⟨w.heap.size+1+1,0,none⟩=some (.slice A3 j c3):=hob.cell 0;have f1:w12.frozen? ⟨w.heap.size+1+1,0,none⟩=false:=hob.frozen 0;refine hK.out _ _ (tZ.out _ hk12 f0) (fun hHeld=> ?_)
    clear hK K
    (try simp only[Act.put,aes,aeD,aeE])
    refine bZ 11 hHeld ?_
    (try simp only[Act.put,aes,aeD,aeE])
    clear hHeld;refine atu (by kernel_rfl) ?_ _
    refine Lj (by simp only[aeN,aeQ,aev];rfl) (fun K hK=> ?_)
    go_simp;refine hK.out _ _ ?_;clear hK K;clear f0 f1 hob OC hk12 gB lM Dh Zp Zo Iq Dp OB e4 e5 tZ Dn eU qX yZ iD HA9;go_wp2_with fail
    go_roundg kq
    case measure=>omega
    exact⟨j+1,AN,cN,int_eq (by omega),by have:=HJ.out;omega,JZ.out,Zq.out⟩
  |zero=>
   obtain rfl:j=k:=by omega
   obtain⟨wN,rfl⟩: ∃x,x=wr:=⟨_,rfl⟩;have zh:=ah HC.out;obtain⟨nU,uZ⟩:=aj (wN.alloc (.cells #[] 3));have AY:Below wN.heap.size wN nU:=uZ▸(aoa _ wN).alloc (aej _) _;have HI0:=ah (show Dk wN (some ⟨wN.heap.size,0,none⟩) 0 0 ((g.ay.take 0).map Gr.R.id) nU from⟨by rw[<-uZ];simpa using qB wN 3 1,AY⟩)
   have ET:=ah uZ;clear AY hj HC HA o0 uZ wB aA bY;go_wp2_with fail;rw[ET.out];clear ET b0 b1
   go_loopg [12,4] m (fun kx x y wr=> ∃(k:Nat) (A':Option Addr) (c':Nat),x=.int .i64 k/\y=.slice A' k c'/\k+kx=m/\Hid (Dk wN A' c' k ((g.ay.take k).map Gr.R.id) wr))
   case atStart=>exact⟨0,_,_,rfl,rfl,by omega,HI0.out⟩
   obtain⟨k,A',c',rfl,rfl,hk,hb⟩:=hrel;have HB:Hid (Dk wN A' c' k ((g.ay.take k).map Gr.R.id) wr):=hb;have HC:=ah (zh.below HB.out.2);clear hb HI0;obtain⟨b0,b1⟩:=cells2 HC.box;cases gk with
   |succ kq=>
    have hkn:k<m:=by omega
    have dW:(k:Int)<m:=by omega
    have pk:(0:Int)<=(k:Int):=by omega
    have tk:((k:Int)).toNat=k:=by omega
    have tw:IntKind.i64.wrap ((k:Int)+1)=(k:Int)+1:=by unfold IntKind.wrap;simp[IntKind.signed,IntKind.bits];omega
    obtain⟨p,hp⟩: ∃p,g.ay[k]?=some p:=⟨_,aen (by rw[Dj.out];exact hkn)⟩
    have hBw:=HC.bel.mono aN.out;obtain⟨b,o,cs,rfl,hlt,hnc,hl3,hcell⟩:=(HR.below hBw (lU.below hBw)) k p hp;obtain⟨Ap,cp,rfl,rp⟩:=hnc;have p0:=hcell 0 _ rfl;rw[agw]at p0;have HP:=ah (show(g.ay.take (k+1)).map Gr.R.id=(g.ay.take k).map Gr.R.id++[p.id] by rw[afS,hp,afg];rfl)
    have HK:=ah hk;have h5:k<1073741824:=by omega
    clear hk hp hlt hBw hcell hl3 rp;go_wp2_with (at_builtin;refine jD rfl (.tmp 92) (.tmp 99) 138 3 (.int .i64 0) 8 asG BL rfl (by decide) rfl wN.heap.size (.slice A' k c') k (((g.ay.take k).map Gr.R.id).map I64) wr rfl HB.out.1 (.int .i64 p.id) rfl rfl h5 HB.out.2.size ?_)
    intro v9 w9 aF aO bI aB;obtain⟨A9,c9,rfl⟩:=aH aF;have HX:=ah (HB.add HP.out (by rw[ahs,aq5];exact aF) aB)
    clear aF aO bI aB HC HP p0 b0 b1;go_wp2
    go_roundg kq
    case measure=>omega
    exact⟨k+1,A9,c9,int_eq (by omega),rfl,by have:=HK.out;omega,HX.out⟩
   |zero=>
    obtain rfl:k=m:=by omega
    obtain⟨W2,hW2⟩:=aj (wr.alloc (.cells #[] 9));have hb2:Below wr.heap.size wr W2:=hW2▸(aoa _ wr).alloc (aej _) _;have xR:=HB.out.1;rw[aeG (by rw[Dj.out];exact aej _)]at xR
    have ho:=QC W2.heap.size A' (some ⟨wr.heap.size,0,none⟩) k c' 0 0 (g.ay.map Gr.R.id) [] W2 (by rw[aeP];exact Dj.out) rfl (Reads.dZ (own_below xR hb2)) ⟨rfl,fun h=>by omega⟩ (aej _) (.inr rfl) (by omega)
    rw[agw]at ho;refine gq3 ho (HC.below hb2) hW2 fun HO HC2 HW2=>?_;clear hk hW2 hb2 xR ho;go_wp2_with fail
    try rw[HW2.out]
    refine HO.mono ?_;rintro e w3 ⟨Ao,co,l,rfl,ho,hp,hs⟩;refine gq4 (fun(j i:Nat) (p:Gr.R) (h1:l[j]?=some i) (h2:g.ay[i]?=some p)=>Gr.amn Dj.out HD.ri hp hs h1 h2) (fun(j i:Nat) (h:l[j]?=some i)=>Ord.lt hp h) ho.len (HC2.below ho.bel) fun wB aA bY jk=>?_
    have Il:=ah (show AtS w Ao co k l w3 from own_base ho.own HC2.bel.size)
    clear ho hp hs HC HC2 HB HO b0 b1 zh;go_wp2_with fail
    go_loopg [13] k (fun kx x wr=> ∃(j2:Nat) (A':Option Addr) (c':Nat),x=.int .i64 j2/\j2+kx=k/\xQ w (.slice An j cn) (.slice Ar k cr) (Gr.canon g) j j2 (.slice A3 j c3) (.slice A' j2 c') wr/\Hid (AtS w Ao co k l wr))
    case atStart=>exact⟨0,_,_,rfl,by omega,jk.out,Il.out⟩
    obtain⟨j2,A2,c2,rfl,hj,hc,ha⟩:=hrel;have HC:=ah hc;have HA:Hid (AtS w Ao co k l wr):=ha;obtain⟨b0,b1⟩:=cells2 hc.box;obtain⟨o0,o1⟩:=cells2 (show ak wr (w.heap.size+1+1) _ _ from hc.out)
    clear jk hc ha Il;cases gk with
    |succ kq=>
     have hjn:j2<k:=by omega
     have BQ:(j2:Int)<k:=by omega
     have pj:(0:Int)<=(j2:Int):=by omega
     have tj:((j2:Int)).toNat=j2:=by omega
     have tw:IntKind.i64.wrap ((j2:Int)+1)=(j2:Int)+1:=by unfold IntKind.wrap;simp[IntKind.signed,IntKind.bits];omega
     obtain⟨i,hi⟩: ∃i,l[j2]?=some i:=⟨_,aen (by rw[bY.out];exact hjn)⟩
     have hin:=aA.out j2 i hi;obtain⟨p,hp⟩: ∃p,g.ay[i]?=some p:=⟨_,aen (by rw[Dj.out];exact hin)⟩
     obtain⟨lb,lo,v,rfl,hlb,hv,hc⟩:=(Reads.dZ HA.out).cell hjn;rw[aeY,hi]at hv;cases hv;unfold IN at hc;have ti:((i:Int)).toNat=i:=by omega
     have pi:(0:Int)<=(i:Int):=by omega
     have Nv:(i:Int)<k:=by omega
     have hbw:=HC.bel;have hsz:=hbw.size;have hBw:=hbw.mono aN.out;obtain⟨b,o,cs,rfl,hlt,hnc,hl3,hcell⟩:=(HR.below hBw (lU.below hBw)) i p hp;obtain⟨Ap,cp,rfl,rp⟩:=hnc;have p0:=hcell 0 _ rfl;have p1:=hcell 1 _ rfl;have p2:=hcell 2 _ rfl;have p3:=hcell 3 _ rfl;have p4:=hcell 4 _ rfl;rw[agw]at p0;obtain⟨pn,hpn⟩:=aj p.props.length;obtain⟨zt,aK⟩:=aj (⟨p.type.toArray⟩:ByteArray);have e0:ST p.type=.string zt:=by rw[<-aK];rfl
     rw[e0]at p1;rw[hpn]at p4
     go_upto_region 28 with fail
     clear hin hl3 hcell;obtain⟨nb,hnb⟩:=aj wr.heap.size;have Oz:lb<wr.heap.size:=hlb;have zL:b<wr.heap.size:=afn hlt (aep aN.out hsz)
     have HKK:=ah (fun(w':World) (hb:Below wr.heap.size wr w')=>show w'.cell? ⟨w.heap.size,1,none⟩=some (.slice (some ⟨b,o,none⟩) k cr)/\w'.cell? ⟨lb,lo+j2,none⟩=some (.int .i64 (i:Int))/\w'.cell? ⟨b,o+i*5,none⟩=some (.int .i64 p.id)/\w'.cell? ⟨b,o+i*5+1,none⟩=some (.string zt)/\w'.cell? ⟨b,o+i*5+2,none⟩=some (.int .i64 p.src)/\w'.cell? ⟨b,o+i*5+3,none⟩=some (.int .i64 p.dst)/\w'.cell? ⟨b,o+i*5+4,none⟩=some (.slice Ap pn cp) from
      ⟨(hb.cell (p:=⟨w.heap.size,1,none⟩) HC.box.lt).trans b1,(hb.cell (p:=⟨lb,lo+j2,none⟩) Oz).trans hc,(hb.cell (p:=⟨b,o+i*5,none⟩) zL).trans p0,(hb.cell (p:=⟨b,o+i*5+1,none⟩) zL).trans p1,(hb.cell (p:=⟨b,o+i*5+2,none⟩) zL).trans p2,(hb.cell (p:=⟨b,o+i*5+3,none⟩) zL).trans p3,(hb.cell (p:=⟨b,o+i*5+4,none⟩) zL).trans p4⟩)
     have jd:=ah hnb;obtain⟨W4,tX⟩:=aj ((wr.alloc (.cells #[.int .i64 0,.string ⟨#[]⟩,.int .i64 0,.int .i64 0,.slice none 0 0] 74)).drew);have hk4:ak W4 nb 74 #[.int .i64 0,.string ⟨#[]⟩,.int .i64 0,.int .i64 0,.slice none 0 0]:=by rw[<-tX,<-hnb];exact ak.new wr _ _
     have hb4:Below wr.heap.size wr W4:=tX▸((aoa wr.heap.size wr).alloc (aej _) _).drew;refine gq3 hk4 hb4 tX fun lX HB4 CP=>?_;clear hnb tX hk4 hb4 Oz zL b0 b1 p0 p1 p2 p3 p4 hc o0 o1;refine Lh 9 (fun w'=>w'.cell? ⟨w.heap.size,1,none⟩=some (.slice (some ⟨b,o,none⟩) k cr)/\w'.cell? ⟨lb,lo+j2,none⟩=some (.int .i64 (i:Int))/\w'.cell? ⟨b,o+i*5,none⟩=some (.int .i64 p.id)/\w'.cell? ⟨b,o+i*5+1,none⟩=some (.string zt)/\w'.cell? ⟨b,o+i*5+2,none⟩=some (.int .i64 p.src)/\w'.cell? ⟨b,o+i*5+3,none⟩=some (.int .i64 p.dst)/\w'.cell? ⟨b,o+i*5+4,none⟩=some (.slice Ap pn cp)) (by kernel_rfl) (by kernel_rfl) (HKK.out _ ((aoa wr.heap.size wr).drew)) (fun hHeld=> ?_)
     simp only[ag7,agL];refine bZ 0 hHeld ?_
     (try simp only[Act.put,aes,aeD,aeE])
     refine bZ 1 hHeld ?_
     (try simp only[Act.put,aes,aeD,aeE])
     refine bZ 2 hHeld ?_
     (try simp only[Act.put,aes,aeD,aeE])
     refine bZ 3 hHeld ?_
     (try simp only[Act.put,aes,aeD,aeE])
     refine bZ 4 hHeld ?_
     (try simp only[Act.put,aes,aeD,aeE])
     refine bZ 5 hHeld ?_
     (try simp only[Act.put,aes,aeD,aeE])
     refine bZ 6 hHeld ?_
     (try simp only[Act.put,aes,aeD,aeE])
     refine bZ 7 hHeld ?_
     (try simp only[Act.put,aes,aeD,aeE])
     clear hHeld;refine asN (rs:=[8]) (by kernel_rfl) (by simp) (asC (by simp only[aeN,aeQ,aev];rfl) (fun K hK=> ?_) asL)
     go_simp
     try rw[CP.out]
     try rw[jd.out]
     obtain⟨f0,f1,f2,f3,f4⟩:=cells5 lX.out;have g0:=lX.frozen 0;have g1:=lX.frozen 1;have g2:=lX.frozen 2;have g3:=lX.frozen 3;have g4:=lX.frozen 4;refine hK.out _ _ (HKK.out _ HB4.out) (fun hHeld=> ?_)
     clear hK K
     (try simp only[Act.put,aes,aeD,aeE])
     clear hHeld;refine atu (by kernel_rfl) ?_ _
     refine Lj (by simp only[aeN,aeQ,aev];rfl) (fun K hK=> ?_)
     go_simp;refine hK.out _ _ ?_;clear hK K;obtain⟨W5,fU⟩:=aj (((((W4.setCell ⟨nb,0,none⟩ (.int .i64 p.id)).setCell ⟨nb,1,none⟩ (.string zt)).setCell ⟨nb,2,none⟩ (.int .i64 p.src)).setCell ⟨nb,3,none⟩ (.int .i64 p.dst)).setCell ⟨nb,4,none⟩ (.slice Ap pn cp));have hk5:ak W5 nb 74 #[.int .i64 p.id,.string zt,.int .i64 p.src,.int .i64 p.dst,.slice Ap pn cp]:=by rw[<-fU];exact ak.cast (((((lX.aG 0 _).aG 1 _).aG 2 _).aG 3 _).aG 4 _) (by simp)
     have hb5:Below wr.heap.size wr W5:=by
      rw[<-fU];exact((((HB4.setCell (p:=⟨nb,0,none⟩) (aog jd.out) _).setCell (p:=⟨nb,1,none⟩) (aog jd.out) _).setCell (p:=⟨nb,2,none⟩) (aog jd.out) _).setCell (p:=⟨nb,3,none⟩) (aog jd.out) _).setCell (p:=⟨nb,4,none⟩) (aog jd.out) _
     have mG:=ah (show some nb≠(Value.slice A2 j2 c2).ownBlock from fun e=>by
      obtain⟨_,_,_,hr⟩:=HC.rx;have:=(ar5 hr nb e.symm).2;have:=jd.out
      omega)
     have xJ:=ah (HC.below hb5);have HA5:=ah (HA.below hb5);have dY:=ah (show Below W5.heap.size W5 W5.drew from(aoa _ W5).drew)
     have Io:B<=W5.heap.size:=aep aN.out xJ.bel.size;have hbr:=(hb5.mono (aep aN.out hsz)).trans (dY.mono Io);refine gq8 (adQ B Ap cp pn p.props W5.drew (rp.below hbr (bg.below hbr)) hpn (bF.rs p (aew hp)).ps (HD.rp p (aew hp)) (aep Io dY.size) (by rw[<-hpn];exact HS.rp p (aew hp))) hk5 (And.intro hp (And.intro hpn e0)) hi hj fU (fun(X:World) (h:ak X nb 74 #[.int .i64 p.id,.string zt,.int .i64 p.src,.int .i64 p.dst,.slice Ap pn cp]) (ho:X.cell? ⟨w.heap.size+1+1,1,none⟩=some (.slice A2 j2 c2))=>show X.cell? ⟨nb,0,none⟩=some (.int .i64 p.id)/\X.cell? ⟨nb,1,none⟩=some (.string zt)/\X.cell? ⟨nb,2,none⟩=some (.int .i64 p.src)/\X.cell? ⟨nb,3,none⟩=some (.int .i64 p.dst)/\X.cell? ⟨nb,4,none⟩=some (.slice Ap pn cp)/\X.cell? ⟨w.heap.size+1+1,1,none⟩=some (.slice A2 j2 c2) from by obtain⟨q0,q1,q2,q3,q4⟩:=cells5 h;exact⟨q0,q1,q2,q3,q4,ho⟩) (fun(X:World) (hb:Below W5.heap.size W5 X)=>show X.cell? ⟨w.heap.size+1+1,1,none⟩=some (.slice A2 j2 c2) from(xJ.below hb).out.cell 1) fun eU pV HP HI HJ tN tZ Dn=>?_
     have hl5:j2<536870912:=by omega
     clear fU hk5 hb5 Io hbr hp hpn aK hi rp hj hsz hbw hBw hlt hlb HKK HB4 lX CP jd HC HA e0;rw[tN.out];clear tN
     go_upto_region 29 with fail
     refine Lh 17 (fun w'=>w'.cell? ⟨nb,0,none⟩=some (.int .i64 p.id)/\w'.cell? ⟨nb,1,none⟩=some (.string zt)/\w'.cell? ⟨nb,2,none⟩=some (.int .i64 p.src)/\w'.cell? ⟨nb,3,none⟩=some (.int .i64 p.dst)/\w'.cell? ⟨nb,4,none⟩=some (.slice Ap pn cp)/\w'.cell? ⟨w.heap.size+1+1,1,none⟩=some (.slice A2 j2 c2)) (by kernel_rfl) (by kernel_rfl) (tZ.out _ (pV.below dY.out pV.lt) (Dn.out _ dY.out)) (fun hHeld=> ?_)
     simp only[ag7,agL];refine bZ 0 hHeld ?_
     (try simp only[Act.put,aes,aeD,aeE])
     refine bZ 1 hHeld ?_
     (try simp only[Act.put,aes,aeD,aeE])
     refine bZ 2 hHeld ?_
     (try simp only[Act.put,aes,aeD,aeE])
     refine bZ 3 hHeld ?_
     (try simp only[Act.put,aes,aeD,aeE])
     refine bZ 4 hHeld ?_
     (try simp only[Act.put,aes,aeD,aeE])
     refine bZ 5 hHeld ?_
     (try simp only[Act.put,aes,aeD,aeE])
     refine bZ 6 hHeld ?_
     (try simp only[Act.put,aes,aeD,aeE])
     refine bZ 7 hHeld ?_
     (try simp only[Act.put,aes,aeD,aeE])
     refine bZ 8 hHeld ?_
     (try simp only[Act.put,aes,aeD,aeE])
     refine bZ 9 hHeld ?_
     (try simp only[Act.put,aes,aeD,aeE])
     refine bZ 10 hHeld ?_
     (try simp only[Act.put,aes,aeD,aeE])
     refine bZ 11 hHeld ?_
     (try simp only[Act.put,aes,aeD,aeE])
     clear hHeld;refine asN (rs:=[12]) (by kernel_rfl) (by simp) (asC (by simp only[aeN,aeQ,aev];rfl) (fun K hK=> ?_) asL)
     go_simp
     go_at_call 68
     refine eU.mono ?_;rintro e jg ⟨v11,rfl,Ip,Dh⟩;have lM:=dY.trans (Dh.mono dY.size);have gB:=pV.below lM pV.lt;obtain⟨AP,cP,rfl⟩:=Ip.form;have OA:iQ jg w.heap.size (Gr.vH p,[.int .i64 p.id,.string zt,.int .i64 p.src,.int .i64 p.dst,.slice AP (Gr.kV p.props).length cP]):=⟨_,by rw[<-HP.out.2.2];rfl,Ip.base (aep xJ.bel.size dY.size)⟩
     obtain⟨Zm,Am,hs11⟩:=(xJ.below lM).rel (wB.out j2 i p HI.out HP.out.1) OA;refine gq3 Am hs11 (HA5.below lM) fun qX yZ Zn=>?_;have e4:=Dn.out _ lM;have e5:=Dn.out _ (lM.alloc lM.size (.cells #[.int .i64 p.id,.string zt,.int .i64 p.src,.int .i64 p.dst,.slice AP (Gr.kV p.props).length cP] 74));have OB:=aep xJ.bel.size lM.size;obtain⟨pl,hpl⟩:=aj ((Gr.kV p.props).length);rw[hpl]at yZ e5⊢;clear OA Am hs11 Ip;go_wp2_with fail;refine hK.out _ _ (tZ.out _ gB e4) (fun hHeld=> ?_)
     clear hK K
     (try simp only[Act.put,aes,aeD,aeE])
     refine bZ 13 hHeld ?_
     (try simp only[Act.put,aes,aeD,aeE])
     clear hHeld;refine asN (rs:=[14]) (by kernel_rfl) (by simp) (asC (by simp only[aeN,aeQ,aev];rfl) (fun K hK=> ?_) asL)
     go_simp;refine hK.out _ _ (tZ.out _ (gB.alloc _) e5) (fun hHeld=> ?_)
     clear hK K
     (try simp only[Act.put,aes,aeD,aeE])
     clear hHeld;refine asN (rs:=[15]) (by kernel_rfl) (by simp) (asC (by simp only[aeN,aeQ,aev];rfl) (fun K hK=> ?_) asL)
     refine FV rfl (.tmp 119) (.tmp 132) 24 74 (.agg #[.int .i64 0,.string ⟨#[]⟩,.int .i64 0,.int .i64 0,.slice none 0 0]) 5 64 as7 Vf rfl (by decide) (by decide) rfl w.heap.size (.slice A2 j2 c2) j2 Zm jg rfl qX.out [.int .i64 p.id,.string zt,.int .i64 p.src,.int .i64 p.dst,.slice AP pl cP] _ rfl rfl (by simp[Value.oneCell']) rfl hl5 OB ?_
     intro v12 w12 Iq Dp Zo Zp;obtain⟨hob,OC⟩:=yZ.out w12 v12 Dp Iq;have hk12:=gB.grown Dp mG.out;obtain⟨AN,cN,rfl⟩:=aH Iq;have Zq:=ah (show AtS w _ co k l (w12.setCell ⟨w.heap.size+2,1,none⟩ (.slice AN (j2+1) cN)) from zY (IV Zn.out qX.out Dp (by decide)) hob (by decide))
     have JZ:=ah OC;have f0:w12.cell? ⟨w.heap.size+1+1,1,none⟩=some (.slice A2 j2 c2):=hob.cell 1;have f1:w12.frozen? ⟨w.heap.size+1+1,1,none⟩=false:=hob.frozen 1;refine hK.out _ _ (tZ.out _ hk12 f0) (fun hHeld=> ?_)
     clear hK K
     (try simp only[Act.put,aes,aeD,aeE])
     refine bZ 16 hHeld ?_
     (try simp only[Act.put,aes,aeD,aeE])
     clear hHeld;refine atu (by kernel_rfl) ?_ _
     refine Lj (by simp only[aeN,aeQ,aev];rfl) (fun K hK=> ?_)
     go_simp;refine hK.out _ _ ?_;clear hK K;clear f0 f1 hob OC hk12 gB lM Dh Zp Zo Iq Dp OB e4 e5 tZ Dn eU qX yZ xJ HA5;go_wp2_with fail
     go_roundg kq
     case measure=>omega
     exact⟨j2+1,AN,cN,int_eq (by omega),by have:=HJ.out;omega,JZ.out,Zq.out⟩
    |zero=>
     obtain rfl:j2=k:=by omega
     have hres:=HC.res;obtain⟨q0,q1⟩:=cells2 hres;have f0:=hres.frozen 0;have f1:=hres.frozen 1
     have hgo:dV wr w.heap.size (.agg #[.slice A3 j c3,.slice A2 j2 c2]) (Gr.canon g):=by
      obtain⟨ln,x1,x2,x3⟩:=HC.nx;obtain⟨lr,y1,y2,y3⟩:=HC.rx;have hn:(Gr.canon g).nodes.length=j:=(by simp[Gr.canon,Gr.mY,bT.out])
      have hm:(Gr.canon g).ay.length=j2:=(by simp[Gr.canon,Gr.mY,Dj.out])
      exact⟨_,_,ln,lr,rfl,by rw[x1,<-hn,ao2],x2,by rw[hn];exact x3,by rw[y1,<-hm,ao2],y2,by rw[hm];exact y3⟩
     have k4:=Kt.cell (base:=w.heap.size) hres (by omega) 0 (.slice A3 j c3)
     have hr4:=hres.aG 0 (.slice A3 j c3);have k5:=Kt.cell (base:=w.heap.size) hr4 (by omega) 1 (.slice A2 j2 c2)
     have k6:=k4.trans k5;have HF:=ah (And.intro (hgo.kt k6 (by decide) (by decide) (by decide) (by decide) (by decide)) (And.intro (ak.cast (hr4.aG 1 (.slice A2 j2 c2)) (by simp):ak _ _ _ #[.slice A3 j c3,.slice A2 j2 c2]) (HC.bel.trans k6.bel)))
     clear hres hgo k4 hr4 k5 k6;go_wp2_with fail;refine acG rfl (by simp) HF.out.2.1 ⟨_,rfl,HF.out.1,HF.out.2.2⟩
end Go.Proofs.YtdijgcnlbfgkdaaGreatDoor
namespace Go.Proofs.YtdijgcnlbfgkdaaGreatDoor.Gr
open Go Go.Proofs.Tryz
def Asc (l:List L):Prop:=l.Pairwise (· < ·)
def amq {l:List L} (h:Asc l):l.Nodup:=List.Pairwise.imp (fun {a b} h e=>by subst e;exact List.lt_irrefl _ h) h
structure kP (a b:List L) (i j:Nat) (out:List L):Prop where
 OD:Asc out
 mem: ∀x,x∈out↔x∈a.take i\/x∈b.take j
 le: ∀x∈out,(∀y∈a.drop i,x<=y)/\(∀y∈b.drop j,x<=y)
def kP.start (a b:List L):kP a b 0 0 []:=⟨List.Pairwise.nil,fun x=>by simp,fun x h=>by simp at h⟩
def kP.symm {a b:List L} {i j:Nat} {out:List L} (h:kP a b i j out):kP b a j i out:=
 ⟨h.OD,fun x=>(h.mem x).trans Or.comm,fun x hx=>⟨(h.le x hx).2,(h.le x hx).1⟩⟩
def adR {a:List L} {i:Nat} {x:L} (hx:a[i]?=some x) (y:L):y∈a.take (i+1)↔y∈a.take i\/y=x:=by
 rw[afS,hx];simp
def adS {a:List L} {i:Nat} {x:L} (ha:Asc a) (hx:a[i]?=some x): ∀y∈a.drop (i+1),x<y:=fun y hy=>by
 obtain⟨hi,e⟩:=aeK.1 hx;have:(a.drop i).Pairwise (· < ·):=aoy (apN i a) ha
 rw[afk hi,e]at this;exact(List.pairwise_cons.1 this).1 y hy
def kP.step {a b:List L} {i j:Nat} {out:List L} {x:L} (h:kP a b i j out) (ha:Asc a) (hx:a[i]?=some x) (hb: ∀y∈b.drop j,x<=y):
  (out.getLast?=some x->kP a b (i+1) j out)/\(out.getLast?≠some x->kP a b (i+1) j (out++[x])):=by
 have hin:x∈a.drop i:=by
  obtain⟨hi,e⟩:=aeK.1 hx;rw[afk hi,e];simp
 have hsub: ∀y∈a.drop (i+1),y∈a.drop i:=fun y hy=>by
  obtain⟨hi,e⟩:=aeK.1 hx;rw[afk hi];exact ahj _ hy
 constructor
 ·intro hl
  refine⟨h.OD,fun y=> ?_,fun y hy=>⟨fun z hz=>(h.le y hy).1 z (hsub z hz),(h.le y hy).2⟩⟩
  rw[adR hx,h.mem]
  constructor
  ·rintro(h1|h1)
   ·exact .inl (.inl h1)
   exact .inr h1
  rintro((h1|rfl)|h1)
  ·exact .inl h1
  ·exact(h.mem _).1 (List.mem_of_getLast? hl)
  exact .inr h1
 intro hl;refine⟨aok.2 ⟨h.OD,by simp,fun y hy z hz=> ?_⟩,fun y=> ?_,fun y hy=> ?_⟩
 ·rw[afm.1 hz]
  have hle:=(h.le y hy).1 x hin
  rcases List.le_iff_lt_or_eq.1 hle with h1|rfl
  ·exact h1
  exfalso
  cases out with
  |nil=>simp at hy
  |cons o r=>
   obtain⟨q,hq⟩: ∃q,(o :: r).getLast?=some q:=⟨_,List.getLast?_eq_some_getLast (by simp)⟩
   have hqm:=List.mem_of_getLast? hq;have hqx:=(h.le q hqm).1 y hin
   have hyq:y<=q:=by
    obtain⟨ys,e⟩:=List.getLast?_eq_some_iff.1 hq;have hp:=h.OD;unfold Asc at hp;rw[e]at hp hy
    rcases afq.1 hy with h1|h1
    ·exact aq6 ((aok.1 hp).2.2 y h1 q (by simp))
    rw[afm.1 h1];exact List.le_refl _
   exact hl (by rw[hq,List.le_antisymm hqx hyq])
 ·rw[afq,h.mem,adR hx,afm]
  constructor
  ·rintro((h1|h1)|h1)
   ·exact .inl (.inl h1)
   ·exact .inr h1
   exact .inl (.inr h1)
  rintro((h1|h1)|h1)
  ·exact .inl (.inl h1)
  ·exact .inr h1
  exact .inl (.inr h1)
 rcases afq.1 hy with h1|h1
 ·exact⟨fun z hz=>(h.le y h1).1 z (hsub z hz),(h.le y h1).2⟩
 rw[afm.1 h1];exact⟨fun z hz=>aq6 (adS ha hx z hz),hb⟩
def adT {b:List L} {j:Nat} {x y:L} (hb:Asc b) (hy:b[j]?=some y) (h:x<=y): ∀z∈b.drop j,x<=z:=fun z hz=>by
 obtain⟨hj,e⟩:=aeK.1 hy;rw[afk hj,e]at hz
 rcases aga.1 hz with rfl|h1
 ·exact h
 exact arR h (aq6 (adS hb hy z h1))
def kP.done {a b out:List L} (h:kP a b a.length b.length out) {s:List L} (hs: ∀x,x∈s↔x∈a\/x∈b):Asc out/\ ∀x,x∈out↔x∈s:=
 ⟨h.OD,fun x=>by rw[h.mem,hs,ao2,ao2]⟩
def bJ (s out:List L):Prop:=Asc out/\ ∀x,x∈out↔x∈s
def bJ.length {s out:List L} (h:bJ s out):out.length=(dedup s).length:=ajp (amq h.1) h.2
def bJ.small {s:List L} (h:s.length<2):bJ s s:=by
 match s,h with
 |[],_=>exact⟨List.Pairwise.nil,fun x=>Iff.rfl⟩
 |[a],_=>exact⟨by unfold Asc;simp,fun x=>Iff.rfl⟩
end Go.Proofs.YtdijgcnlbfgkdaaGreatDoor.Gr
