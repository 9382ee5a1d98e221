/- Contracts and plain laws,part 35. -/
import Derived.Test.YtkdakckjafomhaaGreatDoorUW34
import Derived.Deep.WholeRow
set_option maxHeartbeats 64000000
set_option maxRecDepth 1000000
set_option linter.all false
namespace Go.Proofs.YtkdakckjafomhaaGreatDoor
open Go.RowKit
def There (V:World) (b:Nat) (ids:List Int):Prop:= ∃cs:Array Value,au V b 59 cs/\cs.size=1024/\ ∀i:Nat,i<1024->cs[i]?=some (.bool (decide ((i:Int)∈ids)))
theorem There.below {V V':World} {b:Nat} {ids:List Int} (h:There V b ids) (hb:Below V.heap.size V V'):There V' b ids:=by
 obtain⟨cs,h1,h2⟩:=h;exact⟨cs,h1.below hb h1.lt,h2⟩
theorem There.cell {V:World} {b:Nat} {ids:List Int} (h:There V b ids) {i:Nat} (hi:i<1024):V.cell? ⟨b,i,none⟩=some (.bool (decide ((i:Int)∈ids)))/\V.frozen? ⟨b,i,none⟩=false:=by
 obtain⟨cs,h1,h2,h3⟩:=h;exact⟨(h1.cell i).trans (h3 i hi),h1.frozen i⟩
theorem There.put {V:World} {b:Nat} {ids:List Int} (h:There V b ids) {i:Nat} (hi:i<1024):There (V.setCell ⟨b,i,none⟩ (.bool true)) b (ids++[(i:Int)]):=by
 obtain⟨cs,h1,h2,h3⟩:=h
 refine⟨_,h1.bP i (.bool true),by rw[ara];exact h2,fun j hj=> ?_⟩
 rw[aoj]
 split
 ·rename_i e
  subst e;rw[adk (by omega)]
  simp
 rename_i e;rw[h3 j hj]
 congr 2
 rw[agn];simp only[aei,aem,ael]
 constructor
 ·exact .inl
 rintro(h|h)
 ·exact h
 omega
structure zW (w:World) (u v:Value) (ids:List Int) (V:World):Prop where
 box:au V w.heap.size 26 #[u,v]
 arr:There V (w.heap.size+1) ids
 bel:Below w.heap.size w V
theorem zW.below {w V V':World} {u v:Value} {ids:List Int} (h:zW w u v ids V) (hb:Below V.heap.size V V'):zW w u v ids V':=
 ⟨h.box.below hb h.box.lt,h.arr.below hb,h.bel.trans (hb.mono h.bel.size)⟩
theorem zW.put {w V:World} {u v:Value} {ids:List Int} (h:zW w u v ids V) {i:Nat} (hi:i<1024):zW w u v (ids++[(i:Int)]) (V.setCell ⟨w.heap.size+1,i,none⟩ (.bool true)):=
 ⟨h.box.far (by simp) _,h.arr.put hi,h.bel.setCell (p:=⟨w.heap.size+1,i,none⟩) (by simp) _⟩
def zC (p:Option Int):Int:=p.getD (-1)
theorem alr:(Tryz.prog.info? 59).map (fun i=>(i.zero,i.size))=some (some (.agg (Array.replicate 1024 (.bool false))),1024):=by kernel_rfl
theorem acI {g:Gr.G} {k:Nat} {n:Gr.N} (hn:g.nodes[k]?=some n):Gr.iM (Gr.aH Gr.N.id g.nodes k) n=if n.id<0\/1024<=n.id then 61 else if(Gr.aH Gr.N.id g.nodes k).any (fun q=>decide (n.id<=q))=true then 6 else IL n:=rfl
theorem als (ids:List Int) (P:Option Int) (r:Gr.R):Gr.jw ids P r=if r.id<0\/2048<=r.id then 62 else if P.any (fun q=>decide (r.id<=q))=true then 6 else if Gr.bC r.type=false then 60 else if r.src∉ids\/r.dst∉ids then 65 else Gr.lQ r.props:=rfl
theorem acJ {p:Option Int} {x:Int} (h:0<=x):p.any (fun q=>decide (x<=q))=decide (x<=zC p):=by
 cases p with
 |none=>exact(ac5 (show¬x<= -1 by omega)).symm
 |some q=>rfl
theorem acK {α:Type} {l:List α} {key:α->Int} {k:Nat} {a:α} (h:l[k]?=some a):zC (Gr.aH key l (k+1))=key a:=by
 show zC (l[k]?.map key)=key a
 rw[h];rfl
theorem Vd: ∃cs:Array Value,cs.size=1024/\(∀w,(zeroValue 59).run Tryz.prog w=.ok (.agg cs) w)/\
  (∀W:World,(storeCells ⟨W.heap.size,0,none⟩ cs.toList 0).run Tryz.prog (W.alloc (.cells cs 59))=.ok () (W.alloc (.cells cs 59)))/\ ∀W:World,There (W.alloc (.cells cs 59)) W.heap.size []:=by
 have hcz:(Array.replicate 1024 (Value.bool false)).size=1024:=Array.size_replicate
 obtain⟨hz,hi⟩:=zero_of_info alr
 refine⟨Array.replicate 1024 (Value.bool false),hcz,hz,fun W=>run_storeCells_new (P:=Tryz.prog) W 59 _ _ (by rw[hcz];exact hi) rfl ?_,fun W=>⟨_,au.new _ _ _,hcz,fun i hi=> ?_⟩⟩
 ·rw[aq7]
  intro i hi;rw[arn];rfl
 rw[arb,adk hi];simp
theorem alu (B:Nat) (u:Value) (g:Gr.G) (w:World) (h:jQ w B u g) (hB:B<=w.heap.size):
  Calls Tryz.prog 18 #[u] w fun e w'=>e=.returned (.tuple #[.int .i64 ((Gr.check g).1:Nat),.int .i64 ((Gr.check g).2:Nat)])/\Below w.heap.size w w':=by
 have hok:=h.ok;have HG:=ah h;obtain⟨An,cn,Ar,cr,rfl,hN,hR⟩:=h.ex
 obtain⟨nn,hnn⟩:=aj g.nodes.length;obtain⟨rn,hrn⟩:=aj g.aA.length;have hnl:=hok.nl
 have hrl:=hok.rl;rw[hnn]at hnl HG⊢;rw[hrn]at hrl HG⊢;have HN:=ah hN;have HR:=ah hR
 have aV:=ah hok;have aC:=ah hnn;have fP:=ah hrn;have aK:=ah hB
 obtain⟨cs,hcz,hz,hsc,hst⟩:=Vd
 have hsc:=hsc (w.alloc (.cells #[.slice An nn cn,.slice Ar rn cr] 26))
 have hst:=hst (w.alloc (.cells #[.slice An nn cn,.slice Ar rn cr] 26))
 rw[World.size_alloc]at hsc hst
 obtain⟨W1,hW1⟩:=aj ((w.alloc (.cells #[.slice An nn cn,.slice Ar rn cr] 26)).alloc (.cells cs 59))
 have yG:=ah (show zW w (.slice An nn cn) (.slice Ar rn cr) [] W1 from hW1▸⟨(au.new w _ _).alloc _,hst,((Below.refl _ w).alloc (ac4 _) _).alloc (by simp) _⟩)
 have HW1:=ah hW1;clear h hN hR hok hnn hrn hB hst hW1;go_enter Tryz.func18,Tryz.ntmps18
 go_upto_region 2 with fail
 rw[HW1.out];clear HW1 hsc hz hcz;obtain⟨c0,c1⟩:=cells2 yG.box;go_wp2_with fail
 go_loopg [5,6] nn (fun q la x wr=> ∃k:Nat,la=.int .i64 (zC (Gr.aH Gr.N.id g.nodes k))/\x=.int .i64 k/\k+q=nn/\zW w (.slice An nn cn) (.slice Ar rn cr) ((g.nodes.map Gr.N.id).take k) wr/\Hid (∀j a,j<k->g.nodes[j]?=some a->Gr.iM (Gr.aH Gr.N.id g.nodes j) a=0))
 case atStart=>exact⟨0,rfl,rfl,by omega,yG.out,fun j a h=>by omega⟩
 obtain⟨k,rfl,rfl,hk,hrl,hz⟩:=hrel
 have HZ:Hid (∀j a,j<k->g.nodes[j]?=some a->Gr.iM (Gr.aH Gr.N.id g.nodes j) a=0):=hz
 have aO:=ah hrl;have HK:=ah hk;clear hz hrl c0 c1 yG;obtain⟨c0,c1⟩:=cells2 aO.box
 cases gk with
 |succ q=>
  have hkn:k<nn:=by omega
  have dH:(k:Int)<nn:=by omega
  have pk:(0:Int)<=(k:Int):=by omega
  have tk:((k:Int)).toNat=k:=by omega
  obtain⟨n,hn⟩: ∃n,g.nodes[k]?=some n:=⟨_,dF (by rw[aC.out];exact hkn)⟩
  have hBw:=aO.bel.mono aK.out
  obtain⟨b,o,Al,cl,Ap,cp,rfl,hlt,⟨d0,d1,d2⟩,ra,rp⟩:=(HN.below hBw (iO.below hBw)).node hn
  have jU:=aV.ns n (adI hn);have hck:=acI hn;have BG:=ah hn
  obtain⟨P,hP⟩:=aj (Gr.aH Gr.N.id g.nodes k);rw[hP]at hck⊢
  have HST:=ah (fun(e:Nat) (he:Gr.iM P n=e) (hne:e≠0)=>abQ hn (hP▸he) hne HZ.out)
  have Gv:=ah (fun(he:Gr.iM P n=0)=>zf hn HZ.out (hP▸he))
  have jm:=ah (fun(x:Int) (h:0<=x)=>acJ (p:=P) h)
  obtain⟨LA,Et⟩:=aj (zC P);rw[Et]at jm⊢;have bf:=ah hck;clear hkn hn hck hP Et hk
  by_cases h1:n.id<0
  ·have hr:=HST.out 61 (by rw[bf.out,adk (.inl h1)]) (by decide)
   have HRR:=ah hr;have t1:decide (n.id<0)=true:=adb h1;clear hr hlt ra rp hBw jU;go_wp2
   go_ret2
   exact⟨by rw[HRR.out];rfl,aO.bel⟩
  have t1:decide (n.id<0)=false:=ac5 h1;have h1':0<=n.id:=by omega
  by_cases h2:1023<n.id
  ·have hr:=HST.out 61 (by rw[bf.out,adk (.inr (by omega))]) (by decide)
   have HRR:=ah hr;have t2:decide (1023<n.id)=true:=adb h2;clear hr hlt ra rp hBw jU
   go_wp2
   go_ret2
   exact⟨by rw[HRR.out];rfl,aO.bel⟩
  have t2:decide (1023<n.id)=false:=ac5 h2;obtain⟨b3,hb3⟩:=aj (decide (n.id<=LA))
  have HB3:=ah (show Gr.iM P n=if b3=true then 6 else IL n by rw[bf.out,ade (by omega),jm.out n.id h1',hb3])
  cases b3 with
  |true=>
   have hle:=adN hb3;have hr:=HST.out 6 HB3.out (by decide)
   have HRR:=ah hr;clear hr hlt ra rp hBw jU;go_wp2
   go_ret2
   exact⟨by rw[HRR.out];rfl,aO.bel⟩
  |false=>
   have hle:LA<n.id:=by have:=adM hb3;omega
   obtain⟨i,hi⟩: ∃i:Nat,n.id=(i:Int):=⟨n.id.toNat,by omega⟩
   have hi4:i<1024:=by omega
   have Xx:(i:Int)<1024:=by omega
   have pi:(0:Int)<=(i:Int):=by omega
   have ti:((i:Int)).toNat=i:=by omega
   obtain⟨a0,f0⟩:=aO.arr.cell hi4
   obtain⟨W5,bZ⟩:=aj (wr.setCell ⟨w.heap.size+1,i,none⟩ (.bool true))
   have wF:=ah (show zW w (.slice (some ⟨b,o,none⟩) nn cn) (.slice Ar rn cr) ((g.nodes.map Gr.N.id).take k++[(i:Int)]) W5 from bZ▸aO.put hi4)
   have hb5:Below B wr W5:=bZ▸(Below.refl B wr).setCell (p:=⟨w.heap.size+1,i,none⟩) (adg aK.out (aoc _)) _
   obtain⟨ln,hln⟩:=aj n.labels.length;obtain⟨pn,hpn⟩:=aj n.props.length
   have hcall:=alh B n Al Ap cl cp W5 (ra.below hb5) (rp.below hb5 (aX.below hb5)) (adg aK.out wF.bel.size) jU
   rw[hi,hln,hpn]at hcall;rw[hi]at d0 t1 t2 hb3 hle h1';rw[hln]at d1;rw[hpn]at d2
   obtain⟨E,hE⟩:=aj (IL n);rw[hE]at hcall HB3;have zH:=ah hcall
   have HD:=ah (fun(X:World) (hb:Below B wr X)=>show X.cell? ⟨b,o+k*3,none⟩=some (.int .i64 (i:Int))/\X.cell? ⟨b,o+k*3+1,none⟩=some (.slice Al ln cl)/\X.cell? ⟨b,o+k*3+2,none⟩=some (.slice Ap pn cp) from⟨(hb.cell (p:=⟨b,o+k*3,none⟩) hlt).trans d0,(hb.cell (p:=⟨b,o+k*3+1,none⟩) hlt).trans d1,(hb.cell (p:=⟨b,o+k*3+2,none⟩) hlt).trans d2⟩)
   have bG:=ah hb5;have jH:=ah bZ
   have HIK:=ah (show(g.nodes.map Gr.N.id).take (k+1)=(g.nodes.map Gr.N.id).take k++[(i:Int)] from by rw[<-hi];exact IC (a:=n.id) (by rw[adX,BG.out];rfl))
   have tH:=ah (show zC (Gr.aH Gr.N.id g.nodes (k+1))=(i:Int) from(acK (key:=Gr.N.id) BG.out).trans hi)
   clear hi hi4 bZ hb5 hln hpn hcall hE hlt ra rp hBw jU h1 h2
   go_upto_region 13 with fail
   rw[jH.out];clear d0 d1 d2 c0 c1 a0 f0;obtain⟨d0,d1,d2⟩:=HD.out W5 bG.out
   obtain⟨c0,c1⟩:=cells2 wF.box;go_wp2_with fail;refine zH.mono ?_;rintro e w6 ⟨rfl,hb6⟩
   have Eh:=ah (wF.below hb6);clear hb6 d0 d1 d2 c0 c1;cases E with
   |succ e=>
    have hr:=HST.out (e+1) HB3.out (by omega)
    have HRR:=ah hr;have hne:(((e+1:Nat):Int) !=0)=true:=by rw[adY];omega
    clear hr;go_wp2
    go_ret2
    exact⟨by rw[HRR.out];rfl,Eh.bel⟩
   |zero=>
    have Xy:=ah (Gv.out HB3.out);go_wp2
    go_roundg q
    case measure=>omega
    exact⟨k+1,by rw[tH.out],int_eq (by omega),by have:=HK.out;omega,by rw[HIK.out];exact Eh.out,Xy.out⟩
 |zero=>
  obtain rfl:nn=k:=by omega
  have Jk: ∀j a,g.nodes[j]?=some a->Gr.iM (Gr.aH Gr.N.id g.nodes j) a=0:=fun j a ha=>HZ.out j a (by have:=(adw.1 ha).1;have:=aC.out;omega) ha
  have Xz: ∀x∈g.nodes.map Gr.N.id,0<=x/\x<=1023:=fun x hx=>by
   obtain⟨n,hn,rfl⟩:=afK.1 hx;obtain⟨j,hj,e⟩:=afj hn;have:=Jk j n (by rw[dF hj,e])
   rw[acI (by rw[dF hj,e])]at this
   split at this
   ·cases this
   omega
  obtain⟨ids,oz⟩:=aj (g.nodes.map Gr.N.id)
  rw[ado (by rw[adU,aC.out];exact ac4 _),oz]at aO
  rw[oz]at Xz;have gy:=ah Jk;have Ri:=ah Xz;have MO:=ah oz
  obtain⟨LA0,ae7⟩:=aj (zC (Gr.aH Gr.N.id g.nodes nn));rw[ae7];clear hk Jk Xz oz HZ ae7
  go_wp2_with fail
  go_loopg [5,9] rn (fun q la x wr=> ∃m:Nat,la=.int .i64 (zC (Gr.aH Gr.R.id g.aA m))/\x=.int .i64 m/\m+q=rn/\zW w (.slice An nn cn) (.slice Ar rn cr) ids wr/\Hid (∀j a,j<m->g.aA[j]?=some a->Gr.jw (g.nodes.map Gr.N.id) (Gr.aH Gr.R.id g.aA j) a=0))
  case atStart=>exact⟨0,rfl,rfl,by omega,aO.out,fun j a h=>by omega⟩
  obtain⟨m,rfl,rfl,hm,hrl2,hz⟩:=hrel
  have HZ:Hid (∀j a,j<m->g.aA[j]?=some a->Gr.jw (g.nodes.map Gr.N.id) (Gr.aH Gr.R.id g.aA j) a=0):=hz
  have Eu:=ah hrl2;have HK:=ah hm;clear hz hrl2 c0 c1 aO;obtain⟨c0,c1⟩:=cells2 Eu.box
  cases gk with
  |succ q=>
   have hmn:m<rn:=by omega
   have aes:(m:Int)<rn:=by omega
   have pk:(0:Int)<=(m:Int):=by omega
   have tk:((m:Int)).toNat=m:=by omega
   obtain⟨r,hr⟩: ∃r,g.aA[m]?=some r:=⟨_,dF (by rw[fP.out];exact hmn)⟩
   have hBw:=Eu.bel.mono aK.out
   obtain⟨b,o,Ap,cp,rfl,hlt,⟨d0,d1,d2,d3,d4⟩,rp⟩:=(HR.below hBw (iP.below hBw)).rel hr
   have Rj:=aV.rs r (adI hr);obtain⟨P,hP⟩:=aj (Gr.aH Gr.R.id g.aA m)
   have hck:=als ids P r;rw[hP]
   have HST:=ah (fun(e:Nat) (he:Gr.jw ids P r=e) (hne:e≠0)=>abR gy.out hr (by rw[MO.out,hP];exact he) hne HZ.out)
   have Gv:=ah (fun(he:Gr.jw ids P r=0)=>zf hr HZ.out (by rw[MO.out,hP];exact he))
   have jm:=ah (fun(x:Int) (h:0<=x)=>acJ (p:=P) h)
   obtain⟨LA,Et⟩:=aj (zC P);rw[Et]at jm⊢;have bf:=ah hck
   have gW:=ah (acK (key:=Gr.R.id) hr);simp only[ST]at d1
   obtain⟨z,hz⟩:=aj (⟨r.type.toArray⟩:ByteArray);rw[hz]at d1
   have hzl:z.size<=1073741824:=by rw[<-hz];exact(gq _).symm▸Rj.tl
   have hgn:=fun(V:World)=>IK z V hzl
   have hzd:z.data.toList=r.type:=by rw[<-hz]
   rw[hzd]at hgn;obtain⟨pn,hpn⟩:=aj r.props.length;obtain⟨rb,hrb⟩:=aj wr.heap.size
   rw[hpn]at d4
   obtain⟨WR,Rk⟩:=aj (wr.alloc (.cells #[.int .i64 r.id,.string z,.int .i64 r.src,.int .i64 r.dst,.slice Ap pn cp] 44))
   have hb5:Below wr.heap.size wr WR:=Rk▸(Below.refl _ wr).alloc (ac4 _) _
   have lu:=ah (Eu.below hb5)
   have o9:=ah (show au WR rb 44 #[.int .i64 r.id,.string z,.int .i64 r.src,.int .i64 r.dst,.slice Ap pn cp] by rw[<-Rk,<-hrb];exact au.new _ _ _)
   have hpw:=fun(X:World) (hb:Below wr.heap.size wr X)=>acs B Ap cp r.props X (rp.below (hb.mono (adg aK.out Eu.bel.size)) (aX.below (hb.mono (adg aK.out Eu.bel.size)))) (adg (adg aK.out Eu.bel.size) hb.size) Rj.pl Rj.ps
   rw[hpn]at hpw;have qp:=ah hpw;have dQ:=ah hgn;have bG:=ah hb5;have Bj:=ah Rk
   have iI:=ah hrb
   clear hmn hr hBw hlt Rj hP hck Et hz hzl hgn hzd hpn hrb Rk hb5 hpw rp hm
   go_upto_region 21 with fail
   rw[Bj.out,iI.out];clear d0 d1 d2 d3 d4 c0 c1 Bj iI
   obtain⟨d0,d1,d2,d3,d4⟩:=cells5 o9.out;obtain⟨c0,c1⟩:=cells2 lu.box;by_cases h1:r.id<0
   ·have hr:=HST.out 62 (by rw[bf.out,adk (.inl h1)]) (by decide)
    have HRR:=ah hr;have t1:decide (r.id<0)=true:=adb h1;clear hr;go_wp2
    go_ret2
    exact⟨by rw[HRR.out,aC.out,aga];rfl,lu.bel⟩
   have t1:decide (r.id<0)=false:=ac5 h1;have h1':0<=r.id:=by omega
   by_cases h2:2047<r.id
   ·have hr:=HST.out 62 (by rw[bf.out,adk (.inr (by omega))]) (by decide)
    have HRR:=ah hr;have t2:decide (2047<r.id)=true:=adb h2;clear hr;go_wp2
    go_ret2
    exact⟨by rw[HRR.out,aC.out,aga];rfl,lu.bel⟩
   have t2:decide (2047<r.id)=false:=ac5 h2;obtain⟨b3,hb3⟩:=aj (decide (r.id<=LA))
   have HB3:=ah (show Gr.jw ids P r=if b3=true then 6 else if Gr.bC r.type=false then 60 else if r.src∉ids\/r.dst∉ids then 65 else Gr.lQ r.props by rw[bf.out,ade (by omega),jm.out r.id h1',hb3])
   cases b3 with
   |true=>
    have hle:=adN hb3;have hr:=HST.out 6 HB3.out (by decide)
    have HRR:=ah hr;clear hr;go_wp2
    go_ret2
    exact⟨by rw[HRR.out,aC.out,aga];rfl,lu.bel⟩
   |false=>
    have hle:LA<r.id:=by have:=adM hb3;omega
    obtain⟨GN,hg⟩:=aj (Gr.bC r.type);rw[hg]at dQ HB3
    have HB4:=ah (show Gr.jw ids P r=if GN=false then 60 else if r.src∉ids\/r.dst∉ids then 65 else Gr.lQ r.props from HB3.out)
    clear hg HB3;go_wp2_with fail;refine(dQ.out _).mono ?_;rintro e w6 ⟨rfl,hb6⟩
    have jI:=ah (lu.below hb6);have zN:=ah (o9.below hb6 o9.lt)
    have dO:=ah (bG.trans (hb6.mono bG.size));clear hb6 d0 d1 d2 d3 d4 c0 c1 lu o9
    obtain⟨d0,d1,d2,d3,d4⟩:=cells5 zN.out;cases GN with
    |false=>
     have hr:=HST.out 60 HB4.out (by decide)
     have HRR:=ah hr;clear hr;go_wp2
     go_ret2
     exact⟨by rw[HRR.out,aC.out,aga];rfl,jI.bel⟩
    |true=>
     have HBAD:=ah (fun(h:r.src∉ids\/r.dst∉ids)=>HST.out 65 (by rw[HB4.out,ade (by decide),adk h]) (by decide))
     by_cases e1:r.src<0
     ·have hr:=HBAD.out (.inl (fun h=>by have:=Ri.out _ h;omega))
      have HRR:=ah hr;have tb:decide (r.src<0)=true:=adb e1;clear hr;go_wp2
      go_ret2
      exact⟨by rw[HRR.out,aC.out,aga];rfl,jI.bel⟩
     have te1:decide (r.src<0)=false:=ac5 e1;by_cases e2:r.dst<0
     ·have hr:=HBAD.out (.inr (fun h=>by have:=Ri.out _ h;omega))
      have HRR:=ah hr;have tb:decide (r.dst<0)=true:=adb e2;clear hr;go_wp2
      go_ret2
      exact⟨by rw[HRR.out,aC.out,aga];rfl,jI.bel⟩
     have te2:decide (r.dst<0)=false:=ac5 e2;by_cases e3:1023<r.src
     ·have hr:=HBAD.out (.inl (fun h=>by have:=Ri.out _ h;omega))
      have HRR:=ah hr;have tb:decide (1023<r.src)=true:=adb e3;clear hr;go_wp2
      go_ret2
      exact⟨by rw[HRR.out,aC.out,aga];rfl,jI.bel⟩
     have te3:decide (1023<r.src)=false:=ac5 e3;by_cases e4:1023<r.dst
     ·have hr:=HBAD.out (.inr (fun h=>by have:=Ri.out _ h;omega))
      have HRR:=ah hr;have tb:decide (1023<r.dst)=true:=adb e4;clear hr;go_wp2
      go_ret2
      exact⟨by rw[HRR.out,aC.out,aga];rfl,jI.bel⟩
     have te4:decide (1023<r.dst)=false:=ac5 e4
     obtain⟨i,hi⟩: ∃i:Nat,r.src=(i:Int):=⟨r.src.toNat,by omega⟩
     obtain⟨j,hj⟩: ∃j:Nat,r.dst=(j:Int):=⟨r.dst.toNat,by omega⟩
     have hi4:i<1024:=by omega
     have hj4:j<1024:=by omega
     have Xx:(i:Int)<1024:=by omega
     have nX:(j:Int)<1024:=by omega
     have pi:(0:Int)<=(i:Int):=by omega
     have pj:(0:Int)<=(j:Int):=by omega
     have ti:((i:Int)).toNat=i:=by omega
     have tj:((j:Int)).toNat=j:=by omega
     have a0:=(jI.arr.cell hi4).1;have a1:=(jI.arr.cell hj4).1
     rw[hi]at d2 te1 te3 HBAD HB4;rw[hj]at d3 te2 te4 HBAD HB4
     obtain⟨be,hbe⟩:=aj (decide ((i:Int)∈ids));obtain⟨bd,hbd⟩:=aj (decide ((j:Int)∈ids))
     rw[hbe]at a0;rw[hbd]at a1;have uM:=ah hbe;have jV:=ah hbd
     clear hi hj hi4 hj4 e1 e2 e3 e4 hbe hbd;cases be with
     |false=>
      have hr:=HBAD.out (.inl (adM uM.out));have HRR:=ah hr;clear hr;go_wp2
      go_ret2
      exact⟨by rw[HRR.out,aC.out,aga];rfl,jI.bel⟩
     |true=>
      cases bd with
      |false=>
       have hr:=HBAD.out (.inr (adM jV.out));have HRR:=ah hr;clear hr;go_wp2
       go_ret2
       exact⟨by rw[HRR.out,aC.out,aga];rfl,jI.bel⟩
      |true=>
       have bD:=ah (show Gr.jw ids P r=Gr.lQ r.props by
        rw[HB4.out,ade (by decide),ade (fun h=>h.elim (fun h=>h (adN uM.out)) (fun h=>h (adN jV.out)))])
       obtain⟨E,hE⟩:=aj (Gr.lQ r.props);rw[hE]at bD qp;clear hE;go_wp2_with fail
       refine(qp.out w6 dO.out).mono ?_;rintro e w7 ⟨rfl,hb7⟩;have pG:=ah (jI.below hb7)
       clear hb7 d0 d1 d2 d3 d4 a0 a1;cases E with
       |succ e=>
        have hr:=HST.out (e+1) bD.out (by omega)
        have HRR:=ah hr;have hne:(((e+1:Nat):Int) !=0)=true:=by rw[adY];omega
        clear hr;go_wp2
        go_ret2
        exact⟨by rw[HRR.out,aC.out,aga];rfl,pG.bel⟩
       |zero=>
        have Xy:=ah (Gv.out bD.out);go_wp2
        go_roundg q
        case measure=>omega
        exact⟨m+1,by rw[gW.out],int_eq (by omega),by have:=HK.out;omega,pG.out,Xy.out⟩
  |zero=>
   obtain rfl:rn=m:=by omega
   have Gw: ∀j a,g.aA[j]?=some a->Gr.jw (g.nodes.map Gr.N.id) (Gr.aH Gr.R.id g.aA j) a=0:=fun j a ha=>HZ.out j a (by have:=(adw.1 ha).1;have:=fP.out;omega) ha
   have hrest:=abS gy.out Gw;have BH:Gr.uZ g.nodes:=⟨fun j n hn=>Gr.Pv.1 (gy.out j n hn)⟩
   have Ed:Gr.y9 (g.nodes.map Gr.N.id) g.aA:=⟨fun j n hn=>Gr.Px.1 (Gw j n hn)⟩
   have h1:=BH.Io;have h2:=Ed.len;have h3:=Gr.aar BH Ed
   have hN1:(lV 1 g).length<=1073741800:=by rw[aeS];unfold Gr.ql;omega
   have BJ:(lV 2 g).length<=1073741800:=by rw[aeT];unfold Gr.names2;rw[adU];omega
   have hN3:(lV 3 g).length<=1073741800:=by rw[aeU];unfold Gr.jP;rw[adU];omega
   have hg:=fun(V:World) (hb:Below w.heap.size w V)=>HG.below (hb.mono aK.out)
   have H1:=ah (fun(V:World) (hb:Below w.heap.size w V)=>Vb 1 B _ g V (hg V hb) (adg aK.out hb.size) hN1)
   have H2:=ah (fun(V:World) (hb:Below w.heap.size w V)=>Vb 2 B _ g V (hg V hb) (adg aK.out hb.size) BJ)
   have H3:=ah (fun(V:World) (hb:Below w.heap.size w V)=>Vb 3 B _ g V (hg V hb) (adg aK.out hb.size) hN3)
   have HW:=ah (fun(V:World) (hb:Below w.heap.size w V)=>alq B _ g V (hg V hb) (adg aK.out hb.size) (Gr.aas BH Ed) (by omega))
   simp only[aeS]at H1;simp only[aeT]at H2;simp only[aeU]at H3
   obtain⟨l1,hl1⟩:=aj ((Gr.dedup (Gr.ql g)).length)
   obtain⟨l2,hl2⟩:=aj ((Gr.dedup (Gr.names2 g)).length)
   obtain⟨l3,hl3⟩:=aj ((Gr.dedup (Gr.jP g)).length);obtain⟨wt,hwt⟩:=aj (Gr.weight g)
   rw[hl1]at H1 hrest;rw[hl2]at H2 hrest;rw[hl3]at H3 hrest;rw[hwt]at HW hrest
   have rF:=ah hrest;obtain⟨LA,Et⟩:=aj (zC (Gr.aH Gr.R.id g.aA rn));rw[Et]
   clear hm hrest BH Ed Gw hl1 hl2 hl3 hwt h1 h2 h3 hN1 BJ hN3 hg Et HZ;go_wp2_with fail
   refine(H1.out wr Eu.bel).mono ?_;rintro e w2 ⟨A1,d1,rfl,hb⟩;have vY:=ah (Eu.below hb)
   clear hb c0 c1;obtain⟨c0,c1⟩:=cells2 vY.box;by_cases hq1:200<l1
   ·have t1:decide ((200:Int)<l1)=true:=adb (by omega)
    have KL:(200:Int)<l1:=by omega
    have bf:=ah (show Gr.check g=(66,0) by rw[rF.out,adk (.inl hq1)])
    clear hq1 H1 H2 H3 HW;go_wp2
    go_ret2
    exact⟨by rw[bf.out];rfl,vY.bel⟩
   have t1:decide ((200:Int)<l1)=false:=ac5 (by omega)
   have KL:(l1:Int)<=200:=by omega
   go_wp2_with fail;refine(H2.out w2 vY.bel).mono ?_;rintro e w3 ⟨A2,d2,rfl,hb⟩
   have HS2:=ah (vY.below hb);clear hb c0 c1;obtain⟨c0,c1⟩:=cells2 HS2.box
   by_cases hq2:200<l2
   ·have t2:decide ((200:Int)<l2)=true:=adb (by omega)
    have WX:(200:Int)<l2:=by omega
    have bf:=ah (show Gr.check g=(66,0) by rw[rF.out,adk (.inr (.inl hq2))])
    clear hq2 H1 H2 H3 HW;go_wp2
    go_ret2
    exact⟨by rw[bf.out];rfl,HS2.bel⟩
   have t2:decide ((200:Int)<l2)=false:=ac5 (by omega)
   have WX:(l2:Int)<=200:=by omega
   go_wp2_with fail;refine(H3.out w3 HS2.bel).mono ?_;rintro e w4 ⟨A3,d3,rfl,hb⟩
   have aZ:=ah (HS2.below hb);clear hb c0 c1;obtain⟨c0,c1⟩:=cells2 aZ.box
   by_cases hq3:200<l3
   ·have t3:decide ((200:Int)<l3)=true:=adb (by omega)
    have WZ:(200:Int)<l3:=by omega
    have bf:=ah (show Gr.check g=(66,0) by rw[rF.out,adk (.inr (.inr hq3))])
    clear hq3 H1 H2 H3 HW;go_wp2
    go_ret2
    exact⟨by rw[bf.out];rfl,aZ.bel⟩
   have t3:decide ((200:Int)<l3)=false:=ac5 (by omega)
   have WZ:(l3:Int)<=200:=by omega
   go_wp2_with fail;refine(HW.out w4 aZ.bel).mono ?_;rintro e w5 ⟨rfl,hb⟩
   have qA:=ah (aZ.below hb);clear hb c0 c1;by_cases hq4:262144<wt
   ·have t4:decide ((262144:Int)<wt)=true:=adb (by omega)
    have Xa:(262144:Int)<wt:=by omega
    have bf:=ah (show Gr.check g=(67,0) by rw[rF.out,ade (by omega),adk hq4])
    clear hq4 H1 H2 H3 HW;go_wp2
    go_ret2
    exact⟨by rw[bf.out];rfl,qA.bel⟩
   have t4:decide ((262144:Int)<wt)=false:=ac5 (by omega)
   have Xa:(wt:Int)<=262144:=by omega
   have bf:=ah (show Gr.check g=(0,0) by rw[rF.out,ade (by omega),ade hq4])
   clear hq4 H1 H2 H3 HW;go_wp2
   go_ret2
   exact⟨by rw[bf.out];rfl,qA.bel⟩
theorem jQ.form {W:World} {B:Nat} {u:Value} {g:Gr.G} (h:jQ W B u g) {a b:Nat} (ha:g.nodes.length=a) (hb:g.aA.length=b): ∃A1 c1 A2 c2,u=.agg #[.slice A1 a c1,.slice A2 b c2]:=by
 obtain⟨A1,c1,A2,c2,e,-,-⟩:=h.ex;subst ha hb;exact⟨A1,c1,A2,c2,e⟩
theorem alv {g:Gr.G} (h:Gr.Good g) (ok:DT g):Cy.Fine g:=⟨h,fun p hp=>by
 have hk:IX p.val:=by
  unfold Gr.dX at hp
  rcases aem.1 hp with h1|h1
  ·obtain⟨n,hn,hq⟩:=ae9.1 h1
   exact((ok.ns n hn).ps p hq).val
  obtain⟨n,hn,hq⟩:=ae9.1 h1;exact((ok.rs n hn).ps p hq).val
 exact⟨hk.num,hk.nums⟩⟩
end Go.Proofs.YtkdakckjafomhaaGreatDoor
