/- Contracts and plain laws,part 39. -/
import Derived.Test.YtoofbflplhbpbaaGreatDoorUO33
import Derived.Test.YtoofbflplhbpbaaGreatDoorUO38
import Derived.Deep.WholeRow
set_option maxHeartbeats 64000000
set_option maxRecDepth 1000000
set_option linter.all false
namespace Go.Proofs.YtoofbflplhbpbaaGreatDoor
open Go.RowKit
def There (V:World) (b:Nat) (ids:List Int):Prop:= ∃cs:Array Value,aj V b 112 cs/\cs.size=1024/\ ∀i:Nat,i<1024->cs[i]?=some (.bool (decide ((i:Int)∈ids)))
theorem There.below {V V':World} {b:Nat} {ids:List Int} (h:There V b ids) (hb:Below V.heap.size V V'):There V' b ids:=by
 obtain ⟨cs,h1,h2⟩:=h;exact ⟨cs,h1.below hb h1.lt,h2⟩
theorem There.cell {V:World} {b:Nat} {ids:List Int} (h:There V b ids) {i:Nat} (hi:i<1024):V.cell? ⟨b,i,none⟩=some (.bool (decide ((i:Int)∈ids)))/\V.frozen? ⟨b,i,none⟩=false:=by
 obtain ⟨cs,h1,h2,h3⟩:=h;exact ⟨(h1.cell i).trans (h3 i hi),h1.frozen i⟩
theorem There.put {V:World} {b:Nat} {ids:List Int} (h:There V b ids) {i:Nat} (hi:i<1024):There (V.setCell ⟨b,i,none⟩ (.bool true)) b (ids ++ [(i:Int)]):=by
 obtain ⟨cs,h1,h2,h3⟩:=h
 refine ⟨_,h1.aS i (.bool true),by rw [Array.size_setIfInBounds];exact h2,fun j hj=> ?_⟩
 rw [aoq]
 split
 ·rename_i e
  subst e;rw [ab7 (by omega)]
  simp
 rename_i e;rw [h3 j hj]
 congr 2
 rw [alp];simp only [acZ,acU,adg]
 constructor
 ·exact .inl
 rintro (h | h)
 ·exact h
 omega
structure yR (w:World) (u v:Value) (ids:List Int) (V:World):Prop where
 box:aj V w.heap.size 39 #[u,v]
 arr:There V (w.heap.size+1) ids
 bel:Below w.heap.size w V
theorem yR.below {w V V':World} {u v:Value} {ids:List Int} (h:yR w u v ids V) (hb:Below V.heap.size V V'):yR w u v ids V':=
 ⟨h.box.below hb h.box.lt,h.arr.below hb,h.bel.trans (hb.mono h.bel.size)⟩
theorem yR.put {w V:World} {u v:Value} {ids:List Int} (h:yR w u v ids V) {i:Nat} (hi:i<1024):yR w u v (ids ++ [(i:Int)]) (V.setCell ⟨w.heap.size+1,i,none⟩ (.bool true)):=
 ⟨h.box.far (by simp) _,h.arr.put hi,h.bel.setCell (p:=⟨w.heap.size+1,i,none⟩) (by simp) _⟩
def xU (p:Option Int):Int:=p.getD (-1)
theorem ajE:(Tryz.prog.info? 112).map (fun i=>(i.zero,i.size))=some (some (.agg (Array.replicate 1024 (.bool false))),1024):=by kernel_rfl
theorem abA {g:Gr.G} {k:Nat} {n:Gr.N} (hn:g.nodes[k]?=some n):Gr.iI (Gr.aG Gr.N.id g.nodes k) n=if n.id<0\/1024<=n.id then 61 else if (Gr.aG Gr.N.id g.nodes k).any (fun q=>decide (n.id<=q))=true then 6 else F6 n:=rfl
theorem ajF (ids:List Int) (P:Option Int) (r:Gr.R):Gr.jf ids P r=if r.id<0\/2048<=r.id then 62 else if P.any (fun q=>decide (r.id<=q))=true then 6 else if Gr.dw r.type=false then 60 else if r.src∉ids\/r.dst∉ids then 65 else Gr.dV r.props:=rfl
theorem abB {p:Option Int} {x:Int} (h:0<=x):p.any (fun q=>decide (x<=q))=decide (x<=xU p):=by
 cases p with
 | none=>exact (abX (show¬x<= -1 by omega)).symm
 | some q=>rfl
theorem abC {α:Type} {l:List α} {key:α->Int} {k:Nat} {a:α} (h:l[k]?=some a):xU (Gr.aG key l (k+1))=key a:=by
 show xU (l[k]?.map key)=key a
 rw [h];rfl
theorem ajG: ∃cs:Array Value,cs.size=1024/\(∀w,(zeroValue 112).run Tryz.prog w= .ok (.agg cs) w)/\
  (∀W:World,(storeCells ⟨W.heap.size,0,none⟩ cs.toList 0).run Tryz.prog (W.alloc (.cells cs 112))= .ok () (W.alloc (.cells cs 112)))/\ ∀W:World,There (W.alloc (.cells cs 112)) W.heap.size []:=by
 have hcz:(Array.replicate 1024 (Value.bool false)).size=1024:=Array.size_replicate
 obtain ⟨hz,hi⟩:=zero_of_info ajE
 refine ⟨Array.replicate 1024 (Value.bool false),hcz,hz,fun W=>run_storeCells_new (P:=Tryz.prog) W 112 _ _ (by rw [hcz];exact hi) rfl ?_,fun W=>⟨_,aj.new _ _ _,hcz,fun i hi=> ?_⟩⟩
 ·rw [Array.all_eq_true]
  intro i hi;rw [Array.getElem_replicate];rfl
 rw [Array.getElem?_replicate,ab7 hi];simp
theorem NR (B:Nat) (u:Value) (g:Gr.G) (w:World) (h:fE w B u g) (hB:B<=w.heap.size):
  Calls Tryz.prog 25 #[u] w fun e w'=>e= .returned (.tuple #[.int .i64 ((Gr.check g).1:Nat), .int .i64 ((Gr.check g).2:Nat)])/\Below w.heap.size w w':=by
 have hok:=h.ok;have HG:=ah h;obtain ⟨An,cn,Ar,cr,rfl,hN,hR⟩:=h.ex
 obtain ⟨nn,hnn⟩: ∃n,g.nodes.length=n:=⟨_,rfl⟩;obtain ⟨rn,hrn⟩: ∃n,g.au.length=n:=⟨_,rfl⟩
 have hnl:=hok.nl;have hrl:=hok.rl;rw [hnn] at hnl HG⊢;rw [hrn] at hrl HG⊢;have HN:=ah hN
 have HR:=ah hR;have aK:=ah hok;have ay:=ah hnn;have gy:=ah hrn;have aH:=ah hB
 obtain ⟨cs,hcz,hz,hsc,hst⟩:=ajG
 have hsc:=hsc (w.alloc (.cells #[.slice An nn cn, .slice Ar rn cr] 39))
 have hst:=hst (w.alloc (.cells #[.slice An nn cn, .slice Ar rn cr] 39))
 rw [World.size_alloc] at hsc hst
 obtain ⟨W1,hW1⟩: ∃W1,(w.alloc (.cells #[.slice An nn cn, .slice Ar rn cr] 39)).alloc (.cells cs 112)=W1:=⟨_,rfl⟩
 have gq:=ah (show yR w (.slice An nn cn) (.slice Ar rn cr) [] W1 from hW1▸⟨(aj.new w _ _).alloc _,hst,((Below.refl _ w).alloc (ab1 _) _).alloc (by simp) _⟩)
 have HW1:=ah hW1;clear h hN hR hok hnn hrn hB hst hW1;go_enter Tryz.func25,Tryz.ntmps25
 go_upto_region 2 with fail
 rw [HW1.out];clear HW1 hsc hz hcz;obtain ⟨c0,c1⟩:=cells2 gq.out.box;go_wp2_with fail
 go_loopg [5,6] nn (fun q la x wr=> ∃k:Nat,la= .int .i64 (xU (Gr.aG Gr.N.id g.nodes k))/\x= .int .i64 k/\k+q=nn/\yR w (.slice An nn cn) (.slice Ar rn cr) ((g.nodes.map Gr.N.id).take k) wr/\Hid (∀j a,j<k->g.nodes[j]?=some a->Gr.iI (Gr.aG Gr.N.id g.nodes j) a=0))
 case atStart=>exact ⟨0,rfl,rfl,by omega,gq.out,fun j a h=>by omega⟩
 obtain ⟨k,rfl,rfl,hk,hrl,hz⟩:=hrel
 have HZ:Hid (∀j a,j<k->g.nodes[j]?=some a->Gr.iI (Gr.aG Gr.N.id g.nodes j) a=0):=hz
 have aW:=ah hrl;have HK:=ah hk;clear hz hrl c0 c1 gq;obtain ⟨c0,c1⟩:=cells2 aW.out.box
 cases gk with
 | succ q=>
  have hkn:k<nn:=by omega
  have dD:(k:Int)<nn:=by omega
  have pk:(0:Int)<=(k:Int):=by omega
  have tk:((k:Int)).toNat=k:=by omega
  obtain ⟨n,hn⟩: ∃n,g.nodes[k]?=some n:=⟨_,ab2 (by rw [ay.out];exact hkn)⟩
  have hBw:=aW.out.bel.mono aH.out
  obtain ⟨b,o,Al,cl,Ap,cp,rfl,hlt,⟨d0,d1,d2⟩,ra,rp⟩:=(HN.out.below hBw (gZ.below hBw)).node hn
  have jG:=aK.out.ns n (acf hn);have hck:=abA hn;have Ai:=ah hn
  obtain ⟨P,hP⟩: ∃P,Gr.aG Gr.N.id g.nodes k=P:=⟨_,rfl⟩;rw [hP] at hck⊢
  have HST:=ah (fun (e:Nat) (he:Gr.iI P n=e) (hne:e≠0)=>aaU hn (hP▸he) hne HZ.out)
  have Et:=ah (fun (he:Gr.iI P n=0)=>xO hn HZ.out (hP▸he))
  have iE:=ah (fun (x:Int) (h:0<=x)=>abB (p:=P) h)
  obtain ⟨LA,Di⟩: ∃x,xU P=x:=⟨_,rfl⟩;rw [Di] at iE⊢;have aU:=ah hck
  clear hkn hn hck hP Di hk;by_cases h1:n.id<0
  ·have hr:=HST.out 61 (by rw [aU.out,ab7 (.inl h1)]) (by decide)
   have HRR:=ah hr;have t1:decide (n.id<0)=true:=abW h1;clear hr hlt ra rp hBw jG;go_wp2
   go_ret2
   exact ⟨by rw [HRR.out];rfl,aW.out.bel⟩
  have t1:decide (n.id<0)=false:=abX h1;have h1':0<=n.id:=by omega
  by_cases h2:1023<n.id
  ·have hr:=HST.out 61 (by rw [aU.out,ab7 (.inr (by omega))]) (by decide)
   have HRR:=ah hr;have t2:decide (1023<n.id)=true:=abW h2;clear hr hlt ra rp hBw jG
   go_wp2
   go_ret2
   exact ⟨by rw [HRR.out];rfl,aW.out.bel⟩
  have t2:decide (1023<n.id)=false:=abX h2;obtain ⟨b3,hb3⟩: ∃b,decide (n.id<=LA)=b:=⟨_,rfl⟩
  have HB3:=ah (show Gr.iI P n=if b3=true then 6 else F6 n by rw [aU.out,ab6 (by omega),iE.out n.id h1',hb3])
  cases b3 with
  | true=>
   have hle:=aci hb3;have hr:=HST.out 6 HB3.out (by decide)
   have HRR:=ah hr;clear hr hlt ra rp hBw jG;go_wp2
   go_ret2
   exact ⟨by rw [HRR.out];rfl,aW.out.bel⟩
  | false=>
   have hle:LA<n.id:=by have:=ach hb3;omega
   obtain ⟨i,hi⟩: ∃i:Nat,n.id=(i:Int):=⟨n.id.toNat,by omega⟩
   have hi4:i<1024:=by omega
   have hiI:(i:Int)<1024:=by omega
   have pi:(0:Int)<=(i:Int):=by omega
   have ti:((i:Int)).toNat=i:=by omega
   obtain ⟨a0,f0⟩:=aW.out.arr.cell hi4
   obtain ⟨W5,iG⟩: ∃W5,wr.setCell ⟨w.heap.size+1,i,none⟩ (.bool true)=W5:=⟨_,rfl⟩
   have yu:=ah (show yR w (.slice (some ⟨b,o,none⟩) nn cn) (.slice Ar rn cr) ((g.nodes.map Gr.N.id).take k ++ [(i:Int)]) W5 from iG▸aW.out.put hi4)
   have hb5:Below B wr W5:=iG▸(Below.refl B wr).setCell (p:=⟨w.heap.size+1,i,none⟩) (ab5 aH.out (als _)) _
   obtain ⟨ln,hln⟩: ∃x,n.labels.length=x:=⟨_,rfl⟩
   obtain ⟨pn,hpn⟩: ∃x,n.props.length=x:=⟨_,rfl⟩
   have hcall:=ajv B n Al Ap cl cp W5 (ra.below hb5) (rp.below hb5 (aQ.below hb5)) (ab5 aH.out yu.out.bel.size) jG
   rw [hi,hln,hpn] at hcall;rw [hi] at d0 t1 t2 hb3 hle h1';rw [hln] at d1;rw [hpn] at d2
   obtain ⟨E,hE⟩: ∃E,F6 n=E:=⟨_,rfl⟩;rw [hE] at hcall HB3;have wu:=ah hcall
   have HD:=ah (fun (X:World) (hb:Below B wr X)=>show X.cell? ⟨b,o+k*3,none⟩=some (.int .i64 (i:Int))/\X.cell? ⟨b,o+k*3+1,none⟩=some (.slice Al ln cl)/\X.cell? ⟨b,o+k*3+2,none⟩=some (.slice Ap pn cp) from ⟨(hb.cell (p:=⟨b,o+k*3,none⟩) hlt).trans d0,(hb.cell (p:=⟨b,o+k*3+1,none⟩) hlt).trans d1,(hb.cell (p:=⟨b,o+k*3+2,none⟩) hlt).trans d2⟩)
   have bZ:=ah hb5;have yF:=ah iG
   have HIK:=ah (show (g.nodes.map Gr.N.id).take (k+1)=(g.nodes.map Gr.N.id).take k ++ [(i:Int)] from by rw [<-hi];exact FV (a:=n.id) (by rw [acJ,Ai.out];rfl))
   have GZ:=ah (show xU (Gr.aG Gr.N.id g.nodes (k+1))=(i:Int) from (abC (key:=Gr.N.id) Ai.out).trans hi)
   clear hi hi4 iG hb5 hln hpn hcall hE hlt ra rp hBw jG h1 h2
   go_upto_region 13 with fail
   rw [yF.out];clear d0 d1 d2 c0 c1 a0 f0;obtain ⟨d0,d1,d2⟩:=HD.out W5 bZ.out
   obtain ⟨c0,c1⟩:=cells2 yu.out.box;go_wp2_with fail;refine wu.out.mono ?_
   rintro e w6 ⟨rfl,hb6⟩;have ru:=ah (yu.out.below hb6);clear hb6 d0 d1 d2 c0 c1
   cases E with
   | succ e=>
    have hr:=HST.out (e+1) HB3.out (by omega)
    have HRR:=ah hr;have hne:(((e+1:Nat):Int) !=0)=true:=by rw [acV];omega
    clear hr;go_wp2
    go_ret2
    exact ⟨by rw [HRR.out];rfl,ru.out.bel⟩
   | zero=>
    have WT:=ah (Et.out HB3.out);go_wp2
    go_roundg q
    case measure=>omega
    exact ⟨k+1,by rw [GZ.out],int_eq (by omega),by have:=HK.out;omega,by rw [HIK.out];exact ru.out,WT.out⟩
 | zero=>
  obtain rfl:nn=k:=by omega
  have G9: ∀j a,g.nodes[j]?=some a->Gr.iI (Gr.aG Gr.N.id g.nodes j) a=0:=fun j a ha=>HZ.out j a (by have:=(acy.1 ha).1;have:=ay.out;omega) ha
  have WU: ∀x∈g.nodes.map Gr.N.id,0<=x/\x<=1023:=fun x hx=>by
   obtain ⟨n,hn,rfl⟩:=ad5.1 hx;obtain ⟨j,hj,e⟩:=ad2 hn;have:=G9 j n (by rw [ab2 hj,e])
   rw [abA (by rw [ab2 hj,e])] at this
   split at this
   ·cases this
   omega
  obtain ⟨ids,Pq⟩: ∃l,g.nodes.map Gr.N.id=l:=⟨_,rfl⟩
  rw [acg (by rw [ace,ay.out];exact ab1 _),Pq] at aW
  rw [Pq] at WU;have jD:=ah G9;have Pv:=ah WU;have aem:=ah Pq
  obtain ⟨LA0,aen⟩: ∃x,xU (Gr.aG Gr.N.id g.nodes nn)=x:=⟨_,rfl⟩;rw [aen]
  clear hk G9 WU Pq HZ aen;go_wp2_with fail
  go_loopg [5,9] rn (fun q la x wr=> ∃m:Nat,la= .int .i64 (xU (Gr.aG Gr.R.id g.au m))/\x= .int .i64 m/\m+q=rn/\yR w (.slice An nn cn) (.slice Ar rn cr) ids wr/\Hid (∀j a,j<m->g.au[j]?=some a->Gr.jf (g.nodes.map Gr.N.id) (Gr.aG Gr.R.id g.au j) a=0))
  case atStart=>exact ⟨0,rfl,rfl,by omega,aW.out,fun j a h=>by omega⟩
  obtain ⟨m,rfl,rfl,hm,hrl2,hz⟩:=hrel
  have HZ:Hid (∀j a,j<m->g.au[j]?=some a->Gr.jf (g.nodes.map Gr.N.id) (Gr.aG Gr.R.id g.au j) a=0):=hz
  have Dj:=ah hrl2;have HK:=ah hm;clear hz hrl2 c0 c1 aW;obtain ⟨c0,c1⟩:=cells2 Dj.out.box
  cases gk with
  | succ q=>
   have hmn:m<rn:=by omega
   have O5:(m:Int)<rn:=by omega
   have pk:(0:Int)<=(m:Int):=by omega
   have tk:((m:Int)).toNat=m:=by omega
   obtain ⟨r,hr⟩: ∃r,g.au[m]?=some r:=⟨_,ab2 (by rw [gy.out];exact hmn)⟩
   have hBw:=Dj.out.bel.mono aH.out
   obtain ⟨b,o,Ap,cp,rfl,hlt,⟨d0,d1,d2,d3,d4⟩,rp⟩:=(HR.out.below hBw (ig.below hBw)).rel hr
   have Px:=aK.out.rs r (acf hr);obtain ⟨P,hP⟩: ∃P,Gr.aG Gr.R.id g.au m=P:=⟨_,rfl⟩
   have hck:=ajF ids P r;rw [hP]
   have HST:=ah (fun (e:Nat) (he:Gr.jf ids P r=e) (hne:e≠0)=>aaV jD.out hr (by rw [aem.out,hP];exact he) hne HZ.out)
   have Et:=ah (fun (he:Gr.jf ids P r=0)=>xO hr HZ.out (by rw [aem.out,hP];exact he))
   have iE:=ah (fun (x:Int) (h:0<=x)=>abB (p:=P) h)
   obtain ⟨LA,Di⟩: ∃x,xU P=x:=⟨_,rfl⟩;rw [Di] at iE⊢;have aU:=ah hck
   have iC:=ah (abC (key:=Gr.R.id) hr);simp only [ST] at d1
   obtain ⟨z,hz⟩: ∃z:ByteArray,(⟨r.type.toArray⟩:ByteArray)=z:=⟨_,rfl⟩;rw [hz] at d1
   have hzl:z.size<=1073741824:=by rw [<-hz];exact (bf _).symm▸Px.tl
   have hgn:=fun (V:World)=>TI z V hzl
   have hzd:z.data.toList=r.type:=by rw [<-hz]
   rw [hzd] at hgn;obtain ⟨pn,hpn⟩: ∃x,r.props.length=x:=⟨_,rfl⟩
   obtain ⟨rb,hrb⟩: ∃x,wr.heap.size=x:=⟨_,rfl⟩;rw [hpn] at d4
   obtain ⟨WR,AA⟩: ∃W,wr.alloc (.cells #[.int .i64 r.id, .string z, .int .i64 r.src, .int .i64 r.dst, .slice Ap pn cp] 63)=W:=⟨_,rfl⟩
   have hb5:Below wr.heap.size wr WR:=AA▸(Below.refl _ wr).alloc (ab1 _) _
   have iH:=ah (Dj.out.below hb5)
   have ED:=ah (show aj WR rb 63 #[.int .i64 r.id, .string z, .int .i64 r.src, .int .i64 r.dst, .slice Ap pn cp] by rw [<-AA,<-hrb];exact aj.new _ _ _)
   have hpw:=fun (X:World) (hb:Below wr.heap.size wr X)=>abl B Ap cp r.props X (rp.below (hb.mono (ab5 aH.out Dj.out.bel.size)) (aQ.below (hb.mono (ab5 aH.out Dj.out.bel.size)))) (ab5 (ab5 aH.out Dj.out.bel.size) hb.size) Px.pl Px.ps
   rw [hpn] at hpw;have oO:=ah hpw;have jE:=ah hgn;have bZ:=ah hb5;have CX:=ah AA
   have Df:=ah hrb
   clear hmn hr hBw hlt Px hP hck Di hz hzl hgn hzd hpn hrb AA hb5 hpw rp hm
   go_upto_region 21 with fail
   rw [CX.out,Df.out];clear d0 d1 d2 d3 d4 c0 c1 CX Df
   obtain ⟨d0,d1,d2,d3,d4⟩:=cells5 ED.out;obtain ⟨c0,c1⟩:=cells2 iH.out.box
   by_cases h1:r.id<0
   ·have hr:=HST.out 62 (by rw [aU.out,ab7 (.inl h1)]) (by decide)
    have HRR:=ah hr;have t1:decide (r.id<0)=true:=abW h1;clear hr;go_wp2
    go_ret2
    exact ⟨by rw [HRR.out,ay.out,akB];rfl,iH.out.bel⟩
   have t1:decide (r.id<0)=false:=abX h1;have h1':0<=r.id:=by omega
   by_cases h2:2047<r.id
   ·have hr:=HST.out 62 (by rw [aU.out,ab7 (.inr (by omega))]) (by decide)
    have HRR:=ah hr;have t2:decide (2047<r.id)=true:=abW h2;clear hr;go_wp2
    go_ret2
    exact ⟨by rw [HRR.out,ay.out,akB];rfl,iH.out.bel⟩
   have t2:decide (2047<r.id)=false:=abX h2
   obtain ⟨b3,hb3⟩: ∃b,decide (r.id<=LA)=b:=⟨_,rfl⟩
   have HB3:=ah (show Gr.jf ids P r=if b3=true then 6 else if Gr.dw r.type=false then 60 else if r.src∉ids\/r.dst∉ids then 65 else Gr.dV r.props by rw [aU.out,ab6 (by omega),iE.out r.id h1',hb3])
   cases b3 with
   | true=>
    have hle:=aci hb3;have hr:=HST.out 6 HB3.out (by decide)
    have HRR:=ah hr;clear hr;go_wp2
    go_ret2
    exact ⟨by rw [HRR.out,ay.out,akB];rfl,iH.out.bel⟩
   | false=>
    have hle:LA<r.id:=by have:=ach hb3;omega
    obtain ⟨GN,hg⟩: ∃b,Gr.dw r.type=b:=⟨_,rfl⟩;rw [hg] at jE HB3
    have HB4:=ah (show Gr.jf ids P r=if GN=false then 60 else if r.src∉ids\/r.dst∉ids then 65 else Gr.dV r.props from HB3.out)
    clear hg HB3;go_wp2_with fail;refine (jE.out _).mono ?_;rintro e w6 ⟨rfl,hb6⟩
    have kH:=ah (iH.out.below hb6);have qZ:=ah (ED.out.below hb6 ED.out.lt)
    have nD:=ah (bZ.out.trans (hb6.mono bZ.out.size));clear hb6 d0 d1 d2 d3 d4 c0 c1 iH ED
    obtain ⟨d0,d1,d2,d3,d4⟩:=cells5 qZ.out;cases GN with
    | false=>
     have hr:=HST.out 60 HB4.out (by decide)
     have HRR:=ah hr;clear hr;go_wp2
     go_ret2
     exact ⟨by rw [HRR.out,ay.out,akB];rfl,kH.out.bel⟩
    | true=>
     have HBAD:=ah (fun (h:r.src∉ids\/r.dst∉ids)=>HST.out 65 (by rw [HB4.out,ab6 (by decide),ab7 h]) (by decide))
     by_cases e1:r.src<0
     ·have hr:=HBAD.out (.inl (fun h=>by have:=Pv.out _ h;omega))
      have HRR:=ah hr;have tb:decide (r.src<0)=true:=abW e1;clear hr;go_wp2
      go_ret2
      exact ⟨by rw [HRR.out,ay.out,akB];rfl,kH.out.bel⟩
     have te1:decide (r.src<0)=false:=abX e1;by_cases e2:r.dst<0
     ·have hr:=HBAD.out (.inr (fun h=>by have:=Pv.out _ h;omega))
      have HRR:=ah hr;have tb:decide (r.dst<0)=true:=abW e2;clear hr;go_wp2
      go_ret2
      exact ⟨by rw [HRR.out,ay.out,akB];rfl,kH.out.bel⟩
     have te2:decide (r.dst<0)=false:=abX e2;by_cases e3:1023<r.src
     ·have hr:=HBAD.out (.inl (fun h=>by have:=Pv.out _ h;omega))
      have HRR:=ah hr;have tb:decide (1023<r.src)=true:=abW e3;clear hr;go_wp2
      go_ret2
      exact ⟨by rw [HRR.out,ay.out,akB];rfl,kH.out.bel⟩
     have te3:decide (1023<r.src)=false:=abX e3;by_cases e4:1023<r.dst
     ·have hr:=HBAD.out (.inr (fun h=>by have:=Pv.out _ h;omega))
      have HRR:=ah hr;have tb:decide (1023<r.dst)=true:=abW e4;clear hr;go_wp2
      go_ret2
      exact ⟨by rw [HRR.out,ay.out,akB];rfl,kH.out.bel⟩
     have te4:decide (1023<r.dst)=false:=abX e4
     obtain ⟨i,hi⟩: ∃i:Nat,r.src=(i:Int):=⟨r.src.toNat,by omega⟩
     obtain ⟨j,hj⟩: ∃j:Nat,r.dst=(j:Int):=⟨r.dst.toNat,by omega⟩
     have hi4:i<1024:=by omega
     have Gz:j<1024:=by omega
     have hiI:(i:Int)<1024:=by omega
     have lT:(j:Int)<1024:=by omega
     have pi:(0:Int)<=(i:Int):=by omega
     have pj:(0:Int)<=(j:Int):=by omega
     have ti:((i:Int)).toNat=i:=by omega
     have tj:((j:Int)).toNat=j:=by omega
     have a0:=(kH.out.arr.cell hi4).1;have a1:=(kH.out.arr.cell Gz).1
     rw [hi] at d2 te1 te3 HBAD HB4;rw [hj] at d3 te2 te4 HBAD HB4
     obtain ⟨be,hbe⟩: ∃b,decide ((i:Int)∈ids)=b:=⟨_,rfl⟩
     obtain ⟨bd,hbd⟩: ∃b,decide ((j:Int)∈ids)=b:=⟨_,rfl⟩;rw [hbe] at a0;rw [hbd] at a1
     have Hg:=ah hbe;have ou:=ah hbd;clear hi hj hi4 Gz e1 e2 e3 e4 hbe hbd;cases be with
     | false=>
      have hr:=HBAD.out (.inl (ach Hg.out));have HRR:=ah hr;clear hr;go_wp2
      go_ret2
      exact ⟨by rw [HRR.out,ay.out,akB];rfl,kH.out.bel⟩
     | true=>
      cases bd with
      | false=>
       have hr:=HBAD.out (.inr (ach ou.out));have HRR:=ah hr;clear hr;go_wp2
       go_ret2
       exact ⟨by rw [HRR.out,ay.out,akB];rfl,kH.out.bel⟩
      | true=>
       have AB:=ah (show Gr.jf ids P r=Gr.dV r.props by
        rw [HB4.out,ab6 (by decide),ab6 (fun h=>h.elim (fun h=>h (aci Hg.out)) (fun h=>h (aci ou.out)))])
       obtain ⟨E,hE⟩: ∃E,Gr.dV r.props=E:=⟨_,rfl⟩;rw [hE] at AB oO;clear hE
       go_wp2_with fail;refine (oO.out w6 nD.out).mono ?_;rintro e w7 ⟨rfl,hb7⟩
       have gU:=ah (kH.out.below hb7);clear hb7 d0 d1 d2 d3 d4 a0 a1;cases E with
       | succ e=>
        have hr:=HST.out (e+1) AB.out (by omega)
        have HRR:=ah hr;have hne:(((e+1:Nat):Int) !=0)=true:=by rw [acV];omega
        clear hr;go_wp2
        go_ret2
        exact ⟨by rw [HRR.out,ay.out,akB];rfl,gU.out.bel⟩
       | zero=>
        have WT:=ah (Et.out AB.out);go_wp2
        go_roundg q
        case measure=>omega
        exact ⟨m+1,by rw [iC.out],int_eq (by omega),by have:=HK.out;omega,gU.out,WT.out⟩
  | zero=>
   obtain rfl:rn=m:=by omega
   have Eu: ∀j a,g.au[j]?=some a->Gr.jf (g.nodes.map Gr.N.id) (Gr.aG Gr.R.id g.au j) a=0:=fun j a ha=>HZ.out j a (by have:=(acy.1 ha).1;have:=gy.out;omega) ha
   have hrest:=aaW jD.out Eu;have Aj:Gr.uw g.nodes:=⟨fun j n hn=>Gr.MV.1 (jD.out j n hn)⟩
   have CY:Gr.xH (g.nodes.map Gr.N.id) g.au:=⟨fun j n hn=>Gr.MW.1 (Eu j n hn)⟩
   have h1:=Aj.YR;have h2:=CY.len;have h3:=Gr.YS Aj CY
   have hN1:(pF 1 g).length<=1073741800:=by rw [ad9];unfold Gr.oL;omega
   have hN2:(pF 2 g).length<=1073741800:=by rw [aea];unfold Gr.names2;rw [ace];omega
   have hN3:(pF 3 g).length<=1073741800:=by rw [aeb];unfold Gr.nS;rw [ace];omega
   have hg:=fun (V:World) (hb:Below w.heap.size w V)=>HG.out.below (hb.mono aH.out)
   have H1:=ah (fun (V:World) (hb:Below w.heap.size w V)=>TL 1 B _ g V (hg V hb) (ab5 aH.out hb.size) hN1)
   have H2:=ah (fun (V:World) (hb:Below w.heap.size w V)=>TL 2 B _ g V (hg V hb) (ab5 aH.out hb.size) hN2)
   have H3:=ah (fun (V:World) (hb:Below w.heap.size w V)=>TL 3 B _ g V (hg V hb) (ab5 aH.out hb.size) hN3)
   have HW:=ah (fun (V:World) (hb:Below w.heap.size w V)=>ajD B _ g V (hg V hb) (ab5 aH.out hb.size) (Gr.YT Aj CY) (by omega))
   simp only [ad9] at H1;simp only [aea] at H2;simp only [aeb] at H3
   obtain ⟨l1,hl1⟩: ∃n,(Gr.dedup (Gr.oL g)).length=n:=⟨_,rfl⟩
   obtain ⟨l2,hl2⟩: ∃n,(Gr.dedup (Gr.names2 g)).length=n:=⟨_,rfl⟩
   obtain ⟨l3,hl3⟩: ∃n,(Gr.dedup (Gr.nS g)).length=n:=⟨_,rfl⟩
   obtain ⟨wt,hwt⟩: ∃n,Gr.weight g=n:=⟨_,rfl⟩;rw [hl1] at H1 hrest;rw [hl2] at H2 hrest
   rw [hl3] at H3 hrest;rw [hwt] at HW hrest;have qp:=ah hrest
   obtain ⟨LA,Di⟩: ∃x,xU (Gr.aG Gr.R.id g.au rn)=x:=⟨_,rfl⟩;rw [Di]
   clear hm hrest Aj CY Eu hl1 hl2 hl3 hwt h1 h2 h3 hN1 hN2 hN3 hg Di HZ;go_wp2_with fail
   refine (H1.out wr Dj.out.bel).mono ?_;rintro e w2 ⟨A1,d1,rfl,hb⟩
   have dP:=ah (Dj.out.below hb);clear hb c0 c1;obtain ⟨c0,c1⟩:=cells2 dP.out.box
   by_cases hq1:200<l1
   ·have t1:decide ((200:Int)<l1)=true:=abW (by omega)
    have VR:(200:Int)<l1:=by omega
    have aU:=ah (show Gr.check g=(66,0) by rw [qp.out,ab7 (.inl hq1)])
    clear hq1 H1 H2 H3 HW;go_wp2
    go_ret2
    exact ⟨by rw [aU.out];rfl,dP.out.bel⟩
   have t1:decide ((200:Int)<l1)=false:=abX (by omega)
   have VR:(l1:Int)<=200:=by omega
   go_wp2_with fail;refine (H2.out w2 dP.out.bel).mono ?_;rintro e w3 ⟨A2,d2,rfl,hb⟩
   have HS2:=ah (dP.out.below hb);clear hb c0 c1;obtain ⟨c0,c1⟩:=cells2 HS2.out.box
   by_cases hq2:200<l2
   ·have t2:decide ((200:Int)<l2)=true:=abW (by omega)
    have VT:(200:Int)<l2:=by omega
    have aU:=ah (show Gr.check g=(66,0) by rw [qp.out,ab7 (.inr (.inl hq2))])
    clear hq2 H1 H2 H3 HW;go_wp2
    go_ret2
    exact ⟨by rw [aU.out];rfl,HS2.out.bel⟩
   have t2:decide ((200:Int)<l2)=false:=abX (by omega)
   have VT:(l2:Int)<=200:=by omega
   go_wp2_with fail;refine (H3.out w3 HS2.out.bel).mono ?_;rintro e w4 ⟨A3,d3,rfl,hb⟩
   have bK:=ah (HS2.out.below hb);clear hb c0 c1;obtain ⟨c0,c1⟩:=cells2 bK.out.box
   by_cases hq3:200<l3
   ·have t3:decide ((200:Int)<l3)=true:=abW (by omega)
    have VU:(200:Int)<l3:=by omega
    have aU:=ah (show Gr.check g=(66,0) by rw [qp.out,ab7 (.inr (.inr hq3))])
    clear hq3 H1 H2 H3 HW;go_wp2
    go_ret2
    exact ⟨by rw [aU.out];rfl,bK.out.bel⟩
   have t3:decide ((200:Int)<l3)=false:=abX (by omega)
   have VU:(l3:Int)<=200:=by omega
   go_wp2_with fail;refine (HW.out w4 bK.out.bel).mono ?_;rintro e w5 ⟨rfl,hb⟩
   have iM:=ah (bK.out.below hb);clear hb c0 c1;by_cases hq4:262144<wt
   ·have t4:decide ((262144:Int)<wt)=true:=abW (by omega)
    have VW:(262144:Int)<wt:=by omega
    have aU:=ah (show Gr.check g=(67,0) by rw [qp.out,ab6 (by omega),ab7 hq4])
    clear hq4 H1 H2 H3 HW;go_wp2
    go_ret2
    exact ⟨by rw [aU.out];rfl,iM.out.bel⟩
   have t4:decide ((262144:Int)<wt)=false:=abX (by omega)
   have VW:(wt:Int)<=262144:=by omega
   have aU:=ah (show Gr.check g=(0,0) by rw [qp.out,ab6 (by omega),ab6 hq4])
   clear hq4 H1 H2 H3 HW;go_wp2
   go_ret2
   exact ⟨by rw [aU.out];rfl,iM.out.bel⟩
theorem TM {g:Gr.G} (h:Gr.Good g):Small g:=by
 have hn: ∀n∈g.nodes,n.labels.length<=8/\n.props.length<=16:=fun n hn=>by
  obtain ⟨_,h1⟩:=h.nodes.mem hn;exact ⟨h1.labels.len,h1.props.len⟩
 refine ⟨ab5 h.nodes.len (by decide),ab5 h.au.len (by decide),fun n hx=>ab5 (hn n hx).1 (by decide),fun n hx=>ab5 (hn n hx).2 (by decide),fun r hr=> ?_⟩
 obtain ⟨_,h1⟩:=h.au.mem hr;exact ab5 h1.props.len (by decide)
theorem NS {g:Gr.G} (h:Cy.Fine g) (ok:xZ g):Gr.check g=(0,0)/\Cy.lC g=(Cy.print g,0)/\(Cy.print g).length<=8388608/\Cy.parse (Cy.print g)=(g,0):=by
 have h0:(Gr.check g).1=0:=Gr.xJ.2 h.good;have hl:=TD h.good ok
 exact ⟨Gr.agP h0,by unfold Cy.lC;rw [ab7 h0],hl,Cy.ag8 h (ab5 hl (by decide))⟩
theorem fE.form {W:World} {B:Nat} {u:Value} {g:Gr.G} (h:fE W B u g) {a b:Nat} (ha:g.nodes.length=a) (hb:g.au.length=b): ∃A1 c1 A2 c2,u= .agg #[.slice A1 a c1, .slice A2 b c2]:=by
 obtain ⟨A1,c1,A2,c2,e,-,-⟩:=h.ex;subst ha hb;exact ⟨A1,c1,A2,c2,e⟩
theorem NT {g:Gr.G} (h:Gr.Good g) (ok:xZ g):Cy.Fine g:=⟨h,fun p hp=>by
 have hk:BN p.val:=by
  unfold Gr.fH at hp
  rcases acU.1 hp with h1 | h1
  ·obtain ⟨n,hn,hq⟩:=ad1.1 h1
   exact ((ok.ns n hn).ps p hq).val
  obtain ⟨n,hn,hq⟩:=ad1.1 h1;exact ((ok.rs n hn).ps p hq).val
 exact ⟨hk.num,hk.nums⟩⟩
theorem ajH (u:Value) (g:Gr.G) (w:World) (h:fE w w.heap.size u g) (hL:Laid w):
  Calls Tryz.prog 7 #[u] w fun e w'=>e= .returned (.bool true)/\Below w.heap.size w w':=by
 have hok:=h.ok;obtain ⟨nn,hnn⟩: ∃n,g.nodes.length=n:=⟨_,rfl⟩
 obtain ⟨rn,hrn⟩: ∃n,g.au.length=n:=⟨_,rfl⟩;obtain ⟨A1,c1,A2,c2,rfl⟩:=h.form hnn hrn
 obtain ⟨W1,hW1⟩: ∃W,w.alloc (.cells #[.slice A1 nn c1, .slice A2 rn c2] 39)=W:=⟨_,rfl⟩
 have hb1:Below w.heap.size w W1:=hW1▸(Below.refl _ w).alloc (ab1 _) _
 have hk1:aj W1 w.heap.size 39 #[.slice A1 nn c1, .slice A2 rn c2]:=hW1▸aj.new _ _ _
 have iF:=ah (Jd W1 (fun V hV=>hL.below (hb1.trans (hV.mono hb1.size))))
 have HW1:=ah hW1;have HB1:=ah hb1;have aT:=ah hk1
 have HG:=ah (fun (V:World) (hb:Below w.heap.size w V)=>h.below hb)
 have aK:=ah hok;have HL:=ah hL;have ay:=ah (And.intro hnn hrn)
 clear h hok hnn hrn hW1 hb1 hk1 hL;go_enter Tryz.func7,Tryz.ntmps7
 go_upto_region 1 with fail
 rw [HW1.out];clear HW1;go_wp2_with fail;refine iF.out.mono ?_;rintro e w2 ⟨rfl,b2⟩
 have HB2:=ah (HB1.out.trans (b2.mono HB1.out.size))
 have aC:=ah (aT.out.below b2 aT.out.lt);clear b2 iF;obtain ⟨c0,c1⟩:=cells2 aC.out
 obtain ⟨E,hE⟩: ∃E,(Gr.check g).1=E:=⟨_,rfl⟩
 have hck:=NR w.heap.size _ g w2 (HG.out w2 HB2.out) HB2.out.size;rw [hE] at hck
 have aU:=ah hck;have HE:=ah hE;clear hck hE;go_wp2_with fail;refine aU.out.mono ?_
 rintro e w3 ⟨rfl,b3⟩;have HB3:=ah (HB2.out.trans (b3.mono HB2.out.size))
 have bJ:=ah (aC.out.below b3 aC.out.lt);clear b3 c0 c1 aU;obtain ⟨c0,c1⟩:=cells2 bJ.out
 cases E with
 | succ e=>
  have hne:(((e+1:Nat):Int) !=0)=true:=by rw [acV];omega
  go_wp2;go_ret;exact ⟨rfl,HB3.out⟩
 | zero=>
  have hgood:=Gr.xJ.1 HE.out;have HR:=ah (NS (NT hgood aK.out) aK.out)
  have bQ:=ah (TG w.heap.size _ g w3 (HG.out w3 HB3.out) HB3.out.size (TM hgood))
  clear hgood;go_wp2_with fail;refine bQ.out.mono ?_;rintro e w5 ⟨u5,rfl,hg5,b5⟩
  have bZ:=ah (HB3.out.trans (b5.mono HB3.out.size))
  have dY:=ah (bJ.out.below b5 bJ.out.lt)
  have hpr:=NJ w5.heap.size u5 g w5 (hg5.yH aK.out) (ab1 _) (HL.out.below bZ.out)
  obtain ⟨z,hz⟩: ∃z:ByteArray,(⟨(Cy.print g).toArray⟩:ByteArray)=z:=⟨_,rfl⟩
  rw [HR.out.2.1,hz] at hpr;have hzd:z.data.toList=Cy.print g:=by rw [<-hz]
  have hps:=fun (V:World) (hb:Below w.heap.size w V)=>FY z (by rw [Lib.size_eq,hzd];exact ab5 HR.out.2.2.1 (by decide)) V (fun X hX=>HL.out.below (hb.trans (hX.mono hb.size)))
  rw [hzd,HR.out.2.2.2] at hps;have dG:=ah hpr;have nX:=ah hps
  clear hg5 b5 c0 c1 hpr hps hz hzd bQ;go_wp2_with fail;refine dG.out.mono ?_
  rintro e w6 ⟨rfl,b6⟩;have nD:=ah (bZ.out.trans (b6.mono bZ.out.size))
  have qZ:=ah (dY.out.below b6 dY.out.lt);clear b6 dG;go_wp2_with fail
  refine (nX.out w6 nD.out).mono ?_;rintro e w7 ⟨u7,rfl,jl,b7⟩;have oq:=jl.yH aK.out
  obtain ⟨A3,c3,A4,c4,rfl⟩:=oq.form ay.out.1 ay.out.2
  obtain ⟨W8,AO⟩: ∃W,w7.alloc (.cells #[.slice A3 nn c3, .slice A4 rn c4] 39)=W:=⟨_,rfl⟩
  obtain ⟨gc,hgc⟩: ∃x,w7.heap.size=x:=⟨_,rfl⟩
  have hb8:Below w7.heap.size w7 W8:=AO▸(Below.refl _ w7).alloc (ab1 _) _
  have Lp:=ah (show aj W8 gc 39 #[.slice A3 nn c3, .slice A4 rn c4] by rw [<-AO,<-hgc];exact aj.new _ _ _)
  have h68:Below w6.heap.size w6 W8:=b7.trans (hb8.mono b7.size)
  have qy:=ah (qZ.out.below h68 qZ.out.lt)
  have oW:=ah (nD.out.trans (h68.mono nD.out.size))
  have WX:=ah (NK w7.heap.size _ _ g W8 ((HG.out W8 oW.out).more (ab5 nD.out.size b7.size)) (oq.below hb8) hb8.size)
  have Lr:=ah AO;have Dk:=ah hgc;clear hgc AO hb8 h68 oq jl b7 nX
  go_upto_region 10 with fail
  rw [Lr.out,Dk.out];clear Lr Dk;obtain ⟨c0,c1⟩:=cells2 Lp.out
  obtain ⟨d0,d1⟩:=cells2 qy.out;go_wp2_with fail;refine WX.out.mono ?_
  rintro e w9 ⟨rfl,b9⟩;have dh:=ah (oW.out.trans (b9.mono oW.out.size));clear b9;go_wp2
  go_ret;exact ⟨rfl,dh.out⟩
end Go.Proofs.YtoofbflplhbpbaaGreatDoor
