/- Contracts and plain laws,part 33. -/
import Derived.Test.YtanlehkalkafdaaGreatDoorUR31
import Derived.Test.YtanlehkalkafdaaGreatDoorUR32
import Derived.Deep.WholeRow
set_option maxHeartbeats 64000000
set_option maxRecDepth 1000000
set_option linter.all false
namespace Go.Proofs.YtanlehkalkafdaaGreatDoor
open Go.RowKit
theorem weightOf_take {ps:List Gr.P} {k:Nat} {p:Gr.P} (h:ps[k]?=some p):Gr.weightOf (ps.take (k+1))=Gr.weightOf (ps.take k)+Gr.encLen p.val:=by
 rw[uM,h,weightOf_app];simp[Gr.weightOf]
theorem refPropsWeight_any (B:Nat) (A:Option Addr) (c n:Nat) (ps:List Gr.P) (w:World) (h:Lst w B 6 (PropC w B) A ps) (hl:ps.length=n) (hok: ∀p∈ps,POk p) (h0: ∀p∈ps,Cel.check p.val=0) (hB:B<=w.heap.size) (hn:n<=1073741824):
  Calls Tryz.prog 89 #[.slice A n c] w fun e w'=>e=.returned (.int .i64 (Gr.weightOf ps:Nat))/\Below w.heap.size w w':=by
 have HT:=ah (fun(k:Nat)=>show Gr.weightOf (ps.take k)<=41000*1073741824 from rV (weightOf_le (fun p hp=>h0 p (xg hp))) (wF _ (by rw[tK,hl];omega)))
 have H:=ah h;have HL:=ah hl;have HOK:=ah hok;have HCK:=ah h0;have HBB:=ah hB
 clear h hl hok h0 hB;go_enter Tryz.func89,Tryz.ntmps89;go_wp2_with fail
 go_loopg [3,4] n (fun q s x wr=> ∃k:Nat,s=.int .i64 (Gr.weightOf (ps.take k):Nat)/\x=.int .i64 k/\k+q=n/\Below w.heap.size w wr)
 case atStart=>exact⟨0,rfl,rfl,by omega,Below.refl _ _⟩
 obtain⟨k,rfl,rfl,hk,hb⟩:=hrel;have HB:=ah hb;clear hb;have hs:=HT.out k;cases gk with
 |zero=>
  obtain rfl:k=n:=by omega
  have hf:ps.take k=ps:=sG (by rw[HL.out];exact rM _)
  rw[hf];clear hk hs hf;go_wp2;go_ret;exact⟨rfl,HB.out⟩
 |succ q=>
  have hkn:k<n:=by omega
  have hknI:(k:Int)<n:=by omega
  have pk:(0:Int)<=(k:Int):=by omega
  have tk:((k:Int)).toNat=k:=by omega
  obtain⟨p,hp⟩: ∃p,ps[k]?=some p:=⟨_,ay (by rw[HL.out];exact hkn)⟩
  have hm:=sK hp;have hBw:=HB.mono HBB.out
  obtain⟨b,o,An,cn,At,ct,rfl,hlt,⟨-,p1,p2,p3,p4,p5⟩,ra,rb⟩:=(H.out.below hBw (PropC.below hBw)).prop hp
  have hen:=refEncode_any B _ p.val wr (vin_of (cn:=cn) (ct:=ct) (HOK.out p hm).val ra rb) (rV HBB.out HB.size) (HCK.out p hm)
  simp only[ST]at p3 hen;obtain⟨z2,hz2⟩:=aj (⟨p.val.text.toArray⟩:ByteArray)
  rw[hz2]at p3 hen;obtain⟨E,hE⟩:=aj (Gr.encLen p.val)
  obtain⟨S,hS⟩:=aj (Gr.weightOf (ps.take k));have hel:=encLen_le (HCK.out p hm)
  rw[hE]at hen hel;rw[hS]at hs⊢;have hSi:(S:Int)<=41000*1073741824:=by omega
  have hEi:(E:Int)<=41000:=by omega
  have HEN:=ah hen
  have HES:=ah (show Gr.weightOf (ps.take (k+1))=S+E by rw[weightOf_take hp,hS,hE])
  have HK:=ah hk;clear hkn hp hm hBw hlt ra rb hen hz2 hE hS hel hs hk;go_wp2_with fail
  refine HEN.mono ?_;rintro e w2 ⟨A2,c2,rfl,hb2⟩
  have HB2:=ah (HB.trans (hb2.mono HB.size));clear hb2 p1 p2 p3 p4 p5;go_wp2
  go_roundg q
  case measure=>omega
  exact⟨k+1,int_eq (by rw[HES.out];omega),int_eq (by omega),by have:=HK.out;omega,HB2.out⟩
theorem weightOf_flat {α:Type} {l:List α} {f:α->List Gr.P} {k:Nat} {a:α} (h:l[k]?=some a):Gr.weightOf ((l.take (k+1)).flatMap f)=Gr.weightOf ((l.take k).flatMap f)+Gr.weightOf (f a):=by
 rw[flatMap_take h,weightOf_app]
theorem weightOf_part {α:Type} (l:List α) (f:α->List Gr.P) (k:Nat):Gr.weightOf ((l.take k).flatMap f)<=Gr.weightOf (l.flatMap f):=by
 conv=>rhs;rw[<-uz k l,vM,weightOf_app]
 omega
theorem refWeight_any (B:Nat) (u:Value) (g:Gr.G) (w:World) (h:GIn w B u g) (hB:B<=w.heap.size) (hck: ∀p∈Gr.allProps g,Cel.check p.val=0) (hlen:(Gr.allProps g).length<=1073741824):
  Calls Tryz.prog 43 #[u] w fun e w'=>e=.returned (.int .i64 (Gr.weight g:Nat))/\Below w.heap.size w w':=by
 have hok:=h.ok;obtain⟨An,cn,Ar,cr,rfl,hN,hR⟩:=h.ex
 have hle:Gr.weight g<=41000*1073741824:=rV (weightOf_le hck) (wF _ hlen)
 have hsum:Gr.weight g=Gr.weightOf (g.nodes.flatMap Gr.N.props)+Gr.weightOf (g.rels.flatMap Gr.R.props):=by unfold Gr.weight Gr.allProps;rw[weightOf_app]
 have hcn: ∀n∈g.nodes,∀p∈n.props,Cel.check p.val=0:=fun n hn p hp=>hck p (wZ _ (uF.2 ⟨n,hn,hp⟩))
 have hcr: ∀n∈g.rels,∀p∈n.props,Cel.check p.val=0:=fun n hn p hp=>hck p (yB _ (uF.2 ⟨n,hn,hp⟩))
 obtain⟨nn,hnn⟩:=aj g.nodes.length;obtain⟨rn,hrn⟩:=aj g.rels.length;have hnl:=hok.nl
 have hrl:=hok.rl;rw[hnn]at hnl⊢;rw[hrn]at hrl⊢;have HN:=ah hN;have HR:=ah hR
 have HOK:=ah hok;have HCN:=ah hcn;have HCR:=ah hcr;have HNN:=ah hnn;have HRN:=ah hrn
 have HSM:=ah hsum;have HLE:=ah hle;have HBB:=ah hB
 have HK0:=ah (Blk.new w 25 #[.slice An nn cn,.slice Ar rn cr])
 have HB0:=ah (show Below w.heap.size w (w.alloc (.cells #[.slice An nn cn,.slice Ar rn cr] 25)) from(Below.refl _ w).alloc (rM _) _)
 clear h hok hN hR hcn hcr hnn hrn hsum hle hB hck hlen;go_enter Tryz.func43,Tryz.ntmps43
 go_wp2_with fail
 go_loopg [3,4] nn (fun q s x wr=> ∃k:Nat,s=.int .i64 (Gr.weightOf ((g.nodes.take k).flatMap Gr.N.props):Nat)/\x=.int .i64 k/\k+q=nn/\Below w.heap.size w wr/\Blk wr w.heap.size 25 #[.slice An nn cn,.slice Ar rn cr])
 case atStart=>exact⟨0,rfl,rfl,by omega,HB0.out,HK0.out⟩
 obtain⟨k,rfl,rfl,hk,hb,hbk⟩:=hrel;have HB:=ah hb;have HBK:=ah hbk
 obtain⟨c0,c1⟩:=cells2 hbk;have hs:=weightOf_part g.nodes Gr.N.props k
 clear hb hbk HK0 HB0;cases gk with
 |zero=>
  obtain rfl:k=nn:=by omega
  have hf:g.nodes.take k=g.nodes:=sG (by rw[HNN.out];exact rM _)
  rw[hf];obtain⟨T,hT⟩:=aj (Gr.weightOf (g.nodes.flatMap Gr.N.props));rw[hT]at HSM⊢
  have hTle:T<=41000*1073741824:=by have:=HLE.out;have:=HSM.out;omega
  clear hk hs hf hT;go_wp2_with fail
  go_loopg [3,5] rn (fun q s x wr=> ∃m:Nat,s=.int .i64 ((T+Gr.weightOf ((g.rels.take m).flatMap Gr.R.props):Nat):Int)/\x=.int .i64 m/\m+q=rn/\Below w.heap.size w wr/\Blk wr w.heap.size 25 #[.slice An k cn,.slice Ar rn cr])
  case atStart=>exact⟨0,rfl,rfl,by omega,HB.out,HBK.out⟩
  obtain⟨m,rfl,rfl,hm,hb,hbk⟩:=hrel;have HB2:=ah hb;have HBK2:=ah hbk;clear c0 c1
  obtain⟨c0,c1⟩:=cells2 hbk;have hs:=weightOf_part g.rels Gr.R.props m
  clear hb hbk HB HBK;cases gk with
  |zero=>
   obtain rfl:m=rn:=by omega
   have hf:g.rels.take m=g.rels:=sG (by rw[HRN.out];exact rM _)
   rw[hf];rw[hf]at hs;clear hm hf hs;go_wp2;go_ret;exact⟨by rw[HSM.out];rfl,HB2.out⟩
  |succ q=>
   have hmn:m<rn:=by omega
   have hmnI:(m:Int)<rn:=by omega
   have pk:(0:Int)<=(m:Int):=by omega
   have tk:((m:Int)).toNat=m:=by omega
   obtain⟨r,hr⟩: ∃r,g.rels[m]?=some r:=⟨_,ay (by rw[HRN.out];exact hmn)⟩
   have hmm:=sK hr;have hBw:=HB2.mono HBB.out
   obtain⟨b,o,Ap,cp,rfl,hlt,⟨-,-,-,-,d4⟩,rp⟩:=(HR.below hBw (RelC.below hBw)).rel hr
   obtain⟨pn,hpn⟩:=aj r.props.length
   have hen:=refPropsWeight_any B Ap cp pn r.props _ rp hpn (HOK.rs r hmm).ps (HCR.out r hmm) (rV HBB.out HB2.size) (hpn▸(HOK.rs r hmm).pl)
   rw[hpn]at d4;obtain⟨E,hE⟩:=aj (Gr.weightOf r.props)
   obtain⟨S,hS⟩:=aj (Gr.weightOf ((g.rels.take m).flatMap Gr.R.props))
   have hs2:=weightOf_part g.rels Gr.R.props (m+1)
   have hes:=weightOf_flat (f:=Gr.R.props) hr;rw[hE]at hen hes;rw[hS]at hs hes⊢
   have hall:=HSM.out;have hle2:=HLE.out;have hSE:T+S+E<=41000*1073741824:=by omega
   have hSi:((T+S:Nat):Int)+(E:Int)<=41000*1073741824:=by omega
   obtain⟨Q,hQ⟩:=aj (T+S);rw[hQ]at hSi⊢;have HEN:=ah hen
   have HES:=ah (show T+Gr.weightOf ((g.rels.take (m+1)).flatMap Gr.R.props)=Q+E by rw[hes];omega)
   have HK:=ah hm;clear hmn hr hmm hBw hlt rp hpn hen hE hS hs2 hes hall hle2 hSE hQ hs hm
   go_wp2_with fail;refine HEN.mono ?_;rintro e w2 ⟨rfl,hb2⟩
   have HB3:=ah (HB2.trans (hb2.mono HB2.size));have HBK3:=ah (HBK2.below hb2 HBK2.lt)
   clear hb2 d4 c0 c1;go_wp2
   go_roundg q
   case measure=>omega
   exact⟨m+1,int_eq (by rw[HES.out];omega),int_eq (by omega),by have:=HK.out;omega,HB3.out,HBK3.out⟩
 |succ q=>
  have hkn:k<nn:=by omega
  have hknI:(k:Int)<nn:=by omega
  have pk:(0:Int)<=(k:Int):=by omega
  have tk:((k:Int)).toNat=k:=by omega
  obtain⟨r,hr⟩: ∃r,g.nodes[k]?=some r:=⟨_,ay (by rw[HNN.out];exact hkn)⟩
  have hmm:=sK hr;have hBw:=HB.mono HBB.out
  obtain⟨b,o,Al,cl,Ap,cp,rfl,hlt,⟨-,-,d2⟩,-,rp⟩:=(HN.below hBw (NodeC.below hBw)).node hr
  obtain⟨pn,hpn⟩:=aj r.props.length
  have hen:=refPropsWeight_any B Ap cp pn r.props _ rp hpn (HOK.ns r hmm).ps (HCN.out r hmm) (rV HBB.out HB.size) (hpn▸(HOK.ns r hmm).pl)
  rw[hpn]at d2;obtain⟨E,hE⟩:=aj (Gr.weightOf r.props)
  obtain⟨S,hS⟩:=aj (Gr.weightOf ((g.nodes.take k).flatMap Gr.N.props))
  have hs2:=weightOf_part g.nodes Gr.N.props (k+1)
  have hes:=weightOf_flat (f:=Gr.N.props) hr;rw[hE]at hen hes;rw[hS]at hs hes⊢
  have hall:=HSM.out;have hle2:=HLE.out
  have hSi:(S:Int)+(E:Int)<=41000*1073741824:=by omega
  have HEN:=ah hen
  have HES:=ah (show Gr.weightOf ((g.nodes.take (k+1)).flatMap Gr.N.props)=S+E from hes)
  have HK:=ah hk;clear hkn hr hmm hBw hlt rp hpn hen hE hS hs2 hes hall hle2 hs hk
  go_wp2_with fail;refine HEN.mono ?_;rintro e w2 ⟨rfl,hb2⟩
  have HB3:=ah (HB.trans (hb2.mono HB.size));have HBK3:=ah (HBK.below hb2 HBK.lt)
  clear hb2 d2 c0 c1;go_wp2
  go_roundg q
  case measure=>omega
  exact⟨k+1,int_eq (by rw[HES.out];omega),int_eq (by omega),by have:=HK.out;omega,HB3.out,HBK3.out⟩
def There (V:World) (b:Nat) (ids:List Int):Prop:= ∃cs:Array Value,Blk V b 80 cs/\cs.size=1024/\ ∀i:Nat,i<1024->cs[i]?=some (.bool (decide ((i:Int)∈ids)))
theorem There.below {V V':World} {b:Nat} {ids:List Int} (h:There V b ids) (hb:Below V.heap.size V V'):There V' b ids:=by
 obtain⟨cs,h1,h2⟩:=h;exact⟨cs,h1.below hb h1.lt,h2⟩
theorem There.cell {V:World} {b:Nat} {ids:List Int} (h:There V b ids) {i:Nat} (hi:i<1024):V.cell? ⟨b,i,none⟩=some (.bool (decide ((i:Int)∈ids)))/\V.frozen? ⟨b,i,none⟩=false:=by
 obtain⟨cs,h1,h2,h3⟩:=h;exact⟨(h1.cell i).trans (h3 i hi),h1.frozen i⟩
theorem There.put {V:World} {b:Nat} {ids:List Int} (h:There V b ids) {i:Nat} (hi:i<1024):There (V.setCell ⟨b,i,none⟩ (.bool true)) b (ids++[(i:Int)]):=by
 obtain⟨cs,h1,h2,h3⟩:=h
 refine⟨_,h1.set_ i (.bool true),by rw[Array.size_setIfInBounds];exact h2,fun j hj=> ?_⟩
 rw[Bo]
 split
 ·rename_i e
  subst e;rw[rY (by omega)]
  simp
 rename_i e;rw[h3 j hj]
 congr 2
 rw[wJ];simp only[tX,tZ,ug]
 constructor
 ·exact .inl
 rintro(h|h)
 ·exact h
 omega
structure RcS (w:World) (u v:Value) (ids:List Int) (V:World):Prop where
 box:Blk V w.heap.size 25 #[u,v]
 arr:There V (w.heap.size+1) ids
 bel:Below w.heap.size w V
theorem RcS.below {w V V':World} {u v:Value} {ids:List Int} (h:RcS w u v ids V) (hb:Below V.heap.size V V'):RcS w u v ids V':=
 ⟨h.box.below hb h.box.lt,h.arr.below hb,h.bel.trans (hb.mono h.bel.size)⟩
theorem RcS.put {w V:World} {u v:Value} {ids:List Int} (h:RcS w u v ids V) {i:Nat} (hi:i<1024):RcS w u v (ids++[(i:Int)]) (V.setCell ⟨w.heap.size+1,i,none⟩ (.bool true)):=
 ⟨h.box.far (by simp) _,h.arr.put hi,h.bel.setCell (p:=⟨w.heap.size+1,i,none⟩) (by simp) _⟩
def lastId (p:Option Int):Int:=p.getD (-1)
theorem zero_there:(Tryz.prog.info? 80).map (fun i=>(i.zero,i.size))=some (some (.agg (Array.replicate 1024 (.bool false))),1024):=by kernel_rfl
theorem ck_nodes {g:Gr.G} {k:Nat} {n:Gr.N} (hn:g.nodes[k]?=some n):Gr.nodeWrong (Gr.prevAt Gr.N.id g.nodes k) n=if n.id<0\/1024<=n.id then 61 else if(Gr.prevAt Gr.N.id g.nodes k).any (fun q=>decide (n.id<=q))=true then 6 else nodeW n:=rfl
theorem ck_rels (ids:List Int) (P:Option Int) (r:Gr.R):Gr.relWrong ids P r=if r.id<0\/2048<=r.id then 62 else if P.any (fun q=>decide (r.id<=q))=true then 6 else if Gr.goodName r.type=false then 60 else if r.src∉ids\/r.dst∉ids then 65 else Gr.propsWrong r.props:=rfl
theorem last_le {p:Option Int} {x:Int} (h:0<=x):p.any (fun q=>decide (x<=q))=decide (x<=lastId p):=by
 cases p with
 |none=>exact(rO (show¬x<= -1 by omega)).symm
 |some q=>rfl
theorem last_next {α:Type} {l:List α} {key:α->Int} {k:Nat} {a:α} (h:l[k]?=some a):lastId (Gr.prevAt key l (k+1))=key a:=by
 show lastId (l[k]?.map key)=key a
 rw[h];rfl
theorem there_facts: ∃cs:Array Value,cs.size=1024/\(∀w,(zeroValue 80).run Tryz.prog w=.ok (.agg cs) w)/\
  (∀W:World,(storeCells ⟨W.heap.size,0,none⟩ cs.toList 0).run Tryz.prog (W.alloc (.cells cs 80))=.ok () (W.alloc (.cells cs 80)))/\ ∀W:World,There (W.alloc (.cells cs 80)) W.heap.size []:=by
 have hcz:(Array.replicate 1024 (Value.bool false)).size=1024:=Array.size_replicate
 obtain⟨hz,hi⟩:=zero_of_info zero_there
 refine⟨Array.replicate 1024 (Value.bool false),hcz,hz,fun W=>run_storeCells_new (P:=Tryz.prog) W 80 _ _ (by rw[hcz];exact hi) rfl ?_,fun W=>⟨_,Blk.new _ _ _,hcz,fun i hi=> ?_⟩⟩
 ·rw[Array.all_eq_true]
  intro i hi;rw[Array.getElem_replicate];rfl
 rw[Array.getElem?_replicate,rY hi];simp
theorem refCheck_any (B:Nat) (u:Value) (g:Gr.G) (w:World) (h:GIn w B u g) (hB:B<=w.heap.size):
  Calls Tryz.prog 16 #[u] w fun e w'=>e=.returned (.tuple #[.int .i64 ((Gr.check g).1:Nat),.int .i64 ((Gr.check g).2:Nat)])/\Below w.heap.size w w':=by
 have hok:=h.ok;have HG:=ah h;obtain⟨An,cn,Ar,cr,rfl,hN,hR⟩:=h.ex
 obtain⟨nn,hnn⟩:=aj g.nodes.length;obtain⟨rn,hrn⟩:=aj g.rels.length;have hnl:=hok.nl
 have hrl:=hok.rl;rw[hnn]at hnl HG⊢;rw[hrn]at hrl HG⊢;have HN:=ah hN;have HR:=ah hR
 have HOK:=ah hok;have HNN:=ah hnn;have HRN:=ah hrn;have HBB:=ah hB
 obtain⟨cs,hcz,hz,hsc,hst⟩:=there_facts
 have hsc:=hsc (w.alloc (.cells #[.slice An nn cn,.slice Ar rn cr] 25))
 have hst:=hst (w.alloc (.cells #[.slice An nn cn,.slice Ar rn cr] 25))
 rw[World.size_alloc]at hsc hst
 obtain⟨W1,hW1⟩:=aj ((w.alloc (.cells #[.slice An nn cn,.slice Ar rn cr] 25)).alloc (.cells cs 80))
 have HS0:=ah (show RcS w (.slice An nn cn) (.slice Ar rn cr) [] W1 from hW1▸⟨(Blk.new w _ _).alloc _,hst,((Below.refl _ w).alloc (rM _) _).alloc (by simp) _⟩)
 have HW1:=ah hW1;clear h hN hR hok hnn hrn hB hst hW1;go_enter Tryz.func16,Tryz.ntmps16
 go_upto_region 2 with fail
 rw[HW1.out];clear HW1 hsc hz hcz;obtain⟨c0,c1⟩:=cells2 HS0.box;go_wp2_with fail
 go_loopg [5,6] nn (fun q la x wr=> ∃k:Nat,la=.int .i64 (lastId (Gr.prevAt Gr.N.id g.nodes k))/\x=.int .i64 k/\k+q=nn/\RcS w (.slice An nn cn) (.slice Ar rn cr) ((g.nodes.map Gr.N.id).take k) wr/\Hid (∀j a,j<k->g.nodes[j]?=some a->Gr.nodeWrong (Gr.prevAt Gr.N.id g.nodes j) a=0))
 case atStart=>exact⟨0,rfl,rfl,by omega,HS0.out,fun j a h=>by omega⟩
 obtain⟨k,rfl,rfl,hk,hrl,hz⟩:=hrel
 have HZ:Hid (∀j a,j<k->g.nodes[j]?=some a->Gr.nodeWrong (Gr.prevAt Gr.N.id g.nodes j) a=0):=hz
 have HRL:=ah hrl;have HK:=ah hk;clear hz hrl c0 c1 HS0;obtain⟨c0,c1⟩:=cells2 HRL.box
 cases gk with
 |succ q=>
  have hkn:k<nn:=by omega
  have hknI:(k:Int)<nn:=by omega
  have pk:(0:Int)<=(k:Int):=by omega
  have tk:((k:Int)).toNat=k:=by omega
  obtain⟨n,hn⟩: ∃n,g.nodes[k]?=some n:=⟨_,ay (by rw[HNN.out];exact hkn)⟩
  have hBw:=HRL.bel.mono HBB.out
  obtain⟨b,o,Al,cl,Ap,cp,rfl,hlt,⟨d0,d1,d2⟩,ra,rp⟩:=(HN.below hBw (NodeC.below hBw)).node hn
  have hnok:=HOK.ns n (sK hn);have hck:=ck_nodes hn;have HNK:=ah hn
  obtain⟨P,hP⟩:=aj (Gr.prevAt Gr.N.id g.nodes k);rw[hP]at hck⊢
  have HST:=ah (fun(e:Nat) (he:Gr.nodeWrong P n=e) (hne:e≠0)=>check_nodes hn (hP▸he) hne HZ.out)
  have HMORE:=ah (fun(he:Gr.nodeWrong P n=0)=>first_more hn HZ.out (hP▸he))
  have HLE:=ah (fun(x:Int) (h:0<=x)=>last_le (p:=P) h)
  obtain⟨LA,hLA⟩:=aj (lastId P);rw[hLA]at HLE⊢;have HCK:=ah hck
  clear hkn hn hck hP hLA hk;by_cases h1:n.id<0
  ·have hr:=HST.out 61 (by rw[HCK.out,rY (.inl h1)]) (by decide)
   have HRR:=ah hr;have t1:decide (n.id<0)=true:=rQ h1;clear hr hlt ra rp hBw hnok;go_wp2
   go_ret2
   exact⟨by rw[HRR.out];rfl,HRL.bel⟩
  have t1:decide (n.id<0)=false:=rO h1;have h1':0<=n.id:=by omega
  by_cases h2:1023<n.id
  ·have hr:=HST.out 61 (by rw[HCK.out,rY (.inr (by omega))]) (by decide)
   have HRR:=ah hr;have t2:decide (1023<n.id)=true:=rQ h2;clear hr hlt ra rp hBw hnok
   go_wp2
   go_ret2
   exact⟨by rw[HRR.out];rfl,HRL.bel⟩
  have t2:decide (1023<n.id)=false:=rO h2;obtain⟨b3,hb3⟩:=aj (decide (n.id<=LA))
  have HB3:=ah (show Gr.nodeWrong P n=if b3=true then 6 else nodeW n by rw[HCK.out,rU (by omega),HLE.out n.id h1',hb3])
  cases b3 with
  |true=>
   have hle:=sQ hb3;have hr:=HST.out 6 HB3.out (by decide)
   have HRR:=ah hr;clear hr hlt ra rp hBw hnok;go_wp2
   go_ret2
   exact⟨by rw[HRR.out];rfl,HRL.bel⟩
  |false=>
   have hle:LA<n.id:=by have:=sO hb3;omega
   obtain⟨i,hi⟩: ∃i:Nat,n.id=(i:Int):=⟨n.id.toNat,by omega⟩
   have hi4:i<1024:=by omega
   have hiI:(i:Int)<1024:=by omega
   have pi:(0:Int)<=(i:Int):=by omega
   have ti:((i:Int)).toNat=i:=by omega
   obtain⟨a0,f0⟩:=HRL.arr.cell hi4
   obtain⟨W5,hW5⟩:=aj (wr.setCell ⟨w.heap.size+1,i,none⟩ (.bool true))
   have HR5:=ah (show RcS w (.slice (some ⟨b,o,none⟩) nn cn) (.slice Ar rn cr) ((g.nodes.map Gr.N.id).take k++[(i:Int)]) W5 from hW5▸HRL.put hi4)
   have hb5:Below B wr W5:=hW5▸(Below.refl B wr).setCell (p:=⟨w.heap.size+1,i,none⟩) (rV HBB.out (yN _)) _
   obtain⟨ln,hln⟩:=aj n.labels.length;obtain⟨pn,hpn⟩:=aj n.props.length
   have hcall:=refNodeWrong_any B n Al Ap cl cp W5 (ra.below hb5) (rp.below hb5 (PropC.below hb5)) (rV HBB.out HR5.bel.size) hnok
   rw[hi,hln,hpn]at hcall;rw[hi]at d0 t1 t2 hb3 hle h1';rw[hln]at d1;rw[hpn]at d2
   obtain⟨E,hE⟩:=aj (nodeW n);rw[hE]at hcall HB3;have HCL:=ah hcall
   have HD:=ah (fun(X:World) (hb:Below B wr X)=>show X.cell? ⟨b,o+k*3,none⟩=some (.int .i64 (i:Int))/\X.cell? ⟨b,o+k*3+1,none⟩=some (.slice Al ln cl)/\X.cell? ⟨b,o+k*3+2,none⟩=some (.slice Ap pn cp) from⟨(hb.cell (p:=⟨b,o+k*3,none⟩) hlt).trans d0,(hb.cell (p:=⟨b,o+k*3+1,none⟩) hlt).trans d1,(hb.cell (p:=⟨b,o+k*3+2,none⟩) hlt).trans d2⟩)
   have HB5:=ah hb5;have HW5:=ah hW5
   have HIK:=ah (show(g.nodes.map Gr.N.id).take (k+1)=(g.nodes.map Gr.N.id).take k++[(i:Int)] from by rw[<-hi];exact list_take (a:=n.id) (by rw[tu,HNK.out];rfl))
   have HID:=ah (show lastId (Gr.prevAt Gr.N.id g.nodes (k+1))=(i:Int) from(last_next (key:=Gr.N.id) HNK.out).trans hi)
   clear hi hi4 hW5 hb5 hln hpn hcall hE hlt ra rp hBw hnok h1 h2
   go_upto_region 13 with fail
   rw[HW5.out];clear d0 d1 d2 c0 c1 a0 f0;obtain⟨d0,d1,d2⟩:=HD.out W5 HB5.out
   obtain⟨c0,c1⟩:=cells2 HR5.box;go_wp2_with fail;refine HCL.mono ?_
   rintro e w6 ⟨rfl,hb6⟩;have HR6:=ah (HR5.below hb6);clear hb6 d0 d1 d2 c0 c1
   cases E with
   |succ e=>
    have hr:=HST.out (e+1) HB3.out (by omega)
    have HRR:=ah hr;have hne:(((e+1:Nat):Int) !=0)=true:=by rw[tH];omega
    clear hr;go_wp2
    go_ret2
    exact⟨by rw[HRR.out];rfl,HR6.bel⟩
   |zero=>
    have HMR:=ah (HMORE.out HB3.out);go_wp2
    go_roundg q
    case measure=>omega
    exact⟨k+1,by rw[HID.out],int_eq (by omega),by have:=HK.out;omega,by rw[HIK.out];exact HR6.out,HMR.out⟩
 |zero=>
  obtain rfl:nn=k:=by omega
  have hZN: ∀j a,g.nodes[j]?=some a->Gr.nodeWrong (Gr.prevAt Gr.N.id g.nodes j) a=0:=fun j a ha=>HZ.out j a (by have:=(rZ.1 ha).1;have:=HNN.out;omega) ha
  have hrng: ∀x∈g.nodes.map Gr.N.id,0<=x/\x<=1023:=fun x hx=>by
   obtain⟨n,hn,rfl⟩:=uU.1 hx;obtain⟨j,hj,e⟩:=uV hn;have:=hZN j n (by rw[ay hj,e])
   rw[ck_nodes (by rw[ay hj,e])]at this
   split at this
   ·cases this
   omega
  obtain⟨ids,hids⟩:=aj (g.nodes.map Gr.N.id)
  rw[sG (by rw[sU,HNN.out];exact rM _),hids]at HRL
  rw[hids]at hrng;have HZN:=ah hZN;have HRNG:=ah hrng;have HIDS:=ah hids
  obtain⟨LA0,hLA0⟩:=aj (lastId (Gr.prevAt Gr.N.id g.nodes nn));rw[hLA0]
  clear hk hZN hrng hids HZ hLA0;go_wp2_with fail
  go_loopg [5,9] rn (fun q la x wr=> ∃m:Nat,la=.int .i64 (lastId (Gr.prevAt Gr.R.id g.rels m))/\x=.int .i64 m/\m+q=rn/\RcS w (.slice An nn cn) (.slice Ar rn cr) ids wr/\Hid (∀j a,j<m->g.rels[j]?=some a->Gr.relWrong (g.nodes.map Gr.N.id) (Gr.prevAt Gr.R.id g.rels j) a=0))
  case atStart=>exact⟨0,rfl,rfl,by omega,HRL.out,fun j a h=>by omega⟩
  obtain⟨m,rfl,rfl,hm,hrl2,hz⟩:=hrel
  have HZ:Hid (∀j a,j<m->g.rels[j]?=some a->Gr.relWrong (g.nodes.map Gr.N.id) (Gr.prevAt Gr.R.id g.rels j) a=0):=hz
  have HRL2:=ah hrl2;have HK:=ah hm;clear hz hrl2 c0 c1 HRL
  obtain⟨c0,c1⟩:=cells2 HRL2.box;cases gk with
  |succ q=>
   have hmn:m<rn:=by omega
   have hmnI:(m:Int)<rn:=by omega
   have pk:(0:Int)<=(m:Int):=by omega
   have tk:((m:Int)).toNat=m:=by omega
   obtain⟨r,hr⟩: ∃r,g.rels[m]?=some r:=⟨_,ay (by rw[HRN.out];exact hmn)⟩
   have hBw:=HRL2.bel.mono HBB.out
   obtain⟨b,o,Ap,cp,rfl,hlt,⟨d0,d1,d2,d3,d4⟩,rp⟩:=(HR.below hBw (RelC.below hBw)).rel hr
   have hrok:=HOK.rs r (sK hr);obtain⟨P,hP⟩:=aj (Gr.prevAt Gr.R.id g.rels m)
   have hck:=ck_rels ids P r;rw[hP]
   have HST:=ah (fun(e:Nat) (he:Gr.relWrong ids P r=e) (hne:e≠0)=>check_rels HZN.out hr (by rw[HIDS.out,hP];exact he) hne HZ.out)
   have HMORE:=ah (fun(he:Gr.relWrong ids P r=0)=>first_more hr HZ.out (by rw[HIDS.out,hP];exact he))
   have HLE:=ah (fun(x:Int) (h:0<=x)=>last_le (p:=P) h)
   obtain⟨LA,hLA⟩:=aj (lastId P);rw[hLA]at HLE⊢;have HCK:=ah hck
   have HNX:=ah (last_next (key:=Gr.R.id) hr);simp only[ST]at d1
   obtain⟨z,hz⟩:=aj (⟨r.type.toArray⟩:ByteArray);rw[hz]at d1
   have hzl:z.size<=1073741824:=by rw[<-hz];exact(size_list _).symm▸hrok.tl
   have hgn:=fun(V:World)=>refGoodName_any z V hzl
   have hzd:z.data.toList=r.type:=by rw[<-hz]
   rw[hzd]at hgn;obtain⟨pn,hpn⟩:=aj r.props.length;obtain⟨rb,hrb⟩:=aj wr.heap.size
   rw[hpn]at d4
   obtain⟨WR,hWR⟩:=aj (wr.alloc (.cells #[.int .i64 r.id,.string z,.int .i64 r.src,.int .i64 r.dst,.slice Ap pn cp] 55))
   have hb5:Below wr.heap.size wr WR:=hWR▸(Below.refl _ wr).alloc (rM _) _
   have HSR:=ah (HRL2.below hb5)
   have HKR:=ah (show Blk WR rb 55 #[.int .i64 r.id,.string z,.int .i64 r.src,.int .i64 r.dst,.slice Ap pn cp] by rw[<-hWR,<-hrb];exact Blk.new _ _ _)
   have hpw:=fun(X:World) (hb:Below wr.heap.size wr X)=>refPropsWrong_any B Ap cp r.props X (rp.below (hb.mono (rV HBB.out HRL2.bel.size)) (PropC.below (hb.mono (rV HBB.out HRL2.bel.size)))) (rV (rV HBB.out HRL2.bel.size) hb.size) hrok.pl hrok.ps
   rw[hpn]at hpw;have HPW:=ah hpw;have HGN:=ah hgn;have HB5:=ah hb5;have HWR:=ah hWR
   have HRB:=ah hrb
   clear hmn hr hBw hlt hrok hP hck hLA hz hzl hgn hzd hpn hrb hWR hb5 hpw rp hm
   go_upto_region 21 with fail
   rw[HWR.out,HRB.out];clear d0 d1 d2 d3 d4 c0 c1 HWR HRB
   obtain⟨d0,d1,d2,d3,d4⟩:=cells5 HKR.out;obtain⟨c0,c1⟩:=cells2 HSR.box
   by_cases h1:r.id<0
   ·have hr:=HST.out 62 (by rw[HCK.out,rY (.inl h1)]) (by decide)
    have HRR:=ah hr;have t1:decide (r.id<0)=true:=rQ h1;clear hr;go_wp2
    go_ret2
    exact⟨by rw[HRR.out,HNN.out,vW];rfl,HSR.bel⟩
   have t1:decide (r.id<0)=false:=rO h1;have h1':0<=r.id:=by omega
   by_cases h2:2047<r.id
   ·have hr:=HST.out 62 (by rw[HCK.out,rY (.inr (by omega))]) (by decide)
    have HRR:=ah hr;have t2:decide (2047<r.id)=true:=rQ h2;clear hr;go_wp2
    go_ret2
    exact⟨by rw[HRR.out,HNN.out,vW];rfl,HSR.bel⟩
   have t2:decide (2047<r.id)=false:=rO h2;obtain⟨b3,hb3⟩:=aj (decide (r.id<=LA))
   have HB3:=ah (show Gr.relWrong ids P r=if b3=true then 6 else if Gr.goodName r.type=false then 60 else if r.src∉ids\/r.dst∉ids then 65 else Gr.propsWrong r.props by rw[HCK.out,rU (by omega),HLE.out r.id h1',hb3])
   cases b3 with
   |true=>
    have hle:=sQ hb3;have hr:=HST.out 6 HB3.out (by decide)
    have HRR:=ah hr;clear hr;go_wp2
    go_ret2
    exact⟨by rw[HRR.out,HNN.out,vW];rfl,HSR.bel⟩
   |false=>
    have hle:LA<r.id:=by have:=sO hb3;omega
    obtain⟨GN,hg⟩:=aj (Gr.goodName r.type);rw[hg]at HGN HB3
    have HB4:=ah (show Gr.relWrong ids P r=if GN=false then 60 else if r.src∉ids\/r.dst∉ids then 65 else Gr.propsWrong r.props from HB3.out)
    clear hg HB3;go_wp2_with fail;refine(HGN.out _).mono ?_;rintro e w6 ⟨rfl,hb6⟩
    have HS6:=ah (HSR.below hb6);have HK6:=ah (HKR.below hb6 HKR.lt)
    have HB6:=ah (HB5.trans (hb6.mono HB5.size));clear hb6 d0 d1 d2 d3 d4 c0 c1 HSR HKR
    obtain⟨d0,d1,d2,d3,d4⟩:=cells5 HK6.out;cases GN with
    |false=>
     have hr:=HST.out 60 HB4.out (by decide)
     have HRR:=ah hr;clear hr;go_wp2
     go_ret2
     exact⟨by rw[HRR.out,HNN.out,vW];rfl,HS6.bel⟩
    |true=>
     have HBAD:=ah (fun(h:r.src∉ids\/r.dst∉ids)=>HST.out 65 (by rw[HB4.out,rU (by decide),rY h]) (by decide))
     by_cases e1:r.src<0
     ·have hr:=HBAD.out (.inl (fun h=>by have:=HRNG.out _ h;omega))
      have HRR:=ah hr;have tb:decide (r.src<0)=true:=rQ e1;clear hr;go_wp2
      go_ret2
      exact⟨by rw[HRR.out,HNN.out,vW];rfl,HS6.bel⟩
     have te1:decide (r.src<0)=false:=rO e1;by_cases e2:r.dst<0
     ·have hr:=HBAD.out (.inr (fun h=>by have:=HRNG.out _ h;omega))
      have HRR:=ah hr;have tb:decide (r.dst<0)=true:=rQ e2;clear hr;go_wp2
      go_ret2
      exact⟨by rw[HRR.out,HNN.out,vW];rfl,HS6.bel⟩
     have te2:decide (r.dst<0)=false:=rO e2;by_cases e3:1023<r.src
     ·have hr:=HBAD.out (.inl (fun h=>by have:=HRNG.out _ h;omega))
      have HRR:=ah hr;have tb:decide (1023<r.src)=true:=rQ e3;clear hr;go_wp2
      go_ret2
      exact⟨by rw[HRR.out,HNN.out,vW];rfl,HS6.bel⟩
     have te3:decide (1023<r.src)=false:=rO e3;by_cases e4:1023<r.dst
     ·have hr:=HBAD.out (.inr (fun h=>by have:=HRNG.out _ h;omega))
      have HRR:=ah hr;have tb:decide (1023<r.dst)=true:=rQ e4;clear hr;go_wp2
      go_ret2
      exact⟨by rw[HRR.out,HNN.out,vW];rfl,HS6.bel⟩
     have te4:decide (1023<r.dst)=false:=rO e4
     obtain⟨i,hi⟩: ∃i:Nat,r.src=(i:Int):=⟨r.src.toNat,by omega⟩
     obtain⟨j,hj⟩: ∃j:Nat,r.dst=(j:Int):=⟨r.dst.toNat,by omega⟩
     have hi4:i<1024:=by omega
     have hj4:j<1024:=by omega
     have hiI:(i:Int)<1024:=by omega
     have hjI:(j:Int)<1024:=by omega
     have pi:(0:Int)<=(i:Int):=by omega
     have pj:(0:Int)<=(j:Int):=by omega
     have ti:((i:Int)).toNat=i:=by omega
     have tj:((j:Int)).toNat=j:=by omega
     have a0:=(HS6.arr.cell hi4).1;have a1:=(HS6.arr.cell hj4).1
     rw[hi]at d2 te1 te3 HBAD HB4;rw[hj]at d3 te2 te4 HBAD HB4
     obtain⟨be,hbe⟩:=aj (decide ((i:Int)∈ids));obtain⟨bd,hbd⟩:=aj (decide ((j:Int)∈ids))
     rw[hbe]at a0;rw[hbd]at a1;have HBE:=ah hbe;have HBD:=ah hbd
     clear hi hj hi4 hj4 e1 e2 e3 e4 hbe hbd;cases be with
     |false=>
      have hr:=HBAD.out (.inl (sO HBE.out));have HRR:=ah hr;clear hr;go_wp2
      go_ret2
      exact⟨by rw[HRR.out,HNN.out,vW];rfl,HS6.bel⟩
     |true=>
      cases bd with
      |false=>
       have hr:=HBAD.out (.inr (sO HBD.out));have HRR:=ah hr;clear hr;go_wp2
       go_ret2
       exact⟨by rw[HRR.out,HNN.out,vW];rfl,HS6.bel⟩
      |true=>
       have HB7:=ah (show Gr.relWrong ids P r=Gr.propsWrong r.props by
        rw[HB4.out,rU (by decide),rU (fun h=>h.elim (fun h=>h (sQ HBE.out)) (fun h=>h (sQ HBD.out)))])
       obtain⟨E,hE⟩:=aj (Gr.propsWrong r.props);rw[hE]at HB7 HPW;clear hE
       go_wp2_with fail;refine(HPW.out w6 HB6.out).mono ?_;rintro e w7 ⟨rfl,hb7⟩
       have HS7:=ah (HS6.below hb7);clear hb7 d0 d1 d2 d3 d4 a0 a1;cases E with
       |succ e=>
        have hr:=HST.out (e+1) HB7.out (by omega)
        have HRR:=ah hr;have hne:(((e+1:Nat):Int) !=0)=true:=by rw[tH];omega
        clear hr;go_wp2
        go_ret2
        exact⟨by rw[HRR.out,HNN.out,vW];rfl,HS7.bel⟩
       |zero=>
        have HMR:=ah (HMORE.out HB7.out);go_wp2
        go_roundg q
        case measure=>omega
        exact⟨m+1,by rw[HNX.out],int_eq (by omega),by have:=HK.out;omega,HS7.out,HMR.out⟩
  |zero=>
   obtain rfl:rn=m:=by omega
   have hZR: ∀j a,g.rels[j]?=some a->Gr.relWrong (g.nodes.map Gr.N.id) (Gr.prevAt Gr.R.id g.rels j) a=0:=fun j a ha=>HZ.out j a (by have:=(rZ.1 ha).1;have:=HRN.out;omega) ha
   have hrest:=check_rest HZN.out hZR
   have hNG:Gr.NodesGood g.nodes:=⟨fun j n hn=>Gr.nodeWrong_zero.1 (HZN.out j n hn)⟩
   have hRG:Gr.RelsGood (g.nodes.map Gr.N.id) g.rels:=⟨fun j n hn=>Gr.relWrong_zero.1 (hZR j n hn)⟩
   have h1:=hNG.labels_len;have h2:=hRG.len;have h3:=Gr.props_len hNG hRG
   have hN1:(nmAll 1 g).length<=1073741800:=by rw[nmAll1];unfold Gr.names1;omega
   have hN2:(nmAll 2 g).length<=1073741800:=by rw[nmAll2];unfold Gr.names2;rw[sU];omega
   have hN3:(nmAll 3 g).length<=1073741800:=by rw[nmAll3];unfold Gr.names3;rw[sU];omega
   have hg:=fun(V:World) (hb:Below w.heap.size w V)=>HG.below (hb.mono HBB.out)
   have H1:=ah (fun(V:World) (hb:Below w.heap.size w V)=>refNames_any 1 B _ g V (hg V hb) (rV HBB.out hb.size) hN1)
   have H2:=ah (fun(V:World) (hb:Below w.heap.size w V)=>refNames_any 2 B _ g V (hg V hb) (rV HBB.out hb.size) hN2)
   have H3:=ah (fun(V:World) (hb:Below w.heap.size w V)=>refNames_any 3 B _ g V (hg V hb) (rV HBB.out hb.size) hN3)
   have HW:=ah (fun(V:World) (hb:Below w.heap.size w V)=>refWeight_any B _ g V (hg V hb) (rV HBB.out hb.size) (Gr.props_val hNG hRG) (by omega))
   simp only[nmAll1]at H1;simp only[nmAll2]at H2;simp only[nmAll3]at H3
   obtain⟨l1,hl1⟩:=aj ((Gr.dedup (Gr.names1 g)).length)
   obtain⟨l2,hl2⟩:=aj ((Gr.dedup (Gr.names2 g)).length)
   obtain⟨l3,hl3⟩:=aj ((Gr.dedup (Gr.names3 g)).length);obtain⟨wt,hwt⟩:=aj (Gr.weight g)
   rw[hl1]at H1 hrest;rw[hl2]at H2 hrest;rw[hl3]at H3 hrest;rw[hwt]at HW hrest
   have HREST:=ah hrest;obtain⟨LA,hLA⟩:=aj (lastId (Gr.prevAt Gr.R.id g.rels rn))
   rw[hLA];clear hm hrest hNG hRG hZR hl1 hl2 hl3 hwt h1 h2 h3 hN1 hN2 hN3 hg hLA HZ
   go_wp2_with fail;refine(H1.out wr HRL2.bel).mono ?_;rintro e w2 ⟨A1,d1,rfl,hb⟩
   have HS1:=ah (HRL2.below hb);clear hb c0 c1;obtain⟨c0,c1⟩:=cells2 HS1.box
   by_cases hq1:200<l1
   ·have t1:decide ((200:Int)<l1)=true:=rQ (by omega)
    have t1i:(200:Int)<l1:=by omega
    have HCK:=ah (show Gr.check g=(66,0) by rw[HREST.out,rY (.inl hq1)])
    clear hq1 H1 H2 H3 HW;go_wp2
    go_ret2
    exact⟨by rw[HCK.out];rfl,HS1.bel⟩
   have t1:decide ((200:Int)<l1)=false:=rO (by omega)
   have t1i:(l1:Int)<=200:=by omega
   go_wp2_with fail;refine(H2.out w2 HS1.bel).mono ?_;rintro e w3 ⟨A2,d2,rfl,hb⟩
   have HS2:=ah (HS1.below hb);clear hb c0 c1;obtain⟨c0,c1⟩:=cells2 HS2.box
   by_cases hq2:200<l2
   ·have t2:decide ((200:Int)<l2)=true:=rQ (by omega)
    have t2i:(200:Int)<l2:=by omega
    have HCK:=ah (show Gr.check g=(66,0) by rw[HREST.out,rY (.inr (.inl hq2))])
    clear hq2 H1 H2 H3 HW;go_wp2
    go_ret2
    exact⟨by rw[HCK.out];rfl,HS2.bel⟩
   have t2:decide ((200:Int)<l2)=false:=rO (by omega)
   have t2i:(l2:Int)<=200:=by omega
   go_wp2_with fail;refine(H3.out w3 HS2.bel).mono ?_;rintro e w4 ⟨A3,d3,rfl,hb⟩
   have HS3:=ah (HS2.below hb);clear hb c0 c1;obtain⟨c0,c1⟩:=cells2 HS3.box
   by_cases hq3:200<l3
   ·have t3:decide ((200:Int)<l3)=true:=rQ (by omega)
    have t3i:(200:Int)<l3:=by omega
    have HCK:=ah (show Gr.check g=(66,0) by rw[HREST.out,rY (.inr (.inr hq3))])
    clear hq3 H1 H2 H3 HW;go_wp2
    go_ret2
    exact⟨by rw[HCK.out];rfl,HS3.bel⟩
   have t3:decide ((200:Int)<l3)=false:=rO (by omega)
   have t3i:(l3:Int)<=200:=by omega
   go_wp2_with fail;refine(HW.out w4 HS3.bel).mono ?_;rintro e w5 ⟨rfl,hb⟩
   have HS4:=ah (HS3.below hb);clear hb c0 c1;by_cases hq4:262144<wt
   ·have t4:decide ((262144:Int)<wt)=true:=rQ (by omega)
    have t4i:(262144:Int)<wt:=by omega
    have HCK:=ah (show Gr.check g=(67,0) by rw[HREST.out,rU (by omega),rY hq4])
    clear hq4 H1 H2 H3 HW;go_wp2
    go_ret2
    exact⟨by rw[HCK.out];rfl,HS4.bel⟩
   have t4:decide ((262144:Int)<wt)=false:=rO (by omega)
   have t4i:(wt:Int)<=262144:=by omega
   have HCK:=ah (show Gr.check g=(0,0) by rw[HREST.out,rU (by omega),rU hq4])
   clear hq4 H1 H2 H3 HW;go_wp2
   go_ret2
   exact⟨by rw[HCK.out];rfl,HS4.bel⟩
theorem small_of_good {g:Gr.G} (h:Gr.Good g):Small g:=by
 have hn: ∀n∈g.nodes,n.labels.length<=8/\n.props.length<=16:=fun n hn=>by
  obtain⟨_,h1⟩:=h.nodes.mem hn;exact⟨h1.labels.len,h1.props.len⟩
 refine⟨rV h.nodes.len (by decide),rV h.rels.len (by decide),fun n hx=>rV (hn n hx).1 (by decide),fun n hx=>rV (hn n hx).2 (by decide),fun r hr=> ?_⟩
 obtain⟨_,h1⟩:=h.rels.mem hr;exact rV h1.props.len (by decide)
theorem GIn.form {W:World} {B:Nat} {u:Value} {g:Gr.G} (h:GIn W B u g) {a b:Nat} (ha:g.nodes.length=a) (hb:g.rels.length=b): ∃A1 c1 A2 c2,u=.agg #[.slice A1 a c1,.slice A2 b c2]:=by
 obtain⟨A1,c1,A2,c2,e,-,-⟩:=h.ex;subst ha hb;exact⟨A1,c1,A2,c2,e⟩
theorem fine_of {g:Gr.G} (h:Gr.Good g) (ok:GOk g):Cy.Fine g:=⟨h,fun p hp=>by
 have hk:VOk p.val:=by
  unfold Gr.allProps at hp
  rcases tZ.1 hp with h1|h1
  ·obtain⟨n,hn,hq⟩:=uF.1 h1
   exact((ok.ns n hn).ps p hq).val
  obtain⟨n,hn,hq⟩:=uF.1 h1;exact((ok.rs n hn).ps p hq).val
 exact⟨hk.num,hk.nums⟩⟩
end Go.Proofs.YtanlehkalkafdaaGreatDoor
