/- Contracts and plain laws,part 15. -/
import Derived.Test.YtanlehkalkafdaaGreatDoorUR14
import Derived.Below
import Derived.Sort.Grow
import Derived.StillTail
import Derived.RegionIn
set_option maxHeartbeats 64000000
set_option maxRecDepth 1000000
set_option linter.all false
namespace Go.Proofs.YtanlehkalkafdaaGreatDoor.Cy
open Go
theorem adj_pairwise {α κ:Type} {key:α->κ} {R:κ->κ->Prop} (tr: ∀{a b c},R a b->R b c->R a c) {l:List α} (h: ∀(j:Nat) a,l[j]?=some a-> ∀q,Gr.prevAt key l j=some q->R q (key a)):l.Pairwise (fun a b=>R (key a) (key b)):=by
 have hs: ∀(d i:Nat) (hi:i<l.length) (hj:i+d+1<l.length),R (key l[i]) (key l[i+d+1]):=by
  intro d
  induction d with
  |zero=>intro i hi hj;exact h (i+1) _ (ay hj) _ (Gr.prevAt_some (ay hi))
  |succ d ih=>
   intro i hi hj
   exact tr (ih i hi (by omega)) (h (i+(d+1)+1) _ (ay hj) _ (Gr.prevAt_some (ay (by omega))))
 rw[wO];intro i j hi hj hij;have:=hs (j - i - 1) i hi (by omega)
 have e:i+(j - i - 1)+1=j:=by omega
 simp only[e]at this;exact this
theorem sortBy_of {α κ:Type} {key:α->κ} {lt:κ->κ->Prop} {le:κ->κ->Bool} {l l':List α} (hp:l'.Perm l) (h:l.Pairwise (fun a b=>lt (key a) (key b))) (h1: ∀a b,lt a b->le a b=true) (tr: ∀a b c,le a b=true->le b c=true->le a c=true) (tot: ∀a b,(le a b || le b a)=true)
  (no: ∀a b,lt a b->le b a=false):Gr.sortBy le key l'=l:=by
 unfold Gr.sortBy
 refine List.Perm.eq_of_pairwise (le:=fun a b=>le (key a) (key b)=true) ?_ (zU (le:=fun a b=>le (key a) (key b)) (fun a b c=>tr (key a) (key b) (key c)) (fun a b=>tot (key a) (key b)) _) (h.imp (fun hx=>h1 _ _ hx)) ((vG _ _).trans hp)
 intro a b ha hb hab hba;have ha:=hp.mem_iff.1 ((vG _ _).mem_iff.1 ha)
 obtain⟨i,hi,rfl⟩:=uV ha;obtain⟨j,hj,rfl⟩:=uV hb;rw[wO]at h
 rcases zY i j with hlt|rfl|hgt
 ·rw[no _ _ (h i j hi hj hlt)]at hba;cases hba
 ·rfl
 rw[no _ _ (h j i hj hi hgt)]at hab;cases hab
theorem sort_int {α:Type} {key:α->Int} {l l':List α} (hp:l'.Perm l) (h:l.Pairwise (fun a b=>key a<key b)):Gr.sortBy (fun a b:Int=>decide (a<=b)) key l'=l:=
 sortBy_of (lt:=fun a b=>a<b) hp h (fun a b h=>rQ (by omega)) (fun a b c h k=>rQ (by have:=sQ h;have:=sQ k;omega))
  (fun a b=>by simp only[wu,tX];omega) (fun a b h=>rO (by omega))
theorem sort_str {α:Type} {key:α->L} {l l':List α} (hp:l'.Perm l) (h:l.Pairwise (fun a b=>key a<key b)):Gr.sortBy (fun a b:L=>decide (a<=b)) key l'=l:=
 sortBy_of (lt:=fun a b=>a<b) hp h (fun a b h=>rQ (zM h)) (fun a b c h k=>rQ (BZ (sQ h) (sQ k)))
  (fun a b=>by simp only[wu,tX];exact CQ a b) (fun a b h=>rO (BQ.2 h))
theorem lt_nodup {α κ:Type} {key:α->κ} {lt:κ->κ->Prop} (ir: ∀a,¬lt a a) {l:List α} (h:l.Pairwise (fun a b=>lt (key a) (key b))):(l.map key).Nodup:=by
 unfold List.Nodup;rw[yG]
 exact h.imp fun {a b} hx (e:key a=key b)=>ir (key b) (by rw[e]at hx;exact hx)
theorem keys_up {ps:List Gr.P} (h:Gr.PropsGood ps):ps.Pairwise (fun a b=>a.key<b.key):=adj_pairwise (key:=Gr.P.key) (R:=fun a b=>a<b) CS fun j a ha q hq=>BQ.1 ((h.all j a ha).lt q hq)
theorem labels_up {ls:List L} (h:Gr.LabelsGood ls):ls.Pairwise (fun a b=>a<b):=adj_pairwise (key:=id) (R:=fun a b=>a<b) CS fun j a ha q hq=>BQ.1 ((h.all j a ha).lt q hq)
theorem nodes_up {ns:List Gr.N} (h:Gr.NodesGood ns):ns.Pairwise (fun a b=>a.id<b.id):=adj_pairwise (key:=Gr.N.id) (R:=fun a b=>a<b) Int.lt_trans fun j a ha q hq=>(h.all j a ha).lt q hq
theorem rels_up {ids:List Int} {rs:List Gr.R} (h:Gr.RelsGood ids rs):rs.Pairwise (fun a b=>a.id<b.id):=adj_pairwise (key:=Gr.R.id) (R:=fun a b=>a<b) Int.lt_trans fun j a ha q hq=>(h.all j a ha).lt q hq
theorem props_nodup {ps:List Gr.P} (h:Gr.PropsGood ps):(ps.map Gr.P.key).Nodup:=lt_nodup (lt:=fun a b=>a<b) (fun a=>zh a) (keys_up h)
theorem labels_nodup {ls:List L} (h:Gr.LabelsGood ls):ls.Nodup:=by have:=lt_nodup (key:=id) (lt:=fun a b=>a<b) (fun a=>zh a) (labels_up h);rwa [zo]at this
structure Fine (g:Gr.G):Prop where
 good:Gr.Good g
 nums: ∀p∈Gr.allProps g,Cel.In64 p.val.num/\ ∀n∈p.val.nums,Cel.In64 n
theorem labelsGood_names {ls:List L} (h:Gr.LabelsGood ls): ∀l∈ls,Gr.goodName l=true:=fun l hl=>by
 obtain⟨j,hj,e⟩:=uV hl;exact(h.all j l (by rw[ay hj,e])).name
theorem props_fine {g:Gr.G} (h:Fine g) {ps:List Gr.P} (hg:Gr.PropsGood ps) (hs: ∀p∈ps,p∈Gr.allProps g): ∀p∈ps,PGood p:=fun p hp=>
 ⟨hg.name p hp,hg.val p hp,(h.nums p (hs p hp)).1,(h.nums p (hs p hp)).2⟩
structure NFine (n:Gr.N):Prop where
 good:NGood n
 labels:n.labels.Nodup
 keys:(n.props.map Gr.P.key).Nodup
 canon:Gr.canonNode n=n
structure RFine (n:Gr.R):Prop where
 good:RGood n
 keys:(n.props.map Gr.P.key).Nodup
 canon:Gr.canonRel n=n
theorem canonProps_good {ps:List Gr.P} (h:Gr.PropsGood ps):Gr.canonProps ps=ps:=sort_str (wB _) (keys_up h)
theorem Fine.node {g:Gr.G} (h:Fine g) {n:Gr.N} (hn:n∈g.nodes):NFine n:=by
 obtain⟨_,hg⟩:=h.good.nodes.mem hn
 refine⟨⟨hg.lo,hg.hi,labelsGood_names hg.labels,props_fine h hg.props fun p hp=>wZ _ (uF.2 ⟨n,hn,hp⟩)⟩,labels_nodup hg.labels,props_nodup hg.props, ?_⟩
 unfold Gr.canonNode Gr.canonLabels
 rw[canonProps_good hg.props,sort_str (key:=id) (wB _) (labels_up hg.labels)]
theorem id_range {g:Gr.G} (h:Fine g) {x:Int} (hx:x∈g.nodes.map Gr.N.id):0<=x/\x<1024:=by
 obtain⟨n,hn,rfl⟩:=uU.1 hx;exact⟨(h.node hn).good.lo,(h.node hn).good.hi⟩
theorem Fine.rel {g:Gr.G} (h:Fine g) {n:Gr.R} (hn:n∈g.rels):RFine n:=by
 obtain⟨_,hg⟩:=h.good.rels.mem hn;have hs:=id_range h hg.src;have hd:=id_range h hg.dst
 refine⟨⟨hg.lo,hg.hi,hs.1,hs.2,hd.1,hd.2,hg.name,props_fine h hg.props fun p hp=>yB _ (uF.2 ⟨n,hn,hp⟩)⟩,props_nodup hg.props, ?_⟩
 unfold Gr.canonRel;rw[canonProps_good hg.props]
structure VSz (v:Cel.V):Prop where
 kin:1<=v.kind/\v.kind<=8
 num:Cel.In64 v.num
 nums: ∀n∈v.nums,Cel.In64 n
 tl:v.text.length<=16777216
 nl:v.nums.length<=16777216
 sl:v.texts.length<=16777216
 sz: ∀t∈v.texts,t.length<=16777216
structure PSz (p:Gr.P):Prop where
 key:p.key.length<=16777216
 val:VSz p.val
structure NSz (n:Gr.N):Prop where
 lo:0<=n.id
 hi:n.id<1024
 ll:n.labels.length<=16777216
 ls: ∀l∈n.labels,l.length<=16777216
 pl:n.props.length<=16777216
 ps: ∀p∈n.props,PSz p
structure RSz (n:Gr.R):Prop where
 lo:0<=n.id
 hi:n.id<2048
 tl:n.type.length<=16777216
 src:0<=n.src/\n.src<1024
 dst:0<=n.dst/\n.dst<1024
 pl:n.props.length<=16777216
 ps: ∀p∈n.props,PSz p
structure GSz (g:Gr.G):Prop where
 ns: ∀n∈g.nodes,NSz n
 rs: ∀n∈g.rels,RSz n
 nd:(g.nodes.map Gr.N.id).Nodup
 rd:(g.rels.map Gr.R.id).Nodup
theorem nodup_snoc {α:Type} {l:List α} {a:α} (h:l.Nodup) (ha:a∉l):(l++[a]).Nodup:=by
 rw[xR];exact⟨h,by simp,fun x hx y hy e=>ha (by rw[ug.1 hy]at e;rw[<-e];exact hx)⟩
theorem G0_sz:GSz Gr.G0:=⟨by simp[Gr.G0],by simp[Gr.G0],by simp[Gr.G0],by simp[Gr.G0]⟩
theorem few {l:List Int} {m:Nat} (h: ∀x∈l,0<=x/\x<m) (hd:l.Nodup):l.length<=m:=by
 have h2:(l.map Int.toNat).Nodup:=by
  unfold List.Nodup;rw[yG]
  refine List.Pairwise.imp_of_mem (fun {a b} ha hb hab e=>hab ?_) hd
  have:=h a ha;have:=h b hb;omega
 have hs:=h2.length_le_of_subset (l₂:=List.range m) fun x hx=>by
  obtain⟨y,hy,rfl⟩:=uU.1 hx;have:=h y hy;exact BJ.2 (by omega)
 rwa [sU,List.length_range]at hs
theorem GSz.lens {g:Gr.G} (h:GSz g):g.nodes.length<=1024/\g.rels.length<=2048:=by
 constructor
 ·have:=few (m:=1024) (fun x hx=>by obtain⟨n,hn,rfl⟩:=uU.1 hx;exact⟨(h.ns n hn).lo,(h.ns n hn).hi⟩) h.nd
  rwa [sU]at this
 have:=few (m:=2048) (fun x hx=>by obtain⟨n,hn,rfl⟩:=uU.1 hx;exact⟨(h.rs n hn).lo,(h.rs n hn).hi⟩) h.rd
 rwa [sU]at this
theorem sortBy_perm {α κ:Type} (le:κ->κ->Bool) (key:α->κ) (l:List α):(Gr.sortBy le key l).Perm l:=vG _ _
theorem canon_sz {g:Gr.G} (h:GSz g):GSz (Gr.canon g):=by
 have pn:=sortBy_perm (fun a b:Int=>decide (a<=b)) Gr.N.id (g.nodes.map Gr.canonNode)
 have pr:=sortBy_perm (fun a b:Int=>decide (a<=b)) Gr.R.id (g.rels.map Gr.canonRel)
 have pp:=fun ps:List Gr.P=>sortBy_perm (fun a b:L=>decide (a<=b)) Gr.P.key ps
 refine⟨fun n hn=> ?_,fun n hn=> ?_, ?_, ?_⟩
 ·obtain⟨m,hm,rfl⟩:=uU.1 (pn.mem_iff.1 hn)
  have hz:=h.ns m hm;have pl:=sortBy_perm (fun a b:L=>decide (a<=b)) id m.labels
  exact⟨hz.lo,hz.hi,rV (CG pl.length_eq) hz.ll,fun l hl=>hz.ls l (pl.mem_iff.1 hl),
   rV (CG (pp m.props).length_eq) hz.pl,fun p hp=>hz.ps p ((pp m.props).mem_iff.1 hp)⟩
 ·obtain⟨m,hm,rfl⟩:=uU.1 (pr.mem_iff.1 hn)
  have hz:=h.rs m hm
  exact⟨hz.lo,hz.hi,hz.tl,hz.src,hz.dst,rV (CG (pp m.props).length_eq) hz.pl,fun p hp=>hz.ps p ((pp m.props).mem_iff.1 hp)⟩
 ·refine(pn.map Gr.N.id).nodup_iff.2 ?_
  rw[vV];exact h.nd
 refine(pr.map Gr.R.id).nodup_iff.2 ?_;rw[vV];exact h.rd
end Go.Proofs.YtanlehkalkafdaaGreatDoor.Cy
namespace Go.Proofs.YtanlehkalkafdaaGreatDoor
open Go.RowKit
theorem KeepT.of_below {T:TypeId} {A B:World} (h:Below A.heap.size A B):KeepT T A B:=
 ⟨h.size,fun k c fz hk=>(h.block k (sW.1 hk).1).trans hk⟩
theorem wp_iter_a {α:Type} {P:Program} (T:TypeId) {g:Operand} {ps:Array Tmp} {assign body:Code} {Q:Exit->Act->World->Prop} {a:Act} {w:World}
  {gf:Nat} {lb:Array Value} (hg:a.eval g=.func (.func gf) #[] lb) (eg: ∀args w,(callFunc gf args).run P w=.ok (.enter gf args) w)
  {encs:α->Array Value} (hps: ∀x,(encs x).size=ps.size) {Pre:α->World->World->Prop} {Step:List α->α->Prop} {End:List α->Prop} {Aux:World->Prop}
  (a₁:α->World->Act) (w₁:α->World->World) (hw₁: ∀x W,Below W.heap.size W (w₁ x W))
  (hPre: ∀x W0 W l r r',Pre x W0 W->(w₁ x W).heap[l]?=some (.loop r)->Pre x W0 ((w₁ x W).putObj l (.loop r')))
  (hiter: ∀W1,Below w.heap.size w W1->w.heap.size<=W1.heap.size->IterOK P T w.heap.size gf lb encs Pre Step End Aux W1)
  (I:List α->World->Prop) (Ix:Code->World->Prop) (hI: ∀pre A B,I pre A->Same1 T w.heap.size A B->I pre B) (hIx: ∀c A B,Ix c A->Same1 T w.heap.size A B->Ix c B) (hAux: ∀pre W,I pre W->Aux W) (h0:I [] w)
  (hassign: ∀(l:Nat) (x:α) (W:World) (K:Act->World->Prop),K (a₁ x W) (w₁ x W)->
   assign.wpIn (Fence.wide.inRound l) 7 P (Exit.then K (fun _ _ _=>False)) {tmps:=(ps.zip (encs x)).foldl (fun t (p,v)=>t.setIfInBounds p v) a.tmps,defers:=[]} W)
  (hbody: ∀(l:Nat) (pre:List α) (x:α) (W0 Wa W:World),I pre W0->Same1 T w.heap.size W0 Wa->Same1 T w.heap.size Wa W->(∀(b:Nat) (t:TypeId) (c:Array Value),Blk (w₁ x Wa) b t c->Blk W b t c)->W.heap.size=(w₁ x Wa).heap.size->Pre x W0 W->Step pre x->w.heap.size<=l->w.heap.size<=W0.heap.size->
   body.wpIn (Fence.wide.inRound l) 7 P (iterPost w.heap.size T I Ix (pre++[x]) W) (a₁ x Wa) W)
  (hdone: ∀(D:Nat) (xs:List α) (W:World),w.heap.size<=D->End xs->I xs W->W.heap[D]?=some (.deferred (some []))->Q .normal {a with defers:={target:=.collected D,args:= #[]} :: a.defers} W)
  (hstop: ∀(D:Nat) (c:Code) (W:World),w.heap.size<=D->Ix c W->W.heap[D]?=some (.deferred (some []))->c.wpIn Fence.wide 9 P Q {a with defers:={target:=.collected D,args:= #[]} :: a.defers} W):
  (Code.rangeFunc g ps assign body).wpIn Fence.wide 9 P Q a w:=by
 refine wpIn_rangeFunc ?_;intro fn hfn;have hro:Fence.wide.round=none:=rfl;rw[hro]
 obtain⟨rec,hrec⟩: ∃rec:LoopState->Option Code->Loop,rec=fun st pe=>{state:=st,pending:=pe,fn,tmps:=a.tmps,params:=ps,assign,body,defers:=w.heap.size}:=⟨_,rfl⟩
 obtain⟨W1,hW1⟩:=aj ((w.alloc (.deferred (some []))).alloc (.loop (rec .ready none)))
 have hL1:W1.heap[w.heap.size+1]?=some (.loop (rec .ready none)):=by
  rw[<-hW1];have:=World.alloc_heap_new (w.alloc (.deferred (some []))) (.loop (rec .ready none));rwa [World.size_alloc]at this
 have hK1:W1.heap[w.heap.size]?=some (.deferred (some [])):=by
  rw[<-hW1];exact(Below.heap_alloc _ _ _ (by simp)).trans (World.alloc_heap_new w _)
 have hb1:Below w.heap.size w W1:=by
  rw[<-hW1];exact((Below.refl _ w).alloc (rM _) _).alloc (by simp) _
 have hs1:W1.heap.size=w.heap.size+2:=by rw[<-hW1];simp
 have hI1:I [] W1:=hI _ _ _ h0 (.of_below hb1)
 have wide: ∀{A B:World},Same1 T W1.heap.size A B->Same1 T w.heap.size A B:=fun h=>⟨h.os,h.tape,h.output,h.size,fun k hk hA=>h.low k (by omega) hA,h.block⟩
 refine⟨w.heap.size+1,[{target:=.collected w.heap.size,args:= #[]}],W1,{target:=.fn (.func gf) lb,args:= #[.func (.yield (w.heap.size+1)) #[] #[]]},W1,gf,
  #[.func (.yield (w.heap.size+1)) #[] #[]]++lb,W1, ?_, ?_, ?_, ?_,fun _=>by omega, ?_⟩
 ·rw[<-hW1,hrec];exact run_enterLoop_outer _ _ _ _ _
 ·simp only[resolve,hg]
  simp[go_sem]
 ·intro f' hf';exact trivial
 ·simp[invoke,go_sem,eg]
 have book: ∀{A B:World},Same1 T W1.heap.size A B->A.heap[w.heap.size+1]?=some (.loop (rec .ready none))->A.heap[w.heap.size]?=some (.deferred (some []))->
   B.heap[w.heap.size+1]?=some (.loop (rec .ready none))/\B.heap[w.heap.size]?=some (.deferred (some [])):=fun h h1 h2=>
  ⟨(h.low _ (by omega) (sW.1 h1).1).trans h1,(h.low _ (by omega) (sW.1 h2).1).trans h2⟩
 refine(hiter W1 hb1 (by omega) (w.heap.size+1)
  (fun pre W=>I pre W/\W.heap[w.heap.size+1]?=some (.loop (rec .ready none))/\W.heap[w.heap.size]?=some (.deferred (some [])))
  (fun W=>(∃pre,End pre/\I pre W/\W.heap[w.heap.size+1]?=some (.loop (rec .ready none))/\W.heap[w.heap.size]?=some (.deferred (some [])))\/
   ∃c,Ix c W/\W.heap[w.heap.size+1]?=some (.loop (rec .done (some c)))/\W.heap[w.heap.size]?=some (.deferred (some [])))
  (fun pre W h=>hAux pre W h.1) ?_ ?_ ?_ ⟨hI1,hL1,hK1⟩).mono ?_
 ·rintro pre A B ⟨h1,h2,h3⟩ h
  exact⟨hI _ _ _ h1 (wide h),book h h2 h3⟩
 ·
  rintro pre x W0 W ⟨hi,hl0,hk0⟩ hsame hpre hstep;obtain⟨hl,hk⟩:=book hsame hl0 hk0
  have hlt:w.heap.size+1<W.heap.size:=(sW.1 hl).1
  have hy:=run_yield (P:=P) (args:=encs x) hl (by rw[hrec];exact hps x)
  rw[hrec]at hy;have hbA:=hw₁ x W;obtain⟨WA,hWA⟩:=aj (w₁ x W);rw[hWA]at hbA
  have hl':WA.heap[w.heap.size+1]?=some (.loop (rec .ready none)):=(hbA.block _ hlt).trans hl
  have hk':WA.heap[w.heap.size]?=some (.deferred (some [])):=(hbA.block _ (by omega)).trans hk
  have hltA:w.heap.size+1<WA.heap.size:=sZ hlt hbA.size
  refine⟨fn,_,assign,body,hy,roundIn_of_wpIn trivial (hassign _ x W _ ?_)⟩;rw[hWA]
  refine⟨_,run_beginRound hl' (by rw[hrec]), ?_⟩
  have hl2:(WA.putObj (w.heap.size+1) (.loop {rec .ready none with state:=.busy})).heap[w.heap.size+1]?=some (.loop {rec .ready none with state:=.busy}):=World.putObj_heap_same hltA
  have hk2:(WA.putObj (w.heap.size+1) (.loop {rec .ready none with state:=.busy})).heap[w.heap.size]?=some (.deferred (some [])):=(World.putObj_heap_other (by omega)).trans hk'
  have hs2:Same1 T w.heap.size W (WA.putObj (w.heap.size+1) (.loop {rec .ready none with state:=.busy})):=(Same1.of_below hbA).trans (Same1.putObj _ hl' (by omega))
  have hblk: ∀(b:Nat) (t:TypeId) (c:Array Value),Blk (w₁ x W) b t c->Blk (WA.putObj (w.heap.size+1) (.loop {rec .ready none with state:=.busy})) b t c:=fun b t c h=>by
   rw[hWA]at h
   exact(World.putObj_heap_other (fun e=>by subst e;unfold Blk at h;rw[hl']at h;cases h)).trans h
  refine wpIn_mono (hbody _ pre x W0 W _ hi (wide hsame) hs2 hblk (by rw[hWA];simp[World.putObj]) (by have:=hPre x W0 W (w.heap.size+1) _ {rec .ready none with state:=.busy} hpre (by rw[hWA];exact hl');rw[hWA]at this;exact this) hstep (by omega) (by have:=(sW.1 hl0).1;omega)) ?_
  have fin: ∀(jump:Option Code) (W3:World),KeepsFrom w.heap.size (WA.putObj (w.heap.size+1) (.loop {rec .ready none with state:=.busy})) W3->
    (Instr.endRound (w.heap.size+1) jump).run P W3=.ok (.bool jump.isNone) (W3.putObj (w.heap.size+1) (.loop (rec (if jump.isNone then .ready else .done) jump)))/\
    W3.heap[w.heap.size+1]?=some (.loop {rec .ready none with state:=.busy})/\
    (W3.putObj (w.heap.size+1) (.loop (rec (if jump.isNone then .ready else .done) jump))).heap[w.heap.size+1]?=some (.loop (rec (if jump.isNone then .ready else .done) jump))/\
    (W3.putObj (w.heap.size+1) (.loop (rec (if jump.isNone then .ready else .done) jump))).heap[w.heap.size]?=some (.deferred (some [])):=fun jump W3 hk3=>by
   have hl3:=hk3.same _ _ (by omega) hl2 rfl
   have:=run_endRound (P:=P) jump hl3;rw[hrec]at this⊢
   exact⟨this,by rw[hrec]at hl3;exact hl3,World.putObj_heap_same (sW.1 hl3).1,(World.putObj_heap_other (by omega)).trans (hk3.same _ _ (rM _) hk2 rfl)⟩
  have putT: ∀(V:World) (r r':Loop),V.heap[w.heap.size+1]?=some (.loop r)->KeepT T V (V.putObj (w.heap.size+1) (.loop r')):=fun V r r' h=>
   ⟨by simp[World.putObj],fun k c fz hc=>(World.putObj_heap_other (fun e=>by subst e;rw[h]at hc;cases hc)).trans hc⟩
  rintro e a3 W3 hp;cases e with
  |normal=>
   obtain⟨hk3,hkp3,hi3⟩:=hp;obtain⟨hr,hl3,hl4,hk4⟩:=fin none W3 hk3
   exact⟨_,_,hr,.inl ⟨rfl,⟨hI _ _ _ hi3 (Same1.putObj _ hl3 (by omega)),hl4,hk4⟩,(KeepT.of_below hbA).trans ((putT WA _ _ hl').trans (hkp3.trans (putT W3 _ _ hl3)))⟩⟩
  |ret=>
   obtain⟨hk3,hi3⟩:=hp;obtain⟨hr,hl3,hl4,hk4⟩:=fin (some .ret) W3 hk3
   exact⟨_,_,hr,.inr ⟨rfl,.inr ⟨.ret,hIx _ _ _ hi3 (Same1.putObj _ hl3 (by omega)),hl4,hk4⟩⟩⟩
  |exit id=>
   obtain⟨hk3,hi3⟩:=hp;obtain⟨hr,hl3,hl4,hk4⟩:=fin (some (.exit id)) W3 hk3
   exact⟨_,_,hr,.inr ⟨rfl,.inr ⟨.exit id,hIx _ _ _ hi3 (Same1.putObj _ hl3 (by omega)),hl4,hk4⟩⟩⟩
  |goto t=>
   obtain⟨hk3,hi3⟩:=hp;obtain⟨hr,hl3,hl4,hk4⟩:=fin (some (.goto t)) W3 hk3
   exact⟨_,_,hr,.inr ⟨rfl,.inr ⟨.goto t,hIx _ _ _ hi3 (Same1.putObj _ hl3 (by omega)),hl4,hk4⟩⟩⟩
  |panic ch=>exact hp.elim
  |outgrown=>exact hp.elim
 ·rintro pre W ⟨h1,h2,h3⟩ hend
  exact .inl ⟨pre,hend,h1,h2,h3⟩
 rintro e W2 ⟨⟨v,rfl⟩,(⟨xs,hend,hi,hl,hk⟩|⟨c,hi,hl,hk⟩)⟩
 ·exact⟨none,_,by have:=run_endLoop (P:=P) hl (by rw[hrec];simp);rw[hrec]at this;exact this,hdone _ xs _ (rM _) hend (hI _ _ _ hi (Same1.putObj _ hl (by omega))) ((World.putObj_heap_other (by omega)).trans hk)⟩
 exact⟨some c,_,by have:=run_endLoop (P:=P) hl (by rw[hrec];simp);rw[hrec]at this;exact this,hstop _ c _ (rM _) (hIx _ _ _ hi (Same1.putObj _ hl (by omega))) ((World.putObj_heap_other (by omega)).trans hk)⟩
end Go.Proofs.YtanlehkalkafdaaGreatDoor
namespace Go.Proofs.YtanlehkalkafdaaGreatDoor
open Go Go.RowKit
variable {P:Program} {md:Region.Mode} {ops:Array Oper} {C:World->Prop}
def wide (w:World) (n:Nat) (os:Array Obj):World:={w with drawn:=n,heap:=w.heap++os}
structure WideBy where
 n:Nat
 os:Array Obj
instance:Inhabited WideBy:=⟨⟨0,#[]⟩⟩
theorem wide_size (w:World) (n:Nat) (os:Array Obj):w.heap.size<=(wide w n os).heap.size:=by unfold wide;rw[zZ];omega
theorem wide_below (w:World) (n:Nat) (os:Array Obj):Below w.heap.size w (wide w n os):=⟨rfl,rfl,rfl,wide_size w n os,fun k hk=>by unfold wide;exact y8 hk⟩
theorem wide_cell {w:World} {a:Addr} {v:Value} (hb:a.block<w.heap.size) (h:w.cell? a=some v) (n:Nat) (os:Array Obj):(wide w n os).cell? a=some v:=by rw[<-h];exact(wide_below w n os).cell hb
theorem below_wide {w w':World} (h:Below w.heap.size w w'): ∃p:WideBy,w'=wide w p.n p.os:=by
 refine⟨⟨w'.drawn,w'.heap.extract w.heap.size w'.heap.size⟩, ?_⟩
 have hh:w'.heap=w.heap++w'.heap.extract w.heap.size w'.heap.size:=by
  refine Array.ext_getElem? fun i=> ?_
  rcases wW i w.heap.size with hi|hi
  ·rw[y8 hi,h.block i hi]
  rw[Array.getElem?_append_right hi,Array.getElem?_extract];have:=h.size
  split
  ·congr 1;omega
  exact xY (by omega)
 have h1:=h.os;have h2:=h.tape;have h3:=h.output;cases w';cases w;simp only[wide] at*
 subst h1 h2 h3;rw[<-hh]
theorem calls_wide {f:FuncId} {args:Array Value} {w:World} {n:Nat} {os:Array Obj} {v:Value} (h:Calls P f args (wide w n os) fun e w'=>e=.returned v/\Below (wide w n os).heap.size (wide w n os) w'):
  Calls P f args (wide w n os) fun e w'=>e=.returned v/\ ∃p:WideBy,w'=wide w p.n p.os:=
 h.mono fun _ _ ⟨he,hb⟩=>⟨he,below_wide ((wide_below w n os).trans (hb.mono (wide_size w n os)))⟩
theorem wp_region_quiet_wide {id:Nat} {Q:Exit->Act->World->Prop} {a:Act} {w:World} {l:List Oper} (hm:P.follows .mixedOrders=true) (hB:Region.lexB .any l.toArray=true)
  (h:wpQuiet P l.toArray (fun w'=> ∃p:WideBy,w'=wide w p.n p.os) (fun a'=> ∀w',(∃p:WideBy,w'=wide w p.n p.os)->Q .normal a' w') l a):(Code.region id l.toArray true).wp P Q a w:=
 wp_region_quiet (C:=fun w'=> ∃p:WideBy,w'=wide w p.n p.os) hm hB (below_wide ⟨rfl,rfl,rfl,rM _,fun _ _=>rfl⟩) (by simpa using h)
end Go.Proofs.YtanlehkalkafdaaGreatDoor
namespace Go.Proofs.YtanlehkalkafdaaGreatDoor
open Go.RowKit
attribute [local go_sem] Oper.semAt_some
def hv (kd:Nat) (m:List UInt8):List Lex.Tok->Option (List Lex.Tok)
 |[]=>none
 |t :: r=>if t.kind=kd/\t.text=m then some r else none
end Go.Proofs.YtanlehkalkafdaaGreatDoor
namespace Go.Proofs.YtanlehkalkafdaaGreatDoor
open Go.RowKit
theorem name_leaf (c:UInt8):Lex.inWord c=((decide ((97:Int)<=(c.toNat:Int)) && decide ((c.toNat:Int)<=122)) ||(decide ((65:Int)<=(c.toNat:Int)) && decide ((c.toNat:Int)<=90)) ||(decide ((48:Int)<=(c.toNat:Int)) && decide ((c.toNat:Int)<=57)) ||((c.toNat:Int) == 95)):=by
 rw[wJ];simp only[Lex.inWord,Lex.isLet,Num.isDig,wu,uy,tX,uw];omega
theorem name_empty:Gr.goodName []=false:=by decide
theorem name_long {l:List UInt8} (h:40<l.length):Gr.goodName l=false:=by
 unfold Gr.goodName;rw[rO (by omega: ¬l.length<=40)]
 simp
theorem name_digit {l:List UInt8} {c:UInt8} (h:l[0]?=some c) (hc:Num.isDig c=true):Gr.goodName l=false:=by
 cases l with
 |nil=>simp at h
 |cons a r=>
  simp only[sD,uH]at h;subst h;unfold Gr.goodName;simp[hc]
theorem name_bad {l:List UInt8} {c:UInt8} {k:Nat} (h:l[k]?=some c) (hc:Lex.inWord c=false):Gr.goodName l=false:=by
 unfold Gr.goodName;rw[List.all_eq_false.2 ⟨c,sK h,by rw[hc];decide⟩]
 simp
theorem name_good {l:List UInt8} {c:UInt8} (h0:l[0]?=some c) (hc:Num.isDig c=false) (hl:l.length<=40) (h: ∀(j:Nat) d,l[j]?=some d->Lex.inWord d=true):Gr.goodName l=true:=by
 cases l with
 |nil=>simp at h0
 |cons a r=>
  simp only[sD,uH]at h0;subst h0;unfold Gr.goodName
  rw[wC.2 (fun d hd=>by
   obtain⟨j,hj,e⟩:=uV hd
   exact h j d (by rw[ay hj,e]))]
  rw[rQ hl];simp[hc]
theorem goodName_any (s:ByteArray) (w:World) (hs:s.size<=1073741824):
  Calls Tryz.prog 70 #[.string s] w fun e w'=>e=.returned (.bool (Gr.goodName s.data.toList))/\w=w':=by
 obtain⟨R,hR⟩:=aj (Gr.goodName s.data.toList);rw[hR];have HR:=ah hR;clear hR
 have hl:=Lib.size_eq s;have hg:=fun(k:Nat) (h:k<s.size)=>get_list s k h
 have hd:=Lib.toList_data s;obtain⟨n,hn⟩:=aj s.size;rw[hn]at hl hs;have hu:=undef_nil
 by_cases h0:n=0
 ·subst h0
  have hs0:s.toList.isEmpty=true:=by rw[hd,xE];exact sH hl.symm
  have hr:R=false:=by rw[<-HR.out,sH hl.symm];exact name_empty
  have HRR:=ah hr;clear hr hl hg hd hs;go_enter Tryz.func70,Tryz.ntmps70;go_wp2;go_ret
  exact⟨by rw[HRR.out];rfl,rfl⟩
 have hs0:s.toList.isEmpty=false:=by rw[hd,vT];intro e;rw[e]at hl;simp at hl;omega
 by_cases h40:40<n
 ·have h40i:(40:Int)<n:=by omega
  have t40:decide ((40:Int)<n)=true:=rQ h40i
  have hr:R=false:=by rw[<-HR.out];exact name_long (by omega)
  have HRR:=ah hr;clear hr hl hg hd h0 h40 hs;go_enter Tryz.func70,Tryz.ntmps70;go_wp2
  go_ret;exact⟨by rw[HRR.out];rfl,rfl⟩
 have h40i:(n:Int)<=40:=by omega
 have t40:decide ((40:Int)<n)=false:=rO (by omega)
 have hp:0<s.size:=by omega
 obtain⟨c,hc⟩:=aj (s[0]'hp);have hc0:s.data.toList[0]?=some c:=by rw[hg 0 hp,hc]
 have HC0:=ah hc0;have HG:=ah hg;have HN:=ah hn;have HLL:=ah hl;have HU:=ah hu
 clear hg hd hc0 hl;obtain⟨x1,hx1⟩:=aj (decide ((48:Int)<=(c.toNat:Int)))
 obtain⟨x2,hx2⟩:=aj (decide ((c.toNat:Int)<=57))
 have hdig:Num.isDig c=(x1 && x2):=by
  rw[<-hx1,<-hx2,wJ];simp only[Num.isDig,uy,tX];omega
 have HDIG:=ah hdig;clear hdig hs;have hni:(n:Int)<=1073741824:=by omega
 by_cases hxx:x1=true/\x2=true
 ·obtain⟨rfl,rfl⟩:=hxx
  have hr:R=false:=by rw[<-HR.out];exact name_digit HC0.out HDIG.out
  have HRR:=ah hr;have hx1i:=sQ hx1;have hx2i:=sQ hx2;clear hr h0 h40
  go_enter Tryz.func70,Tryz.ntmps70;go_wp2;go_ret;exact⟨by rw[HRR.out];rfl,rfl⟩
 have hnd:Num.isDig c=false:=by rw[HDIG.out];cases x1<;>cases x2<;>simp_all
 have HND:=ah hnd
 have hor:x1=false\/(x1=true/\x2=false):=by cases x1<;>cases x2<;>simp_all
 clear hnd hxx h0 h40;go_enter Tryz.func70,Tryz.ntmps70
 go_upto_region 1 with fail
 go_cut [21] (fun s21 wx=>s21=.bool false/\w=wx)
 case first=>
  rcases hor with rfl|⟨rfl,rfl⟩
  ·have hxi:=sO hx1
   go_wp2;go_meet;exact⟨rfl,rfl⟩
  have hxi:=sQ hx1;have hxj:=sO hx2;go_wp2;go_meet;exact⟨rfl,rfl⟩
 obtain⟨rfl,rfl⟩:=hcut;clear hx1 hx2 hor;go_wp2_with fail
 go_loopg [24] n (fun g x wr=> ∃k:Nat,x=.int .i64 k/\k+g=n/\w=wr/\ ∀(j:Nat) d,j<k->s.data.toList[j]?=some d->Lex.inWord d=true)
 case atStart=>exact⟨0,rfl,by omega,rfl,fun j d h=>by omega⟩
 obtain⟨k,rfl,hk,rfl,hz⟩:=hrel;have HK:=ah hk;have HZ:=ah hz;clear hz;cases gk with
 |zero=>
  obtain rfl:k=n:=by omega
  have hr:R=true:=by
   rw[<-HR.out]
   exact name_good HC0.out HND.out (by have:=HLL.out;omega) (fun j d hj=>HZ.out j d (by have:=(rZ.1 hj).1;have:=HLL.out;omega) hj)
  have HRR:=ah hr;clear hk hr;go_wp2;go_ret;exact⟨by rw[HRR.out];rfl,rfl⟩
 |succ g=>
  have hkn:k<n:=by omega
  have hknI:(k:Int)<n:=by omega
  have hks:k<s.size:=by rw[HN.out];exact hkn
  obtain⟨d,hd⟩:=aj (s[k]'hks)
  have HD:=ah (show s.data.toList[k]?=some d by rw[HG.out k hks,hd])
  obtain⟨a1,ha1⟩:=aj (decide ((97:Int)<=(d.toNat:Int)))
  obtain⟨a2,ha2⟩:=aj (decide ((d.toNat:Int)<=122))
  obtain⟨b1,hb1⟩:=aj (decide ((65:Int)<=(d.toNat:Int)))
  obtain⟨b2,hb2⟩:=aj (decide ((d.toNat:Int)<=90))
  obtain⟨c1,hc1⟩:=aj (decide ((48:Int)<=(d.toNat:Int)))
  obtain⟨c2,hc2⟩:=aj (decide ((d.toNat:Int)<=57))
  obtain⟨e1,he1⟩:=aj ((d.toNat:Int) == 95)
  have HIN:=ah (show Lex.inWord d=(a1 && a2 || b1 && b2 || c1 && c2 || e1) by rw[name_leaf,ha1,ha2,hb1,hb2,hc1,hc2,he1])
  have hn1:(d.toNat:Int)<=255:=by have:=d.toNat_lt;omega
  have HB:=ah (show R=false\/(a1 && a2 || b1 && b2 || c1 && c2 || e1)=true by
   cases hq:(a1 && a2 || b1 && b2 || c1 && c2 || e1) with
   |true=>exact .inr rfl
   |false=>exact .inl (by rw[<-HR.out];exact name_bad HD.out (HIN.trans hq)))
  have HZN:=ah (show(a1 && a2 || b1 && b2 || c1 && c2 || e1)=true-> ∀(j:Nat) q,j<k+1->s.data.toList[j]?=some q->Lex.inWord q=true from fun h j q hj hq=>by
   by_cases e:j=k
   ·subst e
    rw[HD.out]at hq;cases hq;rw[HIN.out];exact h
   exact HZ.out j q (by omega) hq)
  clear hk;cases a1 with
  |true=>
   cases a2 with
   |true=>
    have ha1i:=sQ ha1;have ha2i:=sQ ha2;have hz:=HZN.out rfl;have HZ2:=ah hz;clear hz
    go_wp2
    go_roundg g
    case measure=>omega
    exact⟨k+1,int_eq (by omega),by have:=HK.out;omega,rfl,HZ2.out⟩
   |false=>
    cases b1 with
    |true=>
     cases b2 with
     |true=>
      have ha1i:=sQ ha1;have ha2i:=sO ha2;have hb1i:=sQ hb1;have hb2i:=sQ hb2
      have hz:=HZN.out rfl;have HZ2:=ah hz;clear hz;go_wp2
      go_roundg g
      case measure=>omega
      exact⟨k+1,int_eq (by omega),by have:=HK.out;omega,rfl,HZ2.out⟩
     |false=>
      cases c1 with
      |true=>
       cases c2 with
       |true=>
        have ha1i:=sQ ha1;have ha2i:=sO ha2;have hb1i:=sQ hb1;have hb2i:=sO hb2
        have hc1i:=sQ hc1;have hc2i:=sQ hc2;have hz:=HZN.out rfl;have HZ2:=ah hz;clear hz
        go_wp2
        go_roundg g
        case measure=>omega
        exact⟨k+1,int_eq (by omega),by have:=HK.out;omega,rfl,HZ2.out⟩
       |false=>
        cases e1 with
        |true=>
         have ha1i:=sQ ha1;have ha2i:=sO ha2;have hb1i:=sQ hb1;have hb2i:=sO hb2
         have hc1i:=sQ hc1;have hc2i:=sO hc2;have he1i:=uw.1 he1;have hz:=HZN.out rfl
         have HZ2:=ah hz;clear hz;go_wp2
         go_roundg g
         case measure=>omega
         exact⟨k+1,int_eq (by omega),by have:=HK.out;omega,rfl,HZ2.out⟩
        |false=>
         have ha1i:=sQ ha1;have ha2i:=sO ha2;have hb1i:=sQ hb1;have hb2i:=sO hb2
         have hc1i:=sQ hc1;have hc2i:=sO hc2;have he1i:=rX.1 he1
         have hr:R=false:=HB.elim id (fun h=>by cases h)
         have HRR:=ah hr;clear hr;go_wp2;go_ret;exact⟨by rw[HRR.out];rfl,rfl⟩
      |false=>
       cases e1 with
       |true=>
        have ha1i:=sQ ha1;have ha2i:=sO ha2;have hb1i:=sQ hb1;have hb2i:=sO hb2
        have hc1i:=sO hc1;have he1i:=uw.1 he1;have hz:=HZN.out rfl;have HZ2:=ah hz
        clear hz;go_wp2
        go_roundg g
        case measure=>omega
        exact⟨k+1,int_eq (by omega),by have:=HK.out;omega,rfl,HZ2.out⟩
       |false=>
        have ha1i:=sQ ha1;have ha2i:=sO ha2;have hb1i:=sQ hb1;have hb2i:=sO hb2
        have hc1i:=sO hc1;have he1i:=rX.1 he1
        have hr:R=false:=HB.elim id (fun h=>by cases h)
        have HRR:=ah hr;clear hr;go_wp2;go_ret;exact⟨by rw[HRR.out];rfl,rfl⟩
    |false=>
     cases c1 with
     |true=>
      cases c2 with
      |true=>
       have ha1i:=sQ ha1;have ha2i:=sO ha2;have hb1i:=sO hb1;have hc1i:=sQ hc1
       have hc2i:=sQ hc2;have hz:=HZN.out rfl;have HZ2:=ah hz;clear hz;go_wp2
       go_roundg g
       case measure=>omega
       exact⟨k+1,int_eq (by omega),by have:=HK.out;omega,rfl,HZ2.out⟩
      |false=>
       cases e1 with
       |true=>
        have ha1i:=sQ ha1;have ha2i:=sO ha2;have hb1i:=sO hb1;have hc1i:=sQ hc1
        have hc2i:=sO hc2;have he1i:=uw.1 he1;have hz:=HZN.out rfl;have HZ2:=ah hz
        clear hz;go_wp2
        go_roundg g
        case measure=>omega
        exact⟨k+1,int_eq (by omega),by have:=HK.out;omega,rfl,HZ2.out⟩
       |false=>
        have ha1i:=sQ ha1;have ha2i:=sO ha2;have hb1i:=sO hb1;have hc1i:=sQ hc1
        have hc2i:=sO hc2;have he1i:=rX.1 he1
        have hr:R=false:=HB.elim id (fun h=>by cases h)
        have HRR:=ah hr;clear hr;go_wp2;go_ret;exact⟨by rw[HRR.out];rfl,rfl⟩
     |false=>
      cases e1 with
      |true=>
       have ha1i:=sQ ha1;have ha2i:=sO ha2;have hb1i:=sO hb1;have hc1i:=sO hc1
       have he1i:=uw.1 he1;have hz:=HZN.out rfl;have HZ2:=ah hz;clear hz;go_wp2
       go_roundg g
       case measure=>omega
       exact⟨k+1,int_eq (by omega),by have:=HK.out;omega,rfl,HZ2.out⟩
      |false=>
       have ha1i:=sQ ha1;have ha2i:=sO ha2;have hb1i:=sO hb1;have hc1i:=sO hc1
       have he1i:=rX.1 he1;have hr:R=false:=HB.elim id (fun h=>by cases h)
       have HRR:=ah hr;clear hr;go_wp2;go_ret;exact⟨by rw[HRR.out];rfl,rfl⟩
  |false=>
   cases b1 with
   |true=>
    cases b2 with
    |true=>
     have ha1i:=sO ha1;have hb1i:=sQ hb1;have hb2i:=sQ hb2;have hz:=HZN.out rfl
     have HZ2:=ah hz;clear hz;go_wp2
     go_roundg g
     case measure=>omega
     exact⟨k+1,int_eq (by omega),by have:=HK.out;omega,rfl,HZ2.out⟩
    |false=>
     cases c1 with
     |true=>
      cases c2 with
      |true=>
       have ha1i:=sO ha1;have hb1i:=sQ hb1;have hb2i:=sO hb2;have hc1i:=sQ hc1
       have hc2i:=sQ hc2;have hz:=HZN.out rfl;have HZ2:=ah hz;clear hz;go_wp2
       go_roundg g
       case measure=>omega
       exact⟨k+1,int_eq (by omega),by have:=HK.out;omega,rfl,HZ2.out⟩
      |false=>
       cases e1 with
       |true=>
        have ha1i:=sO ha1;have hb1i:=sQ hb1;have hb2i:=sO hb2;have hc1i:=sQ hc1
        have hc2i:=sO hc2;have he1i:=uw.1 he1;have hz:=HZN.out rfl;have HZ2:=ah hz
        clear hz;go_wp2
        go_roundg g
        case measure=>omega
        exact⟨k+1,int_eq (by omega),by have:=HK.out;omega,rfl,HZ2.out⟩
       |false=>
        have ha1i:=sO ha1;have hb1i:=sQ hb1;have hb2i:=sO hb2;have hc1i:=sQ hc1
        have hc2i:=sO hc2;have he1i:=rX.1 he1
        have hr:R=false:=HB.elim id (fun h=>by cases h)
        have HRR:=ah hr;clear hr;go_wp2;go_ret;exact⟨by rw[HRR.out];rfl,rfl⟩
     |false=>
      cases e1 with
      |true=>
       have ha1i:=sO ha1;have hb1i:=sQ hb1;have hb2i:=sO hb2;have hc1i:=sO hc1
       have he1i:=uw.1 he1;have hz:=HZN.out rfl;have HZ2:=ah hz;clear hz;go_wp2
       go_roundg g
       case measure=>omega
       exact⟨k+1,int_eq (by omega),by have:=HK.out;omega,rfl,HZ2.out⟩
      |false=>
       have ha1i:=sO ha1;have hb1i:=sQ hb1;have hb2i:=sO hb2;have hc1i:=sO hc1
       have he1i:=rX.1 he1;have hr:R=false:=HB.elim id (fun h=>by cases h)
       have HRR:=ah hr;clear hr;go_wp2;go_ret;exact⟨by rw[HRR.out];rfl,rfl⟩
   |false=>
    cases c1 with
    |true=>
     cases c2 with
     |true=>
      have ha1i:=sO ha1;have hb1i:=sO hb1;have hc1i:=sQ hc1;have hc2i:=sQ hc2
      have hz:=HZN.out rfl;have HZ2:=ah hz;clear hz;go_wp2
      go_roundg g
      case measure=>omega
      exact⟨k+1,int_eq (by omega),by have:=HK.out;omega,rfl,HZ2.out⟩
     |false=>
      cases e1 with
      |true=>
       have ha1i:=sO ha1;have hb1i:=sO hb1;have hc1i:=sQ hc1;have hc2i:=sO hc2
       have he1i:=uw.1 he1;have hz:=HZN.out rfl;have HZ2:=ah hz;clear hz;go_wp2
       go_roundg g
       case measure=>omega
       exact⟨k+1,int_eq (by omega),by have:=HK.out;omega,rfl,HZ2.out⟩
      |false=>
       have ha1i:=sO ha1;have hb1i:=sO hb1;have hc1i:=sQ hc1;have hc2i:=sO hc2
       have he1i:=rX.1 he1;have hr:R=false:=HB.elim id (fun h=>by cases h)
       have HRR:=ah hr;clear hr;go_wp2;go_ret;exact⟨by rw[HRR.out];rfl,rfl⟩
    |false=>
     cases e1 with
     |true=>
      have ha1i:=sO ha1;have hb1i:=sO hb1;have hc1i:=sO hc1;have he1i:=uw.1 he1
      have hz:=HZN.out rfl;have HZ2:=ah hz;clear hz;go_wp2
      go_roundg g
      case measure=>omega
      exact⟨k+1,int_eq (by omega),by have:=HK.out;omega,rfl,HZ2.out⟩
     |false=>
      have ha1i:=sO ha1;have hb1i:=sO hb1;have hc1i:=sO hc1;have he1i:=rX.1 he1
      have hr:R=false:=HB.elim id (fun h=>by cases h)
      have HRR:=ah hr;clear hr;go_wp2;go_ret;exact⟨by rw[HRR.out];rfl,rfl⟩
theorem bytesLess_lt: ∀(x y:List UInt8),Op.bytesLess x y=decide (x<y)
 |[],[]=>by simp[Op.bytesLess]
 |[],b :: y=>by simp[Op.bytesLess]
 |a :: x,[]=>by simp[Op.bytesLess]
 |a :: x,b :: y=>by
  rw[Op.bytesLess,bytesLess_lt x y,wJ];simp only[yT,tX,wu,uy,uw]
theorem leq_bytes (a b:List UInt8):(Op.bytesLess a b || a == b)=decide (a<=b):=by
 rw[bytesLess_lt,wJ];simp only[wu,tX,uw];exact Iff.symm Bc
theorem st_toList (l:List UInt8):(⟨l.toArray⟩:ByteArray).toList=l:=by rw[Lib.toList_data]
theorem first_done {κ α:Type} {f:Option κ->α->Nat} {key:α->κ} {l:List α} {n:Nat} (hn:l.length=n) {R:Nat} (hR:(Gr.first f key none l 0).1=R) (h: ∀j a,j<n->l[j]?=some a->f (Gr.prevAt key l j) a=0):R=0:=by
 rw[<-hR,Gr.first_zero f key (fun j a hj=>h j a (by have:=(rZ.1 hj).1;omega) hj)]
theorem first_stop {κ α:Type} {f:Option κ->α->Nat} {key:α->κ} {l:List α} {k:Nat} {a:α} {R e:Nat} (hR:(Gr.first f key none l 0).1=R) (ha:l[k]?=some a) (h: ∀j a,j<k->l[j]?=some a->f (Gr.prevAt key l j) a=0) (he:f (Gr.prevAt key l k) a=e) (hne:e≠0):R=e:=by
 rw[<-hR,Gr.first_bad f key ha he hne h]
theorem first_more {κ α:Type} {f:Option κ->α->Nat} {key:α->κ} {l:List α} {k:Nat} {a:α} (ha:l[k]?=some a) (h: ∀j a,j<k->l[j]?=some a->f (Gr.prevAt key l j) a=0) (he:f (Gr.prevAt key l k) a=0): ∀j a,j<k+1->l[j]?=some a->f (Gr.prevAt key l j) a=0:=fun j b hj hb=>by
 by_cases e:j=k
 ·subst e
  rw[ha]at hb;cases hb;exact he
 exact h j b (by omega) hb
theorem checkLabels_any (B:Nat) (A:Option Addr) (c:Nat) (ls:List (List UInt8)) (w:World) (h:Reads w B 1 A ls.length (ls.map ST)) (hl:ls.length<=1073741824) (hs: ∀l∈ls,l.length<=1073741824):
  Calls Tryz.prog 90 #[.slice A ls.length c] w fun e w'=>e=.returned (.int .i64 (Gr.labelsWrong ls:Nat))/\w=w':=by
 obtain⟨R,hR⟩:=aj (Gr.labelsWrong ls);rw[hR];unfold Gr.labelsWrong at hR
 obtain⟨n,hn⟩:=aj ls.length;rw[hn]at h hl hR⊢;have HH:=ah h;have HS:=ah hs
 have HN:=ah hn;have HU:=ah undef_nil;by_cases h8:8<n
 ·rw[rY h8]at hR
  subst hR;have h8i:(8:Int)<n:=by omega
  have t8:decide ((8:Int)<n)=true:=rQ h8i;clear h h8 hs hl
  go_enter Tryz.func90,Tryz.ntmps90;go_wp2;go_ret;exact⟨rfl,rfl⟩
 rw[rU h8]at hR;have HR:=ah hR;have h8i:(n:Int)<=8:=by omega
 have t8:decide ((8:Int)<n)=false:=rO (by omega)
 clear h h8 hs hl hR;go_enter Tryz.func90,Tryz.ntmps90;go_wp2_with fail
 go_loopg [10] n (fun g x wr=> ∃k:Nat,x=.int .i64 k/\k+g=n/\w=wr/\ ∀j a,j<k->ls[j]?=some a->Gr.labelWrong (Gr.prevAt id ls j) a=0)
 case atStart=>exact⟨0,rfl,by omega,rfl,fun j a h=>by omega⟩
 obtain⟨k,rfl,hk,rfl,hz⟩:=hrel;have HK:=ah hk;have HZ:=ah hz;clear hz;cases gk with
 |zero=>
  obtain rfl:k=n:=by omega
  have hr:=first_done HN.out HR.out HZ.out;have HRR:=ah hr;clear hk hr;go_wp2;go_ret
  exact⟨by rw[HRR.out];rfl,rfl⟩
 |succ g=>
  have hkn:k<n:=by omega
  have hknI:(k:Int)<n:=by omega
  obtain⟨p,o,x,rfl,-,hx,hp⟩:=HH.cell hkn;rw[tu]at hx;obtain⟨y,hy,rfl⟩:=uP.1 hx
  unfold ST at hp;obtain⟨z,hz⟩:=aj (⟨y.toArray⟩:ByteArray);rw[hz]at hp
  have hzd:z.data.toList=y:=by rw[<-hz]
  have hzl:z.size<=1073741824:=by rw[Lib.size_eq,hzd];exact HS.out y (sK hy)
  have hcall:=goodName_any z w hzl;rw[hzd]at hcall;have HY:=ah hy;have HZD:=ah hzd
  cases hg:Gr.goodName y with
  |false=>
   rw[hg]at hcall;have HC:=ah hcall
   have hr:=first_stop HR.out HY.out HZ.out (e:=60) (by unfold Gr.labelWrong;rw[hg,rY rfl]) (by decide)
   have HRR:=ah hr;clear hx hk hkn hy hz hzd hzl hcall hg hr;go_wp2_with fail
   refine HC.mono ?_;rintro e w' ⟨rfl,rfl⟩;go_wp2;go_ret;exact⟨by rw[HRR.out];rfl,rfl⟩
  |true=>
   rw[hg]at hcall;have HC:=ah hcall;have HGN:=ah hg;by_cases h0:k=0
   ·subst h0
    rw[vw]at hp
    have hmore:=first_more HY.out HZ.out (by unfold Gr.labelWrong;rw[hg,rU (by decide)];rfl)
    have HM:=ah hmore;clear hx hk hkn hy hz hzd hzl hcall hg hmore;go_wp2_with fail
    refine HC.mono ?_;rintro e w' ⟨rfl,rfl⟩;go_wp2
    go_roundg g
    case measure=>omega
    exact⟨1,rfl,by have:=HK.out;omega,rfl,HM.out⟩
   obtain⟨m,rfl⟩: ∃m,k=m+1:=⟨k - 1,by omega⟩
   obtain⟨p',o',x',he,-,hx',hp'⟩:=HH.cell (k:=m) (by omega)
   injection he with he
   injection he with he1 he2
   subst he1;subst he2;rw[tu]at hx';obtain⟨q,hq,rfl⟩:=uP.1 hx';unfold ST at hp'
   obtain⟨zq,hzq⟩:=aj (⟨q.toArray⟩:ByteArray)
   have hzqd:zq.toList=q:=by rw[<-hzq,st_toList]
   rw[hzq]at hp';obtain⟨b1,hb1⟩:=aj (Op.bytesLess z.toList zq.toList)
   obtain⟨b2,hb2⟩:=aj (z.toList == zq.toList)
   have hb:decide (y<=q)=(b1 || b2):=by rw[<-hb1,<-hb2,leq_bytes,hzqd,Lib.toList_data,hzd]
   have hmI:(1:Int)<=((m+1:Nat):Int):=by omega
   have hm0:decide ((0:Int)<((m+1:Nat):Int))=true:=rQ (by omega)
   have hsub:((m+1:Nat):Int) - 1=(m:Int):=by omega
   have hlw:Gr.labelWrong (Gr.prevAt id ls (m+1)) y=if(b1 || b2)=true then 6 else 0:=by
    have hpv:Gr.prevAt id ls (m+1)=some q:=by show ls[m]?.map id=_;rw[hq];rfl
    unfold Gr.labelWrong;rw[hg,hpv,rU (by decide),<-hb]
    rfl
   have HLW:=ah hlw;clear hx hx' hq hk hkn hy hz hzd hzl hcall hg hlw hb h0 hzq hzqd
   go_wp2_with fail;refine HC.mono ?_;rintro e w' ⟨rfl,rfl⟩
   have HSTOP:=ah (show(b1 || b2)=true->R=6 from fun h=>first_stop HR.out HY.out HZ.out (e:=6) (by rw[HLW.out,h];rfl) (by decide))
   cases b1 with
   |true=>
    have hr:=HSTOP.out rfl;have HRR:=ah hr;clear hr;go_wp2;go_ret
    exact⟨by rw[HRR.out];rfl,rfl⟩
   |false=>
    cases b2 with
    |true=>
     have hr:=HSTOP.out rfl;have HRR:=ah hr;clear hr;go_wp2;go_ret
     exact⟨by rw[HRR.out];rfl,rfl⟩
    |false=>
     have hmore:=first_more HY.out HZ.out (by rw[HLW.out];rfl)
     have HM:=ah hmore;clear hmore;go_wp2
     go_roundg g
     case measure=>omega
     exact⟨m+1+1,int_eq (by omega),by have:=HK.out;omega,rfl,HM.out⟩
end Go.Proofs.YtanlehkalkafdaaGreatDoor
