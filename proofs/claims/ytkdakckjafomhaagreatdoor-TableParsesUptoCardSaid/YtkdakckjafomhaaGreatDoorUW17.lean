/- Contracts and plain laws,part 17. -/
import Derived.Test.YtkdakckjafomhaaGreatDoorUW16
import Derived.Below
import Derived.Sort.Grow
import Derived.StillTail
import Derived.RegionIn
set_option linter.all false
namespace Go.Proofs.YtkdakckjafomhaaGreatDoor.Gr
open Go
theorem aje {κ α:Type} (key:α->κ) (l:List α) (k:Nat):aH key l (k+1)=l[k]?.map key:=rfl
theorem TU {κ α:Type} {key:α->κ} {l:List α} {k:Nat} {a:α} (h:l[k]?=some a):aH key l (k+1)=some (key a):=by rw[aje,h];rfl
structure aak (prev:Option L) (p:P):Prop where
 name:bC p.key=true
 lt: ∀q,prev=some q-> ¬p.key<=q
 val:ak.check p.val=0
theorem aal {prev:Option L} {p:P}:kS prev p=0↔aak prev p:=by
 unfold kS
 constructor
 ·intro h
  split at h
  ·omega
  rename_i h1
  split at h
  ·omega
  rename_i h2;refine⟨by simpa using h1,fun q hq=> ?_,h⟩
  subst hq
  simpa using h2
 intro h;rw[ade (by rw[h.name];decide),ade,h.val]
 cases prev with
 |none=>simp
 |some q=>simpa using h.lt q rfl
structure wS (ps:List P):Prop where
 len:ps.length<=16
 all: ∀(j:Nat) p,ps[j]?=some p->aak (aH P.key ps j) p
theorem Pq {ps:List P}:lQ ps=0↔wS ps:=by
 unfold lQ
 constructor
 ·intro h
  split at h
  ·omega
  exact⟨by omega,fun j p hp=>aal.1 (Po kS P.key h j p hp)⟩
 intro h;rw[ade (by have:=h.len;omega),C9 kS P.key fun j p hp=>aal.2 (h.all j p hp)]
theorem wS.val {ps:List P} (h:wS ps): ∀p∈ps,ak.check p.val=0:=fun p hp=>by
 obtain⟨j,hj,e⟩:=afj hp;exact(h.all j p (by rw[dF hj,e])).val
theorem wS.name {ps:List P} (h:wS ps): ∀p∈ps,bC p.key=true:=fun p hp=>by
 obtain⟨j,hj,e⟩:=afj hp;exact(h.all j p (by rw[dF hj,e])).name
structure aam (prev:Option L) (l:L):Prop where
 name:bC l=true
 lt: ∀q,prev=some q-> ¬l<=q
theorem aan {prev:Option L} {l:L}:labelWrong prev l=0↔aam prev l:=by
 unfold labelWrong
 constructor
 ·intro h
  split at h
  ·omega
  rename_i h1
  split at h
  ·omega
  rename_i h2;refine⟨by simpa using h1,fun q hq=> ?_⟩
  subst hq
  simpa using h2
 intro h;rw[ade (by rw[h.name];decide),ade]
 cases prev with
 |none=>simp
 |some q=>simpa using h.lt q rfl
structure JV (ls:List L):Prop where
 len:ls.length<=8
 all: ∀(j:Nat) l,ls[j]?=some l->aam (aH id ls j) l
theorem aao {ls:List L}:uY ls=0↔JV ls:=by
 unfold uY
 constructor
 ·intro h
  split at h
  ·omega
  exact⟨by omega,fun j p hp=>aan.1 (Po labelWrong id h j p hp)⟩
 intro h;rw[ade (by have:=h.len;omega),C9 labelWrong id fun j p hp=>aan.2 (h.all j p hp)]
structure TV (prev:Option Int) (n:N):Prop where
 lo:0<=n.id
 hi:n.id<1024
 lt: ∀q,prev=some q->q<n.id
 labels:JV n.labels
 props:wS n.props
theorem Pv {prev:Option Int} {n:N}:iM prev n=0↔TV prev n:=by
 unfold iM
 constructor
 ·intro h
  split at h
  ·omega
  rename_i h1
  split at h
  ·omega
  rename_i h2
  split at h
  ·rename_i h3;exact absurd h h3
  rename_i h3
  refine⟨by omega,by omega,fun q hq=> ?_,aao.1 (Decidable.not_not.1 h3),Pq.1 h⟩
  subst hq;simp at h2;omega
 intro h
 rw[ade (by have:=h.lo;have:=h.hi;omega),ade,ade (by rw[aao.2 h.labels];decide),Pq.2 h.props]
 cases prev with
 |none=>simp
 |some q=>have:=h.lt q rfl;simp;omega
structure TW (ids:List Int) (prev:Option Int) (r:R):Prop where
 lo:0<=r.id
 hi:r.id<2048
 lt: ∀q,prev=some q->q<r.id
 name:bC r.type=true
 src:r.src∈ids
 dst:r.dst∈ids
 props:wS r.props
theorem Px {ids:List Int} {prev:Option Int} {r:R}:jw ids prev r=0↔TW ids prev r:=by
 unfold jw
 constructor
 ·intro h
  split at h
  ·omega
  rename_i h1
  split at h
  ·omega
  rename_i h2
  split at h
  ·omega
  rename_i h3
  split at h
  ·omega
  rename_i h4;simp only[aox,Decidable.not_not]at h4
  refine⟨by omega,by omega,fun q hq=> ?_,by simpa using h3,h4.1,h4.2,Pq.1 h⟩
  subst hq;simp at h2;omega
 intro h
 rw[ade (by have:=h.lo;have:=h.hi;omega),ade,ade (by rw[h.name];decide),ade (by simp[h.src,h.dst]),Pq.2 h.props]
 cases prev with
 |none=>simp
 |some q=>have:=h.lt q rfl;simp;omega
theorem aap {α:Type} {key:α->Int} {l:List α} (h: ∀(j:Nat) a,l[j]?=some a->0<=key a/\ ∀q,aH key l j=some q->q<key a): ∀(j:Nat) a,l[j]?=some a->(j:Int)<=key a
 |0,a,ha=>(h 0 a ha).1
 |j+1,a,ha=>by
  have hj:j<l.length:=by have:=(adw.1 ha).1;omega
  have hb:=dF hj;have:=aap h j _ hb;have:=(h (j+1) a ha).2 _ (TU hb);omega
theorem aaq {α:Type} {key:α->Int} {l:List α} {m:Nat} (h: ∀(j:Nat) a,l[j]?=some a->0<=key a/\ ∀q,aH key l j=some q->q<key a) (hm: ∀a∈l,key a<m):l.length<=m:=by
 rcases am5 m l.length with hlt|hge
 ·have hb:=dF hlt
  have:=aap h m _ hb;have:=hm _ (adI hb);omega
 exact hge
theorem Py {α β:Type} {f:α->List β} {c:Nat}: ∀{l:List α},(∀a∈l,(f a).length<=c)->(l.flatMap f).length<=c*l.length
 |[],_=>by simp
 |a :: l,h=>by
  have:=Py fun b hb=>h b (aeY.2 (.inr hb))
  have:=h a (aeY.2 (.inl rfl));simp only[ae2,adf,adQ];rw[Nat.mul_succ];omega
structure uZ (ns:List N):Prop where
 all: ∀(j:Nat) n,ns[j]?=some n->TV (aH N.id ns j) n
structure y9 (ids:List Int) (rs:List R):Prop where
 all: ∀(j:Nat) r,rs[j]?=some r->TW ids (aH R.id rs j) r
theorem uZ.mem {ns:List N} (h:uZ ns) {n:N} (hn:n∈ns): ∃prev,TV prev n:=by
 obtain⟨j,hj,e⟩:=afj hn;exact⟨_,h.all j n (by rw[dF hj,e])⟩
theorem y9.mem {ids:List Int} {rs:List R} (h:y9 ids rs) {r:R} (hn:r∈rs): ∃prev,TW ids prev r:=by
 obtain⟨j,hj,e⟩:=afj hn;exact⟨_,h.all j r (by rw[dF hj,e])⟩
theorem uZ.len {ns:List N} (h:uZ ns):ns.length<=1024:=
 aaq (key:=N.id) (fun j a ha=>⟨(h.all j a ha).lo,(h.all j a ha).lt⟩) (fun a ha=>by obtain⟨_,hg⟩:=h.mem ha;exact hg.hi)
theorem y9.len {ids:List Int} {rs:List R} (h:y9 ids rs):rs.length<=2048:=
 aaq (key:=R.id) (fun j a ha=>⟨(h.all j a ha).lo,(h.all j a ha).lt⟩) (fun a ha=>by obtain⟨_,hg⟩:=h.mem ha;exact hg.hi)
theorem uZ.Io {ns:List N} (h:uZ ns):(ns.flatMap N.labels).length<=8192:=by
 have:=Py (f:=N.labels) (l:=ns) (c:=8) fun n hn=>by obtain⟨_,hg⟩:=h.mem hn;exact hg.labels.len
 have:=h.len;omega
theorem aar {g:G} (h:uZ g.nodes) {ids:List Int} (k:y9 ids g.aA):(dX g).length<=49152:=by
 have h1:=Py (f:=N.props) (l:=g.nodes) (c:=16) fun n hn=>by obtain⟨_,hg⟩:=h.mem hn;exact hg.props.len
 have h2:=Py (f:=R.props) (l:=g.aA) (c:=16) fun n hn=>by obtain⟨_,hg⟩:=k.mem hn;exact hg.props.len
 have:=h.len;have:=k.len;unfold dX;rw[adf];omega
theorem aas {g:G} (h:uZ g.nodes) {ids:List Int} (k:y9 ids g.aA): ∀p∈dX g,ak.check p.val=0:=fun p hp=>by
 unfold dX at hp
 rcases aem.1 hp with hp|hp
 ·obtain⟨n,hn,hq⟩:=ae9.1 hp
  obtain⟨_,hg⟩:=h.mem hn;exact hg.props.val p hq
 obtain⟨n,hn,hq⟩:=ae9.1 hp;obtain⟨_,hg⟩:=k.mem hn;exact hg.props.val p hq
structure Good (g:G):Prop where
 nodes:uZ g.nodes
 aA:y9 (g.nodes.map N.id) g.aA
 names:(dedup (ql g)).length<=200/\(dedup (names2 g)).length<=200/\(dedup (jP g)).length<=200
 weight:weight g<=262144
theorem Pz {g:G}:(check g).1=0↔Good g:=by
 unfold check
 constructor
 ·intro h
  split at h
  ·rename_i h1;exact absurd h h1
  rename_i h1
  split at h
  ·rename_i h2;exact absurd h h2
  rename_i h2
  split at h
  ·cases h
  rename_i h3
  split at h
  ·cases h
  rename_i h4
  refine⟨⟨fun j n hn=>Pv.1 (Po iM N.id (Decidable.not_not.1 h1) j n hn)⟩,⟨fun j r hr=>Px.1 (Po _ R.id (Decidable.not_not.1 h2) j r hr)⟩,by omega,by omega⟩
 intro h
 rw[ade (by rw[C9 iM N.id fun j n hn=>Pv.2 (h.nodes.all j n hn)];decide),
  ade (by rw[C9 _ R.id fun j r hr=>Px.2 (h.aA.all j r hr)];decide),ade (by have:=h.names;omega),ade (by have:=h.weight;omega)]
end Go.Proofs.YtkdakckjafomhaaGreatDoor.Gr
namespace Go.Proofs.YtkdakckjafomhaaGreatDoor.Cy
open Go
structure ajf (v:ak.V):Prop where
 ck:ak.check v=0
 num:ak.In64 v.num
 nums: ∀n∈v.nums,ak.In64 n
structure Fa (p:Gr.P):Prop where
 name:Gr.bC p.key=true
 val:ajf p.val
structure ajg (n:Gr.N):Prop where
 lo:0<=n.id
 hi:n.id<1024
 labels: ∀l∈n.labels,Gr.bC l=true
 props: ∀p∈n.props,Fa p
structure ajh (r:Gr.R):Prop where
 lo:0<=r.id
 hi:r.id<2048
 VN:0<=r.src
 VO:r.src<1024
 VP:0<=r.dst
 VQ:r.dst<1024
 name:Gr.bC r.type=true
 props: ∀p∈r.props,Fa p
theorem PD {α κ:Type} {key:α->κ} {R:κ->κ->Prop} (tr: ∀{a b c},R a b->R b c->R a c) {l:List α} (h: ∀(j:Nat) a,l[j]?=some a-> ∀q,Gr.aH key l j=some q->R q (key a)):l.Pairwise (fun a b=>R (key a) (key b)):=by
 have hs: ∀(d i:Nat) (hi:i<l.length) (hj:i+d+1<l.length),R (key l[i]) (key l[i+d+1]):=by
  intro d
  induction d with
  |zero=>intro i hi hj;exact h (i+1) _ (dF hj) _ (Gr.TU (dF hi))
  |succ d ih=>
   intro i hi hj
   exact tr (ih i hi (by omega)) (h (i+(d+1)+1) _ (dF hj) _ (Gr.TU (dF (by omega))))
 rw[af5];intro i j hi hj hij;have:=hs (j - i - 1) i hi (by omega)
 have e:i+(j - i - 1)+1=j:=by omega
 simp only[e]at this;exact this
theorem aat {α κ:Type} {key:α->κ} {lt:κ->κ->Prop} {le:κ->κ->Bool} {l l':List α} (hp:l'.Perm l) (h:l.Pairwise (fun a b=>lt (key a) (key b))) (h1: ∀a b,lt a b->le a b=true) (tr: ∀a b c,le a b=true->le b c=true->le a c=true) (tot: ∀a b,(le a b || le b a)=true)
  (no: ∀a b,lt a b->le b a=false):Gr.jd le key l'=l:=by
 unfold Gr.jd
 refine List.Perm.eq_of_pairwise (le:=fun a b=>le (key a) (key b)=true) ?_ (aoa (le:=fun a b=>le (key a) (key b)) (fun a b c=>tr (key a) (key b) (key c)) (fun a b=>tot (key a) (key b)) _) (h.imp (fun hx=>h1 _ _ hx)) ((afz _ _).trans hp)
 intro a b ha hb hab hba;have ha:=hp.mem_iff.1 ((afz _ _).mem_iff.1 ha)
 obtain⟨i,hi,rfl⟩:=afj ha;obtain⟨j,hj,rfl⟩:=afj hb;rw[af5]at h
 rcases aqZ i j with hlt|rfl|hgt
 ·rw[no _ _ (h i j hi hj hlt)]at hba;cases hba
 ·rfl
 rw[no _ _ (h j i hj hi hgt)]at hab;cases hab
theorem aau {α:Type} {key:α->Int} {l l':List α} (hp:l'.Perm l) (h:l.Pairwise (fun a b=>key a<key b)):Gr.jd (fun a b:Int=>decide (a<=b)) key l'=l:=
 aat (lt:=fun a b=>a<b) hp h (fun a b h=>adb (by omega)) (fun a b c h k=>adb (by have:=adN h;have:=adN k;omega))
  (fun a b=>by simp only[af7,aei];omega) (fun a b h=>ac5 (by omega))
theorem aav {α:Type} {key:α->L} {l l':List α} (hp:l'.Perm l) (h:l.Pairwise (fun a b=>key a<key b)):Gr.jd (fun a b:L=>decide (a<=b)) key l'=l:=
 aat (lt:=fun a b=>a<b) hp h (fun a b h=>adb (aoU h)) (fun a b c h k=>adb (apN (adN h) (adN k)))
  (fun a b=>by simp only[af7,aei];exact aq8 a b) (fun a b h=>ac5 (aq0.2 h))
theorem aaw {α κ:Type} {key:α->κ} {lt:κ->κ->Prop} (ir: ∀a,¬lt a a) {l:List α} (h:l.Pairwise (fun a b=>lt (key a) (key b))):(l.map key).Nodup:=by
 unfold List.Nodup;rw[anC]
 exact h.imp fun {a b} hx (e:key a=key b)=>ir (key b) (by rw[e]at hx;exact hx)
theorem Ip {ps:List Gr.P} (h:Gr.wS ps):ps.Pairwise (fun a b=>a.key<b.key):=PD (key:=Gr.P.key) (R:=fun a b=>a<b) arA fun j a ha q hq=>aq0.1 ((h.all j a ha).lt q hq)
theorem aax {ls:List L} (h:Gr.JV ls):ls.Pairwise (fun a b=>a<b):=PD (key:=id) (R:=fun a b=>a<b) arA fun j a ha q hq=>aq0.1 ((h.all j a ha).lt q hq)
theorem aay {ns:List Gr.N} (h:Gr.uZ ns):ns.Pairwise (fun a b=>a.id<b.id):=PD (key:=Gr.N.id) (R:=fun a b=>a<b) Int.lt_trans fun j a ha q hq=>(h.all j a ha).lt q hq
theorem aaz {ids:List Int} {rs:List Gr.R} (h:Gr.y9 ids rs):rs.Pairwise (fun a b=>a.id<b.id):=PD (key:=Gr.R.id) (R:=fun a b=>a<b) Int.lt_trans fun j a ha q hq=>(h.all j a ha).lt q hq
theorem aaA {ps:List Gr.P} (h:Gr.wS ps):(ps.map Gr.P.key).Nodup:=aaw (lt:=fun a b=>a<b) (fun a=>aoF a) (Ip h)
theorem aji {ls:List L} (h:Gr.JV ls):ls.Nodup:=by have:=aaw (key:=id) (lt:=fun a b=>a<b) (fun a=>aoF a) (aax h);rwa [aq3]at this
structure Fine (g:Gr.G):Prop where
 good:Gr.Good g
 nums: ∀p∈Gr.dX g,ak.In64 p.val.num/\ ∀n∈p.val.nums,ak.In64 n
theorem ajj {ls:List L} (h:Gr.JV ls): ∀l∈ls,Gr.bC l=true:=fun l hl=>by
 obtain⟨j,hj,e⟩:=afj hl;exact(h.all j l (by rw[dF hj,e])).name
theorem Iq {g:Gr.G} (h:Fine g) {ps:List Gr.P} (hg:Gr.wS ps) (hs: ∀p∈ps,p∈Gr.dX g): ∀p∈ps,Fa p:=fun p hp=>
 ⟨hg.name p hp,hg.val p hp,(h.nums p (hs p hp)).1,(h.nums p (hs p hp)).2⟩
structure ajk (n:Gr.N):Prop where
 good:ajg n
 labels:n.labels.Nodup
 keys:(n.props.map Gr.P.key).Nodup
 canon:Gr.ug n=n
structure ajl (n:Gr.R):Prop where
 good:ajh n
 keys:(n.props.map Gr.P.key).Nodup
 canon:Gr.uh n=n
theorem aaB {ps:List Gr.P} (h:Gr.wS ps):Gr.lS ps=ps:=aav (anN _) (Ip h)
theorem Fine.node {g:Gr.G} (h:Fine g) {n:Gr.N} (hn:n∈g.nodes):ajk n:=by
 obtain⟨_,hg⟩:=h.good.nodes.mem hn
 refine⟨⟨hg.lo,hg.hi,ajj hg.labels,Iq h hg.props fun p hp=>anB _ (ae9.2 ⟨n,hn,hp⟩)⟩,aji hg.labels,aaA hg.props, ?_⟩
 unfold Gr.ug Gr.pU;rw[aaB hg.props,aav (key:=id) (anN _) (aax hg.labels)]
theorem aaC {g:Gr.G} (h:Fine g) {x:Int} (hx:x∈g.nodes.map Gr.N.id):0<=x/\x<1024:=by
 obtain⟨n,hn,rfl⟩:=afK.1 hx;exact⟨(h.node hn).good.lo,(h.node hn).good.hi⟩
theorem Fine.rel {g:Gr.G} (h:Fine g) {n:Gr.R} (hn:n∈g.aA):ajl n:=by
 obtain⟨_,hg⟩:=h.good.aA.mem hn;have hs:=aaC h hg.src;have hd:=aaC h hg.dst
 refine⟨⟨hg.lo,hg.hi,hs.1,hs.2,hd.1,hd.2,hg.name,Iq h hg.props fun p hp=>aom _ (ae9.2 ⟨n,hn,hp⟩)⟩,aaA hg.props, ?_⟩
 unfold Gr.uh;rw[aaB hg.props]
structure Ll (v:ak.V):Prop where
 kin:1<=v.kind/\v.kind<=8
 num:ak.In64 v.num
 nums: ∀n∈v.nums,ak.In64 n
 tl:v.text.length<=16777216
 nl:v.nums.length<=16777216
 sl:v.texts.length<=16777216
 sz: ∀t∈v.texts,t.length<=16777216
structure Lm (p:Gr.P):Prop where
 key:p.key.length<=16777216
 val:Ll p.val
structure QC (n:Gr.N):Prop where
 lo:0<=n.id
 hi:n.id<1024
 ll:n.labels.length<=16777216
 ls: ∀l∈n.labels,l.length<=16777216
 pl:n.props.length<=16777216
 ps: ∀p∈n.props,Lm p
structure QD (n:Gr.R):Prop where
 lo:0<=n.id
 hi:n.id<2048
 tl:n.type.length<=16777216
 src:0<=n.src/\n.src<1024
 dst:0<=n.dst/\n.dst<1024
 pl:n.props.length<=16777216
 ps: ∀p∈n.props,Lm p
structure uD (g:Gr.G):Prop where
 ns: ∀n∈g.nodes,QC n
 rs: ∀n∈g.aA,QD n
 nd:(g.nodes.map Gr.N.id).Nodup
 rd:(g.aA.map Gr.R.id).Nodup
theorem aaD {α:Type} {l:List α} {a:α} (h:l.Nodup) (ha:a∉l):(l++[a]).Nodup:=by
 rw[aoq];exact⟨h,by simp,fun x hx y hy e=>ha (by rw[ael.1 hy]at e;rw[<-e];exact hx)⟩
theorem ajm:uD Gr.G0:=⟨by simp[Gr.G0],by simp[Gr.G0],by simp[Gr.G0],by simp[Gr.G0]⟩
theorem few {l:List Int} {m:Nat} (h: ∀x∈l,0<=x/\x<m) (hd:l.Nodup):l.length<=m:=by
 have h2:(l.map Int.toNat).Nodup:=by
  unfold List.Nodup;rw[anC]
  refine List.Pairwise.imp_of_mem (fun {a b} ha hb hab e=>hab ?_) hd
  have:=h a ha;have:=h b hb;omega
 have hs:=h2.length_le_of_subset (l₂:=List.range m) fun x hx=>by
  obtain⟨y,hy,rfl⟩:=afK.1 hx;have:=h y hy;exact anO.2 (by omega)
 rwa [adU,aq4]at hs
theorem uD.lens {g:Gr.G} (h:uD g):g.nodes.length<=1024/\g.aA.length<=2048:=by
 constructor
 ·have:=few (m:=1024) (fun x hx=>by obtain⟨n,hn,rfl⟩:=afK.1 hx;exact⟨(h.ns n hn).lo,(h.ns n hn).hi⟩) h.nd
  rwa [adU]at this
 have:=few (m:=2048) (fun x hx=>by obtain⟨n,hn,rfl⟩:=afK.1 hx;exact⟨(h.rs n hn).lo,(h.rs n hn).hi⟩) h.rd
 rwa [adU]at this
theorem PE {α κ:Type} (le:κ->κ->Bool) (key:α->κ) (l:List α):(Gr.jd le key l).Perm l:=afz _ _
theorem TY {g:Gr.G} (h:uD g):uD (Gr.canon g):=by
 have pn:=PE (fun a b:Int=>decide (a<=b)) Gr.N.id (g.nodes.map Gr.ug)
 have pr:=PE (fun a b:Int=>decide (a<=b)) Gr.R.id (g.aA.map Gr.uh)
 have pp:=fun ps:List Gr.P=>PE (fun a b:L=>decide (a<=b)) Gr.P.key ps
 refine⟨fun n hn=> ?_,fun n hn=> ?_, ?_, ?_⟩
 ·obtain⟨m,hm,rfl⟩:=afK.1 (pn.mem_iff.1 hn)
  have hz:=h.ns m hm;have pl:=PE (fun a b:L=>decide (a<=b)) id m.labels
  exact⟨hz.lo,hz.hi,adg (anh pl.length_eq) hz.ll,fun l hl=>hz.ls l (pl.mem_iff.1 hl),
   adg (anh (pp m.props).length_eq) hz.pl,fun p hp=>hz.ps p ((pp m.props).mem_iff.1 hp)⟩
 ·obtain⟨m,hm,rfl⟩:=afK.1 (pr.mem_iff.1 hn)
  have hz:=h.rs m hm
  exact⟨hz.lo,hz.hi,hz.tl,hz.src,hz.dst,adg (anh (pp m.props).length_eq) hz.pl,fun p hp=>hz.ps p ((pp m.props).mem_iff.1 hp)⟩
 ·refine(pn.map Gr.N.id).nodup_iff.2 ?_
  rw[agk];exact h.nd
 refine(pr.map Gr.R.id).nodup_iff.2 ?_;rw[agk];exact h.rd
end Go.Proofs.YtkdakckjafomhaaGreatDoor.Cy
namespace Go.Proofs.YtkdakckjafomhaaGreatDoor
open Go.RowKit
def bY {α:Type} (W:World) (B size:Nat) (R:α->List Value->Prop) (A:Option Addr) (l:List α):Prop:=
 ∀(i:Nat) (a:α),l[i]?=some a-> ∃b off cs,A=some ⟨b,off,none⟩/\b<B/\R a cs/\cs.length=size/\ ∀(j:Nat) u,cs[j]?=some u->W.cell? ⟨b,off+i*size+j,none⟩=some u
theorem bY.below {α:Type} {W W':World} {B size:Nat} {R R':α->List Value->Prop} {A:Option Addr} {l:List α} (h:bY W B size R A l) (hb:Below B W W') (hR: ∀a cs,R a cs->R' a cs):bY W' B size R' A l:=fun i a ha=>by
 obtain⟨b,off,cs,e,hlt,hr,hl,hc⟩:=h i a ha
 exact⟨b,off,cs,e,hlt,hR _ _ hr,hl,fun j u hu=>(hb.cell (by exact hlt)).trans (hc j u hu)⟩
theorem bY.more {α:Type} {W:World} {B B' size:Nat} {R R':α->List Value->Prop} {A:Option Addr} {l:List α} (h:bY W B size R A l) (hb:B<=B') (hR: ∀a cs,R a cs->R' a cs):bY W B' size R' A l:=fun i a ha=>by
 obtain⟨b,off,cs,e,hlt,hr,hl,hc⟩:=h i a ha;exact⟨b,off,cs,e,by omega,hR _ _ hr,hl,hc⟩
theorem bY.nil {α:Type} {W:World} {B size:Nat} {R:α->List Value->Prop} {A:Option Addr}:bY W B size R A []:=fun i a ha=>by simp at ha
theorem bY.dI {α:Type} {W:World} {base e size c:Nat} {R:α->List Value->Prop} {A:Option Addr} {l:List α} {f:α->List Value} (h:W.ownsRow base e size (.slice A l.length c) l.length (l.flatMap f)) (hf: ∀a∈l,(f a).length=size) (hR: ∀a∈l,R a (f a)):bY W W.heap.size size R A l:=fun i a ha=>by
 obtain⟨hi,hia⟩:=adw.1 ha;obtain⟨b,off,e,hb,hc⟩:=(Reads.dI h).2 (by omega)
 have hm:a∈l:=adI ha;refine⟨b,off,f a,e,hb,hR a hm,hf a hm,fun j u hu=> ?_⟩
 have hj:j<size:=by have:=(adw.1 hu).1;rw[hf a hm]at this;exact this
 have key: ∀(l:List α) (i:Nat) (a:α),(∀a∈l,(f a).length=size)->l[i]?=some a->(f a)[j]?=some u->(l.flatMap f)[i*size+j]?=some u:=by
  intro l
  induction l with
  |nil=>intro i a _ h;simp at h
  |cons x r ih=>
   intro i a hf h hu;rw[ae2];have hx:(f x).length=size:=hf x (by simp)
   cases i with
   |zero=>
    simp only[adn,aeK]at h;subst h;rw[anv,afW,aeZ (by omega)]
    exact hu
   |succ i=>
    rw[ae5 (by rw[hx,anj];omega)]
    have:=ih i a (fun a ha=>hf a (by simp[ha])) (by simpa using h) hu
    rw[hx,show(i+1)*size+j - size=i*size+j by rw[anj];omega]
    exact this
 have:=hc _ u (key l i a hf ha hu)
 rwa [<-amQ]at this
def aX (W:World) (B:Nat) (p:Gr.P) (cs:List Value):Prop:=
 ∃An cn At ct,cs=[ST p.key,.int .i64 p.val.kind,.int .i64 p.val.num,ST p.val.text,.slice An p.val.nums.length cn,.slice At p.val.texts.length ct]/\Reads W B 1 An p.val.nums.length (p.val.nums.map I64)/\Reads W B 1 At p.val.texts.length (p.val.texts.map ST)
def iO (W:World) (B:Nat) (n:Gr.N) (cs:List Value):Prop:=
 ∃Al cl Ap cp,cs=[.int .i64 n.id,.slice Al n.labels.length cl,.slice Ap n.props.length cp]/\Reads W B 1 Al n.labels.length (n.labels.map ST)/\bY W B 6 (aX W B) Ap n.props
def iP (W:World) (B:Nat) (r:Gr.R) (cs:List Value):Prop:=
 ∃Ap cp,cs=[.int .i64 r.id,ST r.type,.int .i64 r.src,.int .i64 r.dst,.slice Ap r.props.length cp]/\bY W B 6 (aX W B) Ap r.props
theorem aX.below {W W':World} {B:Nat} (hb:Below B W W') (p:Gr.P) (cs:List Value) (h:aX W B p cs):aX W' B p cs:=by
 obtain⟨An,cn,At,ct,e,h1,h2⟩:=h;exact⟨An,cn,At,ct,e,h1.below hb,h2.below hb⟩
theorem iO.below {W W':World} {B:Nat} (hb:Below B W W') (n:Gr.N) (cs:List Value) (h:iO W B n cs):iO W' B n cs:=by
 obtain⟨Al,cl,Ap,cp,e,h1,h2⟩:=h
 exact⟨Al,cl,Ap,cp,e,h1.below hb,h2.below hb (aX.below hb)⟩
theorem iP.below {W W':World} {B:Nat} (hb:Below B W W') (r:Gr.R) (cs:List Value) (h:iP W B r cs):iP W' B r cs:=by
 obtain⟨Ap,cp,e,h2⟩:=h;exact⟨Ap,cp,e,h2.below hb (aX.below hb)⟩
theorem aX.more {W:World} {B B':Nat} (hb:B<=B') (p:Gr.P) (cs:List Value) (h:aX W B p cs):aX W B' p cs:=by
 obtain⟨An,cn,At,ct,e,h1,h2⟩:=h;exact⟨An,cn,At,ct,e,h1.more hb,h2.more hb⟩
theorem iO.more {W:World} {B B':Nat} (hb:B<=B') (n:Gr.N) (cs:List Value) (h:iO W B n cs):iO W B' n cs:=by
 obtain⟨Al,cl,Ap,cp,e,h1,h2⟩:=h;exact⟨Al,cl,Ap,cp,e,h1.more hb,h2.more hb (aX.more hb)⟩
theorem iP.more {W:World} {B B':Nat} (hb:B<=B') (r:Gr.R) (cs:List Value) (h:iP W B r cs):iP W B' r cs:=by
 obtain⟨Ap,cp,e,h2⟩:=h;exact⟨Ap,cp,e,h2.more hb (aX.more hb)⟩
structure uF (p:Gr.P):Prop where
 key:p.key.length<=1073741824
 val:IX p.val
structure QE (n:Gr.N):Prop where
 id:ak.In64 n.id
 ll:n.labels.length<=1073741824
 ls: ∀l∈n.labels,l.length<=1073741824
 pl:n.props.length<=1073741824
 ps: ∀p∈n.props,uF p
structure VR (r:Gr.R):Prop where
 id:ak.In64 r.id
 tl:r.type.length<=1073741824
 src:ak.In64 r.src
 dst:ak.In64 r.dst
 pl:r.props.length<=1073741824
 ps: ∀p∈r.props,uF p
structure DT (g:Gr.G):Prop where
 nl:g.nodes.length<=1073741824
 ns: ∀n∈g.nodes,QE n
 rl:g.aA.length<=1073741824
 rs: ∀r∈g.aA,VR r
structure jQ (W:World) (B:Nat) (u:Value) (g:Gr.G):Prop where
 ex: ∃An cn Ar cr,u=.agg #[.slice An g.nodes.length cn,.slice Ar g.aA.length cr]/\bY W B 3 (iO W B) An g.nodes/\bY W B 5 (iP W B) Ar g.aA
 ok:DT g
theorem jQ.below {W W':World} {B:Nat} {u:Value} {g:Gr.G} (h:jQ W B u g) (hb:Below B W W'):jQ W' B u g:=by
 obtain⟨An,cn,Ar,cr,e,h1,h2⟩:=h.ex
 exact⟨⟨An,cn,Ar,cr,e,h1.below hb (iO.below hb),h2.below hb (iP.below hb)⟩,h.ok⟩
theorem jQ.more {W:World} {B B':Nat} {u:Value} {g:Gr.G} (h:jQ W B u g) (hb:B<=B'):jQ W B' u g:=by
 obtain⟨An,cn,Ar,cr,e,h1,h2⟩:=h.ex
 exact⟨⟨An,cn,Ar,cr,e,h1.more hb (iO.more hb),h2.more hb (iP.more hb)⟩,h.ok⟩
theorem kR.of_below {T:TypeId} {A B:World} (h:Below A.heap.size A B):kR T A B:=
 ⟨h.size,fun k c fz hk=>(h.block k (adZ.1 hk).1).trans hk⟩
theorem aaE {α:Type} {P:Program} (T:TypeId) {g:Operand} {ps:Array Tmp} {assign body:Code} {Q:Exit->Act->World->Prop} {a:Act} {w:World}
  {gf:Nat} {lb:Array Value} (hg:a.eval g=.func (.func gf) #[] lb) (eg: ∀args w,(callFunc gf args).run P w=.ok (.enter gf args) w)
  {encs:α->Array Value} (hps: ∀x,(encs x).size=ps.size) {Pre:α->World->World->Prop} {Step:List α->α->Prop} {End:List α->Prop} {FU:World->Prop}
  (a₁:α->World->Act) (w₁:α->World->World) (hw₁: ∀x W,Below W.heap.size W (w₁ x W))
  (La: ∀x W0 W l r r',Pre x W0 W->(w₁ x W).heap[l]?=some (.loop r)->Pre x W0 ((w₁ x W).putObj l (.loop r')))
  (hiter: ∀W1,Below w.heap.size w W1->w.heap.size<=W1.heap.size->Pj P T w.heap.size gf lb encs Pre Step End FU W1)
  (I:List α->World->Prop) (Ix:Code->World->Prop) (hI: ∀pre A B,I pre A->aT T w.heap.size A B->I pre B) (hIx: ∀c A B,Ix c A->aT T w.heap.size A B->Ix c B) (hAux: ∀pre W,I pre W->FU W) (h0:I [] w)
  (hassign: ∀(l:Nat) (x:α) (W:World) (K:Act->World->Prop),K (a₁ x W) (w₁ x W)->
   assign.wpIn (Fence.wide.inRound l) 7 P (Exit.then K (fun _ _ _=>False)) {tmps:=(ps.zip (encs x)).foldl (fun t (p,v)=>t.setIfInBounds p v) a.tmps,defers:=[]} W)
  (hbody: ∀(l:Nat) (pre:List α) (x:α) (W0 Wa W:World),I pre W0->aT T w.heap.size W0 Wa->aT T w.heap.size Wa W->(∀(b:Nat) (t:TypeId) (c:Array Value),au (w₁ x Wa) b t c->au W b t c)->W.heap.size=(w₁ x Wa).heap.size->Pre x W0 W->Step pre x->w.heap.size<=l->w.heap.size<=W0.heap.size->
   body.wpIn (Fence.wide.inRound l) 7 P (aad w.heap.size T I Ix (pre++[x]) W) (a₁ x Wa) W)
  (hdone: ∀(D:Nat) (xs:List α) (W:World),w.heap.size<=D->End xs->I xs W->W.heap[D]?=some (.deferred (some []))->Q .normal {a with defers:={target:=.collected D,args:= #[]} :: a.defers} W)
  (hstop: ∀(D:Nat) (c:Code) (W:World),w.heap.size<=D->Ix c W->W.heap[D]?=some (.deferred (some []))->c.wpIn Fence.wide 9 P Q {a with defers:={target:=.collected D,args:= #[]} :: a.defers} W):
  (Code.rangeFunc g ps assign body).wpIn Fence.wide 9 P Q a w:=by
 refine wpIn_rangeFunc ?_;intro fn hfn;have hro:Fence.wide.round=none:=rfl;rw[hro]
 obtain⟨rec,hrec⟩: ∃rec:LoopState->Option Code->Loop,rec=fun st pe=>{state:=st,pending:=pe,fn,tmps:=a.tmps,params:=ps,assign,body,defers:=w.heap.size}:=⟨_,rfl⟩
 obtain⟨W1,hW1⟩:=aj ((w.alloc (.deferred (some []))).alloc (.loop (rec .ready none)))
 have hL1:W1.heap[w.heap.size+1]?=some (.loop (rec .ready none)):=by
  rw[<-hW1];have:=World.alloc_heap_new (w.alloc (.deferred (some []))) (.loop (rec .ready none));rwa [World.size_alloc]at this
 have hK1:W1.heap[w.heap.size]?=some (.deferred (some [])):=by
  rw[<-hW1];exact(Below.heap_alloc _ _ _ (by simp)).trans (World.alloc_heap_new w _)
 have hb1:Below w.heap.size w W1:=by
  rw[<-hW1];exact((Below.refl _ w).alloc (ac4 _) _).alloc (by simp) _
 have hs1:W1.heap.size=w.heap.size+2:=by rw[<-hW1];simp
 have hI1:I [] W1:=hI _ _ _ h0 (.of_below hb1)
 have wide: ∀{A B:World},aT T W1.heap.size A B->aT T w.heap.size A B:=fun h=>⟨h.os,h.tape,h.output,h.size,fun k hk hA=>h.low k (by omega) hA,h.block⟩
 refine⟨w.heap.size+1,[{target:=.collected w.heap.size,args:= #[]}],W1,{target:=.fn (.func gf) lb,args:= #[.func (.yield (w.heap.size+1)) #[] #[]]},W1,gf,
  #[.func (.yield (w.heap.size+1)) #[] #[]]++lb,W1, ?_, ?_, ?_, ?_,fun _=>by omega, ?_⟩
 ·rw[<-hW1,hrec];exact run_enterLoop_outer _ _ _ _ _
 ·simp only[resolve,hg]
  simp[go_sem]
 ·intro f' hf';exact trivial
 ·simp[invoke,go_sem,eg]
 have book: ∀{A B:World},aT T W1.heap.size A B->A.heap[w.heap.size+1]?=some (.loop (rec .ready none))->A.heap[w.heap.size]?=some (.deferred (some []))->
   B.heap[w.heap.size+1]?=some (.loop (rec .ready none))/\B.heap[w.heap.size]?=some (.deferred (some [])):=fun h h1 h2=>
  ⟨(h.low _ (by omega) (adZ.1 h1).1).trans h1,(h.low _ (by omega) (adZ.1 h2).1).trans h2⟩
 refine(hiter W1 hb1 (by omega) (w.heap.size+1)
  (fun pre W=>I pre W/\W.heap[w.heap.size+1]?=some (.loop (rec .ready none))/\W.heap[w.heap.size]?=some (.deferred (some [])))
  (fun W=>(∃pre,End pre/\I pre W/\W.heap[w.heap.size+1]?=some (.loop (rec .ready none))/\W.heap[w.heap.size]?=some (.deferred (some [])))\/
   ∃c,Ix c W/\W.heap[w.heap.size+1]?=some (.loop (rec .done (some c)))/\W.heap[w.heap.size]?=some (.deferred (some [])))
  (fun pre W h=>hAux pre W h.1) ?_ ?_ ?_ ⟨hI1,hL1,hK1⟩).mono ?_
 ·rintro pre A B ⟨h1,h2,h3⟩ h
  exact⟨hI _ _ _ h1 (wide h),book h h2 h3⟩
 ·
  rintro pre x W0 W ⟨hi,hl0,hk0⟩ hsame hpre hstep;obtain⟨hl,hk⟩:=book hsame hl0 hk0
  have hlt:w.heap.size+1<W.heap.size:=(adZ.1 hl).1
  have hy:=run_yield (P:=P) (args:=encs x) hl (by rw[hrec];exact hps x)
  rw[hrec]at hy;have AY:=hw₁ x W;obtain⟨WA,I8⟩:=aj (w₁ x W);rw[I8]at AY
  have hl':WA.heap[w.heap.size+1]?=some (.loop (rec .ready none)):=(AY.block _ hlt).trans hl
  have hk':WA.heap[w.heap.size]?=some (.deferred (some [])):=(AY.block _ (by omega)).trans hk
  have anl:w.heap.size+1<WA.heap.size:=adW hlt AY.size
  refine⟨fn,_,assign,body,hy,roundIn_of_wpIn trivial (hassign _ x W _ ?_)⟩;rw[I8]
  refine⟨_,run_beginRound hl' (by rw[hrec]), ?_⟩
  have hl2:(WA.putObj (w.heap.size+1) (.loop {rec .ready none with state:=.busy})).heap[w.heap.size+1]?=some (.loop {rec .ready none with state:=.busy}):=World.putObj_heap_same anl
  have hk2:(WA.putObj (w.heap.size+1) (.loop {rec .ready none with state:=.busy})).heap[w.heap.size]?=some (.deferred (some [])):=(World.putObj_heap_other (by omega)).trans hk'
  have hs2:aT T w.heap.size W (WA.putObj (w.heap.size+1) (.loop {rec .ready none with state:=.busy})):=(aT.of_below AY).trans (aT.putObj _ hl' (by omega))
  have hblk: ∀(b:Nat) (t:TypeId) (c:Array Value),au (w₁ x W) b t c->au (WA.putObj (w.heap.size+1) (.loop {rec .ready none with state:=.busy})) b t c:=fun b t c h=>by
   rw[I8]at h
   exact(World.putObj_heap_other (fun e=>by subst e;unfold au at h;rw[hl']at h;cases h)).trans h
  refine wpIn_mono (hbody _ pre x W0 W _ hi (wide hsame) hs2 hblk (by rw[I8];simp[World.putObj]) (by have:=La x W0 W (w.heap.size+1) _ {rec .ready none with state:=.busy} hpre (by rw[I8];exact hl');rw[I8]at this;exact this) hstep (by omega) (by have:=(adZ.1 hl0).1;omega)) ?_
  have fin: ∀(jump:Option Code) (W3:World),KeepsFrom w.heap.size (WA.putObj (w.heap.size+1) (.loop {rec .ready none with state:=.busy})) W3->
    (Instr.endRound (w.heap.size+1) jump).run P W3=.ok (.bool jump.isNone) (W3.putObj (w.heap.size+1) (.loop (rec (if jump.isNone then .ready else .done) jump)))/\
    W3.heap[w.heap.size+1]?=some (.loop {rec .ready none with state:=.busy})/\
    (W3.putObj (w.heap.size+1) (.loop (rec (if jump.isNone then .ready else .done) jump))).heap[w.heap.size+1]?=some (.loop (rec (if jump.isNone then .ready else .done) jump))/\
    (W3.putObj (w.heap.size+1) (.loop (rec (if jump.isNone then .ready else .done) jump))).heap[w.heap.size]?=some (.deferred (some [])):=fun jump W3 hk3=>by
   have hl3:=hk3.same _ _ (by omega) hl2 rfl
   have:=run_endRound (P:=P) jump hl3;rw[hrec]at this⊢
   exact⟨this,by rw[hrec]at hl3;exact hl3,World.putObj_heap_same (adZ.1 hl3).1,(World.putObj_heap_other (by omega)).trans (hk3.same _ _ (ac4 _) hk2 rfl)⟩
  have Lc: ∀(V:World) (r r':Loop),V.heap[w.heap.size+1]?=some (.loop r)->kR T V (V.putObj (w.heap.size+1) (.loop r')):=fun V r r' h=>
   ⟨by simp[World.putObj],fun k c fz hc=>(World.putObj_heap_other (fun e=>by subst e;rw[h]at hc;cases hc)).trans hc⟩
  rintro e a3 W3 hp;cases e with
  |normal=>
   obtain⟨hk3,hkp3,hi3⟩:=hp;obtain⟨hr,hl3,hl4,hk4⟩:=fin none W3 hk3
   exact⟨_,_,hr,.inl ⟨rfl,⟨hI _ _ _ hi3 (aT.putObj _ hl3 (by omega)),hl4,hk4⟩,(kR.of_below AY).trans ((Lc WA _ _ hl').trans (hkp3.trans (Lc W3 _ _ hl3)))⟩⟩
  |ret=>
   obtain⟨hk3,hi3⟩:=hp;obtain⟨hr,hl3,hl4,hk4⟩:=fin (some .ret) W3 hk3
   exact⟨_,_,hr,.inr ⟨rfl,.inr ⟨.ret,hIx _ _ _ hi3 (aT.putObj _ hl3 (by omega)),hl4,hk4⟩⟩⟩
  |exit id=>
   obtain⟨hk3,hi3⟩:=hp;obtain⟨hr,hl3,hl4,hk4⟩:=fin (some (.exit id)) W3 hk3
   exact⟨_,_,hr,.inr ⟨rfl,.inr ⟨.exit id,hIx _ _ _ hi3 (aT.putObj _ hl3 (by omega)),hl4,hk4⟩⟩⟩
  |goto t=>
   obtain⟨hk3,hi3⟩:=hp;obtain⟨hr,hl3,hl4,hk4⟩:=fin (some (.goto t)) W3 hk3
   exact⟨_,_,hr,.inr ⟨rfl,.inr ⟨.goto t,hIx _ _ _ hi3 (aT.putObj _ hl3 (by omega)),hl4,hk4⟩⟩⟩
  |panic ch=>exact hp.elim
  |outgrown=>exact hp.elim
 ·rintro pre W ⟨h1,h2,h3⟩ hend
  exact .inl ⟨pre,hend,h1,h2,h3⟩
 rintro e W2 ⟨⟨v,rfl⟩,(⟨xs,hend,hi,hl,hk⟩|⟨c,hi,hl,hk⟩)⟩
 ·exact⟨none,_,by have:=run_endLoop (P:=P) hl (by rw[hrec];simp);rw[hrec]at this;exact this,hdone _ xs _ (ac4 _) hend (hI _ _ _ hi (aT.putObj _ hl (by omega))) ((World.putObj_heap_other (by omega)).trans hk)⟩
 exact⟨some c,_,by have:=run_endLoop (P:=P) hl (by rw[hrec];simp);rw[hrec]at this;exact this,hstop _ c _ (ac4 _) (hIx _ _ _ hi (aT.putObj _ hl (by omega))) ((World.putObj_heap_other (by omega)).trans hk)⟩
end Go.Proofs.YtkdakckjafomhaaGreatDoor
namespace Go.Proofs.YtkdakckjafomhaaGreatDoor
open Go Go.RowKit
variable {P:Program} {md:Region.Mode} {ops:Array Oper} {C:World->Prop}
def wide (w:World) (n:Nat) (os:Array Obj):World:={w with drawn:=n,heap:=w.heap++os}
structure Ir where
 n:Nat
 os:Array Obj
instance:Inhabited Ir:=⟨⟨0,#[]⟩⟩
theorem Ua (w:World) (n:Nat) (os:Array Obj):w.heap.size<=(wide w n os).heap.size:=by unfold wide;rw[Array.size_append];omega
theorem JW (w:World) (n:Nat) (os:Array Obj):Below w.heap.size w (wide w n os):=⟨rfl,rfl,rfl,Ua w n os,fun k hk=>by unfold wide;exact aoA hk⟩
theorem vg {w:World} {a:Addr} {v:Value} (hb:a.block<w.heap.size) (h:w.cell? a=some v) (n:Nat) (os:Array Obj):(wide w n os).cell? a=some v:=by rw[<-h];exact(JW w n os).cell hb
theorem aaF {w w':World} (h:Below w.heap.size w w'): ∃p:Ir,w'=wide w p.n p.os:=by
 refine⟨⟨w'.drawn,w'.heap.extract w.heap.size w'.heap.size⟩, ?_⟩
 have hh:w'.heap=w.heap++w'.heap.extract w.heap.size w'.heap.size:=by
  refine Array.ext_getElem? fun i=> ?_
  rcases am5 i w.heap.size with hi|hi
  ·rw[aoA hi,h.block i hi]
  rw[Array.getElem?_append_right hi,Array.getElem?_extract];have:=h.size
  split
  ·congr 1;omega
  exact aog (by omega)
 have h1:=h.os;have h2:=h.tape;have h3:=h.output;cases w';cases w;simp only[wide] at*
 subst h1 h2 h3;rw[<-hh]
theorem ajn {f:FuncId} {args:Array Value} {w:World} {n:Nat} {os:Array Obj} {v:Value} (h:Calls P f args (wide w n os) fun e w'=>e=.returned v/\Below (wide w n os).heap.size (wide w n os) w'):
  Calls P f args (wide w n os) fun e w'=>e=.returned v/\ ∃p:Ir,w'=wide w p.n p.os:=
 h.mono fun _ _ ⟨he,hb⟩=>⟨he,aaF ((JW w n os).trans (hb.mono (Ua w n os)))⟩
theorem ajo {id:Nat} {Q:Exit->Act->World->Prop} {a:Act} {w:World} {l:List Oper} (hm:P.follows .mixedOrders=true) (hB:Region.lexB .any l.toArray=true)
  (h:wpQuiet P l.toArray (fun w'=> ∃p:Ir,w'=wide w p.n p.os) (fun a'=> ∀w',(∃p:Ir,w'=wide w p.n p.os)->Q .normal a' w') l a):(Code.region id l.toArray true).wp P Q a w:=
 wp_region_quiet (C:=fun w'=> ∃p:Ir,w'=wide w p.n p.os) hm hB (aaF ⟨rfl,rfl,rfl,ac4 _,fun _ _=>rfl⟩) (by simpa using h)
end Go.Proofs.YtkdakckjafomhaaGreatDoor
namespace Go.Proofs.YtkdakckjafomhaaGreatDoor
open Go.RowKit
attribute [local go_sem] Oper.semAt_some
def hv (kd:Nat) (m:List UInt8):List Lex.Tok->Option (List Lex.Tok)
 |[]=>none
 |t :: r=>if t.kind=kd/\t.text=m then some r else none
end Go.Proofs.YtkdakckjafomhaaGreatDoor
