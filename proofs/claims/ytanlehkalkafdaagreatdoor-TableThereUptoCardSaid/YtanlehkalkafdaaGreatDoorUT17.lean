/- Contracts and plain laws,part 17. -/
import Derived.Test.YtanlehkalkafdaaGreatDoorUT16
set_option linter.all false
namespace Go.Proofs.YtanlehkalkafdaaGreatDoor.Gr
open Go
theorem prevAt_succ {κ α:Type} (key:α->κ) (l:List α) (k:Nat):prevAt key l (k+1)=l[k]?.map key:=rfl
theorem prevAt_some {κ α:Type} {key:α->κ} {l:List α} {k:Nat} {a:α} (h:l[k]?=some a):prevAt key l (k+1)=some (key a):=by rw [prevAt_succ,h];rfl
structure PropGood (prev:Option L) (p:P):Prop where
 name:goodName p.key=true
 lt: ∀q,prev=some q-> ¬p.key<=q
 val:Cel.check p.val=0
theorem propWrong_zero {prev:Option L} {p:P}:propWrong prev p=0↔PropGood prev p:=by
 unfold propWrong
 constructor
 ·intro h
  split at h
  ·omega
  rename_i h1
  split at h
  ·omega
  rename_i h2;refine ⟨by simpa using h1,fun q hq=> ?_,h⟩
  subst hq
  simpa using h2
 intro h;rw [kU (by rw [h.name];decide),kU,h.val]
 cases prev with
 | none=>simp
 | some q=>simpa using h.lt q rfl
structure PropsGood (ps:List P):Prop where
 len:ps.length<=16
 all: ∀(j:Nat) p,ps[j]?=some p->PropGood (prevAt P.key ps j) p
theorem propsWrong_zero {ps:List P}:propsWrong ps=0↔PropsGood ps:=by
 unfold propsWrong
 constructor
 ·intro h
  split at h
  ·omega
  exact ⟨by omega,fun j p hp=>propWrong_zero.1 (first_all propWrong P.key h j p hp)⟩
 intro h
 rw [kU (by have:=h.len;omega),first_zero propWrong P.key fun j p hp=>propWrong_zero.2 (h.all j p hp)]
theorem PropsGood.val {ps:List P} (h:PropsGood ps): ∀p∈ps,Cel.check p.val=0:=fun p hp=>by
 obtain ⟨j,hj,e⟩:=nS hp;exact (h.all j p (by rw [ak hj,e])).val
theorem PropsGood.name {ps:List P} (h:PropsGood ps): ∀p∈ps,goodName p.key=true:=fun p hp=>by
 obtain ⟨j,hj,e⟩:=nS hp;exact (h.all j p (by rw [ak hj,e])).name
structure LabelGood (prev:Option L) (l:L):Prop where
 name:goodName l=true
 lt: ∀q,prev=some q-> ¬l<=q
theorem labelWrong_zero {prev:Option L} {l:L}:labelWrong prev l=0↔LabelGood prev l:=by
 unfold labelWrong
 constructor
 ·intro h
  split at h
  ·omega
  rename_i h1
  split at h
  ·omega
  rename_i h2;refine ⟨by simpa using h1,fun q hq=> ?_⟩
  subst hq
  simpa using h2
 intro h;rw [kU (by rw [h.name];decide),kU]
 cases prev with
 | none=>simp
 | some q=>simpa using h.lt q rfl
structure LabelsGood (ls:List L):Prop where
 len:ls.length<=8
 all: ∀(j:Nat) l,ls[j]?=some l->LabelGood (prevAt id ls j) l
theorem labelsWrong_zero {ls:List L}:labelsWrong ls=0↔LabelsGood ls:=by
 unfold labelsWrong
 constructor
 ·intro h
  split at h
  ·omega
  exact ⟨by omega,fun j p hp=>labelWrong_zero.1 (first_all labelWrong id h j p hp)⟩
 intro h
 rw [kU (by have:=h.len;omega),first_zero labelWrong id fun j p hp=>labelWrong_zero.2 (h.all j p hp)]
structure NodeGood (prev:Option Int) (n:N):Prop where
 lo:0<=n.id
 hi:n.id<1024
 lt: ∀q,prev=some q->q<n.id
 labels:LabelsGood n.labels
 props:PropsGood n.props
theorem nodeWrong_zero {prev:Option Int} {n:N}:nodeWrong prev n=0↔NodeGood prev n:=by
 unfold nodeWrong
 constructor
 ·intro h
  split at h
  ·omega
  rename_i h1
  split at h
  ·omega
  rename_i h2
  split at h
  ·rename_i h3;exact absurd h h3
  rename_i h3
  refine ⟨by omega,by omega,fun q hq=> ?_,labelsWrong_zero.1 (Decidable.not_not.1 h3),propsWrong_zero.1 h⟩
  subst hq;simp at h2;omega
 intro h
 rw [kU (by have:=h.lo;have:=h.hi;omega),kU,kU (by rw [labelsWrong_zero.2 h.labels];decide),propsWrong_zero.2 h.props]
 cases prev with
 | none=>simp
 | some q=>have:=h.lt q rfl;simp;omega
structure RelGood (ids:List Int) (prev:Option Int) (r:R):Prop where
 lo:0<=r.id
 hi:r.id<2048
 lt: ∀q,prev=some q->q<r.id
 name:goodName r.type=true
 src:r.src∈ids
 dst:r.dst∈ids
 props:PropsGood r.props
theorem relWrong_zero {ids:List Int} {prev:Option Int} {r:R}:relWrong ids prev r=0↔RelGood ids prev r:=by
 unfold relWrong
 constructor
 ·intro h
  split at h
  ·omega
  rename_i h1
  split at h
  ·omega
  rename_i h2
  split at h
  ·omega
  rename_i h3
  split at h
  ·omega
  rename_i h4;simp only [sG,Decidable.not_not] at h4
  refine ⟨by omega,by omega,fun q hq=> ?_,by simpa using h3,h4.1,h4.2,propsWrong_zero.1 h⟩
  subst hq;simp at h2;omega
 intro h
 rw [kU (by have:=h.lo;have:=h.hi;omega),kU,kU (by rw [h.name];decide),kU (by simp [h.src,h.dst]),propsWrong_zero.2 h.props]
 cases prev with
 | none=>simp
 | some q=>have:=h.lt q rfl;simp;omega
theorem up_ge {α:Type} {key:α->Int} {l:List α} (h: ∀(j:Nat) a,l[j]?=some a->0<=key a/\ ∀q,prevAt key l j=some q->q<key a): ∀(j:Nat) a,l[j]?=some a->(j:Int)<=key a
 | 0,a,ha=>(h 0 a ha).1
 | j+1,a,ha=>by
  have hj:j<l.length:=by have:=(lK.1 ha).1;omega
  have hb:=ak hj;have:=up_ge h j _ hb;have:=(h (j+1) a ha).2 _ (prevAt_some hb);omega
theorem up_len {α:Type} {key:α->Int} {l:List α} {m:Nat} (h: ∀(j:Nat) a,l[j]?=some a->0<=key a/\ ∀q,prevAt key l j=some q->q<key a) (hm: ∀a∈l,key a<m):l.length<=m:=by
 rcases qj m l.length with hlt | hge
 ·have hb:=ak hlt
  have:=up_ge h m _ hb;have:=hm _ (lS hb);omega
 exact hge
theorem sum_flat {α β:Type} {f:α->List β} {c:Nat}: ∀{l:List α},(∀a∈l,(f a).length<=c)->(l.flatMap f).length<=c*l.length
 | [],_=>by simp
 | a :: l,h=>by
  have:=sum_flat fun b hb=>h b (mX.2 (.inr hb))
  have:=h a (mX.2 (.inl rfl));simp only [ny,kW,lF];rw [Nat.mul_succ];omega
structure NodesGood (ns:List N):Prop where
 all: ∀(j:Nat) n,ns[j]?=some n->NodeGood (prevAt N.id ns j) n
structure RelsGood (ids:List Int) (rs:List R):Prop where
 all: ∀(j:Nat) r,rs[j]?=some r->RelGood ids (prevAt R.id rs j) r
theorem NodesGood.mem {ns:List N} (h:NodesGood ns) {n:N} (hn:n∈ns): ∃prev,NodeGood prev n:=by
 obtain ⟨j,hj,e⟩:=nS hn;exact ⟨_,h.all j n (by rw [ak hj,e])⟩
theorem RelsGood.mem {ids:List Int} {rs:List R} (h:RelsGood ids rs) {r:R} (hn:r∈rs): ∃prev,RelGood ids prev r:=by
 obtain ⟨j,hj,e⟩:=nS hn;exact ⟨_,h.all j r (by rw [ak hj,e])⟩
theorem NodesGood.len {ns:List N} (h:NodesGood ns):ns.length<=1024:=
 up_len (key:=N.id) (fun j a ha=>⟨(h.all j a ha).lo,(h.all j a ha).lt⟩) (fun a ha=>by obtain ⟨_,hg⟩:=h.mem ha;exact hg.hi)
theorem RelsGood.len {ids:List Int} {rs:List R} (h:RelsGood ids rs):rs.length<=2048:=
 up_len (key:=R.id) (fun j a ha=>⟨(h.all j a ha).lo,(h.all j a ha).lt⟩) (fun a ha=>by obtain ⟨_,hg⟩:=h.mem ha;exact hg.hi)
theorem NodesGood.labels_len {ns:List N} (h:NodesGood ns):(ns.flatMap N.labels).length<=8192:=by
 have:=sum_flat (f:=N.labels) (l:=ns) (c:=8) fun n hn=>by obtain ⟨_,hg⟩:=h.mem hn;exact hg.labels.len
 have:=h.len;omega
theorem props_len {g:G} (h:NodesGood g.nodes) {ids:List Int} (k:RelsGood ids g.rels):(allProps g).length<=49152:=by
 have h1:=sum_flat (f:=N.props) (l:=g.nodes) (c:=16) fun n hn=>by obtain ⟨_,hg⟩:=h.mem hn;exact hg.props.len
 have h2:=sum_flat (f:=R.props) (l:=g.rels) (c:=16) fun n hn=>by obtain ⟨_,hg⟩:=k.mem hn;exact hg.props.len
 have:=h.len;have:=k.len;unfold allProps;rw [kW];omega
theorem props_val {g:G} (h:NodesGood g.nodes) {ids:List Int} (k:RelsGood ids g.rels): ∀p∈allProps g,Cel.check p.val=0:=fun p hp=>by
 unfold allProps at hp
 rcases lW.1 hp with hp | hp
 ·obtain ⟨n,hn,hq⟩:=nM.1 hp
  obtain ⟨_,hg⟩:=h.mem hn;exact hg.props.val p hq
 obtain ⟨n,hn,hq⟩:=nM.1 hp;obtain ⟨_,hg⟩:=k.mem hn;exact hg.props.val p hq
structure Good (g:G):Prop where
 nodes:NodesGood g.nodes
 rels:RelsGood (g.nodes.map N.id) g.rels
 names:(dedup (names1 g)).length<=200/\(dedup (names2 g)).length<=200/\(dedup (names3 g)).length<=200
 weight:weight g<=262144
theorem check_place {g:G} (h:(check g).1=0):check g=(0,0):=by
 unfold check at h⊢
 split at h
 ·rename_i h1;exact absurd h h1
 rename_i h1;rw [kU h1]
 split at h
 ·rename_i h2;exact absurd h h2
 rename_i h2;rw [kU h2]
 split at h
 ·cases h
 rename_i h3;rw [kU h3]
 split at h
 ·cases h
 rename_i h4;rw [kU h4]
theorem check_good {g:G}:(check g).1=0↔Good g:=by
 unfold check
 constructor
 ·intro h
  split at h
  ·rename_i h1;exact absurd h h1
  rename_i h1
  split at h
  ·rename_i h2;exact absurd h h2
  rename_i h2
  split at h
  ·cases h
  rename_i h3
  split at h
  ·cases h
  rename_i h4
  refine ⟨⟨fun j n hn=>nodeWrong_zero.1 (first_all nodeWrong N.id (Decidable.not_not.1 h1) j n hn)⟩,⟨fun j r hr=>relWrong_zero.1 (first_all _ R.id (Decidable.not_not.1 h2) j r hr)⟩,by omega,by omega⟩
 intro h
 rw [kU (by rw [first_zero nodeWrong N.id fun j n hn=>nodeWrong_zero.2 (h.nodes.all j n hn)];decide),
  kU (by rw [first_zero _ R.id fun j r hr=>relWrong_zero.2 (h.rels.all j r hr)];decide),kU (by have:=h.names;omega),kU (by have:=h.weight;omega)]
end Go.Proofs.YtanlehkalkafdaaGreatDoor.Gr
namespace Go.Proofs.YtanlehkalkafdaaGreatDoor.Cy
open Go
abbrev C:=Nat×L×Int
def core (t:Lex.Tok):C:=(t.kind,t.text,t.num)
def Rds (s:L) (cs:List C):Prop:= ∀i,(Lex.body s i).1.map core=cs/\(Lex.body s i).2=none
theorem Rds.nil:Rds [] []:=fun i=>by rw [Lex.body_end i rfl];exact ⟨rfl,rfl⟩
theorem Rds.tok {l r:L} {k:Nat} {t:L} {n:Int} {m:Nat} {cs:List C} (hg:Lex.gap false l=0) (ht:Lex.tok1 l= .tok k t n m) (hd:l.drop m=r) (h:Rds r cs):Rds l ((k,t,n) :: cs):=fun i=>by
 subst hd;rw [Lex.body_tok (l':=l) (by rw [hg];rfl) ht]
 obtain ⟨h1,h2⟩:=h (i+Lex.gap false l+m);exact ⟨by rw [mJ,h1];rfl,h2⟩
theorem Rds.blank {c:UInt8} {r:L} {cs:List C} (hc:Lex.blank c=true) (h:Rds r cs):Rds (c :: r) cs:=fun i=>by
 have h47:c≠47:=by rintro rfl;exact absurd hc (by decide)
 have hg:Lex.gap false (c :: r)=Lex.gap false r+1:=by simp only [Lex.gap];rw [kU (fun x=>h47 x.1),lu hc,pF]
 have e:Lex.body (c :: r) i=Lex.body r (i+1):=by
  unfold Lex.body;rw [hg,oz,lF,show i+(Lex.gap false r+1)=i+1+Lex.gap false r by omega]
  exact Lex.scan_fuel _ _ _ _ (by rw [mM];omega) (by rw [mM];omega)
 rw [e];exact h _
theorem gap0 {c:UInt8} {r:L} (h1:Lex.blank c=false) (h2:c≠47):Lex.gap false (c :: r)=0:=by
 simp only [Lex.gap];rw [kU (fun x=>h2 x.1),kU (by rw [h1];decide)]
def mk (c:UInt8):C:=(5, [c],0)
def ONES:L:= [40,41,123,125,91,93,58,44,59]
theorem ones_fin: ∀c:Fin 256,UInt8.ofNat c.val∈ONES->UInt8.ofNat c.val≠39/\Lex.isLet (UInt8.ofNat c.val)=false/\Num.isDig (UInt8.ofNat c.val)=false/\UInt8.ofNat c.val≠45/\UInt8.ofNat c.val∈Lex.MARKS/\Lex.blank (UInt8.ofNat c.val)=false/\UInt8.ofNat c.val≠47:=by decide+kernel
theorem Rds.mark {c:UInt8} {r:L} {cs:List C} (hc:c∈ONES) (h:Rds r cs):Rds (c :: r) (mk c :: cs):=by
 have hf:=ones_fin ⟨c.toNat,pJ c⟩;simp only [pX] at hf
 obtain ⟨h1,h2,h3,h4,h5,h6,h7⟩:=hf hc;refine Rds.tok (m:=1) (gap0 h6 h7) ?_ rfl h
 simp only [Lex.tok1]
 rw [kU h1,kU (by rw [h2];decide),kU (by rw [h3];simp [h4]),kU (fun x=>h4 x.1),lu h5]
theorem Rds.dash {c:UInt8} {r:L} {cs:List C} (hc:c=91) (h:Rds (c :: r) cs):Rds (45 :: c :: r) (mk 45 :: cs):=by
 subst hc;refine Rds.tok (m:=1) (gap0 (by decide) (by decide)) ?_ rfl h
 simp only [Lex.tok1]
 rw [kU (by decide),kU (by decide),kU (by simp;decide),kU (by simp),lu (by decide)]
theorem Rds.arrow {r:L} {cs:List C} (h:Rds r cs):Rds (45 :: 62 :: r) ((5, [45,62],0) :: cs):=by
 refine Rds.tok (m:=2) (gap0 (by decide) (by decide)) ?_ rfl h
 simp only [Lex.tok1];rw [kU (by decide),kU (by decide),kU (by simp;decide),lu (by simp)]
theorem run_all {p:UInt8->Bool}: ∀(w r:L),(∀x∈w,p x=true)->r.head?.any p=false->Lex.run p (w ++ r)=w.length
 | [], [],_,_=>rfl
 | [],c :: r,_,h=>by rw [mP,Lex.run_cons_neg r (by simpa using h)];rfl
 | c :: w,r,hw,h=>by
  rw [nG,Lex.run_cons_pos _ (hw c (by simp)),run_all w r (fun x hx=>hw x (mg _ hx)) h,lF,pF]
theorem let_fin: ∀c:Fin 256,Lex.isLet (UInt8.ofNat c.val)=true->UInt8.ofNat c.val≠39/\Lex.blank (UInt8.ofNat c.val)=false/\UInt8.ofNat c.val≠47/\Lex.inWord (UInt8.ofNat c.val)=true:=by decide+kernel
theorem dig_fin: ∀c:Fin 256,Num.isDig (UInt8.ofNat c.val)=true->UInt8.ofNat c.val≠39/\Lex.blank (UInt8.ofNat c.val)=false/\UInt8.ofNat c.val≠47/\Lex.isLet (UInt8.ofNat c.val)=false/\Lex.inNum (UInt8.ofNat c.val)=true/\UInt8.ofNat c.val≠120/\Lex.inWord (UInt8.ofNat c.val)=true:=by decide+kernel
theorem word_num {c:UInt8} (h:Lex.inWord c=true):Lex.inNum c=true:=by unfold Lex.inNum;rw [h];rfl
def Stop (r:L):Prop:=r.head?.any Lex.inNum=false
theorem Stop.word {r:L} (h:Stop r):r.head?.any Lex.inWord=false:=by
 unfold Stop at h;cases r with
 | nil=>rfl
 | cons c r=>
  simp only [qX,Option.any_some] at h⊢;cases hw:Lex.inWord c with
  | false=>rfl
  | true=>rw [word_num hw] at h;cases h
theorem Rds.word {c:UInt8} {w r:L} {cs:List C} (hc:Lex.isLet c=true) (hw: ∀x∈w,Lex.inWord x=true) (hr:Stop r) (h:Rds r cs):Rds (c :: w ++ r) ((1,c :: w,0) :: cs):=by
 have hf:=let_fin ⟨c.toNat,pJ c⟩;simp only [pX] at hf;obtain ⟨h1,h2,h3,h4⟩:=hf hc
 have hrun:Lex.run Lex.inWord (c ::(w ++ r))=(c :: w).length:=run_all (c :: w) r (fun x hx=>(mX.1 hx).elim (fun e=>e▸h4) (hw x)) hr.word
 refine Rds.tok (m:=(c :: w).length) (gap0 h2 h3) ?_ (pK ..) h;rw [nG]
 simp only [Lex.tok1];rw [kU h1,lu hc,hrun,<-nG,rU]
theorem Rds.num {c:UInt8} {w r t:L} {k:Nat} {n:Int} {cs:List C} (hc:Num.isDig c=true\/(c=45/\w.head?.any Num.isDig=true)) (hw: ∀x∈w,Lex.inNum x=true) (hr:Stop r)
  (hn:Lex.numTok (c :: w)= .tok k t n (c :: w).length) (h:Rds r cs):Rds (c :: w ++ r) ((k,t,n) :: cs):=by
 have hf:=dig_fin ⟨c.toNat,pJ c⟩;simp only [pX] at hf;have hrun:=run_all w r hw hr
 have h39:c≠39:=hc.elim (fun hc=>(hf hc).1) fun hc=>by rw [hc.1];decide
 have hbl:Lex.blank c=false:=hc.elim (fun hc=>(hf hc).2.1) fun hc=>by rw [hc.1];decide
 have h47:c≠47:=hc.elim (fun hc=>(hf hc).2.2.1) fun hc=>by rw [hc.1];decide
 have hlt:Lex.isLet c=false:=hc.elim (fun hc=>(hf hc).2.2.2.1) fun hc=>by rw [hc.1];decide
 refine Rds.tok (m:=(c :: w).length) (gap0 hbl h47) ?_ (pK ..) h;rw [nG]
 simp only [Lex.tok1];rw [kU h39,kU (by rw [hlt];decide),lu,hrun,pF,<-lF (a:=c),<-nG,rU,hn]
 rcases hc with hc |⟨h45,hd⟩
 ·exact .inl hc
 refine .inr ⟨h45, ?_⟩;cases w with
 | nil=>simp at hd
 | cons d w=>simpa using hd
theorem digs_num {q:L} (h:q.all Num.isDig=true): ∀x∈q,Lex.inNum x=true:=fun x hx=>by
 have hf:=dig_fin ⟨x.toNat,pJ x⟩;simp only [pX] at hf;exact (hf (og.1 h x hx)).2.2.2.2.1
theorem digs_hex {q:L} (h:q.all Num.isDig=true):Lib.hasPrefix q [48,120]=false:=by
 cases hp:Lib.hasPrefix q [48,120] with
 | false=>rfl
 | true=>
  obtain ⟨r,e⟩:=(Cel.hasPrefix_iff q [48,120]).1 hp;rw [e] at h
  exact absurd (og.1 h 120 (by simp)) (by decide)
theorem good_cons {neg:Bool} {q:L} (hg:Num.Good neg q): ∃d q',q=d :: q':=by
 rcases hg.2 with ⟨d,t,e,-⟩ |⟨e,-⟩
 ·exact ⟨d,t,e⟩
 exact ⟨48, [],e⟩
theorem Rds.int {n:Int} {r:L} {cs:List C} (hn:Cel.In64 n) (hr:Stop r) (h:Rds r cs):Rds (Lib.itoa n ++ r) ((2, [],n) :: cs):=by
 obtain ⟨neg,q,e,hg,-⟩:=Num.itoa_form n;have hp:=Num.parse_itoa n hn.1 hn.2
 have hz:=digs_hex hg.1;have hq:=digs_num hg.1
 have hh:Lex.numHead (Lib.itoa n)=q:=by
  rw [e];cases neg with
  | true=>rfl
  | false=>
   unfold Lex.numHead;rw [show Num.sg false ++ q=q from rfl,kU (Num.good_head hg)]
 have hnt:Lex.numTok (Lib.itoa n)= .tok 2 [] n (Lib.itoa n).length:=by
  unfold Lex.numTok;rw [hh,hz,hp];rfl
 obtain ⟨d,q',rfl⟩:=good_cons hg;have hd:Num.isDig d=true:=og.1 hg.1 d (by simp)
 cases neg with
 | true=>
  have e':Lib.itoa n=45 :: d :: q':=e;rw [e'] at hnt⊢
  exact Rds.num (.inr ⟨rfl,by simpa using hd⟩) hq hr hnt h
 | false=>
  have e':Lib.itoa n=d :: q':=e;rw [e'] at hnt⊢
  exact Rds.num (.inl hd) (fun x hx=>hq x (mg _ hx)) hr hnt h
theorem itoa_inNum (n:Int) (hn:0<=n): ∀x∈Lib.itoa n,Lex.inWord x=true:=by
 obtain ⟨neg,q,e,hg,-,-,hneg⟩:=Num.itoa_form n;cases neg with
 | true=>have:=hneg.1 rfl;omega
 | false=>
  intro x hx;rw [e] at hx;have hf:=dig_fin ⟨x.toNat,pJ x⟩;simp only [pX] at hf
  exact (hf (og.1 hg.1 x hx)).2.2.2.2.2.2
theorem hexd_inWord: ∀d:Fin 16,Lex.inNum (Num.hexd d.val)=true:=by decide
theorem hexN_inNum: ∀(k n:Nat),∀x∈Num.hexN k n,Lex.inNum x=true
 | 0,n,x,h=>by simp [Num.hexN] at h
 | k+1,n,x,h=>by
  unfold Num.hexN at h
  rcases lW.1 h with h | h
  ·exact hexN_inNum k _ x h
  rw [lY.1 h];exact hexd_inWord ⟨n % 16,uV _ (by decide)⟩
theorem fracS_inNum (f:Nat): ∀x∈Num.fracS f,Lex.inNum x=true:=by
 intro x hx;unfold Num.fracS at hx
 split at hx
 ·cases hx
 rcases mX.1 hx with rfl | h
 ·decide
 obtain ⟨j,e,-⟩:=Num.trim_split _ (Num.hexN 13 f) rfl
 exact hexN_inNum 13 f x (by rw [e];exact qw _ h)
theorem expS_inNum (e:Int): ∀x∈Num.expS e,Lex.inNum x=true:=by
 intro x hx;unfold Num.expS at hx
 split at hx
 ·rcases mX.1 hx with rfl | h
  ·decide
  exact word_num (itoa_inNum _ (by omega) x h)
 rcases mX.1 hx with rfl | h
 ·decide
 exact word_num (itoa_inNum _ (by omega) x h)
theorem fmt_shape (b:Nat): ∃neg q,Num.fmt b=Num.sg neg ++ 48 :: 120 :: q/\ ∀x∈q,Lex.inNum x=true:=by
 unfold Num.fmt
 split
 ·exact ⟨false, [110,97,110],rfl,by decide⟩
 refine ⟨decide (9223372036854775808<=b), ?_⟩;unfold Num.fmtU
 split
 ·exact ⟨[105,110,102],rfl,by decide⟩
 split
 ·exact ⟨[48],by rfl,by decide⟩
 refine ⟨49 ::(Num.fracS (Num.nfrac (b % 9223372036854775808)) ++ Num.expS (Num.nexp (b % 9223372036854775808))),rfl,fun x hx=> ?_⟩
 rcases mX.1 hx with rfl | hx
 ·decide
 rcases lW.1 hx with hx | hx
 ·exact fracS_inNum _ x hx
 exact expS_inNum _ x hx
theorem Rds.float {b:Nat} {r:L} {cs:List C} (hb:b<18446744073709551616) (hc:Num.canon b=b) (hr:Stop r) (h:Rds r cs):Rds (Num.fmt b ++ r) ((3, [],Cel.s64 b) :: cs):=by
 obtain ⟨neg,q,e,hq⟩:=fmt_shape b;have hp:=Num.parse_fmt hb;rw [hc] at hp
 have hh:Lex.numHead (Num.fmt b)=48 :: 120 :: q:=by
  rw [e];cases neg with
  | true=>rfl
  | false=>unfold Lex.numHead;rw [kU (by simp [Num.sg])];rfl
 have hnt:Lex.numTok (Num.fmt b)= .tok 3 [] (Cel.s64 b) (Num.fmt b).length:=by
  unfold Lex.numTok
  rw [hh,hp,lu ((Cel.hasPrefix_iff (48 :: 120 :: q) [48,120]).2 ⟨q,rfl⟩)];rfl
 have hq': ∀x∈48 :: 120 :: q,Lex.inNum x=true:=fun x hx=>by
  rcases mX.1 hx with rfl | hx
  ·decide
  rcases mX.1 hx with rfl | hx
  ·decide
  exact hq x hx
 cases neg with
 | true=>
  have e':Num.fmt b=45 :: 48 :: 120 :: q:=e;rw [e'] at hnt⊢
  exact Rds.num (.inr ⟨rfl,by rfl⟩) hq' hr hnt h
 | false=>
  have e':Num.fmt b=48 :: 120 :: q:=e;rw [e'] at hnt⊢
  exact Rds.num (.inl (by decide)) (fun x hx=>hq' x (mg _ hx)) hr hnt h
theorem Rds.quote {s r:L} {cs:List C} (h:Rds r cs):Rds (Lex.quote s ++ r) ((4,s,0) :: cs):=by
 have hl:=Lex.flatMap_len s
 refine Rds.tok (m:=(Lex.quote s).length) (gap0 (by decide) (by decide)) ?_ (pK ..) h
 unfold Lex.quote;rw [nG];simp only [Lex.tok1,rG]
 have:=Lex.textR_join r ((s.flatMap Lex.q1 ++ [39]).length+1) ((s.flatMap Lex.q1 ++ [39] ++ r).length+1) _ _ _
  (Lex.textR_quote s ((s.flatMap Lex.q1 ++ [39]).length+1) 1 [] (by rw [kW,nC];omega)) (by simp only [kW];omega)
 rw [this];simp only [mP,lF,kW,nJ]
 congr 1
 omega
def Seg (s:L) (t:List C):Prop:= ∀r cs,Stop r->Rds r cs->Rds (s ++ r) (t ++ cs)
def joinT:List (List C)->List C
 | []=> []
 | [a]=>a
 | a :: b :: r=>a ++ mk 44 :: joinT (b :: r)
theorem Seg.join: ∀l:List (L×List C),(∀x∈l,Seg x.1 x.2)->Seg (join [44,32] (l.map Prod.fst)) (joinT (l.map Prod.snd))
 | [],_=>fun r cs _ hR=>hR
 | [a],h=>h a (by simp)
 | a :: b :: l,h=>fun r cs hs hR=>by
  have ih:=Seg.join (b :: l) (fun x hx=>h x (mg _ hx)) r cs hs hR
  have:=h a (by simp) (44 :: 32 ::(Cy.join [44,32] ((b :: l).map Prod.fst) ++ r)) _ (by rfl) (Rds.mark (by decide) (Rds.blank (by decide) ih))
  simp only [mJ,Cy.join,joinT,lX,nG,mP] at this⊢;exact this
def scT (k n:Int) (t:L):C:=if k=1 then (1,if n=1 then Cel.TRUE else Cel.FALSE,0) else if k=2 then (2, [],n) else if k=3 then (3, [],n) else (4,t,0)
theorem Seg.word_ {c:UInt8} {w:L} (hc:Lex.isLet c=true) (hw: ∀x∈w,Lex.inWord x=true):Seg (c :: w) [(1,c :: w,0)]:=fun _ _ hs hR=>Rds.word hc hw hs hR
theorem Seg.scalar {k n:Int} {t:L} (hn:Cel.In64 n) (h:Cel.numWrong k n=0):Seg (Cy.scalar k n t) [scT k n t]:=fun r cs hs hR=>by
 unfold Cy.scalar scT;by_cases h1:k=1
 ·rw [lu h1,lu h1]
  by_cases h2:n=1
  ·rw [lu h2];exact Rds.word (by decide) (by decide) hs hR
  rw [kU h2];exact Rds.word (by decide) (by decide) hs hR
 rw [kU h1,kU h1];by_cases h2:k=2
 ·rw [lu h2,lu h2];exact Rds.int hn hs hR
 rw [kU h2,kU h2];by_cases h3:k=3
 ·rw [lu h3,lu h3]
  unfold Cel.numWrong at h;rw [kU (fun x=>h1 x.1)] at h
  have hnb:Cel.nanBad n=false:=by
   cases hb:Cel.nanBad n with
   | false=>rfl
   | true=>rw [lu ⟨h3,hb⟩] at h;cases h
  have:=Rds.float (Cel.u64_lt n) (Cel.canon_good hnb) hs hR;rw [Cel.s64_u64 hn] at this
  exact this
 rw [kU h3,kU h3];exact Rds.quote hR
def partsP (v:Cel.V):List (L×List C):=v.nums.map (fun n=>(Cy.scalar (v.kind - 4) n [], [scT (v.kind - 4) n []])) ++ v.texts.map (fun t=>(Cy.scalar (v.kind - 4) 0 t, [scT (v.kind - 4) 0 t]))
theorem partsP_fst (v:Cel.V):(partsP v).map Prod.fst=parts v:=by unfold partsP parts;rw [mV,oQ,oQ];rfl
def wordC (w:L):C:=(1,w,0)
def litT (v:Cel.V):List C:=if v.kind<=4 then [scT v.kind v.num v.text] else mk 91 :: mk 58 :: wordC (Cy.word (v.kind - 4)) ::(joinT ((partsP v).map Prod.snd) ++ [mk 93])
structure VGood (v:Cel.V):Prop where
 ck:Cel.check v=0
 num:Cel.In64 v.num
 nums: ∀n∈v.nums,Cel.In64 n
theorem numsWrong_all {k:Int}: ∀{l:List Int},Cel.numsWrong k l=0-> ∀n∈l,Cel.numWrong k n=0
 | [],_,n,h=>by cases h
 | a :: l,h0,n,h=>by
  obtain ⟨h1,h2⟩:=Cel.numsWrong_cons h0
  rcases mX.1 h with rfl | h
  ·exact h1
  exact numsWrong_all h2 n h
theorem numWrong_four {k n:Int} (h:4<=k):Cel.numWrong k n=0:=by
 unfold Cel.numWrong;rw [kU (by omega),kU (by omega)]
theorem word_seg {k:Int}:Seg (Cy.word k) [wordC (Cy.word k)]:=by
 unfold Cy.word
 repeat' split
 all_goals exact Seg.word_ (by decide) (by decide)
theorem Seg.lit {v:Cel.V} (h:VGood v):Seg (Cy.lit v) (litT v):=fun r cs hs hR=>by
 obtain ⟨p1,p2,p3,p4,p5,p6,p7,p8⟩:=Cel.check_parts h.ck;unfold Cy.lit litT
 by_cases h4:v.kind<=4
 ·rw [lu h4,lu h4]
  refine Seg.scalar h.num ?_ r cs hs hR;by_cases h5:v.kind=4
  ·exact numWrong_four (by omega)
  rw [lu (by omega)] at p8;exact p8
 rw [kU h4,kU h4];rw [kU (by omega)] at p8
 have hj:=Seg.join (partsP v) (fun x hx=>by
  unfold partsP at hx
  rcases lW.1 hx with hx | hx
  ·obtain ⟨n,hn,rfl⟩:=nR.1 hx
   exact Seg.scalar (h.nums n hn) (numsWrong_all p8 n hn)
  obtain ⟨t,ht,rfl⟩:=nR.1 hx;refine Seg.scalar ⟨by decide,by decide⟩ ?_
  by_cases h8:v.kind=8
  ·exact numWrong_four (by omega)
  exfalso
  apply p3
  unfold Cel.Unused
  exact .inr (.inr (.inr ⟨fun e=>(by rw [e] at ht;cases ht),h8⟩)))
 rw [partsP_fst] at hj;have hend:Rds (93 :: r) (mk 93 :: cs):=Rds.mark (by decide) hR
 by_cases h0:parts v= []
 ·rw [lu h0]
  have hpp:partsP v= []:=sV.1 ((partsP_fst v).trans h0);rw [hpp]
  have:=Rds.mark (c:=91) (by decide) (Rds.mark (c:=58) (by decide) (word_seg (k:=v.kind - 4) (93 :: r) _ (by rfl) hend))
  simpa [joinT] using this
 rw [kU h0]
 have:=Rds.mark (c:=91) (by decide) (Rds.mark (c:=58) (by decide) (word_seg (k:=v.kind - 4) _ _ (by rfl) (Rds.blank (c:=32) (by decide) (hj (93 :: r) _ (by rfl) hend))))
 simpa using this
theorem name_shape {s:L} (h:Gr.goodName s=true): ∃c w,s=c :: w/\Lex.isLet c=true/\ ∀x∈w,Lex.inWord x=true:=by
 unfold Gr.goodName at h;simp only [mY,mD,qY] at h;obtain ⟨⟨⟨h1,-⟩,h3⟩,h4⟩:=h;cases s with
 | nil=>exact absurd rfl h1
 | cons c w=>
  refine ⟨c,w,rfl, ?_,fun x hx=>og.1 h4 x (mg _ hx)⟩
  have:=og.1 h4 c (by simp)
  simp only [qX,Option.any_some] at h3;unfold Lex.inWord at this
  rw [h3,Bool.or_false] at this;exact this
theorem Seg.name {s:L} (h:Gr.goodName s=true):Seg s [wordC s]:=by
 obtain ⟨c,w,rfl,h1,h2⟩:=name_shape h;exact Seg.word_ h1 h2
structure PGood (p:Gr.P):Prop where
 name:Gr.goodName p.key=true
 val:VGood p.val
def propT (p:Gr.P):List C:=wordC p.key :: mk 58 :: litT p.val
def mapT (ps:List Gr.P):List C:=if ps= [] then [] else mk 123 ::(joinT (ps.map propT) ++ [mk 125])
theorem Seg.prop {p:Gr.P} (h:PGood p):Seg (propS p) (propT p):=fun r cs hs hR=>by
 have:=Seg.name h.name _ _ (by rfl) (Rds.mark (c:=58) (by decide) (Rds.blank (c:=32) (by decide) (Seg.lit h.val r cs hs hR)))
 simpa [propS,propT] using this
theorem Seg.map {ps:List Gr.P} (h: ∀p∈ps,PGood p):Seg (mapS ps) (mapT ps):=fun r cs hs hR=>by
 have hj:=Seg.join (ps.map fun p=>(propS p,propT p)) (fun x hx=>by obtain ⟨p,hp,rfl⟩:=nR.1 hx;exact Seg.prop (h p hp))
 rw [oQ,oQ] at hj;unfold mapS mapT;by_cases h0:ps= []
 ·rw [lu h0,lu h0];exact hR
 rw [kU h0,kU h0]
 have:=Rds.blank (c:=32) (by decide) (Rds.mark (c:=123) (by decide) (hj (125 :: r) _ (by rfl) (Rds.mark (c:=125) (by decide) hR)))
 simpa [ru] using this
theorem idw {c:UInt8} {n:Int} (hc:Lex.isLet c=true) (hn:0<=n):Seg (c :: Lib.itoa n) [wordC (c :: Lib.itoa n)]:=Seg.word_ hc (itoa_inNum n hn)
structure NGood (n:Gr.N):Prop where
 lo:0<=n.id
 hi:n.id<1024
 labels: ∀l∈n.labels,Gr.goodName l=true
 props: ∀p∈n.props,PGood p
structure RGood (r:Gr.R):Prop where
 lo:0<=r.id
 hi:r.id<2048
 slo:0<=r.src
 shi:r.src<1024
 dlo:0<=r.dst
 dhi:r.dst<1024
 name:Gr.goodName r.type=true
 props: ∀p∈r.props,PGood p
def CR:C:=wordC CREATE
def nodeT (n:Gr.N):List C:=CR :: mk 40 :: wordC (110 :: Lib.itoa n.id) ::(n.labels.flatMap (fun l=> [mk 58,wordC l]) ++(mapT n.props ++ [mk 41,mk 59]))
def relT (r:Gr.R):List C:=CR :: mk 40 :: wordC (110 :: Lib.itoa r.src) :: mk 41 :: mk 45 :: mk 91 :: wordC (114 :: Lib.itoa r.id) :: mk 58 :: wordC r.type ::(mapT r.props ++ [mk 93,(5, [45,62],0),mk 40,wordC (110 :: Lib.itoa r.dst),mk 41,mk 59])
theorem Rds.labels: ∀(ls:List L),(∀l∈ls,Gr.goodName l=true)-> ∀{r:L} {cs:List C},Stop r->Rds r cs->Stop (ls.flatMap (fun l=>58 :: l) ++ r)/\Rds (ls.flatMap (fun l=>58 :: l) ++ r) (ls.flatMap (fun l=> [mk 58,wordC l]) ++ cs)
 | [],_,r,cs,hs,hR=>⟨hs,hR⟩
 | l :: ls,h,r,cs,hs,hR=>by
  obtain ⟨h1,h2⟩:=Rds.labels ls (fun x hx=>h x (mg _ hx)) hs hR
  refine ⟨by rfl, ?_⟩
  have:=Rds.mark (c:=58) (by decide) (Seg.name (h l (by simp)) _ _ h1 h2)
  simpa using this
theorem stop_map {ps:List Gr.P} {r:L} (h:Stop r):Stop (mapS ps ++ r):=by
 unfold mapS
 split
 ·exact h
 rfl
theorem Rds.node {n:Gr.N} {r:L} {cs:List C} (h:NGood n) (hR:Rds r cs):Rds (nodeS n ++ r) (nodeT n ++ cs):=by
 have e1:Rds (41 :: 59 :: 10 :: r) (mk 41 :: mk 59 :: cs):=Rds.mark (by decide) (Rds.mark (by decide) (Rds.blank (by decide) hR))
 have e2:=Seg.map h.props _ _ (by rfl) e1
 obtain ⟨s3,e3⟩:=Rds.labels n.labels h.labels (stop_map (by rfl)) e2
 have e4:=idw (c:=110) (by decide) h.lo _ _ s3 e3
 have e5:=Seg.word_ (c:=67) (w:= [82,69,65,84,69]) (by decide) (by decide) _ _ (by rfl) (Rds.blank (c:=32) (by decide) (Rds.mark (c:=40) (by decide) e4))
 simpa [nodeS,nodeT,CREATE,CR,wordC] using e5
theorem Rds.rel {n:Gr.R} {r:L} {cs:List C} (h:RGood n) (hR:Rds r cs):Rds (relS n ++ r) (relT n ++ cs):=by
 have e1:Rds (41 :: 59 :: 10 :: r) (mk 41 :: mk 59 :: cs):=Rds.mark (by decide) (Rds.mark (by decide) (Rds.blank (by decide) hR))
 have e2:=idw (c:=110) (by decide) h.dlo _ _ (by rfl) e1
 have e3:=Seg.map h.props _ _ (by rfl) (Rds.mark (c:=93) (by decide) (Rds.arrow (Rds.mark (c:=40) (by decide) e2)))
 have e4:=Seg.name h.name _ _ (stop_map (by rfl)) e3
 have e5:=idw (c:=114) (by decide) h.lo _ _ (by rfl) (Rds.mark (c:=58) (by decide) e4)
 have e6:=idw (c:=110) (by decide) h.slo _ _ (by rfl) (Rds.mark (c:=41) (by decide) (Rds.dash rfl (Rds.mark (c:=91) (by decide) e5)))
 have e7:=Seg.word_ (c:=67) (w:= [82,69,65,84,69]) (by decide) (by decide) _ _ (by rfl) (Rds.blank (c:=32) (by decide) (Rds.mark (c:=40) (by decide) e6))
 simpa [relS,relT,CREATE,CR,wordC] using e7
theorem Rds.nodes: ∀(ns:List Gr.N),(∀n∈ns,NGood n)-> ∀{r:L} {cs:List C},Rds r cs->Rds (ns.flatMap nodeS ++ r) (ns.flatMap nodeT ++ cs)
 | [],_,_,_,hR=>hR
 | n :: ns,h,r,cs,hR=>by
  have:=Rds.node (h n (by simp)) (Rds.nodes ns (fun x hx=>h x (mg _ hx)) hR)
  simpa using this
theorem Rds.rels: ∀(ns:List Gr.R),(∀n∈ns,RGood n)-> ∀{r:L} {cs:List C},Rds r cs->Rds (ns.flatMap relS ++ r) (ns.flatMap relT ++ cs)
 | [],_,_,_,hR=>hR
 | n :: ns,h,r,cs,hR=>by
  have:=Rds.rel (h n (by simp)) (Rds.rels ns (fun x hx=>h x (mg _ hx)) hR)
  simpa using this
end Go.Proofs.YtanlehkalkafdaaGreatDoor.Cy
