/- Lemmas. -/
import Derived.Test.YtdijgcnlbfgkdaaGreatDoorUP09
set_option maxHeartbeats 64000000
set_option maxRecDepth 1000000
set_option linter.all false
namespace Go.Proofs.YtdijgcnlbfgkdaaGreatDoor.Gr
open Go Go.Proofs.Tryz
def ajq {κ α:Type} (key:α->κ) (l:List α) (k:Nat):aQ key l (k+1)=l[k]?.map key:=rfl
def ajr {κ α:Type} {key:α->κ} {l:List α} {k:Nat} {a:α} (h:l[k]?=some a):aQ key l (k+1)=some (key a):=by rw[ajq,h];rfl
structure abf (prev:Option L) (p:P):Prop where
 name:fD p.key=true
 lt: ∀q,prev=some q-> ¬p.key<=q
 val:au.check p.val=0
def abg {prev:Option L} {p:P}:lQ prev p=0↔abf prev p:=by
 unfold lQ
 constructor
 ·intro h
  split at h
  ·omega
  rename_i h1
  split at h
  ·omega
  rename_i h2;refine⟨by simpa using h1,fun q hq=> ?_,h⟩
  subst hq
  simpa using h2
 intro h;rw[aer (by rw[h.name];decide),aer,h.val]
 cases prev with
 |none=>simp
 |some q=>simpa using h.lt q rfl
structure KJ (ps:List P):Prop where
 len:ps.length<=16
 all: ∀(j:Nat) p,ps[j]?=some p->abf (aQ P.key ps j) p
def P9 {ps:List P}:dJ ps=0↔KJ ps:=by
 unfold dJ
 constructor
 ·intro h
  split at h
  ·omega
  exact⟨by omega,fun j p hp=>abg.1 (P7 lQ P.key h j p hp)⟩
 intro h;rw[aer (by have:=h.len;omega),DR lQ P.key fun j p hp=>abg.2 (h.all j p hp)]
def KJ.val {ps:List P} (h:KJ ps): ∀p∈ps,au.check p.val=0:=fun p hp=>by
 obtain⟨j,hj,e⟩:=agM hp;exact(h.all j p (by rw[aen hj,e])).val
structure abh (prev:Option L) (l:L):Prop where
 name:fD l=true
 lt: ∀q,prev=some q-> ¬l<=q
def abj {prev:Option L} {l:L}:labelWrong prev l=0↔abh prev l:=by
 unfold labelWrong
 constructor
 ·intro h
  split at h
  ·omega
  rename_i h1
  split at h
  ·omega
  rename_i h2;refine⟨by simpa using h1,fun q hq=> ?_⟩
  subst hq
  simpa using h2
 intro h;rw[aer (by rw[h.name];decide),aer]
 cases prev with
 |none=>simp
 |some q=>simpa using h.lt q rfl
structure abk (ls:List L):Prop where
 len:ls.length<=8
 all: ∀(j:Nat) l,ls[j]?=some l->abh (aQ id ls j) l
def abl {ls:List L}:wJ ls=0↔abk ls:=by
 unfold wJ
 constructor
 ·intro h
  split at h
  ·omega
  exact⟨by omega,fun j p hp=>abj.1 (P7 labelWrong id h j p hp)⟩
 intro h;rw[aer (by have:=h.len;omega),DR labelWrong id fun j p hp=>abj.2 (h.all j p hp)]
structure Uz (prev:Option Int) (n:N):Prop where
 lo:0<=n.id
 hi:n.id<1024
 lt: ∀q,prev=some q->q<n.id
 labels:abk n.labels
 props:KJ n.props
def Qa {prev:Option Int} {n:N}:jo prev n=0↔Uz prev n:=by
 unfold jo
 constructor
 ·intro h
  split at h
  ·omega
  rename_i h1
  split at h
  ·omega
  rename_i h2
  split at h
  ·rename_i h3;exact absurd h h3
  rename_i h3;refine⟨by omega,by omega,fun q hq=> ?_,abl.1 (asJ.1 h3),P9.1 h⟩
  subst hq;simp at h2;omega
 intro h;rw[aer (by have:=h.lo;have:=h.hi;omega),aer,aer (by rw[abl.2 h.labels];decide),P9.2 h.props]
 cases prev with
 |none=>simp
 |some q=>have:=h.lt q rfl;simp;omega
structure UA (ids:List Int) (prev:Option Int) (r:R):Prop where
 lo:0<=r.id
 hi:r.id<2048
 lt: ∀q,prev=some q->q<r.id
 name:fD r.type=true
 src:r.src∈ids
 dst:r.dst∈ids
 props:KJ r.props
def Qb {ids:List Int} {prev:Option Int} {r:R}:jM ids prev r=0↔UA ids prev r:=by
 unfold jM
 constructor
 ·intro h
  split at h
  ·omega
  rename_i h1
  split at h
  ·omega
  rename_i h2
  split at h
  ·omega
  rename_i h3
  split at h
  ·omega
  rename_i h4;simp only[aq2,asJ]at h4;refine⟨by omega,by omega,fun q hq=> ?_,by simpa using h3,h4.1,h4.2,P9.1 h⟩
  subst hq;simp at h2;omega
 intro h;rw[aer (by have:=h.lo;have:=h.hi;omega),aer,aer (by rw[h.name];decide),aer (by simp[h.src,h.dst]),P9.2 h.props]
 cases prev with
 |none=>simp
 |some q=>have:=h.lt q rfl;simp;omega
def abm {α:Type} {key:α->Int} {l:List α} (h: ∀(j:Nat) a,l[j]?=some a->0<=key a/\ ∀q,aQ key l j=some q->q<key a): ∀(j:Nat) a,l[j]?=some a->(j:Int)<=key a
 |0,a,ha=>(h 0 a ha).1
 |j+1,a,ha=>by
  have hj:j<l.length:=by have:=(aeK.1 ha).1;omega
  have hb:=aen hj;have:=abm h j _ hb;have:=(h (j+1) a ha).2 _ (ajr hb);omega
def abn {α:Type} {key:α->Int} {l:List α} {m:Nat} (h: ∀(j:Nat) a,l[j]?=some a->0<=key a/\ ∀q,aQ key l j=some q->q<key a) (hm: ∀a∈l,key a<m):l.length<=m:=by
 rcases ahi m l.length with hlt|hge
 ·have hb:=aen hlt
  have:=abm h m _ hb;have:=hm _ (aew hb);omega
 exact hge
def Qc {α β:Type} {f:α->List β} {c:Nat}: ∀{l:List α},(∀a∈l,(f a).length<=c)->(l.flatMap f).length<=c*l.length
 |[],_=>by simp
 |a :: l,h=>by
  have:=Qc fun b hb=>h b (aga.2 (.inr hb))
  have:=h a (aga.2 (.inl rfl));simp only[agF,aeo,ae7];rw[Nat.mul_succ];omega
structure x9 (ns:List N):Prop where
 all: ∀(j:Nat) n,ns[j]?=some n->Uz (aQ N.id ns j) n
structure Bq (ids:List Int) (rs:List R):Prop where
 all: ∀(j:Nat) r,rs[j]?=some r->UA ids (aQ R.id rs j) r
def x9.mem {ns:List N} (h:x9 ns) {n:N} (hn:n∈ns): ∃prev,Uz prev n:=by
 obtain⟨j,hj,e⟩:=agM hn;exact⟨_,h.all j n (by rw[aen hj,e])⟩
def Bq.mem {ids:List Int} {rs:List R} (h:Bq ids rs) {r:R} (hn:r∈rs): ∃prev,UA ids prev r:=by
 obtain⟨j,hj,e⟩:=agM hn;exact⟨_,h.all j r (by rw[aen hj,e])⟩
def x9.len {ns:List N} (h:x9 ns):ns.length<=1024:=
 abn (key:=N.id) (fun j a ha=>⟨(h.all j a ha).lo,(h.all j a ha).lt⟩) (fun a ha=>by obtain⟨_,hg⟩:=h.mem ha;exact hg.hi)
def Bq.len {ids:List Int} {rs:List R} (h:Bq ids rs):rs.length<=2048:=
 abn (key:=R.id) (fun j a ha=>⟨(h.all j a ha).lo,(h.all j a ha).lt⟩) (fun a ha=>by obtain⟨_,hg⟩:=h.mem ha;exact hg.hi)
def x9.abo {ns:List N} (h:x9 ns):(ns.flatMap N.labels).length<=8192:=by
 have:=Qc (f:=N.labels) (l:=ns) (c:=8) fun n hn=>by obtain⟨_,hg⟩:=h.mem hn;exact hg.labels.len
 have:=h.len;omega
def abp {g:G} (h:x9 g.nodes) {ids:List Int} (k:Bq ids g.ay):(jr g).length<=49152:=by
 have h1:=Qc (f:=N.props) (l:=g.nodes) (c:=16) fun n hn=>by obtain⟨_,hg⟩:=h.mem hn;exact hg.props.len
 have h2:=Qc (f:=R.props) (l:=g.ay) (c:=16) fun n hn=>by obtain⟨_,hg⟩:=k.mem hn;exact hg.props.len
 have:=h.len;have:=k.len;unfold jr;rw[aeo];omega
def abq {g:G} (h:x9 g.nodes) {ids:List Int} (k:Bq ids g.ay): ∀p∈jr g,au.check p.val=0:=fun p hp=>by
 unfold jr at hp
 rcases afq.1 hp with hp|hp
 ·obtain⟨n,hn,hq⟩:=ahd.1 hp
  obtain⟨_,hg⟩:=h.mem hn;exact hg.props.val p hq
 obtain⟨n,hn,hq⟩:=ahd.1 hp;obtain⟨_,hg⟩:=k.mem hn;exact hg.props.val p hq
structure Good (g:G):Prop where
 nodes:x9 g.nodes
 ay:Bq (g.nodes.map N.id) g.ay
 names:(dedup (rU g)).length<=200/\(dedup (names2 g)).length<=200/\(dedup (qO g)).length<=200
 weight:weight g<=262144
def ajs {g:G}:(check g).1=0↔Good g:=by
 unfold check
 constructor
 ·intro h
  split at h
  ·rename_i h1;exact absurd h h1
  rename_i h1
  split at h
  ·rename_i h2;exact absurd h h2
  rename_i h2
  split at h
  ·cases h
  rename_i h3
  split at h
  ·cases h
  rename_i h4;refine⟨⟨fun j n hn=>Qa.1 (P7 jo N.id (asJ.1 h1) j n hn)⟩,⟨fun j r hr=>Qb.1 (P7 _ R.id (asJ.1 h2) j r hr)⟩,by omega,by omega⟩
 intro h
 rw[aer (by rw[DR jo N.id fun j n hn=>Qa.2 (h.nodes.all j n hn)];decide),
  aer (by rw[DR _ R.id fun j r hr=>Qb.2 (h.ay.all j r hr)];decide),aer (by have:=h.names;omega),aer (by have:=h.weight;omega)]
end Go.Proofs.YtdijgcnlbfgkdaaGreatDoor.Gr
namespace Go.Proofs.YtdijgcnlbfgkdaaGreatDoor.Cy
open Go Go.Proofs.Tryz
def ajt: ∀c:Fin 256,Lex.isLet (UInt8.ofNat c.val)=true->UInt8.ofNat c.val≠39/\Lex.blank (UInt8.ofNat c.val)=false/\UInt8.ofNat c.val≠47/\Lex.dh (UInt8.ofNat c.val)=true:=by decide+kernel
def aju {k:Int} (h1:1<=k) (h4:k<=4):kindOf (word k)=k:=by
 have:k=1\/k=2\/k=3\/k=4:=by omega
 rcases this with rfl|rfl|rfl|rfl<;>decide
structure Fine (g:Gr.G):Prop where
 good:Gr.Good g
 nums: ∀p∈Gr.jr g,au.In64 p.val.num/\ ∀n∈p.val.nums,au.In64 n
structure lS (t:Lex.Tok):Prop where
 num:au.In64 t.num
 len:t.text.length<=16777216
 kind:t.kind<=5
 word:t.kind=1->t.text≠ []
def abr (l:L):au.In64 (Num.dM l).1:=by
 by_cases h:Num.isInt l=true
 ·obtain⟨neg,r,rfl,hg⟩:=(Num.Kz l).1 h
  rw[Num.Z7 hg]
  split
  ·exact⟨by simp,by simp⟩
  rename_i ho;unfold Num.over at ho;unfold Num.uj;cases neg
  ·simp at ho⊢
   constructor<;>omega
  simp at ho⊢
  constructor<;>omega
 have h':Num.isInt l=false:=by cases e:Num.isInt l with
  |false=>rfl
  |true=>exact absurd e h
 rw[Num.Z8 h'];exact⟨by simp,by simp⟩
def UC: ∀(k:Nat) (r:L) (o:Nat) (b:L) {kd:Nat} {tx:L} {nm:Int} {n:Nat},Lex.fG k r o b=.tok kd tx nm n->kd=4/\nm=0/\tx.length<=b.length+r.length
 |0,r,o,b,_,_,_,_,h=>by simp[Lex.fG]at h
 |k+1,[],o,b,_,_,_,_,h=>by simp[Lex.fG]at h
 |k+1,c :: r,o,b,kd,tx,nm,n,h=>by
  simp only[Lex.fG]at h
  split at h
  ·cases h
   exact⟨rfl,rfl,by omega⟩
  split at h
  ·cases h
  split at h
  ·split at h
   ·cases h
   have ih:=UC k _ _ _ h;simp only[aeo,ae7,afQ,ae1]at ih⊢;exact⟨ih.1,ih.2.1,by omega⟩
  have ih:=UC k _ _ _ h;simp only[aeo,ae7,afQ]at ih⊢;exact⟨ih.1,ih.2.1,by omega⟩
def FM:au.In64 0:=⟨by decide,by decide⟩
def ajv {l:L} {kd:Nat} {tx:L} {nm:Int} {n:Nat} (h:Lex.tok1 l=.tok kd tx nm n):au.In64 nm/\tx.length<=l.length/\kd<=5/\(kd=1->tx≠ []):=by
 cases l with
 |nil=>simp[Lex.tok1]at h
 |cons c r=>
  simp only[Lex.tok1]at h
  split at h
  ·obtain⟨rfl,rfl,h3⟩:=UC _ _ _ _ h
   exact⟨FM,by simp only[afQ,ae7]at h3⊢;omega,by omega,by omega⟩
  split at h
  ·rename_i hc
   cases h;refine⟨FM,by rw[afo];omega,by omega,fun _=> ?_⟩
   have hf:=ajt ⟨c.toNat,an0 c⟩;simp only[aoU]at hf;rw[Lex.Dx r (hf hc).2.2.2,an8,ag7];simp
  split at h
  ·unfold Lex.nY at h
   split at h
   ·split at h
    ·cases h
     rename_i hp;exact⟨au.ahY (Num.TR hp).2.1,by simp,by omega,by omega⟩
    cases h
   split at h
   ·cases h
    exact⟨abr _,by simp,by omega,by omega⟩
   cases h
  split at h
  ·cases h
   rename_i hc
   exact⟨FM,by cases r with
    |nil=>simp at hc
    |cons=>simp,by omega,by omega⟩
  split at h
  ·cases h
   exact⟨FM,by simp,by omega,by omega⟩
  cases h
def scan_ok: ∀(k:Nat) (l:L) (i:Nat),l.length<=16777216-> ∀t∈(Lex.scan k l i).1,lS t
 |0,l,i,_,t,h=>by simp[Lex.scan]at h
 |k+1,[],i,_,t,h=>by simp[Lex.scan]at h
 |k+1,c :: r,i,hl,t,h=>by
  cases ht:Lex.tok1 (c :: r) with
  |err o e=>rw[Lex.FC (by simp) ht]at h;cases h
  |tok kd tx nm n=>
   rw[Lex.FB ht rfl]at h
   rcases aga.1 h with rfl|h
   ·have:=ajv ht
    exact⟨this.1,by show tx.length<=_;omega,this.2.2.1,this.2.2.2⟩
   exact scan_ok k _ _ (by rw[ae1];omega) t h
def UD (s:L): ∀t∈(Lex.read s).1,lS t:=by
 unfold Lex.read
 split
 ·intro t h;cases h
 unfold Lex.body;exact scan_ok _ _ _ (by rw[ae1];omega)
def abt: ∀(k:Nat) (l:L) (i:Nat),(Lex.scan k l i).1.length<=l.length
 |0,l,i=>by simp[Lex.scan]
 |k+1,[],i=>by simp[Lex.scan]
 |k+1,c :: r,i=>by
  cases ht:Lex.tok1 (c :: r) with
  |err o e=>rw[Lex.FC (by simp) ht];simp
  |tok kd tx nm n=>
   obtain⟨t1,t2⟩:=Lex.Px ht;have ih:=abt k ((c :: r).drop (n+Lex.gap false ((c :: r).drop n))) (i+n+Lex.gap false ((c :: r).drop n));rw[Lex.FB ht rfl,ae7];rw[ae1]at ih;omega
def UE (s:L):(Lex.read s).1.length<=16777216:=by
 unfold Lex.read
 split
 ·simp
 have:=abt (s.length+1) (s.drop (Lex.gap false s)) (0+Lex.gap false s);unfold Lex.body;rw[ae1]at this;omega
def KL: ∀(k:Nat) (l:L) (i:Nat) {p e:Nat},(Lex.scan k l i).2=some (p,e)->e≠0
 |0,l,i,p,e,h=>by simp[Lex.scan]at h
 |k+1,[],i,p,e,h=>by simp[Lex.scan]at h
 |k+1,c :: r,i,p,e,h=>by
  cases ht:Lex.tok1 (c :: r) with
  |err o e'=>
   rw[Lex.FC (by simp) ht]at h
   have:=(Lex.Py (by simp) ht).1
   cases h;exact this
  |tok kd tx nm n=>
   rw[Lex.FB ht rfl]at h;exact KL k _ _ h
def UF {s:L} {p e:Nat} (h:(Lex.read s).2=some (p,e)):e≠0:=by
 unfold Lex.read at h
 split at h
 ·cases h;decide
 exact KL _ _ _ h
def Tail (r l:T):Prop:= ∃p,l=p++r
def Tail.refl (l:T):Tail l l:=⟨[],rfl⟩
def Tail.trans {a b c:T} (h:Tail a b) (k:Tail b c):Tail a c:=by
 obtain⟨p,rfl⟩:=h;obtain⟨q,rfl⟩:=k;exact⟨q++p,by rw[afu]⟩
def Tail.ok {r l:T} (h:Tail r l) (ok: ∀t∈l,lS t): ∀t∈r,lS t:=by
 obtain⟨p,rfl⟩:=h;exact fun t ht=>ok t (apZ _ ht)
def Tail.len {r l:T} (h:Tail r l):r.length<=l.length:=by
 obtain⟨p,rfl⟩:=h;rw[aeo];omega
def iM {m:L} {l r:T} (h:mark m l=some r):Tail r l/\r.length+1=l.length:=by
 cases l with
 |nil=>simp[mark]at h
 |cons t r'=>
  rw[mark]at h
  split at h
  ·cases h
   exact⟨⟨[t],rfl⟩,rfl⟩
  cases h
def Bv {w:L} {l r:T} (h:dS l=some (w,r)) (ok: ∀t∈l,lS t):Tail r l/\w.length<=16777216/\r.length+1=l.length/\w≠ []:=by
 cases l with
 |nil=>simp[dS]at h
 |cons t r'=>
  rw[dS]at h
  split at h
  ·rename_i hk
   cases h;exact⟨⟨[t],rfl⟩,(ok t (by simp)).len,rfl,(ok t (by simp)).word hk⟩
  cases h
def UG {k n:Int} {t:L} {l r:T} (h:mZ l=some ((k,n,t),r)) (ok: ∀t∈l,lS t):Tail r l/\1<=k/\k<=4/\au.In64 n/\t.length<=16777216/\r.length+1=l.length:=by
 cases l with
 |nil=>simp[mZ]at h
 |cons u r'=>
  have hu:=ok u (by simp)
  rw[mZ]at h;have hi0:au.In64 0:=FM;have hi1:au.In64 1:=⟨by decide,by decide⟩
  repeat' split at h
  all_goals first
   |(cases h;done)
   |(cases h;exact⟨⟨[u],rfl⟩,by omega,by omega,by first|assumption|exact hu.num,by first|exact hu.len|simp,rfl⟩)
structure L8 (v:au.V):Prop where
 kin:1<=v.kind/\v.kind<=8
 num:au.In64 v.num
 nums: ∀n∈v.nums,au.In64 n
 tl:v.text.length<=16777216
 nl:v.nums.length<=16777216
 sl:v.texts.length<=16777216
 sz: ∀t∈v.texts,t.length<=16777216
def abu {k:Int}: ∀(f:Nat) (l:T) (ns:List Int) (ts:List L) {x:List Int×List L} {r:T},elems k f l ns ts=some (x,r)->(∀t∈l,lS t)->(∀n∈ns,au.In64 n)->(∀t∈ts,t.length<=16777216)->
  Tail r l/\(∀n∈x.1,au.In64 n)/\(∀t∈x.2,t.length<=16777216)/\x.1.length+r.length<=ns.length+l.length/\x.2.length+r.length<=ts.length+l.length
 |0,l,ns,ts,x,r,h,_,_,_=>by simp[elems]at h
 |f+1,l,ns,ts,x,r,h,ok,hn,ht=>by
  rw[elems]at h
  split at h
  ·cases h
  rename_i j n t r1 hs;obtain⟨t1,-,-,q3,q4,e1⟩:=UG hs ok
  have hn': ∀m∈(if k=4 then ns else ns++[n]),au.In64 m:=fun m hm=>by
   split at hm
   ·exact hn m hm
   rcases afq.1 hm with hm|hm
   ·exact hn m hm
   rw[afm.1 hm];exact q3
  have ht': ∀m∈(if k=4 then ts++[t] else ts),m.length<=16777216:=fun m hm=>by
   split at hm
   ·rcases afq.1 hm with hm|hm
    ·exact ht m hm
    rw[afm.1 hm];exact q4
   exact ht m hm
  have hnl:(if k=4 then ns else ns++[n]).length<=ns.length+1:=by split<;>simp
  have htl:(if k=4 then ts++[t] else ts).length<=ts.length+1:=by split<;>simp
  split at h
  ·cases h
  split at h
  ·rename_i r' hm
   obtain⟨t2,e2⟩:=iM hm;cases h;exact⟨t2.trans t1,hn',ht',by show(if k=4 then ns else ns++[n]).length+_<=_;omega,by show(if k=4 then ts++[t] else ts).length+_<=_;omega⟩
  split at h
  ·cases h
  rename_i r' hm;obtain⟨t2,e2⟩:=iM hm;obtain⟨t3,q5,q6,q7,q8⟩:=abu f _ _ _ h ((t2.trans t1).ok ok) hn' ht';exact⟨t3.trans (t2.trans t1),q5,q6,by omega,by omega⟩
def aa8 {w:L} (h:kindOf w≠0):1<=kindOf w/\kindOf w<=4:=by
 unfold kindOf at h⊢
 repeat' split
 all_goals first|omega|(exfalso;apply h;simp_all)
def abv {v:au.V} {l r:T} (h:pq l=some (v,r)) (ok: ∀t∈l,lS t) (hl:l.length<=16777216):Tail r l/\L8 v/\r.length<l.length:=by
 unfold pq at h
 split at h
 ·cases hs:mZ l with
  |none=>rw[hs]at h;cases h
  |some x=>
   obtain⟨⟨k,n,t⟩,r1⟩:=x;rw[hs]at h;cases h;obtain⟨t1,k1,k2,q3,q4,e1⟩:=UG hs ok;refine⟨t1,⟨⟨k1,by show k<=8;omega⟩,q3,by simp,q4,by simp,by simp,by simp⟩, ?_⟩
   show r1.length<_
   omega
 rename_i r1 h1;obtain⟨t1,e1⟩:=iM h1
 split at h
 ·cases h
 rename_i r2 h2;obtain⟨t2,e2⟩:=iM h2
 split at h
 ·cases h
 rename_i w r3 h3;obtain⟨t3,-,e3,-⟩:=Bv h3 ((t2.trans t1).ok ok);have Gn:=t3.trans (t2.trans t1)
 split at h
 ·cases h
 rename_i hk;have hkr:=aa8 hk
 split at h
 ·rename_i r4 h4
  obtain⟨t4,e4⟩:=iM h4;cases h;exact⟨t4.trans Gn,⟨⟨by show 1<=kindOf w+4;omega,by show kindOf w+4<=8;omega⟩,FM,by simp,by simp,by simp,by simp,by simp⟩,by omega⟩
 cases hs:elems (kindOf w) (r3.length+1) r3 [] [] with
 |none=>rw[hs]at h;cases h
 |some x=>
  obtain⟨⟨a,b⟩,r5⟩:=x;rw[hs]at h;cases h;obtain⟨t5,q1,q2,q3,q4⟩:=abu _ _ _ _ hs (Gn.ok ok) (by simp) (by simp)
  simp only[afQ]at q3 q4;refine⟨t5.trans Gn,⟨⟨by show 1<=kindOf w+4;omega,by show kindOf w+4<=8;omega⟩,FM,q1,by simp, ?_, ?_,q2⟩, ?_⟩
  ·show a.length<=_;omega
  ·show b.length<=_;omega
  have:=t5.len
  show r5.length<_
  omega
structure rV (p:Gr.P):Prop where
 key:p.key.length<=16777216
 val:L8 p.val
def abw: ∀(f:Nat) (l:T) (acc:List Gr.P) {ps:List Gr.P} {r:T},zQ f l acc=some (ps,r)->(∀t∈l,lS t)->l.length<=16777216->(∀p∈acc,rV p)->
  Tail r l/\(∀p∈ps,rV p)/\ps.length+r.length<=acc.length+l.length
 |0,l,acc,ps,r,h,_,_,_=>by simp[zQ]at h
 |f+1,l,acc,ps,r,h,ok,hl,hp=>by
  rw[zQ]at h
  split at h
  ·cases h
  rename_i k r1 h1;obtain⟨t1,w1,e1,-⟩:=Bv h1 ok
  split at h
  ·cases h
  rename_i r2 h2;obtain⟨t2,e2⟩:=iM h2;have t12:=t2.trans t1
  split at h
  ·cases h
  rename_i v r3 h3;obtain⟨t3,v3,e3⟩:=abv h3 (t12.ok ok) (by omega)
  have Gn:=t3.trans t12
  have hp': ∀p∈acc++[⟨k,v⟩],rV p:=fun p hm=>by
   rcases afq.1 hm with hm|hm
   ·exact hp p hm
   rw[afm.1 hm];exact⟨w1,v3⟩
  split at h
  ·rename_i r4 h4
   obtain⟨t4,e4⟩:=iM h4;cases h;exact⟨t4.trans Gn,hp',by rw[aeo,afP];omega⟩
  split at h
  ·cases h
  rename_i r4 h4;obtain⟨t4,e4⟩:=iM h4;obtain⟨t5,q1,q2⟩:=abw f _ _ h ((t4.trans Gn).ok ok) (by omega) hp'
  rw[aeo,afP]at q2;exact⟨t5.trans (t4.trans Gn),q1,by omega⟩
def abx {ps:List Gr.P} {l r:T} (h:qx l=some (ps,r)) (ok: ∀t∈l,lS t) (hl:l.length<=16777216):Tail r l/\(∀p∈ps,rV p)/\ps.length<=16777216:=by
 unfold qx at h
 split at h
 ·cases h
  exact⟨Tail.refl _,by simp,by simp⟩
 rename_i r1 h1;obtain⟨t1,e1⟩:=iM h1
 split at h
 ·rename_i r2 h2
  obtain⟨t2,e2⟩:=iM h2;cases h;exact⟨t2.trans t1,by simp,by simp⟩
 obtain⟨t2,q1,q2⟩:=abw _ _ _ h (t1.ok ok) (by omega) (by simp)
 simp only[afQ]at q2;exact⟨t2.trans t1,q1,by omega⟩
def aby: ∀(f:Nat) (l:T) (acc:List L) {ls:List L} {r:T},sU f l acc=some (ls,r)->(∀t∈l,lS t)->(∀x∈acc,x.length<=16777216)->
  Tail r l/\(∀x∈ls,x.length<=16777216)/\ls.length+r.length<=acc.length+l.length
 |0,l,acc,ls,r,h,_,_=>by simp[sU]at h
 |f+1,l,acc,ls,r,h,ok,hp=>by
  rw[sU]at h
  split at h
  ·cases h
   exact⟨Tail.refl _,hp,by omega⟩
  rename_i r1 h1;obtain⟨t1,e1⟩:=iM h1
  split at h
  ·cases h
  rename_i w r2 h2;obtain⟨t2,w2,e2,n2⟩:=Bv h2 (t1.ok ok)
  obtain⟨t3,q1,q2⟩:=aby f _ _ h ((t2.trans t1).ok ok) (fun x hm=>by
   rcases afq.1 hm with hm|hm
   ·exact hp x hm
   rw[afm.1 hm];exact w2)
  rw[aeo,afP]at q2;exact⟨t3.trans (t2.trans t1),q1,by omega⟩
structure rH (p:aI):Prop where
 first:p.first.length<=16777216
 word:p.word.length<=16777216
 other:p.other.length<=16777216
 nl:p.names.length<=16777216
 ns: ∀x∈p.names,x.length<=16777216
 pl:p.props.length<=16777216
 ps: ∀x∈p.props,rV x
 one:p.rel=true-> ∃x,p.names=[x]
 rw_:p.rel=true↔p.word≠ []
def ajw {p:aI} {fw:L} {l r:T} (h:IJ fw l=some (p,r)) (hf:fw.length<=16777216) (ok: ∀t∈l,lS t) (hl:l.length<=16777216):Tail r l/\rH p/\p.rel=true/\p.first=fw:=by
 unfold IJ at h
 split at h
 ·cases h
 rename_i l1 h1;obtain⟨t1,e1⟩:=iM h1
 split at h
 ·cases h
 rename_i w l2 h2;obtain⟨t2,w2,e2,n2⟩:=Bv h2 (t1.ok ok);have t2:=t2.trans t1
 split at h
 ·cases h
 rename_i l3 h3;obtain⟨t3,e3⟩:=iM h3;have t3:=t3.trans t2
 split at h
 ·cases h
 rename_i ty l4 h4;obtain⟨t4,w4,e4,-⟩:=Bv h4 (t3.ok ok);have t4:=t4.trans t3
 split at h
 ·cases h
 rename_i ps l5 h5;obtain⟨t5,q1,q2⟩:=abx h5 (t4.ok ok) (by omega)
 have t5:=t5.trans t4
 split at h
 ·cases h
 rename_i l6 h6;obtain⟨t6,e6⟩:=iM h6;have t6:=t6.trans t5
 split at h
 ·cases h
 rename_i l7 h7;obtain⟨t7,e7⟩:=iM h7;have t7:=t7.trans t6
 split at h
 ·cases h
 rename_i l8 h8;obtain⟨t8,e8⟩:=iM h8;have t8:=t8.trans t7
 split at h
 ·cases h
 rename_i o l9 h9;obtain⟨t9,w9,e9,-⟩:=Bv h9 (t8.ok ok);have t9:=t9.trans t8;cases hm:mark [41] l9 with
 |none=>rw[hm]at h;cases h
 |some l10=>
  rw[hm]at h;cases h;obtain⟨t10,e10⟩:=iM hm;exact⟨t10.trans t9,⟨hf,w2,w9,by simp,fun x hx=>by rw[afm.1 hx];exact w4,q2,q1,fun _=>⟨ty,rfl⟩,by simp[n2]⟩,rfl,rfl⟩
def abz {p:aI} {l r:T} (h:wM l=some (p,r)) (ok: ∀t∈l,lS t) (hl:l.length<=16777216):Tail r l/\rH p/\r.length<l.length:=by
 unfold wM at h
 split at h
 ·cases h
 rename_i l1 h1;obtain⟨t1,e1⟩:=iM h1
 split at h
 ·cases h
 rename_i w l2 h2;obtain⟨t2,w2,e2,n2⟩:=Bv h2 (t1.ok ok);have t2:=t2.trans t1
 split at h
 ·cases h
 rename_i ls l3 h3;obtain⟨t3,q1,q2⟩:=aby _ _ _ h3 (t2.ok ok) (by simp)
 have QN:=t3.trans t2;have:=t3.len;simp only[afQ]at q2
 split at h
 ·cases h
 rename_i ps l4 h4;obtain⟨t4,q3,q4⟩:=abx h4 (QN.ok ok) (by omega)
 have:=t4.len;have t4:=t4.trans QN
 split at h
 ·cases h
 rename_i l5 h5;obtain⟨t5,e5⟩:=iM h5;have t5:=t5.trans t4;have hsz:rH ⟨false,w,[],[],ls,ps⟩:=⟨w2,by simp,by simp,by show ls.length<=_;omega,q1,q4,q3,fun e=>absurd e (by simp),by simp⟩
 split at h
 ·cases h
  exact⟨t5,hsz,by omega⟩
 split at h
 ·cases h
  exact⟨t5,hsz,by omega⟩
 rename_i l6 h6;obtain⟨t6,e6⟩:=iM h6;obtain⟨t7,q5,-⟩:=ajw h w2 ((t6.trans t5).ok ok) (by omega)
 have:=t7.len;exact⟨t7.trans (t6.trans t5),q5,by omega⟩
def abA: ∀(f:Nat) (l:T) (acc:List aI) {ps:List aI} {r:T},pats f l acc=some (ps,r)->(∀t∈l,lS t)->l.length<=16777216->(∀p∈acc,rH p)->
  Tail r l/\(∀p∈ps,rH p)/\ps.length+r.length<=acc.length+l.length/\r.length<l.length
 |0,l,acc,ps,r,h,_,_,_=>by simp[pats]at h
 |f+1,l,acc,ps,r,h,ok,hl,hp=>by
  rw[pats]at h
  split at h
  ·cases h
  rename_i p r1 h1;obtain⟨t1,p1,e1⟩:=abz h1 ok hl
  have hp': ∀x∈acc++[p],rH x:=fun x hm=>by
   rcases afq.1 hm with hm|hm
   ·exact hp x hm
   rw[afm.1 hm];exact p1
  split at h
  ·rename_i r2 h2
   obtain⟨t2,e2⟩:=iM h2;cases h;exact⟨t2.trans t1,hp',by rw[aeo,afP];omega,by omega⟩
  split at h
  ·cases h
  rename_i r2 h2;obtain⟨t2,e2⟩:=iM h2;obtain⟨t3,q1,q2,q3⟩:=abA f _ _ h ((t2.trans t1).ok ok) (by omega) hp'
  rw[aeo,afP]at q2;exact⟨t3.trans (t2.trans t1),q1,by omega,by omega⟩
def abB: ∀(f:Nat) (l:T) (acc:List aI) {ps:List aI},script f l acc=some ps->(∀t∈l,lS t)->l.length<=16777216->(∀p∈acc,rH p)->
  (∀p∈ps,rH p)/\ps.length<=acc.length+l.length
 |0,l,acc,ps,h,_,_,_=>by simp[script]at h
 |f+1,[],acc,ps,h,_,_,hp=>by
  simp only[script,afs]at h;subst h;exact⟨hp,by omega⟩
 |f+1,t :: l,acc,ps,h,ok,hl,hp=>by
  rw[script]at h
  split at h
  ·split at h
   ·cases h
   rename_i acc' r h1;have ok': ∀t∈l,lS t:=fun x hx=>ok x (ahj _ hx)
   rw[ae7]at hl;obtain⟨t1,q1,q2,q3⟩:=abA _ _ _ h1 ok' (by omega) hp
   obtain⟨q4,q5⟩:=abB f _ _ h (t1.ok ok') (by omega) q1
   exact⟨q4,by rw[ae7];omega⟩
  cases h
def UH {l:T} {ps:List aI} (h:patterns l=some ps) (ok: ∀t∈l,lS t) (hl:l.length<=16777216):(∀p∈ps,rH p)/\ps.length<=l.length:=by
 have:=abB _ _ _ h ok hl (by simp)
 simpa using this
structure WB (n:Gr.N):Prop where
 lo:0<=n.id
 hi:n.id<1024
 ll:n.labels.length<=16777216
 ls: ∀l∈n.labels,l.length<=16777216
 pl:n.props.length<=16777216
 ps: ∀p∈n.props,rV p
structure WC (n:Gr.R):Prop where
 lo:0<=n.id
 hi:n.id<2048
 tl:n.type.length<=16777216
 src:0<=n.src/\n.src<1024
 dst:0<=n.dst/\n.dst<1024
 pl:n.props.length<=16777216
 ps: ∀p∈n.props,rV p
structure qP (g:Gr.G):Prop where
 ns: ∀n∈g.nodes,WB n
 rs: ∀n∈g.ay,WC n
 nd:(g.nodes.map Gr.N.id).Nodup
 rd:(g.ay.map Gr.R.id).Nodup
def KN {c:UInt8} {m n:Int} {w:L} (h:nM c m w=some n):0<=n/\n<m:=by
 cases w with
 |nil=>simp[nM]at h
 |cons d r=>
  simp only[nM]at h
  split at h
  ·rename_i hc
   cases h;exact hc.2.2
  cases h
def abC {g:Gr.G} {w:L}:0<=(endP g w).1/\(endP g w).1<1024:=by
 unfold endP
 split
 ·exact⟨by simp,by simp⟩
 rename_i n h;have:=KN h
 split
 ·exact this
 exact⟨by simp,by simp⟩
def KO {α:Type} {l:List α} {a:α} (h:l.Nodup) (ha:a∉l):(l++[a]).Nodup:=by
 rw[List.nodup_append];exact⟨h,by simp,fun x hx y hy e=>ha (by rw[afm.1 hy]at e;rw[<-e];exact hx)⟩
def UJ {g:Gr.G} {p:aI} (hg:qP g) (hp:rH p):qP (add g p).1:=by
 unfold add
 split
 ·rename_i hr
  unfold zS
  split
  ·exact hg
  split
  ·exact hg
  rename_i n hn
  split
  ·exact hg
  rename_i hid
  split
  ·exact hg
  split
  ·exact hg
  have hi:=KN hn;refine⟨hg.ns,fun x hx=> ?_,hg.nd, ?_⟩
  ·rcases afq.1 hx with hx|hx
   ·exact hg.rs x hx
   rw[afm.1 hx];obtain⟨y,hy⟩:=hp.one hr;refine⟨hi.1,hi.2, ?_,abC,abC,hp.pl,hp.ps⟩
   show(p.names.headD []).length<=_
   have:=hp.ns y (by rw[hy];simp)
   rw[hy];exact this
  show((g.ay++[_]).map Gr.R.id).Nodup
  rw[afg];exact KO hg.rd hid
 unfold addNode
 split
 ·exact hg
 rename_i n hn
 split
 ·exact hg
 rename_i hid
 split
 ·exact hg
 have hi:=KN hn;refine⟨fun x hx=> ?_,hg.rs, ?_,hg.rd⟩
 ·rcases afq.1 hx with hx|hx
  ·exact hg.ns x hx
  rw[afm.1 hx];exact⟨hi.1,hi.2,hp.nl,hp.ns,hp.pl,hp.ps⟩
 show((g.nodes++[_]).map Gr.N.id).Nodup
 rw[afg];exact KO hg.nd hid
def Qd:qP Gr.G0:=⟨by simp[Gr.G0],by simp[Gr.G0],by simp[Gr.G0],by simp[Gr.G0]⟩
def abD: ∀(ps:List aI) (g:Gr.G),qP g->(∀p∈ps,rH p)->qP (make g ps).1
 |[],g,hg,_=>hg
 |p :: ps,g,hg,hp=>by
  rw[make]
  split
  ·exact Qd
  exact abD ps _ (UJ hg (hp p (by simp))) (fun x hx=>hp x (ahj _ hx))
def few {l:List Int} {m:Nat} (h: ∀x∈l,0<=x/\x<m) (hd:l.Nodup):l.length<=m:=by
 have h2:(l.map Int.toNat).Nodup:=by
  unfold List.Nodup;rw[apG];refine List.Pairwise.imp_of_mem (fun {a b} ha hb hab e=>hab ?_) hd
  have:=h a ha;have:=h b hb;omega
 have hs:=h2.length_le_of_subset (l₂:=List.range m) fun x hx=>by
  obtain⟨y,hy,rfl⟩:=ant.1 hx;have:=h y hy;exact aou.2 (by omega)
 rwa [aeP,aqR]at hs
def qP.lens {g:Gr.G} (h:qP g):g.nodes.length<=1024/\g.ay.length<=2048:=by
 constructor
 ·have:=few (m:=1024) (fun x hx=>by obtain⟨n,hn,rfl⟩:=ant.1 hx;exact⟨(h.ns n hn).lo,(h.ns n hn).hi⟩) h.nd
  rwa [aeP]at this
 have:=few (m:=2048) (fun x hx=>by obtain⟨n,hn,rfl⟩:=ant.1 hx;exact⟨(h.rs n hn).lo,(h.rs n hn).hi⟩) h.rd
 rwa [aeP]at this
def Qe {α κ:Type} (le:κ->κ->Bool) (key:α->κ) (l:List α):(Gr.mY le key l).Perm l:=ag8 _ _
def UK {g:Gr.G} (h:qP g):qP (Gr.canon g):=by
 have pn:=Qe (fun a b:Int=>decide (a<=b)) Gr.N.id (g.nodes.map Gr.sQ)
 have pr:=Qe (fun a b:Int=>decide (a<=b)) Gr.R.id (g.ay.map Gr.vH)
 have pp:=fun ps:List Gr.P=>Qe (fun a b:L=>decide (a<=b)) Gr.P.key ps
 refine⟨fun n hn=> ?_,fun n hn=> ?_, ?_, ?_⟩
 ·obtain⟨m,hm,rfl⟩:=ant.1 (pn.mem_iff.1 hn)
  have hz:=h.ns m hm;have pl:=Qe (fun a b:L=>decide (a<=b)) id m.labels
  exact⟨hz.lo,hz.hi,aep (aog pl.length_eq) hz.ll,fun l hl=>hz.ls l (pl.mem_iff.1 hl),
   aep (aog (pp m.props).length_eq) hz.pl,fun p hp=>hz.ps p ((pp m.props).mem_iff.1 hp)⟩
 ·obtain⟨m,hm,rfl⟩:=ant.1 (pr.mem_iff.1 hn)
  have hz:=h.rs m hm;exact⟨hz.lo,hz.hi,hz.tl,hz.src,hz.dst,aep (aog (pp m.props).length_eq) hz.pl,fun p hp=>hz.ps p ((pp m.props).mem_iff.1 hp)⟩
 ·refine(pn.map Gr.N.id).nodup_iff.2 ?_
  rw[ahs];exact h.nd
 refine(pr.map Gr.R.id).nodup_iff.2 ?_;rw[ahs];exact h.rd
def UL {s:L} {g:Gr.G} {e:Nat} (h:parse s=(g,e)):qP g/\(e=0->Fine g)/\(e≠0->g=Gr.G0):=by
 have hg0:qP Gr.G0:=Qd;unfold parse at h
 split at h
 ·rename_i p e' he
  cases h;exact⟨hg0,fun e0=>absurd e0 (UF he),fun _=>rfl⟩
 split at h
 ·cases h
  exact⟨hg0,fun e0=>absurd e0 (by decide),fun _=>rfl⟩
 rename_i ps hps
 split at h
 ·rename_i hm
  cases h;exact⟨hg0,fun e=>absurd e hm,fun _=>rfl⟩
 split at h
 ·rename_i hc
  cases h;exact⟨hg0,fun e=>absurd e hc,fun _=>rfl⟩
 rename_i hc;cases h;have hsz:=UK (abD ps Gr.G0 hg0 (UH hps (UD s) (UE s)).1);refine⟨hsz,fun _=>⟨Gr.ajs.1 (asJ.1 hc),fun p hp=> ?_⟩,fun e=>absurd rfl e⟩
 unfold Gr.jr at hp
 have hv:L8 p.val:=by
  rcases afq.1 hp with hp|hp
  ·obtain⟨n,hn,hq⟩:=ahd.1 hp
   exact((hsz.ns n hn).ps p hq).val
  obtain⟨n,hn,hq⟩:=ahd.1 hp;exact((hsz.rs n hn).ps p hq).val
 exact⟨hv.num,hv.nums⟩
end Go.Proofs.YtdijgcnlbfgkdaaGreatDoor.Cy
namespace Go.Proofs.YtdijgcnlbfgkdaaGreatDoor
open Go.RowKit Go.Proofs.Tryz
def dD {α:Type} (W:World) (B size:Nat) (R:α->List Value->Prop) (A:Option Addr) (l:List α):Prop:=
 ∀(i:Nat) (a:α),l[i]?=some a-> ∃b off cs,A=some ⟨b,off,none⟩/\b<B/\R a cs/\cs.length=size/\ ∀(j:Nat) u,cs[j]?=some u->W.cell? ⟨b,off+i*size+j,none⟩=some u
def dD.below {α:Type} {W W':World} {B size:Nat} {R R':α->List Value->Prop} {A:Option Addr} {l:List α} (h:dD W B size R A l) (hb:Below B W W') (hR: ∀a cs,R a cs->R' a cs):dD W' B size R' A l:=fun i a ha=>by
 obtain⟨b,off,cs,e,hlt,hr,hl,hc⟩:=h i a ha;exact⟨b,off,cs,e,hlt,hR _ _ hr,hl,fun j u hu=>(hb.cell (by exact hlt)).trans (hc j u hu)⟩
def dD.nil {α:Type} {W:World} {B size:Nat} {R:α->List Value->Prop} {A:Option Addr}:dD W B size R A []:=fun i a ha=>by simp at ha
def dD.dZ {α:Type} {W:World} {base e size c:Nat} {R:α->List Value->Prop} {A:Option Addr} {l:List α} {f:α->List Value} (h:W.ownsRow base e size (.slice A l.length c) l.length (l.flatMap f)) (hf: ∀a∈l,(f a).length=size) (hR: ∀a∈l,R a (f a)):dD W W.heap.size size R A l:=fun i a ha=>by
 obtain⟨hi,hia⟩:=aeK.1 ha;obtain⟨b,off,e,hb,hc⟩:=(Reads.dZ h).2 (by omega)
 have hm:a∈l:=aew ha;refine⟨b,off,f a,e,hb,hR a hm,hf a hm,fun j u hu=> ?_⟩
 have hj:j<size:=by have:=(aeK.1 hu).1;rw[hf a hm]at this;exact this
 have key: ∀(l:List α) (i:Nat) (a:α),(∀a∈l,(f a).length=size)->l[i]?=some a->(f a)[j]?=some u->(l.flatMap f)[i*size+j]?=some u:=by
  intro l
  induction l with
  |nil=>intro i a _ h;simp at h
  |cons x r ih=>
   intro i a hf h hu;rw[agF];have hx:(f x).length=size:=hf x (by simp)
   cases i with
   |zero=>
    simp only[aev,afs]at h;subst h;rw[aop,agO,anD (by omega)]
    exact hu
   |succ i=>
    rw[ag1 (by rw[hx,an1];omega)]
    have:=ih i a (fun a ha=>hf a (by simp[ha])) (by simpa using h) hu
    rw[hx,show(i+1)*size+j - size=i*size+j by rw[an1];omega]
    exact this
 have:=hc _ u (key l i a hf ha hu)
 rwa [<-anL]at this
def bg (W:World) (B:Nat) (p:Gr.P) (cs:List Value):Prop:=
 ∃An cn At ct,cs=[ST p.key,.int .i64 p.val.kind,.int .i64 p.val.num,ST p.val.text,.slice An p.val.nums.length cn,.slice At p.val.texts.length ct]/\Reads W B 1 An p.val.nums.length (p.val.nums.map I64)/\Reads W B 1 At p.val.texts.length (p.val.texts.map ST)
def lT (W:World) (B:Nat) (n:Gr.N) (cs:List Value):Prop:=
 ∃Al cl Ap cp,cs=[.int .i64 n.id,.slice Al n.labels.length cl,.slice Ap n.props.length cp]/\Reads W B 1 Al n.labels.length (n.labels.map ST)/\dD W B 6 (bg W B) Ap n.props
def lU (W:World) (B:Nat) (r:Gr.R) (cs:List Value):Prop:=
 ∃Ap cp,cs=[.int .i64 r.id,ST r.type,.int .i64 r.src,.int .i64 r.dst,.slice Ap r.props.length cp]/\dD W B 6 (bg W B) Ap r.props
def bg.below {W W':World} {B:Nat} (hb:Below B W W') (p:Gr.P) (cs:List Value) (h:bg W B p cs):bg W' B p cs:=by
 obtain⟨An,cn,At,ct,e,h1,h2⟩:=h;exact⟨An,cn,At,ct,e,h1.below hb,h2.below hb⟩
def lT.below {W W':World} {B:Nat} (hb:Below B W W') (n:Gr.N) (cs:List Value) (h:lT W B n cs):lT W' B n cs:=by
 obtain⟨Al,cl,Ap,cp,e,h1,h2⟩:=h;exact⟨Al,cl,Ap,cp,e,h1.below hb,h2.below hb (bg.below hb)⟩
def lU.below {W W':World} {B:Nat} (hb:Below B W W') (r:Gr.R) (cs:List Value) (h:lU W B r cs):lU W' B r cs:=by
 obtain⟨Ap,cp,e,h2⟩:=h;exact⟨Ap,cp,e,h2.below hb (bg.below hb)⟩
def bg.more {W:World} {B B':Nat} (hb:B<=B') (p:Gr.P) (cs:List Value) (h:bg W B p cs):bg W B' p cs:=by
 obtain⟨An,cn,At,ct,e,h1,h2⟩:=h;exact⟨An,cn,At,ct,e,h1.more hb,h2.more hb⟩
structure vT (p:Gr.P):Prop where
 key:p.key.length<=1073741824
 val:QM p.val
structure QO (n:Gr.N):Prop where
 id:au.In64 n.id
 ll:n.labels.length<=1073741824
 ls: ∀l∈n.labels,l.length<=1073741824
 pl:n.props.length<=1073741824
 ps: ∀p∈n.props,vT p
structure WE (r:Gr.R):Prop where
 id:au.In64 r.id
 tl:r.type.length<=1073741824
 src:au.In64 r.src
 dst:au.In64 r.dst
 pl:r.props.length<=1073741824
 ps: ∀p∈r.props,vT p
structure Jl (g:Gr.G):Prop where
 nl:g.nodes.length<=1073741824
 ns: ∀n∈g.nodes,QO n
 rl:g.ay.length<=1073741824
 rs: ∀r∈g.ay,WE r
structure nN (W:World) (B:Nat) (u:Value) (g:Gr.G):Prop where
 ex: ∃An cn Ar cr,u=.agg #[.slice An g.nodes.length cn,.slice Ar g.ay.length cr]/\dD W B 3 (lT W B) An g.nodes/\dD W B 5 (lU W B) Ar g.ay
 ok:Jl g
def nN.below {W W':World} {B:Nat} {u:Value} {g:Gr.G} (h:nN W B u g) (hb:Below B W W'):nN W' B u g:=by
 obtain⟨An,cn,Ar,cr,e,h1,h2⟩:=h.ex;exact⟨⟨An,cn,Ar,cr,e,h1.below hb (lT.below hb),h2.below hb (lU.below hb)⟩,h.ok⟩
def ajx (s:ByteArray) (k:Nat):(s.extract k s.size).data.toList=s.data.toList.drop k:=by
 rw[aso,aeG];rw[ae1,<-aof];omega
def Qg (i o e:Nat):kC (.err o e) i=.agg #[.int .i64 0,.string ⟨#[]⟩,.int .i64 0,.int .i64 ((i+o:Nat):Int),.int .i64 0,.int .i64 (e:Int)]:=rfl
namespace Lex
def UM (g:Nat) (r:L) (o:Nat) (acc:L):Option (UInt8×Nat)->iG
 |none=> .err o 242
 |some (y,n)=>fG (g+1) (r.drop n) (o+1+n) (acc++[y])
def abE (g:Nat) (r:L) (o:Nat) (acc:L):fG (g+1+1) (92 :: r) o acc=UM g r o acc (esc r):=by
 simp only[fG];rw[aer (by decide),aer (by decide),anN]
 cases esc r with
 |none=>rfl
 |some x=>rfl
end Lex
def WG:Array Value:= #[.int .i64 0,.string ⟨#[]⟩,.int .i64 0,.int .i64 0,.int .i64 0,.int .i64 0]
structure ajy (s:ByteArray) (i:Nat) (R:Lex.iG) (w:World) (g k o:Nat) (acc:List UInt8) (wx:World):Prop where
 off:i+o=k
 meas:s.size - k<=g
 len:acc.length<=k
 le:k<=s.size
 text:Lex.fG (g+1) (s.data.toList.drop k) o acc=R
 bel:Below w.heap.size w wx
 blk:ak wx w.heap.size 156 #[.int .i64 0,.string ⟨#[]⟩,.int .i64 0,.int .i64 0,.int .i64 0,.int .i64 0]
 yK:oG (w.heap.size+1) (w.heap.size+1) acc wx
 big:w.heap.size+1<=wx.heap.size
def ajz (s:ByteArray) (i:Nat) (w:World) (hs:s.size<=1073741823) (hi:i<s.size):
  Calls prog 137 #[.string s,.int .i64 i] w (xZ (Lex.fG (s.size - i) (s.data.toList.drop (i+1)) 1 []) i w):=by
 obtain⟨R,hR⟩:=aj (Lex.fG (s.size - i) (s.data.toList.drop (i+1)) 1 []);rw[hR];have HR:=ah hR;clear hR;have hii:(i:Int)<s.size:=by omega
 go_enter func137,ntmps137;go_wp2
 go_loopg [6] (s.size -(i+1)) (fun g x wx=> ∃(k o:Nat) (acc:List UInt8),x=.int .i64 k/\ajy s i R w g k o acc wx)
 case atStart=>
  refine⟨i+1,1,[],int_eq' (by omega),⟨by omega,by omega,by simp,by omega, ?_, ?_, ?_, ?_, ?_⟩⟩
  ·rw[show s.size -(i+1)+1=s.size - i by omega];exact HR.out
  ·exact((aoa _ w).alloc (aej _) _).alloc (by simp) _
  ·exact(ak.new _ _ _).alloc _
  ·have:=oG.fresh (w.alloc (.cells #[.int .i64 0,.string ⟨#[]⟩,.int .i64 0,.int .i64 0,.int .i64 0,.int .i64 0] 156));simpa using this
  simp
 obtain⟨k,o,acc,rfl,hrel⟩:=hrel;have HQ:=ah hrel;have hsz:=hrel.big;have hkle:=hrel.le;have hki:(k:Int)<=1073741823:=by omega
 clear hrel;by_cases hlt:k<s.size
 ·have yF:(k:Int)<s.size:=by omega
  have t1:decide (k<s.size)=true:=aei hlt;cases gk with
  |zero=>have:=HQ.meas;omega
  |succ g=>
   have hst:=HQ.text;rw[jm hlt]at hst;obtain⟨c,hc⟩:=aj (s[k]'hlt);rw[hc]at hst;have hb:=byte_le c;by_cases bQ:c=39
   ·subst bQ
    have hR2:R=.tok 4 acc 0 (o+1):=hst.symm;have hend:((i+(o+1):Nat):Int)=(k:Int)+1:=by have:=HQ.off;omega
    have ht:kC R i=.agg #[.int .i64 4,.string ⟨acc.toArray⟩,.int .i64 0,.int .i64 i,.int .i64 ((k:Int)+1),.int .i64 0]:=by
     rw[hR2];simp only[kC];rw[hend];rfl
    have HT:=ah ht;clear hst hR2 hend ht;go_wp2_with fail;refine(aaZ (w.heap.size+1) (w.heap.size+1) acc wr HQ.yK hsz).mono ?_;rintro e w2 ⟨rfl,Gp,uM,-⟩;have hz2:=uM.size;have aP:=ah (HQ.blk.below uM (by omega))
    obtain⟨g0,g1,g2,g3,g4,g5,f0,f1,f2,f3,f4,f5⟩:=kU aP.out;have HB2:=ah (HQ.bel.trans (uM.mono (B':=w.heap.size) (by omega)))
    clear uM Gp;go_wp2;exact uq results137 rfl aP.out HB2.out HT.out
   have t39:(((c.toNat:Nat):Int) == 39)=false:=bq (k:=39) rfl (aek.2 bQ);by_cases eX:c=92
   ·subst eX
    obtain⟨z,hz⟩:=aj (s.extract (k+1) s.size);have hzd:z.data.toList=s.data.toList.drop (k+1):=by rw[<-hz,ajx]
    have hzl:z.data.toList.length=s.size -(k+1):=by rw[hzd,ae1,<-aof]
    have hzs:z.size<=1073741824:=by rw[aof,hzl];omega
    have WH:=fun(W:World)=>aiR z W hzs
    obtain⟨x,hx⟩:=aj (Lex.esc z.data.toList);rw[hx]at WH;have hst2:=Lex.abE g (s.data.toList.drop (k+1)) o acc;rw[<-hzd,hx,hzd]at hst2;rw[hst]at hst2;refine gq3 WH hx hzl fun HE HX yB=>?_;have aqQ:(k:Int)+1<=s.size:=by omega
    have BU:=ah HQ.blk;have iH:=ah HQ.bel;clear hst hzd hzl hzs WH hx t39;cases x with
    |none=>
     have hR2:R=.err o 242:=hst2;have hoff:((i+o:Nat):Int)=k:=by have:=HQ.off;omega
     have ht:kC R i=.agg #[.int .i64 0,.string ⟨#[]⟩,.int .i64 0,.int .i64 k,.int .i64 0,.int .i64 242]:=by
      rw[hR2,Qg,hoff];rfl
     have HT:=ah ht;clear hst2 hR2 hoff ht;go_wp2_with fail;refine(HE.out _).mono ?_;rintro e w1 ⟨hb1,c1,n1,rfl⟩;have hz1:=hb1.size;have Gq:=ah (BU.below hb1 (by omega))
     have xg:=ah (iH.trans (hb1.mono iH.size));clear hb1;go_wp2_with fail;refine mq7 (IE (k:Int) 242 _) fun w2 hb2=>?_;have hz2:=hb2.size;have aP:=ah (ak.below Gq.out hb2 (by omega))
     obtain⟨g0,g1,g2,g3,g4,g5,f0,f1,f2,f3,f4,f5⟩:=kU aP.out;have HB2:=ah (ati xg.out (hb2.mono xg.size));clear hb2;go_wp2;exact uq results137 rfl aP.out HB2.out HT.out
    |some x=>
     obtain⟨y,n⟩:=x;have hn:=Lex.Pv HX.out;rw[yB.out]at hn;have hst3:R=Lex.fG (g+1) ((s.data.toList.drop (k+1)).drop n) (o+1+n) (acc++[y]):=hst2;have HS:=ah hst3;have hyb:=byte_le y;have hLX:=HQ.yK;have jS:=ah hLX;have hal:=HQ.len;have hkn:(k:Int)+n<=s.size:=by omega
     clear hst2 hst3 hLX;go_wp2_with fail;refine(HE.out _).mono ?_;rintro e w1 ⟨hb1,rfl⟩;have hz1:=hb1.size;refine gq3 (BU.below hb1 (by omega)) (iH.trans (hb1.mono iH.size)) (jS.below hb1) fun Gq xg HLY=>?_
     clear hb1;go_wp2_with fail;refine(aaY (w.heap.size+1) (w.heap.size+1) acc (y.toNat:Int) _ HLY.out (by omega) (by omega) (by omega) (by omega)).mono ?_
     rintro e w2 ⟨rfl,Gp,uM,-⟩;have hz2:=uM.size;refine gq3 (Gq.below uM (by omega)) (xg.trans (uM.mono (B':=w.heap.size) (by omega))) Gp fun aP HB2 HL2=>?_
     clear uM Gp;go_wp2
     go_roundg g
     case measure=>omega
     refine⟨k+1+n,o+1+n,acc++[(y.toNat:Int).toNat.toUInt8],int_eq' (by omega),⟨by have:=HQ.off;omega,by have:=HQ.meas;omega,by rw[aeo,afP];omega,by omega, ?_,HB2.out,aP.out,HL2.out,by omega⟩⟩
     rw[byte_back,HS.out,ahu]
   have Gj:(((c.toNat:Nat):Int) == 92)=false:=bq (k:=92) rfl (aek.2 eX);have hu:=o9;by_cases ho:Lex.odd c=true
   ·have hR2:R=.err o 240:=by
     rw[<-hst];simp only[Lex.fG];rw[aer bQ,aeu ho]
    have hoff:((i+o:Nat):Int)=k:=by have:=HQ.off;omega
    have ht:kC R i=.agg #[.int .i64 0,.string ⟨#[]⟩,.int .i64 0,.int .i64 k,.int .i64 0,.int .i64 240]:=by
     rw[hR2,Qg,hoff];rfl
    refine gq3 ht HQ.blk HQ.bel fun HT BU iH=>?_;clear hst hR2 hoff ht bQ eX;by_cases h32:c.toNat<32
    ·have d1:decide ((c.toNat:Int)<32)=true:=aei (by omega)
     clear ho;go_wp2_with fail;refine mq7 (IE (k:Int) 240 _) fun w2 hb2=>?_;have hz2:=hb2.size;have aP:=ah (ak.below BU.out hb2 (by omega))
     obtain⟨g0,g1,g2,g3,g4,g5,f0,f1,f2,f3,f4,f5⟩:=kU aP.out;have HB2:=ah (ati iH.out (hb2.mono iH.size));clear hb2;go_wp2;exact uq results137 rfl aP.out HB2.out HT.out
    have d1:decide ((c.toNat:Int)<32)=false:=dF (by omega)
    have d2:decide (126<(c.toNat:Int))=true:=by
     simp only[Lex.odd]at ho;rw[dF h32,aoQ]at ho;have:=aeL ho;exact aei (by omega)
    clear ho;go_wp2_with fail;refine mq7 (IE (k:Int) 240 _) fun w2 hb2=>?_;have hz2:=hb2.size;have aP:=ah (ak.below BU.out hb2 (by omega))
    obtain⟨g0,g1,g2,g3,g4,g5,f0,f1,f2,f3,f4,f5⟩:=kU aP.out;have HB2:=ah (ati iH.out (hb2.mono iH.size));clear hb2;go_wp2;exact uq results137 rfl aP.out HB2.out HT.out
   have hodd:Lex.odd c=false:=by
    cases h:Lex.odd c with
    |false=>rfl
    |true=>exact absurd h ho
   have d1:decide ((c.toNat:Int)<32)=false:=by
    simp only[Lex.odd,Bool.or_eq_false_iff]at hodd;have:=aex hodd.1;exact dF (by omega)
   have d2:decide (126<(c.toNat:Int))=false:=by
    simp only[Lex.odd,Bool.or_eq_false_iff]at hodd;have:=aex hodd.2;exact dF (by omega)
   have hst2:Lex.fG (g+1) (s.data.toList.drop (k+1)) (o+1) (acc++[c])=R:=by
    rw[<-hst];exact(Lex.aay bQ hodd eX).symm
   refine gq4 hst2 HQ.blk HQ.bel HQ.yK fun HS BU iH jS=>?_;have hal:=HQ.len;clear hst hst2 ho hodd bQ eX;go_wp2_with fail;refine(aaY (w.heap.size+1) (w.heap.size+1) acc (c.toNat:Int) _ jS.out (by omega) (by omega) (by omega) (by omega)).mono ?_
   rintro e w2 ⟨rfl,Gp,uM,-⟩;have hz2:=uM.size;refine gq3 (BU.below uM (by omega)) (iH.trans (uM.mono (B':=w.heap.size) (by omega))) Gp fun aP HB2 HL2=>?_
   clear uM Gp;go_wp2
   go_roundg g
   case measure=>omega
   refine⟨k+1,o+1,acc++[(c.toNat:Int).toNat.toUInt8],int_eq' (by omega),⟨by have:=HQ.off;omega,by have:=HQ.meas;omega,by rw[aeo,afP];omega,by omega, ?_,HB2.out,aP.out,HL2.out,by omega⟩⟩
   rw[byte_back,HS.out]
 have t1:decide (k<s.size)=false:=dF hlt
 have hR2:R=.err 0 241:=by
  have:=HQ.text;rw[sO (by omega)]at this
  exact this.symm
 have ht:kC R i=.agg #[.int .i64 0,.string ⟨#[]⟩,.int .i64 0,.int .i64 i,.int .i64 0,.int .i64 241]:=by
  rw[hR2,Qg,agw];rfl
 refine gq3 ht HQ.blk HQ.bel fun HT BU iH=>?_;clear hR2 ht;go_wp2_with fail;refine mq7 (IE (i:Int) 241 _) fun w2 hb2=>?_;have hz2:=hb2.size;have aP:=ah (ak.below BU.out hb2 (by omega))
 obtain⟨g0,g1,g2,g3,g4,g5,f0,f1,f2,f3,f4,f5⟩:=kU aP.out;have HB2:=ah (ati iH.out (hb2.mono iH.size));clear hb2;go_wp2;exact uq results137 rfl aP.out HB2.out HT.out
end Go.Proofs.YtdijgcnlbfgkdaaGreatDoor
