/- Contracts and plain laws,part 25. -/
import Derived.Test.YtkdakckjafomhaaGreatDoorUW24
set_option maxHeartbeats 64000000
set_option maxRecDepth 1000000
set_option linter.all false
namespace Go.Proofs.YtkdakckjafomhaaGreatDoor
open Go.RowKit Go.Sort
structure Kt (T:TypeId) (base:Nat) (w w':World):Prop where
 bel:Below base w w'
 keep: ∀(b:Nat) (c:Array Value) (t:TypeId) (fz:Nat×Nat),w.heap[b]?=some (.cells c t fz)->t≠T->w'.heap[b]?=some (.cells c t fz)
theorem Kt.kp {T:TypeId} {base:Nat} {w w':World} (h:Kt T base w w') (hT:T=42\/T=44):Kp base w w':=
 ⟨h.bel,fun b c t fz hc _ h2 h3=>h.keep b c t fz hc (fun e=>hT.elim (fun h=>h2 (e.trans h)) (fun h=>h3 (e.trans h)))⟩
theorem Kt.of_below {T:TypeId} {base:Nat} {w w':World} (h:Below w.heap.size w w') (hb:base<=w.heap.size):Kt T base w w':=
 ⟨h.mono hb,fun b c t fz hc _=>(h.block b (adZ.1 hc).1).trans hc⟩
theorem Kt.trans {T:TypeId} {base:Nat} {a b c:World} (h:Kt T base a b) (k:Kt T base b c):Kt T base a c:=
 ⟨h.bel.trans k.bel,fun i cs t fz hc h1=>k.keep i cs t fz (h.keep i cs t fz hc h1) h1⟩
theorem Kt.row {T:TypeId} {base size n:Nat} {r:Value} {xs:List Value} {w w':World} (hr:w.ownsRow base T size r n xs) (hg:w.grownBy w' r.ownBlock) (hb:base<=w.heap.size):Kt T base w w':=
 ⟨(Below.refl base w).grown hg hb (fun k hk=>(World.ownsRow.lt hr k hk).1),fun b c t fz hc ht=>by
  rw[hg.block b (adZ.1 hc).1 ?_]
  ·exact hc
  intro e;obtain⟨_,c',hc'⟩:=tY hr b e.symm;rw[hc']at hc;cases hc
  exact ht rfl⟩
theorem Kt.new {T:TypeId} {base g:Nat} {w w1 w':World} (h:Kt T base w w1) (hg:w1.grownBy w' (some g)) (hw:w.heap.size<=g) (hb:base<=w.heap.size):Kt T base w w':=
 ⟨h.bel.grown hg (adg hb h.bel.size) (fun k hk=>by cases hk;exact adg hb hw),fun b c t fz hc ht=>by
  have hlt:b<w.heap.size:=(adZ.1 hc).1
  rw[hg.block b (adW hlt h.bel.size) (fun e=>by cases e;omega)]
  exact h.keep b c t fz hc ht⟩
theorem jf {T:TypeId} {base B e size n:Nat} {v:Value} {xs:List Value} {w w':World} (h:w.ownsRow B e size v n xs) (hk:Kt T base w w') (h1:e≠T):w'.ownsRow B e size v n xs:=by
 obtain⟨hl,h⟩:=h;refine⟨hl, ?_⟩
 rcases h with h|⟨g,cap,cur,hv,hb,hc,hr⟩
 ·exact .inl h
 exact .inr ⟨g,cap,cur,hv,hb,hk.keep _ _ _ _ hc h1,hr⟩
theorem Kt.blk {T t:TypeId} {base b:Nat} {cs:Array Value} {w w':World} (hk:Kt T base w w') (h:au w b t cs) (h1:t≠T):au w' b t cs:=hk.keep _ _ _ _ h h1
theorem je.len {w:World} {B:Nat} {x:Gr.N×List Value} (h:je w B x):x.2.length=3:=by
 obtain⟨s,t,e,-,-⟩:=h;rw[e];rfl
theorem jy.len {w:World} {B:Nat} {x:Gr.R×List Value} (h:jy w B x):x.2.length=5:=by
 obtain⟨s,e,-⟩:=h;rw[e];rfl
def dR (W:World) (B:Nat) (u:Value) (g:Gr.G):Prop:=
 ∃(sn sr:Value) (ln:List (Gr.N×List Value)) (lr:List (Gr.R×List Value)),u=.agg #[sn,sr]/\
  ln.map Prod.fst=g.nodes/\(∀x∈ln,je W B x)/\W.ownsRow B 42 3 sn g.nodes.length (ln.flatMap Prod.snd)/\
  lr.map Prod.fst=g.aA/\(∀x∈lr,jy W B x)/\W.ownsRow B 44 5 sr g.aA.length (lr.flatMap Prod.snd)
structure JZ (g:Gr.G):Prop where
 ni:(g.nodes.map Gr.N.id).Nodup
 ri:(g.aA.map Gr.R.id).Nodup
 np: ∀n∈g.nodes,(n.props.map Gr.P.key).Nodup
 rp: ∀r∈g.aA,(r.props.map Gr.P.key).Nodup
structure lU (w:World) (B:Nat) (g:Gr.G) (ob n m cn cr i j:Nat) (An Ar:Option Addr) (V:World):Prop where
 nx: ∃l1 l2:List (Gr.N×List Value),l1.length=i/\l1.map Prod.fst++l2.map (fun x=>Gr.ug x.1)=g.nodes.map Gr.ug/\(∀x∈l1,je V w.heap.size x)/\(∀x∈l2,x.1∈g.nodes/\iO w B x.1 x.2)/\V.ownsRow w.heap.size 42 3 (.slice An n cn) n ((l1++l2).flatMap Prod.snd)
 rx: ∃l1 l2:List (Gr.R×List Value),l1.length=j/\l1.map Prod.fst++l2.map (fun x=>Gr.uh x.1)=g.aA.map Gr.uh/\(∀x∈l1,jy V w.heap.size x)/\(∀x∈l2,x.1∈g.aA/\iP w B x.1 x.2)/\V.ownsRow w.heap.size 44 5 (.slice Ar m cr) m ((l1++l2).flatMap Prod.snd)
 out:au V ob 26 #[.slice An n cn,.slice Ar m cr]
 res:au V (w.heap.size+1) 26 #[.slice none 0 0,.slice none 0 0]
 ne:w.heap.size+1≠ob/\w.heap.size<=ob
 bel:Below w.heap.size w V
structure Rg (w:World) (a b:Value) (X:World):Prop where
 bel:Below w.heap.size w X
 k1:au X w.heap.size 26 #[a,b]
 k2:au X (w.heap.size+1) 26 #[.slice none 0 0,.slice none 0 0]
theorem Rg.alloc {w X:World} {a b:Value} (h:Rg w a b X) (o:Obj):Rg w a b (X.alloc o):=⟨h.bel.alloc h.bel.size o,h.k1.alloc o,h.k2.alloc o⟩
theorem Rg.below {w X Y:World} {a b:Value} (h:Rg w a b X) (hb:Below X.heap.size X Y):Rg w a b Y:=⟨h.bel.trans (hb.mono h.bel.size),h.k1.below hb h.k1.lt,h.k2.below hb h.k2.lt⟩
theorem lU.start {w X:World} {B:Nat} {g:Gr.G} {ob n m cn cr:Nat} {An Ar:Option Addr} {a b z0 z1:Value} {ln:List (Gr.N×List Value)} {lr:List (Gr.R×List Value)} (hn1:ln.map Prod.fst=g.nodes) (hn2: ∀x∈ln,iO w B x.1 x.2/\x.2.length=3) (hr1:lr.map Prod.fst=g.aA) (hr2: ∀x∈lr,iP w B x.1 x.2/\x.2.length=5)
  (h:Rg w a b X) (o1:X.ownsRow w.heap.size 42 3 (.slice An n cn) n (ln.flatMap Prod.snd)) (o2:X.ownsRow w.heap.size 44 5 (.slice Ar m cr) m (lr.flatMap Prod.snd)) (hz:au X ob 26 #[z0,z1]) (ho:w.heap.size+2<=ob):
  lU w B g ob n m cn cr 0 0 An Ar ((X.setCell ⟨ob,0,none⟩ (.slice An n cn)).setCell ⟨ob,1,none⟩ (.slice Ar m cr)):=by
 have hz1:=hz.bP 0 (.slice An n cn)
 refine⟨⟨[],ln,rfl,by rw[<-hn1];simp,by simp,fun x hx=>⟨by rw[<-hn1];exact afQ hx,(hn2 x hx).1⟩, ?_⟩,⟨[],lr,rfl,by rw[<-hr1];simp,by simp,fun x hx=>⟨by rw[<-hr1];exact afQ hx,(hr2 x hx).1⟩, ?_⟩, ?_, ?_,⟨by omega,by omega⟩, ?_⟩
 ·exact Iy (Iy o1 hz (by decide)) hz1 (by decide)
 ·exact Iy (Iy o2 hz (by decide)) hz1 (by decide)
 ·exact au.cast (hz1.bP 1 (.slice Ar m cr)) (by simp)
 ·exact(h.k2.far (by simp;omega) _).far (by simp;omega) _
 exact(h.bel.setCell (p:=⟨ob,0,none⟩) (by simp;omega) _).setCell (p:=⟨ob,1,none⟩) (by simp;omega) _
theorem lU.start' {w X:World} {B:Nat} {g:Gr.G} {n m cn cr:Nat} {An Ar:Option Addr} {a b:Value} {ln:List (Gr.N×List Value)} {lr:List (Gr.R×List Value)} (hn1:ln.map Prod.fst=g.nodes) (hn2: ∀x∈ln,iO w B x.1 x.2/\x.2.length=3) (hr1:lr.map Prod.fst=g.aA) (hr2: ∀x∈lr,iP w B x.1 x.2/\x.2.length=5)
  (h:Rg w a b X) (o1:X.ownsRow w.heap.size 42 3 (.slice An n cn) n (ln.flatMap Prod.snd)) (o2:X.ownsRow w.heap.size 44 5 (.slice Ar m cr) m (lr.flatMap Prod.snd)):
  lU w B g X.heap.size n m cn cr 0 0 An Ar (X.alloc (.cells #[.slice An n cn,.slice Ar m cr] 26)):=by
 have hlt:=h.k2.lt
 exact⟨⟨[],ln,rfl,by rw[<-hn1];simp,by simp,fun x hx=>⟨by rw[<-hn1];exact afQ hx,(hn2 x hx).1⟩,World.ownsRow.alloc o1 _⟩,⟨[],lr,rfl,by rw[<-hr1];simp,by simp,fun x hx=>⟨by rw[<-hr1];exact afQ hx,(hr2 x hx).1⟩,World.ownsRow.alloc o2 _⟩,au.new _ _ _,h.k2.alloc _,⟨by omega,h.bel.size⟩,h.bel.alloc h.bel.size _⟩
theorem aks {W:World} {base n c g:Nat} {ls:List (List UInt8)} (o:W.ownsRow base 9 1 (.slice (some ⟨g,0,none⟩) n c) n (ls.map ST)) (hn:ls.length=n):Holds encStr W g 0 ls.toArray:=fun j hj=>by
 have hj':j<n:=by rw[<-hn];simpa using hj
 obtain⟨g',he,-,hc,hf,-⟩:=Ag o (t:=j) (by omega)
 cases he;rw[afW];refine⟨?_,hf⟩;rw[hc,adX,dF (by omega)]
 simp only[List.getElem!_toArray,anx ls j (by omega)]
 rfl
theorem akt {W:World} {base n c:Nat} {A:Option Addr} {ls:List (List UInt8)} (o:W.ownsRow base 9 1 (.slice A n c) n (ls.map ST)) (hn:ls.length=n) (hl:n<=1073741824):
  Calls Tryz.prog 36 #[.slice A n c] W fun e w'=>e=.returned (.tuple #[])/\w'.ownsRow base 9 1 (.slice A n c) n ((Gr.pU ls).map ST)/\W.grownBy w' (Value.slice A n c).ownBlock:=by
 rcases o.2 with⟨e,h0⟩|⟨g,cap,cur,e,-⟩
 ·cases e
  have hls:ls=[]:=adB hn;subst hls;refine(Tryz.slices_Sort_string_none none 0 W).mono ?_
  rintro e w' ⟨rfl,rfl⟩;exact⟨rfl,by rw[show Gr.pU []=[] from aoh];exact o,mO _ _⟩
 cases e
 have h:=Tryz.slices_Sort_string g 0 c ls W (aks o hn) (World.ownsRow.lt o g rfl).2 (by omega)
 rw[hn]at h;refine h.mono ?_;rintro e w' ⟨rfl,m,os,rfl⟩
 obtain⟨h1,h2⟩:=abo (enc:=encStr) (d:=(Gr.pU ls).toArray) (m:=m) (os:=os) o (by rw[ao9,<-hn,arw];exact(afz _ _).length_eq)
 rw[amZ]at h1;exact⟨rfl,h1,h2⟩
theorem Kt.news {T e:TypeId} {base size n:Nat} {r:Value} {xs:List Value} {w w1 w':World} (h:Kt T base w w1) (hr:w1.ownsRow w.heap.size e size r n xs) (hg:w1.grownBy w' r.ownBlock) (hb:base<=w.heap.size):Kt T base w w':=by
 cases hro:r.ownBlock with
 |none=>rw[hro]at hg;exact⟨h.bel.grown hg (adg hb h.bel.size) (fun k hk=>by cases hk),fun b c t fz hc ht=>by
   have:=h.keep b c t fz hc ht
   rw[hg.block b (adZ.1 this).1 (fun e=>by cases e)];exact this⟩
 |some g=>rw[hro]at hg;exact h.new hg (World.ownsRow.lt hr g hro).1 hb
theorem aku {w:World} {B:Nat} {x:Gr.N×List Value} (h:je w B x): ∃e:EN,zB e=x.2/\e.1=x.1.id:=by
 obtain⟨s,t,e,h1,h2⟩:=h;obtain⟨As,cs,rfl⟩:=aF h1;obtain⟨At,ct,rfl⟩:=h2.form
 exact⟨(x.1.id,(As,x.1.labels.length,cs),(At,x.1.props.length,ct)),e.symm,rfl⟩
theorem akv {V:World} {base n c:Nat} {A:Option Addr} {l:List (Gr.N×List Value)} {ns:List Gr.N} (hl:l.map Prod.fst=ns) (ho: ∀x∈l,je V base x) (hr:V.ownsRow base 42 3 (.slice A n c) n (l.flatMap Prod.snd)) (hd:(ns.map Gr.N.id).Nodup) (hn:ns.length=n) (hs:n<=1073741824):
  Calls Tryz.prog 38 #[.slice A n c,.func (.func 39) #[] #[]] V fun e w'=>e=.returned (.tuple #[])/\V.grownBy w' (Value.slice A n c).ownBlock/\ ∃l':List (Gr.N×List Value),l'.Perm l/\l'.map Prod.fst=Gr.jd (fun a b:Int=>decide (a<=b)) Gr.N.id ns/\w'.ownsRow base 42 3 (.slice A n c) n (l'.flatMap Prod.snd):=by
 rcases hr.2 with⟨e,h0⟩|⟨g,cap,cur,e,-⟩
 ·cases e
  have hns:ns=[]:=adB hn;subst hns;have hl0:l=[]:=List.map_eq_nil_iff.1 hl;subst hl0
  refine(aj9 none 0 _ V).mono ?_;rintro e w' ⟨rfl,rfl⟩
  exact⟨rfl,mO _ _,[],.refl _,by rw[show Gr.jd _ Gr.N.id []=[] from aoh];rfl,hr⟩
 cases e
 obtain⟨q,q1,q2⟩:=PY (enc:=zB) (ka:=fun e:EN=>e.1) (kb:=Gr.N.id) (fun x hx=>aku (ho x hx))
 have hq:q.length=n:=by rw[<-hn,<-hl,<-q1,adU,adU]
 have e1:=PZ (enc:=zB) (fun y hy=>(q2 y hy).1)
 rw[q1]at e1;have hk: ∀x,(zB x).length=3:=fun x=>rfl
 have hs1:(q.map Prod.snd).toArray.size=n:=by simp[hq]
 refine(aj8 (cap:=c) (UK hk (fun x v hv=> ?_) (by rw[amZ,e1];exact hr) hs1) hs1 hs).mono ?_
 ·simp only[zB,aeY,anu,apX]at hv
  rcases hv with rfl|rfl|rfl<;>rfl
 rintro e w' ⟨rfl,d',hs',S,hsrt,hp⟩;obtain⟨o1,o2⟩:=UL hk hr hs' S;rw[amZ]at hp
 obtain⟨l',p1,p2,p3⟩:=UM PX (ka:=fun e:EN=>e.1) q1 q2 hp hsrt (by rw[hl];exact hd)
 rw[hl]at p3;exact⟨rfl,o2,l',p1,p3,by rw[<-p2];exact o1⟩
theorem akw {w:World} {B:Nat} {x:Gr.R×List Value} (h:jy w B x): ∃e:ER,encR e=x.2/\e.1=x.1.id:=by
 obtain⟨t,e,h2⟩:=h;obtain⟨At,ct,rfl⟩:=h2.form
 exact⟨(x.1.id,x.1.type,x.1.src,x.1.dst,(At,x.1.props.length,ct)),e.symm,rfl⟩
theorem akx {V:World} {base n c:Nat} {A:Option Addr} {l:List (Gr.R×List Value)} {ns:List Gr.R} (hl:l.map Prod.fst=ns) (ho: ∀x∈l,jy V base x) (hr:V.ownsRow base 44 5 (.slice A n c) n (l.flatMap Prod.snd)) (hd:(ns.map Gr.R.id).Nodup) (hn:ns.length=n) (hs:n<=1073741824):
  Calls Tryz.prog 41 #[.slice A n c,.func (.func 42) #[] #[]] V fun e w'=>e=.returned (.tuple #[])/\V.grownBy w' (Value.slice A n c).ownBlock/\ ∃l':List (Gr.R×List Value),l'.Perm l/\l'.map Prod.fst=Gr.jd (fun a b:Int=>decide (a<=b)) Gr.R.id ns/\w'.ownsRow base 44 5 (.slice A n c) n (l'.flatMap Prod.snd):=by
 rcases hr.2 with⟨e,h0⟩|⟨g,cap,cur,e,-⟩
 ·cases e
  have hns:ns=[]:=adB hn;subst hns;have hl0:l=[]:=List.map_eq_nil_iff.1 hl;subst hl0
  refine(akd none 0 _ V).mono ?_;rintro e w' ⟨rfl,rfl⟩
  exact⟨rfl,mO _ _,[],.refl _,by rw[show Gr.jd _ Gr.R.id []=[] from aoh];rfl,hr⟩
 cases e
 obtain⟨q,q1,q2⟩:=PY (enc:=encR) (ka:=fun e:ER=>e.1) (kb:=Gr.R.id) (fun x hx=>akw (ho x hx))
 have hq:q.length=n:=by rw[<-hn,<-hl,<-q1,adU,adU]
 have e1:=PZ (enc:=encR) (fun y hy=>(q2 y hy).1)
 rw[q1]at e1;have hk: ∀x,(encR x).length=5:=fun x=>rfl
 have hs1:(q.map Prod.snd).toArray.size=n:=by simp[hq]
 refine(akc (cap:=c) (UK hk (fun x v hv=> ?_) (by rw[amZ,e1];exact hr) hs1) hs1 hs).mono ?_
 ·simp only[encR,aeY,anu,apX]at hv
  rcases hv with rfl|rfl|rfl|rfl|rfl<;>rfl
 rintro e w' ⟨rfl,d',hs',S,hsrt,hp⟩;obtain⟨o1,o2⟩:=UL hk hr hs' S;rw[amZ]at hp
 obtain⟨l',p1,p2,p3⟩:=UM PX (ka:=fun e:ER=>e.1) q1 q2 hp hsrt (by rw[hl];exact hd)
 rw[hl]at p3;exact⟨rfl,o2,l',p1,p3,by rw[<-p2];exact o1⟩
theorem lU.drew {w:World} {B:Nat} {g:Gr.G} {ob n m cn cr i j:Nat} {An Ar:Option Addr} {V:World} (h:lU w B g ob n m cn cr i j An Ar V):lU w B g ob n m cn cr i j An Ar V.drew:=⟨h.nx,h.rx,h.out,h.res,h.ne,h.bel.drew⟩
theorem lU.rel {w:World} {B:Nat} {g:Gr.G} {ob n m cn cr i j:Nat} {An Ar:Option Addr} {V:World} (h:lU w B g ob n m cn cr i j An Ar V) (hm:g.aA.length=m) (hj:j<m): ∃(p:Gr.R) (gr:Nat) (Ap:Option Addr) (cp:Nat),p∈g.aA/\Ar=some ⟨gr,0,none⟩/\bY w B 6 (aX w B) Ap p.props/\
  V.cell? ⟨gr,j*5+4,none⟩=some (.slice Ap p.props.length cp)/\V.frozen? ⟨gr,j*5+4,none⟩=false/\ ∀w7 v7,cu 39 w7 V.heap.size v7 (Gr.lS p.props)->Below V.heap.size V w7->w7.cell? ⟨gr,j*5+4,none⟩=some (.slice Ap p.props.length cp)/\w7.frozen? ⟨gr,j*5+4,none⟩=false/\
   w7.cell? ⟨ob,0,none⟩=some (.slice An n cn)/\w7.cell? ⟨ob,1,none⟩=some (.slice Ar m cr)/\lU w B g ob n m cn cr i (j+1) An Ar (w7.setCell ⟨gr,j*5+4,none⟩ v7):=by
 obtain⟨l1,l2,h1,h2,h3,h4,h5⟩:=h.rx
 obtain⟨⟨p,cs⟩,l3,rfl⟩: ∃x l3,l2=x :: l3:=by
  cases l2 with
  |nil=>
   have:=aeH List.length h2;rw[afX,aey,adU,adU,h1,hm]at this;omega
  |cons x r=>exact⟨x,r,rfl⟩
 obtain⟨hpm,Ap,cp,rfl,cO⟩:=(show p∈g.aA/\iP w B p cs from h4 (p,cs) (agl ..))
 have hpl: ∀y∈l1,y.2.length=5:=fun y hy=>(h3 y hy).len
 have hw1:=h.bel.size;obtain⟨gr,rfl,hg,c4,f4,-⟩:=wW (j:=4) h5 hpl h1 rfl hj (by decide)
 refine⟨p,gr,Ap,cp,hpm,rfl,cO,c4,f4,fun w7 v7 o7 b7=> ?_⟩
 have r7:=own_below h5 b7
 obtain⟨g',e',-,c8,f8,st⟩:=wW (j:=4) r7 hpl h1 rfl hj (by decide)
 cases e';obtain⟨e0,e1⟩:=cells2 (h.out.below b7 h.out.lt);have row:=st v7
 simp only[adl,adi]at row
 have k7:Kt 44 w.heap.size w7 (w7.setCell ⟨gr,j*5+4,none⟩ v7):=Kt.row (r:=.slice (some ⟨gr,0,none⟩) m cr) r7 (grownBy_set w7 ⟨gr,j*5+4,none⟩ _) (adg hw1 b7.size)
 have k8:=(Kt.of_below b7 hw1).trans k7;obtain⟨q1,q2,q3,q4,q5,q6⟩:=h.nx
 refine⟨c8,f8,e0,e1,⟨q1,q2,q3,q4,fun x hx=>(q5 x hx).kp (k8.kp (.inr rfl)),q6.1,jf q6.2 k8 (by decide)⟩,⟨l1++[(Gr.uh p,[.int .i64 p.id,ST p.type,.int .i64 p.src,.int .i64 p.dst,v7])],l3,by simp[h1],by rw[<-h2];simp,fun x hx=> ?_,fun x hx=>h4 x (afg _ hx),by simpa using row⟩,k8.blk h.out (by decide),k8.blk h.res (by decide),h.ne,h.bel.trans k8.bel⟩
 rcases aem.1 hx with hx|hx
 ·exact(h3 x hx).kp (k8.kp (.inr rfl))
 rw[ael.1 hx]
 exact⟨_,rfl,(o7.base hw1).kp (k7.kp (.inr rfl)) (by decide) (by decide) (by decide)⟩
theorem fB.kt {T:TypeId} {base B:Nat} {x:Gr.P×List Value} {w w':World} (h:fB w B x) (hk:Kt T base w w') (h1:2≠T) (h2:9≠T):fB w' B x:=by
 obtain⟨s,t,e,o1,o2⟩:=h;exact⟨s,t,e,jf o1 hk h1,jf o2 hk h2⟩
theorem cu.kt {S T:TypeId} {base B:Nat} {v:Value} {ps:List Gr.P} {w w':World} (h:cu S w B v ps) (hk:Kt T base w w') (h1:2≠T) (h2:9≠T) (h3:S≠T):cu S w' B v ps:=by
 obtain⟨l,e,hx,ho⟩:=h;exact⟨l,e,fun x hm=>(hx x hm).kt hk h1 h2,jf ho hk h3⟩
theorem je.kt {T:TypeId} {base B:Nat} {x:Gr.N×List Value} {w w':World} (h:je w B x) (hk:Kt T base w w') (h1:2≠T) (h2:9≠T) (h3:39≠T):je w' B x:=by
 obtain⟨s,t,e,o1,o2⟩:=h;exact⟨s,t,e,jf o1 hk h2,o2.kt hk h1 h2 h3⟩
theorem jy.kt {T:TypeId} {base B:Nat} {x:Gr.R×List Value} {w w':World} (h:jy w B x) (hk:Kt T base w w') (h1:2≠T) (h2:9≠T) (h3:39≠T):jy w' B x:=by
 obtain⟨t,e,o2⟩:=h;exact⟨t,e,o2.kt hk h1 h2 h3⟩
theorem Kt.cell {T:TypeId} {base b:Nat} {cs:Array Value} {w:World} (h:au w b T cs) (hb:base<=b) (i:Nat) (u:Value):Kt T base w (w.setCell ⟨b,i,none⟩ u):=
 ⟨(Below.refl base w).setCell (p:=⟨b,i,none⟩) hb u,fun k c t fz hc ht=>by
  rw[(grownBy_set w ⟨b,i,none⟩ u).block k (adZ.1 hc).1 (fun e=> ?_)]
  ·exact hc
  cases e;rw[show w.heap[b]?=_ from h]at hc
  cases hc
  exact ht rfl⟩
theorem dR.kt {T:TypeId} {base B:Nat} {u:Value} {g:Gr.G} {w w':World} (h:dR w B u g) (hk:Kt T base w w') (h1:2≠T) (h2:9≠T) (h3:39≠T) (h4:42≠T) (h5:44≠T):dR w' B u g:=by
 obtain⟨sn,sr,ln,lr,e,q1,q2,q3,q4,q5,q6⟩:=h
 exact⟨sn,sr,ln,lr,e,q1,fun x hx=>(q2 x hx).kt hk h1 h2 h3,jf q3 hk h4,q4,fun x hx=>(q5 x hx).kt hk h1 h2 h3,jf q6 hk h5⟩
theorem lU.done {w:World} {B:Nat} {g:Gr.G} {ob n m cn cr:Nat} {An Ar:Option Addr} {V:World} (h:lU w B g ob n m cn cr n m An Ar V) (hn:g.nodes.length=n) (hm:g.aA.length=m):
  ∃(ln:List (Gr.N×List Value)) (lr:List (Gr.R×List Value)),ln.map Prod.fst=g.nodes.map Gr.ug/\(∀x∈ln,je V w.heap.size x)/\V.ownsRow w.heap.size 42 3 (.slice An n cn) n (ln.flatMap Prod.snd)/\
   lr.map Prod.fst=g.aA.map Gr.uh/\(∀x∈lr,jy V w.heap.size x)/\V.ownsRow w.heap.size 44 5 (.slice Ar m cr) m (lr.flatMap Prod.snd):=by
 obtain⟨l1,l2,h1,h2,h3,-,h5⟩:=h.nx;obtain⟨k1,k2,e1,e2,e3,-,e5⟩:=h.rx
 have z1:l2=[]:=by
  have:=aeH List.length h2;rw[adf,adU,adU,adU,h1,hn]at this;exact adB (by omega)
 have z2:k2=[]:=by
  have:=aeH List.length e2;rw[adf,adU,adU,adU,e1,hm]at this;exact adB (by omega)
 subst z1 z2;rw[afX,aey]at h2 e2;rw[aey]at h5 e5;exact⟨l1,k1,h2,h3,h5,e2,e3,e5⟩
theorem abA {fn:Func} {R:Ending->World->Prop} {tmps:Array Value} {W:World} {p:Tmp} {b:Nat} {v0 v1:Value} (hfn:fn.results= #[.cell p 26])
  (ht:tmps.getD p undef=.pointer (some ⟨b,0,none⟩)) (hB:au W b 26 #[v0,v1]) (hR:R (.returned (.agg #[v0,v1])) W):
  bodyPost Tryz.prog fn R .ret {tmps:=tmps,defers:=[]} W:=by
 obtain⟨c0,c1⟩:=cells2 hB;refine bodyPost_ret (v:=.agg #[v0,v1]) ?_ rfl hR;simp at ht
 simp[results,hfn,go_sem,ht,c0,c1]
theorem aky (B:Nat) (u:Value) (g:Gr.G) (w:World) (h:jQ w B u g) (hB:B<=w.heap.size) (hd:JZ g):
  Calls Tryz.prog 12 #[u] w fun e w'=> ∃u',e=.returned u'/\dR w' w.heap.size u' (Gr.canon g)/\Below w.heap.size w w':=by
 have hok:=h.ok;obtain⟨A1,c1,A2,c2,rfl,hN,hR⟩:=h.ex;obtain⟨ln,hn1,hn2,hn3⟩:=hN.pairs
 obtain⟨lr,hr1,hr2,hr3⟩:=hR.pairs;obtain⟨n,hn⟩:=aj g.nodes.length
 obtain⟨m,hm⟩:=aj g.aA.length;have hnl:n<=1073741824:=hn▸hok.nl
 have hml:m<=1073741824:=hm▸hok.rl
 have hone: ∀v∈ln.flatMap Prod.snd,v.oneCell'=true:=fun v hv=>by
  obtain⟨x,hx,hv⟩:=ae9.1 hv;obtain⟨⟨_,_,_,_,e,-,-⟩,-⟩:=hn2 x hx;rw[e]at hv
  simp only[aeY,anu,apX]at hv
  rcases hv with rfl|rfl|rfl<;>rfl
 have ad1: ∀v∈lr.flatMap Prod.snd,v.oneCell'=true:=fun v hv=>by
  obtain⟨x,hx,hv⟩:=ae9.1 hv;obtain⟨⟨_,_,e,-⟩,-⟩:=hr2 x hx;rw[e]at hv
  simp only[aeY,anu,apX]at hv
  rcases hv with rfl|rfl|rfl|rfl|rfl<;>rfl
 rw[hn]at hn3;rw[hm]at hr3
 have qw:=ah (fun(V:World) (hb:Below w.heap.size w V)=>ako B A1 c1 n _ V (hn3.below (hb.mono hB)) hone hnl (adg hB hb.size))
 have yh:=ah (fun(V:World) (hb:Below w.heap.size w V)=>akq B A2 c2 m _ V (hr3.below (hb.mono hB)) ad1 hml (adg hB hb.size))
 rw[hn,hm];have aV:=ah hok;have HD:=ah hd;have HN:=ah hn;have HM:=ah hm
 have Qq: ∀i,g.nodes.length=i->i<=1073741824:=fun i e=>e▸aV.nl
 have Bf:=ah (And.intro hn1 hn2);have aO:=ah (And.intro hr1 hr2)
 clear h hok hd hN hR hone ad1 hn hm hn3 hr3 hn1 hn2 hr1 hr2
 go_enter Tryz.func12,Tryz.ntmps12
 go_upto_region 1 with fail
 go_cut [3] (fun s3 wx=> ∃(ob cn cr:Nat) (An Ar:Option Addr),s3=.pointer (some ⟨ob,0,none⟩)/\lU w B g ob n m cn cr 0 0 An Ar wx)
 case first=>
  rename_i J K0 hJ hK
  have hb1:Below w.heap.size w ((w.alloc (.cells #[.slice A1 n c1,.slice A2 m c2] 26)).alloc (.cells #[.slice none 0 0,.slice none 0 0] 26)):=((Below.refl _ w).alloc (ac4 _) _).alloc (by simp) _
  have hk1:au ((w.alloc (.cells #[.slice A1 n c1,.slice A2 m c2] 26)).alloc (.cells #[.slice none 0 0,.slice none 0 0] 26)) w.heap.size 26 #[.slice A1 n c1,.slice A2 m c2]:=(au.new _ _ _).alloc _
  have hk2:au ((w.alloc (.cells #[.slice A1 n c1,.slice A2 m c2] 26)).alloc (.cells #[.slice none 0 0,.slice none 0 0] 26)) (w.heap.size+1) 26 #[.slice none 0 0,.slice none 0 0]:=by
   have:=au.new (w.alloc (.cells #[.slice A1 n c1,.slice A2 m c2] 26)) 26 #[.slice none 0 0,.slice none 0 0]
   simpa using this
  obtain⟨W1,hW1⟩:=aj ((w.alloc (.cells #[.slice A1 n c1,.slice A2 m c2] 26)).alloc (.cells #[.slice none 0 0,.slice none 0 0] 26))
  rw[hW1]at hb1 hk1 hk2⊢;obtain⟨d0,d1⟩:=cells2 hk1
  have HR1:=ah (show Rg w (.slice A1 n c1) (.slice A2 m c2) W1.drew from⟨hb1.drew,hk1,hk2⟩)
  have dS:=ah (show Rg w (.slice A1 n c1) (.slice A2 m c2) (W1.alloc (.cells #[.slice none 0 0,.slice none 0 0] 26)).drew from⟨(hb1.alloc hb1.size _).drew,hk1.alloc _,hk2.alloc _⟩)
  have HZ1:=ah (show au (W1.alloc (.cells #[.slice none 0 0,.slice none 0 0] 26)).drew W1.heap.size 26 #[.slice none 0 0,.slice none 0 0] from au.new W1 _ _)
  obtain⟨h0,h1⟩:=cells2 (show au (W1.alloc (.cells #[.slice none 0 0,.slice none 0 0] 26)) _ _ _ from dS.k1)
  have QL:=ah (show w.heap.size+2<=W1.heap.size from hk2.lt)
  clear hW1 hb1 hk1 hk2
  go_region_law (first|(refine Ub 33 rfl (by go_simp) (qw.out _ (by first|exact HR1.bel|exact dS.bel|exact mF.bel|exact(mF.alloc _).bel|fail)) ?_;rintro v7 w7 ⟨o7,b7⟩;obtain⟨A7,c7,rfl⟩:=aF o7;(first|(have pF:=ah (HR1.below b7);have Bg:=ah (iy o7 HR1.bel.size))|(have pF:=ah (dS.below b7);have zM:=ah (HZ1.below b7 HZ1.lt);have Bg:=ah (iy o7 dS.bel.size))|(have pF:=ah (mF.below b7);have zM:=ah (D6.below b7 D6.lt);have Bg:=ah (iy o7 mF.bel.size);have HX:=ah (own_below Bh.out b7))|(have pF:=ah (mF.below b7);have Bg:=ah (iy o7 mF.bel.size);have HX:=ah (own_below Bh.out b7))|(have pF:=ah ((mF.alloc (.cells #[.slice none 0 0,.slice none 0 0] 26)).below b7);have zM:=ah (au.below (au.new w8 26 #[.slice none 0 0,.slice none 0 0]) b7 (by simp));have Bg:=ah (iy o7 (mF.alloc (.cells #[.slice none 0 0,.slice none 0 0] 26)).bel.size);have HX:=ah (own_below (World.ownsRow.alloc Bh.out _) b7))|fail);obtain⟨d0,d1⟩:=cells2 pF.k1;obtain⟨h0,h1⟩:=cells2 (pF.alloc (.cells #[.slice none 0 0,.slice none 0 0] 26)).k1;try (obtain⟨e0,e1⟩:=cells2 zM.out;have f0:=zM.frozen 0;have f1:=zM.frozen 1);clear o7 b7)|(refine Ub 34 rfl (by go_simp) (yh.out _ (by first|exact HR1.bel|exact dS.bel|exact pF.bel|exact(pF.alloc _).bel|fail)) ?_;rintro v8 w8 ⟨o8,b8⟩;obtain⟨A8,c8,rfl⟩:=aF o8;(first|(have mF:=ah (HR1.below b8);have Bh:=ah (iy o8 HR1.bel.size))|(have mF:=ah (dS.below b8);have D6:=ah (HZ1.below b8 HZ1.lt);have Bh:=ah (iy o8 dS.bel.size))|(have mF:=ah (pF.below b8);have D6:=ah (zM.below b8 zM.lt);have Bh:=ah (iy o8 pF.bel.size);have HX:=ah (own_below Bg.out b8))|(have mF:=ah (pF.below b8);have Bh:=ah (iy o8 pF.bel.size);have HX:=ah (own_below Bg.out b8))|(have mF:=ah ((pF.alloc (.cells #[.slice none 0 0,.slice none 0 0] 26)).below b8);have D6:=ah (au.below (au.new w7 26 #[.slice none 0 0,.slice none 0 0]) b8 (by simp));have Bh:=ah (iy o8 (pF.alloc (.cells #[.slice none 0 0,.slice none 0 0] 26)).bel.size);have HX:=ah (own_below (World.ownsRow.alloc Bg.out _) b8))|fail);obtain⟨d0,d1⟩:=cells2 mF.k1;obtain⟨h0,h1⟩:=cells2 (mF.alloc (.cells #[.slice none 0 0,.slice none 0 0] 26)).k1;try (obtain⟨e0,e1⟩:=cells2 D6.out;have f0:=D6.frozen 0;have f1:=D6.frozen 1);clear o8 b8)|fail)
  all_goals
   refine hK _ _ (Met.intro (hJ _ _ ?_))
   repeat apply Exists.intro
   first
    |exact⟨⟨_,c7,c8,A7,A8,rfl,lU.start' Bf.out.1 Bf.out.2 aO.out.1 aO.out.2 mF.out HX.out Bh.out⟩,rfl⟩
    |exact⟨⟨_,c7,c8,A7,A8,rfl,lU.start' Bf.out.1 Bf.out.2 aO.out.1 aO.out.2 pF.out Bg.out HX.out⟩,rfl⟩
    |exact⟨⟨_,c7,c8,A7,A8,rfl,lU.start Bf.out.1 Bf.out.2 aO.out.1 aO.out.2 mF.out HX.out Bh.out D6.out (by first|exact QL.out|exact pF.k2.lt)⟩,rfl⟩
    |exact⟨⟨_,c7,c8,A7,A8,rfl,lU.start Bf.out.1 Bf.out.2 aO.out.1 aO.out.2 pF.out Bg.out HX.out zM.out (by first|exact QL.out|exact mF.k2.lt)⟩,rfl⟩
 obtain⟨ob,cn,cr,An,Ar,rfl,hs⟩:=hcut;have HS:=ah hs;obtain⟨a0,a1⟩:=cells2 hs.out
 clear hs Bf aO qw yh;go_wp2_with fail
 go_loopg [17] n (fun kx Wv wr=> ∃i:Nat,Wv=.int .i64 i/\i+kx=n/\lU w B g ob n m cn cr i 0 An Ar wr)
 case atStart=>exact⟨0,rfl,by omega,HS.out⟩
 obtain⟨i,rfl,hk,hs⟩:=hrel;have HR:=ah hs;obtain⟨a0,a1⟩:=cells2 hs.out;clear HS hs
 cases gk with
 |zero=>
  obtain rfl:i=n:=by omega
  clear hk hnl;go_wp2_with fail
  go_loopg [49] m (fun kx s49 wx=> ∃j:Nat,s49=.int .i64 j/\j+kx=m/\lU w B g ob i m cn cr i j An Ar wx)
  case atStart=>exact⟨0,rfl,by omega,HR.out⟩
  obtain⟨j,rfl,hk,hs⟩:=hrel;have HQ:=ah hs;obtain⟨a0,a1⟩:=cells2 hs.out;clear HR hs
  cases gk with
  |zero=>
   obtain rfl:j=m:=by omega
   obtain⟨ln,lr,n1,n2,n3,r1,r2,r3⟩:=HQ.done HN.out HM.out;have hw1:=HQ.bel.size
   have jR:=ah (akv n1 n2 n3 (by rw[agk];exact HD.ni) (by rw[adU];exact HN.out) (Qq i HN.out))
   have Qu:=ah (And.intro n3 (And.intro n2 (And.intro r1 (And.intro r2 r3))))
   clear n1 n2 n3 r1 r2 r3;go_wp2_with fail;refine jR.mono ?_
   rintro e w2 ⟨rfl,g2,l',p1,p2,p3⟩;obtain⟨n3,n2,r1,r2,r3⟩:=Qu.out
   have k2:Kt 42 w.heap.size wr w2:=Kt.row (r:=.slice An i cn) n3 g2 hw1
   obtain⟨a0,a1⟩:=cells2 (k2.blk HQ.out.out (by decide))
   have r4:=jf r3 k2 (by decide)
   have lu:=ah (akx r1 (fun x hx=>(r2 x hx).kp (k2.kp (.inl rfl))) r4 (by rw[agk];exact HD.ri) (by rw[adU];exact HM.out) hml)
   have tu:=ah (And.intro p2 (And.intro (fun x hx=>(n2 x (p1.mem_iff.1 hx)).kp (k2.kp (.inl rfl))) p3))
   have HR4:=ah (And.intro r4 (And.intro k2 (fun x hx=>(r2 x hx).kp (k2.kp (.inl rfl)))))
   clear n3 n2 r1 r2 r3 p1 p2 p3 g2 k2 r4 Qu jR;go_wp2_with fail;refine lu.mono ?_
   rintro e w3 ⟨rfl,g3,l3,p1,p2,p3⟩;obtain⟨r4,k2,r2⟩:=HR4.out
   have k3:Kt 44 w.heap.size w2 w3:=Kt.row (r:=.slice Ar j cr) r4 g3 (adg hw1 k2.bel.size)
   obtain⟨m1,m2,m3⟩:=tu.out;have hres:=k3.blk (k2.blk HQ.res (by decide)) (by decide)
   obtain⟨a0,a1⟩:=cells2 (k3.blk (k2.blk HQ.out.out (by decide)) (by decide))
   obtain⟨b0,b1⟩:=cells2 hres;have f0:=hres.frozen 0;have f1:=hres.frozen 1
   have hgo:dR w3 w.heap.size (.agg #[.slice An i cn,.slice Ar j cr]) (Gr.canon g):=by
    have e1:(Gr.canon g).nodes.length=i:=(afz _ _).length_eq.trans (by rw[adU];exact HN.out)
    have e2:(Gr.canon g).aA.length=j:=(afz _ _).length_eq.trans (by rw[adU];exact HM.out)
    exact⟨_,_,l',l3,rfl,m1,fun x hx=>(m2 x hx).kt k3 (by decide) (by decide) (by decide),by rw[e1];exact jf m3 k3 (by decide),p2,fun x hx=>(r2 x (p1.mem_iff.1 hx)).kt k3 (by decide) (by decide) (by decide),by rw[e2];exact p3⟩
   have k4:=Kt.cell (base:=w.heap.size) hres (by omega) 0 (.slice An i cn)
   have hr4:=hres.bP 0 (.slice An i cn)
   have k5:=Kt.cell (base:=w.heap.size) hr4 (by omega) 1 (.slice Ar j cr)
   have k6:=k4.trans k5
   have HF:=ah (And.intro (hgo.kt k6 (by decide) (by decide) (by decide) (by decide) (by decide)) (And.intro (au.cast (hr4.bP 1 (.slice Ar j cr)) (by simp):au _ _ _ #[.slice An i cn,.slice Ar j cr]) ((HQ.bel.trans (k2.bel.trans k3.bel)).trans k6.bel)))
   clear r4 k2 r2 k3 m1 m2 m3 hres hgo k4 hr4 k5 k6 p1 p2 p3 g3 HR4 tu lu;go_wp2_with fail
   refine abA rfl (by simp) HF.out.2.1 ⟨_,rfl,HF.out.1,HF.out.2.2⟩
  |succ kq=>
   have hin:j<m:=by omega
   have D5:(j:Int)<(m:Int):=by omega
   obtain⟨p,gr,Ap,cp,hpm,rfl,cO,c4,f4,hst⟩:=HQ.drew.rel HM.out hin;have gZ:=aV.rs p hpm
   have hbd:Below w.heap.size w wr.drew:=HQ.bel.drew
   have dW:=ah (abz B Ap cp p.props wr.drew (cO.below (hbd.mono hB) (aX.below (hbd.mono hB))) (adg hB hbd.size) gZ.pl gZ.ps (HD.rp p hpm))
   have HST:=ah hst;have c4:wr.cell? _=_:=c4;have pj:(0:Int)<=(j:Int):=by omega
   have tj:((j:Int)).toNat=j:=by omega
   clear gZ hpm cO hst hbd;go_wp2_with fail
   go_region_law (first|(refine Ub 37 rfl (by go_simp) dW.out ?_;rintro v7 w7 ⟨o7,b7⟩;obtain⟨d4,g4,d0,d1,hs7⟩:=HST.out w7 v7 o7 b7;obtain⟨A7,c7,rfl⟩:=o7.form;have pG:=ah hs7;clear o7 b7 hs7)|fail)
   all_goals
    go_wp2_with fail
    go_roundg kq
    case measure=>omega
    exact⟨j+1,by simp,by omega,pG.out⟩
 |succ kq=>
  have hin:i<n:=by omega
  have D5:(i:Int)<(n:Int):=by omega
  obtain⟨l1,l2,h1,h2,h3,h4,h5⟩:=HR.nx;have hbel:=HR.bel
  obtain⟨⟨p,cs⟩,l3,rfl⟩: ∃x l3,l2=x :: l3:=by
   cases l2 with
   |nil=>
    have:=aeH List.length h2;rw[afX,aey,adU,adU,h1,HN.out]at this;omega
   |cons x r=>exact⟨x,r,rfl⟩
  obtain⟨hpm,Al,cl,Ap,cp,rfl,dG,cO⟩:=(show p∈g.nodes/\iO w B p cs from h4 (p,cs) (agl ..))
  have gZ:=aV.ns p hpm;have hpl: ∀y∈l1,y.2.length=3:=fun y hy=>(h3 y hy).len
  obtain⟨ll,hll⟩:=aj p.labels.length;obtain⟨pl,hpl2⟩:=aj p.props.length
  have ad2:ll<=1073741824:=hll▸gZ.ll;have hw1:w.heap.size<=wr.heap.size:=hbel.size
  have hcp:=fun(V:World) (hb:Below w.heap.size w V)=>abz B Ap cp p.props V (cO.below (hb.mono hB) (aX.below (hb.mono hB))) (adg hB hb.size) gZ.pl gZ.ps (HD.np p hpm)
  rw[hll]at dG h5;rw[hpl2]at h5 hcp
  obtain⟨gn,rfl,hg,c4,f4,-⟩:=wW (j:=1) h5 hpl h1 rfl hin (by decide)
  simp only[adL,adn]at c4
  have kV:=ah (abx B Al cl ll _ wr (dG.below (hbel.mono hB)) (fun u hu=>by obtain⟨y,-,rfl⟩:=afK.1 hu;rfl) ad2 (adg hB hw1))
  have HH:=ah (And.intro h1 (And.intro h2 (And.intro h3 (And.intro h4 (And.intro hpl (And.intro hll hpl2))))))
  have H5:=ah h5;have dW:=ah hcp;have HB:=ah hbel
  clear h1 h2 h3 h4 h5 hpl hll hpl2 dG cO hg hbel gZ hcp hpm;go_wp2_with fail
  refine kV.mono ?_;rintro e w2 ⟨v2,rfl,o2,b2⟩;obtain⟨A2,c2,rfl⟩:=aF o2;have hh:=HH.out
  have r2:=own_below H5.out b2
  obtain⟨g',e',-,Wu,f4',LZ⟩:=wW (j:=1) r2 hh.2.2.2.2.1 hh.1 rfl hin (by decide)
  cases e';simp only[adL,adn]at Wu;have row3:=LZ (.slice A2 ll c2)
  simp only[adl,adi]at row3
  obtain⟨W3,hW3⟩:=aj (w2.setCell ⟨gn,i*3+1,none⟩ (.slice A2 ll c2))
  have hgs:w2.grownBy W3 (some gn):=hW3▸grownBy_set w2 ⟨gn,i*3+1,none⟩ _;rw[hW3]at row3
  have k3:Kt 42 w.heap.size wr W3:=(Kt.of_below b2 hw1).trans (Kt.row (r:=.slice (some ⟨gn,0,none⟩) n cn) r2 hgs (adg hw1 b2.size))
  have o3:=aW o2 hgs (fun g c t fz e hc=>by
   cases e;obtain⟨_,c',hc'⟩:=tY r2 gn rfl;rw[hc']at hc;cases hc
   decide)
  obtain⟨g',e',-,c5,f5,-⟩:=wW (j:=1) row3 hh.2.2.2.2.1 hh.1 rfl hin (by decide)
  cases e';simp only[adL,adn]at c5;have aZ:=ah (akt o3 hh.2.2.2.2.2.1 ad2)
  have HX:=ah (And.intro row3 (And.intro o3 k3));have Gg:=ah hh
  clear o2 b2 r2 LZ hgs row3 o3 k3 hh HH H5 kV;go_wp2_with fail;refine aZ.mono ?_
  rintro e w4 ⟨rfl,o4,g4⟩;clear hW3;obtain⟨row3,o3,k3⟩:=HX.out;have hh:=Gg.out
  have k4:=k3.news o3 g4 hw1;have row4:=y8 row3 g4 (iy o3 hw1) (by decide)
  obtain⟨g',e',-,c6,f6,-⟩:=wW (j:=2) row4 hh.2.2.2.2.1 hh.1 rfl hin (by decide)
  cases e';simp only[adL,adn]at c6;have HC2:=ah (dW.out w4 (HB.trans k4.bel))
  have sG:=ah (And.intro row4 (And.intro o4 k4))
  clear row3 o3 k3 k4 row4 o4 g4 hh HX aZ dW;go_wp2_with fail;refine HC2.mono ?_
  rintro e w5 ⟨v5,rfl,o5,b5⟩
  have ad3:(Gr.lS p.props).length=pl:=(afz _ _).length_eq.trans Gg.out.2.2.2.2.2.2
  obtain⟨A5,c7,e5⟩:=o5.form;rw[ad3]at e5;subst e5;obtain⟨row4,o4,k4⟩:=sG.out
  have hh:=Gg.out;have r5:=own_below row4 b5
  obtain⟨g',e',-,c8,f8,st6⟩:=wW (j:=2) r5 hh.2.2.2.2.1 hh.1 rfl hin (by decide)
  cases e';simp only[adL,adn]at c8;have QM:=st6 (.slice A5 pl c7)
  simp only[adl,adi]at QM
  obtain⟨W6,iY⟩:=aj (w5.setCell ⟨gn,i*3+2,none⟩ (.slice A5 pl c7))
  have hgs:w5.grownBy W6 (some gn):=iY▸grownBy_set w5 ⟨gn,i*3+2,none⟩ _;rw[iY]at QM
  have hs4:w.heap.size<=w4.heap.size:=adg hw1 k4.bel.size
  have k5:Kt 42 w.heap.size w4 W6:=(Kt.of_below b5 hs4).trans (Kt.row (r:=.slice (some ⟨gn,0,none⟩) n cn) r5 hgs (adg hs4 b5.size))
  have k6:=k4.trans k5
  have hlab:(Gr.pU p.labels).length=ll:=(afz _ _).length_eq.trans hh.2.2.2.2.2.1
  have hs:=ah (show lU w B g ob n m cn cr (i+1) 0 (some ⟨gn,0,none⟩) Ar W6 from by
   obtain⟨q1,q2,q3,q4,q5,q6⟩:=HR.rx
   refine⟨⟨l1++[(Gr.ug p,[.int .i64 p.id,.slice A2 ll c2,.slice A5 pl c7])],l3,by simp[hh.1],by rw[<-hh.2.1];simp,fun x hx=> ?_,fun x hx=>hh.2.2.2.1 x (afg _ hx),by simpa using QM⟩,⟨q1,q2,q3,q4,fun x hx=>(q5 x hx).kp (k6.kp (.inl rfl)),q6.1,jf q6.2 k6 (by decide)⟩,k6.blk HR.out.out (by decide),k6.blk HR.res (by decide),HR.ne,HB.trans k6.bel⟩
   rcases aem.1 hx with hx|hx
   ·exact(hh.2.2.1 x hx).kp (k6.kp (.inl rfl))
   rw[ael.1 hx];refine⟨_,_,rfl, ?_, ?_⟩
   ·show W6.ownsRow w.heap.size 9 1 (.slice A2 ll c2) (Gr.pU p.labels).length ((Gr.pU p.labels).map ST)
    rw[hlab];exact jf (iy o4 hw1) k5 (by decide)
   exact(o5.base hs4).kp (Kt.kp (T:=42) (Kt.row (r:=.slice (some ⟨gn,0,none⟩) n cn) r5 hgs (adg hs4 b5.size)) (.inl rfl)) (by decide) (by decide) (by decide))
  clear row4 o4 k4 hh r5 st6 hgs QM k5 k6 o5 b5 sG Gg HC2 hlab ad3 HR HB;go_wp2_with fail
  go_roundg kq
  case measure=>omega
  exact⟨i+1,by simp,by omega,hs.out⟩
end Go.Proofs.YtkdakckjafomhaaGreatDoor
namespace Go.Proofs.YtkdakckjafomhaaGreatDoor
open Go.RowKit
def eU (W:World) (B:Nat) (v:Value) (ns:List Gr.N):Prop:=
 ∃ln:List (Gr.N×List Value),ln.map Prod.fst=ns/\(∀x∈ln,je W B x)/\W.ownsRow B 42 3 v ns.length (ln.flatMap Prod.snd)
def gu (W:World) (B:Nat) (v:Value) (rs:List Gr.R):Prop:=
 ∃lr:List (Gr.R×List Value),lr.map Prod.fst=rs/\(∀x∈lr,jy W B x)/\W.ownsRow B 44 5 v rs.length (lr.flatMap Prod.snd)
theorem eU.nil (W:World) (B:Nat):eU W B (.slice none 0 0) []:=⟨[],rfl,by simp,World.ownsRow_nil _ _ _ _⟩
theorem gu.nil (W:World) (B:Nat):gu W B (.slice none 0 0) []:=⟨[],rfl,by simp,World.ownsRow_nil _ _ _ _⟩
section
variable {W W':World} {B:Nat} {v v':Value} {ns:List Gr.N} {rs:List Gr.R}
theorem eU.k0 {base:Nat} (h:eU W B v ns) (hk:Kt 0 base W W'):eU W' B v ns:=by
 obtain⟨ln,h1,h2,h3⟩:=h
 exact⟨ln,h1,fun x hx=>(h2 x hx).kt hk (by decide) (by decide) (by decide),jf h3 hk (by decide)⟩
theorem gu.k0 {base:Nat} (h:gu W B v rs) (hk:Kt 0 base W W'):gu W' B v rs:=by
 obtain⟨ln,h1,h2,h3⟩:=h
 exact⟨ln,h1,fun x hx=>(h2 x hx).kt hk (by decide) (by decide) (by decide),jf h3 hk (by decide)⟩
theorem Kt.ad5 {mb base:Nat} {l:List Int} (hm:eP W mb l) (hg:W.grownBy W' (some mb)) (hb:base<=mb):Kt 0 base W W':=
 ⟨⟨hg.os,hg.tape,hg.output,hg.size,fun i hi=>hg.block i (adW hi (adg hb (Nat.le_of_lt hm.lt))) (fun e=>by cases e;omega)⟩,fun b c t fz hc _=>by
  rw[hg.block b (adZ.1 hc).1 (fun e=>by cases e;exact hm.isMap _ _ _ hc)]
  exact hc⟩
theorem eU.base {B':Nat} (h:eU W B v ns) (hb:B'<=B):eU W B' v ns:=by
 obtain⟨ln,h1,h2,h3⟩:=h;refine⟨ln,h1,fun x hx=> ?_,own_base h3 hb⟩
 obtain⟨s,t,e,o1,o2⟩:=h2 x hx;exact⟨s,t,e,own_base o1 hb,o2.base hb⟩
theorem eU.form (h:eU W B v ns): ∃A c,v=.slice A ns.length c:=by
 obtain⟨ln,h1,h2,h3⟩:=h;exact aF h3
theorem gu.form (h:gu W B v rs): ∃A c,v=.slice A rs.length c:=by
 obtain⟨ln,h1,h2,h3⟩:=h;exact aF h3
theorem eU.put {n:Gr.N} {cs:List Value} {ln:List (Gr.N×List Value)} (h1:ln.map Prod.fst=ns) (h2: ∀x∈ln,je W B x) (h3:W.ownsRow B 42 3 v ns.length (ln.flatMap Prod.snd)) (hn:je W B (n,cs)) (hB:B<=W.heap.size)
  (hg:W.grownBy W' v.ownBlock) (ho:W'.ownsRow B 42 3 v' (ns.length+1) (ln.flatMap Prod.snd++cs)):eU W' B v' (ns++[n]):=by
 have hk:Kt 42 B W W':=Kt.row h3 hg hB
 refine⟨ln++[(n,cs)],by rw[ad8,h1];rfl,fun x hx=> ?_, ?_⟩
 ·rcases aem.1 hx with hx|hx
  ·exact(h2 x hx).kt hk (by decide) (by decide) (by decide)
  rw[ael.1 hx];exact hn.kt hk (by decide) (by decide) (by decide)
 rw[adf,afG]
 simpa using ho
theorem gu.put {n:Gr.R} {cs:List Value} {ln:List (Gr.R×List Value)} (h1:ln.map Prod.fst=rs) (h2: ∀x∈ln,jy W B x) (h3:W.ownsRow B 44 5 v rs.length (ln.flatMap Prod.snd)) (hn:jy W B (n,cs)) (hB:B<=W.heap.size)
  (hg:W.grownBy W' v.ownBlock) (ho:W'.ownsRow B 44 5 v' (rs.length+1) (ln.flatMap Prod.snd++cs)):gu W' B v' (rs++[n]):=by
 have hk:Kt 44 B W W':=Kt.row h3 hg hB
 refine⟨ln++[(n,cs)],by rw[ad8,h1];rfl,fun x hx=> ?_, ?_⟩
 ·rcases aem.1 hx with hx|hx
  ·exact(h2 x hx).kt hk (by decide) (by decide) (by decide)
  rw[ael.1 hx];exact hn.kt hk (by decide) (by decide) (by decide)
 rw[adf,afG]
 simpa using ho
end
theorem Dp {m n:Int} {s:List UInt8} (h:Tb.known m s=some n) (hm:m<=2048):0<=n/\n<m/\ak.In64 n:=by
 have:=Tb.PO h;exact⟨this.1,this.2,by unfold ak.In64;omega⟩
theorem Reads.fld {w:World} {B n b off:Nat} {l:List (List UInt8)} (h:Reads w B 1 (some ⟨b,off,none⟩) n (l.map ST)) {k:Nat} (hk:k<n):w.cell? ⟨b,off+k,none⟩=some (ST (l.getD k []))/\l.getD k []∈l:=by
 have hl:=vk h;have hkl:k<l.length:=by omega
 have e:l.getD k []=l[k]:=by simp[List.getD,hkl]
 exact⟨h.st (by rw[e];exact dF hkl),by rw[e];exact arf hkl⟩
end Go.Proofs.YtkdakckjafomhaaGreatDoor
