/- Lemmas. -/
import Derived.Test.YtdijgcnlbfgkdaaGreatDoorUP20
import Derived.Shelf.SlIter.Nil
import Derived.Shelf.SortM.Plain
import Derived.Shelf.SortM.SortNone
import Derived.Ground.GgzProg
import Derived.Ground.SlgmProg
set_option maxHeartbeats 64000000
set_option maxRecDepth 1000000
set_option linter.all false
namespace Go.Proofs.YtdijgcnlbfgkdaaGreatDoor
open Go.RowKit Go.Sort Go.Proofs.Tryz
structure Kt (T:TypeId) (base:Nat) (w w':World):Prop where
 bel:Below base w w'
 keep: ∀(b:Nat) (c:Array Value) (t:TypeId) (fz:Nat×Nat),w.heap[b]?=some (.cells c t fz)->t≠T->w'.heap[b]?=some (.cells c t fz)
def Kt.kp {T:TypeId} {base:Nat} {w w':World} (h:Kt T base w w') (hT:T=37\/T=74):Kp base w w':=
 ⟨h.bel,fun b c t fz hc _ h2 h3=>h.keep b c t fz hc (fun e=>hT.elim (fun h=>h2 (e.trans h)) (fun h=>h3 (e.trans h)))⟩
def Kt.of_below {T:TypeId} {base:Nat} {w w':World} (h:Below w.heap.size w w') (hb:base<=w.heap.size):Kt T base w w':=
 ⟨h.mono hb,fun b c t fz hc _=>(h.block b (afb.1 hc).1).trans hc⟩
def Kt.trans {T:TypeId} {base:Nat} {a b c:World} (h:Kt T base a b) (k:Kt T base b c):Kt T base a c:=
 ⟨h.bel.trans k.bel,fun i cs t fz hc h1=>k.keep i cs t fz (h.keep i cs t fz hc h1) h1⟩
def Kt.row {T:TypeId} {base size n:Nat} {r:Value} {xs:List Value} {w w':World} (hr:w.ownsRow base T size r n xs) (hg:w.grownBy w' r.ownBlock) (hb:base<=w.heap.size):Kt T base w w':=
 ⟨(aoa base w).grown hg hb (fun k hk=>(ar5 hr k hk).1),fun b c t fz hc ht=>by
  rw[hg.block b (afb.1 hc).1 ?_]
  ·exact hc
  intro e;obtain⟨_,c',hc'⟩:=mW hr b e.symm;rw[hc']at hc;cases hc
  exact ht rfl⟩
def Kt.new {T:TypeId} {base g:Nat} {w w1 w':World} (h:Kt T base w w1) (hg:w1.grownBy w' (some g)) (hw:w.heap.size<=g) (hb:base<=w.heap.size):Kt T base w w':=
 ⟨h.bel.grown hg (aep hb h.bel.size) (fun k hk=>by cases hk;exact aep hb hw),fun b c t fz hc ht=>by
  have hlt:b<w.heap.size:=(afb.1 hc).1;rw[hg.block b (afn hlt h.bel.size) (fun e=>by cases e;omega)]
  exact h.keep b c t fz hc ht⟩
def oh {T:TypeId} {base B e size n:Nat} {v:Value} {xs:List Value} {w w':World} (h:w.ownsRow B e size v n xs) (hk:Kt T base w w') (h1:e≠T):w'.ownsRow B e size v n xs:=by
 obtain⟨hl,h⟩:=h;refine⟨hl, ?_⟩
 rcases h with h|⟨g,cap,cur,hv,hb,hc,hr⟩
 ·exact .inl h
 exact .inr ⟨g,cap,cur,hv,hb,hk.keep _ _ _ _ hc h1,hr⟩
def Kt.blk {T t:TypeId} {base b:Nat} {cs:Array Value} {w w':World} (hk:Kt T base w w') (h:ak w b t cs) (h1:t≠T):ak w' b t cs:=hk.keep _ _ _ _ h h1
def iP.len {w:World} {B:Nat} {x:Gr.N×List Value} (h:iP w B x):x.2.length=3:=by
 obtain⟨s,t,e,-,-⟩:=h;rw[e];rfl
def iQ.len {w:World} {B:Nat} {x:Gr.R×List Value} (h:iQ w B x):x.2.length=5:=by
 obtain⟨s,e,-⟩:=h;rw[e];rfl
def dV (W:World) (B:Nat) (u:Value) (g:Gr.G):Prop:=
 ∃(sn sr:Value) (ln:List (Gr.N×List Value)) (lr:List (Gr.R×List Value)),u=.agg #[sn,sr]/\
  ln.map Prod.fst=g.nodes/\(∀x∈ln,iP W B x)/\W.ownsRow B 37 3 sn g.nodes.length (ln.flatMap Prod.snd)/\
  lr.map Prod.fst=g.ay/\(∀x∈lr,iQ W B x)/\W.ownsRow B 74 5 sr g.ay.length (lr.flatMap Prod.snd)
structure FZ (g:Gr.G):Prop where
 ni:(g.nodes.map Gr.N.id).Nodup
 ri:(g.ay.map Gr.R.id).Nodup
 np: ∀n∈g.nodes,(n.props.map Gr.P.key).Nodup
 rp: ∀r∈g.ay,(r.props.map Gr.P.key).Nodup
structure nH (w:World) (B:Nat) (g:Gr.G) (ob n m cn cr i j:Nat) (An Ar:Option Addr) (V:World):Prop where
 nx: ∃l1 l2:List (Gr.N×List Value),l1.length=i/\l1.map Prod.fst++l2.map (fun x=>Gr.sQ x.1)=g.nodes.map Gr.sQ/\(∀x∈l1,iP V w.heap.size x)/\(∀x∈l2,x.1∈g.nodes/\lT w B x.1 x.2)/\V.ownsRow w.heap.size 37 3 (.slice An n cn) n ((l1++l2).flatMap Prod.snd)
 rx: ∃l1 l2:List (Gr.R×List Value),l1.length=j/\l1.map Prod.fst++l2.map (fun x=>Gr.vH x.1)=g.ay.map Gr.vH/\(∀x∈l1,iQ V w.heap.size x)/\(∀x∈l2,x.1∈g.ay/\lU w B x.1 x.2)/\V.ownsRow w.heap.size 74 5 (.slice Ar m cr) m ((l1++l2).flatMap Prod.snd)
 out:ak V ob 26 #[.slice An n cn,.slice Ar m cr]
 res:ak V (w.heap.size+1) 26 #[.slice none 0 0,.slice none 0 0]
 ne:w.heap.size+1≠ob/\w.heap.size<=ob
 bel:Below w.heap.size w V
structure Rg (w:World) (a b:Value) (X:World):Prop where
 bel:Below w.heap.size w X
 k1:ak X w.heap.size 26 #[a,b]
 k2:ak X (w.heap.size+1) 26 #[.slice none 0 0,.slice none 0 0]
def Rg.alloc {w X:World} {a b:Value} (h:Rg w a b X) (o:Obj):Rg w a b (X.alloc o):=⟨h.bel.alloc h.bel.size o,h.k1.alloc o,h.k2.alloc o⟩
def Rg.below {w X Y:World} {a b:Value} (h:Rg w a b X) (hb:Below X.heap.size X Y):Rg w a b Y:=⟨h.bel.trans (hb.mono h.bel.size),h.k1.below hb h.k1.lt,h.k2.below hb h.k2.lt⟩
def nH.start {w X:World} {B:Nat} {g:Gr.G} {ob n m cn cr:Nat} {An Ar:Option Addr} {a b z0 z1:Value} {ln:List (Gr.N×List Value)} {lr:List (Gr.R×List Value)} (hn1:ln.map Prod.fst=g.nodes) (hn2: ∀x∈ln,lT w B x.1 x.2/\x.2.length=3) (hr1:lr.map Prod.fst=g.ay) (hr2: ∀x∈lr,lU w B x.1 x.2/\x.2.length=5)
  (h:Rg w a b X) (o1:X.ownsRow w.heap.size 37 3 (.slice An n cn) n (ln.flatMap Prod.snd)) (o2:X.ownsRow w.heap.size 74 5 (.slice Ar m cr) m (lr.flatMap Prod.snd)) (hz:ak X ob 26 #[z0,z1]) (ho:w.heap.size+2<=ob):
  nH w B g ob n m cn cr 0 0 An Ar ((X.setCell ⟨ob,0,none⟩ (.slice An n cn)).setCell ⟨ob,1,none⟩ (.slice Ar m cr)):=by
 have hz1:=hz.aG 0 (.slice An n cn);refine⟨⟨[],ln,rfl,by rw[<-hn1];simp,by simp,fun x hx=>⟨by rw[<-hn1];exact aoG hx,(hn2 x hx).1⟩, ?_⟩,⟨[],lr,rfl,by rw[<-hr1];simp,by simp,fun x hx=>⟨by rw[<-hr1];exact aoG hx,(hr2 x hx).1⟩, ?_⟩, ?_, ?_,⟨by omega,by omega⟩, ?_⟩
 ·exact zY (zY o1 hz (by decide)) hz1 (by decide)
 ·exact zY (zY o2 hz (by decide)) hz1 (by decide)
 ·exact ak.cast (hz1.aG 1 (.slice Ar m cr)) (by simp)
 ·exact(h.k2.far (by simp;omega) _).far (by simp;omega) _
 exact(h.bel.setCell (p:=⟨ob,0,none⟩) (by simp;omega) _).setCell (p:=⟨ob,1,none⟩) (by simp;omega) _
def nH.start' {w X:World} {B:Nat} {g:Gr.G} {n m cn cr:Nat} {An Ar:Option Addr} {a b:Value} {ln:List (Gr.N×List Value)} {lr:List (Gr.R×List Value)} (hn1:ln.map Prod.fst=g.nodes) (hn2: ∀x∈ln,lT w B x.1 x.2/\x.2.length=3) (hr1:lr.map Prod.fst=g.ay) (hr2: ∀x∈lr,lU w B x.1 x.2/\x.2.length=5)
  (h:Rg w a b X) (o1:X.ownsRow w.heap.size 37 3 (.slice An n cn) n (ln.flatMap Prod.snd)) (o2:X.ownsRow w.heap.size 74 5 (.slice Ar m cr) m (lr.flatMap Prod.snd)):
  nH w B g X.heap.size n m cn cr 0 0 An Ar (X.alloc (.cells #[.slice An n cn,.slice Ar m cr] 26)):=by
 have hlt:=h.k2.lt;exact⟨⟨[],ln,rfl,by rw[<-hn1];simp,by simp,fun x hx=>⟨by rw[<-hn1];exact aoG hx,(hn2 x hx).1⟩,asi o1 _⟩,⟨[],lr,rfl,by rw[<-hr1];simp,by simp,fun x hx=>⟨by rw[<-hr1];exact aoG hx,(hr2 x hx).1⟩,asi o2 _⟩,ak.new _ _ _,h.k2.alloc _,⟨by omega,h.bel.size⟩,h.bel.alloc h.bel.size _⟩
def akV {W:World} {base n c g:Nat} {ls:List (List UInt8)} (o:W.ownsRow base 9 1 (.slice (some ⟨g,0,none⟩) n c) n (ls.map ST)) (hn:ls.length=n):Holds encStr W g 0 ls.toArray:=fun j hj=>by
 have hj':j<n:=by rw[<-hn];simpa using hj
 obtain⟨g',he,-,hc,hf,-⟩:=yh o (t:=j) (by omega)
 cases he;rw[agO];refine⟨?_,hf⟩;rw[hc,aeY,aen (by omega)]
 simp only[List.getElem!_toArray,aob ls j (by omega)]
 rfl
def akW {W:World} {base n c:Nat} {A:Option Addr} {ls:List (List UInt8)} (o:W.ownsRow base 9 1 (.slice A n c) n (ls.map ST)) (hn:ls.length=n) (hl:n<=1073741824):
  Calls prog 45 #[.slice A n c] W fun e w'=>e=.returned (.tuple #[])/\w'.ownsRow base 9 1 (.slice A n c) n ((Gr.vG ls).map ST)/\W.grownBy w' (Value.slice A n c).ownBlock:=by
 rcases o.2 with⟨e,h0⟩|⟨g,cap,cur,e,-⟩
 ·cases e
  have hls:ls=[]:=aeI hn;subst hls;refine(Tryz.slices_Sort_string_none none 0 W).mono ?_;rintro e w' ⟨rfl,rfl⟩;exact⟨rfl,by rw[show Gr.vG []=[] from an7];exact o,iw _ _⟩
 cases e;have h:=Tryz.slices_Sort_string g 0 c ls W (akV o hn) (ar5 o g rfl).2 (by omega)
 rw[hn]at h;refine h.mono ?_;rintro e w' ⟨rfl,m,os,rfl⟩;obtain⟨h1,h2⟩:=acu (enc:=encStr) (d:=(Gr.vG ls).toArray) (m:=m) (os:=os) o (by rw[apJ,<-hn,Nat.mul_one];exact(ag8 _ _).length_eq)
 rw[anG]at h1;exact⟨rfl,h1,h2⟩
def Kt.news {T e:TypeId} {base size n:Nat} {r:Value} {xs:List Value} {w w1 w':World} (h:Kt T base w w1) (hr:w1.ownsRow w.heap.size e size r n xs) (hg:w1.grownBy w' r.ownBlock) (hb:base<=w.heap.size):Kt T base w w':=by
 cases hro:r.ownBlock with
 |none=>rw[hro]at hg;exact⟨h.bel.grown hg (aep hb h.bel.size) (fun k hk=>by cases hk),fun b c t fz hc ht=>by
   have:=h.keep b c t fz hc ht
   rw[hg.block b (afb.1 this).1 (fun e=>by cases e)];exact this⟩
 |some g=>rw[hro]at hg;exact h.new hg (ar5 hr g hro).1 hb
def akX {w:World} {B:Nat} {x:Gr.N×List Value} (h:iP w B x): ∃e:EN,zZ e=x.2/\e.1=x.1.id:=by
 obtain⟨s,t,e,h1,h2⟩:=h;obtain⟨As,cs,rfl⟩:=aH h1;obtain⟨At,ct,rfl⟩:=h2.form;exact⟨(x.1.id,(As,x.1.labels.length,cs),(At,x.1.props.length,ct)),e.symm,rfl⟩
def akY {V:World} {base n c:Nat} {A:Option Addr} {l:List (Gr.N×List Value)} {ns:List Gr.N} (hl:l.map Prod.fst=ns) (ho: ∀x∈l,iP V base x) (hr:V.ownsRow base 37 3 (.slice A n c) n (l.flatMap Prod.snd)) (hd:(ns.map Gr.N.id).Nodup) (hn:ns.length=n) (hs:n<=1073741824):
  Calls prog 47 #[.slice A n c,.func (.func 48) #[] #[]] V fun e w'=>e=.returned (.tuple #[])/\V.grownBy w' (Value.slice A n c).ownBlock/\ ∃l':List (Gr.N×List Value),l'.Perm l/\l'.map Prod.fst=Gr.mY (fun a b:Int=>decide (a<=b)) Gr.N.id ns/\w'.ownsRow base 37 3 (.slice A n c) n (l'.flatMap Prod.snd):=by
 rcases hr.2 with⟨e,h0⟩|⟨g,cap,cur,e,-⟩
 ·cases e
  have hns:ns=[]:=aeI hn;subst hns;have hl0:l=[]:=ao6.1 hl;subst hl0;refine(akD none 0 _ V).mono ?_;rintro e w' ⟨rfl,rfl⟩;exact⟨rfl,iw _ _,[],.refl _,by rw[show Gr.mY _ Gr.N.id []=[] from an7];rfl,hr⟩
 cases e;obtain⟨q,q1,q2⟩:=Qq (enc:=zZ) (ka:=fun e:EN=>e.1) (kb:=Gr.N.id) (fun x hx=>akX (ho x hx))
 have hq:q.length=n:=by rw[<-hn,<-hl,<-q1,aeP,aeP]
 have e1:=Qr (enc:=zZ) (fun y hy=>(q2 y hy).1)
 rw[q1]at e1;have hk: ∀x,(zZ x).length=3:=fun x=>rfl
 have hs1:(q.map Prod.snd).toArray.size=n:=by simp[hq]
 refine(akC (cap:=c) (Vo hk (fun x v hv=> ?_) (by rw[anG,e1];exact hr) hs1) hs1 hs).mono ?_
 ·simp only[zZ,aga,anX,apz]at hv
  rcases hv with rfl|rfl|rfl<;>rfl
 rintro e w' ⟨rfl,d',hs',S,hsrt,hp⟩;obtain⟨o1,o2⟩:=Vp hk hr hs' S;rw[anG]at hp;obtain⟨l',p1,p2,p3⟩:=Vr KU (ka:=fun e:EN=>e.1) q1 q2 hp hsrt (by rw[hl];exact hd)
 rw[hl]at p3;exact⟨rfl,o2,l',p1,p3,by rw[<-p2];exact o1⟩
def akZ {w:World} {B:Nat} {x:Gr.R×List Value} (h:iQ w B x): ∃e:ER,encR e=x.2/\e.1=x.1.id:=by
 obtain⟨t,e,h2⟩:=h;obtain⟨At,ct,rfl⟩:=h2.form;exact⟨(x.1.id,x.1.type,x.1.src,x.1.dst,(At,x.1.props.length,ct)),e.symm,rfl⟩
def ak0 {V:World} {base n c:Nat} {A:Option Addr} {l:List (Gr.R×List Value)} {ns:List Gr.R} (hl:l.map Prod.fst=ns) (ho: ∀x∈l,iQ V base x) (hr:V.ownsRow base 74 5 (.slice A n c) n (l.flatMap Prod.snd)) (hd:(ns.map Gr.R.id).Nodup) (hn:ns.length=n) (hs:n<=1073741824):
  Calls prog 50 #[.slice A n c,.func (.func 51) #[] #[]] V fun e w'=>e=.returned (.tuple #[])/\V.grownBy w' (Value.slice A n c).ownBlock/\ ∃l':List (Gr.R×List Value),l'.Perm l/\l'.map Prod.fst=Gr.mY (fun a b:Int=>decide (a<=b)) Gr.R.id ns/\w'.ownsRow base 74 5 (.slice A n c) n (l'.flatMap Prod.snd):=by
 rcases hr.2 with⟨e,h0⟩|⟨g,cap,cur,e,-⟩
 ·cases e
  have hns:ns=[]:=aeI hn;subst hns;have hl0:l=[]:=ao6.1 hl;subst hl0;refine(akG none 0 _ V).mono ?_;rintro e w' ⟨rfl,rfl⟩;exact⟨rfl,iw _ _,[],.refl _,by rw[show Gr.mY _ Gr.R.id []=[] from an7];rfl,hr⟩
 cases e;obtain⟨q,q1,q2⟩:=Qq (enc:=encR) (ka:=fun e:ER=>e.1) (kb:=Gr.R.id) (fun x hx=>akZ (ho x hx))
 have hq:q.length=n:=by rw[<-hn,<-hl,<-q1,aeP,aeP]
 have e1:=Qr (enc:=encR) (fun y hy=>(q2 y hy).1)
 rw[q1]at e1;have hk: ∀x,(encR x).length=5:=fun x=>rfl
 have hs1:(q.map Prod.snd).toArray.size=n:=by simp[hq]
 refine(akF (cap:=c) (Vo hk (fun x v hv=> ?_) (by rw[anG,e1];exact hr) hs1) hs1 hs).mono ?_
 ·simp only[encR,aga,anX,apz]at hv
  rcases hv with rfl|rfl|rfl|rfl|rfl<;>rfl
 rintro e w' ⟨rfl,d',hs',S,hsrt,hp⟩;obtain⟨o1,o2⟩:=Vp hk hr hs' S;rw[anG]at hp;obtain⟨l',p1,p2,p3⟩:=Vr KU (ka:=fun e:ER=>e.1) q1 q2 hp hsrt (by rw[hl];exact hd)
 rw[hl]at p3;exact⟨rfl,o2,l',p1,p3,by rw[<-p2];exact o1⟩
def nH.drew {w:World} {B:Nat} {g:Gr.G} {ob n m cn cr i j:Nat} {An Ar:Option Addr} {V:World} (h:nH w B g ob n m cn cr i j An Ar V):nH w B g ob n m cn cr i j An Ar V.drew:=⟨h.nx,h.rx,h.out,h.res,h.ne,h.bel.drew⟩
def nH.rel {w:World} {B:Nat} {g:Gr.G} {ob n m cn cr i j:Nat} {An Ar:Option Addr} {V:World} (h:nH w B g ob n m cn cr i j An Ar V) (hm:g.ay.length=m) (hj:j<m): ∃(p:Gr.R) (gr:Nat) (Ap:Option Addr) (cp:Nat),p∈g.ay/\Ar=some ⟨gr,0,none⟩/\dD w B 6 (bg w B) Ap p.props/\
  V.cell? ⟨gr,j*5+4,none⟩=some (.slice Ap p.props.length cp)/\V.frozen? ⟨gr,j*5+4,none⟩=false/\ ∀w7 v7,aT 143 w7 V.heap.size v7 (Gr.kV p.props)->Below V.heap.size V w7->w7.cell? ⟨gr,j*5+4,none⟩=some (.slice Ap p.props.length cp)/\w7.frozen? ⟨gr,j*5+4,none⟩=false/\
   w7.cell? ⟨ob,0,none⟩=some (.slice An n cn)/\w7.cell? ⟨ob,1,none⟩=some (.slice Ar m cr)/\nH w B g ob n m cn cr i (j+1) An Ar (w7.setCell ⟨gr,j*5+4,none⟩ v7):=by
 obtain⟨l1,l2,h1,h2,h3,h4,h5⟩:=h.rx
 obtain⟨⟨p,cs⟩,l3,rfl⟩: ∃x l3,l2=x :: l3:=by
  cases l2 with
  |nil=>
   have:=afL List.length h2;rw[ahr,afy,aeP,aeP,h1,hm]at this;omega
  |cons x r=>exact⟨x,r,rfl⟩
 obtain⟨hpm,Ap,cp,rfl,dN⟩:=(show p∈g.ay/\lU w B p cs from h4 (p,cs) (aph ..))
 have hpl: ∀y∈l1,y.2.length=5:=fun y hy=>(h3 y hy).len
 have hw1:=h.bel.size;obtain⟨gr,rfl,hg,c4,f4,-⟩:=yu (j:=4) h5 hpl h1 rfl hj (by decide)
 refine⟨p,gr,Ap,cp,hpm,rfl,dN,c4,f4,fun w7 v7 o7 b7=> ?_⟩
 have r7:=own_below h5 b7;obtain⟨g',e',-,c8,f8,st⟩:=yu (j:=4) r7 hpl h1 rfl hj (by decide)
 cases e';obtain⟨e0,e1⟩:=cells2 (h.out.below b7 h.out.lt);have row:=st v7;simp only[aeE,aeD]at row;have k7:Kt 74 w.heap.size w7 (w7.setCell ⟨gr,j*5+4,none⟩ v7):=Kt.row (r:=.slice (some ⟨gr,0,none⟩) m cr) r7 (grownBy_set w7 ⟨gr,j*5+4,none⟩ _) (aep hw1 b7.size);have k8:=(Kt.of_below b7 hw1).trans k7;obtain⟨q1,q2,q3,q4,q5,q6⟩:=h.nx;refine⟨c8,f8,e0,e1,⟨q1,q2,q3,q4,fun x hx=>(q5 x hx).kp (k8.kp (.inr rfl)),q6.1,oh q6.2 k8 (by decide)⟩,⟨l1++[(Gr.vH p,[.int .i64 p.id,ST p.type,.int .i64 p.src,.int .i64 p.dst,v7])],l3,by simp[h1],by rw[<-h2];simp,fun x hx=> ?_,fun x hx=>h4 x (ahj _ hx),by simpa using row⟩,k8.blk h.out (by decide),k8.blk h.res (by decide),h.ne,h.bel.trans k8.bel⟩
 rcases afq.1 hx with hx|hx
 ·exact(h3 x hx).kp (k8.kp (.inr rfl))
 rw[afm.1 hx];exact⟨_,rfl,(o7.base hw1).kp (k7.kp (.inr rfl)) (by decide) (by decide) (by decide)⟩
def eG.kt {T:TypeId} {base B:Nat} {x:Gr.P×List Value} {w w':World} (h:eG w B x) (hk:Kt T base w w') (h1:2≠T) (h2:9≠T):eG w' B x:=by
 obtain⟨s,t,e,o1,o2⟩:=h;exact⟨s,t,e,oh o1 hk h1,oh o2 hk h2⟩
def aT.kt {S T:TypeId} {base B:Nat} {v:Value} {ps:List Gr.P} {w w':World} (h:aT S w B v ps) (hk:Kt T base w w') (h1:2≠T) (h2:9≠T) (h3:S≠T):aT S w' B v ps:=by
 obtain⟨l,e,hx,ho⟩:=h;exact⟨l,e,fun x hm=>(hx x hm).kt hk h1 h2,oh ho hk h3⟩
def iP.kt {T:TypeId} {base B:Nat} {x:Gr.N×List Value} {w w':World} (h:iP w B x) (hk:Kt T base w w') (h1:2≠T) (h2:9≠T) (h3:143≠T):iP w' B x:=by
 obtain⟨s,t,e,o1,o2⟩:=h;exact⟨s,t,e,oh o1 hk h2,o2.kt hk h1 h2 h3⟩
def iQ.kt {T:TypeId} {base B:Nat} {x:Gr.R×List Value} {w w':World} (h:iQ w B x) (hk:Kt T base w w') (h1:2≠T) (h2:9≠T) (h3:143≠T):iQ w' B x:=by
 obtain⟨t,e,o2⟩:=h;exact⟨t,e,o2.kt hk h1 h2 h3⟩
def Kt.cell {T:TypeId} {base b:Nat} {cs:Array Value} {w:World} (h:ak w b T cs) (hb:base<=b) (i:Nat) (u:Value):Kt T base w (w.setCell ⟨b,i,none⟩ u):=
 ⟨(aoa base w).setCell (p:=⟨b,i,none⟩) hb u,fun k c t fz hc ht=>by
  rw[(grownBy_set w ⟨b,i,none⟩ u).block k (afb.1 hc).1 (fun e=> ?_)]
  ·exact hc
  cases e;rw[show w.heap[b]?=_ from h]at hc
  cases hc
  exact ht rfl⟩
def dV.kt {T:TypeId} {base B:Nat} {u:Value} {g:Gr.G} {w w':World} (h:dV w B u g) (hk:Kt T base w w') (h1:2≠T) (h2:9≠T) (h3:143≠T) (h4:37≠T) (h5:74≠T):dV w' B u g:=by
 obtain⟨sn,sr,ln,lr,e,q1,q2,q3,q4,q5,q6⟩:=h;exact⟨sn,sr,ln,lr,e,q1,fun x hx=>(q2 x hx).kt hk h1 h2 h3,oh q3 hk h4,q4,fun x hx=>(q5 x hx).kt hk h1 h2 h3,oh q6 hk h5⟩
def nH.done {w:World} {B:Nat} {g:Gr.G} {ob n m cn cr:Nat} {An Ar:Option Addr} {V:World} (h:nH w B g ob n m cn cr n m An Ar V) (hn:g.nodes.length=n) (hm:g.ay.length=m):
  ∃(ln:List (Gr.N×List Value)) (lr:List (Gr.R×List Value)),ln.map Prod.fst=g.nodes.map Gr.sQ/\(∀x∈ln,iP V w.heap.size x)/\V.ownsRow w.heap.size 37 3 (.slice An n cn) n (ln.flatMap Prod.snd)/\
   lr.map Prod.fst=g.ay.map Gr.vH/\(∀x∈lr,iQ V w.heap.size x)/\V.ownsRow w.heap.size 74 5 (.slice Ar m cr) m (lr.flatMap Prod.snd):=by
 obtain⟨l1,l2,h1,h2,h3,-,h5⟩:=h.nx;obtain⟨k1,k2,e1,e2,e3,-,e5⟩:=h.rx
 have z1:l2=[]:=by
  have:=afL List.length h2;rw[aeo,aeP,aeP,aeP,h1,hn]at this;exact aeI (by omega)
 have z2:k2=[]:=by
  have:=afL List.length e2;rw[aeo,aeP,aeP,aeP,e1,hm]at this;exact aeI (by omega)
 subst z1 z2;rw[ahr,afy]at h2 e2;rw[afy]at h5 e5;exact⟨l1,k1,h2,h3,h5,e2,e3,e5⟩
def acG {fn:Func} {R:Ending->World->Prop} {tmps:Array Value} {W:World} {p:Tmp} {b:Nat} {v0 v1:Value} (hfn:fn.results= #[.cell p 26])
  (ht:tmps.getD p undef=.pointer (some ⟨b,0,none⟩)) (hB:ak W b 26 #[v0,v1]) (hR:R (.returned (.agg #[v0,v1])) W):
  bodyPost prog fn R .ret {tmps:=tmps,defers:=[]} W:=by
 obtain⟨c0,c1⟩:=cells2 hB;refine arW (v:=.agg #[v0,v1]) ?_ rfl hR;simp at ht;simp[results,hfn,go_sem,ht,c0,c1]
def ak1 (B:Nat) (u:Value) (g:Gr.G) (w:World) (h:nN w B u g) (hB:B<=w.heap.size) (hd:FZ g):
  Calls prog 14 #[u] w fun e w'=> ∃u',e=.returned u'/\dV w' w.heap.size u' (Gr.canon g)/\Below w.heap.size w w':=by
 have hok:=h.ok;obtain⟨A1,c1,A2,c2,rfl,hN,hR⟩:=h.ex;obtain⟨ln,hn1,hn2,hn3⟩:=hN.pairs;obtain⟨lr,hr1,hr2,hr3⟩:=hR.pairs;obtain⟨n,hn⟩:=aj g.nodes.length;obtain⟨m,hm⟩:=aj g.ay.length;have hnl:n<=1073741824:=hn▸hok.nl;have hml:m<=1073741824:=hm▸hok.rl
 have hone: ∀v∈ln.flatMap Prod.snd,v.oneCell'=true:=fun v hv=>by
  obtain⟨x,hx,hv⟩:=ahd.1 hv;obtain⟨⟨_,_,_,_,e,-,-⟩,-⟩:=hn2 x hx;rw[e]at hv;simp only[aga,anX,apz]at hv
  rcases hv with rfl|rfl|rfl<;>rfl
 have aft: ∀v∈lr.flatMap Prod.snd,v.oneCell'=true:=fun v hv=>by
  obtain⟨x,hx,hv⟩:=ahd.1 hv;obtain⟨⟨_,_,e,-⟩,-⟩:=hr2 x hx;rw[e]at hv;simp only[aga,anX,apz]at hv
  rcases hv with rfl|rfl|rfl|rfl|rfl<;>rfl
 rw[hn]at hn3;rw[hm]at hr3;have wB:=ah (fun(V:World) (hb:Below w.heap.size w V)=>akR B A1 c1 n _ V (hn3.below (hb.mono hB)) hone hnl (aep hB hb.size))
 have zh:=ah (fun(V:World) (hb:Below w.heap.size w V)=>akT B A2 c2 m _ V (hr3.below (hb.mono hB)) aft hml (aep hB hb.size))
 rw[hn,hm];refine gq4 hok hd hn hm fun bF HD HN HM=>?_;have hNL: ∀i,g.nodes.length=i->i<=1073741824:=fun i e=>e▸bF.nl
 have CG:=ah (And.intro hn1 hn2);have aZ:=ah (And.intro hr1 hr2);clear h hok hd hN hR hone aft hn hm hn3 hr3 hn1 hn2 hr1 hr2;go_enter func14,ntmps14
 go_upto_region 1 with fail
 go_cut [3] (fun s3 wx=> ∃(ob cn cr:Nat) (An Ar:Option Addr),s3=.pointer (some ⟨ob,0,none⟩)/\nH w B g ob n m cn cr 0 0 An Ar wx)
 case first=>
  rename_i J K0 hJ hK;have hb1:Below w.heap.size w ((w.alloc (.cells #[.slice A1 n c1,.slice A2 m c2] 26)).alloc (.cells #[.slice none 0 0,.slice none 0 0] 26)):=((aoa _ w).alloc (aej _) _).alloc (by simp) _
  have hk1:ak ((w.alloc (.cells #[.slice A1 n c1,.slice A2 m c2] 26)).alloc (.cells #[.slice none 0 0,.slice none 0 0] 26)) w.heap.size 26 #[.slice A1 n c1,.slice A2 m c2]:=(ak.new _ _ _).alloc _
  have hk2:ak ((w.alloc (.cells #[.slice A1 n c1,.slice A2 m c2] 26)).alloc (.cells #[.slice none 0 0,.slice none 0 0] 26)) (w.heap.size+1) 26 #[.slice none 0 0,.slice none 0 0]:=by
   have:=ak.new (w.alloc (.cells #[.slice A1 n c1,.slice A2 m c2] 26)) 26 #[.slice none 0 0,.slice none 0 0]
   simpa using this
  obtain⟨W1,hW1⟩:=aj ((w.alloc (.cells #[.slice A1 n c1,.slice A2 m c2] 26)).alloc (.cells #[.slice none 0 0,.slice none 0 0] 26));rw[hW1]at hb1 hk1 hk2⊢;obtain⟨d0,d1⟩:=cells2 hk1;have HR1:=ah (show Rg w (.slice A1 n c1) (.slice A2 m c2) W1.drew from⟨hb1.drew,hk1,hk2⟩)
  have ql:=ah (show Rg w (.slice A1 n c1) (.slice A2 m c2) (W1.alloc (.cells #[.slice none 0 0,.slice none 0 0] 26)).drew from⟨(hb1.alloc hb1.size _).drew,hk1.alloc _,hk2.alloc _⟩)
  have HZ1:=ah (show ak (W1.alloc (.cells #[.slice none 0 0,.slice none 0 0] 26)).drew W1.heap.size 26 #[.slice none 0 0,.slice none 0 0] from ak.new W1 _ _)
  obtain⟨h0,h1⟩:=cells2 (show ak (W1.alloc (.cells #[.slice none 0 0,.slice none 0 0] 26)) _ _ _ from ql.k1)
  have CB:=ah (show w.heap.size+2<=W1.heap.size from hk2.lt)
  clear hW1 hb1 hk1 hk2
  go_region_law (first|(refine IU 42 rfl (by go_simp) (wB.out _ (by first|exact HR1.bel|exact ql.bel|exact fF.bel|exact(fF.alloc _).bel|fail)) ?_;rintro v7 w7 ⟨o7,b7⟩;obtain⟨A7,c7,rfl⟩:=aH o7;(first|(have jB:=ah (HR1.below b7);have yV:=ah (jL o7 HR1.bel.size))|(have jB:=ah (ql.below b7);have AA:=ah (HZ1.below b7 HZ1.lt);have yV:=ah (jL o7 ql.bel.size))|(have jB:=ah (fF.below b7);have AA:=ah (ED.below b7 ED.lt);have yV:=ah (jL o7 fF.bel.size);have HX:=ah (own_below CJ.out b7))|(have jB:=ah (fF.below b7);have yV:=ah (jL o7 fF.bel.size);have HX:=ah (own_below CJ.out b7))|(have jB:=ah ((fF.alloc (.cells #[.slice none 0 0,.slice none 0 0] 26)).below b7);have AA:=ah (ak.below (ak.new w8 26 #[.slice none 0 0,.slice none 0 0]) b7 (by simp));have yV:=ah (jL o7 (fF.alloc (.cells #[.slice none 0 0,.slice none 0 0] 26)).bel.size);have HX:=ah (own_below (asi CJ.out _) b7))|fail);obtain⟨d0,d1⟩:=cells2 jB.k1;obtain⟨h0,h1⟩:=cells2 (jB.alloc (.cells #[.slice none 0 0,.slice none 0 0] 26)).k1;try (obtain⟨e0,e1⟩:=cells2 AA.out;have f0:=AA.frozen 0;have f1:=AA.frozen 1);clear o7 b7)|(refine IU 43 rfl (by go_simp) (zh.out _ (by first|exact HR1.bel|exact ql.bel|exact jB.bel|exact(jB.alloc _).bel|fail)) ?_;rintro v8 w8 ⟨o8,b8⟩;obtain⟨A8,c8,rfl⟩:=aH o8;(first|(have fF:=ah (HR1.below b8);have CJ:=ah (jL o8 HR1.bel.size))|(have fF:=ah (ql.below b8);have ED:=ah (HZ1.below b8 HZ1.lt);have CJ:=ah (jL o8 ql.bel.size))|(have fF:=ah (jB.below b8);have ED:=ah (AA.below b8 AA.lt);have CJ:=ah (jL o8 jB.bel.size);have HX:=ah (own_below yV.out b8))|(have fF:=ah (jB.below b8);have CJ:=ah (jL o8 jB.bel.size);have HX:=ah (own_below yV.out b8))|(have fF:=ah ((jB.alloc (.cells #[.slice none 0 0,.slice none 0 0] 26)).below b8);have ED:=ah (ak.below (ak.new w7 26 #[.slice none 0 0,.slice none 0 0]) b8 (by simp));have CJ:=ah (jL o8 (jB.alloc (.cells #[.slice none 0 0,.slice none 0 0] 26)).bel.size);have HX:=ah (own_below (asi yV.out _) b8))|fail);obtain⟨d0,d1⟩:=cells2 fF.k1;obtain⟨h0,h1⟩:=cells2 (fF.alloc (.cells #[.slice none 0 0,.slice none 0 0] 26)).k1;try (obtain⟨e0,e1⟩:=cells2 ED.out;have f0:=ED.frozen 0;have f1:=ED.frozen 1);clear o8 b8)|fail)
  all_goals
   refine hK _ _ (Met.intro (hJ _ _ ?_))
   repeat apply Exists.intro
   first
    |exact⟨⟨_,c7,c8,A7,A8,rfl,nH.start' CG.out.1 CG.out.2 aZ.out.1 aZ.out.2 fF.out HX.out CJ.out⟩,rfl⟩
    |exact⟨⟨_,c7,c8,A7,A8,rfl,nH.start' CG.out.1 CG.out.2 aZ.out.1 aZ.out.2 jB.out yV.out HX.out⟩,rfl⟩
    |exact⟨⟨_,c7,c8,A7,A8,rfl,nH.start CG.out.1 CG.out.2 aZ.out.1 aZ.out.2 fF.out HX.out CJ.out ED.out (by first|exact CB.out|exact jB.k2.lt)⟩,rfl⟩
    |exact⟨⟨_,c7,c8,A7,A8,rfl,nH.start CG.out.1 CG.out.2 aZ.out.1 aZ.out.2 jB.out yV.out HX.out AA.out (by first|exact CB.out|exact fF.k2.lt)⟩,rfl⟩
 obtain⟨ob,cn,cr,An,Ar,rfl,hs⟩:=hcut;have HS:=ah hs;obtain⟨a0,a1⟩:=cells2 hs.out;clear hs CG aZ wB zh;go_wp2_with fail
 go_loopg [17] n (fun kx Yb wr=> ∃i:Nat,Yb=.int .i64 i/\i+kx=n/\nH w B g ob n m cn cr i 0 An Ar wr)
 case atStart=>exact⟨0,rfl,by omega,HS.out⟩
 obtain⟨i,rfl,hk,hs⟩:=hrel;have HR:=ah hs;obtain⟨a0,a1⟩:=cells2 hs.out;clear HS hs;cases gk with
 |zero=>
  obtain rfl:i=n:=by omega
  clear hk hnl;go_wp2_with fail
  go_loopg [49] m (fun kx s49 wx=> ∃j:Nat,s49=.int .i64 j/\j+kx=m/\nH w B g ob i m cn cr i j An Ar wx)
  case atStart=>exact⟨0,rfl,by omega,HR.out⟩
  obtain⟨j,rfl,hk,hs⟩:=hrel;have HQ:=ah hs;obtain⟨a0,a1⟩:=cells2 hs.out;clear HR hs;cases gk with
  |zero=>
   obtain rfl:j=m:=by omega
   obtain⟨ln,lr,n1,n2,n3,r1,r2,r3⟩:=HQ.done HN.out HM.out;have hw1:=HQ.bel.size;have dB:=ah (akY n1 n2 n3 (by rw[ahs];exact HD.ni) (by rw[aeP];exact HN.out) (hNL i HN.out))
   have mg:=ah (And.intro n3 (And.intro n2 (And.intro r1 (And.intro r2 r3))));clear n1 n2 n3 r1 r2 r3;go_wp2_with fail;refine dB.mono ?_;rintro e w2 ⟨rfl,g2,l',p1,p2,p3⟩;obtain⟨n3,n2,r1,r2,r3⟩:=mg.out;have k2:Kt 37 w.heap.size wr w2:=Kt.row (r:=.slice An i cn) n3 g2 hw1;obtain⟨a0,a1⟩:=cells2 (k2.blk HQ.out.out (by decide))
   have r4:=oh r3 k2 (by decide)
   refine gq3 (ak0 r1 (fun x hx=>(r2 x hx).kp (k2.kp (.inl rfl))) r4 (by rw[ahs];exact HD.ri) (by rw[aeP];exact HM.out) hml) (And.intro p2 (And.intro (fun x hx=>(n2 x (p1.mem_iff.1 hx)).kp (k2.kp (.inl rfl))) p3)) (And.intro r4 (And.intro k2 (fun x hx=>(r2 x hx).kp (k2.kp (.inl rfl))))) fun iJ HN2 HR4=>?_
   clear n3 n2 r1 r2 r3 p1 p2 p3 g2 k2 r4 mg dB;go_wp2_with fail;refine iJ.mono ?_;rintro e w3 ⟨rfl,g3,l3,p1,p2,p3⟩;obtain⟨r4,k2,r2⟩:=HR4.out;have k3:Kt 74 w.heap.size w2 w3:=Kt.row (r:=.slice Ar j cr) r4 g3 (aep hw1 k2.bel.size);obtain⟨m1,m2,m3⟩:=HN2.out;have hres:=k3.blk (k2.blk HQ.res (by decide)) (by decide)
   obtain⟨a0,a1⟩:=cells2 (k3.blk (k2.blk HQ.out.out (by decide)) (by decide))
   obtain⟨b0,b1⟩:=cells2 hres;have f0:=hres.frozen 0;have f1:=hres.frozen 1
   have hgo:dV w3 w.heap.size (.agg #[.slice An i cn,.slice Ar j cr]) (Gr.canon g):=by
    have e1:(Gr.canon g).nodes.length=i:=(ag8 _ _).length_eq.trans (by rw[aeP];exact HN.out)
    have e2:(Gr.canon g).ay.length=j:=(ag8 _ _).length_eq.trans (by rw[aeP];exact HM.out)
    exact⟨_,_,l',l3,rfl,m1,fun x hx=>(m2 x hx).kt k3 (by decide) (by decide) (by decide),by rw[e1];exact oh m3 k3 (by decide),p2,fun x hx=>(r2 x (p1.mem_iff.1 hx)).kt k3 (by decide) (by decide) (by decide),by rw[e2];exact p3⟩
   have k4:=Kt.cell (base:=w.heap.size) hres (by omega) 0 (.slice An i cn)
   have hr4:=hres.aG 0 (.slice An i cn);have k5:=Kt.cell (base:=w.heap.size) hr4 (by omega) 1 (.slice Ar j cr)
   have k6:=k4.trans k5;have HF:=ah (And.intro (hgo.kt k6 (by decide) (by decide) (by decide) (by decide) (by decide)) (And.intro (ak.cast (hr4.aG 1 (.slice Ar j cr)) (by simp):ak _ _ _ #[.slice An i cn,.slice Ar j cr]) ((HQ.bel.trans (k2.bel.trans k3.bel)).trans k6.bel)))
   clear r4 k2 r2 k3 m1 m2 m3 hres hgo k4 hr4 k5 k6 p1 p2 p3 g3 HR4 HN2 iJ;go_wp2_with fail;refine acG rfl (by simp) HF.out.2.1 ⟨_,rfl,HF.out.1,HF.out.2.2⟩
  |succ kq=>
   have hin:j<m:=by omega
   have Nv:(j:Int)<(m:Int):=by omega
   obtain⟨p,gr,Ap,cp,hpm,rfl,dN,c4,f4,hst⟩:=HQ.drew.rel HM.out hin;have iV:=bF.rs p hpm;have hbd:Below w.heap.size w wr.drew:=HQ.bel.drew;have eU:=ah (acF B Ap cp p.props wr.drew (dN.below (hbd.mono hB) (bg.below (hbd.mono hB))) (aep hB hbd.size) iV.pl iV.ps (HD.rp p hpm));have HST:=ah hst;have c4:wr.cell? _=_:=c4;have pj:(0:Int)<=(j:Int):=by omega
   have tj:((j:Int)).toNat=j:=by omega
   clear iV hpm dN hst hbd;go_wp2_with fail
   go_region_law (first|(refine IU 46 rfl (by go_simp) eU.out ?_;rintro v7 w7 ⟨o7,b7⟩;obtain⟨d4,g4,d0,d1,hs7⟩:=HST.out w7 v7 o7 b7;obtain⟨A7,c7,rfl⟩:=o7.form;have dL:=ah hs7;clear o7 b7 hs7)|fail)
   all_goals
    go_wp2_with fail
    go_roundg kq
    case measure=>omega
    exact⟨j+1,by simp,by omega,dL.out⟩
 |succ kq=>
  have hin:i<n:=by omega
  have Nv:(i:Int)<(n:Int):=by omega
  obtain⟨l1,l2,h1,h2,h3,h4,h5⟩:=HR.nx;have hbel:=HR.bel
  obtain⟨⟨p,cs⟩,l3,rfl⟩: ∃x l3,l2=x :: l3:=by
   cases l2 with
   |nil=>
    have:=afL List.length h2;rw[ahr,afy,aeP,aeP,h1,HN.out]at this;omega
   |cons x r=>exact⟨x,r,rfl⟩
  obtain⟨hpm,Al,cl,Ap,cp,rfl,dK,dN⟩:=(show p∈g.nodes/\lT w B p cs from h4 (p,cs) (aph ..))
  have iV:=bF.ns p hpm;have hpl: ∀y∈l1,y.2.length=3:=fun y hy=>(h3 y hy).len
  obtain⟨ll,hll⟩:=aj p.labels.length;obtain⟨pl,hpl2⟩:=aj p.props.length;have afv:ll<=1073741824:=hll▸iV.ll;have hw1:w.heap.size<=wr.heap.size:=hbel.size;have hcp:=fun(V:World) (hb:Below w.heap.size w V)=>acF B Ap cp p.props V (dN.below (hb.mono hB) (bg.below (hb.mono hB))) (aep hB hb.size) iV.pl iV.ps (HD.np p hpm)
  rw[hll]at dK h5;rw[hpl2]at h5 hcp;obtain⟨gn,rfl,hg,c4,f4,-⟩:=yu (j:=1) h5 hpl h1 rfl hin (by decide)
  simp only[aeQ,aev]at c4;refine gq5 (acC B Al cl ll _ wr (dK.below (hbel.mono hB)) (fun u hu=>by obtain⟨y,-,rfl⟩:=ant.1 hu;rfl) afv (aep hB hw1)) (And.intro h1 (And.intro h2 (And.intro h3 (And.intro h4 (And.intro hpl (And.intro hll hpl2)))))) h5 hcp hbel fun lu HH H5 eU HB=>?_
  clear h1 h2 h3 h4 h5 hpl hll hpl2 dK dN hg hbel iV hcp hpm;go_wp2_with fail;refine lu.mono ?_;rintro e w2 ⟨v2,rfl,o2,b2⟩;obtain⟨A2,c2,rfl⟩:=aH o2;have hh:=HH.out;have r2:=own_below H5.out b2;obtain⟨g',e',-,Ya,f4',Nw⟩:=yu (j:=1) r2 hh.2.2.2.2.1 hh.1 rfl hin (by decide)
  cases e';simp only[aeQ,aev]at Ya;have row3:=Nw (.slice A2 ll c2);simp only[aeE,aeD]at row3;obtain⟨W3,hW3⟩:=aj (w2.setCell ⟨gn,i*3+1,none⟩ (.slice A2 ll c2));have hgs:w2.grownBy W3 (some gn):=hW3▸grownBy_set w2 ⟨gn,i*3+1,none⟩ _;rw[hW3]at row3;have k3:Kt 37 w.heap.size wr W3:=(Kt.of_below b2 hw1).trans (Kt.row (r:=.slice (some ⟨gn,0,none⟩) n cn) r2 hgs (aep hw1 b2.size))
  have o3:=eu o2 hgs (fun g c t fz e hc=>by
   cases e;obtain⟨_,c',hc'⟩:=mW r2 gn rfl;rw[hc']at hc;cases hc
   decide)
  obtain⟨g',e',-,c5,f5,-⟩:=yu (j:=1) row3 hh.2.2.2.2.1 hh.1 rfl hin (by decide)
  cases e';simp only[aeQ,aev]at c5;refine gq3 (akW o3 hh.2.2.2.2.2.1 afv) (And.intro row3 (And.intro o3 k3)) hh fun bK HX oK=>?_;clear o2 b2 r2 Nw hgs row3 o3 k3 hh HH H5 lu;go_wp2_with fail;refine tq8 bK fun w4 o4 g4=>?_;clear hW3;obtain⟨row3,o3,k3⟩:=HX.out;have hh:=oK.out;have k4:=k3.news o3 g4 hw1;have row4:=DN row3 g4 (jL o3 hw1) (by decide)
  obtain⟨g',e',-,c6,f6,-⟩:=yu (j:=2) row4 hh.2.2.2.2.1 hh.1 rfl hin (by decide)
  cases e';simp only[aeQ,aev]at c6;have HC2:=ah (eU.out w4 (HB.trans k4.bel));have uG:=ah (And.intro row4 (And.intro o4 k4));clear row3 o3 k3 k4 row4 o4 g4 hh HX bK eU;go_wp2_with fail;refine HC2.mono ?_;rintro e w5 ⟨v5,rfl,o5,b5⟩;have afw:(Gr.kV p.props).length=pl:=(ag8 _ _).length_eq.trans oK.out.2.2.2.2.2.2;obtain⟨A5,c7,e5⟩:=o5.form;rw[afw]at e5;subst e5;obtain⟨row4,o4,k4⟩:=uG.out;have hh:=oK.out;have r5:=own_below row4 b5;obtain⟨g',e',-,c8,f8,st6⟩:=yu (j:=2) r5 hh.2.2.2.2.1 hh.1 rfl hin (by decide)
  cases e';simp only[aeQ,aev]at c8;have RH:=st6 (.slice A5 pl c7);simp only[aeE,aeD]at RH;obtain⟨W6,xB⟩:=aj (w5.setCell ⟨gn,i*3+2,none⟩ (.slice A5 pl c7));have hgs:w5.grownBy W6 (some gn):=xB▸grownBy_set w5 ⟨gn,i*3+2,none⟩ _;rw[xB]at RH;have hs4:w.heap.size<=w4.heap.size:=aep hw1 k4.bel.size;have k5:Kt 37 w.heap.size w4 W6:=(Kt.of_below b5 hs4).trans (Kt.row (r:=.slice (some ⟨gn,0,none⟩) n cn) r5 hgs (aep hs4 b5.size));have k6:=k4.trans k5;have hlab:(Gr.vG p.labels).length=ll:=(ag8 _ _).length_eq.trans hh.2.2.2.2.2.1
  have hs:=ah (show nH w B g ob n m cn cr (i+1) 0 (some ⟨gn,0,none⟩) Ar W6 from by
   obtain⟨q1,q2,q3,q4,q5,q6⟩:=HR.rx;refine⟨⟨l1++[(Gr.sQ p,[.int .i64 p.id,.slice A2 ll c2,.slice A5 pl c7])],l3,by simp[hh.1],by rw[<-hh.2.1];simp,fun x hx=> ?_,fun x hx=>hh.2.2.2.1 x (ahj _ hx),by simpa using RH⟩,⟨q1,q2,q3,q4,fun x hx=>(q5 x hx).kp (k6.kp (.inl rfl)),q6.1,oh q6.2 k6 (by decide)⟩,k6.blk HR.out.out (by decide),k6.blk HR.res (by decide),HR.ne,HB.trans k6.bel⟩
   rcases afq.1 hx with hx|hx
   ·exact(hh.2.2.1 x hx).kp (k6.kp (.inl rfl))
   rw[afm.1 hx];refine⟨_,_,rfl, ?_, ?_⟩
   ·show W6.ownsRow w.heap.size 9 1 (.slice A2 ll c2) (Gr.vG p.labels).length ((Gr.vG p.labels).map ST)
    rw[hlab];exact oh (jL o4 hw1) k5 (by decide)
   exact(o5.base hs4).kp (Kt.kp (T:=37) (Kt.row (r:=.slice (some ⟨gn,0,none⟩) n cn) r5 hgs (aep hs4 b5.size)) (.inl rfl)) (by decide) (by decide) (by decide))
  clear row4 o4 k4 hh r5 st6 hgs RH k5 k6 o5 b5 uG oK HC2 hlab afw HR HB;go_wp2_with fail
  go_roundg kq
  case measure=>omega
  exact⟨i+1,by simp,by omega,hs.out⟩
end Go.Proofs.YtdijgcnlbfgkdaaGreatDoor
namespace Go.Proofs
open Go.Shelf
def Tryz.acH:Go.Shelf.Ren:=⟨fun|7=>105|10=>163|n=>n,fun|23=>106|26=>9|3=>3|28=>183|0=>0|27=>182|33=>33|4=>4|n=>n,fun|n=>n⟩
def Tryz.keys105:Go.Proofs.SlLaysZ.n7 prog Tryz.acH:={
 mixed:=by kernel_rfl
 f7:=⟨f105.name,by decide,func105.trans (afL some (by kernel_rfl))⟩
 f10:=⟨f163.name,by decide,func163.trans (afL some (by kernel_rfl))⟩
 t0:=underlying0
 a0:=isAgg0
 z0:=sizeOf0
 v0:=zeroValue0
 t4:=ath
 a4:=isAgg4
 z4:=sizeOf4
 v4:=zeroValue4
 t23:=asf
 a23:=isAgg106
 z23:=sizeOf106
 v23:=zeroValue106
 t26:=asa
 a26:=isAgg9
 z26:=sizeOf9
 v26:=atm
 t27:=underlying182
 a27:=isAgg182
 z27:=sizeOf182
 v27:=zeroValue182
 t28:=underlying183
 a28:=isAgg183
 z28:=sizeOf183
 v28:=zeroValue183
 t33:=underlying33
 a33:=isAgg33
 z33:=sizeOf33
 v33:=zeroValue33}
def Tryz.acI:Go.Shelf.Ren:=⟨fun|6=>104|8=>162|9=>45|11=>203|13=>92|12=>91|23=>153|24=>154|14=>144|15=>145|16=>146|17=>147|18=>148|19=>149|20=>150|21=>151|22=>152|25=>192|26=>193|27=>194|28=>195|29=>196|30=>197|31=>235|n=>n,fun|26=>9|28=>183|24=>34|0=>0|3=>3|37=>168|48=>213|50=>151|4=>4|40=>207|39=>206|45=>104|5=>5|9=>9|51=>248|55=>252|57=>284|58=>69|33=>33|n=>n,fun|n=>n⟩
def Tryz.sorted104:Go.Proofs.SlLaysZ.n6 prog Tryz.acI:={
 mixed:=by kernel_rfl
 f6:=⟨f104.name,by decide,func104.trans (afL some (by kernel_rfl))⟩
 f8:=⟨f162.name,by decide,func162.trans (afL some (by kernel_rfl))⟩
 f11:=⟨f203.name,by decide,func203.trans (afL some (by kernel_rfl))⟩
 t0:=underlying0
 a0:=isAgg0
 z0:=sizeOf0
 v0:=zeroValue0
 t24:=ar0
 a24:=isAgg34
 z24:=sizeOf34
 v24:=zeroValue34
 t26:=asa
 a26:=isAgg9
 z26:=sizeOf9
 v26:=atm
 t28:=underlying183
 a28:=isAgg183
 z28:=sizeOf183
 v28:=zeroValue183
 i26:=by kernel_rfl}
def Tryz.ak2:Go.Shelf.Ren:=⟨fun|6=>45|8=>92|9=>91|19=>153|20=>154|21=>144|22=>145|23=>146|24=>147|25=>148|26=>149|27=>150|28=>151|29=>152|36=>192|31=>193|32=>194|37=>195|38=>196|39=>197|41=>235|n=>n,fun|27=>34|29=>9|3=>3|32=>168|26=>34|0=>0|44=>213|46=>151|4=>4|36=>207|35=>206|41=>104|5=>5|9=>9|53=>248|57=>252|63=>284|64=>69|n=>n,fun|n=>n⟩
def Tryz.sort45:Go.Proofs.SlLaysM.n6 prog Tryz.ak2:={
 mixed:=by kernel_rfl
 f6:=⟨f45.name,by decide,func45.trans (afL some (by kernel_rfl))⟩
 f8:=func92.trans (afL some (by kernel_rfl))
 f9:=⟨f91.name,by decide,func91.trans (afL some (by kernel_rfl))⟩
 f19:=func153.trans (afL some (by kernel_rfl))
 f20:=func154.trans (afL some (by kernel_rfl))
 f21:=⟨f144.name,by decide,func144.trans (afL some (by kernel_rfl))⟩
 f22:=⟨f145.name,by decide,func145.trans (afL some (by kernel_rfl))⟩
 f23:=⟨f146.name,by decide,func146.trans (afL some (by kernel_rfl))⟩
 f24:=⟨f147.name,by decide,func147.trans (afL some (by kernel_rfl))⟩
 f25:=⟨f148.name,by decide,func148.trans (afL some (by kernel_rfl))⟩
 f26:=⟨f149.name,by decide,func149.trans (afL some (by kernel_rfl))⟩
 f27:=⟨f150.name,by decide,func150.trans (afL some (by kernel_rfl))⟩
 f28:=⟨f151.name,by decide,func151.trans (afL some (by kernel_rfl))⟩
 f29:=⟨f152.name,by decide,func152.trans (afL some (by kernel_rfl))⟩
 f31:=func193.trans (afL some (by kernel_rfl))
 f32:=func194.trans (afL some (by kernel_rfl))
 f36:=⟨f192.name,by decide,func192.trans (afL some (by kernel_rfl))⟩
 f37:=⟨f195.name,by decide,func195.trans (afL some (by kernel_rfl))⟩
 f38:=⟨f196.name,by decide,func196.trans (afL some (by kernel_rfl))⟩
 f39:=⟨f197.name,by decide,func197.trans (afL some (by kernel_rfl))⟩
 f41:=⟨f235.name,by decide,func235.trans (afL some (by kernel_rfl))⟩
 t0:=underlying0
 a0:=isAgg0
 z0:=sizeOf0
 v0:=zeroValue0
 t3:=asI
 a3:=isAgg3
 z3:=sizeOf3
 v3:=zeroValue3
 t4:=ath
 a4:=isAgg4
 z4:=sizeOf4
 v4:=zeroValue4
 t5:=asT
 a5:=isAgg5
 z5:=sizeOf5
 v5:=zeroValue5
 t9:=asa
 a9:=isAgg9
 z9:=sizeOf9
 v9:=atm
 t26:=ar0
 a26:=isAgg34
 z26:=sizeOf34
 v26:=zeroValue34
 t27:=ar0
 a27:=isAgg34
 z27:=sizeOf34
 v27:=zeroValue34
 t29:=asa
 a29:=isAgg9
 z29:=sizeOf9
 v29:=atm
 t32:=underlying168
 a32:=isAgg168
 z32:=sizeOf168
 v32:=zeroValue168
 t35:=underlying206
 a35:=isAgg206
 z35:=sizeOf206
 v35:=zeroValue206
 t36:=underlying207
 a36:=isAgg207
 z36:=sizeOf207
 v36:=zeroValue207
 t41:=underlying104
 a41:=isAgg104
 z41:=sizeOf104
 v41:=zeroValue104
 t44:=underlying213
 a44:=isAgg213
 z44:=sizeOf213
 v44:=zeroValue213
 t46:=underlying151
 a46:=isAgg151
 z46:=sizeOf151
 v46:=zeroValue151
 t53:=underlying248
 a53:=isAgg248
 z53:=sizeOf248
 v53:=zeroValue248
 t57:=underlying252
 a57:=isAgg252
 z57:=sizeOf252
 v57:=zeroValue252
 t63:=underlying284
 a63:=isAgg284
 z63:=sizeOf284
 v63:=zeroValue284
 t64:=underlying69
 a64:=isAgg69
 z64:=sizeOf69
 v64:=zeroValue69}
end Go.Proofs
namespace Go.Proofs.YtdijgcnlbfgkdaaGreatDoor
open Go.RowKit Go.Maps Go.Sort Go.Shelf Go.Proofs.Tryz
def ak3 (m:Nat):AnyZ.SortsIn prog Tryz.acI Fence.wide m:=
 ⟨fun blk off cap ss W hH hblk hsz=>as2.2 (AnyM.slices_Sort_string Tryz.sort45 blk off cap ss W hH hblk hsz),
  fun p cap W=>as2.2 (AnyM.slices_Sort_string_none Tryz.sort45 p cap W)⟩
def Vt (mb:Option Nat) (W:World):Calls prog 105 #[.map mb] W fun e w'=>e=.returned (.func (.func 163) #[] #[.pointer (some ⟨W.heap.size,0,none⟩)])/\W.alloc (.cells #[.map mb] 106)=w':=
 (as2.1 (AnyZ.keys_in Tryz.keys105 Fence.wide 5 trivial rfl mb W)).mono fun _ _ ⟨h1,h2⟩=>⟨h1,h2.symm⟩
def sortL (l:List (List UInt8)):List (List UInt8):=(Gr.dedup l).mergeSort fun x y=>decide (x<=y)
def acJ: ∀l:List (List UInt8),(Gr.dedup l).length<=l.length
 |[]=>by simp[Gr.dedup]
 |a :: r=>by
  have ih:=acJ r;rw[Gr.dedup]
  split
  ·rw[ae7];omega
  rw[ae7,ae7];omega
def Vu (b:Nat) (l:List (List UInt8)) (w:World) (h:iO w b l) (hl:l.length<=1073741824):
  Calls prog 104 #[.func (.func 163) #[] #[.pointer (some ⟨w.heap.size,0,none⟩)]] (w.alloc (.cells #[.map (some b)] 106)) fun e w'=> ∃A c,e=.returned (.slice A (Gr.dedup l).length c)/\
   w'.ownsRow (w.alloc (.cells #[.map (some b)] 106)).heap.size 9 1 (.slice A (Gr.dedup l).length c) (Gr.dedup l).length ((sortL l).map ST)/\Below (w.alloc (.cells #[.map (some b)] 106)).heap.size (w.alloc (.cells #[.map (some b)] 106)) w':=by
 obtain⟨nn,D0,hn,hown,hT,hc,hh⟩:=h.ex;have hbl:=hown.lt;have hperm:(Gr.dedup l).Perm (strKeys D0):=Collected.perm (left:=fun _=>false) ⟨Gr.P8 l,fun x=>by rw[Gr.KI,hh x];simp⟩ hown Qm asa (fun _=>rfl)
 have hdl:=acJ l
 have hsz:Maps.size D0<=1073741824:=by
  have h1:=hperm.length_eq
  have h2:(strKeys D0).length=Maps.size D0:=by
   obtain⟨es,rfl⟩:=hT.isMap;rw[Maps.size_eq];exact aeP _
  omega
 have hseq:SeqGives Fence.wide 2 prog 163 #[.pointer (some ⟨w.heap.size,0,none⟩)] encStr (fun ss=>ss.Perm (strKeys D0)) (Maps.size D0) (w.alloc (.cells #[.map (some b)] 106)):=
  AnyZ.keys_gives (ρ:=Tryz.acH) {Tryz.keys105 with} Fence.wide _ trivial rfl (by omega) w.heap.size b nn D0 _ (by simp) (by simp) (by
   obtain⟨es,clock,hb,Ft,hs,hD⟩:=hown
   exact⟨es,clock,(asU _ _ b hbl).trans hb,Ft,hs,hD⟩)
 refine(as2.1 (AnyZ.sorted_in Tryz.sorted104 Fence.wide 5 trivial trivial trivial trivial rfl (by omega) (ak3 _) (atd func45 (by kernel_rfl) rfl) 163 #[.pointer (some ⟨w.heap.size,0,none⟩)] trivial (atd func163 (by kernel_rfl) rfl) _ _ (by unfold maxLen;omega) (by omega) _ hseq)).mono ?_
 rintro e w' ⟨v,ss,rfl,hS,hrow,-,hb⟩;have hss:=hS.trans hperm.symm;have hm:=mergeSort_of_perm hss;rw[show ss.mergeSort (fun x y=>decide (x<=y))=sortL l from hm,hss.length_eq]at hrow
 obtain⟨A,c,rfl⟩:=aH hrow;exact⟨A,c,rfl,hrow,hb⟩
end Go.Proofs.YtdijgcnlbfgkdaaGreatDoor
namespace Go.Proofs.YtdijgcnlbfgkdaaGreatDoor
open Go.RowKit Go.Proofs.Tryz
def dD.node {W:World} {B:Nat} {A:Option Addr} {l:List Gr.N} (h:dD W B 3 (lT W B) A l) {k:Nat} {n:Gr.N} (hk:l[k]?=some n): ∃b o Al cl Ap cp,A=some ⟨b,o,none⟩/\b<B/\
  (W.cell? ⟨b,o+k*3,none⟩=some (.int .i64 n.id)/\W.cell? ⟨b,o+k*3+1,none⟩=some (.slice Al n.labels.length cl)/\W.cell? ⟨b,o+k*3+2,none⟩=some (.slice Ap n.props.length cp))/\
  Reads W B 1 Al n.labels.length (n.labels.map ST)/\dD W B 6 (bg W B) Ap n.props:=by
 obtain⟨b,o,cs,hA,hb,⟨Al,cl,Ap,cp,rfl,h1,h2⟩,-,hc⟩:=h k n hk;exact⟨b,o,Al,cl,Ap,cp,hA,hb,⟨hc 0 _ rfl,hc 1 _ rfl,hc 2 _ rfl⟩,h1,h2⟩
def ak4 (B:Nat) (A:Option Addr) (c:Nat) (ns:List Gr.N) (k:Nat) (n:Gr.N) (w:World) (h:dD w B 3 (lT w B) A ns) (hB:B<=w.heap.size) (hl:ns.length<=1073741824) (hs: ∀n∈ns,QO n) (hk:ns[k]?=some n):
  Calls prog 52 #[.slice A ns.length c,.int .i64 (k:Int)] w fun e w'=>e=.returned (.int .i64 (Gr.jo (Gr.aQ Gr.N.id ns k) n:Nat))/\Below w.heap.size w w':=by
 obtain⟨R,hR⟩:=aj (Gr.jo (Gr.aQ Gr.N.id ns k) n);rw[hR];unfold Gr.jo at hR;have hok:=hs n (aew hk);have hkl:k<ns.length:=(aeK.1 hk).1;obtain⟨m,hm⟩:=aj ns.length;rw[hm]at hl hkl⊢;obtain⟨b,o,Al,cl,Ap,cp,rfl,hbB,⟨c0,c1,c2⟩,r1,r2⟩:=h.node hk;obtain⟨mO,RI,ps0⟩:=n;simp only at hR c0 c1 c2 r1 r2;obtain⟨W1,hW1⟩:=aj (w.alloc (.cells #[.int .i64 mO,.slice Al RI.length cl,.slice Ap ps0.length cp] 37));have hb1:Below w.heap.size w W1:=by rw[<-hW1];exact(aoa _ w).alloc (aej _) _
 have k1:ak W1 w.heap.size 37 #[.int .i64 mO,.slice Al RI.length cl,.slice Ap ps0.length cp]:=by rw[<-hW1];exact ak.new _ _ _
 have HD:=ah (cells3 k1);have hBm:=hb1.mono hB;have yX:=ah (fun(q:Nat)=>aj0 B Al cl RI (W1.drewN q) ((r1.below hBm).below (below_drewN (aoa B W1) q)) hok.ll hok.ls)
 have gJ:=ah (fun(q:Nat)=>ab8 B Ap cp ps0 (W1.drewN q) ((r2.below hBm (bg.below hBm)).below (below_drewN (aoa B W1) q) (bg.below (below_drewN (aoa B W1) q))) (aep hB hb1.size) hok.pl hok.ps)
 obtain⟨LV,hLV⟩:=aj (Gr.wJ RI);obtain⟨PV,Ny⟩:=aj (Gr.dJ ps0);rw[hLV]at yX hR;rw[Ny]at gJ hR
 have HQ:Hid (∀(j:Nat) (q:Gr.N),ns[j]?=some q->W1.cell? ⟨b,o+j*3,none⟩=some (.int .i64 q.id)):=fun j q hq=>by
  obtain⟨b',o',_,_,_,_,he,hlt,⟨e0,-⟩,-⟩:=h.node hq
  injection he with he
  injection he with he1 he2
  subst he1;subst he2;exact(hBm.cell (by exact hlt)).trans e0
 refine gq4 hb1 hW1 rG hm fun HB1 HW1 HU HM=>?_;have fQ:(k:Int)<m:=by omega
 obtain⟨x1,hx1⟩:=aj (decide (mO<0));obtain⟨x2,hx2⟩:=aj (decide ((1024:Int)<=mO));clear hW1 hb1 k1 hBm hLV Ny h r1 r2 hk hs hok hm hbB;go_enter func52,ntmps52
 go_upto_region 2 with fail
 rw[HW1.out];clear c0 c1 c2 HW1;obtain⟨d0,d1,d2⟩:=HD.out;have hu:=HU.out;cases x1 with
 |true=>
  have hi:=aeL hx1;rw[aeu (.inl hi)]at hR;subst hR;clear yX gJ HQ;go_wp2;go_ret;exact⟨rfl,HB1.out⟩
 |false=>
  have hi:=aex hx1;have hi':0<=mO:=by omega
  cases x2 with
  |true=>
   have hj:=aeL hx2;rw[aeu (.inr hj)]at hR;subst hR;clear yX gJ HQ;go_wp2;go_ret;exact⟨rfl,HB1.out⟩
  |false=>
   have hj:=aex hx2;have hj':mO<1024:=by omega
   rw[aer (by omega)]at hR
   have HR:=ah hR;clear hi hj hR;by_cases h0:k=0
   ·have hk0:(k:Int)<=0:=by omega
    have tk:decide (0<k)=false:=dF (by omega)
    have hpv:Gr.aQ Gr.N.id ns k=none:=by subst h0;rfl
    have hr2:=HR.out;rw[hpv,aer (by simp)]at hr2
    have HT:=ah (show LV≠0->R=LV from fun h=>by rw[<-hr2,aeu h])
    have HT2:=ah (show LV=0->R=PV from fun h=>by rw[<-hr2,aer (by omega)])
    clear h0 hpv hr2
    go_upto_region 4 with fail
    go_quiet (fail)
    go_wp2_with fail;cases LV with
    |succ e=>
     have hr:=HT.out (by omega)
     have HRR:=ah hr;have hne:(((e+1:Nat):Int) !=0)=true:=by rw[afd];omega
     clear hr gJ;refine iq7 (yX.out nq) ?_;go_wp2;go_ret;exact⟨by rw[HRR.out];rfl,below_drewN HB1.out nq⟩
    |zero=>
     have hr:=HT2.out rfl;have HRR:=ah hr;clear hr;refine iq7 (yX.out nq) ?_;obtain⟨d0,d1,d2⟩:=HD.out;go_wp2_with fail;refine mq7 (gJ.out nq) fun w3 hb3=>?_;have HB3:=ah (rJ (below_drewN HB1.out nq) hb3);clear hb3;go_wp2;go_ret;exact⟨by rw[HRR.out];rfl,HB3.out⟩
   obtain⟨m',hm'⟩: ∃m',k=m'+1:=⟨k - 1,by omega⟩
   have tk:decide (0<k)=true:=aei (by omega)
   have hkp:(0:Int)<k:=by omega
   have hsub:(k:Int) - 1=(m':Int):=by omega
   have hmn:(m':Int)<m:=by omega
   obtain⟨q,hq⟩: ∃q,ns[m']?=some q:=⟨_,aen (by have:=HM.out;omega)⟩
   have e0:=HQ.out m' q hq;have hpv:Gr.aQ Gr.N.id ns k=some q.id:=by rw[hm'];show ns[m']?.map Gr.N.id=_;rw[hq];rfl
   have hr2:=HR.out;rw[hpv]at hr2;obtain⟨y,hy⟩:=aj q.id;rw[hy]at e0 hr2;clear h0 hq hpv hm' hy;by_cases hle:mO<=y
   ·have tl:decide (mO<=y)=true:=aei hle
    have hr:R=6:=by rw[<-hr2,aeu (by simpa using hle)]
    have HRR:=ah hr;clear hr hr2 yX gJ
    go_upto_region 4 with fail
    go_quiet (fail)
    go_wp2;go_ret;exact⟨by rw[HRR.out];rfl,below_drewN HB1.out nq⟩
   have tl:decide (mO<=y)=false:=dF hle;have hle':y<mO:=by omega
   rw[aer (by simpa using hle)]at hr2
   have HT:=ah (show LV≠0->R=LV from fun h=>by rw[<-hr2,aeu h])
   have HT2:=ah (show LV=0->R=PV from fun h=>by rw[<-hr2,aer (by omega)])
   clear hr2 hle
   go_upto_region 4 with fail
   go_quiet (fail)
   go_wp2_with fail;cases LV with
   |succ e=>
    have hr:=HT.out (by omega)
    have HRR:=ah hr;have hne:(((e+1:Nat):Int) !=0)=true:=by rw[afd];omega
    clear hr gJ;refine iq7 (yX.out nq) ?_;go_wp2;go_ret;exact⟨by rw[HRR.out];rfl,below_drewN HB1.out nq⟩
   |zero=>
    have hr:=HT2.out rfl;have HRR:=ah hr;clear hr;refine iq7 (yX.out nq) ?_;obtain⟨d0,d1,d2⟩:=HD.out;go_wp2_with fail;refine mq7 (gJ.out nq) fun w3 hb3=>?_;have HB3:=ah (rJ (below_drewN HB1.out nq) hb3);clear hb3;go_wp2;go_ret;exact⟨by rw[HRR.out];rfl,HB3.out⟩
end Go.Proofs.YtdijgcnlbfgkdaaGreatDoor
