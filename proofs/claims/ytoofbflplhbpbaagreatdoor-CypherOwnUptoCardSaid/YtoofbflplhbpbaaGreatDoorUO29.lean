/- Contracts and plain laws,part 29. -/
import Derived.Test.YtoofbflplhbpbaaGreatDoorUO28
import Derived.Shelf.SlIter.Nil
import Derived.Shelf.SortM.Plain
import Derived.Shelf.SortM.SortNone
import Derived.Ground.GgzProg
import Derived.Ground.SlgmProg
set_option maxHeartbeats 64000000
set_option maxRecDepth 1000000
set_option linter.all false
namespace Go.Proofs.YtoofbflplhbpbaaGreatDoor
open Go.RowKit Go.Sort
structure Kt (T:TypeId) (base:Nat) (w w':World):Prop where
 bel:Below base w w'
 keep: ∀(b:Nat) (c:Array Value) (t:TypeId) (fz:Nat×Nat),w.heap[b]?=some (.cells c t fz)->t≠T->w'.heap[b]?=some (.cells c t fz)
theorem Kt.kp {T:TypeId} {base:Nat} {w w':World} (h:Kt T base w w') (hT:T=59\/T=63):Kp base w w':=
 ⟨h.bel,fun b c t fz hc _ h2 h3=>h.keep b c t fz hc (fun e=>hT.elim (fun h=>h2 (e.trans h)) (fun h=>h3 (e.trans h)))⟩
theorem Kt.of_below {T:TypeId} {base:Nat} {w w':World} (h:Below w.heap.size w w') (hb:base<=w.heap.size):Kt T base w w':=
 ⟨h.mono hb,fun b c t fz hc _=>(h.block b (acI.1 hc).1).trans hc⟩
theorem Kt.trans {T:TypeId} {base:Nat} {a b c:World} (h:Kt T base a b) (k:Kt T base b c):Kt T base a c:=
 ⟨h.bel.trans k.bel,fun i cs t fz hc h1=>k.keep i cs t fz (h.keep i cs t fz hc h1) h1⟩
theorem Kt.row {T:TypeId} {base size n:Nat} {r:Value} {xs:List Value} {w w':World} (hr:w.ownsRow base T size r n xs) (hg:w.grownBy w' r.ownBlock) (hb:base<=w.heap.size):Kt T base w w':=
 ⟨(Below.refl base w).grown hg hb (fun k hk=>(World.ownsRow.lt hr k hk).1),fun b c t fz hc ht=>by
  rw [hg.block b (acI.1 hc).1 ?_]
  ·exact hc
  intro e;obtain ⟨_,c',hc'⟩:=mG hr b e.symm;rw [hc'] at hc;cases hc
  exact ht rfl⟩
theorem Kt.new {T:TypeId} {base g:Nat} {w w1 w':World} (h:Kt T base w w1) (hg:w1.grownBy w' (some g)) (hw:w.heap.size<=g) (hb:base<=w.heap.size):Kt T base w w':=
 ⟨h.bel.grown hg (ab5 hb h.bel.size) (fun k hk=>by cases hk;exact ab5 hb hw),fun b c t fz hc ht=>by
  have hlt:b<w.heap.size:=(acI.1 hc).1
  rw [hg.block b (adf hlt h.bel.size) (fun e=>by cases e;omega)]
  exact h.keep b c t fz hc ht⟩
theorem nP {T:TypeId} {base B e size n:Nat} {v:Value} {xs:List Value} {w w':World} (h:w.ownsRow B e size v n xs) (hk:Kt T base w w') (h1:e≠T):w'.ownsRow B e size v n xs:=by
 obtain ⟨hl,h⟩:=h;refine ⟨hl, ?_⟩
 rcases h with h |⟨g,cap,cur,hv,hb,hc,hr⟩
 ·exact .inl h
 exact .inr ⟨g,cap,cur,hv,hb,hk.keep _ _ _ _ hc h1,hr⟩
theorem Kt.blk {T t:TypeId} {base b:Nat} {cs:Array Value} {w w':World} (hk:Kt T base w w') (h:aj w b t cs) (h1:t≠T):aj w' b t cs:=hk.keep _ _ _ _ h h1
theorem jA.len {w:World} {B:Nat} {x:Gr.N×List Value} (h:jA w B x):x.2.length=3:=by
 obtain ⟨s,t,e,-,-⟩:=h;rw [e];rfl
theorem jB.len {w:World} {B:Nat} {x:Gr.R×List Value} (h:jB w B x):x.2.length=5:=by
 obtain ⟨s,e,-⟩:=h;rw [e];rfl
def iy (W:World) (B:Nat) (u:Value) (g:Gr.G):Prop:=
 ∃(sn sr:Value) (ln:List (Gr.N×List Value)) (lr:List (Gr.R×List Value)),u= .agg #[sn,sr]/\
  ln.map Prod.fst=g.nodes/\(∀x∈ln,jA W B x)/\W.ownsRow B 59 3 sn g.nodes.length (ln.flatMap Prod.snd)/\
  lr.map Prod.fst=g.au/\(∀x∈lr,jB W B x)/\W.ownsRow B 63 5 sr g.au.length (lr.flatMap Prod.snd)
structure I5 (g:Gr.G):Prop where
 ni:(g.nodes.map Gr.N.id).Nodup
 ri:(g.au.map Gr.R.id).Nodup
 np: ∀n∈g.nodes,(n.props.map Gr.P.key).Nodup
 rp: ∀r∈g.au,(r.props.map Gr.P.key).Nodup
structure kU (w:World) (B:Nat) (g:Gr.G) (ob n m cn cr i j:Nat) (An Ar:Option Addr) (V:World):Prop where
 nx: ∃l1 l2:List (Gr.N×List Value),l1.length=i/\l1.map Prod.fst ++ l2.map (fun x=>Gr.rU x.1)=g.nodes.map Gr.rU/\(∀x∈l1,jA V w.heap.size x)/\(∀x∈l2,x.1∈g.nodes/\gZ w B x.1 x.2)/\V.ownsRow w.heap.size 59 3 (.slice An n cn) n ((l1 ++ l2).flatMap Prod.snd)
 rx: ∃l1 l2:List (Gr.R×List Value),l1.length=j/\l1.map Prod.fst ++ l2.map (fun x=>Gr.vK x.1)=g.au.map Gr.vK/\(∀x∈l1,jB V w.heap.size x)/\(∀x∈l2,x.1∈g.au/\ig w B x.1 x.2)/\V.ownsRow w.heap.size 63 5 (.slice Ar m cr) m ((l1 ++ l2).flatMap Prod.snd)
 out:aj V ob 39 #[.slice An n cn, .slice Ar m cr]
 res:aj V (w.heap.size+1) 39 #[.slice none 0 0, .slice none 0 0]
 ne:w.heap.size+1≠ob/\w.heap.size<=ob
 bel:Below w.heap.size w V
structure Rg (w:World) (a b:Value) (X:World):Prop where
 bel:Below w.heap.size w X
 k1:aj X w.heap.size 39 #[a,b]
 k2:aj X (w.heap.size+1) 39 #[.slice none 0 0, .slice none 0 0]
theorem Rg.alloc {w X:World} {a b:Value} (h:Rg w a b X) (o:Obj):Rg w a b (X.alloc o):=⟨h.bel.alloc h.bel.size o,h.k1.alloc o,h.k2.alloc o⟩
theorem Rg.below {w X Y:World} {a b:Value} (h:Rg w a b X) (hb:Below X.heap.size X Y):Rg w a b Y:=⟨h.bel.trans (hb.mono h.bel.size),h.k1.below hb h.k1.lt,h.k2.below hb h.k2.lt⟩
theorem kU.start {w X:World} {B:Nat} {g:Gr.G} {ob n m cn cr:Nat} {An Ar:Option Addr} {a b z0 z1:Value} {ln:List (Gr.N×List Value)} {lr:List (Gr.R×List Value)} (hn1:ln.map Prod.fst=g.nodes) (hn2: ∀x∈ln,gZ w B x.1 x.2/\x.2.length=3) (hr1:lr.map Prod.fst=g.au) (hr2: ∀x∈lr,ig w B x.1 x.2/\x.2.length=5)
  (h:Rg w a b X) (o1:X.ownsRow w.heap.size 59 3 (.slice An n cn) n (ln.flatMap Prod.snd)) (o2:X.ownsRow w.heap.size 63 5 (.slice Ar m cr) m (lr.flatMap Prod.snd)) (hz:aj X ob 39 #[z0,z1]) (ho:w.heap.size+2<=ob):
  kU w B g ob n m cn cr 0 0 An Ar ((X.setCell ⟨ob,0,none⟩ (.slice An n cn)).setCell ⟨ob,1,none⟩ (.slice Ar m cr)):=by
 have hz1:=hz.aS 0 (.slice An n cn)
 refine ⟨⟨[],ln,rfl,by rw [<-hn1];simp,by simp,fun x hx=>⟨by rw [<-hn1];exact aln hx,(hn2 x hx).1⟩, ?_⟩,⟨[],lr,rfl,by rw [<-hr1];simp,by simp,fun x hx=>⟨by rw [<-hr1];exact aln hx,(hr2 x hx).1⟩, ?_⟩, ?_, ?_,⟨by omega,by omega⟩, ?_⟩
 ·exact BF (BF o1 hz (by decide)) hz1 (by decide)
 ·exact BF (BF o2 hz (by decide)) hz1 (by decide)
 ·exact aj.cast (hz1.aS 1 (.slice Ar m cr)) (by simp)
 ·exact (h.k2.far (by simp;omega) _).far (by simp;omega) _
 exact (h.bel.setCell (p:=⟨ob,0,none⟩) (by simp;omega) _).setCell (p:=⟨ob,1,none⟩) (by simp;omega) _
theorem kU.start' {w X:World} {B:Nat} {g:Gr.G} {n m cn cr:Nat} {An Ar:Option Addr} {a b:Value} {ln:List (Gr.N×List Value)} {lr:List (Gr.R×List Value)} (hn1:ln.map Prod.fst=g.nodes) (hn2: ∀x∈ln,gZ w B x.1 x.2/\x.2.length=3) (hr1:lr.map Prod.fst=g.au) (hr2: ∀x∈lr,ig w B x.1 x.2/\x.2.length=5)
  (h:Rg w a b X) (o1:X.ownsRow w.heap.size 59 3 (.slice An n cn) n (ln.flatMap Prod.snd)) (o2:X.ownsRow w.heap.size 63 5 (.slice Ar m cr) m (lr.flatMap Prod.snd)):
  kU w B g X.heap.size n m cn cr 0 0 An Ar (X.alloc (.cells #[.slice An n cn, .slice Ar m cr] 39)):=by
 have hlt:=h.k2.lt
 exact ⟨⟨[],ln,rfl,by rw [<-hn1];simp,by simp,fun x hx=>⟨by rw [<-hn1];exact aln hx,(hn2 x hx).1⟩,World.ownsRow.alloc o1 _⟩,⟨[],lr,rfl,by rw [<-hr1];simp,by simp,fun x hx=>⟨by rw [<-hr1];exact aln hx,(hr2 x hx).1⟩,World.ownsRow.alloc o2 _⟩,aj.new _ _ _,h.k2.alloc _,⟨by omega,h.bel.size⟩,h.bel.alloc h.bel.size _⟩
theorem aiM {W:World} {base n c g:Nat} {ls:List (List UInt8)} (o:W.ownsRow base 9 1 (.slice (some ⟨g,0,none⟩) n c) n (ls.map ST)) (hn:ls.length=n):Holds encStr W g 0 ls.toArray:=fun j hj=>by
 have hj':j<n:=by rw [<-hn];simpa using hj
 obtain ⟨g',he,-,hc,hf,-⟩:=qI o (t:=j) (by omega)
 cases he;rw [akA];refine ⟨?_,hf⟩;rw [hc,acJ,ab2 (by omega)]
 simp only [List.getElem!_toArray,alF ls j (by omega)]
 rfl
theorem aiN {W:World} {base n c:Nat} {A:Option Addr} {ls:List (List UInt8)} (o:W.ownsRow base 9 1 (.slice A n c) n (ls.map ST)) (hn:ls.length=n) (hl:n<=1073741824):
  Calls Tryz.prog 96 #[.slice A n c] W fun e w'=>e= .returned (.tuple #[])/\w'.ownsRow base 9 1 (.slice A n c) n ((Gr.xF ls).map ST)/\W.grownBy w' (Value.slice A n c).ownBlock:=by
 rcases o.2 with ⟨e,h0⟩ |⟨g,cap,cur,e,-⟩
 ·cases e
  have hls:ls= []:=acD hn;subst hls;refine (Tryz.slices_Sort_string_none none 0 W).mono ?_
  rintro e w' ⟨rfl,rfl⟩;exact ⟨rfl,by rw [show Gr.xF []= [] from alz];exact o,fO _ _⟩
 cases e
 have h:=Tryz.slices_Sort_string g 0 c ls W (aiM o hn) (World.ownsRow.lt o g rfl).2 (by omega)
 rw [hn] at h;refine h.mono ?_;rintro e w' ⟨rfl,m,os,rfl⟩
 obtain ⟨h1,h2⟩:=aav (enc:=encStr) (d:=(Gr.xF ls).toArray) (m:=m) (os:=os) o (by rw [amb,<-hn,aoR];exact (aku _ _).length_eq)
 rw [ak3] at h1;exact ⟨rfl,h1,h2⟩
theorem Kt.news {T e:TypeId} {base size n:Nat} {r:Value} {xs:List Value} {w w1 w':World} (h:Kt T base w w1) (hr:w1.ownsRow w.heap.size e size r n xs) (hg:w1.grownBy w' r.ownBlock) (hb:base<=w.heap.size):Kt T base w w':=by
 cases hro:r.ownBlock with
 | none=>rw [hro] at hg;exact ⟨h.bel.grown hg (ab5 hb h.bel.size) (fun k hk=>by cases hk),fun b c t fz hc ht=>by
   have:=h.keep b c t fz hc ht
   rw [hg.block b (acI.1 this).1 (fun e=>by cases e)];exact this⟩
 | some g=>rw [hro] at hg;exact h.new hg (World.ownsRow.lt hr g hro).1 hb
theorem aiO {w:World} {B:Nat} {x:Gr.N×List Value} (h:jA w B x): ∃e:EN,xQ e=x.2/\e.1=x.1.id:=by
 obtain ⟨s,t,e,h1,h2⟩:=h;obtain ⟨As,cs,rfl⟩:=aJ h1;obtain ⟨At,ct,rfl⟩:=h2.form
 exact ⟨(x.1.id,(As,x.1.labels.length,cs),(At,x.1.props.length,ct)),e.symm,rfl⟩
theorem aiP {V:World} {base n c:Nat} {A:Option Addr} {l:List (Gr.N×List Value)} {ns:List Gr.N} (hl:l.map Prod.fst=ns) (ho: ∀x∈l,jA V base x) (hr:V.ownsRow base 59 3 (.slice A n c) n (l.flatMap Prod.snd)) (hd:(ns.map Gr.N.id).Nodup) (hn:ns.length=n) (hs:n<=1073741824):
  Calls Tryz.prog 98 #[.slice A n c, .func (.func 99) #[] #[]] V fun e w'=>e= .returned (.tuple #[])/\V.grownBy w' (Value.slice A n c).ownBlock/\ ∃l':List (Gr.N×List Value),l'.Perm l/\l'.map Prod.fst=Gr.nJ (fun a b:Int=>decide (a<=b)) Gr.N.id ns/\w'.ownsRow base 59 3 (.slice A n c) n (l'.flatMap Prod.snd):=by
 rcases hr.2 with ⟨e,h0⟩ |⟨g,cap,cur,e,-⟩
 ·cases e
  have hns:ns= []:=acD hn;subst hns;have hl0:l= []:=amg.1 hl;subst hl0
  refine (aiu none 0 _ V).mono ?_;rintro e w' ⟨rfl,rfl⟩
  exact ⟨rfl,fO _ _, [], .refl _,by rw [show Gr.nJ _ Gr.N.id []= [] from alz];rfl,hr⟩
 cases e
 obtain ⟨q,q1,q2⟩:=NC (enc:=xQ) (ka:=fun e:EN=>e.1) (kb:=Gr.N.id) (fun x hx=>aiO (ho x hx))
 have hq:q.length=n:=by rw [<-hn,<-hl,<-q1,ace,ace]
 have e1:=ND (enc:=xQ) (fun y hy=>(q2 y hy).1)
 rw [q1] at e1;have hk: ∀x,(xQ x).length=3:=fun x=>rfl
 have hs1:(q.map Prod.snd).toArray.size=n:=by simp [hq]
 refine (ait (cap:=c) (SE hk (fun x v hv=> ?_) (by rw [ak3,e1];exact hr) hs1) hs1 hs).mono ?_
 ·simp only [xQ,adK,aly,anL] at hv
  rcases hv with rfl | rfl | rfl<;> rfl
 rintro e w' ⟨rfl,d',hs',S,hsrt,hp⟩;obtain ⟨o1,o2⟩:=SH hk hr hs' S;rw [ak3] at hp
 obtain ⟨l',p1,p2,p3⟩:=SL SI (ka:=fun e:EN=>e.1) q1 q2 hp hsrt (by rw [hl];exact hd)
 rw [hl] at p3;exact ⟨rfl,o2,l',p1,p3,by rw [<-p2];exact o1⟩
theorem aiQ {w:World} {B:Nat} {x:Gr.R×List Value} (h:jB w B x): ∃e:ER,encR e=x.2/\e.1=x.1.id:=by
 obtain ⟨t,e,h2⟩:=h;obtain ⟨At,ct,rfl⟩:=h2.form
 exact ⟨(x.1.id,x.1.type,x.1.src,x.1.dst,(At,x.1.props.length,ct)),e.symm,rfl⟩
theorem aiR {V:World} {base n c:Nat} {A:Option Addr} {l:List (Gr.R×List Value)} {ns:List Gr.R} (hl:l.map Prod.fst=ns) (ho: ∀x∈l,jB V base x) (hr:V.ownsRow base 63 5 (.slice A n c) n (l.flatMap Prod.snd)) (hd:(ns.map Gr.R.id).Nodup) (hn:ns.length=n) (hs:n<=1073741824):
  Calls Tryz.prog 101 #[.slice A n c, .func (.func 102) #[] #[]] V fun e w'=>e= .returned (.tuple #[])/\V.grownBy w' (Value.slice A n c).ownBlock/\ ∃l':List (Gr.R×List Value),l'.Perm l/\l'.map Prod.fst=Gr.nJ (fun a b:Int=>decide (a<=b)) Gr.R.id ns/\w'.ownsRow base 63 5 (.slice A n c) n (l'.flatMap Prod.snd):=by
 rcases hr.2 with ⟨e,h0⟩ |⟨g,cap,cur,e,-⟩
 ·cases e
  have hns:ns= []:=acD hn;subst hns;have hl0:l= []:=amg.1 hl;subst hl0
  refine (aix none 0 _ V).mono ?_;rintro e w' ⟨rfl,rfl⟩
  exact ⟨rfl,fO _ _, [], .refl _,by rw [show Gr.nJ _ Gr.R.id []= [] from alz];rfl,hr⟩
 cases e
 obtain ⟨q,q1,q2⟩:=NC (enc:=encR) (ka:=fun e:ER=>e.1) (kb:=Gr.R.id) (fun x hx=>aiQ (ho x hx))
 have hq:q.length=n:=by rw [<-hn,<-hl,<-q1,ace,ace]
 have e1:=ND (enc:=encR) (fun y hy=>(q2 y hy).1)
 rw [q1] at e1;have hk: ∀x,(encR x).length=5:=fun x=>rfl
 have hs1:(q.map Prod.snd).toArray.size=n:=by simp [hq]
 refine (aiw (cap:=c) (SE hk (fun x v hv=> ?_) (by rw [ak3,e1];exact hr) hs1) hs1 hs).mono ?_
 ·simp only [encR,adK,aly,anL] at hv
  rcases hv with rfl | rfl | rfl | rfl | rfl<;> rfl
 rintro e w' ⟨rfl,d',hs',S,hsrt,hp⟩;obtain ⟨o1,o2⟩:=SH hk hr hs' S;rw [ak3] at hp
 obtain ⟨l',p1,p2,p3⟩:=SL SI (ka:=fun e:ER=>e.1) q1 q2 hp hsrt (by rw [hl];exact hd)
 rw [hl] at p3;exact ⟨rfl,o2,l',p1,p3,by rw [<-p2];exact o1⟩
theorem kU.drew {w:World} {B:Nat} {g:Gr.G} {ob n m cn cr i j:Nat} {An Ar:Option Addr} {V:World} (h:kU w B g ob n m cn cr i j An Ar V):kU w B g ob n m cn cr i j An Ar V.drew:=⟨h.nx,h.rx,h.out,h.res,h.ne,h.bel.drew⟩
theorem kU.rel {w:World} {B:Nat} {g:Gr.G} {ob n m cn cr i j:Nat} {An Ar:Option Addr} {V:World} (h:kU w B g ob n m cn cr i j An Ar V) (hm:g.au.length=m) (hj:j<m): ∃(p:Gr.R) (gr:Nat) (Ap:Option Addr) (cp:Nat),p∈g.au/\Ar=some ⟨gr,0,none⟩/\cZ w B 6 (aQ w B) Ap p.props/\
  V.cell? ⟨gr,j*5+4,none⟩=some (.slice Ap p.props.length cp)/\V.frozen? ⟨gr,j*5+4,none⟩=false/\ ∀w7 v7,aV 61 w7 V.heap.size v7 (Gr.uo p.props)->Below V.heap.size V w7->w7.cell? ⟨gr,j*5+4,none⟩=some (.slice Ap p.props.length cp)/\w7.frozen? ⟨gr,j*5+4,none⟩=false/\
   w7.cell? ⟨ob,0,none⟩=some (.slice An n cn)/\w7.cell? ⟨ob,1,none⟩=some (.slice Ar m cr)/\kU w B g ob n m cn cr i (j+1) An Ar (w7.setCell ⟨gr,j*5+4,none⟩ v7):=by
 obtain ⟨l1,l2,h1,h2,h3,h4,h5⟩:=h.rx
 obtain ⟨⟨p,cs⟩,l3,rfl⟩: ∃x l3,l2=x :: l3:=by
  cases l2 with
  | nil=>
   have:=ab8 List.length h2;rw [aek,acK,ace,ace,h1,hm] at this;omega
  | cons x r=>exact ⟨x,r,rfl⟩
 obtain ⟨hpm,Ap,cp,rfl,bP⟩:=(show p∈g.au/\ig w B p cs from h4 (p,cs) (am5 ..))
 have hpl: ∀y∈l1,y.2.length=5:=fun y hy=>(h3 y hy).len
 have hw1:=h.bel.size;obtain ⟨gr,rfl,hg,c4,f4,-⟩:=vO (j:=4) h5 hpl h1 rfl hj (by decide)
 refine ⟨p,gr,Ap,cp,hpm,rfl,bP,c4,f4,fun w7 v7 o7 b7=> ?_⟩
 have r7:=own_below h5 b7
 obtain ⟨g',e',-,c8,f8,st⟩:=vO (j:=4) r7 hpl h1 rfl hj (by decide)
 cases e';obtain ⟨e0,e1⟩:=cells2 (h.out.below b7 h.out.lt);have row:=st v7
 simp only [acO,acN] at row
 have k7:Kt 63 w.heap.size w7 (w7.setCell ⟨gr,j*5+4,none⟩ v7):=Kt.row (r:= .slice (some ⟨gr,0,none⟩) m cr) r7 (grownBy_set w7 ⟨gr,j*5+4,none⟩ _) (ab5 hw1 b7.size)
 have k8:=(Kt.of_below b7 hw1).trans k7;obtain ⟨q1,q2,q3,q4,q5,q6⟩:=h.nx
 refine ⟨c8,f8,e0,e1,⟨q1,q2,q3,q4,fun x hx=>(q5 x hx).kp (k8.kp (.inr rfl)),q6.1,nP q6.2 k8 (by decide)⟩,⟨l1 ++ [(Gr.vK p, [.int .i64 p.id,ST p.type, .int .i64 p.src, .int .i64 p.dst,v7])],l3,by simp [h1],by rw [<-h2];simp,fun x hx=> ?_,fun x hx=>h4 x (ada _ hx),by simpa using row⟩,k8.blk h.out (by decide),k8.blk h.res (by decide),h.ne,h.bel.trans k8.bel⟩
 rcases acU.1 hx with hx | hx
 ·exact (h3 x hx).kp (k8.kp (.inr rfl))
 rw [adg.1 hx]
 exact ⟨_,rfl,(o7.base hw1).kp (k7.kp (.inr rfl)) (by decide) (by decide) (by decide)⟩
theorem dJ.kt {T:TypeId} {base B:Nat} {x:Gr.P×List Value} {w w':World} (h:dJ w B x) (hk:Kt T base w w') (h1:2≠T) (h2:9≠T):dJ w' B x:=by
 obtain ⟨s,t,e,o1,o2⟩:=h;exact ⟨s,t,e,nP o1 hk h1,nP o2 hk h2⟩
theorem aV.kt {S T:TypeId} {base B:Nat} {v:Value} {ps:List Gr.P} {w w':World} (h:aV S w B v ps) (hk:Kt T base w w') (h1:2≠T) (h2:9≠T) (h3:S≠T):aV S w' B v ps:=by
 obtain ⟨l,e,hx,ho⟩:=h;exact ⟨l,e,fun x hm=>(hx x hm).kt hk h1 h2,nP ho hk h3⟩
theorem jA.kt {T:TypeId} {base B:Nat} {x:Gr.N×List Value} {w w':World} (h:jA w B x) (hk:Kt T base w w') (h1:2≠T) (h2:9≠T) (h3:61≠T):jA w' B x:=by
 obtain ⟨s,t,e,o1,o2⟩:=h;exact ⟨s,t,e,nP o1 hk h2,o2.kt hk h1 h2 h3⟩
theorem jB.kt {T:TypeId} {base B:Nat} {x:Gr.R×List Value} {w w':World} (h:jB w B x) (hk:Kt T base w w') (h1:2≠T) (h2:9≠T) (h3:61≠T):jB w' B x:=by
 obtain ⟨t,e,o2⟩:=h;exact ⟨t,e,o2.kt hk h1 h2 h3⟩
theorem Kt.cell {T:TypeId} {base b:Nat} {cs:Array Value} {w:World} (h:aj w b T cs) (hb:base<=b) (i:Nat) (u:Value):Kt T base w (w.setCell ⟨b,i,none⟩ u):=
 ⟨(Below.refl base w).setCell (p:=⟨b,i,none⟩) hb u,fun k c t fz hc ht=>by
  rw [(grownBy_set w ⟨b,i,none⟩ u).block k (acI.1 hc).1 (fun e=> ?_)]
  ·exact hc
  cases e;rw [show w.heap[b]?=_ from h] at hc
  cases hc
  exact ht rfl⟩
theorem iy.kt {T:TypeId} {base B:Nat} {u:Value} {g:Gr.G} {w w':World} (h:iy w B u g) (hk:Kt T base w w') (h1:2≠T) (h2:9≠T) (h3:61≠T) (h4:59≠T) (h5:63≠T):iy w' B u g:=by
 obtain ⟨sn,sr,ln,lr,e,q1,q2,q3,q4,q5,q6⟩:=h
 exact ⟨sn,sr,ln,lr,e,q1,fun x hx=>(q2 x hx).kt hk h1 h2 h3,nP q3 hk h4,q4,fun x hx=>(q5 x hx).kt hk h1 h2 h3,nP q6 hk h5⟩
theorem kU.done {w:World} {B:Nat} {g:Gr.G} {ob n m cn cr:Nat} {An Ar:Option Addr} {V:World} (h:kU w B g ob n m cn cr n m An Ar V) (hn:g.nodes.length=n) (hm:g.au.length=m):
  ∃(ln:List (Gr.N×List Value)) (lr:List (Gr.R×List Value)),ln.map Prod.fst=g.nodes.map Gr.rU/\(∀x∈ln,jA V w.heap.size x)/\V.ownsRow w.heap.size 59 3 (.slice An n cn) n (ln.flatMap Prod.snd)/\
   lr.map Prod.fst=g.au.map Gr.vK/\(∀x∈lr,jB V w.heap.size x)/\V.ownsRow w.heap.size 63 5 (.slice Ar m cr) m (lr.flatMap Prod.snd):=by
 obtain ⟨l1,l2,h1,h2,h3,-,h5⟩:=h.nx;obtain ⟨k1,k2,e1,e2,e3,-,e5⟩:=h.rx
 have z1:l2= []:=by
  have:=ab8 List.length h2;rw [dA,ace,ace,ace,h1,hn] at this;exact acD (by omega)
 have z2:k2= []:=by
  have:=ab8 List.length e2;rw [dA,ace,ace,ace,e1,hm] at this;exact acD (by omega)
 subst z1 z2;rw [aek,acK] at h2 e2;rw [acK] at h5 e5;exact ⟨l1,k1,h2,h3,h5,e2,e3,e5⟩
theorem aaJ {fn:Func} {R:Ending->World->Prop} {tmps:Array Value} {W:World} {p:Tmp} {b:Nat} {v0 v1:Value} (hfn:fn.results= #[.cell p 39])
  (ht:tmps.getD p undef= .pointer (some ⟨b,0,none⟩)) (hB:aj W b 39 #[v0,v1]) (hR:R (.returned (.agg #[v0,v1])) W):
  bodyPost Tryz.prog fn R .ret {tmps:=tmps,defers:= []} W:=by
 obtain ⟨c0,c1⟩:=cells2 hB;refine bodyPost_ret (v:= .agg #[v0,v1]) ?_ rfl hR;simp at ht
 simp [results,hfn,go_sem,ht,c0,c1]
theorem aiS (B:Nat) (u:Value) (g:Gr.G) (w:World) (h:fE w B u g) (hB:B<=w.heap.size) (hd:I5 g):
  Calls Tryz.prog 51 #[u] w fun e w'=> ∃u',e= .returned u'/\iy w' w.heap.size u' (Gr.canon g)/\Below w.heap.size w w':=by
 have hok:=h.ok;obtain ⟨A1,c1,A2,c2,rfl,hN,hR⟩:=h.ex;obtain ⟨ln,hn1,hn2,hn3⟩:=hN.pairs
 obtain ⟨lr,hr1,hr2,hr3⟩:=hR.pairs;obtain ⟨n,hn⟩: ∃n,g.nodes.length=n:=⟨_,rfl⟩
 obtain ⟨m,hm⟩: ∃m,g.au.length=m:=⟨_,rfl⟩;have hnl:n<=1073741824:=hn▸hok.nl
 have hml:m<=1073741824:=hm▸hok.rl
 have hone: ∀v∈ln.flatMap Prod.snd,v.oneCell'=true:=fun v hv=>by
  obtain ⟨x,hx,hv⟩:=ad1.1 hv;obtain ⟨⟨_,_,_,_,e,-,-⟩,-⟩:=hn2 x hx;rw [e] at hv
  simp only [adK,aly,anL] at hv
  rcases hv with rfl | rfl | rfl<;> rfl
 have adB: ∀v∈lr.flatMap Prod.snd,v.oneCell'=true:=fun v hv=>by
  obtain ⟨x,hx,hv⟩:=ad1.1 hv;obtain ⟨⟨_,_,e,-⟩,-⟩:=hr2 x hx;rw [e] at hv
  simp only [adK,aly,anL] at hv
  rcases hv with rfl | rfl | rfl | rfl | rfl<;> rfl
 rw [hn] at hn3;rw [hm] at hr3
 have CJ:=ah (fun (V:World) (hb:Below w.heap.size w V)=>aiI B A1 c1 n _ V (hn3.below (hb.mono hB)) hone hnl (ab5 hB hb.size))
 have CO:=ah (fun (V:World) (hb:Below w.heap.size w V)=>aiK B A2 c2 m _ V (hr3.below (hb.mono hB)) adB hml (ab5 hB hb.size))
 rw [hn,hm];have aK:=ah hok;have HD:=ah hd;have HN:=ah hn;have HM:=ah hm
 have hNL: ∀i,g.nodes.length=i->i<=1073741824:=fun i e=>e▸aK.out.nl
 have Af:=ah (And.intro hn1 hn2);have aW:=ah (And.intro hr1 hr2)
 clear h hok hd hN hR hone adB hn hm hn3 hr3 hn1 hn2 hr1 hr2
 go_enter Tryz.func51,Tryz.ntmps51
 go_upto_region 1 with fail
 go_cut [3] (fun s3 wx=> ∃(ob cn cr:Nat) (An Ar:Option Addr),s3= .pointer (some ⟨ob,0,none⟩)/\kU w B g ob n m cn cr 0 0 An Ar wx)
 case first=>
  rename_i J K0 hJ hK
  have hb1:Below w.heap.size w ((w.alloc (.cells #[.slice A1 n c1, .slice A2 m c2] 39)).alloc (.cells #[.slice none 0 0, .slice none 0 0] 39)):=((Below.refl _ w).alloc (ab1 _) _).alloc (by simp) _
  have hk1:aj ((w.alloc (.cells #[.slice A1 n c1, .slice A2 m c2] 39)).alloc (.cells #[.slice none 0 0, .slice none 0 0] 39)) w.heap.size 39 #[.slice A1 n c1, .slice A2 m c2]:=(aj.new _ _ _).alloc _
  have hk2:aj ((w.alloc (.cells #[.slice A1 n c1, .slice A2 m c2] 39)).alloc (.cells #[.slice none 0 0, .slice none 0 0] 39)) (w.heap.size+1) 39 #[.slice none 0 0, .slice none 0 0]:=by
   have:=aj.new (w.alloc (.cells #[.slice A1 n c1, .slice A2 m c2] 39)) 39 #[.slice none 0 0, .slice none 0 0]
   simpa using this
  obtain ⟨W1,hW1⟩: ∃x,(w.alloc (.cells #[.slice A1 n c1, .slice A2 m c2] 39)).alloc (.cells #[.slice none 0 0, .slice none 0 0] 39)=x:=⟨_,rfl⟩
  rw [hW1] at hb1 hk1 hk2⊢;obtain ⟨d0,d1⟩:=cells2 hk1
  have HR1:=ah (show Rg w (.slice A1 n c1) (.slice A2 m c2) W1.drew from ⟨hb1.drew,hk1,hk2⟩)
  have jV:=ah (show Rg w (.slice A1 n c1) (.slice A2 m c2) (W1.alloc (.cells #[.slice none 0 0, .slice none 0 0] 39)).drew from ⟨(hb1.alloc hb1.size _).drew,hk1.alloc _,hk2.alloc _⟩)
  have HZ1:=ah (show aj (W1.alloc (.cells #[.slice none 0 0, .slice none 0 0] 39)).drew W1.heap.size 39 #[.slice none 0 0, .slice none 0 0] from aj.new W1 _ _)
  obtain ⟨h0,h1⟩:=cells2 (show aj (W1.alloc (.cells #[.slice none 0 0, .slice none 0 0] 39)) _ _ _ from jV.out.k1)
  have OG:=ah (show w.heap.size+2<=W1.heap.size from hk2.lt)
  clear hW1 hb1 hk1 hk2
  go_region_law (first |(refine FP 93 rfl (by go_simp) (CJ.out _ (by first | exact HR1.out.bel | exact jV.out.bel | exact eU.out.bel | exact (eU.out.alloc _).bel | fail)) ?_;rintro v7 w7 ⟨o7,b7⟩;obtain ⟨A7,c7,rfl⟩:=aJ o7;(first |(have gu:=ah (HR1.out.below b7);have wP:=ah (jX o7 HR1.out.bel.size)) |(have gu:=ah (jV.out.below b7);have CP:=ah (HZ1.out.below b7 HZ1.out.lt);have wP:=ah (jX o7 jV.out.bel.size)) |(have gu:=ah (eU.out.below b7);have CP:=ah (CQ.out.below b7 CQ.out.lt);have wP:=ah (jX o7 eU.out.bel.size);have HX:=ah (own_below Ag.out b7)) |(have gu:=ah (eU.out.below b7);have wP:=ah (jX o7 eU.out.bel.size);have HX:=ah (own_below Ag.out b7)) |(have gu:=ah ((eU.out.alloc (.cells #[.slice none 0 0, .slice none 0 0] 39)).below b7);have CP:=ah (aj.below (aj.new w8 39 #[.slice none 0 0, .slice none 0 0]) b7 (by simp));have wP:=ah (jX o7 (eU.out.alloc (.cells #[.slice none 0 0, .slice none 0 0] 39)).bel.size);have HX:=ah (own_below (World.ownsRow.alloc Ag.out _) b7)) | fail);obtain ⟨d0,d1⟩:=cells2 gu.out.k1;obtain ⟨h0,h1⟩:=cells2 (gu.out.alloc (.cells #[.slice none 0 0, .slice none 0 0] 39)).k1;try (obtain ⟨e0,e1⟩:=cells2 CP.out;have f0:=CP.out.frozen 0;have f1:=CP.out.frozen 1);clear o7 b7) |(refine FP 94 rfl (by go_simp) (CO.out _ (by first | exact HR1.out.bel | exact jV.out.bel | exact gu.out.bel | exact (gu.out.alloc _).bel | fail)) ?_;rintro v8 w8 ⟨o8,b8⟩;obtain ⟨A8,c8,rfl⟩:=aJ o8;(first |(have eU:=ah (HR1.out.below b8);have Ag:=ah (jX o8 HR1.out.bel.size)) |(have eU:=ah (jV.out.below b8);have CQ:=ah (HZ1.out.below b8 HZ1.out.lt);have Ag:=ah (jX o8 jV.out.bel.size)) |(have eU:=ah (gu.out.below b8);have CQ:=ah (CP.out.below b8 CP.out.lt);have Ag:=ah (jX o8 gu.out.bel.size);have HX:=ah (own_below wP.out b8)) |(have eU:=ah (gu.out.below b8);have Ag:=ah (jX o8 gu.out.bel.size);have HX:=ah (own_below wP.out b8)) |(have eU:=ah ((gu.out.alloc (.cells #[.slice none 0 0, .slice none 0 0] 39)).below b8);have CQ:=ah (aj.below (aj.new w7 39 #[.slice none 0 0, .slice none 0 0]) b8 (by simp));have Ag:=ah (jX o8 (gu.out.alloc (.cells #[.slice none 0 0, .slice none 0 0] 39)).bel.size);have HX:=ah (own_below (World.ownsRow.alloc wP.out _) b8)) | fail);obtain ⟨d0,d1⟩:=cells2 eU.out.k1;obtain ⟨h0,h1⟩:=cells2 (eU.out.alloc (.cells #[.slice none 0 0, .slice none 0 0] 39)).k1;try (obtain ⟨e0,e1⟩:=cells2 CQ.out;have f0:=CQ.out.frozen 0;have f1:=CQ.out.frozen 1);clear o8 b8) | fail)
  all_goals
   refine hK _ _ (Met.intro (hJ _ _ ?_))
   repeat apply Exists.intro
   first
    | exact ⟨⟨_,c7,c8,A7,A8,rfl,kU.start' Af.out.1 Af.out.2 aW.out.1 aW.out.2 eU.out HX.out Ag.out⟩,rfl⟩
    | exact ⟨⟨_,c7,c8,A7,A8,rfl,kU.start' Af.out.1 Af.out.2 aW.out.1 aW.out.2 gu.out wP.out HX.out⟩,rfl⟩
    | exact ⟨⟨_,c7,c8,A7,A8,rfl,kU.start Af.out.1 Af.out.2 aW.out.1 aW.out.2 eU.out HX.out Ag.out CQ.out (by first | exact OG.out | exact gu.out.k2.lt)⟩,rfl⟩
    | exact ⟨⟨_,c7,c8,A7,A8,rfl,kU.start Af.out.1 Af.out.2 aW.out.1 aW.out.2 gu.out wP.out HX.out CP.out (by first | exact OG.out | exact eU.out.k2.lt)⟩,rfl⟩
 obtain ⟨ob,cn,cr,An,Ar,rfl,hs⟩:=hcut;have HS:=ah hs;obtain ⟨a0,a1⟩:=cells2 hs.out
 clear hs Af aW CJ CO;go_wp2_with fail
 go_loopg [17] n (fun kx s17 wr=> ∃i:Nat,s17= .int .i64 i/\i+kx=n/\kU w B g ob n m cn cr i 0 An Ar wr)
 case atStart=>exact ⟨0,rfl,by omega,HS.out⟩
 obtain ⟨i,rfl,hk,hs⟩:=hrel;have HR:=ah hs;obtain ⟨a0,a1⟩:=cells2 hs.out;clear HS hs
 cases gk with
 | zero=>
  obtain rfl:i=n:=by omega
  clear hk hnl;go_wp2_with fail
  go_loopg [49] m (fun kx s49 wx=> ∃j:Nat,s49= .int .i64 j/\j+kx=m/\kU w B g ob i m cn cr i j An Ar wx)
  case atStart=>exact ⟨0,rfl,by omega,HR.out⟩
  obtain ⟨j,rfl,hk,hs⟩:=hrel;have HQ:=ah hs;obtain ⟨a0,a1⟩:=cells2 hs.out;clear HR hs
  cases gk with
  | zero=>
   obtain rfl:j=m:=by omega
   obtain ⟨ln,lr,n1,n2,n3,r1,r2,r3⟩:=HQ.out.done HN.out HM.out;have hw1:=HQ.out.bel.size
   have bU:=ah (aiP n1 n2 n3 (by rw [aez];exact HD.out.ni) (by rw [ace];exact HN.out) (hNL i HN.out))
   have kD:=ah (And.intro n3 (And.intro n2 (And.intro r1 (And.intro r2 r3))))
   clear n1 n2 n3 r1 r2 r3;go_wp2_with fail;refine bU.out.mono ?_
   rintro e w2 ⟨rfl,g2,l',p1,p2,p3⟩;obtain ⟨n3,n2,r1,r2,r3⟩:=kD.out
   have k2:Kt 59 w.heap.size wr w2:=Kt.row (r:= .slice An i cn) n3 g2 hw1
   obtain ⟨a0,a1⟩:=cells2 (k2.blk HQ.out.out (by decide))
   have r4:=nP r3 k2 (by decide)
   have iH:=ah (aiR r1 (fun x hx=>(r2 x hx).kp (k2.kp (.inl rfl))) r4 (by rw [aez];exact HD.out.ri) (by rw [ace];exact HM.out) hml)
   have HN2:=ah (And.intro p2 (And.intro (fun x hx=>(n2 x (p1.mem_iff.1 hx)).kp (k2.kp (.inl rfl))) p3))
   have HR4:=ah (And.intro r4 (And.intro k2 (fun x hx=>(r2 x hx).kp (k2.kp (.inl rfl)))))
   clear n3 n2 r1 r2 r3 p1 p2 p3 g2 k2 r4 kD bU;go_wp2_with fail;refine iH.out.mono ?_
   rintro e w3 ⟨rfl,g3,l3,p1,p2,p3⟩;obtain ⟨r4,k2,r2⟩:=HR4.out
   have k3:Kt 63 w.heap.size w2 w3:=Kt.row (r:= .slice Ar j cr) r4 g3 (ab5 hw1 k2.bel.size)
   obtain ⟨m1,m2,m3⟩:=HN2.out
   have hres:=k3.blk (k2.blk HQ.out.res (by decide)) (by decide)
   obtain ⟨a0,a1⟩:=cells2 (k3.blk (k2.blk HQ.out.out (by decide)) (by decide))
   obtain ⟨b0,b1⟩:=cells2 hres;have f0:=hres.frozen 0;have f1:=hres.frozen 1
   have hgo:iy w3 w.heap.size (.agg #[.slice An i cn, .slice Ar j cr]) (Gr.canon g):=by
    have e1:(Gr.canon g).nodes.length=i:=(aku _ _).length_eq.trans (by rw [ace];exact HN.out)
    have e2:(Gr.canon g).au.length=j:=(aku _ _).length_eq.trans (by rw [ace];exact HM.out)
    exact ⟨_,_,l',l3,rfl,m1,fun x hx=>(m2 x hx).kt k3 (by decide) (by decide) (by decide),by rw [e1];exact nP m3 k3 (by decide),p2,fun x hx=>(r2 x (p1.mem_iff.1 hx)).kt k3 (by decide) (by decide) (by decide),by rw [e2];exact p3⟩
   have k4:=Kt.cell (base:=w.heap.size) hres (by omega) 0 (.slice An i cn)
   have hr4:=hres.aS 0 (.slice An i cn)
   have k5:=Kt.cell (base:=w.heap.size) hr4 (by omega) 1 (.slice Ar j cr)
   have k6:=k4.trans k5
   have HF:=ah (And.intro (hgo.kt k6 (by decide) (by decide) (by decide) (by decide) (by decide)) (And.intro (aj.cast (hr4.aS 1 (.slice Ar j cr)) (by simp):aj _ _ _ #[.slice An i cn, .slice Ar j cr]) ((HQ.out.bel.trans (k2.bel.trans k3.bel)).trans k6.bel)))
   clear r4 k2 r2 k3 m1 m2 m3 hres hgo k4 hr4 k5 k6 p1 p2 p3 g3 HR4 HN2 iH
   go_wp2_with fail;refine aaJ rfl (by simp) HF.out.2.1 ⟨_,rfl,HF.out.1,HF.out.2.2⟩
  | succ kq=>
   have hin:j<m:=by omega
   have G6:(j:Int)<(m:Int):=by omega
   obtain ⟨p,gr,Ap,cp,hpm,rfl,bP,c4,f4,hst⟩:=HQ.out.drew.rel HM.out hin
   have gV:=aK.out.rs p hpm;have hbd:Below w.heap.size w wr.drew:=HQ.out.bel.drew
   have bQ:=ah (aaI B Ap cp p.props wr.drew (bP.below (hbd.mono hB) (aQ.below (hbd.mono hB))) (ab5 hB hbd.size) gV.pl gV.ps (HD.out.rp p hpm))
   have HST:=ah hst;have c4:wr.cell? _=_:=c4;have pj:(0:Int)<=(j:Int):=by omega
   have tj:((j:Int)).toNat=j:=by omega
   clear gV hpm bP hst hbd;go_wp2_with fail
   go_region_law (first |(refine FP 97 rfl (by go_simp) bQ.out ?_;rintro v7 w7 ⟨o7,b7⟩;obtain ⟨d4,g4,d0,d1,hs7⟩:=HST.out w7 v7 o7 b7;obtain ⟨A7,c7,rfl⟩:=o7.form;have gU:=ah hs7;clear o7 b7 hs7) | fail)
   all_goals
    go_wp2_with fail
    go_roundg kq
    case measure=>omega
    exact ⟨j+1,by simp,by omega,gU.out⟩
 | succ kq=>
  have hin:i<n:=by omega
  have G6:(i:Int)<(n:Int):=by omega
  obtain ⟨l1,l2,h1,h2,h3,h4,h5⟩:=HR.out.nx;have hbel:=HR.out.bel
  obtain ⟨⟨p,cs⟩,l3,rfl⟩: ∃x l3,l2=x :: l3:=by
   cases l2 with
   | nil=>
    have:=ab8 List.length h2;rw [aek,acK,ace,ace,h1,HN.out] at this;omega
   | cons x r=>exact ⟨x,r,rfl⟩
  obtain ⟨hpm,Al,cl,Ap,cp,rfl,cO,bP⟩:=(show p∈g.nodes/\gZ w B p cs from h4 (p,cs) (am5 ..))
  have gV:=aK.out.ns p hpm;have hpl: ∀y∈l1,y.2.length=3:=fun y hy=>(h3 y hy).len
  obtain ⟨ll,hll⟩: ∃x,p.labels.length=x:=⟨_,rfl⟩
  obtain ⟨pl,hpl2⟩: ∃x,p.props.length=x:=⟨_,rfl⟩;have adD:ll<=1073741824:=hll▸gV.ll
  have hw1:w.heap.size<=wr.heap.size:=hbel.size
  have hcp:=fun (V:World) (hb:Below w.heap.size w V)=>aaI B Ap cp p.props V (bP.below (hb.mono hB) (aQ.below (hb.mono hB))) (ab5 hB hb.size) gV.pl gV.ps (HD.out.np p hpm)
  rw [hll] at cO h5;rw [hpl2] at h5 hcp
  obtain ⟨gn,rfl,hg,c4,f4,-⟩:=vO (j:=1) h5 hpl h1 rfl hin (by decide)
  simp only [acB,ab9] at c4
  have kV:=ah (aaD B Al cl ll _ wr (cO.below (hbel.mono hB)) (fun u hu=>by obtain ⟨y,-,rfl⟩:=ad5.1 hu;rfl) adD (ab5 hB hw1))
  have HH:=ah (And.intro h1 (And.intro h2 (And.intro h3 (And.intro h4 (And.intro hpl (And.intro hll hpl2))))))
  have H5:=ah h5;have bQ:=ah hcp;have HB:=ah hbel
  clear h1 h2 h3 h4 h5 hpl hll hpl2 cO bP hg hbel gV hcp hpm;go_wp2_with fail
  refine kV.out.mono ?_;rintro e w2 ⟨v2,rfl,o2,b2⟩;obtain ⟨A2,c2,rfl⟩:=aJ o2
  have hh:=HH.out;have r2:=own_below H5.out b2
  obtain ⟨g',e',-,VG,f4',KE⟩:=vO (j:=1) r2 hh.2.2.2.2.1 hh.1 rfl hin (by decide)
  cases e';simp only [acB,ab9] at VG;have row3:=KE (.slice A2 ll c2)
  simp only [acO,acN] at row3
  obtain ⟨W3,hW3⟩: ∃x,w2.setCell ⟨gn,i*3+1,none⟩ (.slice A2 ll c2)=x:=⟨_,rfl⟩
  have hgs:w2.grownBy W3 (some gn):=hW3▸grownBy_set w2 ⟨gn,i*3+1,none⟩ _;rw [hW3] at row3
  have k3:Kt 59 w.heap.size wr W3:=(Kt.of_below b2 hw1).trans (Kt.row (r:= .slice (some ⟨gn,0,none⟩) n cn) r2 hgs (ab5 hw1 b2.size))
  have o3:=dS o2 hgs (fun g c t fz e hc=>by
   cases e;obtain ⟨_,c',hc'⟩:=mG r2 gn rfl;rw [hc'] at hc;cases hc
   decide)
  obtain ⟨g',e',-,c5,f5,-⟩:=vO (j:=1) row3 hh.2.2.2.2.1 hh.1 rfl hin (by decide)
  cases e';simp only [acB,ab9] at c5;have bK:=ah (aiN o3 hh.2.2.2.2.2.1 adD)
  have HX:=ah (And.intro row3 (And.intro o3 k3));have sZ:=ah hh
  clear o2 b2 r2 KE hgs row3 o3 k3 hh HH H5 kV;go_wp2_with fail;refine bK.out.mono ?_
  rintro e w4 ⟨rfl,o4,g4⟩;clear hW3;obtain ⟨row3,o3,k3⟩:=HX.out;have hh:=sZ.out
  have k4:=k3.news o3 g4 hw1;have row4:=Bg row3 g4 (jX o3 hw1) (by decide)
  obtain ⟨g',e',-,c6,f6,-⟩:=vO (j:=2) row4 hh.2.2.2.2.1 hh.1 rfl hin (by decide)
  cases e';simp only [acB,ab9] at c6;have HC2:=ah (bQ.out w4 (HB.out.trans k4.bel))
  have HX4:=ah (And.intro row4 (And.intro o4 k4))
  clear row3 o3 k3 k4 row4 o4 g4 hh HX bK bQ;go_wp2_with fail;refine HC2.out.mono ?_
  rintro e w5 ⟨v5,rfl,o5,b5⟩
  have adF:(Gr.uo p.props).length=pl:=(aku _ _).length_eq.trans sZ.out.2.2.2.2.2.2
  obtain ⟨A5,c7,e5⟩:=o5.form;rw [adF] at e5;subst e5;obtain ⟨row4,o4,k4⟩:=HX4.out
  have hh:=sZ.out;have r5:=own_below row4 b5
  obtain ⟨g',e',-,c8,f8,st6⟩:=vO (j:=2) r5 hh.2.2.2.2.1 hh.1 rfl hin (by decide)
  cases e';simp only [acB,ab9] at c8;have OX:=st6 (.slice A5 pl c7)
  simp only [acO,acN] at OX
  obtain ⟨W6,D5⟩: ∃x,w5.setCell ⟨gn,i*3+2,none⟩ (.slice A5 pl c7)=x:=⟨_,rfl⟩
  have hgs:w5.grownBy W6 (some gn):=D5▸grownBy_set w5 ⟨gn,i*3+2,none⟩ _;rw [D5] at OX
  have hs4:w.heap.size<=w4.heap.size:=ab5 hw1 k4.bel.size
  have k5:Kt 59 w.heap.size w4 W6:=(Kt.of_below b5 hs4).trans (Kt.row (r:= .slice (some ⟨gn,0,none⟩) n cn) r5 hgs (ab5 hs4 b5.size))
  have k6:=k4.trans k5
  have hlab:(Gr.xF p.labels).length=ll:=(aku _ _).length_eq.trans hh.2.2.2.2.2.1
  have hs:=ah (show kU w B g ob n m cn cr (i+1) 0 (some ⟨gn,0,none⟩) Ar W6 from by
   obtain ⟨q1,q2,q3,q4,q5,q6⟩:=HR.out.rx
   refine ⟨⟨l1 ++ [(Gr.rU p, [.int .i64 p.id, .slice A2 ll c2, .slice A5 pl c7])],l3,by simp [hh.1],by rw [<-hh.2.1];simp,fun x hx=> ?_,fun x hx=>hh.2.2.2.1 x (ada _ hx),by simpa using OX⟩,⟨q1,q2,q3,q4,fun x hx=>(q5 x hx).kp (k6.kp (.inl rfl)),q6.1,nP q6.2 k6 (by decide)⟩,k6.blk HR.out.out (by decide),k6.blk HR.out.res (by decide),HR.out.ne,HB.out.trans k6.bel⟩
   rcases acU.1 hx with hx | hx
   ·exact (hh.2.2.1 x hx).kp (k6.kp (.inl rfl))
   rw [adg.1 hx];refine ⟨_,_,rfl, ?_, ?_⟩
   ·show W6.ownsRow w.heap.size 9 1 (.slice A2 ll c2) (Gr.xF p.labels).length ((Gr.xF p.labels).map ST)
    rw [hlab];exact nP (jX o4 hw1) k5 (by decide)
   exact (o5.base hs4).kp (Kt.kp (T:=59) (Kt.row (r:= .slice (some ⟨gn,0,none⟩) n cn) r5 hgs (ab5 hs4 b5.size)) (.inl rfl)) (by decide) (by decide) (by decide))
  clear row4 o4 k4 hh r5 st6 hgs OX k5 k6 o5 b5 HX4 sZ HC2 hlab adF HR HB;go_wp2_with fail
  go_roundg kq
  case measure=>omega
  exact ⟨i+1,by simp,by omega,hs.out⟩
end Go.Proofs.YtoofbflplhbpbaaGreatDoor
namespace Go.Proofs
open Go.Shelf
def Tryz.aaK:Go.Shelf.Ren:=⟨fun | 7=>138 | 10=>188 | n=>n,fun | 23=>150 | 26=>9 | 3=>3 | 28=>203 | 0=>0 | 27=>202 | 33=>49 | 4=>4 | n=>n,fun | n=>n⟩
theorem Tryz.keys138:Go.Proofs.SlLaysZ.n7 Tryz.prog Tryz.aaK:={
 mixed:=by kernel_rfl
 f7:=⟨Tryz.f138.name,by decide,Tryz.func138.trans (ab8 some (by kernel_rfl))⟩
 f10:=⟨Tryz.f188.name,by decide,Tryz.func188.trans (ab8 some (by kernel_rfl))⟩
 t0:=Tryz.underlying0
 a0:=Tryz.isAgg0
 z0:=Tryz.sizeOf0
 v0:=Tryz.zeroValue0
 t4:=Tryz.underlying4
 a4:=Tryz.isAgg4
 z4:=Tryz.sizeOf4
 v4:=Tryz.zeroValue4
 t23:=Tryz.underlying150
 a23:=Tryz.isAgg150
 z23:=Tryz.sizeOf150
 v23:=Tryz.zeroValue150
 t26:=Tryz.underlying9
 a26:=Tryz.isAgg9
 z26:=Tryz.sizeOf9
 v26:=Tryz.zeroValue9
 t27:=Tryz.underlying202
 a27:=Tryz.isAgg202
 z27:=Tryz.sizeOf202
 v27:=Tryz.zeroValue202
 t28:=Tryz.underlying203
 a28:=Tryz.isAgg203
 z28:=Tryz.sizeOf203
 v28:=Tryz.zeroValue203
 t33:=Tryz.underlying49
 a33:=Tryz.isAgg49
 z33:=Tryz.sizeOf49
 v33:=Tryz.zeroValue49}
def Tryz.aaL:Go.Shelf.Ren:=⟨fun | 6=>137 | 8=>187 | 9=>96 | 11=>242 | 13=>148 | 12=>147 | 23=>215 | 24=>175 | 14=>206 | 15=>207 | 16=>208 | 17=>209 | 18=>210 | 19=>211 | 20=>212 | 21=>213 | 22=>214 | 25=>256 | 26=>257 | 27=>258 | 28=>259 | 29=>260 | 30=>261 | 31=>289 | n=>n,fun | 26=>9 | 28=>203 | 24=>23 | 0=>0 | 3=>3 | 37=>189 | 48=>262 | 50=>123 | 4=>4 | 40=>256 | 39=>255 | 45=>148 | 5=>5 | 9=>9 | 51=>293 | 55=>297 | 57=>319 | 58=>50 | 33=>49 | n=>n,fun | n=>n⟩
theorem Tryz.sorted137:Go.Proofs.SlLaysZ.n6 Tryz.prog Tryz.aaL:={
 mixed:=by kernel_rfl
 f6:=⟨Tryz.f137.name,by decide,Tryz.func137.trans (ab8 some (by kernel_rfl))⟩
 f8:=⟨Tryz.f187.name,by decide,Tryz.func187.trans (ab8 some (by kernel_rfl))⟩
 f11:=⟨Tryz.f242.name,by decide,Tryz.func242.trans (ab8 some (by kernel_rfl))⟩
 t0:=Tryz.underlying0
 a0:=Tryz.isAgg0
 z0:=Tryz.sizeOf0
 v0:=Tryz.zeroValue0
 t24:=Tryz.underlying23
 a24:=Tryz.isAgg23
 z24:=Tryz.sizeOf23
 v24:=Tryz.zeroValue23
 t26:=Tryz.underlying9
 a26:=Tryz.isAgg9
 z26:=Tryz.sizeOf9
 v26:=Tryz.zeroValue9
 t28:=Tryz.underlying203
 a28:=Tryz.isAgg203
 z28:=Tryz.sizeOf203
 v28:=Tryz.zeroValue203
 i26:=by kernel_rfl}
def Tryz.aiT:Go.Shelf.Ren:=⟨fun | 6=>96 | 8=>148 | 9=>147 | 19=>215 | 20=>175 | 21=>206 | 22=>207 | 23=>208 | 24=>209 | 25=>210 | 26=>211 | 27=>212 | 28=>213 | 29=>214 | 36=>256 | 31=>257 | 32=>258 | 37=>259 | 38=>260 | 39=>261 | 41=>289 | n=>n,fun | 27=>23 | 29=>9 | 3=>3 | 32=>189 | 26=>23 | 0=>0 | 44=>262 | 46=>123 | 4=>4 | 36=>256 | 35=>255 | 41=>148 | 5=>5 | 9=>9 | 53=>293 | 57=>297 | 63=>319 | 64=>50 | n=>n,fun | n=>n⟩
theorem Tryz.sort96:Go.Proofs.SlLaysM.n6 Tryz.prog Tryz.aiT:={
 mixed:=by kernel_rfl
 f6:=⟨Tryz.f96.name,by decide,Tryz.func96.trans (ab8 some (by kernel_rfl))⟩
 f8:=Tryz.func148.trans (ab8 some (by kernel_rfl))
 f9:=⟨Tryz.f147.name,by decide,Tryz.func147.trans (ab8 some (by kernel_rfl))⟩
 f19:=Tryz.func215.trans (ab8 some (by kernel_rfl))
 f20:=Tryz.func175.trans (ab8 some (by kernel_rfl))
 f21:=⟨Tryz.f206.name,by decide,Tryz.func206.trans (ab8 some (by kernel_rfl))⟩
 f22:=⟨Tryz.f207.name,by decide,Tryz.func207.trans (ab8 some (by kernel_rfl))⟩
 f23:=⟨Tryz.f208.name,by decide,Tryz.func208.trans (ab8 some (by kernel_rfl))⟩
 f24:=⟨Tryz.f209.name,by decide,Tryz.func209.trans (ab8 some (by kernel_rfl))⟩
 f25:=⟨Tryz.f210.name,by decide,Tryz.func210.trans (ab8 some (by kernel_rfl))⟩
 f26:=⟨Tryz.f211.name,by decide,Tryz.func211.trans (ab8 some (by kernel_rfl))⟩
 f27:=⟨Tryz.f212.name,by decide,Tryz.func212.trans (ab8 some (by kernel_rfl))⟩
 f28:=⟨Tryz.f213.name,by decide,Tryz.func213.trans (ab8 some (by kernel_rfl))⟩
 f29:=⟨Tryz.f214.name,by decide,Tryz.func214.trans (ab8 some (by kernel_rfl))⟩
 f31:=Tryz.func257.trans (ab8 some (by kernel_rfl))
 f32:=Tryz.func258.trans (ab8 some (by kernel_rfl))
 f36:=⟨Tryz.f256.name,by decide,Tryz.func256.trans (ab8 some (by kernel_rfl))⟩
 f37:=⟨Tryz.f259.name,by decide,Tryz.func259.trans (ab8 some (by kernel_rfl))⟩
 f38:=⟨Tryz.f260.name,by decide,Tryz.func260.trans (ab8 some (by kernel_rfl))⟩
 f39:=⟨Tryz.f261.name,by decide,Tryz.func261.trans (ab8 some (by kernel_rfl))⟩
 f41:=⟨Tryz.f289.name,by decide,Tryz.func289.trans (ab8 some (by kernel_rfl))⟩
 t0:=Tryz.underlying0
 a0:=Tryz.isAgg0
 z0:=Tryz.sizeOf0
 v0:=Tryz.zeroValue0
 t3:=Tryz.underlying3
 a3:=Tryz.isAgg3
 z3:=Tryz.sizeOf3
 v3:=Tryz.zeroValue3
 t4:=Tryz.underlying4
 a4:=Tryz.isAgg4
 z4:=Tryz.sizeOf4
 v4:=Tryz.zeroValue4
 t5:=Tryz.underlying5
 a5:=Tryz.isAgg5
 z5:=Tryz.sizeOf5
 v5:=Tryz.zeroValue5
 t9:=Tryz.underlying9
 a9:=Tryz.isAgg9
 z9:=Tryz.sizeOf9
 v9:=Tryz.zeroValue9
 t26:=Tryz.underlying23
 a26:=Tryz.isAgg23
 z26:=Tryz.sizeOf23
 v26:=Tryz.zeroValue23
 t27:=Tryz.underlying23
 a27:=Tryz.isAgg23
 z27:=Tryz.sizeOf23
 v27:=Tryz.zeroValue23
 t29:=Tryz.underlying9
 a29:=Tryz.isAgg9
 z29:=Tryz.sizeOf9
 v29:=Tryz.zeroValue9
 t32:=Tryz.underlying189
 a32:=Tryz.isAgg189
 z32:=Tryz.sizeOf189
 v32:=Tryz.zeroValue189
 t35:=Tryz.underlying255
 a35:=Tryz.isAgg255
 z35:=Tryz.sizeOf255
 v35:=Tryz.zeroValue255
 t36:=Tryz.underlying256
 a36:=Tryz.isAgg256
 z36:=Tryz.sizeOf256
 v36:=Tryz.zeroValue256
 t41:=Tryz.underlying148
 a41:=Tryz.isAgg148
 z41:=Tryz.sizeOf148
 v41:=Tryz.zeroValue148
 t44:=Tryz.underlying262
 a44:=Tryz.isAgg262
 z44:=Tryz.sizeOf262
 v44:=Tryz.zeroValue262
 t46:=Tryz.underlying123
 a46:=Tryz.isAgg123
 z46:=Tryz.sizeOf123
 v46:=Tryz.zeroValue123
 t53:=Tryz.underlying293
 a53:=Tryz.isAgg293
 z53:=Tryz.sizeOf293
 v53:=Tryz.zeroValue293
 t57:=Tryz.underlying297
 a57:=Tryz.isAgg297
 z57:=Tryz.sizeOf297
 v57:=Tryz.zeroValue297
 t63:=Tryz.underlying319
 a63:=Tryz.isAgg319
 z63:=Tryz.sizeOf319
 v63:=Tryz.zeroValue319
 t64:=Tryz.underlying50
 a64:=Tryz.isAgg50
 z64:=Tryz.sizeOf50
 v64:=Tryz.zeroValue50}
end Go.Proofs
namespace Go.Proofs.YtoofbflplhbpbaaGreatDoor
open Go.RowKit Go.Maps Go.Sort Go.Shelf
theorem aiU (m:Nat):AnyZ.SortsIn Tryz.prog Tryz.aaL Fence.wide m:=
 ⟨fun blk off cap ss W hH hblk hsz=>callsIn_wide.2 (AnyM.slices_Sort_string Tryz.sort96 blk off cap ss W hH hblk hsz),
  fun p cap W=>callsIn_wide.2 (AnyM.slices_Sort_string_none Tryz.sort96 p cap W)⟩
theorem SQ (mb:Option Nat) (W:World):Calls Tryz.prog 138 #[.map mb] W fun e w'=>e= .returned (.func (.func 188) #[] #[.pointer (some ⟨W.heap.size,0,none⟩)])/\W.alloc (.cells #[.map mb] 150)=w':=
 (callsIn_wide.1 (AnyZ.keys_in Tryz.keys138 Fence.wide 5 trivial rfl mb W)).mono fun _ _ ⟨h1,h2⟩=>⟨h1,h2.symm⟩
def sortL (l:List (List UInt8)):List (List UInt8):=(Gr.dedup l).mergeSort fun x y=>decide (x<=y)
theorem aaM: ∀l:List (List UInt8),(Gr.dedup l).length<=l.length
 | []=>by simp [Gr.dedup]
 | a :: r=>by
  have ih:=aaM r;rw [Gr.dedup]
  split
  ·rw [acd];omega
  rw [acd,acd];omega
theorem SS (b:Nat) (l:List (List UInt8)) (w:World) (h:gK w b l) (hl:l.length<=1073741824):
  Calls Tryz.prog 137 #[.func (.func 188) #[] #[.pointer (some ⟨w.heap.size,0,none⟩)]] (w.alloc (.cells #[.map (some b)] 150)) fun e w'=> ∃A c,e= .returned (.slice A (Gr.dedup l).length c)/\
   w'.ownsRow (w.alloc (.cells #[.map (some b)] 150)).heap.size 9 1 (.slice A (Gr.dedup l).length c) (Gr.dedup l).length ((sortL l).map ST)/\Below (w.alloc (.cells #[.map (some b)] 150)).heap.size (w.alloc (.cells #[.map (some b)] 150)) w':=by
 obtain ⟨nn,D0,hn,hown,hT,hc,hh⟩:=h.ex;have hbl:=hown.lt
 have hperm:(Gr.dedup l).Perm (strKeys D0):=Collected.perm (left:=fun _=>false) ⟨Gr.MP l,fun x=>by rw [Gr.Iu,hh x];simp⟩ hown Nu Tryz.underlying9 (fun _=>rfl)
 have hdl:=aaM l
 have hsz:Maps.size D0<=1073741824:=by
  have h1:=hperm.length_eq
  have h2:(strKeys D0).length=Maps.size D0:=by
   obtain ⟨es,rfl⟩:=hT.isMap;rw [Maps.size_eq];exact ace _
  omega
 have hseq:SeqGives Fence.wide 2 Tryz.prog 188 #[.pointer (some ⟨w.heap.size,0,none⟩)] encStr (fun ss=>ss.Perm (strKeys D0)) (Maps.size D0) (w.alloc (.cells #[.map (some b)] 150)):=
  AnyZ.keys_gives (ρ:=Tryz.aaK) {Tryz.keys138 with} Fence.wide _ trivial rfl (by omega) w.heap.size b nn D0 _ (by simp) (by simp) (by
   obtain ⟨es,clock,hb,Ft,hs,hD⟩:=hown
   exact ⟨es,clock,(Below.heap_alloc _ _ b hbl).trans hb,Ft,hs,hD⟩)
 refine (callsIn_wide.1 (AnyZ.sorted_in Tryz.sorted137 Fence.wide 5 trivial trivial trivial trivial rfl (by omega) (aiU _) (enters_of Tryz.func96 (by kernel_rfl) rfl) 188 #[.pointer (some ⟨w.heap.size,0,none⟩)] trivial (enters_of Tryz.func188 (by kernel_rfl) rfl) _ _ (by unfold maxLen;omega) (by omega) _ hseq)).mono ?_
 rintro e w' ⟨v,ss,rfl,hS,hrow,-,hb⟩;have hss:=hS.trans hperm.symm
 have hm:=mergeSort_of_perm hss
 rw [show ss.mergeSort (fun x y=>decide (x<=y))=sortL l from hm,hss.length_eq] at hrow
 obtain ⟨A,c,rfl⟩:=aJ hrow;exact ⟨A,c,rfl,hrow,hb⟩
end Go.Proofs.YtoofbflplhbpbaaGreatDoor
