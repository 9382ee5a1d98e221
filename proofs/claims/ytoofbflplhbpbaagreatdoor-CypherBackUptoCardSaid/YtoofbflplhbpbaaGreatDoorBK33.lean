/- Contracts and plain laws,part 33. -/
import Derived.Test.YtoofbflplhbpbaaGreatDoorBK27
import Derived.Test.YtoofbflplhbpbaaGreatDoorBK32
set_option maxHeartbeats 64000000
set_option maxRecDepth 1000000
set_option linter.all false
namespace Go.Proofs.YtoofbflplhbpbaaGreatDoor
open Go.RowKit Go.Sort
structure Kt (T:TypeId) (base:Nat) (w w':World):Prop where
 bel:Below base w w'
 keep: ∀(b:Nat) (c:Array Value) (t:TypeId) (fz:Nat×Nat),w.heap[b]?=some (.cells c t fz)→t≠T→w'.heap[b]?=some (.cells c t fz)
theorem Kt.kp {T:TypeId} {base:Nat} {w w':World} (h:Kt T base w w') (hT:T=59∨T=63):Kp base w w':=
 ⟨h.bel,fun b c t fz hc _ h2 h3=>h.keep b c t fz hc (fun e=>hT.elim (fun h=>h2 (e.trans h)) (fun h=>h3 (e.trans h)))⟩
theorem Kt.of_below {T:TypeId} {base:Nat} {w w':World} (h:Below w.heap.size w w') (hb:base≤w.heap.size):Kt T base w w':=
 ⟨h.mono hb,fun b c t fz hc _=>(h.block b (Array.getElem?_eq_some_iff.1 hc).1).trans hc⟩
theorem Kt.trans {T:TypeId} {base:Nat} {a b c:World} (h:Kt T base a b) (k:Kt T base b c):Kt T base a c:=
 ⟨h.bel.trans k.bel,fun i cs t fz hc h1=>k.keep i cs t fz (h.keep i cs t fz hc h1) h1⟩
theorem Kt.row {T:TypeId} {base size n:Nat} {r:Value} {xs:List Value} {w w':World} (hr:w.ownsRow base T size r n xs) (hg:w.grownBy w' r.ownBlock) (hb:base≤w.heap.size):Kt T base w w':=
 ⟨(Below.refl base w).grown hg hb (fun k hk=>(World.ownsRow.lt hr k hk).1),fun b c t fz hc ht=>by
  rw [hg.block b (Array.getElem?_eq_some_iff.1 hc).1 ?_]
  ·exact hc
  ·intro e
   obtain ⟨_,c',hc'⟩:=dZ hr b e.symm
   rw [hc'] at hc
   cases hc
   exact ht rfl⟩
theorem Kt.new {T:TypeId} {base g:Nat} {w w1 w':World} (h:Kt T base w w1) (hg:w1.grownBy w' (some g)) (hw:w.heap.size≤g) (hb:base≤w.heap.size):Kt T base w w':=
 ⟨h.bel.grown hg (Nat.le_trans hb h.bel.size) (fun k hk=>by cases hk;exact Nat.le_trans hb hw),fun b c t fz hc ht=>by
  have hlt:b<w.heap.size:=(Array.getElem?_eq_some_iff.1 hc).1
  rw [hg.block b (Nat.lt_of_lt_of_le hlt h.bel.size) (fun e=>by cases e;omega)]
  exact h.keep b c t fz hc ht⟩
theorem fC {T:TypeId} {base B e size n:Nat} {v:Value} {xs:List Value} {w w':World} (h:w.ownsRow B e size v n xs) (hk:Kt T base w w') (h1:e≠T):w'.ownsRow B e size v n xs:=by
 obtain ⟨hl,h⟩:=h
 refine ⟨hl, ?_⟩
 rcases h with h |⟨g,cap,cur,hv,hb,hc,hr⟩
 ·exact .inl h
 ·exact .inr ⟨g,cap,cur,hv,hb,hk.keep _ _ _ _ hc h1,hr⟩
theorem Kt.blk {T t:TypeId} {base b:Nat} {cs:Array Value} {w w':World} (hk:Kt T base w w') (h:Blk w b t cs) (h1:t≠T):Blk w' b t cs:=hk.keep _ _ _ _ h h1
theorem dh.len {w:World} {B:Nat} {x:Gr.N×List Value} (h:dh w B x):x.2.length=3:=by
 obtain ⟨s,t,e,-,-⟩:=h
 rw [e];rfl
theorem dw.len {w:World} {B:Nat} {x:Gr.R×List Value} (h:dw w B x):x.2.length=5:=by
 obtain ⟨s,e,-⟩:=h
 rw [e];rfl
def dA (W:World) (B:Nat) (u:Value) (g:Gr.G):Prop:=
 ∃(sn sr:Value) (ln:List (Gr.N×List Value)) (lr:List (Gr.R×List Value)),u= .agg #[sn,sr]∧
  ln.map Prod.fst=g.nodes∧(∀x∈ln,dh W B x)∧W.ownsRow B 59 3 sn g.nodes.length (ln.flatMap Prod.snd)∧
  lr.map Prod.fst=g.ah∧(∀x∈lr,dw W B x)∧W.ownsRow B 63 5 sr g.ah.length (lr.flatMap Prod.snd)
structure oq (g:Gr.G):Prop where
 ni:(g.nodes.map Gr.N.id).Nodup
 ri:(g.ah.map Gr.R.id).Nodup
 np: ∀n∈g.nodes,(n.props.map Gr.P.key).Nodup
 rp: ∀r∈g.ah,(r.props.map Gr.P.key).Nodup
structure dU (w:World) (B:Nat) (g:Gr.G) (ob n m cn cr i j:Nat) (An Ar:Option Addr) (V:World):Prop where
 nx: ∃l1 l2:List (Gr.N×List Value),l1.length=i∧l1.map Prod.fst ++ l2.map (fun x=>Gr.gQ x.1)=g.nodes.map Gr.gQ∧(∀x∈l1,dh V w.heap.size x)∧(∀x∈l2,x.1∈g.nodes∧bU w B x.1 x.2)∧V.ownsRow w.heap.size 59 3 (.slice An n cn) n ((l1 ++ l2).flatMap Prod.snd)
 rx: ∃l1 l2:List (Gr.R×List Value),l1.length=j∧l1.map Prod.fst ++ l2.map (fun x=>Gr.iU x.1)=g.ah.map Gr.iU∧(∀x∈l1,dw V w.heap.size x)∧(∀x∈l2,x.1∈g.ah∧bV w B x.1 x.2)∧V.ownsRow w.heap.size 63 5 (.slice Ar m cr) m ((l1 ++ l2).flatMap Prod.snd)
 out:Blk V ob 39 #[.slice An n cn, .slice Ar m cr]
 res:Blk V (w.heap.size+1) 39 #[.slice none 0 0, .slice none 0 0]
 ne:w.heap.size+1≠ob∧w.heap.size≤ob
 bel:Below w.heap.size w V
structure Rg (w:World) (a b:Value) (X:World):Prop where
 bel:Below w.heap.size w X
 k1:Blk X w.heap.size 39 #[a,b]
 k2:Blk X (w.heap.size+1) 39 #[.slice none 0 0, .slice none 0 0]
theorem Rg.alloc {w X:World} {a b:Value} (h:Rg w a b X) (o:Obj):Rg w a b (X.alloc o):=⟨h.bel.alloc h.bel.size o,h.k1.alloc o,h.k2.alloc o⟩
theorem Rg.below {w X Y:World} {a b:Value} (h:Rg w a b X) (hb:Below X.heap.size X Y):Rg w a b Y:=⟨h.bel.trans (hb.mono h.bel.size),h.k1.below hb h.k1.lt,h.k2.below hb h.k2.lt⟩
theorem dU.start {w X:World} {B:Nat} {g:Gr.G} {ob n m cn cr:Nat} {An Ar:Option Addr} {a b z0 z1:Value} {ln:List (Gr.N×List Value)} {lr:List (Gr.R×List Value)} (hn1:ln.map Prod.fst=g.nodes) (hn2: ∀x∈ln,bU w B x.1 x.2∧x.2.length=3) (hr1:lr.map Prod.fst=g.ah) (hr2: ∀x∈lr,bV w B x.1 x.2∧x.2.length=5)
  (h:Rg w a b X) (o1:X.ownsRow w.heap.size 59 3 (.slice An n cn) n (ln.flatMap Prod.snd)) (o2:X.ownsRow w.heap.size 63 5 (.slice Ar m cr) m (lr.flatMap Prod.snd)) (hz:Blk X ob 39 #[z0,z1]) (ho:w.heap.size+2≤ob):
  dU w B g ob n m cn cr 0 0 An Ar ((X.setCell ⟨ob,0,none⟩ (.slice An n cn)).setCell ⟨ob,1,none⟩ (.slice Ar m cr)):=by
 have hz1:=hz.ay 0 (.slice An n cn)
 refine ⟨⟨[],ln,rfl,by rw [←hn1];simp,by simp,fun x hx=>⟨by rw [←hn1];exact List.mem_map_of_mem hx,(hn2 x hx).1⟩, ?_⟩,⟨[],lr,rfl,by rw [←hr1];simp,by simp,fun x hx=>⟨by rw [←hr1];exact List.mem_map_of_mem hx,(hr2 x hx).1⟩, ?_⟩, ?_, ?_,⟨by omega,by omega⟩, ?_⟩
 ·exact kK (kK o1 hz (by decide)) hz1 (by decide)
 ·exact kK (kK o2 hz (by decide)) hz1 (by decide)
 ·exact Blk.cast (hz1.ay 1 (.slice Ar m cr)) (by simp)
 ·exact (h.k2.far (by simp;omega) _).far (by simp;omega) _
 ·exact (h.bel.setCell (p:=⟨ob,0,none⟩) (by simp;omega) _).setCell (p:=⟨ob,1,none⟩) (by simp;omega) _
theorem dU.start' {w X:World} {B:Nat} {g:Gr.G} {n m cn cr:Nat} {An Ar:Option Addr} {a b:Value} {ln:List (Gr.N×List Value)} {lr:List (Gr.R×List Value)} (hn1:ln.map Prod.fst=g.nodes) (hn2: ∀x∈ln,bU w B x.1 x.2∧x.2.length=3) (hr1:lr.map Prod.fst=g.ah) (hr2: ∀x∈lr,bV w B x.1 x.2∧x.2.length=5)
  (h:Rg w a b X) (o1:X.ownsRow w.heap.size 59 3 (.slice An n cn) n (ln.flatMap Prod.snd)) (o2:X.ownsRow w.heap.size 63 5 (.slice Ar m cr) m (lr.flatMap Prod.snd)):
  dU w B g X.heap.size n m cn cr 0 0 An Ar (X.alloc (.cells #[.slice An n cn, .slice Ar m cr] 39)):=by
 have hlt:=h.k2.lt
 exact ⟨⟨[],ln,rfl,by rw [←hn1];simp,by simp,fun x hx=>⟨by rw [←hn1];exact List.mem_map_of_mem hx,(hn2 x hx).1⟩,World.ownsRow.alloc o1 _⟩,⟨[],lr,rfl,by rw [←hr1];simp,by simp,fun x hx=>⟨by rw [←hr1];exact List.mem_map_of_mem hx,(hr2 x hx).1⟩,World.ownsRow.alloc o2 _⟩,Blk.new _ _ _,h.k2.alloc _,⟨by omega,h.bel.size⟩,h.bel.alloc h.bel.size _⟩
theorem NJ {W:World} {base n c g:Nat} {ls:List (List UInt8)} (o:W.ownsRow base 9 1 (.slice (some ⟨g,0,none⟩) n c) n (ls.map ST)) (hn:ls.length=n):Holds encStr W g 0 ls.toArray:=fun j hj=>by
 have hj':j<n:=by rw [←hn];simpa using hj
 obtain ⟨g',he,-,hc,hf,-⟩:=jQ o (t:=j) (by omega)
 cases he
 rw [Nat.zero_add]
 refine ⟨?_,hf⟩
 rw [hc,List.getElem?_map,List.getElem?_eq_getElem (by omega)]
 simp only [List.getElem!_toArray,getElem!_pos ls j (by omega)]
 rfl
theorem NK {W:World} {base n c:Nat} {A:Option Addr} {ls:List (List UInt8)} (o:W.ownsRow base 9 1 (.slice A n c) n (ls.map ST)) (hn:ls.length=n) (hl:n≤1073741824):
  Calls Tryz.prog 96 #[.slice A n c] W fun e w'=>e= .returned (.tuple #[])∧w'.ownsRow base 9 1 (.slice A n c) n ((Gr.jk ls).map ST)∧W.grownBy w' (Value.slice A n c).ownBlock:=by
 rcases o.2 with ⟨e,h0⟩ |⟨g,cap,cur,e,-⟩
 ·cases e
  have hls:ls= []:=List.eq_nil_of_length_eq_zero hn
  subst hls
  refine (Tryz.slices_Sort_string_none none 0 W).mono ?_
  rintro e w' ⟨rfl,rfl⟩
  exact ⟨rfl,by rw [show Gr.jk []= [] from List.mergeSort_nil];exact o,bF _ _⟩
 ·cases e
  have h:=Tryz.slices_Sort_string g 0 c ls W (NJ o hn) (World.ownsRow.lt o g rfl).2 (by omega)
  rw [hn] at h
  refine h.mono ?_
  rintro e w' ⟨rfl,m,os,rfl⟩
  obtain ⟨h1,h2⟩:=DK (enc:=encStr) (d:=(Gr.jk ls).toArray) (m:=m) (os:=os) o (by rw [List.size_toArray,←hn,Nat.mul_one];exact (List.mergeSort_perm _ _).length_eq)
  rw [List.toList_toArray] at h1
  exact ⟨rfl,h1,h2⟩
theorem Kt.news {T e:TypeId} {base size n:Nat} {r:Value} {xs:List Value} {w w1 w':World} (h:Kt T base w w1) (hr:w1.ownsRow w.heap.size e size r n xs) (hg:w1.grownBy w' r.ownBlock) (hb:base≤w.heap.size):Kt T base w w':=by
 cases hro:r.ownBlock with
 | none=>rw [hro] at hg;exact ⟨h.bel.grown hg (Nat.le_trans hb h.bel.size) (fun k hk=>by cases hk),fun b c t fz hc ht=>by
   have:=h.keep b c t fz hc ht
   rw [hg.block b (Array.getElem?_eq_some_iff.1 this).1 (fun e=>by cases e)];exact this⟩
 | some g=>rw [hro] at hg;exact h.new hg (World.ownsRow.lt hr g hro).1 hb
theorem NM {w:World} {B:Nat} {x:Gr.N×List Value} (h:dh w B x): ∃e:EN,jw e=x.2∧e.1=x.1.id:=by
 obtain ⟨s,t,e,h1,h2⟩:=h
 obtain ⟨As,cs,rfl⟩:=ak h1
 obtain ⟨At,ct,rfl⟩:=h2.form
 exact ⟨(x.1.id,(As,x.1.labels.length,cs),(At,x.1.props.length,ct)),e.symm,rfl⟩
theorem NP {V:World} {base n c:Nat} {A:Option Addr} {l:List (Gr.N×List Value)} {ns:List Gr.N} (hl:l.map Prod.fst=ns) (ho: ∀x∈l,dh V base x) (hr:V.ownsRow base 59 3 (.slice A n c) n (l.flatMap Prod.snd)) (hd:(ns.map Gr.N.id).Nodup) (hn:ns.length=n) (hs:n≤1073741824):
  Calls Tryz.prog 98 #[.slice A n c, .func (.func 99) #[] #[]] V fun e w'=>e= .returned (.tuple #[])∧V.grownBy w' (Value.slice A n c).ownBlock∧ ∃l':List (Gr.N×List Value),l'.Perm l∧l'.map Prod.fst=Gr.eU (fun a b:Int=>decide (a≤b)) Gr.N.id ns∧w'.ownsRow base 59 3 (.slice A n c) n (l'.flatMap Prod.snd):=by
 rcases hr.2 with ⟨e,h0⟩ |⟨g,cap,cur,e,-⟩
 ·cases e
  have hns:ns= []:=List.eq_nil_of_length_eq_zero hn
  subst hns
  have hl0:l= []:=List.map_eq_nil_iff.1 hl
  subst hl0
  refine (Nh none 0 _ V).mono ?_
  rintro e w' ⟨rfl,rfl⟩
  exact ⟨rfl,bF _ _, [], .refl _,by rw [show Gr.eU _ Gr.N.id []= [] from List.mergeSort_nil];rfl,hr⟩
 ·cases e
  obtain ⟨q,q1,q2⟩:=qN (enc:=jw) (ka:=fun e:EN=>e.1) (kb:=Gr.N.id) (fun x hx=>NM (ho x hx))
  have hq:q.length=n:=by rw [←hn,←hl,←q1,List.length_map,List.length_map]
  have e1:=qO (enc:=jw) (fun y hy=>(q2 y hy).1)
  rw [q1] at e1
  have hk: ∀x,(jw x).length=3:=fun x=>rfl
  have hs1:(q.map Prod.snd).toArray.size=n:=by simp [hq]
  refine (Nb (cap:=c) (vV hk (fun x v hv=> ?_) (by rw [List.toList_toArray,e1];exact hr) hs1) hs1 hs).mono ?_
  ·simp only [jw,List.mem_cons,List.not_mem_nil,or_false] at hv
   rcases hv with rfl | rfl | rfl<;> rfl
  ·rintro e w' ⟨rfl,d',hs',S,hsrt,hp⟩
   obtain ⟨o1,o2⟩:=vW hk hr hs' S
   rw [List.toList_toArray] at hp
   obtain ⟨l',p1,p2,p3⟩:=vZ vX (ka:=fun e:EN=>e.1) q1 q2 hp hsrt (by rw [hl];exact hd)
   rw [hl] at p3
   exact ⟨rfl,o2,l',p1,p3,by rw [←p2];exact o1⟩
theorem NQ {w:World} {B:Nat} {x:Gr.R×List Value} (h:dw w B x): ∃e:ER,encR e=x.2∧e.1=x.1.id:=by
 obtain ⟨t,e,h2⟩:=h
 obtain ⟨At,ct,rfl⟩:=h2.form
 exact ⟨(x.1.id,x.1.type,x.1.src,x.1.dst,(At,x.1.props.length,ct)),e.symm,rfl⟩
theorem NR {V:World} {base n c:Nat} {A:Option Addr} {l:List (Gr.R×List Value)} {ns:List Gr.R} (hl:l.map Prod.fst=ns) (ho: ∀x∈l,dw V base x) (hr:V.ownsRow base 63 5 (.slice A n c) n (l.flatMap Prod.snd)) (hd:(ns.map Gr.R.id).Nodup) (hn:ns.length=n) (hs:n≤1073741824):
  Calls Tryz.prog 101 #[.slice A n c, .func (.func 102) #[] #[]] V fun e w'=>e= .returned (.tuple #[])∧V.grownBy w' (Value.slice A n c).ownBlock∧ ∃l':List (Gr.R×List Value),l'.Perm l∧l'.map Prod.fst=Gr.eU (fun a b:Int=>decide (a≤b)) Gr.R.id ns∧w'.ownsRow base 63 5 (.slice A n c) n (l'.flatMap Prod.snd):=by
 rcases hr.2 with ⟨e,h0⟩ |⟨g,cap,cur,e,-⟩
 ·cases e
  have hns:ns= []:=List.eq_nil_of_length_eq_zero hn
  subst hns
  have hl0:l= []:=List.map_eq_nil_iff.1 hl
  subst hl0
  refine (Nl none 0 _ V).mono ?_
  rintro e w' ⟨rfl,rfl⟩
  exact ⟨rfl,bF _ _, [], .refl _,by rw [show Gr.eU _ Gr.R.id []= [] from List.mergeSort_nil];rfl,hr⟩
 ·cases e
  obtain ⟨q,q1,q2⟩:=qN (enc:=encR) (ka:=fun e:ER=>e.1) (kb:=Gr.R.id) (fun x hx=>NQ (ho x hx))
  have hq:q.length=n:=by rw [←hn,←hl,←q1,List.length_map,List.length_map]
  have e1:=qO (enc:=encR) (fun y hy=>(q2 y hy).1)
  rw [q1] at e1
  have hk: ∀x,(encR x).length=5:=fun x=>rfl
  have hs1:(q.map Prod.snd).toArray.size=n:=by simp [hq]
  refine (Nk (cap:=c) (vV hk (fun x v hv=> ?_) (by rw [List.toList_toArray,e1];exact hr) hs1) hs1 hs).mono ?_
  ·simp only [encR,List.mem_cons,List.not_mem_nil,or_false] at hv
   rcases hv with rfl | rfl | rfl | rfl | rfl<;> rfl
  ·rintro e w' ⟨rfl,d',hs',S,hsrt,hp⟩
   obtain ⟨o1,o2⟩:=vW hk hr hs' S
   rw [List.toList_toArray] at hp
   obtain ⟨l',p1,p2,p3⟩:=vZ vX (ka:=fun e:ER=>e.1) q1 q2 hp hsrt (by rw [hl];exact hd)
   rw [hl] at p3
   exact ⟨rfl,o2,l',p1,p3,by rw [←p2];exact o1⟩
theorem dU.drew {w:World} {B:Nat} {g:Gr.G} {ob n m cn cr i j:Nat} {An Ar:Option Addr} {V:World} (h:dU w B g ob n m cn cr i j An Ar V):dU w B g ob n m cn cr i j An Ar V.drew:=⟨h.nx,h.rx,h.out,h.res,h.ne,h.bel.drew⟩
theorem dU.rel {w:World} {B:Nat} {g:Gr.G} {ob n m cn cr i j:Nat} {An Ar:Option Addr} {V:World} (h:dU w B g ob n m cn cr i j An Ar V) (hm:g.ah.length=m) (hj:j<m): ∃(p:Gr.R) (gr:Nat) (Ap:Option Addr) (cp:Nat),p∈g.ah∧Ar=some ⟨gr,0,none⟩∧Lst w B 6 (aB w B) Ap p.props∧
  V.cell? ⟨gr,j*5+4,none⟩=some (.slice Ap p.props.length cp)∧V.frozen? ⟨gr,j*5+4,none⟩=false∧ ∀w7 v7,aC 61 w7 V.heap.size v7 (Gr.iG p.props)→Below V.heap.size V w7→w7.cell? ⟨gr,j*5+4,none⟩=some (.slice Ap p.props.length cp)∧w7.frozen? ⟨gr,j*5+4,none⟩=false∧
   w7.cell? ⟨ob,0,none⟩=some (.slice An n cn)∧w7.cell? ⟨ob,1,none⟩=some (.slice Ar m cr)∧dU w B g ob n m cn cr i (j+1) An Ar (w7.setCell ⟨gr,j*5+4,none⟩ v7):=by
 obtain ⟨l1,l2,h1,h2,h3,h4,h5⟩:=h.rx
 obtain ⟨⟨p,cs⟩,l3,rfl⟩: ∃x l3,l2=x :: l3:=by
  cases l2 with
  | nil=>
   have:=congrArg List.length h2
   rw [List.map_nil,List.append_nil,List.length_map,List.length_map,h1,hm] at this
   omega
  | cons x r=>exact ⟨x,r,rfl⟩
 obtain ⟨hpm,Ap,cp,rfl,ra2⟩:=(show p∈g.ah∧bV w B p cs from h4 (p,cs) (List.mem_cons_self ..))
 have hpl: ∀y∈l1,y.2.length=5:=fun y hy=>(h3 y hy).len
 have hw1:=h.bel.size
 obtain ⟨gr,rfl,hg,c4,f4,-⟩:=iY (j:=4) h5 hpl h1 rfl hj (by decide)
 refine ⟨p,gr,Ap,cp,hpm,rfl,ra2,c4,f4,fun w7 v7 o7 b7=> ?_⟩
 have r7:=own_below h5 b7
 obtain ⟨g',e',-,c8,f8,st⟩:=iY (j:=4) r7 hpl h1 rfl hj (by decide)
 cases e'
 obtain ⟨e0,e1⟩:=cells2 (h.out.below b7 h.out.lt)
 have row:=st v7
 simp only [List.set_cons_succ,List.set_cons_zero] at row
 have k7:Kt 63 w.heap.size w7 (w7.setCell ⟨gr,j*5+4,none⟩ v7):=Kt.row (r:= .slice (some ⟨gr,0,none⟩) m cr) r7 (grownBy_set w7 ⟨gr,j*5+4,none⟩ _) (Nat.le_trans hw1 b7.size)
 have k8:=(Kt.of_below b7 hw1).trans k7
 obtain ⟨q1,q2,q3,q4,q5,q6⟩:=h.nx
 refine ⟨c8,f8,e0,e1,⟨q1,q2,q3,q4,fun x hx=>(q5 x hx).kp (k8.kp (.inr rfl)),q6.1,fC q6.2 k8 (by decide)⟩,⟨l1 ++ [(Gr.iU p, [.int .i64 p.id,ST p.type, .int .i64 p.src, .int .i64 p.dst,v7])],l3,by simp [h1],by rw [←h2];simp,fun x hx=> ?_,fun x hx=>h4 x (List.mem_cons_of_mem _ hx),by simpa using row⟩,k8.blk h.out (by decide),k8.blk h.res (by decide),h.ne,h.bel.trans k8.bel⟩
 rcases List.mem_append.1 hx with hx | hx
 ·exact (h3 x hx).kp (k8.kp (.inr rfl))
 ·rw [List.mem_singleton.1 hx]
  exact ⟨_,rfl,(o7.base hw1).kp (k7.kp (.inr rfl)) (by decide) (by decide) (by decide)⟩
theorem aK.kt {T:TypeId} {base B:Nat} {x:Gr.P×List Value} {w w':World} (h:aK w B x) (hk:Kt T base w w') (h1:2≠T) (h2:9≠T):aK w' B x:=by
 obtain ⟨s,t,e,o1,o2⟩:=h
 exact ⟨s,t,e,fC o1 hk h1,fC o2 hk h2⟩
theorem aC.kt {S T:TypeId} {base B:Nat} {v:Value} {ps:List Gr.P} {w w':World} (h:aC S w B v ps) (hk:Kt T base w w') (h1:2≠T) (h2:9≠T) (h3:S≠T):aC S w' B v ps:=by
 obtain ⟨l,e,hx,ho⟩:=h
 exact ⟨l,e,fun x hm=>(hx x hm).kt hk h1 h2,fC ho hk h3⟩
theorem dh.kt {T:TypeId} {base B:Nat} {x:Gr.N×List Value} {w w':World} (h:dh w B x) (hk:Kt T base w w') (h1:2≠T) (h2:9≠T) (h3:61≠T):dh w' B x:=by
 obtain ⟨s,t,e,o1,o2⟩:=h
 exact ⟨s,t,e,fC o1 hk h2,o2.kt hk h1 h2 h3⟩
theorem dw.kt {T:TypeId} {base B:Nat} {x:Gr.R×List Value} {w w':World} (h:dw w B x) (hk:Kt T base w w') (h1:2≠T) (h2:9≠T) (h3:61≠T):dw w' B x:=by
 obtain ⟨t,e,o2⟩:=h
 exact ⟨t,e,o2.kt hk h1 h2 h3⟩
theorem Kt.cell {T:TypeId} {base b:Nat} {cs:Array Value} {w:World} (h:Blk w b T cs) (hb:base≤b) (i:Nat) (u:Value):Kt T base w (w.setCell ⟨b,i,none⟩ u):=
 ⟨(Below.refl base w).setCell (p:=⟨b,i,none⟩) hb u,fun k c t fz hc ht=>by
  rw [(grownBy_set w ⟨b,i,none⟩ u).block k (Array.getElem?_eq_some_iff.1 hc).1 (fun e=> ?_)]
  ·exact hc
  ·cases e
   rw [show w.heap[b]?=_ from h] at hc
   cases hc
   exact ht rfl⟩
theorem dA.kt {T:TypeId} {base B:Nat} {u:Value} {g:Gr.G} {w w':World} (h:dA w B u g) (hk:Kt T base w w') (h1:2≠T) (h2:9≠T) (h3:61≠T) (h4:59≠T) (h5:63≠T):dA w' B u g:=by
 obtain ⟨sn,sr,ln,lr,e,q1,q2,q3,q4,q5,q6⟩:=h
 exact ⟨sn,sr,ln,lr,e,q1,fun x hx=>(q2 x hx).kt hk h1 h2 h3,fC q3 hk h4,q4,fun x hx=>(q5 x hx).kt hk h1 h2 h3,fC q6 hk h5⟩
theorem dU.done {w:World} {B:Nat} {g:Gr.G} {ob n m cn cr:Nat} {An Ar:Option Addr} {V:World} (h:dU w B g ob n m cn cr n m An Ar V) (hn:g.nodes.length=n) (hm:g.ah.length=m):
  ∃(ln:List (Gr.N×List Value)) (lr:List (Gr.R×List Value)),ln.map Prod.fst=g.nodes.map Gr.gQ∧(∀x∈ln,dh V w.heap.size x)∧V.ownsRow w.heap.size 59 3 (.slice An n cn) n (ln.flatMap Prod.snd)∧
   lr.map Prod.fst=g.ah.map Gr.iU∧(∀x∈lr,dw V w.heap.size x)∧V.ownsRow w.heap.size 63 5 (.slice Ar m cr) m (lr.flatMap Prod.snd):=by
 obtain ⟨l1,l2,h1,h2,h3,-,h5⟩:=h.nx
 obtain ⟨k1,k2,e1,e2,e3,-,e5⟩:=h.rx
 have z1:l2= []:=by
  have:=congrArg List.length h2
  rw [List.length_append,List.length_map,List.length_map,List.length_map,h1,hn] at this
  exact List.eq_nil_of_length_eq_zero (by omega)
 have z2:k2= []:=by
  have:=congrArg List.length e2
  rw [List.length_append,List.length_map,List.length_map,List.length_map,e1,hm] at this
  exact List.eq_nil_of_length_eq_zero (by omega)
 subst z1 z2
 rw [List.map_nil,List.append_nil] at h2 e2
 rw [List.append_nil] at h5 e5
 exact ⟨l1,k1,h2,h3,h5,e2,e3,e5⟩
theorem D9 {fn:Func} {R:Ending→World→Prop} {tmps:Array Value} {W:World} {p:Tmp} {b:Nat} {v0 v1:Value} (hfn:fn.results= #[.cell p 39])
  (ht:tmps.getD p undef= .pointer (some ⟨b,0,none⟩)) (hB:Blk W b 39 #[v0,v1]) (hR:R (.returned (.agg #[v0,v1])) W):
  bodyPost Tryz.prog fn R .ret {tmps:=tmps,defers:= []} W:=by
 obtain ⟨c0,c1⟩:=cells2 hB
 refine bodyPost_ret (v:= .agg #[v0,v1]) ?_ rfl hR
 simp at ht
 simp [results,hfn,go_sem,ht,c0,c1]
theorem NS (B:Nat) (u:Value) (g:Gr.G) (w:World) (h:GIn w B u g) (hB:B≤w.heap.size) (hd:oq g):
  Calls Tryz.prog 51 #[u] w fun e w'=> ∃u',e= .returned u'∧dA w' w.heap.size u' (Gr.canon g)∧Below w.heap.size w w':=by
 have hok:=h.ok
 obtain ⟨A1,c1,A2,c2,rfl,hN,hR⟩:=h.ex
 obtain ⟨ln,hn1,hn2,hn3⟩:=hN.pairs
 obtain ⟨lr,hr1,hr2,hr3⟩:=hR.pairs
 obtain ⟨n,hn⟩: ∃n,g.nodes.length=n:=⟨_,rfl⟩
 obtain ⟨m,hm⟩: ∃m,g.ah.length=m:=⟨_,rfl⟩
 have hnl:n≤1073741824:=hn▸hok.nl
 have hml:m≤1073741824:=hm▸hok.rl
 have hone: ∀v∈ln.flatMap Prod.snd,v.oneCell'=true:=fun v hv=>by
  obtain ⟨x,hx,hv⟩:=List.mem_flatMap.1 hv
  obtain ⟨⟨_,_,_,_,e,-,-⟩,-⟩:=hn2 x hx
  rw [e] at hv
  simp only [List.mem_cons,List.not_mem_nil,or_false] at hv
  rcases hv with rfl | rfl | rfl<;> rfl
 have hone2: ∀v∈lr.flatMap Prod.snd,v.oneCell'=true:=fun v hv=>by
  obtain ⟨x,hx,hv⟩:=List.mem_flatMap.1 hv
  obtain ⟨⟨_,_,e,-⟩,-⟩:=hr2 x hx
  rw [e] at hv
  simp only [List.mem_cons,List.not_mem_nil,or_false] at hv
  rcases hv with rfl | rfl | rfl | rfl | rfl<;> rfl
 rw [hn] at hn3
 rw [hm] at hr3
 have HCN:=hq7 (fun (V:World) (hb:Below w.heap.size w V)=>ND B A1 c1 n _ V (hn3.below (hb.mono hB)) hone hnl (Nat.le_trans hB hb.size))
 have HCR:=hq7 (fun (V:World) (hb:Below w.heap.size w V)=>NH B A2 c2 m _ V (hr3.below (hb.mono hB)) hone2 hml (Nat.le_trans hB hb.size))
 rw [hn,hm]
 have HOK:=hq7 hok
 have HD:=hq7 hd
 have HN:=hq7 hn
 have HM:=hq7 hm
 have hNL: ∀i,g.nodes.length=i→i≤1073741824:=fun i e=>e▸HOK.out.nl
 have HN1:=hq7 (And.intro hn1 hn2)
 have HRL:=hq7 (And.intro hr1 hr2)
 clear h hok hd hN hR hone hone2 hn hm hn3 hr3 hn1 hn2 hr1 hr2
 go_enter Tryz.func51,Tryz.ntmps51
 go_upto_region 1 with fail
 go_cut [3] (fun s3 wx=> ∃(ob cn cr:Nat) (An Ar:Option Addr),s3= .pointer (some ⟨ob,0,none⟩)∧dU w B g ob n m cn cr 0 0 An Ar wx)
 case first=>
  rename_i J K0 hJ hK
  have hb1:Below w.heap.size w ((w.alloc (.cells #[.slice A1 n c1, .slice A2 m c2] 39)).alloc (.cells #[.slice none 0 0, .slice none 0 0] 39)):=((Below.refl _ w).alloc (Nat.le_refl _) _).alloc (by simp) _
  have hk1:Blk ((w.alloc (.cells #[.slice A1 n c1, .slice A2 m c2] 39)).alloc (.cells #[.slice none 0 0, .slice none 0 0] 39)) w.heap.size 39 #[.slice A1 n c1, .slice A2 m c2]:=(Blk.new _ _ _).alloc _
  have hk2:Blk ((w.alloc (.cells #[.slice A1 n c1, .slice A2 m c2] 39)).alloc (.cells #[.slice none 0 0, .slice none 0 0] 39)) (w.heap.size+1) 39 #[.slice none 0 0, .slice none 0 0]:=by
   have:=Blk.new (w.alloc (.cells #[.slice A1 n c1, .slice A2 m c2] 39)) 39 #[.slice none 0 0, .slice none 0 0]
   simpa using this
  obtain ⟨W1,hW1⟩: ∃x,(w.alloc (.cells #[.slice A1 n c1, .slice A2 m c2] 39)).alloc (.cells #[.slice none 0 0, .slice none 0 0] 39)=x:=⟨_,rfl⟩
  rw [hW1] at hb1 hk1 hk2⊢
  obtain ⟨d0,d1⟩:=cells2 hk1
  have HR1:=hq7 (show Rg w (.slice A1 n c1) (.slice A2 m c2) W1.drew from ⟨hb1.drew,hk1,hk2⟩)
  have HRA:=hq7 (show Rg w (.slice A1 n c1) (.slice A2 m c2) (W1.alloc (.cells #[.slice none 0 0, .slice none 0 0] 39)).drew from ⟨(hb1.alloc hb1.size _).drew,hk1.alloc _,hk2.alloc _⟩)
  have HZ1:=hq7 (show Blk (W1.alloc (.cells #[.slice none 0 0, .slice none 0 0] 39)).drew W1.heap.size 39 #[.slice none 0 0, .slice none 0 0] from Blk.new W1 _ _)
  obtain ⟨h0,h1⟩:=cells2 (show Blk (W1.alloc (.cells #[.slice none 0 0, .slice none 0 0] 39)) _ _ _ from HRA.out.k1)
  have HWS:=hq7 (show w.heap.size+2≤W1.heap.size from hk2.lt)
  clear hW1 hb1 hk1 hk2
  go_region_law (first |(refine nZ 93 rfl (by go_simp) (HCN.out _ (by first | exact HR1.out.bel | exact HRA.out.bel | exact HR8.out.bel | exact (HR8.out.alloc _).bel | fail)) ?_;rintro v7 w7 ⟨o7,b7⟩;obtain ⟨A7,c7,rfl⟩:=ak o7;(first |(have HR7:=hq7 (HR1.out.below b7);have HO7:=hq7 (dM o7 HR1.out.bel.size)) |(have HR7:=hq7 (HRA.out.below b7);have HZ7:=hq7 (HZ1.out.below b7 HZ1.out.lt);have HO7:=hq7 (dM o7 HRA.out.bel.size)) |(have HR7:=hq7 (HR8.out.below b7);have HZ7:=hq7 (HZ8.out.below b7 HZ8.out.lt);have HO7:=hq7 (dM o7 HR8.out.bel.size);have HX:=hq7 (own_below HO8.out b7)) |(have HR7:=hq7 (HR8.out.below b7);have HO7:=hq7 (dM o7 HR8.out.bel.size);have HX:=hq7 (own_below HO8.out b7)) |(have HR7:=hq7 ((HR8.out.alloc (.cells #[.slice none 0 0, .slice none 0 0] 39)).below b7);have HZ7:=hq7 (Blk.below (Blk.new w8 39 #[.slice none 0 0, .slice none 0 0]) b7 (by simp));have HO7:=hq7 (dM o7 (HR8.out.alloc (.cells #[.slice none 0 0, .slice none 0 0] 39)).bel.size);have HX:=hq7 (own_below (World.ownsRow.alloc HO8.out _) b7)) | fail);obtain ⟨d0,d1⟩:=cells2 HR7.out.k1;obtain ⟨h0,h1⟩:=cells2 (HR7.out.alloc (.cells #[.slice none 0 0, .slice none 0 0] 39)).k1;try (obtain ⟨e0,e1⟩:=cells2 HZ7.out;have f0:=HZ7.out.frozen 0;have f1:=HZ7.out.frozen 1);clear o7 b7) |(refine nZ 94 rfl (by go_simp) (HCR.out _ (by first | exact HR1.out.bel | exact HRA.out.bel | exact HR7.out.bel | exact (HR7.out.alloc _).bel | fail)) ?_;rintro v8 w8 ⟨o8,b8⟩;obtain ⟨A8,c8,rfl⟩:=ak o8;(first |(have HR8:=hq7 (HR1.out.below b8);have HO8:=hq7 (dM o8 HR1.out.bel.size)) |(have HR8:=hq7 (HRA.out.below b8);have HZ8:=hq7 (HZ1.out.below b8 HZ1.out.lt);have HO8:=hq7 (dM o8 HRA.out.bel.size)) |(have HR8:=hq7 (HR7.out.below b8);have HZ8:=hq7 (HZ7.out.below b8 HZ7.out.lt);have HO8:=hq7 (dM o8 HR7.out.bel.size);have HX:=hq7 (own_below HO7.out b8)) |(have HR8:=hq7 (HR7.out.below b8);have HO8:=hq7 (dM o8 HR7.out.bel.size);have HX:=hq7 (own_below HO7.out b8)) |(have HR8:=hq7 ((HR7.out.alloc (.cells #[.slice none 0 0, .slice none 0 0] 39)).below b8);have HZ8:=hq7 (Blk.below (Blk.new w7 39 #[.slice none 0 0, .slice none 0 0]) b8 (by simp));have HO8:=hq7 (dM o8 (HR7.out.alloc (.cells #[.slice none 0 0, .slice none 0 0] 39)).bel.size);have HX:=hq7 (own_below (World.ownsRow.alloc HO7.out _) b8)) | fail);obtain ⟨d0,d1⟩:=cells2 HR8.out.k1;obtain ⟨h0,h1⟩:=cells2 (HR8.out.alloc (.cells #[.slice none 0 0, .slice none 0 0] 39)).k1;try (obtain ⟨e0,e1⟩:=cells2 HZ8.out;have f0:=HZ8.out.frozen 0;have f1:=HZ8.out.frozen 1);clear o8 b8) | fail)
  all_goals
   refine hK _ _ (Met.intro (hJ _ _ ?_))
   repeat apply Exists.intro
   first
    | exact ⟨⟨_,c7,c8,A7,A8,rfl,dU.start' HN1.out.1 HN1.out.2 HRL.out.1 HRL.out.2 HR8.out HX.out HO8.out⟩,rfl⟩
    | exact ⟨⟨_,c7,c8,A7,A8,rfl,dU.start' HN1.out.1 HN1.out.2 HRL.out.1 HRL.out.2 HR7.out HO7.out HX.out⟩,rfl⟩
    | exact ⟨⟨_,c7,c8,A7,A8,rfl,dU.start HN1.out.1 HN1.out.2 HRL.out.1 HRL.out.2 HR8.out HX.out HO8.out HZ8.out (by first | exact HWS.out | exact HR7.out.k2.lt)⟩,rfl⟩
    | exact ⟨⟨_,c7,c8,A7,A8,rfl,dU.start HN1.out.1 HN1.out.2 HRL.out.1 HRL.out.2 HR7.out HO7.out HX.out HZ7.out (by first | exact HWS.out | exact HR8.out.k2.lt)⟩,rfl⟩
 case rest=>
  obtain ⟨ob,cn,cr,An,Ar,rfl,hs⟩:=hcut
  have HS:=hq7 hs
  obtain ⟨a0,a1⟩:=cells2 hs.out
  clear hs HN1 HRL HCN HCR
  go_wp2_with fail
  go_loopg [17] n (fun kx s17 wr=> ∃i:Nat,s17= .int .i64 i∧i+kx=n∧dU w B g ob n m cn cr i 0 An Ar wr)
  case atStart=>exact ⟨0,rfl,by omega,HS.out⟩
  case round=>
   obtain ⟨i,rfl,hk,hs⟩:=hrel
   have HR:=hq7 hs
   obtain ⟨a0,a1⟩:=cells2 hs.out
   clear HS hs
   cases gk with
   | zero=>
    obtain rfl:i=n:=by omega
    clear hk hnl
    go_wp2_with fail
    go_loopg [49] m (fun kx s49 wx=> ∃j:Nat,s49= .int .i64 j∧j+kx=m∧dU w B g ob i m cn cr i j An Ar wx)
    case atStart=>exact ⟨0,rfl,by omega,HR.out⟩
    case round=>
     obtain ⟨j,rfl,hk,hs⟩:=hrel
     have HQ:=hq7 hs
     obtain ⟨a0,a1⟩:=cells2 hs.out
     clear HR hs
     cases gk with
     | zero=>
      obtain rfl:j=m:=by omega
      obtain ⟨ln,lr,n1,n2,n3,r1,r2,r3⟩:=HQ.out.done HN.out HM.out
      have hw1:=HQ.out.bel.size
      have HSN:=hq7 (NP n1 n2 n3 (by rw [List.map_map];exact HD.out.ni) (by rw [List.length_map];exact HN.out) (hNL i HN.out))
      have HRS:=hq7 (And.intro n3 (And.intro n2 (And.intro r1 (And.intro r2 r3))))
      clear n1 n2 n3 r1 r2 r3
      go_wp2_with fail
      refine HSN.out.mono ?_
      rintro e w2 ⟨rfl,g2,l',p1,p2,p3⟩
      obtain ⟨n3,n2,r1,r2,r3⟩:=HRS.out
      have k2:Kt 59 w.heap.size wr w2:=Kt.row (r:= .slice An i cn) n3 g2 hw1
      obtain ⟨a0,a1⟩:=cells2 (k2.blk HQ.out.out (by decide))
      have r4:=fC r3 k2 (by decide)
      have HSR:=hq7 (NR r1 (fun x hx=>(r2 x hx).kp (k2.kp (.inl rfl))) r4 (by rw [List.map_map];exact HD.out.ri) (by rw [List.length_map];exact HM.out) hml)
      have HN2:=hq7 (And.intro p2 (And.intro (fun x hx=>(n2 x (p1.mem_iff.1 hx)).kp (k2.kp (.inl rfl))) p3))
      have HR4:=hq7 (And.intro r4 (And.intro k2 (fun x hx=>(r2 x hx).kp (k2.kp (.inl rfl)))))
      clear n3 n2 r1 r2 r3 p1 p2 p3 g2 k2 r4 HRS HSN
      go_wp2_with fail
      refine HSR.out.mono ?_
      rintro e w3 ⟨rfl,g3,l3,p1,p2,p3⟩
      obtain ⟨r4,k2,r2⟩:=HR4.out
      have k3:Kt 63 w.heap.size w2 w3:=Kt.row (r:= .slice Ar j cr) r4 g3 (Nat.le_trans hw1 k2.bel.size)
      obtain ⟨m1,m2,m3⟩:=HN2.out
      have hres:=k3.blk (k2.blk HQ.out.res (by decide)) (by decide)
      obtain ⟨a0,a1⟩:=cells2 (k3.blk (k2.blk HQ.out.out (by decide)) (by decide))
      obtain ⟨b0,b1⟩:=cells2 hres
      have f0:=hres.frozen 0
      have f1:=hres.frozen 1
      have hgo:dA w3 w.heap.size (.agg #[.slice An i cn, .slice Ar j cr]) (Gr.canon g):=by
       have e1:(Gr.canon g).nodes.length=i:=(List.mergeSort_perm _ _).length_eq.trans (by rw [List.length_map];exact HN.out)
       have e2:(Gr.canon g).ah.length=j:=(List.mergeSort_perm _ _).length_eq.trans (by rw [List.length_map];exact HM.out)
       exact ⟨_,_,l',l3,rfl,m1,fun x hx=>(m2 x hx).kt k3 (by decide) (by decide) (by decide),by rw [e1];exact fC m3 k3 (by decide),p2,fun x hx=>(r2 x (p1.mem_iff.1 hx)).kt k3 (by decide) (by decide) (by decide),by rw [e2];exact p3⟩
      have k4:=Kt.cell (base:=w.heap.size) hres (by omega) 0 (.slice An i cn)
      have hr4:=hres.ay 0 (.slice An i cn)
      have k5:=Kt.cell (base:=w.heap.size) hr4 (by omega) 1 (.slice Ar j cr)
      have k6:=k4.trans k5
      have HF:=hq7 (And.intro (hgo.kt k6 (by decide) (by decide) (by decide) (by decide) (by decide)) (And.intro (Blk.cast (hr4.ay 1 (.slice Ar j cr)) (by simp):Blk _ _ _ #[.slice An i cn, .slice Ar j cr]) ((HQ.out.bel.trans (k2.bel.trans k3.bel)).trans k6.bel)))
      clear r4 k2 r2 k3 m1 m2 m3 hres hgo k4 hr4 k5 k6 p1 p2 p3 g3 HR4 HN2 HSR
      go_wp2_with fail
      refine D9 rfl (by simp) HF.out.2.1 ⟨_,rfl,HF.out.1,HF.out.2.2⟩
     | succ kq=>
      have hin:j<m:=by omega
      have hinI:(j:Int)<(m:Int):=by omega
      obtain ⟨p,gr,Ap,cp,hpm,rfl,ra2,c4,f4,hst⟩:=HQ.out.drew.rel HM.out hin
      have pok:=HOK.out.rs p hpm
      have hbd:Below w.heap.size w wr.drew:=HQ.out.bel.drew
      have HCP:=hq7 (D8 B Ap cp p.props wr.drew (ra2.below (hbd.mono hB) (aB.below (hbd.mono hB))) (Nat.le_trans hB hbd.size) pok.pl pok.ps (HD.out.rp p hpm))
      have HST:=hq7 hst
      have c4:wr.cell? _=_:=c4
      have pj:(0:Int)≤(j:Int):=by omega
      have tj:((j:Int)).toNat=j:=by omega
      clear pok hpm ra2 hst hbd
      go_wp2_with fail
      go_region_law (first |(refine nZ 97 rfl (by go_simp) HCP.out ?_;rintro v7 w7 ⟨o7,b7⟩;obtain ⟨d4,g4,d0,d1,hs7⟩:=HST.out w7 v7 o7 b7;obtain ⟨A7,c7,rfl⟩:=o7.form;have HS7:=hq7 hs7;clear o7 b7 hs7) | fail)
      all_goals
       go_wp2_with fail
       go_roundg kq
       case measure=>omega
       case rel=>exact ⟨j+1,by simp,by omega,HS7.out⟩
   | succ kq=>
    have hin:i<n:=by omega
    have hinI:(i:Int)<(n:Int):=by omega
    obtain ⟨l1,l2,h1,h2,h3,h4,h5⟩:=HR.out.nx
    have hbel:=HR.out.bel
    obtain ⟨⟨p,cs⟩,l3,rfl⟩: ∃x l3,l2=x :: l3:=by
     cases l2 with
     | nil=>
      have:=congrArg List.length h2
      rw [List.map_nil,List.append_nil,List.length_map,List.length_map,h1,HN.out] at this
      omega
     | cons x r=>exact ⟨x,r,rfl⟩
    obtain ⟨hpm,Al,cl,Ap,cp,rfl,ra1,ra2⟩:=(show p∈g.nodes∧bU w B p cs from h4 (p,cs) (List.mem_cons_self ..))
    have pok:=HOK.out.ns p hpm
    have hpl: ∀y∈l1,y.2.length=3:=fun y hy=>(h3 y hy).len
    obtain ⟨ll,hll⟩: ∃x,p.labels.length=x:=⟨_,rfl⟩
    obtain ⟨pl,hpl2⟩: ∃x,p.props.length=x:=⟨_,rfl⟩
    have hll2:ll≤1073741824:=hll▸pok.ll
    have hw1:w.heap.size≤wr.heap.size:=hbel.size
    have hcp:=fun (V:World) (hb:Below w.heap.size w V)=>D8 B Ap cp p.props V (ra2.below (hb.mono hB) (aB.below (hb.mono hB))) (Nat.le_trans hB hb.size) pok.pl pok.ps (HD.out.np p hpm)
    rw [hll] at ra1 h5
    rw [hpl2] at h5 hcp
    obtain ⟨gn,rfl,hg,c4,f4,-⟩:=iY (j:=1) h5 hpl h1 rfl hin (by decide)
    simp only [List.getElem?_cons_succ,List.getElem?_cons_zero] at c4
    have HC1:=hq7 (DX B Al cl ll _ wr (ra1.below (hbel.mono hB)) (fun u hu=>by obtain ⟨y,-,rfl⟩:=List.mem_map.1 hu;rfl) hll2 (Nat.le_trans hB hw1))
    have HH:=hq7 (And.intro h1 (And.intro h2 (And.intro h3 (And.intro h4 (And.intro hpl (And.intro hll hpl2))))))
    have H5:=hq7 h5
    have HCP:=hq7 hcp
    have HB:=hq7 hbel
    clear h1 h2 h3 h4 h5 hpl hll hpl2 ra1 ra2 hg hbel pok hcp hpm
    go_wp2_with fail
    refine HC1.out.mono ?_
    rintro e w2 ⟨v2,rfl,o2,b2⟩
    obtain ⟨A2,c2,rfl⟩:=ak o2
    have hh:=HH.out
    have r2:=own_below H5.out b2
    obtain ⟨g',e',-,c4',f4',st4⟩:=iY (j:=1) r2 hh.2.2.2.2.1 hh.1 rfl hin (by decide)
    cases e'
    simp only [List.getElem?_cons_succ,List.getElem?_cons_zero] at c4'
    have row3:=st4 (.slice A2 ll c2)
    simp only [List.set_cons_succ,List.set_cons_zero] at row3
    obtain ⟨W3,hW3⟩: ∃x,w2.setCell ⟨gn,i*3+1,none⟩ (.slice A2 ll c2)=x:=⟨_,rfl⟩
    have hgs:w2.grownBy W3 (some gn):=hW3▸grownBy_set w2 ⟨gn,i*3+1,none⟩ _
    rw [hW3] at row3
    have k3:Kt 59 w.heap.size wr W3:=(Kt.of_below b2 hw1).trans (Kt.row (r:= .slice (some ⟨gn,0,none⟩) n cn) r2 hgs (Nat.le_trans hw1 b2.size))
    have o3:=aP o2 hgs (fun g c t fz e hc=>by
     cases e
     obtain ⟨_,c',hc'⟩:=dZ r2 gn rfl
     rw [hc'] at hc
     cases hc
     decide)
    obtain ⟨g',e',-,c5,f5,-⟩:=iY (j:=1) row3 hh.2.2.2.2.1 hh.1 rfl hin (by decide)
    cases e'
    simp only [List.getElem?_cons_succ,List.getElem?_cons_zero] at c5
    have HS3:=hq7 (NK o3 hh.2.2.2.2.2.1 hll2)
    have HX:=hq7 (And.intro row3 (And.intro o3 k3))
    have HH4:=hq7 hh
    clear o2 b2 r2 st4 hgs row3 o3 k3 hh HH H5 HC1
    go_wp2_with fail
    refine HS3.out.mono ?_
    rintro e w4 ⟨rfl,o4,g4⟩
    clear hW3
    obtain ⟨row3,o3,k3⟩:=HX.out
    have hh:=HH4.out
    have k4:=k3.news o3 g4 hw1
    have row4:=jZ row3 g4 (dM o3 hw1) (by decide)
    obtain ⟨g',e',-,c6,f6,-⟩:=iY (j:=2) row4 hh.2.2.2.2.1 hh.1 rfl hin (by decide)
    cases e'
    simp only [List.getElem?_cons_succ,List.getElem?_cons_zero] at c6
    have HC2:=hq7 (HCP.out w4 (HB.out.trans k4.bel))
    have HX4:=hq7 (And.intro row4 (And.intro o4 k4))
    clear row3 o3 k3 k4 row4 o4 g4 hh HX HS3 HCP
    go_wp2_with fail
    refine HC2.out.mono ?_
    rintro e w5 ⟨v5,rfl,o5,b5⟩
    have hpl5:(Gr.iG p.props).length=pl:=(List.mergeSort_perm _ _).length_eq.trans HH4.out.2.2.2.2.2.2
    obtain ⟨A5,c7,e5⟩:=o5.form
    rw [hpl5] at e5
    subst e5
    obtain ⟨row4,o4,k4⟩:=HX4.out
    have hh:=HH4.out
    have r5:=own_below row4 b5
    obtain ⟨g',e',-,c8,f8,st6⟩:=iY (j:=2) r5 hh.2.2.2.2.1 hh.1 rfl hin (by decide)
    cases e'
    simp only [List.getElem?_cons_succ,List.getElem?_cons_zero] at c8
    have row6:=st6 (.slice A5 pl c7)
    simp only [List.set_cons_succ,List.set_cons_zero] at row6
    obtain ⟨W6,hW6⟩: ∃x,w5.setCell ⟨gn,i*3+2,none⟩ (.slice A5 pl c7)=x:=⟨_,rfl⟩
    have hgs:w5.grownBy W6 (some gn):=hW6▸grownBy_set w5 ⟨gn,i*3+2,none⟩ _
    rw [hW6] at row6
    have hs4:w.heap.size≤w4.heap.size:=Nat.le_trans hw1 k4.bel.size
    have k5:Kt 59 w.heap.size w4 W6:=(Kt.of_below b5 hs4).trans (Kt.row (r:= .slice (some ⟨gn,0,none⟩) n cn) r5 hgs (Nat.le_trans hs4 b5.size))
    have k6:=k4.trans k5
    have hlab:(Gr.jk p.labels).length=ll:=(List.mergeSort_perm _ _).length_eq.trans hh.2.2.2.2.2.1
    have hs:=hq7 (show dU w B g ob n m cn cr (i+1) 0 (some ⟨gn,0,none⟩) Ar W6 from by
     obtain ⟨q1,q2,q3,q4,q5,q6⟩:=HR.out.rx
     refine ⟨⟨l1 ++ [(Gr.gQ p, [.int .i64 p.id, .slice A2 ll c2, .slice A5 pl c7])],l3,by simp [hh.1],by rw [←hh.2.1];simp,fun x hx=> ?_,fun x hx=>hh.2.2.2.1 x (List.mem_cons_of_mem _ hx),by simpa using row6⟩,⟨q1,q2,q3,q4,fun x hx=>(q5 x hx).kp (k6.kp (.inl rfl)),q6.1,fC q6.2 k6 (by decide)⟩,k6.blk HR.out.out (by decide),k6.blk HR.out.res (by decide),HR.out.ne,HB.out.trans k6.bel⟩
     rcases List.mem_append.1 hx with hx | hx
     ·exact (hh.2.2.1 x hx).kp (k6.kp (.inl rfl))
     ·rw [List.mem_singleton.1 hx]
      refine ⟨_,_,rfl, ?_, ?_⟩
      ·show W6.ownsRow w.heap.size 9 1 (.slice A2 ll c2) (Gr.jk p.labels).length ((Gr.jk p.labels).map ST)
       rw [hlab]
       exact fC (dM o4 hw1) k5 (by decide)
      ·exact (o5.base hs4).kp (Kt.kp (T:=59) (Kt.row (r:= .slice (some ⟨gn,0,none⟩) n cn) r5 hgs (Nat.le_trans hs4 b5.size)) (.inl rfl)) (by decide) (by decide) (by decide))
    clear row4 o4 k4 hh r5 st6 hgs row6 k5 k6 o5 b5 HX4 HH4 HC2 hlab hpl5 HR HB
    go_wp2_with fail
    go_roundg kq
    case measure=>omega
    case rel=>exact ⟨i+1,by simp,by omega,hs.out⟩
end Go.Proofs.YtoofbflplhbpbaaGreatDoor
