/- Contracts and plain laws,part 16. -/
import Derived.Test.YtoofbflplhbpbaaGreatDoorBK15
set_option linter.all false
namespace Go.Proofs.YtoofbflplhbpbaaGreatDoor.Cy
open Go
theorem qo {α κ:Type} {key:α→κ} {R:κ→κ→Prop} (tr: ∀{a b c},R a b→R b c→R a c) {l:List α} (h: ∀(j:Nat) a,l[j]?=some a→ ∀q,Gr.aj key l j=some q→R q (key a)):l.Pairwise (fun a b=>R (key a) (key b)):=by
 have hs: ∀(d i:Nat) (hi:i<l.length) (hj:i+d+1<l.length),R (key l[i]) (key l[i+d+1]):=by
  intro d
  induction d with
  | zero=>intro i hi hj;exact h (i+1) _ (List.getElem?_eq_getElem hj) _ (Gr.ug (List.getElem?_eq_getElem hi))
  | succ d ih=>
   intro i hi hj
   exact tr (ih i hi (by omega)) (h (i+(d+1)+1) _ (List.getElem?_eq_getElem hj) _ (Gr.ug (List.getElem?_eq_getElem (by omega))))
 rw [List.pairwise_iff_getElem]
 intro i j hi hj hij
 have:=hs (j - i - 1) i hi (by omega)
 have e:i+(j - i - 1)+1=j:=by omega
 simp only [e] at this
 exact this
theorem AU {α κ:Type} {key:α→κ} {lt:κ→κ→Prop} {le:κ→κ→Bool} {l l':List α} (hp:l'.Perm l) (h:l.Pairwise (fun a b=>lt (key a) (key b))) (h1: ∀a b,lt a b→le a b=true) (tr: ∀a b c,le a b=true→le b c=true→le a c=true) (tot: ∀a b,(le a b || le b a)=true)
  (no: ∀a b,lt a b→le b a=false):Gr.eU le key l'=l:=by
 unfold Gr.eU
 refine List.Perm.eq_of_pairwise (le:=fun a b=>le (key a) (key b)=true) ?_ (List.pairwise_mergeSort (le:=fun a b=>le (key a) (key b)) (fun a b c=>tr (key a) (key b) (key c)) (fun a b=>tot (key a) (key b)) _) (h.imp (fun hx=>h1 _ _ hx)) ((List.mergeSort_perm _ _).trans hp)
 intro a b ha hb hab hba
 have ha:=hp.mem_iff.1 ((List.mergeSort_perm _ _).mem_iff.1 ha)
 obtain ⟨i,hi,rfl⟩:=List.getElem_of_mem ha
 obtain ⟨j,hj,rfl⟩:=List.getElem_of_mem hb
 rw [List.pairwise_iff_getElem] at h
 rcases Nat.lt_trichotomy i j with hlt | rfl | hgt
 ·rw [no _ _ (h i j hi hj hlt)] at hba;cases hba
 ·rfl
 ·rw [no _ _ (h j i hj hi hgt)] at hab;cases hab
theorem AV {α:Type} {key:α→Int} {l l':List α} (hp:l'.Perm l) (h:l.Pairwise (fun a b=>key a<key b)):Gr.eU (fun a b:Int=>decide (a≤b)) key l'=l:=
 AU (lt:=fun a b=>a<b) hp h (fun a b h=>decide_eq_true (by omega)) (fun a b c h k=>decide_eq_true (by have:=of_decide_eq_true h;have:=of_decide_eq_true k;omega))
  (fun a b=>by simp only [Bool.or_eq_true,decide_eq_true_eq];omega) (fun a b h=>decide_eq_false (by omega))
theorem AX {α:Type} {key:α→L} {l l':List α} (hp:l'.Perm l) (h:l.Pairwise (fun a b=>key a<key b)):Gr.eU (fun a b:L=>decide (a≤b)) key l'=l:=
 AU (lt:=fun a b=>a<b) hp h (fun a b h=>decide_eq_true (List.le_of_lt h)) (fun a b c h k=>decide_eq_true (List.le_trans (of_decide_eq_true h) (of_decide_eq_true k)))
  (fun a b=>by simp only [Bool.or_eq_true,decide_eq_true_eq];exact List.le_total a b) (fun a b h=>decide_eq_false (List.not_le.2 h))
theorem qp {α κ:Type} {key:α→κ} {lt:κ→κ→Prop} (ir: ∀a,¬lt a a) {l:List α} (h:l.Pairwise (fun a b=>lt (key a) (key b))):(l.map key).Nodup:=by
 unfold List.Nodup
 rw [List.pairwise_map]
 exact h.imp fun {a b} hx (e:key a=key b)=>ir (key b) (by rw [e] at hx;exact hx)
theorem AY {ps:List Gr.P} (h:Gr.iH ps):ps.Pairwise (fun a b=>a.key<b.key):=qo (key:=Gr.P.key) (R:=fun a b=>a<b) List.lt_trans fun j a ha q hq=>List.not_le.1 ((h.all j a ha).lt q hq)
theorem AZ {ls:List L} (h:Gr.nM ls):ls.Pairwise (fun a b=>a<b):=qo (key:=id) (R:=fun a b=>a<b) List.lt_trans fun j a ha q hq=>List.not_le.1 ((h.all j a ha).lt q hq)
theorem Ba {ns:List Gr.N} (h:Gr.iI ns):ns.Pairwise (fun a b=>a.id<b.id):=qo (key:=Gr.N.id) (R:=fun a b=>a<b) Int.lt_trans fun j a ha q hq=>(h.all j a ha).lt q hq
theorem Bc {ids:List Int} {rs:List Gr.R} (h:Gr.jm ids rs):rs.Pairwise (fun a b=>a.id<b.id):=qo (key:=Gr.R.id) (R:=fun a b=>a<b) Int.lt_trans fun j a ha q hq=>(h.all j a ha).lt q hq
theorem Bf {ps:List Gr.P} (h:Gr.iH ps):(ps.map Gr.P.key).Nodup:=qp (lt:=fun a b=>a<b) (fun a=>List.lt_irrefl a) (AY h)
theorem JX {ls:List L} (h:Gr.nM ls):ls.Nodup:=by have:=qp (key:=id) (lt:=fun a b=>a<b) (fun a=>List.lt_irrefl a) (AZ h);rwa [List.map_id] at this
structure Fine (g:Gr.G):Prop where
 good:Gr.Good g
 nums: ∀p∈Gr.bf g,Cel.In64 p.val.num∧ ∀n∈p.val.nums,Cel.In64 n
theorem JY {ls:List L} (h:Gr.nM ls): ∀l∈ls,Gr.aI l=true:=fun l hl=>by
 obtain ⟨j,hj,e⟩:=List.getElem_of_mem hl
 exact (h.all j l (by rw [List.getElem?_eq_getElem hj,e])).name
theorem Bg {g:Gr.G} (h:Fine g) {ps:List Gr.P} (hg:Gr.iH ps) (hs: ∀p∈ps,p∈Gr.bf g): ∀p∈ps,kD p:=fun p hp=>
 ⟨hg.name p hp,hg.val p hp,(h.nums p (hs p hp)).1,(h.nums p (hs p hp)).2⟩
structure qw (n:Gr.N):Prop where
 good:nP n
 labels:n.labels.Nodup
 keys:(n.props.map Gr.P.key).Nodup
 canon:Gr.gQ n=n
structure qx (n:Gr.R):Prop where
 good:nR n
 keys:(n.props.map Gr.P.key).Nodup
 canon:Gr.iU n=n
theorem Bh {ps:List Gr.P} (h:Gr.iH ps):Gr.iG ps=ps:=AX (List.Perm.refl _) (AY h)
theorem Fine.node {g:Gr.G} (h:Fine g) {n:Gr.N} (hn:n∈g.nodes):qw n:=by
 obtain ⟨_,hg⟩:=h.good.nodes.mem hn
 refine ⟨⟨hg.lo,hg.hi,JY hg.labels,Bg h hg.props fun p hp=>List.mem_append_left _ (List.mem_flatMap.2 ⟨n,hn,hp⟩)⟩,JX hg.labels,Bf hg.props, ?_⟩
 unfold Gr.gQ Gr.jk
 rw [Bh hg.props,AX (key:=id) (List.Perm.refl _) (AZ hg.labels)]
theorem Bj {g:Gr.G} (h:Fine g) {x:Int} (hx:x∈g.nodes.map Gr.N.id):0≤x∧x<1024:=by
 obtain ⟨n,hn,rfl⟩:=List.mem_map.1 hx
 exact ⟨(h.node hn).good.lo,(h.node hn).good.hi⟩
theorem Fine.rel {g:Gr.G} (h:Fine g) {n:Gr.R} (hn:n∈g.ah):qx n:=by
 obtain ⟨_,hg⟩:=h.good.ah.mem hn
 have hs:=Bj h hg.src
 have hd:=Bj h hg.dst
 refine ⟨⟨hg.lo,hg.hi,hs.1,hs.2,hd.1,hd.2,hg.name,Bg h hg.props fun p hp=>List.mem_append_right _ (List.mem_flatMap.2 ⟨n,hn,hp⟩)⟩,Bf hg.props, ?_⟩
 unfold Gr.iU
 rw [Bh hg.props]
theorem uG {c:UInt8} {n m:Int} (h0:0≤n) (h1:n<m) (hm:m≤2048):idP c m (c :: Lib.itoa n)=some n:=by
 have hp:=Num.xC n (by omega) (by omega)
 unfold idP
 simp only
 rw [hp,if_pos (by simp only [and_self,true_and];exact ⟨h0,h1⟩)]
theorem Bl: ∀(ls seen:List L),(∀l∈ls,Gr.aI l=true)→(seen ++ ls).Nodup→jH seen ls=0
 | [],_,_,_=>rfl
 | l :: ls,seen,hn,hd=>by
  rw [jH,if_neg (by rw [hn l (by simp)];decide),if_neg,Bl ls _ (fun x hx=>hn x (List.mem_cons_of_mem _ hx)) (by rw [List.append_assoc];exact hd)]
  rw [List.nodup_append] at hd
  intro hx
  exact hd.2.2 l hx l (by simp) rfl
theorem uH: ∀(ps:List Gr.P) (seen:List L),(∀p∈ps,kD p)→(seen ++ ps.map Gr.P.key).Nodup→aQ seen ps=0
 | [],_,_,_=>rfl
 | p :: ps,seen,hn,hd=>by
  have hp:=hn p (by simp)
  rw [aQ,if_neg (by rw [hp.name];decide),if_neg,if_neg (by rw [hp.val.ck];decide),uH ps _ (fun x hx=>hn x (List.mem_cons_of_mem _ hx)) (by rw [List.append_assoc];exact hd)]
  rw [List.nodup_append] at hd
  intro hx
  exact hd.2.2 p.key hx p.key (by simp) rfl
theorem JZ {g:Gr.G} {n:Gr.N} (h:qw n) (hid:n.id∉g.nodes.map Gr.N.id):add g (jJ n)=(⟨g.nodes ++ [n],g.ah⟩,0):=by
 unfold add jJ
 rw [if_neg (by simp)]
 unfold addNode
 simp only
 rw [uG h.good.lo h.good.hi (by decide)]
 simp only
 rw [if_neg hid,Bl _ [] h.good.labels h.labels,if_neg (by decide),uH _ [] h.good.props h.keys]
theorem Bo {g:Gr.G} {n:Int} (h0:0≤n) (h1:n<1024) (hm:n∈g.nodes.map Gr.N.id):endP g (110 :: Lib.itoa n)=(n,0):=by
 unfold endP
 rw [uG h0 h1 (by decide)]
 simp only
 rw [if_pos hm]
theorem J3 {g:Gr.G} {n:Gr.R} (h:qx n) (hid:n.id∉g.ah.map Gr.R.id) (hs:n.src∈g.nodes.map Gr.N.id) (hd:n.dst∈g.nodes.map Gr.N.id):add g (jK n)=(⟨g.nodes,g.ah ++ [n]⟩,0):=by
 unfold add jK
 rw [if_pos rfl]
 unfold lg
 simp only
 rw [Bo h.good.slo h.good.shi hs,Bo h.good.dlo h.good.dhi hd,if_neg (by simp),uG h.good.lo h.good.hi (by decide)]
 have hg: ¬Gr.aI ([n.type].headD [])=false:=by rw [show [n.type].headD []=n.type from rfl,h.good.name];decide
 simp only
 rw [if_neg hid,if_neg hg,uH _ [] h.good.props h.keys]
 simp
theorem Bq: ∀(ns:List Gr.N) (g:Gr.G) (r:List Pat),(∀n∈ns,qw n)→((g.nodes ++ ns).map Gr.N.id).Nodup→make g (ns.map jJ ++ r)=make ⟨g.nodes ++ ns,g.ah⟩ r
 | [],g,r,_,_=>by rw [List.append_nil];rfl
 | n :: ns,g,r,hn,hd=>by
  have hid:n.id∉g.nodes.map Gr.N.id:=fun hx=>by
   rw [List.map_append,List.nodup_append] at hd
   exact hd.2.2 _ hx n.id (by simp) rfl
  rw [List.map_cons,List.cons_append,make,JZ (hn n (by simp)) hid,if_neg (by simp),Bq ns (⟨g.nodes ++ [n],g.ah⟩,0).1 r (fun x hx=>hn x (List.mem_cons_of_mem _ hx)) (by simpa using hd),List.append_assoc]
  rfl
theorem Bv: ∀(rs:List Gr.R) (g:Gr.G) (r:List Pat),(∀n∈rs,qx n)→(∀n∈rs,n.src∈g.nodes.map Gr.N.id∧n.dst∈g.nodes.map Gr.N.id)→((g.ah ++ rs).map Gr.R.id).Nodup→make g (rs.map jK ++ r)=make ⟨g.nodes,g.ah ++ rs⟩ r
 | [],g,r,_,_,_=>by rw [List.append_nil];rfl
 | n :: rs,g,r,hn,he,hd=>by
  have hid:n.id∉g.ah.map Gr.R.id:=fun hx=>by
   rw [List.map_append,List.nodup_append] at hd
   exact hd.2.2 _ hx n.id (by simp) rfl
  rw [List.map_cons,List.cons_append,make,J3 (hn n (by simp)) hid (he n (by simp)).1 (he n (by simp)).2,if_neg (by simp),Bv rs (⟨g.nodes,g.ah ++ [n]⟩,0).1 r (fun x hx=>hn x (List.mem_cons_of_mem _ hx)) (fun x hx=>he x (List.mem_cons_of_mem _ hx)) (by simpa using hd),List.append_assoc]
  rfl
def nS (ns:List Gr.N) (rs:List Gr.R):L:=ns.flatMap bM ++ rs.flatMap dH
theorem J4 (g:Gr.G):print g=nS g.nodes g.ah:=by
 unfold print lines nS
 rw [List.flatten_append,List.flatMap_def,List.flatMap_def]
theorem J5 {s:L} {cs:List C} (h:Rds s cs) (hl:s.length≤16777216):(Lex.read s).1.map core=cs∧(Lex.read s).2=none:=by
 unfold Lex.read
 rw [if_neg (by omega)]
 exact h 0
theorem J6 (n:Gr.N):1≤(kE n).length:=by unfold kE;simp
theorem J7 (n:Gr.R):1≤(kF n).length:=by unfold kF;simp
theorem uI {α:Type} {f:α→List C} (h: ∀a,1≤(f a).length): ∀l:List α,l.length≤(l.flatMap f).length
 | []=>by simp
 | a :: l=>by
  have:=uI h l
  have:=h a
  rw [List.flatMap_cons,List.length_append,List.length_cons]
  omega
theorem J8 {g:Gr.G} (h:Fine g) {ns:List Gr.N} {rs:List Gr.R} (hn:ns.Perm g.nodes) (hr:rs.Perm g.ah) (hl:(nS ns rs).length≤16777216):parse (nS ns rs)=(g,0):=by
 have fn: ∀n∈ns,qw n:=fun n hx=>h.node (hn.mem_iff.1 hx)
 have fr: ∀n∈rs,qx n:=fun n hx=>h.rel (hr.mem_iff.1 hx)
 have hrd:=Rds.nodes ns (fun n hx=>(fn n hx).good) (Rds.ah rs (fun n hx=>(fr n hx).good) Rds.nil)
 rw [List.append_nil] at hrd
 obtain ⟨h1,h2⟩:=J5 hrd hl
 unfold parse
 rw [show Lex.read (nS ns rs)=Lex.read (List.flatMap bM ns ++ List.flatMap dH rs) from rfl,h2]
 have hpt:patterns (Lex.read (List.flatMap bM ns ++ List.flatMap dH rs)).1=some (ns.map jJ ++ rs.map jK):=by
  obtain ⟨tk,htk⟩: ∃tk,(Lex.read (List.flatMap bM ns ++ List.flatMap dH rs)).1=tk:=⟨_,rfl⟩
  rw [htk] at h1⊢
  have hlen:=ql h1
  rw [List.length_append,List.length_append] at hlen
  have:=uI J6 ns
  have:=uI J7 rs
  unfold patterns
  rw [show tk.length+1=tk.length - ns.length - rs.length+1+rs.length+ns.length by omega]
  obtain ⟨r1,e1,e2⟩:=AP ns _ tk [] _ (fun n hx=>(fn n hx).good) h1
  obtain ⟨r2,e3,e4⟩:=AQ rs _ r1 _ _ (fun n hx=>(fr n hx).good) e2
  rw [e1,e3]
  cases r2 with
  | nil=>rw [List.nil_append];simp [script]
  | cons=>cases e4
 rw [hpt]
 have nd:=(hn.map Gr.N.id).nodup_iff.2 (qp (lt:=fun a b:Int=>a<b) (fun a=>Int.lt_irrefl a) (Ba h.good.nodes))
 have rd:=(hr.map Gr.R.id).nodup_iff.2 (qp (lt:=fun a b:Int=>a<b) (fun a=>Int.lt_irrefl a) (Bc h.good.ah))
 have hm:make Gr.G0 (ns.map jJ ++ rs.map jK)=(⟨ns,rs⟩,0):=by
  rw [Bq ns Gr.G0 _ fn (by simpa [Gr.G0] using nd)]
  have:=Bv rs ⟨Gr.G0.nodes ++ ns,Gr.G0.ah⟩ [] fr (fun n hx=>by
   obtain ⟨_,hg⟩:=h.good.ah.mem (hr.mem_iff.1 hx)
   have e:(Gr.G0.nodes ++ ns).map Gr.N.id=ns.map Gr.N.id:=rfl
   show n.src∈(Gr.G0.nodes ++ ns).map Gr.N.id∧n.dst∈(Gr.G0.nodes ++ ns).map Gr.N.id
   rw [e,(hn.map Gr.N.id).mem_iff,(hn.map Gr.N.id).mem_iff]
   exact ⟨hg.src,hg.dst⟩) (by simpa [Gr.G0] using rd)
  rw [List.append_nil] at this
  rw [this]
  rfl
 have hc:Gr.canon ⟨ns,rs⟩=g:=by
  unfold Gr.canon
  have e1:ns.map Gr.gQ=ns:=by rw [List.map_congr_left (g:=id) fun n hx=>(fn n hx).canon,List.map_id]
  have e2:rs.map Gr.iU=rs:=by rw [List.map_congr_left (g:=id) fun n hx=>(fr n hx).canon,List.map_id]
  simp only
  rw [e1,e2,AV hn (Ba h.good.nodes),AV hr (Bc h.good.ah)]
 simp only
 rw [hm]
 simp only [ne_eq,not_true_eq_false,if_false]
 rw [hc,Gr.qj.2 h.good,if_neg (by decide)]
theorem J9 {g:Gr.G} (h:Fine g) (hl:(print g).length≤16777216):parse (print g)=(g,0):=by
 rw [J4] at hl⊢
 exact J8 h (List.Perm.refl _) (List.Perm.refl _) hl
structure dW (t:Lex.Tok):Prop where
 num:Cel.In64 t.num
 len:t.text.length≤16777216
 kind:t.kind≤5
 word:t.kind=1→t.text≠ []
theorem Bz (l:L):Cel.In64 (Num.aW l).1:=by
 by_cases h:Num.isInt l=true
 ·obtain ⟨neg,r,rfl,hg⟩:=(Num.lK l).1 h
  rw [Num.oN hg]
  split
  ·exact ⟨by simp,by simp⟩
  ·rename_i ho
   unfold Num.over at ho
   unfold Num.fU
   cases neg
   ·simp at ho⊢
    constructor<;> omega
   ·simp at ho⊢
    constructor<;> omega
 ·have h':Num.isInt l=false:=by cases e:Num.isInt l with
   | false=>rfl
   | true=>exact absurd e h
  rw [Num.rC h']
  exact ⟨by simp,by simp⟩
theorem uJ: ∀(k:Nat) (r:L) (o:Nat) (b:L) {kd:Nat} {tx:L} {nm:Int} {n:Nat},Lex.aN k r o b= .tok kd tx nm n→kd=4∧nm=0∧tx.length≤b.length+r.length
 | 0,r,o,b,_,_,_,_,h=>by simp [Lex.aN] at h
 | k+1, [],o,b,_,_,_,_,h=>by simp [Lex.aN] at h
 | k+1,c :: r,o,b,kd,tx,nm,n,h=>by
  simp only [Lex.aN] at h
  split at h
  ·cases h
   exact ⟨rfl,rfl,by omega⟩
  ·split at h
   ·cases h
   ·split at h
    ·split at h
     ·cases h
     ·have ih:=uJ k _ _ _ h
      simp only [List.length_append,List.length_cons,List.length_nil,List.length_drop] at ih⊢
      exact ⟨ih.1,ih.2.1,by omega⟩
    ·have ih:=uJ k _ _ _ h
     simp only [List.length_append,List.length_cons,List.length_nil] at ih⊢
     exact ⟨ih.1,ih.2.1,by omega⟩
theorem lC:Cel.In64 0:=⟨by decide,by decide⟩
theorem Ko {l:L} {kd:Nat} {tx:L} {nm:Int} {n:Nat} (h:Lex.tok1 l= .tok kd tx nm n):Cel.In64 nm∧tx.length≤l.length∧kd≤5∧(kd=1→tx≠ []):=by
 cases l with
 | nil=>simp [Lex.tok1] at h
 | cons c r=>
  simp only [Lex.tok1] at h
  split at h
  ·obtain ⟨rfl,rfl,h3⟩:=uJ _ _ _ _ h
   exact ⟨lC,by simp only [List.length_nil,List.length_cons] at h3⊢;omega,by omega,by omega⟩
  ·split at h
   ·rename_i hc
    cases h
    refine ⟨lC,by rw [List.length_take];omega,by omega,fun _=> ?_⟩
    have hf:=Ae ⟨c.toNat,UInt8.toNat_lt c⟩
    simp only [UInt8.ofNat_toNat] at hf
    rw [Lex.jD r (hf hc).2.2.2,Nat.add_comm,List.take_succ_cons]
    simp
   ·split at h
    ·unfold Lex.eH at h
     split at h
     ·split at h
      ·cases h
       rename_i hp
       exact ⟨Cel.yg (Num.rU hp).2.1,by simp,by omega,by omega⟩
      ·cases h
     ·split at h
      ·cases h
       exact ⟨Bz _,by simp,by omega,by omega⟩
      ·cases h
    ·split at h
     ·cases h
      rename_i hc
      exact ⟨lC,by cases r with
       | nil=>simp at hc
       | cons=>simp,by omega,by omega⟩
     ·split at h
      ·cases h
       exact ⟨lC,by simp,by omega,by omega⟩
      ·cases h
theorem scan_ok: ∀(k:Nat) (l:L) (i:Nat),l.length≤16777216→ ∀t∈(Lex.scan k l i).1,dW t
 | 0,l,i,_,t,h=>by simp [Lex.scan] at h
 | k+1, [],i,_,t,h=>by simp [Lex.scan] at h
 | k+1,c :: r,i,hl,t,h=>by
  cases ht:Lex.tok1 (c :: r) with
  | err o e=>rw [Lex.jU (by simp) ht] at h;cases h
  | tok kd tx nm n=>
   rw [Lex.jE ht rfl] at h
   rcases List.mem_cons.1 h with rfl | h
   ·have:=Ko ht
    exact ⟨this.1,by show tx.length≤_;omega,this.2.2.1,this.2.2.2⟩
   ·exact scan_ok k _ _ (by rw [List.length_drop];omega) t h
theorem BA (s:L): ∀t∈(Lex.read s).1,dW t:=by
 unfold Lex.read
 split
 ·intro t h;cases h
 ·unfold Lex.body
  exact scan_ok _ _ _ (by rw [List.length_drop];omega)
theorem BD: ∀(k:Nat) (l:L) (i:Nat),(Lex.scan k l i).1.length≤l.length
 | 0,l,i=>by simp [Lex.scan]
 | k+1, [],i=>by simp [Lex.scan]
 | k+1,c :: r,i=>by
  cases ht:Lex.tok1 (c :: r) with
  | err o e=>rw [Lex.jU (by simp) ht];simp
  | tok kd tx nm n=>
   obtain ⟨t1,t2⟩:=Lex.mW ht
   have ih:=BD k ((c :: r).drop (n+Lex.gap false ((c :: r).drop n))) (i+n+Lex.gap false ((c :: r).drop n))
   rw [Lex.jE ht rfl,List.length_cons]
   rw [List.length_drop] at ih
   omega
theorem BF (s:L):(Lex.read s).1.length≤16777216:=by
 unfold Lex.read
 split
 ·simp
 ·have:=BD (s.length+1) (s.drop (Lex.gap false s)) (0+Lex.gap false s)
  unfold Lex.body
  rw [List.length_drop] at this
  omega
theorem nT: ∀(k:Nat) (l:L) (i:Nat) {p e:Nat},(Lex.scan k l i).2=some (p,e)→e≠0
 | 0,l,i,p,e,h=>by simp [Lex.scan] at h
 | k+1, [],i,p,e,h=>by simp [Lex.scan] at h
 | k+1,c :: r,i,p,e,h=>by
  cases ht:Lex.tok1 (c :: r) with
  | err o e'=>
   rw [Lex.jU (by simp) ht] at h
   have:=(Lex.sD (by simp) ht).1
   cases h
   exact this
  | tok kd tx nm n=>
   rw [Lex.jE ht rfl] at h
   exact nT k _ _ h
theorem BG {s:L} {p e:Nat} (h:(Lex.read s).2=some (p,e)):e≠0:=by
 unfold Lex.read at h
 split at h
 ·cases h;decide
 ·exact nT _ _ _ h
def Tail (r l:T):Prop:= ∃p,l=p ++ r
theorem Tail.refl (l:T):Tail l l:=⟨[],rfl⟩
theorem Tail.trans {a b c:T} (h:Tail a b) (k:Tail b c):Tail a c:=by
 obtain ⟨p,rfl⟩:=h
 obtain ⟨q,rfl⟩:=k
 exact ⟨q ++ p,by rw [List.append_assoc]⟩
theorem Tail.ok {r l:T} (h:Tail r l) (ok: ∀t∈l,dW t): ∀t∈r,dW t:=by
 obtain ⟨p,rfl⟩:=h
 exact fun t ht=>ok t (List.mem_append_right _ ht)
theorem Tail.len {r l:T} (h:Tail r l):r.length≤l.length:=by
 obtain ⟨p,rfl⟩:=h
 rw [List.length_append];omega
theorem Tail.drop {r l:T} (h:Tail r l):r=l.drop (l.length - r.length):=by
 obtain ⟨p,rfl⟩:=h
 rw [List.length_append,Nat.add_sub_cancel,List.drop_left]
theorem bg {m:L} {l r:T} (h:mark m l=some r):Tail r l∧r.length+1=l.length:=by
 cases l with
 | nil=>simp [mark] at h
 | cons t r'=>
  rw [mark] at h
  split at h
  ·cases h
   exact ⟨⟨[t],rfl⟩,rfl⟩
  ·cases h
theorem jL {w:L} {l r:T} (h:bT l=some (w,r)) (ok: ∀t∈l,dW t):Tail r l∧w.length≤16777216∧r.length+1=l.length∧w≠ []:=by
 cases l with
 | nil=>simp [bT] at h
 | cons t r'=>
  rw [bT] at h
  split at h
  ·rename_i hk
   cases h
   exact ⟨⟨[t],rfl⟩,(ok t (by simp)).len,rfl,(ok t (by simp)).word hk⟩
  ·cases h
theorem uK {k n:Int} {t:L} {l r:T} (h:eX l=some ((k,n,t),r)) (ok: ∀t∈l,dW t):Tail r l∧1≤k∧k≤4∧Cel.In64 n∧t.length≤16777216∧r.length+1=l.length:=by
 cases l with
 | nil=>simp [eX] at h
 | cons u r'=>
  have hu:=ok u (by simp)
  rw [eX] at h
  have hi0:Cel.In64 0:=lC
  have hi1:Cel.In64 1:=⟨by decide,by decide⟩
  repeat' split at h
  all_goals first
   |(cases h;done)
   |(cases h;exact ⟨⟨[u],rfl⟩,by omega,by omega,by first | assumption | exact hu.num,by first | exact hu.len | simp,rfl⟩)
structure VSz (v:Cel.V):Prop where
 kin:1≤v.kind∧v.kind≤8
 num:Cel.In64 v.num
 nums: ∀n∈v.nums,Cel.In64 n
 tl:v.text.length≤16777216
 nl:v.nums.length≤16777216
 sl:v.texts.length≤16777216
 sz: ∀t∈v.texts,t.length≤16777216
theorem BH {k:Int}: ∀(f:Nat) (l:T) (ns:List Int) (ts:List L) {x:List Int×List L} {r:T},elems k f l ns ts=some (x,r)→(∀t∈l,dW t)→(∀n∈ns,Cel.In64 n)→(∀t∈ts,t.length≤16777216)→
  Tail r l∧(∀n∈x.1,Cel.In64 n)∧(∀t∈x.2,t.length≤16777216)∧x.1.length+r.length≤ns.length+l.length∧x.2.length+r.length≤ts.length+l.length
 | 0,l,ns,ts,x,r,h,_,_,_=>by simp [elems] at h
 | f+1,l,ns,ts,x,r,h,ok,hn,ht=>by
  rw [elems] at h
  split at h
  ·cases h
  ·rename_i j n t r1 hs
   obtain ⟨t1,-,-,q3,q4,e1⟩:=uK hs ok
   have hn': ∀m∈(if k=4 then ns else ns ++ [n]),Cel.In64 m:=fun m hm=>by
    split at hm
    ·exact hn m hm
    ·rcases List.mem_append.1 hm with hm | hm
     ·exact hn m hm
     ·rw [List.mem_singleton.1 hm];exact q3
   have ht': ∀m∈(if k=4 then ts ++ [t] else ts),m.length≤16777216:=fun m hm=>by
    split at hm
    ·rcases List.mem_append.1 hm with hm | hm
     ·exact ht m hm
     ·rw [List.mem_singleton.1 hm];exact q4
    ·exact ht m hm
   have hnl:(if k=4 then ns else ns ++ [n]).length≤ns.length+1:=by split<;> simp
   have htl:(if k=4 then ts ++ [t] else ts).length≤ts.length+1:=by split<;> simp
   split at h
   ·cases h
   ·split at h
    ·rename_i r' hm
     obtain ⟨t2,e2⟩:=bg hm
     cases h
     exact ⟨t2.trans t1,hn',ht',by show (if k=4 then ns else ns ++ [n]).length+_≤_;omega,by show (if k=4 then ts ++ [t] else ts).length+_≤_;omega⟩
    ·split at h
     ·cases h
     ·rename_i r' hm
      obtain ⟨t2,e2⟩:=bg hm
      obtain ⟨t3,q5,q6,q7,q8⟩:=BH f _ _ _ h ((t2.trans t1).ok ok) hn' ht'
      exact ⟨t3.trans (t2.trans t1),q5,q6,by omega,by omega⟩
theorem zL {w:L} (h:kindOf w≠0):1≤kindOf w∧kindOf w≤4:=by
 unfold kindOf at h⊢
 repeat' split
 all_goals first | omega |(exfalso;apply h;simp_all)
theorem BI {v:Cel.V} {l r:T} (h:gy l=some (v,r)) (ok: ∀t∈l,dW t) (hl:l.length≤16777216):Tail r l∧VSz v∧r.length<l.length:=by
 unfold gy at h
 split at h
 ·cases hs:eX l with
  | none=>rw [hs] at h;cases h
  | some x=>
   obtain ⟨⟨k,n,t⟩,r1⟩:=x
   rw [hs] at h
   cases h
   obtain ⟨t1,k1,k2,q3,q4,e1⟩:=uK hs ok
   refine ⟨t1,⟨⟨k1,by show k≤8;omega⟩,q3,by simp,q4,by simp,by simp,by simp⟩, ?_⟩
   show r1.length<_
   omega
 ·rename_i r1 h1
  obtain ⟨t1,e1⟩:=bg h1
  split at h
  ·cases h
  ·rename_i r2 h2
   obtain ⟨t2,e2⟩:=bg h2
   split at h
   ·cases h
   ·rename_i w r3 h3
    obtain ⟨t3,-,e3,-⟩:=jL h3 ((t2.trans t1).ok ok)
    have t123:=t3.trans (t2.trans t1)
    split at h
    ·cases h
    ·rename_i hk
     have hkr:=zL hk
     split at h
     ·rename_i r4 h4
      obtain ⟨t4,e4⟩:=bg h4
      cases h
      exact ⟨t4.trans t123,⟨⟨by show 1≤kindOf w+4;omega,by show kindOf w+4≤8;omega⟩,lC,by simp,by simp,by simp,by simp,by simp⟩,by omega⟩
     ·cases hs:elems (kindOf w) (r3.length+1) r3 [] [] with
      | none=>rw [hs] at h;cases h
      | some x=>
       obtain ⟨⟨a,b⟩,r5⟩:=x
       rw [hs] at h
       cases h
       obtain ⟨t5,q1,q2,q3,q4⟩:=BH _ _ _ _ hs (t123.ok ok) (by simp) (by simp)
       simp only [List.length_nil] at q3 q4
       refine ⟨t5.trans t123,⟨⟨by show 1≤kindOf w+4;omega,by show kindOf w+4≤8;omega⟩,lC,q1,by simp, ?_, ?_,q2⟩, ?_⟩
       ·show a.length≤_;omega
       ·show b.length≤_;omega
       ·have:=t5.len
        show r5.length<_
        omega
structure PSz (p:Gr.P):Prop where
 key:p.key.length≤16777216
 val:VSz p.val
theorem BJ: ∀(f:Nat) (l:T) (acc:List Gr.P) {ps:List Gr.P} {r:T},jl f l acc=some (ps,r)→(∀t∈l,dW t)→l.length≤16777216→(∀p∈acc,PSz p)→
  Tail r l∧(∀p∈ps,PSz p)∧ps.length+r.length≤acc.length+l.length
 | 0,l,acc,ps,r,h,_,_,_=>by simp [jl] at h
 | f+1,l,acc,ps,r,h,ok,hl,hp=>by
  rw [jl] at h
  split at h
  ·cases h
  ·rename_i k r1 h1
   obtain ⟨t1,w1,e1,-⟩:=jL h1 ok
   split at h
   ·cases h
   ·rename_i r2 h2
    obtain ⟨t2,e2⟩:=bg h2
    have t12:=t2.trans t1
    split at h
    ·cases h
    ·rename_i v r3 h3
     obtain ⟨t3,v3,e3⟩:=BI h3 (t12.ok ok) (by omega)
     have t123:=t3.trans t12
     have hp': ∀p∈acc ++ [⟨k,v⟩],PSz p:=fun p hm=>by
      rcases List.mem_append.1 hm with hm | hm
      ·exact hp p hm
      ·rw [List.mem_singleton.1 hm];exact ⟨w1,v3⟩
     split at h
     ·rename_i r4 h4
      obtain ⟨t4,e4⟩:=bg h4
      cases h
      exact ⟨t4.trans t123,hp',by rw [List.length_append,List.length_singleton];omega⟩
     ·split at h
      ·cases h
      ·rename_i r4 h4
       obtain ⟨t4,e4⟩:=bg h4
       obtain ⟨t5,q1,q2⟩:=BJ f _ _ h ((t4.trans t123).ok ok) (by omega) hp'
       rw [List.length_append,List.length_singleton] at q2
       exact ⟨t5.trans (t4.trans t123),q1,by omega⟩
theorem BK {ps:List Gr.P} {l r:T} (h:fO l=some (ps,r)) (ok: ∀t∈l,dW t) (hl:l.length≤16777216):Tail r l∧(∀p∈ps,PSz p)∧ps.length≤16777216:=by
 unfold fO at h
 split at h
 ·cases h
  exact ⟨Tail.refl _,by simp,by simp⟩
 ·rename_i r1 h1
  obtain ⟨t1,e1⟩:=bg h1
  split at h
  ·rename_i r2 h2
   obtain ⟨t2,e2⟩:=bg h2
   cases h
   exact ⟨t2.trans t1,by simp,by simp⟩
  ·obtain ⟨t2,q1,q2⟩:=BJ _ _ _ h (t1.ok ok) (by omega) (by simp)
   simp only [List.length_nil] at q2
   exact ⟨t2.trans t1,q1,by omega⟩
theorem BL: ∀(f:Nat) (l:T) (acc:List L) {ls:List L} {r:T},gU f l acc=some (ls,r)→(∀t∈l,dW t)→(∀x∈acc,x.length≤16777216)→
  Tail r l∧(∀x∈ls,x.length≤16777216)∧ls.length+r.length≤acc.length+l.length
 | 0,l,acc,ls,r,h,_,_=>by simp [gU] at h
 | f+1,l,acc,ls,r,h,ok,hp=>by
  rw [gU] at h
  split at h
  ·cases h
   exact ⟨Tail.refl _,hp,by omega⟩
  ·rename_i r1 h1
   obtain ⟨t1,e1⟩:=bg h1
   split at h
   ·cases h
   ·rename_i w r2 h2
    obtain ⟨t2,w2,e2,n2⟩:=jL h2 (t1.ok ok)
    obtain ⟨t3,q1,q2⟩:=BL f _ _ h ((t2.trans t1).ok ok) (fun x hm=>by
     rcases List.mem_append.1 hm with hm | hm
     ·exact hp x hm
     ·rw [List.mem_singleton.1 hm];exact w2)
    rw [List.length_append,List.length_singleton] at q2
    exact ⟨t3.trans (t2.trans t1),q1,by omega⟩
structure gB (p:Pat):Prop where
 first:p.first.length≤16777216
 word:p.word.length≤16777216
 other:p.other.length≤16777216
 nl:p.names.length≤16777216
 ns: ∀x∈p.names,x.length≤16777216
 pl:p.props.length≤16777216
 ps: ∀x∈p.props,PSz x
 one:p.rel=true→ ∃x,p.names= [x]
 rw_:p.rel=true↔p.word≠ []
theorem Kq {p:Pat} {fw:L} {l r:T} (h:nK fw l=some (p,r)) (hf:fw.length≤16777216) (ok: ∀t∈l,dW t) (hl:l.length≤16777216):Tail r l∧gB p∧p.rel=true∧p.first=fw:=by
 unfold nK at h
 split at h
 ·cases h
 ·rename_i l1 h1
  obtain ⟨t1,e1⟩:=bg h1
  split at h
  ·cases h
  ·rename_i w l2 h2
   obtain ⟨t2,w2,e2,n2⟩:=jL h2 (t1.ok ok)
   have t2:=t2.trans t1
   split at h
   ·cases h
   ·rename_i l3 h3
    obtain ⟨t3,e3⟩:=bg h3
    have t3:=t3.trans t2
    split at h
    ·cases h
    ·rename_i ty l4 h4
     obtain ⟨t4,w4,e4,-⟩:=jL h4 (t3.ok ok)
     have t4:=t4.trans t3
     split at h
     ·cases h
     ·rename_i ps l5 h5
      obtain ⟨t5,q1,q2⟩:=BK h5 (t4.ok ok) (by omega)
      have t5:=t5.trans t4
      split at h
      ·cases h
      ·rename_i l6 h6
       obtain ⟨t6,e6⟩:=bg h6
       have t6:=t6.trans t5
       split at h
       ·cases h
       ·rename_i l7 h7
        obtain ⟨t7,e7⟩:=bg h7
        have t7:=t7.trans t6
        split at h
        ·cases h
        ·rename_i l8 h8
         obtain ⟨t8,e8⟩:=bg h8
         have t8:=t8.trans t7
         split at h
         ·cases h
         ·rename_i o l9 h9
          obtain ⟨t9,w9,e9,-⟩:=jL h9 (t8.ok ok)
          have t9:=t9.trans t8
          cases hm:mark [41] l9 with
          | none=>rw [hm] at h;cases h
          | some l10=>
           rw [hm] at h
           cases h
           obtain ⟨t10,e10⟩:=bg hm
           exact ⟨t10.trans t9,⟨hf,w2,w9,by simp,fun x hx=>by rw [List.mem_singleton.1 hx];exact w4,q2,q1,fun _=>⟨ty,rfl⟩,by simp [n2]⟩,rfl,rfl⟩
theorem BM {p:Pat} {l r:T} (h:gV l=some (p,r)) (ok: ∀t∈l,dW t) (hl:l.length≤16777216):Tail r l∧gB p∧r.length<l.length:=by
 unfold gV at h
 split at h
 ·cases h
 ·rename_i l1 h1
  obtain ⟨t1,e1⟩:=bg h1
  split at h
  ·cases h
  ·rename_i w l2 h2
   obtain ⟨t2,w2,e2,n2⟩:=jL h2 (t1.ok ok)
   have t2:=t2.trans t1
   split at h
   ·cases h
   ·rename_i ls l3 h3
    obtain ⟨t3,q1,q2⟩:=BL _ _ _ h3 (t2.ok ok) (by simp)
    have t3':=t3.trans t2
    have:=t3.len
    simp only [List.length_nil] at q2
    split at h
    ·cases h
    ·rename_i ps l4 h4
     obtain ⟨t4,q3,q4⟩:=BK h4 (t3'.ok ok) (by omega)
     have:=t4.len
     have t4:=t4.trans t3'
     split at h
     ·cases h
     ·rename_i l5 h5
      obtain ⟨t5,e5⟩:=bg h5
      have t5:=t5.trans t4
      have hsz:gB ⟨false,w, [], [],ls,ps⟩:=⟨w2,by simp,by simp,by show ls.length≤_;omega,q1,q4,q3,fun e=>absurd e (by simp),by simp⟩
      split at h
      ·cases h
       exact ⟨t5,hsz,by omega⟩
      ·split at h
       ·cases h
        exact ⟨t5,hsz,by omega⟩
       ·rename_i l6 h6
        obtain ⟨t6,e6⟩:=bg h6
        obtain ⟨t7,q5,-⟩:=Kq h w2 ((t6.trans t5).ok ok) (by omega)
        have:=t7.len
        exact ⟨t7.trans (t6.trans t5),q5,by omega⟩
theorem BN: ∀(f:Nat) (l:T) (acc:List Pat) {ps:List Pat} {r:T},pats f l acc=some (ps,r)→(∀t∈l,dW t)→l.length≤16777216→(∀p∈acc,gB p)→
  Tail r l∧(∀p∈ps,gB p)∧ps.length+r.length≤acc.length+l.length∧r.length<l.length
 | 0,l,acc,ps,r,h,_,_,_=>by simp [pats] at h
 | f+1,l,acc,ps,r,h,ok,hl,hp=>by
  rw [pats] at h
  split at h
  ·cases h
  ·rename_i p r1 h1
   obtain ⟨t1,p1,e1⟩:=BM h1 ok hl
   have hp': ∀x∈acc ++ [p],gB x:=fun x hm=>by
    rcases List.mem_append.1 hm with hm | hm
    ·exact hp x hm
    ·rw [List.mem_singleton.1 hm];exact p1
   split at h
   ·rename_i r2 h2
    obtain ⟨t2,e2⟩:=bg h2
    cases h
    exact ⟨t2.trans t1,hp',by rw [List.length_append,List.length_singleton];omega,by omega⟩
   ·split at h
    ·cases h
    ·rename_i r2 h2
     obtain ⟨t2,e2⟩:=bg h2
     obtain ⟨t3,q1,q2,q3⟩:=BN f _ _ h ((t2.trans t1).ok ok) (by omega) hp'
     rw [List.length_append,List.length_singleton] at q2
     exact ⟨t3.trans (t2.trans t1),q1,by omega,by omega⟩
theorem BO: ∀(f:Nat) (l:T) (acc:List Pat) {ps:List Pat},script f l acc=some ps→(∀t∈l,dW t)→l.length≤16777216→(∀p∈acc,gB p)→
  (∀p∈ps,gB p)∧ps.length≤acc.length+l.length
 | 0,l,acc,ps,h,_,_,_=>by simp [script] at h
 | f+1, [],acc,ps,h,_,_,hp=>by
  simp only [script,Option.some.injEq] at h
  subst h
  exact ⟨hp,by omega⟩
 | f+1,t :: l,acc,ps,h,ok,hl,hp=>by
  rw [script] at h
  split at h
  ·split at h
   ·cases h
   ·rename_i acc' r h1
    have ok': ∀t∈l,dW t:=fun x hx=>ok x (List.mem_cons_of_mem _ hx)
    rw [List.length_cons] at hl
    obtain ⟨t1,q1,q2,q3⟩:=BN _ _ _ h1 ok' (by omega) hp
    obtain ⟨q4,q5⟩:=BO f _ _ h (t1.ok ok') (by omega) q1
    exact ⟨q4,by rw [List.length_cons];omega⟩
  ·cases h
theorem BP {l:T} {ps:List Pat} (h:patterns l=some ps) (ok: ∀t∈l,dW t) (hl:l.length≤16777216):(∀p∈ps,gB p)∧ps.length≤l.length:=by
 have:=BO _ _ _ h ok hl (by simp)
 simpa using this
structure NSz (n:Gr.N):Prop where
 lo:0≤n.id
 hi:n.id<1024
 ll:n.labels.length≤16777216
 ls: ∀l∈n.labels,l.length≤16777216
 pl:n.props.length≤16777216
 ps: ∀p∈n.props,PSz p
structure RSz (n:Gr.R):Prop where
 lo:0≤n.id
 hi:n.id<2048
 tl:n.type.length≤16777216
 src:0≤n.src∧n.src<1024
 dst:0≤n.dst∧n.dst<1024
 pl:n.props.length≤16777216
 ps: ∀p∈n.props,PSz p
structure GSz (g:Gr.G):Prop where
 ns: ∀n∈g.nodes,NSz n
 rs: ∀n∈g.ah,RSz n
 nd:(g.nodes.map Gr.N.id).Nodup
 rd:(g.ah.map Gr.R.id).Nodup
theorem uM {c:UInt8} {m n:Int} {w:L} (h:idP c m w=some n):0≤n∧n<m:=by
 cases w with
 | nil=>simp [idP] at h
 | cons d r=>
  simp only [idP] at h
  split at h
  ·rename_i hc
   cases h
   exact hc.2.2
  ·cases h
theorem BQ {g:Gr.G} {w:L}:0≤(endP g w).1∧(endP g w).1<1024:=by
 unfold endP
 split
 ·exact ⟨by simp,by simp⟩
 ·rename_i n h
  have:=uM h
  split
  ·exact this
  ·exact ⟨by simp,by simp⟩
theorem nU {α:Type} {l:List α} {a:α} (h:l.Nodup) (ha:a∉l):(l ++ [a]).Nodup:=by
 rw [List.nodup_append]
 exact ⟨h,by simp,fun x hx y hy e=>ha (by rw [List.mem_singleton.1 hy] at e;rw [←e];exact hx)⟩
theorem BR {g:Gr.G} {p:Pat} (hg:GSz g) (hp:gB p):GSz (add g p).1:=by
 unfold add
 split
 ·rename_i hr
  unfold lg
  split
  ·exact hg
  ·split
   ·exact hg
   ·rename_i n hn
    split
    ·exact hg
    ·rename_i hid
     split
     ·exact hg
     ·split
      ·exact hg
      ·have hi:=uM hn
       refine ⟨hg.ns,fun x hx=> ?_,hg.nd, ?_⟩
       ·rcases List.mem_append.1 hx with hx | hx
        ·exact hg.rs x hx
        ·rw [List.mem_singleton.1 hx]
         obtain ⟨y,hy⟩:=hp.one hr
         refine ⟨hi.1,hi.2, ?_,BQ,BQ,hp.pl,hp.ps⟩
         show (p.names.headD []).length≤_
         have:=hp.ns y (by rw [hy];simp)
         rw [hy]
         exact this
       ·show ((g.ah ++ [_]).map Gr.R.id).Nodup
        rw [List.map_append]
        exact nU hg.rd hid
 ·unfold addNode
  split
  ·exact hg
  ·rename_i n hn
   split
   ·exact hg
   ·rename_i hid
    split
    ·exact hg
    ·have hi:=uM hn
     refine ⟨fun x hx=> ?_,hg.rs, ?_,hg.rd⟩
     ·rcases List.mem_append.1 hx with hx | hx
      ·exact hg.ns x hx
      ·rw [List.mem_singleton.1 hx]
       exact ⟨hi.1,hi.2,hp.nl,hp.ns,hp.pl,hp.ps⟩
     ·show ((g.nodes ++ [_]).map Gr.N.id).Nodup
      rw [List.map_append]
      exact nU hg.nd hid
theorem uN:GSz Gr.G0:=⟨by simp [Gr.G0],by simp [Gr.G0],by simp [Gr.G0],by simp [Gr.G0]⟩
theorem BU: ∀(ps:List Pat) (g:Gr.G),GSz g→(∀p∈ps,gB p)→GSz (make g ps).1
 | [],g,hg,_=>hg
 | p :: ps,g,hg,hp=>by
  rw [make]
  split
  ·exact uN
  ·exact BU ps _ (BR hg (hp p (by simp))) (fun x hx=>hp x (List.mem_cons_of_mem _ hx))
theorem few {l:List Int} {m:Nat} (h: ∀x∈l,0≤x∧x<m) (hd:l.Nodup):l.length≤m:=by
 have h2:(l.map Int.toNat).Nodup:=by
  unfold List.Nodup
  rw [List.pairwise_map]
  refine List.Pairwise.imp_of_mem (fun {a b} ha hb hab e=>hab ?_) hd
  have:=h a ha
  have:=h b hb
  omega
 have hs:=h2.length_le_of_subset (l₂:=List.range m) fun x hx=>by
  obtain ⟨y,hy,rfl⟩:=List.mem_map.1 hx
  have:=h y hy
  exact List.mem_range.2 (by omega)
 rwa [List.length_map,List.length_range] at hs
theorem GSz.lens {g:Gr.G} (h:GSz g):g.nodes.length≤1024∧g.ah.length≤2048:=by
 constructor
 ·have:=few (m:=1024) (fun x hx=>by obtain ⟨n,hn,rfl⟩:=List.mem_map.1 hx;exact ⟨(h.ns n hn).lo,(h.ns n hn).hi⟩) h.nd
  rwa [List.length_map] at this
 ·have:=few (m:=2048) (fun x hx=>by obtain ⟨n,hn,rfl⟩:=List.mem_map.1 hx;exact ⟨(h.rs n hn).lo,(h.rs n hn).hi⟩) h.rd
  rwa [List.length_map] at this
theorem qy {α κ:Type} (le:κ→κ→Bool) (key:α→κ) (l:List α):(Gr.eU le key l).Perm l:=List.mergeSort_perm _ _
theorem BX {g:Gr.G} (h:GSz g):GSz (Gr.canon g):=by
 have pn:=qy (fun a b:Int=>decide (a≤b)) Gr.N.id (g.nodes.map Gr.gQ)
 have pr:=qy (fun a b:Int=>decide (a≤b)) Gr.R.id (g.ah.map Gr.iU)
 have pp:=fun ps:List Gr.P=>qy (fun a b:L=>decide (a≤b)) Gr.P.key ps
 refine ⟨fun n hn=> ?_,fun n hn=> ?_, ?_, ?_⟩
 ·obtain ⟨m,hm,rfl⟩:=List.mem_map.1 (pn.mem_iff.1 hn)
  have hz:=h.ns m hm
  have pl:=qy (fun a b:L=>decide (a≤b)) id m.labels
  exact ⟨hz.lo,hz.hi,Nat.le_trans (Nat.le_of_eq pl.length_eq) hz.ll,fun l hl=>hz.ls l (pl.mem_iff.1 hl),
   Nat.le_trans (Nat.le_of_eq (pp m.props).length_eq) hz.pl,fun p hp=>hz.ps p ((pp m.props).mem_iff.1 hp)⟩
 ·obtain ⟨m,hm,rfl⟩:=List.mem_map.1 (pr.mem_iff.1 hn)
  have hz:=h.rs m hm
  exact ⟨hz.lo,hz.hi,hz.tl,hz.src,hz.dst,Nat.le_trans (Nat.le_of_eq (pp m.props).length_eq) hz.pl,fun p hp=>hz.ps p ((pp m.props).mem_iff.1 hp)⟩
 ·refine (pn.map Gr.N.id).nodup_iff.2 ?_
  rw [List.map_map]
  exact h.nd
 ·refine (pr.map Gr.R.id).nodup_iff.2 ?_
  rw [List.map_map]
  exact h.rd
theorem BZ {s:L} {g:Gr.G} {e:Nat} (h:parse s=(g,e)):GSz g∧(e=0→Fine g)∧(e≠0→g=Gr.G0):=by
 have hg0:GSz Gr.G0:=uN
 unfold parse at h
 split at h
 ·rename_i p e' he
  cases h
  exact ⟨hg0,fun e0=>absurd e0 (BG he),fun _=>rfl⟩
 ·split at h
  ·cases h
   exact ⟨hg0,fun e0=>absurd e0 (by decide),fun _=>rfl⟩
  ·rename_i ps hps
   split at h
   ·rename_i hm
    cases h
    exact ⟨hg0,fun e=>absurd e hm,fun _=>rfl⟩
   ·split at h
    ·rename_i hc
     cases h
     exact ⟨hg0,fun e=>absurd e hc,fun _=>rfl⟩
    ·rename_i hc
     cases h
     have hsz:=BX (BU ps Gr.G0 hg0 (BP hps (BA s) (BF s)).1)
     refine ⟨hsz,fun _=>⟨Gr.qj.1 (Decidable.not_not.1 hc),fun p hp=> ?_⟩,fun e=>absurd rfl e⟩
     unfold Gr.bf at hp
     have hv:VSz p.val:=by
      rcases List.mem_append.1 hp with hp | hp
      ·obtain ⟨n,hn,hq⟩:=List.mem_flatMap.1 hp
       exact ((hsz.ns n hn).ps p hq).val
      ·obtain ⟨n,hn,hq⟩:=List.mem_flatMap.1 hp
       exact ((hsz.rs n hn).ps p hq).val
     exact ⟨hv.num,hv.nums⟩
end Go.Proofs.YtoofbflplhbpbaaGreatDoor.Cy
