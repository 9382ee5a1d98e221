/- Contracts and plain laws,part 14. -/
import Derived.Test.YtoofbflplhbpbaaGreatDoorBK03
set_option linter.all false
namespace Go.Proofs.YtoofbflplhbpbaaGreatDoor.Gr
open Go
abbrev L:=List UInt8
structure P where
 key:L
 val:Cel.V
structure N where
 id:Int
 labels:List L
 props:List P
structure R where
 id:Int
 type:L
 src:Int
 dst:Int
 props:List P
structure G where
 nodes:List N
 ah:List R
def G0:G:=⟨[], []⟩
def aI (s:L):Bool:=decide (s≠ []) && decide (s.length≤40) && !(s.head?.any Num.au) && s.all Lex.aF
section
variable {κ α:Type} (f:Option κ→α→Nat) (key:α→κ)
def first:Option κ→List α→Nat→Nat×Nat
 | _, [],_=>(0,0)
 | p,a :: r,i=>if f p a≠0 then (f p a,i) else first (some (key a)) r (i+1)
def aj (l:List α):Nat→Option κ
 | 0=>none
 | k+1=>l[k]?.map key
theorem tZ: ∀(l:List α) (p:Option κ) (i k:Nat),k≤l.length→(∀j a,j<k→l[j]?=some a→f (if j=0 then p else aj key l j) a=0)→
  first f key p l i=first f key (if k=0 then p else aj key l k) (l.drop k) (i+k)
 | l,p,i,0,_,_=>by simp
 | [],p,i,k+1,h,_=>by simp at h
 | a :: r,p,i,k+1,h,h0=>by
  have ha:f p a=0:=h0 0 a (by omega) rfl
  have:=tZ r (some (key a)) (i+1) k (by simpa using h) (fun j b hj hb=>by
   have:=h0 (j+1) b (by omega) (by simpa using hb)
   rw [if_neg (by omega)] at this
   cases j with
   | zero=>simpa [aj] using this
   | succ j=>rw [if_neg (by omega)];simpa [aj] using this)
  rw [first,if_neg (by rw [ha];decide),this,if_neg (show¬k+1=0 by omega),List.drop_succ_cons]
  congr 1
  ·cases k with
   | zero=>simp [aj]
   | succ k=>rw [if_neg (by omega)];simp [aj]
  ·omega
theorem ku {l:List α} {i:Nat} (h0: ∀j a,l[j]?=some a→f (aj key l j) a=0):first f key none l i=(0,0):=by
 have:=tZ f key l none i l.length (Nat.le_refl _) (fun j a _ ha=>by
  have:=h0 j a ha
  cases j with
  | zero=>simpa [aj] using this
  | succ j=>rw [if_neg (by omega)];exact this)
 rw [this,List.drop_length,first]
theorem uf {l:List α} {i k:Nat} {a:α} {e:Nat} (ha:l[k]?=some a) (he:f (aj key l k) a=e) (hne:e≠0) (h0: ∀j a,j<k→l[j]?=some a→f (aj key l j) a=0):first f key none l i=(e,i+k):=by
 obtain ⟨hk,hka⟩:=List.getElem?_eq_some_iff.1 ha
 have:=tZ f key l none i k (by omega) (fun j a hj ha=>by
  have:=h0 j a hj ha
  cases j with
  | zero=>simpa [aj] using this
  | succ j=>rw [if_neg (by omega)];exact this)
 rw [this,List.drop_eq_getElem_cons hk,hka,first]
 have hp:(if k=0 then none else aj key l k)=aj key l k:=by
  cases k with
  | zero=>rfl
  | succ k=>rw [if_neg (by omega)]
 rw [hp,he,if_pos hne]
theorem zS: ∀(l:List α) (p:Option κ) (i:Nat),(first f key p l i).1=0→ ∀j a,l[j]?=some a→f (if j=0 then p else aj key l j) a=0
 | [],_,_,_,j,a,h=>by simp at h
 | b :: r,p,i,h,j,a,hj=>by
  rw [first] at h
  split at h
  ·rename_i hne
   exact absurd h hne
  ·rename_i hne
   have hb:f p b=0:=Decidable.not_not.1 hne
   cases j with
   | zero=>simp only [List.getElem?_cons_zero,Option.some.injEq] at hj;subst hj;simpa using hb
   | succ j=>
    have:=zS r (some (key b)) (i+1) h j a (by simpa using hj)
    rw [if_neg (by omega)]
    cases j with
    | zero=>simpa [aj] using this
    | succ j=>rw [if_neg (by omega)] at this;simpa [aj] using this
theorem pX {l:List α} {i:Nat} (h:(first f key none l i).1=0): ∀j a,l[j]?=some a→f (aj key l j) a=0:=fun j a ha=>by
 have:=zS f key l none i h j a ha
 cases j with
 | zero=>simpa [aj] using this
 | succ j=>rw [if_neg (by omega)] at this;exact this
end
def dN (prev:Option L) (p:P):Nat:=if aI p.key=false then 60 else if prev.any (fun q=>decide (p.key≤q))=true then 6 else Cel.check p.val
def aQ (ps:List P):Nat:=if 16<ps.length then 64 else (first dN P.key none ps 0).1
def labelWrong (prev:Option L) (l:L):Nat:=if aI l=false then 60 else if prev.any (fun q=>decide (l≤q))=true then 6 else 0
def iF (ls:List L):Nat:=if 8<ls.length then 63 else (first labelWrong id none ls 0).1
def bH (prev:Option Int) (n:N):Nat:=
 if n.id<0∨1024≤n.id then 61 else if prev.any (fun q=>decide (n.id≤q))=true then 6 else if iF n.labels≠0 then iF n.labels else aQ n.props
def bQ (ids:List Int) (prev:Option Int) (r:R):Nat:=
 if r.id<0∨2048≤r.id then 62 else if prev.any (fun q=>decide (r.id≤q))=true then 6 else if aI r.type=false then 60 else
 if r.src∉ids∨r.dst∉ids then 65 else aQ r.props
def dedup:List L→List L
 | []=> []
 | a :: r=>if a∈r then dedup r else a :: dedup r
def names1 (g:G):List L:=g.nodes.flatMap N.labels
def names2 (g:G):List L:=g.ah.map R.type
def bf (g:G):List P:=g.nodes.flatMap N.props ++ g.ah.flatMap R.props
def names3 (g:G):List L:=(bf g).map P.key
def dQ (v:Cel.V):Nat:=
 if v.kind<4 then (if v.kind=1 then 2 else 9) else if v.kind=4 then 3+v.text.length else
 2+v.nums.length*(if v.kind=5 then 1 else 8)+(v.texts.map fun t=>2+t.length).sum
def aG (ps:List P):Nat:=(ps.map fun p=>dQ p.val).sum
def weight (g:G):Nat:=aG (bf g)
def check (g:G):Nat×Nat:=
 if (first bH N.id none g.nodes 0).1≠0 then first bH N.id none g.nodes 0 else
 if (first (bQ (g.nodes.map N.id)) R.id none g.ah g.nodes.length).1≠0 then first (bQ (g.nodes.map N.id)) R.id none g.ah g.nodes.length else
 if 200<(dedup (names1 g)).length∨200<(dedup (names2 g)).length∨200<(dedup (names3 g)).length then (66,0) else
 if 262144<weight g then (67,0) else (0,0)
theorem nJ {x:L}: ∀{l:List L},x∈dedup l↔x∈l
 | []=>by simp [dedup]
 | a :: r=>by
  rw [dedup]
  split
  ·rename_i h
   rw [nJ,List.mem_cons]
   exact ⟨.inr,fun h'=>h'.elim (fun e=>e▸h) id⟩
  ·rw [List.mem_cons,List.mem_cons,nJ]
theorem pY: ∀l:List L,(dedup l).Nodup
 | []=>by simp [dedup]
 | a :: r=>by
  rw [dedup]
  split
  ·exact pY r
  ·rename_i h
   exact List.nodup_cons.2 ⟨fun h'=>h (nJ.1 h'),pY r⟩
theorem JB {a b:List L} (ha:a.Nodup) (hb:b.Nodup) (h: ∀x,x∈a↔x∈b):a.Perm b:=(List.perm_ext_iff_of_nodup ha hb).2 h
theorem JC {a l:List L} (ha:a.Nodup) (h: ∀x,x∈a↔x∈l):a.length=(dedup l).length:=(JB ha (pY l) (fun x=>(h x).trans nJ.symm)).length_eq
def eU {α κ:Type} (le:κ→κ→Bool) (key:α→κ) (l:List α):List α:=l.mergeSort fun a b=>le (key a) (key b)
def iG (ps:List P):List P:=eU (fun a b:L=>decide (a≤b)) P.key ps
def jk (ls:List L):List L:=eU (fun a b:L=>decide (a≤b)) id ls
def gQ (n:N):N:=⟨n.id,jk n.labels,iG n.props⟩
def iU (r:R):R:=⟨r.id,r.type,r.src,r.dst,iG r.props⟩
def canon (g:G):G:=⟨eU (fun a b:Int=>decide (a≤b)) N.id (g.nodes.map gQ),eU (fun a b:Int=>decide (a≤b)) R.id (g.ah.map iU)⟩
end Go.Proofs.YtoofbflplhbpbaaGreatDoor.Gr
namespace Go.Proofs.YtoofbflplhbpbaaGreatDoor.Cy
open Go
abbrev L:=List UInt8
def word (k:Int):L:=if k=1 then [98,111,111,108] else if k=2 then [105,110,116] else if k=3 then [102,108,111,97,116] else [116,101,120,116]
def scalar (k n:Int) (t:L):L:=if k=1 then (if n=1 then Cel.TRUE else Cel.FALSE) else if k=2 then Lib.itoa n else if k=3 then Num.fmt (Cel.u64 n) else Lex.quote t
def join (sep:L):List L→L
 | []=> []
 | [a]=>a
 | a :: b :: r=>a ++ sep ++ join sep (b :: r)
def parts (v:Cel.V):List L:=v.nums.map (fun n=>scalar (v.kind - 4) n []) ++ v.texts.map (fun t=>scalar (v.kind - 4) 0 t)
def lit (v:Cel.V):L:=if v.kind≤4 then scalar v.kind v.num v.text else [91,58] ++ word (v.kind - 4) ++(if parts v= [] then [] else 32 :: join [44,32] (parts v)) ++ [93]
def kZ (v:Cel.V):L×Nat:=if Cel.check v=0 then (lit v,0) else ([],Cel.check v)
def bZ (p:Gr.P):L:=p.key ++ [58,32] ++ lit p.val
def fE (ps:List Gr.P):L:=if ps= [] then [] else [32,123] ++ join [44,32] (ps.map bZ) ++ [125]
def fK:L:= [67,82,69,65,84,69]
def bM (n:Gr.N):L:=fK ++ [32,40,110] ++ Lib.itoa n.id ++ n.labels.flatMap (fun l=>58 :: l) ++ fE n.props ++ [41,59,10]
def dH (r:Gr.R):L:=fK ++ [32,40,110] ++ Lib.itoa r.src ++ [41,45,91,114] ++ Lib.itoa r.id ++ [58] ++ r.type ++ fE r.props ++ [93,45,62,40,110] ++ Lib.itoa r.dst ++ [41,59,10]
def lines (g:Gr.G):List L:=g.nodes.map bM ++ g.ah.map dH
def print (g:Gr.G):L:=(lines g).flatten
def jT (g:Gr.G):L×Nat:=if (Gr.check g).1=0 then (print g,0) else ([],(Gr.check g).1)
abbrev T:=List Lex.Tok
structure Pat where
 rel:Bool
 first:L
 word:L
 other:L
 names:List L
 props:List Gr.P
def mark (m:L):T→Option T
 | []=>none
 | t :: r=>if t.kind=5∧t.text=m then some r else none
def bT:T→Option (L×T)
 | []=>none
 | t :: r=>if t.kind=1 then some (t.text,r) else none
def eX:T→Option ((Int×Int×L)×T)
 | []=>none
 | t :: r=>
  if t.kind=1 then (if t.text=Cel.TRUE then some ((1,1, []),r) else if t.text=Cel.FALSE then some ((1,0, []),r) else none) else
  if t.kind=2 then some ((2,t.num, []),r) else
  if t.kind=3 then some ((3,t.num, []),r) else
  if t.kind=4 then some ((4,0,t.text),r) else none
def kindOf (w:L):Int:=if w=word 1 then 1 else if w=word 2 then 2 else if w=word 3 then 3 else if w=word 4 then 4 else 0
def elems (k:Int):Nat→T→List Int→List L→Option ((List Int×List L)×T)
 | 0,_,_,_=>none
 | f+1,l,ns,ts=>
  match eX l with
  | none=>none
  | some ((j,n,t),r)=>
   if j≠k then none else
   match mark [93] r with
   | some r'=>some ((if k=4 then ns else ns ++ [n],if k=4 then ts ++ [t] else ts),r')
   | none=>
    match mark [44] r with
    | none=>none
    | some r'=>elems k f r' (if k=4 then ns else ns ++ [n]) (if k=4 then ts ++ [t] else ts)
def gy (l:T):Option (Cel.V×T):=
 match mark [91] l with
 | none=>(eX l).map fun x=>(⟨x.1.1,x.1.2.1,x.1.2.2, [], []⟩,x.2)
 | some r=>
  match mark [58] r with
  | none=>none
  | some r=>
   match bT r with
   | none=>none
   | some (w,r)=>
    if kindOf w=0 then none else
    match mark [93] r with
    | some r=>some (⟨kindOf w+4,0, [], [], []⟩,r)
    | none=>(elems (kindOf w) (r.length+1) r [] []).map fun x=>(⟨kindOf w+4,0, [],x.1.1,x.1.2⟩,x.2)
def jl:Nat→T→List Gr.P→Option (List Gr.P×T)
 | 0,_,_=>none
 | f+1,l,acc=>
  match bT l with
  | none=>none
  | some (k,r)=>
   match mark [58] r with
   | none=>none
   | some r=>
    match gy r with
    | none=>none
    | some (v,r)=>
     match mark [125] r with
     | some r=>some (acc ++ [⟨k,v⟩],r)
     | none=>
      match mark [44] r with
      | none=>none
      | some r=>jl f r (acc ++ [⟨k,v⟩])
def fO (l:T):Option (List Gr.P×T):=
 match mark [123] l with
 | none=>some ([],l)
 | some r=>
  match mark [125] r with
  | some r=>some ([],r)
  | none=>jl (r.length+1) r []
def gU:Nat→T→List L→Option (List L×T)
 | 0,_,_=>none
 | f+1,l,acc=>
  match mark [58] l with
  | none=>some (acc,l)
  | some r=>
   match bT r with
   | none=>none
   | some (w,r)=>gU f r (acc ++ [w])
def nK (first:L) (l:T):Option (Pat×T):=
 match mark [91] l with
 | none=>none
 | some l=>
  match bT l with
  | none=>none
  | some (w,l)=>
   match mark [58] l with
   | none=>none
   | some l=>
    match bT l with
    | none=>none
    | some (ty,l)=>
     match fO l with
     | none=>none
     | some (ps,l)=>
      match mark [93] l with
      | none=>none
      | some l=>
       match mark [45,62] l with
       | none=>none
       | some l=>
        match mark [40] l with
        | none=>none
        | some l=>
         match bT l with
         | none=>none
         | some (o,l)=>(mark [41] l).map fun l=>(⟨true,first,w,o, [ty],ps⟩,l)
def gV (l:T):Option (Pat×T):=
 match mark [40] l with
 | none=>none
 | some l=>
  match bT l with
  | none=>none
  | some (w,l)=>
   match gU (l.length+1) l [] with
   | none=>none
   | some (ls,r)=>
    match fO r with
    | none=>none
    | some (ps,r')=>
     match mark [41] r' with
     | none=>none
     | some r''=>
      if ls≠ []∨(mark [123] r).isSome=true then some (⟨false,w, [], [],ls,ps⟩,r'') else
      match mark [45] r'' with
      | none=>some (⟨false,w, [], [],ls,ps⟩,r'')
      | some r=>nK w r
def pats:Nat→T→List Pat→Option (List Pat×T)
 | 0,_,_=>none
 | f+1,l,acc=>
  match gV l with
  | none=>none
  | some (p,r)=>
   match mark [59] r with
   | some r=>some (acc ++ [p],r)
   | none=>
    match mark [44] r with
    | none=>none
    | some r=>pats f r (acc ++ [p])
def script:Nat→T→List Pat→Option (List Pat)
 | 0,_,_=>none
 | _+1, [],acc=>some acc
 | f+1,t :: r,acc=>
  if t.kind=1∧t.text=fK then
   match pats (r.length+1) r acc with
   | none=>none
   | some (acc,r)=>script f r acc
  else none
def patterns (l:T):Option (List Pat):=script (l.length+1) l []
def idP (c:UInt8) (most:Int):L→Option Int
 | []=>none
 | d :: r=>if d=c∧(Num.aW r).2=0∧0≤(Num.aW r).1∧(Num.aW r).1<most then some (Num.aW r).1 else none
def jH:List L→List L→Nat
 | _, []=>0
 | seen,l :: r=>if Gr.aI l=false then 60 else if l∈seen then 7 else jH (seen ++ [l]) r
def aQ:List L→List Gr.P→Nat
 | _, []=>0
 | seen,p :: r=>if Gr.aI p.key=false then 60 else if p.key∈seen then 7 else if Cel.check p.val≠0 then Cel.check p.val else aQ (seen ++ [p.key]) r
def endP (g:Gr.G) (w:L):Int×Nat:=
 match idP 110 1024 w with
 | none=>(0,61)
 | some n=>if n∈g.nodes.map Gr.N.id then (n,0) else (0,65)
def addNode (g:Gr.G) (p:Pat):Gr.G×Nat:=
 match idP 110 1024 p.first with
 | none=>(g,61)
 | some n=>
  if n∈g.nodes.map Gr.N.id then (g,7) else
  if jH [] p.names≠0 then (g,jH [] p.names) else
  (⟨g.nodes ++ [⟨n,p.names,p.props⟩],g.ah⟩,aQ [] p.props)
def lg (g:Gr.G) (p:Pat):Gr.G×Nat:=
 if (endP g p.first).2≠0 then (g,(endP g p.first).2) else
 match idP 114 2048 p.word with
 | none=>(g,62)
 | some n=>
  if n∈g.ah.map Gr.R.id then (g,7) else
  if Gr.aI (p.names.headD [])=false then (g,60) else
  if aQ [] p.props≠0 then (g,aQ [] p.props) else
  (⟨g.nodes,g.ah ++ [⟨n,p.names.headD [],(endP g p.first).1,(endP g p.other).1,p.props⟩]⟩,(endP g p.other).2)
def add (g:Gr.G) (p:Pat):Gr.G×Nat:=if p.rel then lg g p else addNode g p
def make:Gr.G→List Pat→Gr.G×Nat
 | g, []=>(g,0)
 | g,p :: r=>if (add g p).2≠0 then (Gr.G0,(add g p).2) else make (add g p).1 r
def parse (s:L):Gr.G×Nat:=
 match (Lex.read s).2 with
 | some (_,e)=>(Gr.G0,e)
 | none=>
  match patterns (Lex.read s).1 with
  | none=>(Gr.G0,250)
  | some ps=>
   if (make Gr.G0 ps).2≠0 then (Gr.G0,(make Gr.G0 ps).2) else
   if (Gr.check (Gr.canon (make Gr.G0 ps).1)).1≠0 then (Gr.G0,(Gr.check (Gr.canon (make Gr.G0 ps).1)).1) else (Gr.canon (make Gr.G0 ps).1,0)
end Go.Proofs.YtoofbflplhbpbaaGreatDoor.Cy
namespace Go.Proofs.YtoofbflplhbpbaaGreatDoor.Gr
open Go
theorem JD {κ α:Type} (key:α→κ) (l:List α) (k:Nat):aj key l (k+1)=l[k]?.map key:=rfl
theorem ug {κ α:Type} {key:α→κ} {l:List α} {k:Nat} {a:α} (h:l[k]?=some a):aj key l (k+1)=some (key a):=by rw [JD,h];rfl
structure zT (prev:Option L) (p:P):Prop where
 name:aI p.key=true
 lt: ∀q,prev=some q→ ¬p.key≤q
 val:Cel.check p.val=0
theorem zU {prev:Option L} {p:P}:dN prev p=0↔zT prev p:=by
 unfold dN
 constructor
 ·intro h
  split at h
  ·omega
  ·rename_i h1
   split at h
   ·omega
   ·rename_i h2
    refine ⟨by simpa using h1,fun q hq=> ?_,h⟩
    subst hq
    simpa using h2
 ·intro h
  rw [if_neg (by rw [h.name];decide),if_neg,h.val]
  cases prev with
  | none=>simp
  | some q=>simpa using h.lt q rfl
structure iH (ps:List P):Prop where
 len:ps.length≤16
 all: ∀(j:Nat) p,ps[j]?=some p→zT (aj P.key ps j) p
theorem qc {ps:List P}:aQ ps=0↔iH ps:=by
 unfold aQ
 constructor
 ·intro h
  split at h
  ·omega
  ·exact ⟨by omega,fun j p hp=>zU.1 (pX dN P.key h j p hp)⟩
 ·intro h
  rw [if_neg (by have:=h.len;omega),ku dN P.key fun j p hp=>zU.2 (h.all j p hp)]
theorem iH.val {ps:List P} (h:iH ps): ∀p∈ps,Cel.check p.val=0:=fun p hp=>by
 obtain ⟨j,hj,e⟩:=List.getElem_of_mem hp
 exact (h.all j p (by rw [List.getElem?_eq_getElem hj,e])).val
theorem iH.name {ps:List P} (h:iH ps): ∀p∈ps,aI p.key=true:=fun p hp=>by
 obtain ⟨j,hj,e⟩:=List.getElem_of_mem hp
 exact (h.all j p (by rw [List.getElem?_eq_getElem hj,e])).name
structure zV (prev:Option L) (l:L):Prop where
 name:aI l=true
 lt: ∀q,prev=some q→ ¬l≤q
theorem zW {prev:Option L} {l:L}:labelWrong prev l=0↔zV prev l:=by
 unfold labelWrong
 constructor
 ·intro h
  split at h
  ·omega
  ·rename_i h1
   split at h
   ·omega
   ·rename_i h2
    refine ⟨by simpa using h1,fun q hq=> ?_⟩
    subst hq
    simpa using h2
 ·intro h
  rw [if_neg (by rw [h.name];decide),if_neg]
  cases prev with
  | none=>simp
  | some q=>simpa using h.lt q rfl
structure nM (ls:List L):Prop where
 len:ls.length≤8
 all: ∀(j:Nat) l,ls[j]?=some l→zV (aj id ls j) l
theorem zX {ls:List L}:iF ls=0↔nM ls:=by
 unfold iF
 constructor
 ·intro h
  split at h
  ·omega
  ·exact ⟨by omega,fun j p hp=>zW.1 (pX labelWrong id h j p hp)⟩
 ·intro h
  rw [if_neg (by have:=h.len;omega),ku labelWrong id fun j p hp=>zW.2 (h.all j p hp)]
structure uh (prev:Option Int) (n:N):Prop where
 lo:0≤n.id
 hi:n.id<1024
 lt: ∀q,prev=some q→q<n.id
 labels:nM n.labels
 props:iH n.props
theorem qg {prev:Option Int} {n:N}:bH prev n=0↔uh prev n:=by
 unfold bH
 constructor
 ·intro h
  split at h
  ·omega
  ·rename_i h1
   split at h
   ·omega
   ·rename_i h2
    split at h
    ·rename_i h3;exact absurd h h3
    ·rename_i h3
     refine ⟨by omega,by omega,fun q hq=> ?_,zX.1 (Decidable.not_not.1 h3),qc.1 h⟩
     subst hq
     simp at h2
     omega
 ·intro h
  rw [if_neg (by have:=h.lo;have:=h.hi;omega),if_neg,if_neg (by rw [zX.2 h.labels];decide),qc.2 h.props]
  cases prev with
  | none=>simp
  | some q=>have:=h.lt q rfl;simp;omega
structure uj (ids:List Int) (prev:Option Int) (r:R):Prop where
 lo:0≤r.id
 hi:r.id<2048
 lt: ∀q,prev=some q→q<r.id
 name:aI r.type=true
 src:r.src∈ids
 dst:r.dst∈ids
 props:iH r.props
theorem qh {ids:List Int} {prev:Option Int} {r:R}:bQ ids prev r=0↔uj ids prev r:=by
 unfold bQ
 constructor
 ·intro h
  split at h
  ·omega
  ·rename_i h1
   split at h
   ·omega
   ·rename_i h2
    split at h
    ·omega
    ·rename_i h3
     split at h
     ·omega
     ·rename_i h4
      simp only [not_or,Decidable.not_not] at h4
      refine ⟨by omega,by omega,fun q hq=> ?_,by simpa using h3,h4.1,h4.2,qc.1 h⟩
      subst hq
      simp at h2
      omega
 ·intro h
  rw [if_neg (by have:=h.lo;have:=h.hi;omega),if_neg,if_neg (by rw [h.name];decide),if_neg (by simp [h.src,h.dst]),qc.2 h.props]
  cases prev with
  | none=>simp
  | some q=>have:=h.lt q rfl;simp;omega
theorem zY {α:Type} {key:α→Int} {l:List α} (h: ∀(j:Nat) a,l[j]?=some a→0≤key a∧ ∀q,aj key l j=some q→q<key a): ∀(j:Nat) a,l[j]?=some a→(j:Int)≤key a
 | 0,a,ha=>(h 0 a ha).1
 | j+1,a,ha=>by
  have hj:j<l.length:=by have:=(List.getElem?_eq_some_iff.1 ha).1;omega
  have hb:=List.getElem?_eq_getElem hj
  have:=zY h j _ hb
  have:=(h (j+1) a ha).2 _ (ug hb)
  omega
theorem zZ {α:Type} {key:α→Int} {l:List α} {m:Nat} (h: ∀(j:Nat) a,l[j]?=some a→0≤key a∧ ∀q,aj key l j=some q→q<key a) (hm: ∀a∈l,key a<m):l.length≤m:=by
 rcases Nat.lt_or_ge m l.length with hlt | hge
 ·have hb:=List.getElem?_eq_getElem hlt
  have:=zY h m _ hb
  have:=hm _ (List.mem_of_getElem? hb)
  omega
 ·exact hge
theorem nN {α β:Type} {f:α→List β} {c:Nat}: ∀{l:List α},(∀a∈l,(f a).length≤c)→(l.flatMap f).length≤c*l.length
 | [],_=>by simp
 | a :: l,h=>by
  have:=nN fun b hb=>h b (List.mem_cons.2 (.inr hb))
  have:=h a (List.mem_cons.2 (.inl rfl))
  simp only [List.flatMap_cons,List.length_append,List.length_cons]
  rw [Nat.mul_succ]
  omega
structure iI (ns:List N):Prop where
 all: ∀(j:Nat) n,ns[j]?=some n→uh (aj N.id ns j) n
structure jm (ids:List Int) (rs:List R):Prop where
 all: ∀(j:Nat) r,rs[j]?=some r→uj ids (aj R.id rs j) r
theorem iI.mem {ns:List N} (h:iI ns) {n:N} (hn:n∈ns): ∃prev,uh prev n:=by
 obtain ⟨j,hj,e⟩:=List.getElem_of_mem hn
 exact ⟨_,h.all j n (by rw [List.getElem?_eq_getElem hj,e])⟩
theorem jm.mem {ids:List Int} {rs:List R} (h:jm ids rs) {r:R} (hn:r∈rs): ∃prev,uj ids prev r:=by
 obtain ⟨j,hj,e⟩:=List.getElem_of_mem hn
 exact ⟨_,h.all j r (by rw [List.getElem?_eq_getElem hj,e])⟩
theorem iI.len {ns:List N} (h:iI ns):ns.length≤1024:=
 zZ (key:=N.id) (fun j a ha=>⟨(h.all j a ha).lo,(h.all j a ha).lt⟩) (fun a ha=>by obtain ⟨_,hg⟩:=h.mem ha;exact hg.hi)
theorem jm.len {ids:List Int} {rs:List R} (h:jm ids rs):rs.length≤2048:=
 zZ (key:=R.id) (fun j a ha=>⟨(h.all j a ha).lo,(h.all j a ha).lt⟩) (fun a ha=>by obtain ⟨_,hg⟩:=h.mem ha;exact hg.hi)
theorem iI.Aa {ns:List N} (h:iI ns):(ns.flatMap N.labels).length≤8192:=by
 have:=nN (f:=N.labels) (l:=ns) (c:=8) fun n hn=>by obtain ⟨_,hg⟩:=h.mem hn;exact hg.labels.len
 have:=h.len
 omega
theorem Ac {g:G} (h:iI g.nodes) {ids:List Int} (k:jm ids g.ah):(bf g).length≤49152:=by
 have h1:=nN (f:=N.props) (l:=g.nodes) (c:=16) fun n hn=>by obtain ⟨_,hg⟩:=h.mem hn;exact hg.props.len
 have h2:=nN (f:=R.props) (l:=g.ah) (c:=16) fun n hn=>by obtain ⟨_,hg⟩:=k.mem hn;exact hg.props.len
 have:=h.len
 have:=k.len
 unfold bf
 rw [List.length_append]
 omega
theorem Ad {g:G} (h:iI g.nodes) {ids:List Int} (k:jm ids g.ah): ∀p∈bf g,Cel.check p.val=0:=fun p hp=>by
 unfold bf at hp
 rcases List.mem_append.1 hp with hp | hp
 ·obtain ⟨n,hn,hq⟩:=List.mem_flatMap.1 hp
  obtain ⟨_,hg⟩:=h.mem hn
  exact hg.props.val p hq
 ·obtain ⟨n,hn,hq⟩:=List.mem_flatMap.1 hp
  obtain ⟨_,hg⟩:=k.mem hn
  exact hg.props.val p hq
structure Good (g:G):Prop where
 nodes:iI g.nodes
 ah:jm (g.nodes.map N.id) g.ah
 names:(dedup (names1 g)).length≤200∧(dedup (names2 g)).length≤200∧(dedup (names3 g)).length≤200
 weight:weight g≤262144
theorem JE {g:G} (h:(check g).1=0):check g=(0,0):=by
 unfold check at h⊢
 split at h
 ·rename_i h1;exact absurd h h1
 ·rename_i h1
  rw [if_neg h1]
  split at h
  ·rename_i h2;exact absurd h h2
  ·rename_i h2
   rw [if_neg h2]
   split at h
   ·cases h
   ·rename_i h3
    rw [if_neg h3]
    split at h
    ·cases h
    ·rename_i h4
     rw [if_neg h4]
theorem qj {g:G}:(check g).1=0↔Good g:=by
 unfold check
 constructor
 ·intro h
  split at h
  ·rename_i h1;exact absurd h h1
  ·rename_i h1
   split at h
   ·rename_i h2;exact absurd h h2
   ·rename_i h2
    split at h
    ·cases h
    ·rename_i h3
     split at h
     ·cases h
     ·rename_i h4
      refine ⟨⟨fun j n hn=>qg.1 (pX bH N.id (Decidable.not_not.1 h1) j n hn)⟩,⟨fun j r hr=>qh.1 (pX _ R.id (Decidable.not_not.1 h2) j r hr)⟩,by omega,by omega⟩
 ·intro h
  rw [if_neg (by rw [ku bH N.id fun j n hn=>qg.2 (h.nodes.all j n hn)];decide),
   if_neg (by rw [ku _ R.id fun j r hr=>qh.2 (h.ah.all j r hr)];decide),if_neg (by have:=h.names;omega),if_neg (by have:=h.weight;omega)]
end Go.Proofs.YtoofbflplhbpbaaGreatDoor.Gr
