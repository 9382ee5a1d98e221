/- Contracts and plain laws,part 14. -/
import Derived.Test.YtanlehkalkafdaaGreatDoorUT07
set_option maxHeartbeats 64000000
set_option maxRecDepth 1000000
set_option linter.all false
namespace Go.Proofs.YtanlehkalkafdaaGreatDoor.Csv
abbrev F:=List UInt8
def special (c:UInt8):Bool:=c == 34 || c == 44 || c == 13 || c == 10
def esc (f:F):F:=f.flatMap fun c=>if c=34 then [34,34] else [c]
def printF (f:F):F:=if f.any special then 34 :: esc f ++ [34] else f
def fieldsK:Nat->List F->F
 | _, []=> []
 | k,f :: r=>(if 0<k then [44] else []) ++ printF f ++ fieldsK (k+1) r
def printRow (r:List F):F:=fieldsK 0 r ++ [13,10]
def print:List (List F)->Option F
 | []=>some []
 | r :: rs=>if r= [] then none else (print rs).map (printRow r ++ ·)
theorem print_some {rs:List (List F)} (h: []∉rs):print rs=some (rs.flatMap printRow):=by
 induction rs with
 | nil=>rfl
 | cons r rs ih=>
  unfold print;rw [kU (fun e=>h (by simp [e])),ih (fun e=>h (by simp [e]))]
  simp
def wRow (r:List F):Nat:=(r.map fun f=>2*f.length+3).sum+2
def wRows (rs:List (List F)):Nat:=(rs.map wRow).sum
theorem esc_length (f:F):(esc f).length<=2*f.length:=by
 induction f with
 | nil=>simp [esc]
 | cons c f ih=>
  have e:esc (c :: f)=(if c=34 then [34,34] else [c]) ++ esc f:=rfl
  rw [e,kW,lF]
  split<;> simp<;> omega
theorem printF_length (f:F):(printF f).length<=2*f.length+2:=by
 unfold printF;have:=esc_length f
 split
 ·simp;omega
 omega
theorem fieldsK_length (r:List F): ∀k,(fieldsK k r).length+2<=wRow r:=by
 induction r with
 | nil=>intro k;simp [fieldsK,wRow]
 | cons f r ih=>
  intro k;have h1:=ih (k+1);have h2:=printF_length f
  have e:fieldsK k (f :: r)=(if 0<k then [44] else []) ++ printF f ++ fieldsK (k+1) r:=rfl
  rw [e,kW,kW];have h3:(if 0<k then [44] else ([]:F)).length<=1:=by split<;> simp
  simp only [wRow,mJ,oH] at h1⊢;omega
def plainP (l:F):Option (F×F):=
 match l.dropWhile (!special ·) with
 | 34 :: _=>none
 | r=>some (l.takeWhile (!special ·),r)
def quotedA:F->F->Option (F×F)
 | _, []=>none
 | acc,c :: r=>
  if c=34 then
   match r with
   | []=>some (acc, [])
   | d :: r'=>if d=34 then quotedA (acc ++ [34]) r' else if d=44\/d=13\/d=10 then some (acc,d :: r') else none
  else quotedA (acc ++ [c]) r
def fieldP:F->Option (F×F)
 | 34 :: r=>quotedA [] r
 | l=>plainP l
def rowA:Nat->List F->F->Nat×List F×F
 | 0,_,_=>(0, [], [])
 | n+1,acc,l=>
  match fieldP l with
  | none=>(210, [], [])
  | some (f, [])=>(0,acc ++ [f], [])
  | some (f,c :: r)=>if c=44 then rowA n (acc ++ [f]) r else if c=13/\r.head?=some 10 then (0,acc ++ [f],r.tail) else (211, [], [])
def rowB (n:Nat) (acc:List F) (f:F):F->Nat×List F×F
 | []=>(0,acc ++ [f], [])
 | c :: r=>if c=44 then rowA n (acc ++ [f]) r else if c=13/\r.head?=some 10 then (0,acc ++ [f],r.tail) else (211, [], [])
theorem rowB_cons (n:Nat) (acc:List F) (f:F) (c:UInt8) (r:F):rowB n acc f (c :: r)=if c=44 then rowA n (acc ++ [f]) r else if c=13/\r.head?=some 10 then (0,acc ++ [f],r.tail) else (211, [], []):=rfl
theorem rowA_none {n:Nat} {acc:List F} {l:F} (h:fieldP l=none):rowA (n+1) acc l=(210, [], []):=by
 unfold rowA;rw [h]
theorem rowA_some {n:Nat} {acc:List F} {l f r:F} (h:fieldP l=some (f,r)):rowA (n+1) acc l=rowB n acc f r:=by
 unfold rowA;rw [h];cases r<;> rfl
def rowsA:Nat->List (List F)->F->List (List F)×Nat
 | 0,acc,_=>(acc,0)
 | n+1,acc,l=>
  if l= [] then (acc,0)
  else match rowA (l.length+1) [] l with
   |(0,fs,r)=>rowsA n (acc ++ [fs]) r
   |(e+1,_,_)=>(acc,e+1)
def rowsOf (l:F):List (List F)×Nat:=rowsA (l.length+1) [] l
theorem rowsA_prefix (n:Nat): ∀(acc:List (List F)) (l:F),acc <+:(rowsA n acc l).1:=by
 induction n with
 | zero=>intro acc l;exact vV _
 | succ n ih=>
  intro acc l;unfold rowsA
  split
  ·exact vV _
  split
  ·exact (List.prefix_append acc _).trans (ih _ _)
  exact vV _
theorem rowsA_some {n:Nat} {acc:List (List F)} {l r:F} {fs:List F} (hl:l≠ []) (h:rowA (l.length+1) [] l=(0,fs,r)):rowsA (n+1) acc l=rowsA n (acc ++ [fs]) r:=by
 rw [rowsA,kU hl,h]
theorem rowsA_err {n k:Nat} {acc:List (List F)} {l r:F} {fs:List F} (hl:l≠ []) (h:rowA (l.length+1) [] l=(k+1,fs,r)):rowsA (n+1) acc l=(acc,k+1):=by
 rw [rowsA,kU hl,h]
theorem take_of_prefix {α:Type} {a b:List α} (h:a <+: b):b.take a.length=a:=by
 obtain ⟨c,rfl⟩:=h;simp
theorem get_of_prefix {α:Type} {a b:List α} {x:α} (h:a ++ [x] <+: b):b[a.length]?=some x:=by
 obtain ⟨c,rfl⟩:=h;simp
theorem quotedA_cons (acc:F) (c:UInt8) (r:F):quotedA acc (c :: r)=
  if c=34 then
   match r with
   | []=>some (acc, [])
   | d :: r'=>if d=34 then quotedA (acc ++ [34]) r' else if d=44\/d=13\/d=10 then some (acc,d :: r') else none
  else quotedA (acc ++ [c]) r:=by
 rw [quotedA.eq_def];cases r<;> rfl
theorem fieldP_other {l:F} (h: ∀r,l≠34 :: r):fieldP l=plainP l:=by
 unfold fieldP
 split
 ·exact absurd rfl (h _)
 rfl
theorem quotedA_chunk (a:F) (h: ∀x∈a,x≠34) (acc l:F):quotedA acc (a ++ l)=quotedA (acc ++ a) l:=by
 induction a generalizing acc with
 | nil=>simp
 | cons c a ih=>
  rw [nG,quotedA_cons,kU (h c (by simp)),ih (fun x hx=>h x (by simp [hx]))]
  simp
theorem quotedA_none (l:F) (h: ∀x∈l,x≠34) (acc:F):quotedA acc l=none:=by
 induction l generalizing acc with
 | nil=>rfl
 | cons c a ih=>
  rw [quotedA_cons,kU (h c (by simp)),ih (fun x hx=>h x (by simp [hx]))]
theorem quotedA_rest {l acc f r:F} (h:quotedA acc l=some (f,r)):r.length<l.length/\(r= []\/ ∃d r',r=d :: r'/\(d=44\/d=13\/d=10)):=by
 have key: ∀n (l acc:F),l.length<=n->quotedA acc l=some (f,r)->r.length<l.length/\(r= []\/ ∃d r',r=d :: r'/\(d=44\/d=13\/d=10)):=by
  intro n
  induction n with
  | zero=>intro l acc hl h;cases l with | nil=>cases h | cons c l=>simp at hl
  | succ n ih=>
   intro l acc hl h;cases l with
   | nil=>cases h
   | cons c l=>
    rw [quotedA_cons] at h
    split at h
    ·split at h
     ·cases h;exact ⟨by simp, .inl rfl⟩
     rename_i d r'
     split at h
     ·have:=ih r' _ (by simp at hl;omega) h
      exact ⟨by have:=this.1;simp;omega,this.2⟩
     split at h
     ·cases h
      exact ⟨by simp, .inr ⟨_,_,rfl,by assumption⟩⟩
     cases h
    have:=ih l _ (by simp at hl;omega) h
    exact ⟨by have:=this.1;simp;omega,this.2⟩
 exact key _ l acc (kV _) h
theorem dropWhile_head {p:UInt8->Bool} {l:F} {c:UInt8} {r:F} (h:l.dropWhile p=c :: r):p c=false:=by
 induction l with
 | nil=>cases h
 | cons a l ih=>
  rw [qI] at h
  split at h
  ·exact ih h
  rename_i ha;cases h
  simpa using ha
theorem dropWhile_le (p:UInt8->Bool) (l:F):(l.dropWhile p).length<=l.length:=by
 induction l with
 | nil=>simp
 | cons a l ih=>
  rw [qI]
  split
  ·simp;omega
  simp
theorem plainP_rest {l f r:F} (h:plainP l=some (f,r)):r.length<=l.length/\(r= []\/ ∃d r',r=d :: r'/\(d=44\/d=13\/d=10)):=by
 unfold plainP at h
 split at h
 ·cases h
 rename_i hne;simp only [nD,nH] at h;obtain ⟨rfl,rfl⟩:=h;refine ⟨dropWhile_le _ _, ?_⟩
 cases hd:l.dropWhile (!special ·) with
 | nil=>exact .inl rfl
 | cons d r'=>
  refine .inr ⟨d,r',rfl, ?_⟩;have h1:=dropWhile_head hd
  have h2:d≠34:=fun e=>hne r' (by rw [hd,e])
  simp only [special,uZ,o9,nI] at h1
  rcases h1 with ((h1 | h1) | h1) | h1
  ·exact absurd h1 h2
  ·exact .inl h1
  ·exact .inr (.inl h1)
  exact .inr (.inr h1)
theorem fieldP_rest {l f r:F} (h:fieldP l=some (f,r)):r.length<=l.length/\(r= []\/ ∃d r',r=d :: r'/\(d=44\/d=13\/d=10)):=by
 unfold fieldP at h
 split at h
 ·have:=quotedA_rest h
  exact ⟨by simp;omega,this.2⟩
 exact plainP_rest h
structure St where
 st:Nat
 rows:List (List F)
 row:List F
 field:F
def step (s:St) (c:UInt8):St ⊕ Nat:=
 if s.st=4 then (if c=10 then .inl ⟨0,s.rows ++ [s.row], [], []⟩ else .inr 211)
 else if s.st=2 then (if c=34 then .inl ⟨3,s.rows,s.row,s.field⟩ else .inl ⟨2,s.rows,s.row,s.field ++ [c]⟩)
 else if c=34 then (if s.st=1 then .inr 210 else .inl ⟨2,s.rows,s.row,if s.st=3 then s.field ++ [c] else s.field⟩)
 else if c=44\/c=13 then .inl ⟨if c=13 then 4 else 0,s.rows,s.row ++ [s.field], []⟩
 else if c=10 then .inr 211
 else if s.st=3 then .inr 210 else .inl ⟨1,s.rows,s.row,s.field ++ [c]⟩
def fin (s:St):List (List F)×Nat:=
 if s.st=2 then (s.rows,210)
 else if s.st=4 then (s.rows,211)
 else if 0<s.row.length\/0<s.field.length\/s.st≠0 then (s.rows ++ [s.row ++ [s.field]],0)
 else (s.rows,0)
def read:St->F->List (List F)×Nat
 | s, []=>fin s
 | s,c :: l=>
  match step s c with
  | .inl s'=>read s' l
  | .inr e=>(s.rows,e)
theorem step_plain {s:St} {c:UInt8} (h:s.st=0\/s.st=1) (hc:special c=false):step s c= .inl ⟨1,s.rows,s.row,s.field ++ [c]⟩:=by
 simp only [special,Bool.or_eq_false_iff,lH] at hc;obtain ⟨⟨⟨h1,h2⟩,h3⟩,h4⟩:=hc
 unfold step
 rw [kU (by omega),kU (by omega),kU h1,kU (by simp [h2,h3]),kU h4,kU (by omega)]
theorem read_plain (l:F): ∀s:St,(s.st=0\/s.st=1)-> ∃st',(st'=0\/st'=1)/\(st'=0->s.st=0/\l.takeWhile (!special ·)= [])/\
  read s l=read ⟨st',s.rows,s.row,s.field ++ l.takeWhile (!special ·)⟩ (l.dropWhile (!special ·)):=by
 induction l with
 | nil=>intro s h;exact ⟨s.st,h,fun e=>⟨e,rfl⟩,by simp⟩
 | cons c l ih=>
  intro s h;rw [rH,qI];cases hc:special c with
  | true=>exact ⟨s.st,h,fun e=>⟨e,by simp⟩,by simp⟩
  | false=>
   obtain ⟨st',h1,h2,h3⟩:=ih ⟨1,s.rows,s.row,s.field ++ [c]⟩ (.inr rfl)
   refine ⟨st',h1,fun e=>absurd (h2 e).1 (by simp), ?_⟩
   rw [read,step_plain h hc]
   simpa using h3
theorem read_quoted (n:Nat): ∀(l:F) (rows:List (List F)) (row:List F) (f:F),l.length<=n->read ⟨2,rows,row,f⟩ l=
  match quotedA f l with
  | none=>(rows,210)
  | some (g,r)=>read ⟨3,rows,row,g⟩ r:=by
 induction n with
 | zero=>intro l rows row f hl;cases l with | nil=>rfl | cons c l=>simp at hl
 | succ n ih=>
  intro l rows row f hl;cases l with
  | nil=>rfl
  | cons c l=>
   rw [read,quotedA_cons];by_cases hc:c=34
   ·subst hc
    have e:step ⟨2,rows,row,f⟩ 34= .inl ⟨3,rows,row,f⟩:=rfl;rw [e,lu rfl]
    dsimp only
    cases l with
    | nil=>rfl
    | cons d r=>
     dsimp only
     rw [read];by_cases hd:d=34
     ·subst hd
      rw [lu rfl];have e:step ⟨3,rows,row,f⟩ 34= .inl ⟨2,rows,row,f ++ [34]⟩:=rfl;rw [e]
      exact ih r rows row _ (by simp at hl;omega)
     rw [kU hd];by_cases h3:d=44\/d=13\/d=10
     ·rw [lu h3]
      dsimp only
      rw [read]
     rw [kU h3]
     have e:step ⟨3,rows,row,f⟩ d= .inr 210:=by
      unfold step;simp only [sG] at h3
      rw [kU (by simp),kU (by simp),kU hd,kU (by simp [h3.1,h3.2.1]),kU h3.2.2,lu rfl]
     rw [e]
   rw [kU hc]
   have e:step ⟨2,rows,row,f⟩ c= .inl ⟨2,rows,row,f ++ [c]⟩:=by
    unfold step;rw [kU (by simp),lu rfl,kU hc]
   rw [e];exact ih l rows row _ (by simp at hl;omega)
theorem read_behind (rows:List (List F)) (row:List F) (f:F) (st:Nat) (hst:st=0\/st=1\/st=3) (r:F) (hr:r= []\/ ∃d r',r=d :: r'/\(d=44\/d=13\/d=10)):
  read ⟨st,rows,row,f⟩ r=
   match r with
   | []=>fin ⟨st,rows,row,f⟩
   | c :: r'=>if c=44 then read ⟨0,rows,row ++ [f], []⟩ r' else if c=13/\r'.head?=some 10 then read ⟨0,rows ++ [row ++ [f]], [], []⟩ r'.tail else (rows,211):=by
 rcases hr with rfl |⟨d,r',rfl,hd⟩
 ·rfl
 rw [read];have h4:st≠4:=by omega
 have h2:st≠2:=by omega
 rcases hd with rfl | rfl | rfl
 ·have e:step ⟨st,rows,row,f⟩ 44= .inl ⟨0,rows,row ++ [f], []⟩:=by simp [step,h4,h2]
  rw [e];simp
 ·have e:step ⟨st,rows,row,f⟩ 13= .inl ⟨4,rows,row ++ [f], []⟩:=by simp [step,h4,h2]
  rw [e]
  dsimp only
  cases r' with
  | nil=>rfl
  | cons a r'=>
   rw [read];by_cases ha:a=10
   ·subst ha;rfl
   have e:step ⟨4,rows,row ++ [f], []⟩ a= .inr 211:=by simp [step,ha]
   rw [e];simp [ha]
 have e:step ⟨st,rows,row,f⟩ 10= .inr 211:=by simp [step,h4,h2]
 rw [e];simp
theorem read_field (rows:List (List F)) (row:List F) (l:F) (hne:row≠ []\/l≠ []):
  read ⟨0,rows,row, []⟩ l=
   match fieldP l with
   | none=>(rows,210)
   | some (f, [])=>(rows ++ [row ++ [f]],0)
   | some (f,c :: r)=>if c=44 then read ⟨0,rows,row ++ [f], []⟩ r else if c=13/\r.head?=some 10 then read ⟨0,rows ++ [row ++ [f]], [], []⟩ r.tail else (rows,211):=by
 by_cases hq': ∃r,l=34 :: r
 ·obtain ⟨r,rfl⟩:=hq'
  have ef:fieldP (34 :: r)=quotedA [] r:=rfl
  have er:read ⟨0,rows,row, []⟩ (34 :: r)=read ⟨2,rows,row, []⟩ r:=rfl
  rw [ef,er,read_quoted _ r rows row [] (kV _)];cases hq:quotedA [] r with
  | none=>rfl
  | some x=>
   obtain ⟨f,r'⟩:=x
   dsimp only
   rw [read_behind rows row f 3 (by simp) r' (quotedA_rest hq).2]
   cases r'<;> simp [fin]
 have hne': ∀r,l≠34 :: r:=fun r e=>hq' ⟨r,e⟩
 rw [fieldP_other hne'];obtain ⟨st',h1,h2,h3⟩:=read_plain l ⟨0,rows,row, []⟩ (.inl rfl)
 rw [h3];have hll:=ug (p:=(!special ·)) (l:=l)
 cases hp:plainP l with
 | none=>
  unfold plainP at hp
  split at hp
  ·rename_i x hx
   rw [hx]
   rcases h1 with rfl | rfl
   ·obtain ⟨_,h5⟩:=h2 rfl
    have:l=34 :: x:=by rw [<-hll,h5,hx];rfl
    exact absurd this (hne' _)
   rfl
  cases hp
 | some x=>
  obtain ⟨f,r⟩:=x;have hr:=(plainP_rest hp).2;unfold plainP at hp
  split at hp
  ·cases hp
  simp only [nD,nH] at hp;obtain ⟨h5,h6⟩:=hp
  dsimp only
  rw [mP,h5,h6,read_behind rows row _ st' (by rcases h1 with h | h<;> simp [h]) _ hr]
  rw [h5,h6] at hll;cases r with
  | nil=>
   dsimp only
   unfold fin;rw [kU (by dsimp only;omega),kU (by dsimp only;omega),lu ?_]
   dsimp only
   rcases hne with hne | hne
   ·exact .inl (nO.2 hne)
   refine .inr (.inl (nO.2 fun e=>hne ?_))
   rw [<-hll,e];rfl
  | cons c r=>rfl
theorem read_row (n:Nat): ∀(l:F) (rows:List (List F)) (row:List F),l.length<n->(row≠ []\/l≠ [])->
  (read ⟨0,rows,row, []⟩ l=
   match rowA n row l with
   |(0,fs,r)=>read ⟨0,rows ++ [fs], [], []⟩ r
   |(e+1,_,_)=>(rows,e+1))/\
  ((rowA n row l).1=0->(rowA n row l).2.2.length<l.length\/(l= []/\(rowA n row l).2.2= [])):=by
 induction n with
 | zero=>intro l rows row h;omega
 | succ n ih=>
  intro l rows row h hne;rw [read_field rows row l hne];unfold rowA;cases hf:fieldP l with
  | none=>exact ⟨rfl,fun h=>by simp at h⟩
  | some x=>
   obtain ⟨f,r⟩:=x;have hr:=fieldP_rest hf;cases r with
   | nil=>
    dsimp only
    refine ⟨by simp [read,fin],fun _=> ?_⟩
    cases l with
    | nil=>exact .inr ⟨rfl,rfl⟩
    | cons c l=>exact .inl (by simp)
   | cons c r=>
    dsimp only
    have hlen:=hr.1;simp only [lF] at hlen;by_cases hc:c=44
    ·rw [lu hc,lu hc]
     have:=ih r rows (row ++ [f]) (by omega) (.inl (by simp))
     refine ⟨this.1,fun h0=> ?_⟩
     rcases this.2 h0 with h1 |⟨h1,h2⟩
     ·exact .inl (by omega)
     exact .inl (by rw [h2];simp;omega)
    rw [kU hc,kU hc]
    split
    ·refine ⟨rfl,fun _=> .inl ?_⟩
     have:r.tail.length<=r.length:=by cases r<;> simp
     dsimp only
     omega
    exact ⟨rfl,fun h=>by simp at h⟩
theorem rowsA_length (n:Nat): ∀(acc:List (List F)) (l:F),(rowsA n acc l).1.length<=acc.length+l.length:=by
 induction n with
 | zero=>intro acc l;simp [rowsA]
 | succ n ih=>
  intro acc l;unfold rowsA;by_cases hl:l= []
  ·rw [lu hl];simp
  rw [kU hl];have h2:=(read_row (l.length+1) l [] [] (by omega) (.inr hl)).2
  generalize rowA (l.length+1) [] l=x at h2⊢
  obtain ⟨e,fs,r⟩:=x;cases e with
  | zero=>
   dsimp only
   have:=ih (acc ++ [fs]) r;rw [kW] at this
   rcases h2 rfl with h3 |⟨h3,_⟩
   ·simp only [nC] at this h3;omega
   exact absurd h3 hl
  | succ e=>simp
theorem rowsOf_length (l:F):(rowsOf l).1.length<=l.length:=by
 have:=rowsA_length (l.length+1) [] l
 simpa [rowsOf] using this
theorem rows_read (n:Nat): ∀(l:F) (acc:List (List F)),l.length<n->rowsA n acc l=read ⟨0,acc, [], []⟩ l:=by
 induction n with
 | zero=>intro l acc h;omega
 | succ n ih=>
  intro l acc h;unfold rowsA;by_cases hl:l= []
  ·subst hl;rw [lu rfl];rfl
  rw [kU hl];obtain ⟨h1,h2⟩:=read_row (l.length+1) l acc [] (by omega) (.inr hl)
  rw [h1]
  generalize rowA (l.length+1) [] l=x at h2⊢
  obtain ⟨e,fs,r⟩:=x;cases e with
  | zero=>
   dsimp only
   refine ih r _ ?_
   rcases h2 rfl with h3 |⟨h3,_⟩
   ·simp only at h3;omega
   exact absurd h3 hl
  | succ e=>rfl
theorem rowsOf_read (l:F):rowsOf l=read ⟨0, [], [], []⟩ l:=rows_read _ l [] (by omega)
theorem read_esc (f:F): ∀(rows:List (List F)) (row:List F) (g:F) (l:F),read ⟨2,rows,row,g⟩ (esc f ++ l)=read ⟨2,rows,row,g ++ f⟩ l:=by
 induction f with
 | nil=>intro rows row g l;simp [esc]
 | cons c f ih=>
  intro rows row g l;by_cases hc:c=34
  ·subst hc
   have e:esc (34 :: f) ++ l=34 :: 34 ::(esc f ++ l):=by simp [esc]
   rw [e,read];have e1:step ⟨2,rows,row,g⟩ 34= .inl ⟨3,rows,row,g⟩:=rfl;rw [e1]
   dsimp only
   rw [read];have e2:step ⟨3,rows,row,g⟩ 34= .inl ⟨2,rows,row,g ++ [34]⟩:=rfl;rw [e2]
   dsimp only
   rw [ih];simp
  have e:esc (c :: f) ++ l=c ::(esc f ++ l):=by simp [esc,hc]
  rw [e,read]
  have e1:step ⟨2,rows,row,g⟩ c= .inl ⟨2,rows,row,g ++ [c]⟩:=by
   unfold step;rw [kU (by simp),lu rfl,kU hc]
  rw [e1]
  dsimp only
  rw [ih];simp
theorem takeWhile_all {p:UInt8->Bool} {f l:F} (h: ∀x∈f,p x=true) (hl:l= []\/ ∃c r,l=c :: r/\p c=false):(f ++ l).takeWhile p=f/\(f ++ l).dropWhile p=l:=by
 induction f with
 | nil=>
  rcases hl with rfl |⟨c,r,rfl,hc⟩
  ·exact ⟨rfl,rfl⟩
  simp [hc]
 | cons a f ih=>
  obtain ⟨h1,h2⟩:=ih (fun x hx=>h x (by simp [hx]))
  have ha:=h a (by simp)
  rw [nG,rH,qI,ha];simp [h1,h2]
theorem read_printF (rows:List (List F)) (row:List F) (f:F) (c:UInt8) (l:F) (hc:c=44\/c=13):
  ∃st,(st=0\/st=1\/st=3)/\read ⟨0,rows,row, []⟩ (printF f ++ c :: l)=read ⟨st,rows,row,f⟩ (c :: l):=by
 unfold printF;cases hs:f.any special with
 | true=>
  refine ⟨3,by simp, ?_⟩
  have e:(if true=true then 34 :: esc f ++ [34] else f) ++ c :: l=34 ::(esc f ++ 34 :: c :: l):=by simp
  rw [e,read];have e1:step ⟨0,rows,row, []⟩ 34= .inl ⟨2,rows,row, []⟩:=rfl;rw [e1]
  dsimp only
  rw [read_esc,read];have e2:step ⟨2,rows,row, [] ++ f⟩ 34= .inl ⟨3,rows,row,f⟩:=rfl
  rw [e2]
 | false=>
  have hsp:special c=true:=by rcases hc with rfl | rfl<;> rfl
  have hf: ∀x∈f,(!special x)=true:=fun x hx=>by
   have:=sD.1 hs x hx
   simpa using this
  obtain ⟨h1,h2⟩:=takeWhile_all (p:=(!special ·)) (l:=c :: l) hf (.inr ⟨c,l,rfl,by simp [hsp]⟩)
  obtain ⟨st',h3,_,h5⟩:=read_plain (f ++ c :: l) ⟨0,rows,row, []⟩ (.inl rfl)
  refine ⟨st',by rcases h3 with h | h<;> simp [h], ?_⟩
  rw [h1,h2] at h5
  simpa using h5
theorem read_fields (r:List F): ∀(rows:List (List F)) (row:List F) (k:Nat) (l:F),0<k->(∃p f,row=p ++ [f])->
  ∀p f,row=p ++ [f]-> ∀st,(st=0\/st=1\/st=3)->read ⟨st,rows,p,f⟩ (fieldsK k r ++ [13,10] ++ l)=read ⟨0,rows ++ [row ++ r], [], []⟩ l:=by
 induction r with
 | nil=>
  intro rows row k l hk _ p f hp st hst
  have e:fieldsK k [] ++ [13,10] ++ l=13 :: 10 :: l:=rfl
  rw [e,read_behind rows p f st hst _ (.inr ⟨13,10 :: l,rfl,by simp⟩)]
  simp [hp]
 | cons g r ih=>
  intro rows row k l hk _ p f hp st hst
  have e:fieldsK k (g :: r) ++ [13,10] ++ l=44 ::(printF g ++(fieldsK (k+1) r ++ [13,10] ++ l)):=by simp [fieldsK,hk]
  rw [e,read_behind rows p f st hst _ (.inr ⟨44,_,rfl,by simp⟩)]
  dsimp only
  rw [lu rfl,<-hp]
  have hfc: ∃c l',fieldsK (k+1) r ++ [13,10] ++ l=c :: l'/\(c=44\/c=13):=by
   cases r with
   | nil=>exact ⟨13,_,rfl,by simp⟩
   | cons a r=>exact ⟨44,_,by simp [fieldsK];rfl,by simp⟩
  obtain ⟨c,l',hc,hcc⟩:=hfc;rw [hc];obtain ⟨st',h1,h2⟩:=read_printF rows row g c l' hcc
  rw [h2,<-hc,ih rows (row ++ [g]) (k+1) l (by omega) ⟨row,g,rfl⟩ row g rfl st' h1]
  simp
theorem read_printRow (rows:List (List F)) (r:List F) (l:F) (hr:r≠ []):read ⟨0,rows, [], []⟩ (printRow r ++ l)=read ⟨0,rows ++ [r], [], []⟩ l:=by
 cases r with
 | nil=>exact absurd rfl hr
 | cons f r=>
  have e:printRow (f :: r) ++ l=printF f ++(fieldsK 1 r ++ [13,10] ++ l):=by simp [printRow,fieldsK]
  rw [e]
  have hfc: ∃c l',fieldsK 1 r ++ [13,10] ++ l=c :: l'/\(c=44\/c=13):=by
   cases r with
   | nil=>exact ⟨13,_,rfl,by simp⟩
   | cons a r=>exact ⟨44,_,by simp [fieldsK];rfl,by simp⟩
  obtain ⟨c,l',hc,hcc⟩:=hfc;rw [hc];obtain ⟨st',h1,h2⟩:=read_printF rows [] f c l' hcc
  rw [h2,<-hc,read_fields r rows [f] 1 l (by omega) ⟨[],f,rfl⟩ [] f rfl st' h1]
  simp
theorem read_print (rs:List (List F)): ∀(rows:List (List F)) (l:F), []∉rs->read ⟨0,rows, [], []⟩ (rs.flatMap printRow ++ l)=read ⟨0,rows ++ rs, [], []⟩ l:=by
 induction rs with
 | nil=>intro rows l _;simp
 | cons r rs ih=>
  intro rows l h
  have e:(r :: rs).flatMap printRow ++ l=printRow r ++(rs.flatMap printRow ++ l):=by simp
  rw [e,read_printRow rows r _ (fun e=>h (by simp [e])),ih _ _ (fun e=>h (by simp [e]))]
  simp
theorem rows_print (rs:List (List F)) (h: []∉rs):rowsOf (rs.flatMap printRow)=(rs,0):=by
 rw [rowsOf_read];have:=read_print rs [] [] h;simp only [mG,mP] at this;rw [this]
 simp [read,fin]
def after:St->F->St ⊕(List (List F)×Nat)
 | s, []=> .inl s
 | s,c :: l=>
  match step s c with
  | .inl s'=>after s' l
  | .inr e=> .inr (s.rows,e)
def rw_ (r:List F):Nat:=(r.map fun f=>2*f.length+3).sum
end Go.Proofs.YtanlehkalkafdaaGreatDoor.Csv
namespace Go.Proofs.YtanlehkalkafdaaGreatDoor
open Go.RowKit
theorem peek_yes (b:Nat) (s:ByteArray) (a:Int) (at_:Nat) (w:World) (hb:Blk w b 165 #[.string s, .int .i64 a]) (ha:a=at_) (h:at_<s.size) (hs:s.size<=1073741824):
  Calls Tryz.prog 152 #[.pointer (some ⟨b,0,none⟩)] w fun e w'=>e= .returned (.tuple #[.int .u8 (s[at_]'h).toNat, .bool true])/\ ∃n,w.drewN n=w':=by
 subst ha;have h0:=hb.cell 0;have h1:=hb.cell 1;simp at h0 h1;have HB:=ah hb;clear hb
 have hd:decide ((s.size:Int)<=at_)=false:=by simp;omega
 have hi:((at_:Int))<s.size:=by omega
 go_enter Tryz.func152,Tryz.ntmps152;go_wp2
 go_quiet (fail)
 go_wp2
 go_quiet (fail)
 go_wp2
 go_ret2
 exact ⟨rfl,_,(World.drewN_drewN _ _ _).symm⟩
theorem peek_no (b:Nat) (s:ByteArray) (a:Int) (at_:Nat) (w:World) (hb:Blk w b 165 #[.string s, .int .i64 a]) (ha:a=at_) (h:s.size<=at_):
  Calls Tryz.prog 152 #[.pointer (some ⟨b,0,none⟩)] w fun e w'=>e= .returned (.tuple #[.int .u8 0, .bool false])/\ ∃n,w.drewN n=w':=by
 subst ha;have h0:=hb.cell 0;have h1:=hb.cell 1;simp at h0 h1;have HB:=ah hb;clear hb
 have hd:decide ((s.size:Int)<=at_)=true:=by simp;omega
 go_enter Tryz.func152,Tryz.ntmps152;go_wp2
 go_quiet (fail)
 go_wp2
 go_ret2
 exact ⟨rfl,_,rfl⟩
def FieldRes (s:ByteArray) (b:Nat) (w:World) (res:Option (Csv.F×Csv.F)) (e:Ending) (w':World):Prop:=
 w.grownBy w' (some b)/\
 match res with
 | none=>e= .returned (.tuple #[.string ⟨#[]⟩, .int .i64 210])
 | some (f,r)=>e= .returned (.tuple #[.string ⟨f.toArray⟩, .int .i64 0])/\ ∃at':Nat,at'<=s.size/\s.data.toList.drop at'=r/\Blk w' b 165 #[.string s, .int .i64 at']
theorem fieldRes_some {s:ByteArray} {b:Nat} {w w':World} {f r:List UInt8} {v x:Value} (at':Nat) (hg:w.grownBy w' (some b)) (hv:v= .string ⟨f.toArray⟩) (hat:at'<=s.size) (hd:s.data.toList.drop at'=r)
  (hx:x= .int .i64 at') (hb:Blk w' b 165 #[.string s,x]):FieldRes s b w (some (f,r)) (.returned (.tuple #[v, .int .i64 0])) w':=by
 subst hv hx;exact ⟨hg,rfl,at',hat,hd,hb⟩
theorem special_set (c:UInt8): [34,44,13,10].contains c=Csv.special c:=by
 simp only [List.contains_cons,List.contains_nil,Bool.or_false,Csv.special,Bool.or_assoc]
theorem indexAny_take (l:List UInt8):(Lib.indexAny l [34,44,13,10]= -1/\l.dropWhile (!Csv.special ·)= []/\l.takeWhile (!Csv.special ·)=l)\/
  (Lib.indexAny l [34,44,13,10]=((l.takeWhile (!Csv.special ·)).length:Int)/\ ∃c r,l.dropWhile (!Csv.special ·)=c :: r):=by
 induction l with
 | nil=>exact .inl ⟨rfl,rfl,rfl⟩
 | cons c l ih=>
  rw [Lib.indexAny,special_set,rH,qI];cases hc:Csv.special c with
  | true=>exact .inr ⟨by simp,c,l,by simp⟩
  | false=>
   rcases ih with ⟨h1,h2,h3⟩ |⟨h1,h2⟩
   ·exact .inl ⟨by simp [h1],by simp [h2],by simp [h3]⟩
   refine .inr ⟨?_,by simpa using h2⟩
   have hne:(Lib.indexAny l [34,44,13,10] == -1)=false:=by rw [h1];exact lH.2 (by omega)
   rw [hne,h1];simp
theorem csv_drop (s:ByteArray) (a:Nat):(s.extract a s.size).data.toList=s.data.toList.drop a:=by
 rw [Lib.extract_data,lT];rw [Lib.size_eq];simp
theorem csv_take (s:ByteArray) (a n:Nat) (h:a+n<=s.size):(s.extract a (a+n)).data.toList=(s.data.toList.drop a).take n:=by
 rw [Lib.extract_data]
 congr 1
 omega
theorem str_of_list (s:ByteArray) (l:List UInt8) (h:s.data.toList=l):Value.string s=Value.string ⟨l.toArray⟩:=by subst h;rfl
theorem scan_put {w:World} {b T:Nat} {x y:Value} (h:Blk w b T #[x,y]) (v:Value):Blk (w.setCell ⟨b,1,none⟩ v) b T #[x,v]:=h.set_ 1 v
theorem set_ascii: ∀(j:Nat) b,(⟨#[34,44,13,10]⟩:ByteArray).data.toList[j]?=some b->b.toNat<128:=by
 intro j b h;have:b∈ [34,44,13,10]:=lS h;simp at this
 rcases this with rfl | rfl | rfl | rfl<;> decide
theorem plain_any (b:Nat) (s:ByteArray) (at_:Nat) (w:World) (hb:Blk w b 165 #[.string s, .int .i64 at_]) (hat:at_<=s.size) (hs:s.size<=1073741824):
  Calls Tryz.prog 154 #[.pointer (some ⟨b,0,none⟩)] w (FieldRes s b w (Csv.plainP (s.data.toList.drop at_))):=by
 have h0:=hb.cell 0;have h1:=hb.cell 1;simp at h0 h1;have hi:((at_:Int))<=s.size:=by omega
 obtain ⟨R,hR⟩:=aj (Lib.indexAny (s.data.toList.drop at_) [34,44,13,10])
 have hia: ∀wx:World,Calls Tryz.prog 107 #[.string (s.extract at_ s.size), .string ⟨#[34,44,13,10]⟩] wx fun e w'=>e= .returned (.int .i64 R)/\Below wx.heap.size wx w':=fun wx=>
  (indexAny_any _ _ wx (by simp;omega) (by decide) (by decide) set_ascii).mono fun e w' ⟨he,hw⟩=>⟨by rw [he,csv_drop];exact ret_eq (int_eq hR),hw⟩
 have HB:=ah hb;clear hb
 have hl:(s.data.toList.drop at_).length=s.size - at_:=by rw [mM,<-Lib.size_eq]
 rcases indexAny_take (s.data.toList.drop at_) with ⟨k1,k2,k3⟩ |⟨k1,c,r,k2⟩
 ·rw [hR] at k1
  subst k1
  have hpl:Csv.plainP (s.data.toList.drop at_)=some (s.data.toList.drop at_, []):=by
   unfold Csv.plainP;rw [k2,k3]
  rw [hpl];have HK:=ah hR;clear hR k2 k3 hpl hl;go_enter Tryz.func154,Tryz.ntmps154;go_wp2
  go_still_tail 9,(by kernel_rfl)
  change wpList _ _ _ _ _ w.drew
  go_wp2_with (go_at_call 107;refine (hia _).mono ?_;rintro e w1 ⟨rfl,hb1⟩)
  have hB1:Blk w1 b 165 #[.string s, .int .i64 at_]:=Blk.below (w:=w.drew) HB.out hb1 (Blk.lt HB.out)
  have g0:=hB1.cell 0;have g1:=hB1.cell 1;have f1:=hB1.frozen 1;simp at g0 g1
  have HB1:=ah hB1;clear hB1
  go_quiet (fail)
  go_wp2
  go_quiet (fail)
  go_wp2_with fail
  refine (peek_no b s _ s.size _ (scan_put (w:=w1.drewN _) HB1.out _) (by omega) (kV _)).mono ?_
  rintro e w2 ⟨rfl,n2,rfl⟩;go_wp2
  go_ret2
  exact fieldRes_some s.size (only_drewN (only_setCell (only_drewN (only_below (only_drew (only_refl w _)) hb1) _) (.inl rfl) _) n2) (str_of_list _ _ (csv_drop s at_)) (kV _) (nN (by rw [Lib.size_eq];exact kV _))
   (int_eq (by omega)) (scan_put (w:=w1.drewN _) HB1.out _)
 obtain ⟨n,hn⟩:=aj (((s.data.toList.drop at_).takeWhile (!Csv.special ·)).length)
 have hll:=ug (p:=(!Csv.special ·)) (l:=s.data.toList.drop at_)
 rw [k2] at hll
 have hlt:at_+n<s.size:=by
  have:=lq List.length hll;rw [kW,hn,hl] at this;simp at this;omega
 have htake:(s.data.toList.drop at_).takeWhile (!Csv.special ·)=(s.data.toList.drop at_).take n:=by
  have:=List.take_left' (l₂:=c :: r) hn;rw [hll] at this;exact this.symm
 have hdrop:s.data.toList.drop (at_+n)=c :: r:=by
  rw [<-rO,<-hll,List.drop_left' hn]
 have hc:s[at_+n]'hlt=c:=by
  have h5:=get_list s (at_+n) hlt
  have h6:(s.data.toList.drop (at_+n))[0]?=some c:=by rw [hdrop];rfl
  rw [sZ,oO,h5] at h6;exact mQ h6
 rw [hR,hn] at k1;subst k1;have hin:((at_:Int)+n)<s.size:=by omega
 have hn0:decide ((n:Int)<0)=false:=kX (by omega)
 have HP:Hid (Csv.plainP (s.data.toList.drop at_)=if c=34 then none else some ((s.data.toList.drop at_).take n,c :: r)):=by
  show _=_
  unfold Csv.plainP;rw [k2,htake];by_cases h34:c=34
  ·subst h34;rfl
  rw [kU h34]
  split
  ·rename_i heq
   cases heq;exact absurd rfl h34
  rfl
 have HC:=ah hc;have HD:=ah hdrop;clear hR k2 hn hll hl htake hdrop hc
 go_enter Tryz.func154,Tryz.ntmps154;go_wp2
 go_still_tail 9,(by kernel_rfl)
 change wpList _ _ _ _ _ w.drew
 go_wp2_with (go_at_call 107;refine (hia _).mono ?_;rintro e w1 ⟨rfl,hb1⟩)
 have hB1:Blk w1 b 165 #[.string s, .int .i64 at_]:=Blk.below (w:=w.drew) HB.out hb1 (Blk.lt HB.out)
 have g0:=hB1.cell 0;have g1:=hB1.cell 1;have f1:=hB1.frozen 1;simp at g0 g1
 have HB1:=ah hB1;clear hB1
 go_quiet (fail)
 go_wp2_with fail
 refine (peek_yes b s _ (at_+n) _ (scan_put (w:=w1.drewN _) HB1.out _) (by omega) (by omega) hs).mono ?_
 rintro e w2 ⟨rfl,n2,rfl⟩;rw [HC.out]
 have hg:=only_drewN (only_setCell (only_drewN (only_below (only_drew (only_refl w (some b))) hb1) nq) (p:=⟨b,1,none⟩) (.inl rfl) (.int .i64 ((at_:Int)+n))) n2
 have HG:=ah hg;clear hg;by_cases h34:c=34
 ·subst h34
  go_wp2
  go_ret2
  rw [HP.out]
  first | rw [lu rfl] | rw [lu trivial]
  exact ⟨HG.out,rfl⟩
 have hcb:((c.toNat:Int) == 34)=false:=by
  refine lH.2 fun e=>h34 (oL.1 ?_)
  simp;omega
 go_wp2
 go_ret2
 rw [HP.out,kU h34]
 exact fieldRes_some (at_+n) HG.out (str_of_list _ _ (csv_take s at_ n (by omega))) (by omega) HD.out (int_eq (by omega)) (scan_put (w:=w1.drewN _) HB1.out _)
def QRel (s:ByteArray) (b B:Nat) (w wx:World) (l0:List UInt8) (at':Nat) (acc:List UInt8):Prop:=
 w.grownBy wx (some b)/\Blk wx b 165 #[.string s, .int .i64 at']/\Bld B B acc wx/\Csv.quotedA [] l0=Csv.quotedA acc (s.data.toList.drop at')/\acc.length<=at'
theorem csvQuoted_any (b:Nat) (s:ByteArray) (at_:Nat) (w:World) (hb:Blk w b 165 #[.string s, .int .i64 at_]) (hat:at_<=s.size) (hs:s.size<=1073741823):
  Calls Tryz.prog 153 #[.pointer (some ⟨b,0,none⟩)] w (FieldRes s b w (Csv.quotedA [] (s.data.toList.drop at_))):=by
 have hblt:=hb.lt;have HB:=ah hb;clear hb;go_enter Tryz.func153,Tryz.ntmps153;go_wp2
 go_loopg [5] (s.size - at_) (fun g _ wx=> ∃(at':Nat) (acc:List UInt8),at'+g=s.size/\QRel s b w.heap.size w wx (s.data.toList.drop at_) at' acc)
 case atStart=>exact ⟨at_, [],by omega,only_alloc (only_refl w _) _,(HB.out).alloc _,Bld.fresh w,rfl,by simp⟩
 obtain ⟨at',acc,hig,hrel⟩:=hrel;obtain ⟨hg,hblk,hbld,hq,hacc⟩:=hrel;have h0:=hblk.cell 0
 have h1:=hblk.cell 1;have f1:=hblk.frozen 1;simp at h0 h1
 have hi:((at':Int))<=s.size:=by omega
 obtain ⟨R,hR⟩:=aj (Lib.indexByte (s.data.toList.drop at') 34)
 have hib: ∀wx:World,Calls Tryz.prog 201 #[.string (s.extract at' s.size), .int .u8 34] wx fun e w'=>e= .returned (.int .i64 R)/\w'=wx:=fun wx=>
  (Tryz.strings_IndexByte _ _ wx).mono fun e w' ⟨he,hw⟩=>⟨by rw [he,csv_drop];exact ret_eq (int_eq hR),hw⟩
 have hl:(s.data.toList.drop at').length=s.size - at':=by rw [mM,<-Lib.size_eq]
 have HG:=ah hg;have HK:=ah hblk;have HQ:=ah hq;have HL:=ah hbld;have HI:=ah hig
 have hgle:gk<=s.size:=by omega
 clear hg hblk hq hbld hig
 rcases indexByte_take (s.data.toList.drop at') 34 with ⟨k1,k2⟩ |⟨n,r,k1,k2,k3,k4⟩
 ·rw [hR] at k1
  subst k1;have HN:=ah (Csv.quotedA_none _ k2 acc);clear k2 hR hl;go_wp2
  go_quiet ((go_at_call 201;first | exact Calls.quiet_of_same (hib _) | exact quiet_add_same (hib _)))
  go_wp2
  go_ret2
  have e:Csv.quotedA [] (s.data.toList.drop at_)=none:=HQ.trans HN.out;rw [e]
  exact ⟨only_drewN HG.out _,rfl⟩
 rw [hR] at k1;subst k1;have hlt:at'+n<s.size:=by omega
 have hsn:(s.data.toList.drop at').take n=(s.extract at' (at'+n)).data.toList:=(csv_take s at' n (by omega)).symm
 have hdrop:s.data.toList.drop (at'+(n+1))=r:=by
  rw [<-rO];have:=lq (List.drop (n+1)) k2;rw [this,List.drop_append]
  have:((s.data.toList.drop at').take n).length=n:=by rw [mO,hl];omega
  rw [this,nN (by omega)]
  simp
 have HN:Hid (Csv.quotedA [] (s.data.toList.drop at_)=Csv.quotedA (acc ++(s.extract at' (at'+n)).data.toList) (34 :: r)):=by
  show _=_
  rw [HQ.out,k2,Csv.quotedA_chunk _ k3,hsn]
 have HD:=ah hdrop;have hn0:decide ((n:Int)<0)=false:=kX (by omega)
 have hin:((at':Int)+n)<s.size:=by omega
 clear hR hl k2 k3 hsn hdrop k4;go_wp2
 go_quiet ((go_at_call 201;first | exact Calls.quiet_of_same (hib _) | exact quiet_add_same (hib _)))
 go_wp2;have h0':(wr.drewN nq).cell? ⟨b,0,none⟩=some (.string s):=h0
 have h1':(wr.drewN nq).cell? ⟨b,1,none⟩=some (.int .i64 at'):=h1
 have HG':=ah (only_drewN HG.out nq)
 have HK':Hid (Blk (wr.drewN nq) b 165 #[.string s, .int .i64 at']):=HK.out
 have HL':Hid (Bld w.heap.size w.heap.size acc (wr.drewN nq)):=HL.out
 clear h0 h1 f1 HG HK HL hib
 generalize wr.drewN nq=W at*
 have hwr:IntKind.i64.wrap ((at':Int)+n)=at'+n:=IntWalk.i64_in _ (by omega)
 have hwn:((at':Int)+n).toNat=at'+n:=by omega
 have hwl:((at':Int)+n)<=s.size:=by omega
 have hw0:(0:Int)<=(at':Int)+n:=by omega
 have hw1:(at':Int)<=(at':Int)+n:=by omega
 go_still_tail 15,(by kernel_rfl)
 clear hwr hwn hwl hw0 hw1
 change wpList _ _ _ _ _ W.drew
 go_wp2_with fail
 refine (bld_str w.heap.size w.heap.size acc (s.extract at' (at'+n)) W.drew HL'.out (by simp;omega) (by omega) HG'.out.size).mono ?_
 rintro e w1 ⟨rfl,hbld1,hbel1,_⟩
 have hblk1:Blk w1 b 165 #[.string s, .int .i64 at']:=Blk.below (w:=W.drew) HK'.out hbel1 hblt
 have hg1:w.grownBy w1 (some b):=only_bel (only_drew HG'.out) hbel1 (kV _)
 have g0:=hblk1.cell 0;have g1:=hblk1.cell 1;have f1:=hblk1.frozen 1;simp at g0 g1
 have HG1:=ah hg1;have HK1:=ah hblk1;have HL1:=ah hbld1
 clear hg1 hblk1 hbld1 HG' HK' HL' h0' h1';go_wp2_with fail
 have HKW:Hid (Blk (w1.setCell ⟨b,1,none⟩ (.int .i64 ((at':Int)+((n:Int)+1)))) b 165 #[.string s, .int .i64 ((at':Int)+((n:Int)+1))]):=scan_put HK1.out _
 have HGW:Hid (w.grownBy (w1.setCell ⟨b,1,none⟩ (.int .i64 ((at':Int)+((n:Int)+1)))) (some b)):=only_setCell HG1.out (.inl rfl) _
 have HLW:Hid (Bld w.heap.size w.heap.size (acc ++(s.extract at' (at'+n)).data.toList) (w1.setCell ⟨b,1,none⟩ (.int .i64 ((at':Int)+((n:Int)+1))))):=Bld.kept_lt HL1.out (grownBy_set _ _ _) hblt
 have hsz:(s.extract at' (at'+n)).data.toList.length=n:=by rw [<-Lib.size_eq];simp;omega
 have hal:(acc ++(s.extract at' (at'+n)).data.toList).length<=at'+n:=by rw [kW,hsz];omega
 clear g0 g1 f1 HK1 HG1 HL1 hsz
 generalize acc ++(s.extract at' (at'+n)).data.toList=acc1 at HN HLW hal
 generalize w1.setCell ⟨b,1,none⟩ (.int .i64 ((at':Int)+((n:Int)+1)))=W2 at*
 by_cases hend:s.size<=at'+n+1
 ·refine (peek_no b s _ (at'+n+1) _ HKW.out (by omega) hend).mono ?_
  rintro e w3 ⟨rfl,n3,rfl⟩;go_wp2_with fail
  refine (bld_string w.heap.size w.heap.size _ _ (show Bld _ _ _ (W2.drewN n3) from HLW.out) HGW.size).mono ?_
  rintro e w4 ⟨rfl,hbld4,hbel4,_⟩
  have hr:r= []:=by
   have:=HD.out;rw [nN (by have:=Lib.size_eq s;omega)] at this
   exact this.symm
  go_wp2
  go_ret2
  rw [HN.out,hr,Csv.quotedA_cons,lu rfl]
  exact fieldRes_some (at'+n+1) (only_bel (only_drewN HGW.out n3) hbel4 (kV _)) rfl (by omega) (by rw [pq,HD.out,hr]) (int_eq (by omega)) (Blk.below (w:=W2.drewN n3) HKW.out hbel4 hblt)
 have hend':at'+n+1<s.size:=by omega
 obtain ⟨c,hc⟩:=aj (s[at'+n+1]'hend')
 obtain ⟨r',hr⟩: ∃r',r=c :: r':=by
  refine ⟨s.data.toList.drop (at'+(n+1)+1), ?_⟩
  rw [<-HD.out,mZ (by have:=Lib.size_eq s;omega)]
  congr 1
 have HR:=ah hr;have HC:=ah hc;clear hr hc
 refine (peek_yes b s _ (at'+n+1) _ HKW.out (by omega) hend' (by omega)).mono ?_
 rintro e w3 ⟨rfl,n3,rfl⟩;rw [HC.out];by_cases h34:c=34
 ·subst h34
  go_wp2_with fail
  refine (bld_byte w.heap.size w.heap.size _ _ _ (show Bld _ _ _ (W2.drewN n3) from HLW.out) (by omega) (by omega) (by omega) HGW.size).mono ?_
  rintro e w4 ⟨rfl,hbld4,hbel4,_⟩
  have hblk4:Blk w4 b 165 #[.string s, .int .i64 ((at':Int)+((n:Int)+1))]:=Blk.below (w:=W2.drewN n3) HKW.out hbel4 hblt
  have g0:=hblk4.cell 0;have g1:=hblk4.cell 1;have f1:=hblk4.frozen 1;simp at g0 g1
  have HK4:=ah hblk4;have HL4:=ah hbld4
  have HG4:=ah (only_bel (only_drewN HGW.out n3) hbel4 (kV _));clear hblk4 hbld4
  have hq2:Csv.quotedA [] (s.data.toList.drop at_)=Csv.quotedA (acc1 ++ [34]) (s.data.toList.drop (at'+n+2)):=by
   rw [HN.out,HR.out,Csv.quotedA_cons,lu rfl]
   dsimp only
   rw [lu rfl]
   congr 1
   have:=lq (List.drop 1) HD.out;rw [rO,HR.out] at this;exact this.symm
  have HQ2:=ah hq2;clear hq2;go_wp2
  go_roundg (s.size -(at'+n+2))
  case measure=>have:=HI.out;omega
  exact ⟨at'+n+2,acc1 ++ [34],by omega,only_setCell HG4.out (.inl rfl) _,(by have:=scan_put HK4.out (.int .i64 ((at':Int)+((n:Int)+1)+1));rw [show ((at'+n+2:Nat):Int)=(at':Int)+((n:Int)+1)+1 by omega];exact this),Bld.kept_lt HL4.out (grownBy_set _ _ _) hblt,HQ2.out,by simp;omega⟩
 have hcb:((c.toNat:Int) == 34)=false:=by
  refine lH.2 fun e=>h34 (oL.1 ?_)
  simp;omega
 by_cases h3:c=44\/c=13\/c=10
 ·have hcl:HR.out=HR.out:=rfl
  clear hcl hcb
  rcases h3 with rfl | rfl | rfl
  all_goals
   go_wp2_with fail
   refine (bld_string w.heap.size w.heap.size _ _ (show Bld _ _ _ (W2.drewN n3) from HLW.out) HGW.size).mono ?_
   rintro e w4 ⟨rfl,hbld4,hbel4,_⟩;go_wp2
   go_ret2
   rw [HN.out,HR.out,Csv.quotedA_cons,lu rfl]
   exact fieldRes_some (at'+n+1) (only_bel (only_drewN HGW.out n3) hbel4 (kV _)) rfl (by omega) (by rw [pq,HD.out,HR.out]) (int_eq (by omega)) (Blk.below (w:=W2.drewN n3) HKW.out hbel4 hblt)
 simp only [sG] at h3;obtain ⟨h44,h13,h10⟩:=h3
 have e44:((c.toNat:Int) !=44)=true:=by
  rw [mF];exact fun e=>h44 (oL.1 (by simp;omega))
 have e13:((c.toNat:Int) !=13)=true:=by
  rw [mF];exact fun e=>h13 (oL.1 (by simp;omega))
 have e10:((c.toNat:Int) !=10)=true:=by
  rw [mF];exact fun e=>h10 (oL.1 (by simp;omega))
 have HF:Hid (Csv.quotedA acc1 (34 :: c :: r')=none):=by
  show _=_
  rw [Csv.quotedA_cons,lu rfl]
  dsimp only
  rw [kU h34,kU (by simp [h44,h13,h10])]
 clear h44 h13 h10 h34;go_wp2
 go_ret2
 rw [HN.out,HR.out,HF.out];exact ⟨only_drewN HGW.out _,rfl⟩
end Go.Proofs.YtanlehkalkafdaaGreatDoor
