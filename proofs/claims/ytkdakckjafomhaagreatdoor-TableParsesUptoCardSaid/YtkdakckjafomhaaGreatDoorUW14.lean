/- Contracts and plain laws,part 14. -/
import Derived.Test.YtkdakckjafomhaaGreatDoorUW08
set_option maxHeartbeats 64000000
set_option maxRecDepth 1000000
set_option linter.all false
namespace Go.Proofs.YtkdakckjafomhaaGreatDoor.ay
abbrev F:=List UInt8
def special (c:UInt8):Bool:=c == 34 || c == 44 || c == 13 || c == 10
def esc (f:F):F:=f.flatMap fun c=>if c=34 then[34,34] else[c]
def qH (f:F):F:=if f.any special then 34 :: esc f++[34] else f
def jv:Nat->List F->F
 |_,[]=> []
 |k,f :: r=>(if 0<k then[44] else[])++qH f++jv (k+1) r
def printRow (r:List F):F:=jv 0 r++[13,10]
def print:List (List F)->Option F
 |[]=>some []
 |r :: rs=>if r=[] then none else(print rs).map (printRow r ++ ·)
theorem apd (f:F) (h:f.any special=false):esc f=f:=by
 induction f with
 |nil=>rfl
 |cons c f ih=>
  simp only[arz,Bool.or_eq_false_iff]at h
  have hc:c≠34:=by intro e;subst e;simp[special]at h
  simp only[esc,ae2,ade hc]at ih⊢;rw[ih h.2];rfl
theorem aix {rs:List (List F)} (h: []∉rs):print rs=some (rs.flatMap printRow):=by
 induction rs with
 |nil=>rfl
 |cons r rs ih=>
  unfold print;rw[ade (fun e=>h (by simp[e])),ih (fun e=>h (by simp[e]))]
  simp
def wRow (r:List F):Nat:=(r.map fun f=>2*f.length+3).sum+2
def oJ (rs:List (List F)):Nat:=(rs.map wRow).sum
theorem ZT (f:F):(esc f).length<=2*f.length:=by
 induction f with
 |nil=>simp[esc]
 |cons c f ih=>
  have e:esc (c :: f)=(if c=34 then[34,34] else[c])++esc f:=rfl
  rw[e,adf,adQ]
  split<;>simp<;>omega
theorem ZU (f:F):(qH f).length<=2*f.length+2:=by
 unfold qH;have:=ZT f
 split
 ·simp;omega
 omega
theorem aiy (r:List F): ∀k,(jv k r).length+2<=wRow r:=by
 induction r with
 |nil=>intro k;simp[jv,wRow]
 |cons f r ih=>
  intro k;have h1:=ih (k+1);have h2:=ZU f
  have e:jv k (f :: r)=(if 0<k then[44] else[])++qH f++jv (k+1) r:=rfl
  rw[e,adf,adf];have h3:(if 0<k then[44] else([]:F)).length<=1:=by split<;>simp
  simp only[wRow,aeR,agb]at h1⊢;omega
def rY (l:F):Option (F×F):=
 match l.dropWhile (!special ·) with
 |34 :: _=>none
 |r=>some (l.takeWhile (!special ·),r)
def jc:F->F->Option (F×F)
 |_,[]=>none
 |acc,c :: r=>
  if c=34 then
   match r with
   |[]=>some (acc,[])
   |d :: r'=>if d=34 then jc (acc++[34]) r' else if d=44\/d=13\/d=10 then some (acc,d :: r') else none
  else jc (acc++[c]) r
def wR:F->Option (F×F)
 |34 :: r=>jc [] r
 |l=>rY l
def rowA:Nat->List F->F->Nat×List F×F
 |0,_,_=>(0,[],[])
 |n+1,acc,l=>
  match wR l with
  |none=>(210,[],[])
  |some (f,[])=>(0,acc++[f],[])
  |some (f,c :: r)=>if c=44 then rowA n (acc++[f]) r else if c=13/\r.head?=some 10 then(0,acc++[f],r.tail) else(211,[],[])
def rowB (n:Nat) (acc:List F) (f:F):F->Nat×List F×F
 |[]=>(0,acc++[f],[])
 |c :: r=>if c=44 then rowA n (acc++[f]) r else if c=13/\r.head?=some 10 then(0,acc++[f],r.tail) else(211,[],[])
theorem TN (n:Nat) (acc:List F) (f:F) (c:UInt8) (r:F):rowB n acc f (c :: r)=if c=44 then rowA n (acc++[f]) r else if c=13/\r.head?=some 10 then(0,acc++[f],r.tail) else(211,[],[]):=rfl
theorem aiz {n:Nat} {acc:List F} {l:F} (h:wR l=none):rowA (n+1) acc l=(210,[],[]):=by
 unfold rowA;rw[h]
theorem aiA {n:Nat} {acc:List F} {l f r:F} (h:wR l=some (f,r)):rowA (n+1) acc l=rowB n acc f r:=by
 unfold rowA;rw[h];cases r<;>rfl
def lN:Nat->List (List F)->F->List (List F)×Nat
 |0,acc,_=>(acc,0)
 |n+1,acc,l=>
  if l=[] then(acc,0)
  else match rowA (l.length+1) [] l with
   |(0,fs,r)=>lN n (acc++[fs]) r
   |(e+1,_,_)=>(acc,e+1)
def rowsOf (l:F):List (List F)×Nat:=lN (l.length+1) [] l
theorem aiB (n:Nat): ∀(acc:List (List F)) (l:F),acc <+:(lN n acc l).1:=by
 induction n with
 |zero=>intro acc l;exact ari _
 |succ n ih=>
  intro acc l;unfold lN
  split
  ·exact ari _
  split
  ·exact(List.prefix_append acc _).trans (ih _ _)
  exact ari _
theorem aiC {n:Nat} {acc:List (List F)} {l r:F} {fs:List F} (hl:l≠ []) (h:rowA (l.length+1) [] l=(0,fs,r)):lN (n+1) acc l=lN n (acc++[fs]) r:=by
 rw[lN,ade hl,h]
theorem aiD {n k:Nat} {acc:List (List F)} {l r:F} {fs:List F} (hl:l≠ []) (h:rowA (l.length+1) [] l=(k+1,fs,r)):lN (n+1) acc l=(acc,k+1):=by
 rw[lN,ade hl,h]
theorem aiE {α:Type} {a b:List α} (h:a <+: b):b.take a.length=a:=by
 obtain⟨c,rfl⟩:=h;simp
theorem aiF {α:Type} {a b:List α} {x:α} (h:a++[x] <+: b):b[a.length]?=some x:=by
 obtain⟨c,rfl⟩:=h;simp
theorem CZ (acc:F) (c:UInt8) (r:F):jc acc (c :: r)=
  if c=34 then
   match r with
   |[]=>some (acc,[])
   |d :: r'=>if d=34 then jc (acc++[34]) r' else if d=44\/d=13\/d=10 then some (acc,d :: r') else none
  else jc (acc++[c]) r:=by
 rw[jc.eq_def];cases r<;>rfl
theorem ZV {l:F} (h: ∀r,l≠34 :: r):wR l=rY l:=by
 unfold wR
 split
 ·exact absurd rfl (h _)
 rfl
theorem aiG (a:F) (h: ∀x∈a,x≠34) (acc l:F):jc acc (a++l)=jc (acc++a) l:=by
 induction a generalizing acc with
 |nil=>simp
 |cons c a ih=>
  rw[afq,CZ,ade (h c (by simp)),ih (fun x hx=>h x (by simp[hx]))]
  simp
theorem aiH (l:F) (h: ∀x∈l,x≠34) (acc:F):jc acc l=none:=by
 induction l generalizing acc with
 |nil=>rfl
 |cons c a ih=>
  rw[CZ,ade (h c (by simp)),ih (fun x hx=>h x (by simp[hx]))]
theorem ZW {l acc f r:F} (h:jc acc l=some (f,r)):r.length<l.length/\(r=[]\/ ∃d r',r=d :: r'/\(d=44\/d=13\/d=10)):=by
 have key: ∀n (l acc:F),l.length<=n->jc acc l=some (f,r)->r.length<l.length/\(r=[]\/ ∃d r',r=d :: r'/\(d=44\/d=13\/d=10)):=by
  intro n
  induction n with
  |zero=>intro l acc hl h;cases l with|nil=>cases h|cons c l=>simp at hl
  |succ n ih=>
   intro l acc hl h;cases l with
   |nil=>cases h
   |cons c l=>
    rw[CZ]at h
    split at h
    ·split at h
     ·cases h;exact⟨by simp,.inl rfl⟩
     rename_i d r'
     split at h
     ·have:=ih r' _ (by simp at hl;omega) h
      exact⟨by have:=this.1;simp;omega,this.2⟩
     split at h
     ·cases h
      exact⟨by simp,.inr ⟨_,_,rfl,by assumption⟩⟩
     cases h
    have:=ih l _ (by simp at hl;omega) h
    exact⟨by have:=this.1;simp;omega,this.2⟩
 exact key _ l acc (ac4 _) h
theorem aiI {p:UInt8->Bool} {l:F} {c:UInt8} {r:F} (h:l.dropWhile p=c :: r):p c=false:=by
 induction l with
 |nil=>cases h
 |cons a l ih=>
  rw[anD]at h
  split at h
  ·exact ih h
  rename_i ha;cases h
  simpa using ha
theorem dropWhile_le (p:UInt8->Bool) (l:F):(l.dropWhile p).length<=l.length:=by
 induction l with
 |nil=>simp
 |cons a l ih=>
  rw[anD]
  split
  ·simp;omega
  simp
theorem ZX {l f r:F} (h:rY l=some (f,r)):r.length<=l.length/\(r=[]\/ ∃d r',r=d :: r'/\(d=44\/d=13\/d=10)):=by
 unfold rY at h
 split at h
 ·cases h
 rename_i hne;simp only[aeK,afu]at h;obtain⟨rfl,rfl⟩:=h;refine⟨dropWhile_le _ _, ?_⟩
 cases hd:l.dropWhile (!special ·) with
 |nil=>exact .inl rfl
 |cons d r'=>
  refine .inr ⟨d,r',rfl, ?_⟩;have h1:=aiI hd;have h2:d≠34:=fun e=>hne r' (by rw[hd,e])
  simp only[special,aqz,af7,aeI]at h1
  rcases h1 with((h1|h1)|h1)|h1
  ·exact absurd h1 h2
  ·exact .inl h1
  ·exact .inr (.inl h1)
  exact .inr (.inr h1)
theorem ZY {l f r:F} (h:wR l=some (f,r)):r.length<=l.length/\(r=[]\/ ∃d r',r=d :: r'/\(d=44\/d=13\/d=10)):=by
 unfold wR at h
 split at h
 ·have:=ZW h
  exact⟨by simp;omega,this.2⟩
 exact ZX h
structure St where
 st:Nat
 rows:List (List F)
 row:List F
 field:F
def step (s:St) (c:UInt8):St ⊕ Nat:=
 if s.st=4 then(if c=10 then .inl ⟨0,s.rows++[s.row],[],[]⟩ else .inr 211)
 else if s.st=2 then(if c=34 then .inl ⟨3,s.rows,s.row,s.field⟩ else .inl ⟨2,s.rows,s.row,s.field++[c]⟩)
 else if c=34 then(if s.st=1 then .inr 210 else .inl ⟨2,s.rows,s.row,if s.st=3 then s.field++[c] else s.field⟩)
 else if c=44\/c=13 then .inl ⟨if c=13 then 4 else 0,s.rows,s.row++[s.field],[]⟩
 else if c=10 then .inr 211
 else if s.st=3 then .inr 210 else .inl ⟨1,s.rows,s.row,s.field++[c]⟩
def fin (s:St):List (List F)×Nat:=
 if s.st=2 then(s.rows,210)
 else if s.st=4 then(s.rows,211)
 else if 0<s.row.length\/0<s.field.length\/s.st≠0 then(s.rows++[s.row++[s.field]],0)
 else(s.rows,0)
def read:St->F->List (List F)×Nat
 |s,[]=>fin s
 |s,c :: l=>
  match step s c with
  |.inl s'=>read s' l
  |.inr e=>(s.rows,e)
theorem step_plain {s:St} {c:UInt8} (h:s.st=0\/s.st=1) (hc:special c=false):step s c=.inl ⟨1,s.rows,s.row,s.field++[c]⟩:=by
 simp only[special,Bool.or_eq_false_iff,adh]at hc;obtain⟨⟨⟨h1,h2⟩,h3⟩,h4⟩:=hc
 unfold step
 rw[ade (by omega),ade (by omega),ade h1,ade (by simp[h2,h3]),ade h4,ade (by omega)]
theorem Z4 (l:F): ∀s:St,(s.st=0\/s.st=1)-> ∃st',(st'=0\/st'=1)/\(st'=0->s.st=0/\l.takeWhile (!special ·)=[])/\
  read s l=read ⟨st',s.rows,s.row,s.field++l.takeWhile (!special ·)⟩ (l.dropWhile (!special ·)):=by
 induction l with
 |nil=>intro s h;exact⟨s.st,h,fun e=>⟨e,rfl⟩,by simp⟩
 |cons c l ih=>
  intro s h;rw[aqs,anD];cases hc:special c with
  |true=>exact⟨s.st,h,fun e=>⟨e,by simp⟩,by simp⟩
  |false=>
   obtain⟨st',h1,h2,h3⟩:=ih ⟨1,s.rows,s.row,s.field++[c]⟩ (.inr rfl)
   refine⟨st',h1,fun e=>absurd (h2 e).1 (by simp), ?_⟩
   rw[read,step_plain h hc]
   simpa using h3
theorem aiJ (n:Nat): ∀(l:F) (rows:List (List F)) (row:List F) (f:F),l.length<=n->read ⟨2,rows,row,f⟩ l=
  match jc f l with
  |none=>(rows,210)
  |some (g,r)=>read ⟨3,rows,row,g⟩ r:=by
 induction n with
 |zero=>intro l rows row f hl;cases l with|nil=>rfl|cons c l=>simp at hl
 |succ n ih=>
  intro l rows row f hl;cases l with
  |nil=>rfl
  |cons c l=>
   rw[read,CZ];by_cases hc:c=34
   ·subst hc
    have e:step ⟨2,rows,row,f⟩ 34=.inl ⟨3,rows,row,f⟩:=rfl;rw[e,adk rfl]
    dsimp only
    cases l with
    |nil=>rfl
    |cons d r=>
     dsimp only
     rw[read];by_cases hd:d=34
     ·subst hd
      rw[adk rfl];have e:step ⟨3,rows,row,f⟩ 34=.inl ⟨2,rows,row,f++[34]⟩:=rfl;rw[e]
      exact ih r rows row _ (by simp at hl;omega)
     rw[ade hd];by_cases h3:d=44\/d=13\/d=10
     ·rw[adk h3]
      dsimp only
      rw[read]
     rw[ade h3]
     have e:step ⟨3,rows,row,f⟩ d=.inr 210:=by
      unfold step;simp only[aox]at h3
      rw[ade (by simp),ade (by simp),ade hd,ade (by simp[h3.1,h3.2.1]),ade h3.2.2,adk rfl]
     rw[e]
   rw[ade hc]
   have e:step ⟨2,rows,row,f⟩ c=.inl ⟨2,rows,row,f++[c]⟩:=by
    unfold step;rw[ade (by simp),adk rfl,ade hc]
   rw[e];exact ih l rows row _ (by simp at hl;omega)
theorem O9 (rows:List (List F)) (row:List F) (f:F) (st:Nat) (hst:st=0\/st=1\/st=3) (r:F) (hr:r=[]\/ ∃d r',r=d :: r'/\(d=44\/d=13\/d=10)):
  read ⟨st,rows,row,f⟩ r=
   match r with
   |[]=>fin ⟨st,rows,row,f⟩
   |c :: r'=>if c=44 then read ⟨0,rows,row++[f],[]⟩ r' else if c=13/\r'.head?=some 10 then read ⟨0,rows++[row++[f]],[],[]⟩ r'.tail else(rows,211):=by
 rcases hr with rfl|⟨d,r',rfl,hd⟩
 ·rfl
 rw[read];have h4:st≠4:=by omega
 have h2:st≠2:=by omega
 rcases hd with rfl|rfl|rfl
 ·have e:step ⟨st,rows,row,f⟩ 44=.inl ⟨0,rows,row++[f],[]⟩:=by simp[step,h4,h2]
  rw[e];simp
 ·have e:step ⟨st,rows,row,f⟩ 13=.inl ⟨4,rows,row++[f],[]⟩:=by simp[step,h4,h2]
  rw[e]
  dsimp only
  cases r' with
  |nil=>rfl
  |cons a r'=>
   rw[read];by_cases ha:a=10
   ·subst ha;rfl
   have e:step ⟨4,rows,row++[f],[]⟩ a=.inr 211:=by simp[step,ha]
   rw[e];simp[ha]
 have e:step ⟨st,rows,row,f⟩ 10=.inr 211:=by simp[step,h4,h2]
 rw[e];simp
theorem aiK (rows:List (List F)) (row:List F) (l:F) (hne:row≠ []\/l≠ []):
  read ⟨0,rows,row,[]⟩ l=
   match wR l with
   |none=>(rows,210)
   |some (f,[])=>(rows++[row++[f]],0)
   |some (f,c :: r)=>if c=44 then read ⟨0,rows,row++[f],[]⟩ r else if c=13/\r.head?=some 10 then read ⟨0,rows++[row++[f]],[],[]⟩ r.tail else(rows,211):=by
 by_cases hq': ∃r,l=34 :: r
 ·obtain⟨r,rfl⟩:=hq'
  have ef:wR (34 :: r)=jc [] r:=rfl
  have er:read ⟨0,rows,row,[]⟩ (34 :: r)=read ⟨2,rows,row,[]⟩ r:=rfl
  rw[ef,er,aiJ _ r rows row [] (ac4 _)];cases hq:jc [] r with
  |none=>rfl
  |some x=>
   obtain⟨f,r'⟩:=x
   dsimp only
   rw[O9 rows row f 3 (by simp) r' (ZW hq).2]
   cases r'<;>simp[fin]
 have hne': ∀r,l≠34 :: r:=fun r e=>hq' ⟨r,e⟩
 rw[ZV hne'];obtain⟨st',h1,h2,h3⟩:=Z4 l ⟨0,rows,row,[]⟩ (.inl rfl);rw[h3]
 have hll:=apx (p:=(!special ·)) (l:=l)
 cases hp:rY l with
 |none=>
  unfold rY at hp
  split at hp
  ·rename_i x hx
   rw[hx]
   rcases h1 with rfl|rfl
   ·obtain⟨_,h5⟩:=h2 rfl
    have:l=34 :: x:=by rw[<-hll,h5,hx];rfl
    exact absurd this (hne' _)
   rfl
  cases hp
 |some x=>
  obtain⟨f,r⟩:=x;have hr:=(ZX hp).2;unfold rY at hp
  split at hp
  ·cases hp
  simp only[aeK,afu]at hp;obtain⟨h5,h6⟩:=hp
  dsimp only
  rw[aex,h5,h6,O9 rows row _ st' (by rcases h1 with h|h<;>simp[h]) _ hr]
  rw[h5,h6]at hll;cases r with
  |nil=>
   dsimp only
   unfold fin;rw[ade (by dsimp only;omega),ade (by dsimp only;omega),adk ?_]
   dsimp only
   rcases hne with hne|hne
   ·exact .inl (aeX.2 hne)
   refine .inr (.inl (aeX.2 fun e=>hne ?_))
   rw[<-hll,e];rfl
  |cons c r=>rfl
theorem TP (n:Nat): ∀(l:F) (rows:List (List F)) (row:List F),l.length<n->(row≠ []\/l≠ [])->
  (read ⟨0,rows,row,[]⟩ l=
   match rowA n row l with
   |(0,fs,r)=>read ⟨0,rows++[fs],[],[]⟩ r
   |(e+1,_,_)=>(rows,e+1))/\
  ((rowA n row l).1=0->(rowA n row l).2.2.length<l.length\/(l=[]/\(rowA n row l).2.2=[])):=by
 induction n with
 |zero=>intro l rows row h;omega
 |succ n ih=>
  intro l rows row h hne;rw[aiK rows row l hne];unfold rowA;cases hf:wR l with
  |none=>exact⟨rfl,fun h=>by simp at h⟩
  |some x=>
   obtain⟨f,r⟩:=x;have hr:=ZY hf;cases r with
   |nil=>
    dsimp only
    refine⟨by simp[read,fin],fun _=> ?_⟩
    cases l with
    |nil=>exact .inr ⟨rfl,rfl⟩
    |cons c l=>exact .inl (by simp)
   |cons c r=>
    dsimp only
    have hlen:=hr.1;simp only[adQ]at hlen;by_cases hc:c=44
    ·rw[adk hc,adk hc]
     have:=ih r rows (row++[f]) (by omega) (.inl (by simp))
     refine⟨this.1,fun h0=> ?_⟩
     rcases this.2 h0 with h1|⟨h1,h2⟩
     ·exact .inl (by omega)
     exact .inl (by rw[h2];simp;omega)
    rw[ade hc,ade hc]
    split
    ·refine⟨rfl,fun _=> .inl ?_⟩
     have:r.tail.length<=r.length:=by cases r<;>simp
     dsimp only
     omega
    exact⟨rfl,fun h=>by simp at h⟩
theorem aiL (n:Nat): ∀(acc:List (List F)) (l:F),(lN n acc l).1.length<=acc.length+l.length:=by
 induction n with
 |zero=>intro acc l;simp[lN]
 |succ n ih=>
  intro acc l;unfold lN;by_cases hl:l=[]
  ·rw[adk hl];simp
  rw[ade hl];have h2:=(TP (l.length+1) l [] [] (by omega) (.inr hl)).2
  generalize rowA (l.length+1) [] l=x at h2⊢
  obtain⟨e,fs,r⟩:=x;cases e with
  |zero=>
   dsimp only
   have:=ih (acc++[fs]) r;rw[adf]at this
   rcases h2 rfl with h3|⟨h3,_⟩
   ·simp only[aeM]at this h3;omega
   exact absurd h3 hl
  |succ e=>simp
theorem aiM (l:F):(rowsOf l).1.length<=l.length:=by
 have:=aiL (l.length+1) [] l
 simpa[rowsOf] using this
theorem aiN (n:Nat): ∀(l:F) (acc:List (List F)),l.length<n->lN n acc l=read ⟨0,acc,[],[]⟩ l:=by
 induction n with
 |zero=>intro l acc h;omega
 |succ n ih=>
  intro l acc h;unfold lN;by_cases hl:l=[]
  ·subst hl;rw[adk rfl];rfl
  rw[ade hl];obtain⟨h1,h2⟩:=TP (l.length+1) l acc [] (by omega) (.inr hl)
  rw[h1]
  generalize rowA (l.length+1) [] l=x at h2⊢
  obtain⟨e,fs,r⟩:=x;cases e with
  |zero=>
   dsimp only
   refine ih r _ ?_
   rcases h2 rfl with h3|⟨h3,_⟩
   ·simp only at h3;omega
   exact absurd h3 hl
  |succ e=>rfl
theorem TQ (l:F):rowsOf l=read ⟨0,[],[],[]⟩ l:=aiN _ l [] (by omega)
theorem aiO (f:F): ∀(rows:List (List F)) (row:List F) (g:F) (l:F),read ⟨2,rows,row,g⟩ (esc f++l)=read ⟨2,rows,row,g++f⟩ l:=by
 induction f with
 |nil=>intro rows row g l;simp[esc]
 |cons c f ih=>
  intro rows row g l;by_cases hc:c=34
  ·subst hc
   have e:esc (34 :: f)++l=34 :: 34 ::(esc f++l):=by simp[esc]
   rw[e,read];have e1:step ⟨2,rows,row,g⟩ 34=.inl ⟨3,rows,row,g⟩:=rfl;rw[e1]
   dsimp only
   rw[read];have e2:step ⟨3,rows,row,g⟩ 34=.inl ⟨2,rows,row,g++[34]⟩:=rfl;rw[e2]
   dsimp only
   rw[ih];simp
  have e:esc (c :: f)++l=c ::(esc f++l):=by simp[esc,hc]
  rw[e,read]
  have e1:step ⟨2,rows,row,g⟩ c=.inl ⟨2,rows,row,g++[c]⟩:=by
   unfold step;rw[ade (by simp),adk rfl,ade hc]
  rw[e1]
  dsimp only
  rw[ih];simp
theorem aiP {p:UInt8->Bool} {f l:F} (h: ∀x∈f,p x=true) (hl:l=[]\/ ∃c r,l=c :: r/\p c=false):(f++l).takeWhile p=f/\(f++l).dropWhile p=l:=by
 induction f with
 |nil=>
  rcases hl with rfl|⟨c,r,rfl,hc⟩
  ·exact⟨rfl,rfl⟩
  simp[hc]
 |cons a f ih=>
  obtain⟨h1,h2⟩:=ih (fun x hx=>h x (by simp[hx]))
  have ha:=h a (by simp)
  rw[afq,aqs,anD,ha];simp[h1,h2]
theorem Z5 (rows:List (List F)) (row:List F) (f:F) (c:UInt8) (l:F) (hc:c=44\/c=13):
  ∃st,(st=0\/st=1\/st=3)/\read ⟨0,rows,row,[]⟩ (qH f++c :: l)=read ⟨st,rows,row,f⟩ (c :: l):=by
 unfold qH;cases hs:f.any special with
 |true=>
  refine⟨3,by simp, ?_⟩
  have e:(if true=true then 34 :: esc f++[34] else f)++c :: l=34 ::(esc f++34 :: c :: l):=by simp
  rw[e,read];have e1:step ⟨0,rows,row,[]⟩ 34=.inl ⟨2,rows,row,[]⟩:=rfl;rw[e1]
  dsimp only
  rw[aiO,read];have e2:step ⟨2,rows,row,[]++f⟩ 34=.inl ⟨3,rows,row,f⟩:=rfl;rw[e2]
 |false=>
  have hsp:special c=true:=by rcases hc with rfl|rfl<;>rfl
  have hf: ∀x∈f,(!special x)=true:=fun x hx=>by
   have:=aop.1 hs x hx
   simpa using this
  obtain⟨h1,h2⟩:=aiP (p:=(!special ·)) (l:=c :: l) hf (.inr ⟨c,l,rfl,by simp[hsp]⟩)
  obtain⟨st',h3,_,h5⟩:=Z4 (f++c :: l) ⟨0,rows,row,[]⟩ (.inl rfl)
  refine⟨st',by rcases h3 with h|h<;>simp[h], ?_⟩
  rw[h1,h2]at h5
  simpa using h5
theorem aiQ (r:List F): ∀(rows:List (List F)) (row:List F) (k:Nat) (l:F),0<k->(∃p f,row=p++[f])->
  ∀p f,row=p++[f]-> ∀st,(st=0\/st=1\/st=3)->read ⟨st,rows,p,f⟩ (jv k r++[13,10]++l)=read ⟨0,rows++[row++r],[],[]⟩ l:=by
 induction r with
 |nil=>
  intro rows row k l hk _ p f hp st hst;have e:jv k []++[13,10]++l=13 :: 10 :: l:=rfl
  rw[e,O9 rows p f st hst _ (.inr ⟨13,10 :: l,rfl,by simp⟩)]
  simp[hp]
 |cons g r ih=>
  intro rows row k l hk _ p f hp st hst
  have e:jv k (g :: r)++[13,10]++l=44 ::(qH g ++(jv (k+1) r++[13,10]++l)):=by simp[jv,hk]
  rw[e,O9 rows p f st hst _ (.inr ⟨44,_,rfl,by simp⟩)]
  dsimp only
  rw[adk rfl,<-hp]
  have hfc: ∃c l',jv (k+1) r++[13,10]++l=c :: l'/\(c=44\/c=13):=by
   cases r with
   |nil=>exact⟨13,_,rfl,by simp⟩
   |cons a r=>exact⟨44,_,by simp[jv];rfl,by simp⟩
  obtain⟨c,l',hc,hcc⟩:=hfc;rw[hc];obtain⟨st',h1,h2⟩:=Z5 rows row g c l' hcc
  rw[h2,<-hc,ih rows (row++[g]) (k+1) l (by omega) ⟨row,g,rfl⟩ row g rfl st' h1]
  simp
theorem aiR (rows:List (List F)) (r:List F) (l:F) (hr:r≠ []):read ⟨0,rows,[],[]⟩ (printRow r++l)=read ⟨0,rows++[r],[],[]⟩ l:=by
 cases r with
 |nil=>exact absurd rfl hr
 |cons f r=>
  have e:printRow (f :: r)++l=qH f ++(jv 1 r++[13,10]++l):=by simp[printRow,jv]
  rw[e]
  have hfc: ∃c l',jv 1 r++[13,10]++l=c :: l'/\(c=44\/c=13):=by
   cases r with
   |nil=>exact⟨13,_,rfl,by simp⟩
   |cons a r=>exact⟨44,_,by simp[jv];rfl,by simp⟩
  obtain⟨c,l',hc,hcc⟩:=hfc;rw[hc];obtain⟨st',h1,h2⟩:=Z5 rows [] f c l' hcc
  rw[h2,<-hc,aiQ r rows [f] 1 l (by omega) ⟨[],f,rfl⟩ [] f rfl st' h1]
  simp
theorem aiS (rs:List (List F)): ∀(rows:List (List F)) (l:F),[]∉rs->read ⟨0,rows,[],[]⟩ (rs.flatMap printRow++l)=read ⟨0,rows++rs,[],[]⟩ l:=by
 induction rs with
 |nil=>intro rows l _;simp
 |cons r rs ih=>
  intro rows l h
  have e:(r :: rs).flatMap printRow++l=printRow r ++(rs.flatMap printRow++l):=by simp
  rw[e,aiR rows r _ (fun e=>h (by simp[e])),ih _ _ (fun e=>h (by simp[e]))]
  simp
theorem Z7 (rs:List (List F)) (h: []∉rs):rowsOf (rs.flatMap printRow)=(rs,0):=by
 rw[TQ];have:=aiS rs [] [] h;simp only[aey,aex]at this;rw[this];simp[read,fin]
end Go.Proofs.YtkdakckjafomhaaGreatDoor.ay
namespace Go.Proofs.YtkdakckjafomhaaGreatDoor
open Go.RowKit
theorem JO (b:Nat) (s:ByteArray) (a:Int) (at_:Nat) (w:World) (hb:au w b 140 #[.string s,.int .i64 a]) (ha:a=at_) (h:at_<s.size) (hs:s.size<=1073741824):
  Calls Tryz.prog 113 #[.pointer (some ⟨b,0,none⟩)] w fun e w'=>e=.returned (.tuple #[.int .u8 (s[at_]'h).toNat,.bool true])/\ ∃n,w.drewN n=w':=by
 subst ha;have h0:=hb.cell 0;have h1:=hb.cell 1;simp at h0 h1;have HB:=ah hb;clear hb
 have hd:decide ((s.size:Int)<=at_)=false:=by simp;omega
 have hi:((at_:Int))<s.size:=by omega
 go_enter Tryz.func113,Tryz.ntmps113;go_wp2
 go_quiet (fail)
 go_wp2
 go_quiet (fail)
 go_wp2
 go_ret2
 exact⟨rfl,_,(World.drewN_drewN _ _ _).symm⟩
theorem Pe (b:Nat) (s:ByteArray) (a:Int) (at_:Nat) (w:World) (hb:au w b 140 #[.string s,.int .i64 a]) (ha:a=at_) (h:s.size<=at_):
  Calls Tryz.prog 113 #[.pointer (some ⟨b,0,none⟩)] w fun e w'=>e=.returned (.tuple #[.int .u8 0,.bool false])/\ ∃n,w.drewN n=w':=by
 subst ha;have h0:=hb.cell 0;have h1:=hb.cell 1;simp at h0 h1;have HB:=ah hb;clear hb
 have hd:decide ((s.size:Int)<=at_)=true:=by simp;omega
 go_enter Tryz.func113,Tryz.ntmps113;go_wp2
 go_quiet (fail)
 go_wp2
 go_ret2
 exact⟨rfl,_,rfl⟩
def JQ (s:ByteArray) (b:Nat) (w:World) (res:Option (ay.F×ay.F)) (e:Ending) (w':World):Prop:=
 w.grownBy w' (some b)/\
 match res with
 |none=>e=.returned (.tuple #[.string ⟨#[]⟩,.int .i64 210])
 |some (f,r)=>e=.returned (.tuple #[.string ⟨f.toArray⟩,.int .i64 0])/\ ∃at':Nat,at'<=s.size/\s.data.toList.drop at'=r/\au w' b 140 #[.string s,.int .i64 at']
theorem Pg {s:ByteArray} {b:Nat} {w w':World} {f r:List UInt8} {v x:Value} (at':Nat) (hg:w.grownBy w' (some b)) (hv:v=.string ⟨f.toArray⟩) (hat:at'<=s.size) (hd:s.data.toList.drop at'=r)
  (hx:x=.int .i64 at') (hb:au w' b 140 #[.string s,x]):JQ s b w (some (f,r)) (.returned (.tuple #[v,.int .i64 0])) w':=by
 subst hv hx;exact⟨hg,rfl,at',hat,hd,hb⟩
theorem aiT (c:UInt8): [34,44,13,10].contains c=ay.special c:=by
 simp only[List.contains_cons,List.contains_nil,Bool.or_false,ay.special,Bool.or_assoc]
theorem aiU (l:List UInt8):(Lib.indexAny l [34,44,13,10]= -1/\l.dropWhile (!ay.special ·)=[]/\l.takeWhile (!ay.special ·)=l)\/
  (Lib.indexAny l [34,44,13,10]=((l.takeWhile (!ay.special ·)).length:Int)/\ ∃c r,l.dropWhile (!ay.special ·)=c :: r):=by
 induction l with
 |nil=>exact .inl ⟨rfl,rfl,rfl⟩
 |cons c l ih=>
  rw[Lib.indexAny,aiT,aqs,anD];cases hc:ay.special c with
  |true=>exact .inr ⟨by simp,c,l,by simp⟩
  |false=>
   rcases ih with⟨h1,h2,h3⟩|⟨h1,h2⟩
   ·exact .inl ⟨by simp[h1],by simp[h2],by simp[h3]⟩
   refine .inr ⟨?_,by simpa using h2⟩
   have hne:(Lib.indexAny l [34,44,13,10] == -1)=false:=by rw[h1];exact adh.2 (by omega)
   rw[hne,h1];simp
theorem Ph (s:ByteArray) (a:Nat):(s.extract a s.size).data.toList=s.data.toList.drop a:=by
 rw[Lib.extract_data,ado];rw[Lib.size_eq];simp
theorem Z8 (s:ByteArray) (a n:Nat) (h:a+n<=s.size):(s.extract a (a+n)).data.toList=(s.data.toList.drop a).take n:=by
 rw[Lib.extract_data]
 congr 1
 omega
theorem Z9 (s:ByteArray) (l:List UInt8) (h:s.data.toList=l):Value.string s=Value.string ⟨l.toArray⟩:=by subst h;rfl
theorem Ac {w:World} {b T:Nat} {x y:Value} (h:au w b T #[x,y]) (v:Value):au (w.setCell ⟨b,1,none⟩ v) b T #[x,v]:=h.bP 1 v
theorem aiV: ∀(j:Nat) b,(⟨#[34,44,13,10]⟩:ByteArray).data.toList[j]?=some b->b.toNat<128:=by
 intro j b h;have:b∈ [34,44,13,10]:=adI h;simp at this
 rcases this with rfl|rfl|rfl|rfl<;>decide
theorem aac (b:Nat) (s:ByteArray) (at_:Nat) (w:World) (hb:au w b 140 #[.string s,.int .i64 at_]) (hat:at_<=s.size) (hs:s.size<=1073741824):
  Calls Tryz.prog 115 #[.pointer (some ⟨b,0,none⟩)] w (JQ s b w (ay.rY (s.data.toList.drop at_))):=by
 have h0:=hb.cell 0;have h1:=hb.cell 1;simp at h0 h1;have hi:((at_:Int))<=s.size:=by omega
 obtain⟨R,hR⟩:=aj (Lib.indexAny (s.data.toList.drop at_) [34,44,13,10])
 have hia: ∀wx:World,Calls Tryz.prog 111 #[.string (s.extract at_ s.size),.string ⟨#[34,44,13,10]⟩] wx fun e w'=>e=.returned (.int .i64 R)/\Below wx.heap.size wx w':=fun wx=>
  (Ij _ _ wx (by simp;omega) (by decide) (by decide) aiV).mono fun e w' ⟨he,hw⟩=>⟨by rw[he,Ph];exact JC (int_eq hR),hw⟩
 have HB:=ah hb;clear hb
 have hl:(s.data.toList.drop at_).length=s.size - at_:=by rw[aej,<-Lib.size_eq]
 rcases aiU (s.data.toList.drop at_) with⟨k1,k2,k3⟩|⟨k1,c,r,k2⟩
 ·rw[hR]at k1
  subst k1
  have hpl:ay.rY (s.data.toList.drop at_)=some (s.data.toList.drop at_,[]):=by
   unfold ay.rY;rw[k2,k3]
  rw[hpl];have HK:=ah hR;clear hR k2 k3 hpl hl;go_enter Tryz.func115,Tryz.ntmps115;go_wp2
  go_still_tail 9,(by kernel_rfl)
  change wpList _ _ _ _ _ w.drew
  go_wp2_with (go_at_call 111;refine(hia _).mono ?_;rintro e w1 ⟨rfl,hb1⟩)
  have hB1:au w1 b 140 #[.string s,.int .i64 at_]:=au.below (w:=w.drew) HB.out hb1 (au.lt HB.out)
  have g0:=hB1.cell 0;have g1:=hB1.cell 1;have f1:=hB1.frozen 1;simp at g0 g1
  have HB1:=ah hB1;clear hB1
  go_quiet (fail)
  go_wp2
  go_quiet (fail)
  go_wp2_with fail
  refine(Pe b s _ s.size _ (Ac (w:=w1.drewN _) HB1.out _) (by omega) (ac4 _)).mono ?_
  rintro e w2 ⟨rfl,n2,rfl⟩;go_wp2
  go_ret2
  exact Pg s.size (nS (wQ (nS (EU (JB (mO w _)) hb1) _) (.inl rfl) _) n2) (Z9 _ _ (Ph s at_)) (ac4 _) (aeJ (by rw[Lib.size_eq];exact ac4 _))
   (int_eq (by omega)) (Ac (w:=w1.drewN _) HB1.out _)
 obtain⟨n,hn⟩:=aj (((s.data.toList.drop at_).takeWhile (!ay.special ·)).length)
 have hll:=apx (p:=(!ay.special ·)) (l:=s.data.toList.drop at_)
 rw[k2]at hll
 have hlt:at_+n<s.size:=by
  have:=aeH List.length hll;rw[adf,hn,hl]at this;simp at this;omega
 have htake:(s.data.toList.drop at_).takeWhile (!ay.special ·)=(s.data.toList.drop at_).take n:=by
  have:=List.take_left' (l₂:=c :: r) hn;rw[hll]at this;exact this.symm
 have hdrop:s.data.toList.drop (at_+n)=c :: r:=by
  rw[<-am3,<-hll,List.drop_left' hn]
 have hc:s[at_+n]'hlt=c:=by
  have h5:=yZ s (at_+n) hlt
  have h6:(s.data.toList.drop (at_+n))[0]?=some c:=by rw[hdrop];rfl
  rw[agh,aft,h5]at h6;exact ad4 h6
 rw[hR,hn]at k1;subst k1;have hin:((at_:Int)+n)<s.size:=by omega
 have hn0:decide ((n:Int)<0)=false:=ac5 (by omega)
 have HP:Hid (ay.rY (s.data.toList.drop at_)=if c=34 then none else some ((s.data.toList.drop at_).take n,c :: r)):=by
  show _=_
  unfold ay.rY;rw[k2,htake];by_cases fQ:c=34
  ·subst fQ;rfl
  rw[ade fQ]
  split
  ·rename_i heq
   cases heq;exact absurd rfl fQ
  rfl
 have HC:=ah hc;have HD:=ah hdrop;clear hR k2 hn hll hl htake hdrop hc
 go_enter Tryz.func115,Tryz.ntmps115;go_wp2
 go_still_tail 9,(by kernel_rfl)
 change wpList _ _ _ _ _ w.drew
 go_wp2_with (go_at_call 111;refine(hia _).mono ?_;rintro e w1 ⟨rfl,hb1⟩)
 have hB1:au w1 b 140 #[.string s,.int .i64 at_]:=au.below (w:=w.drew) HB.out hb1 (au.lt HB.out)
 have g0:=hB1.cell 0;have g1:=hB1.cell 1;have f1:=hB1.frozen 1;simp at g0 g1
 have HB1:=ah hB1;clear hB1
 go_quiet (fail)
 go_wp2_with fail
 refine(JO b s _ (at_+n) _ (Ac (w:=w1.drewN _) HB1.out _) (by omega) (by omega) hs).mono ?_
 rintro e w2 ⟨rfl,n2,rfl⟩;rw[HC.out]
 have hg:=nS (wQ (nS (EU (JB (mO w (some b))) hb1) nq) (p:=⟨b,1,none⟩) (.inl rfl) (.int .i64 ((at_:Int)+n))) n2
 have HG:=ah hg;clear hg;by_cases fQ:c=34
 ·subst fQ
  go_wp2
  go_ret2
  rw[HP.out]
  first|rw[adk rfl]|rw[adk trivial]
  exact⟨HG.out,rfl⟩
 have hcb:((c.toNat:Int) == 34)=false:=by
  refine adh.2 fun e=>fQ (afi.1 ?_)
  simp;omega
 go_wp2
 go_ret2
 rw[HP.out,ade fQ]
 exact Pg (at_+n) HG.out (Z9 _ _ (Z8 s at_ n (by omega))) (by omega) HD.out (int_eq (by omega)) (Ac (w:=w1.drewN _) HB1.out _)
def aiW (s:ByteArray) (b B:Nat) (w wx:World) (l0:List UInt8) (at':Nat) (acc:List UInt8):Prop:=
 w.grownBy wx (some b)/\au wx b 140 #[.string s,.int .i64 at']/\dP B B acc wx/\ay.jc [] l0=ay.jc acc (s.data.toList.drop at')/\acc.length<=at'
theorem aiX (b:Nat) (s:ByteArray) (at_:Nat) (w:World) (hb:au w b 140 #[.string s,.int .i64 at_]) (hat:at_<=s.size) (hs:s.size<=1073741823):
  Calls Tryz.prog 114 #[.pointer (some ⟨b,0,none⟩)] w (JQ s b w (ay.jc [] (s.data.toList.drop at_))):=by
 have hblt:=hb.lt;have HB:=ah hb;clear hb;go_enter Tryz.func114,Tryz.ntmps114;go_wp2
 go_loopg [5] (s.size - at_) (fun g _ wx=> ∃(at':Nat) (acc:List UInt8),at'+g=s.size/\aiW s b w.heap.size w wx (s.data.toList.drop at_) at' acc)
 case atStart=>exact⟨at_,[],by omega,wO (mO w _) _,(HB.out).alloc _,dP.fresh w,rfl,by simp⟩
 obtain⟨at',acc,hig,hrel⟩:=hrel;obtain⟨hg,hblk,ny,hq,hacc⟩:=hrel;have h0:=hblk.cell 0
 have h1:=hblk.cell 1;have f1:=hblk.frozen 1;simp at h0 h1
 have hi:((at':Int))<=s.size:=by omega
 obtain⟨R,hR⟩:=aj (Lib.indexByte (s.data.toList.drop at') 34)
 have hib: ∀wx:World,Calls Tryz.prog 163 #[.string (s.extract at' s.size),.int .u8 34] wx fun e w'=>e=.returned (.int .i64 R)/\w'=wx:=fun wx=>
  (Tryz.strings_IndexByte _ _ wx).mono fun e w' ⟨he,hw⟩=>⟨by rw[he,Ph];exact JC (int_eq hR),hw⟩
 have hl:(s.data.toList.drop at').length=s.size - at':=by rw[aej,<-Lib.size_eq]
 have HG:=ah hg;have HK:=ah hblk;have HQ:=ah hq;have HL:=ah ny;have HI:=ah hig
 have apA:gk<=s.size:=by omega
 clear hg hblk hq ny hig
 rcases Zd (s.data.toList.drop at') 34 with⟨k1,k2⟩|⟨n,r,k1,k2,k3,k4⟩
 ·rw[hR]at k1
  subst k1;have HN:=ah (ay.aiH _ k2 acc);clear k2 hR hl;go_wp2
  go_quiet ((go_at_call 163;first|exact Calls.quiet_of_same (hib _)|exact ET (hib _)))
  go_wp2
  go_ret2
  have e:ay.jc [] (s.data.toList.drop at_)=none:=HQ.trans HN.out;rw[e]
  exact⟨nS HG.out _,rfl⟩
 rw[hR]at k1;subst k1;have hlt:at'+n<s.size:=by omega
 have hsn:(s.data.toList.drop at').take n=(s.extract at' (at'+n)).data.toList:=(Z8 s at' n (by omega)).symm
 have hdrop:s.data.toList.drop (at'+(n+1))=r:=by
  rw[<-am3];have:=aeH (List.drop (n+1)) k2;rw[this,arh]
  have:((s.data.toList.drop at').take n).length=n:=by rw[aeb,hl];omega
  rw[this,aeJ (by omega)]
  simp
 have HN:Hid (ay.jc [] (s.data.toList.drop at_)=ay.jc (acc ++(s.extract at' (at'+n)).data.toList) (34 :: r)):=by
  show _=_
  rw[HQ.out,k2,ay.aiG _ k3,hsn]
 have HD:=ah hdrop;have hn0:decide ((n:Int)<0)=false:=ac5 (by omega)
 have hin:((at':Int)+n)<s.size:=by omega
 clear hR hl k2 k3 hsn hdrop k4;go_wp2
 go_quiet ((go_at_call 163;first|exact Calls.quiet_of_same (hib _)|exact ET (hib _)))
 go_wp2;have h0':(wr.drewN nq).cell? ⟨b,0,none⟩=some (.string s):=h0
 have h1':(wr.drewN nq).cell? ⟨b,1,none⟩=some (.int .i64 at'):=h1
 have VD:=ah (nS HG.out nq)
 have I7:Hid (au (wr.drewN nq) b 140 #[.string s,.int .i64 at']):=HK.out
 have HL':Hid (dP w.heap.size w.heap.size acc (wr.drewN nq)):=HL.out
 clear h0 h1 f1 HG HK HL hib
 generalize wr.drewN nq=W at*
 have hwr:IntKind.i64.wrap ((at':Int)+n)=at'+n:=IntWalk.i64_in _ (by omega)
 have hwn:((at':Int)+n).toNat=at'+n:=by omega
 have hwl:((at':Int)+n)<=s.size:=by omega
 have hw0:(0:Int)<=(at':Int)+n:=by omega
 have hw1:(at':Int)<=(at':Int)+n:=by omega
 go_still_tail 15,(by kernel_rfl)
 clear hwr hwn hwl hw0 hw1
 change wpList _ _ _ _ _ W.drew
 go_wp2_with fail
 refine(uf w.heap.size w.heap.size acc (s.extract at' (at'+n)) W.drew HL'.out (by simp;omega) (by omega) VD.out.size).mono ?_
 rintro e w1 ⟨rfl,adC,eX,_⟩
 have hblk1:au w1 b 140 #[.string s,.int .i64 at']:=au.below (w:=W.drew) I7.out eX hblt
 have hg1:w.grownBy w1 (some b):=OM (JB VD.out) eX (ac4 _);have g0:=hblk1.cell 0
 have g1:=hblk1.cell 1;have f1:=hblk1.frozen 1;simp at g0 g1;have qQ:=ah hg1
 have bW:=ah hblk1;have mD:=ah adC;clear hg1 hblk1 adC VD I7 HL' h0' h1';go_wp2_with fail
 have KX:Hid (au (w1.setCell ⟨b,1,none⟩ (.int .i64 ((at':Int)+((n:Int)+1)))) b 140 #[.string s,.int .i64 ((at':Int)+((n:Int)+1))]):=Ac bW.out _
 have FQ:Hid (w.grownBy (w1.setCell ⟨b,1,none⟩ (.int .i64 ((at':Int)+((n:Int)+1)))) (some b)):=wQ qQ.out (.inl rfl) _
 have nY:Hid (dP w.heap.size w.heap.size (acc ++(s.extract at' (at'+n)).data.toList) (w1.setCell ⟨b,1,none⟩ (.int .i64 ((at':Int)+((n:Int)+1))))):=dP.Zn mD.out (grownBy_set _ _ _) hblt
 have hsz:(s.extract at' (at'+n)).data.toList.length=n:=by rw[<-Lib.size_eq];simp;omega
 have hal:(acc ++(s.extract at' (at'+n)).data.toList).length<=at'+n:=by rw[adf,hsz];omega
 clear g0 g1 f1 bW qQ mD hsz
 generalize acc ++(s.extract at' (at'+n)).data.toList=VE at HN nY hal
 generalize w1.setCell ⟨b,1,none⟩ (.int .i64 ((at':Int)+((n:Int)+1)))=W2 at*
 by_cases hend:s.size<=at'+n+1
 ·refine(Pe b s _ (at'+n+1) _ KX.out (by omega) hend).mono ?_
  rintro e w3 ⟨rfl,n3,rfl⟩;go_wp2_with fail
  refine(EX w.heap.size w.heap.size _ _ (show dP _ _ _ (W2.drewN n3) from nY.out) FQ.size).mono ?_
  rintro e w4 ⟨rfl,DJ,xG,_⟩
  have hr:r=[]:=by
   have:=HD.out;rw[aeJ (by have:=Lib.size_eq s;omega)]at this
   exact this.symm
  go_wp2
  go_ret2
  rw[HN.out,hr,ay.CZ,adk rfl]
  exact Pg (at'+n+1) (OM (nS FQ.out n3) xG (ac4 _)) rfl (by omega) (by rw[amQ,HD.out,hr]) (int_eq (by omega)) (au.below (w:=W2.drewN n3) KX.out xG hblt)
 have hend':at'+n+1<s.size:=by omega
 obtain⟨c,hc⟩:=aj (s[at'+n+1]'hend')
 obtain⟨r',hr⟩: ∃r',r=c :: r':=by
  refine⟨s.data.toList.drop (at'+(n+1)+1), ?_⟩
  rw[<-HD.out,aez (by have:=Lib.size_eq s;omega)]
  congr 1
 have HR:=ah hr;have HC:=ah hc;clear hr hc
 refine(JO b s _ (at'+n+1) _ KX.out (by omega) hend' (by omega)).mono ?_
 rintro e w3 ⟨rfl,n3,rfl⟩;rw[HC.out];by_cases fQ:c=34
 ·subst fQ
  go_wp2_with fail
  refine(EW w.heap.size w.heap.size _ _ _ (show dP _ _ _ (W2.drewN n3) from nY.out) (by omega) (by omega) (by omega) FQ.size).mono ?_
  rintro e w4 ⟨rfl,DJ,xG,_⟩
  have KY:au w4 b 140 #[.string s,.int .i64 ((at':Int)+((n:Int)+1))]:=au.below (w:=W2.drewN n3) KX.out xG hblt
  have g0:=KY.cell 0;have g1:=KY.cell 1;have f1:=KY.frozen 1;simp at g0 g1;have eY:=ah KY
  have HL4:=ah DJ;have Qy:=ah (OM (nS FQ.out n3) xG (ac4 _));clear KY DJ
  have hq2:ay.jc [] (s.data.toList.drop at_)=ay.jc (VE++[34]) (s.data.toList.drop (at'+n+2)):=by
   rw[HN.out,HR.out,ay.CZ,adk rfl]
   dsimp only
   rw[adk rfl]
   congr 1
   have:=aeH (List.drop 1) HD.out;rw[am3,HR.out]at this;exact this.symm
  have iT:=ah hq2;clear hq2;go_wp2
  go_roundg (s.size -(at'+n+2))
  case measure=>have:=HI.out;omega
  exact⟨at'+n+2,VE++[34],by omega,wQ Qy.out (.inl rfl) _,(by have:=Ac eY.out (.int .i64 ((at':Int)+((n:Int)+1)+1));rw[show((at'+n+2:Nat):Int)=(at':Int)+((n:Int)+1)+1 by omega];exact this),dP.Zn HL4.out (grownBy_set _ _ _) hblt,iT.out,by simp;omega⟩
 have hcb:((c.toNat:Int) == 34)=false:=by
  refine adh.2 fun e=>fQ (afi.1 ?_)
  simp;omega
 by_cases h3:c=44\/c=13\/c=10
 ·have hcl:HR.out=HR.out:=rfl
  clear hcl hcb
  rcases h3 with rfl|rfl|rfl
  all_goals
   go_wp2_with fail
   refine(EX w.heap.size w.heap.size _ _ (show dP _ _ _ (W2.drewN n3) from nY.out) FQ.size).mono ?_
   rintro e w4 ⟨rfl,DJ,xG,_⟩;go_wp2
   go_ret2
   rw[HN.out,HR.out,ay.CZ,adk rfl]
   exact Pg (at'+n+1) (OM (nS FQ.out n3) xG (ac4 _)) rfl (by omega) (by rw[amQ,HD.out,HR.out]) (int_eq (by omega)) (au.below (w:=W2.drewN n3) KX.out xG hblt)
 simp only[aox]at h3;obtain⟨iU,h13,h10⟩:=h3
 have e44:((c.toNat:Int) !=44)=true:=by
  rw[adY];exact fun e=>iU (afi.1 (by simp;omega))
 have e13:((c.toNat:Int) !=13)=true:=by
  rw[adY];exact fun e=>h13 (afi.1 (by simp;omega))
 have e10:((c.toNat:Int) !=10)=true:=by
  rw[adY];exact fun e=>h10 (afi.1 (by simp;omega))
 have HF:Hid (ay.jc VE (34 :: c :: r')=none):=by
  show _=_
  rw[ay.CZ,adk rfl]
  dsimp only
  rw[ade fQ,ade (by simp[iU,h13,h10])]
 clear iU h13 h10 fQ;go_wp2
 go_ret2
 rw[HN.out,HR.out,HF.out];exact⟨nS FQ.out _,rfl⟩
end Go.Proofs.YtkdakckjafomhaaGreatDoor
