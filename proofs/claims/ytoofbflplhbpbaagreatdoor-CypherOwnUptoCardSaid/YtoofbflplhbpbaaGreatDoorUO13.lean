/- Contracts and plain laws,part 13. -/
import Derived.Test.YtoofbflplhbpbaaGreatDoorUO12
import Derived.Deep.Slices
set_option maxHeartbeats 64000000
set_option maxRecDepth 1000000
set_option linter.all false
namespace Go.Proofs.YtoofbflplhbpbaaGreatDoor.Gr
open Go
abbrev L:=List UInt8
structure P where
 key:L
 val:ak.V
structure N where
 id:Int
 labels:List L
 props:List P
structure R where
 id:Int
 type:L
 src:Int
 dst:Int
 props:List P
structure G where
 nodes:List N
 au:List R
def G0:G:=⟨[], []⟩
def dw (s:L):Bool:=decide (s≠ []) && decide (s.length<=40) && !(s.head?.any Num.aP) && s.all Lex.bV
section
variable {κ α:Type} (f:Option κ->α->Nat) (key:α->κ)
def first:Option κ->List α->Nat->Nat×Nat
 | _, [],_=>(0,0)
 | p,a :: r,i=>if f p a≠0 then (f p a,i) else first (some (key a)) r (i+1)
def aG (l:List α):Nat->Option κ
 | 0=>none
 | k+1=>l[k]?.map key
theorem QL: ∀(l:List α) (p:Option κ) (i k:Nat),k<=l.length->(∀j a,j<k->l[j]?=some a->f (if j=0 then p else aG key l j) a=0)->
  first f key p l i=first f key (if k=0 then p else aG key l k) (l.drop k) (i+k)
 | l,p,i,0,_,_=>by simp
 | [],p,i,k+1,h,_=>by simp at h
 | a :: r,p,i,k+1,h,h0=>by
  have ha:f p a=0:=h0 0 a (by omega) rfl
  have:=QL r (some (key a)) (i+1) k (by simpa using h) (fun j b hj hb=>by
   have:=h0 (j+1) b (by omega) (by simpa using hb)
   rw [ab6 (by omega)] at this
   cases j with
   | zero=>simpa [aG] using this
   | succ j=>rw [ab6 (by omega)];simpa [aG] using this)
  rw [first,ab6 (by rw [ha];decide),this,ab6 (show¬k+1=0 by omega),adU]
  congr 1
  ·cases k with
   | zero=>simp [aG]
   | succ k=>rw [ab6 (by omega)];simp [aG]
  omega
theorem Bh {l:List α} {i:Nat} (h0: ∀j a,l[j]?=some a->f (aG key l j) a=0):first f key none l i=(0,0):=by
 have:=QL f key l none i l.length (ab1 _) (fun j a _ ha=>by
  have:=h0 j a ha;cases j with
  | zero=>simpa [aG] using this
  | succ j=>rw [ab6 (by omega)];exact this)
 rw [this,aoV,first]
theorem QM {l:List α} {i k:Nat} {a:α} {e:Nat} (ha:l[k]?=some a) (he:f (aG key l k) a=e) (hne:e≠0) (h0: ∀j a,j<k->l[j]?=some a->f (aG key l j) a=0):first f key none l i=(e,i+k):=by
 obtain ⟨hk,hka⟩:=acy.1 ha
 have:=QL f key l none i k (by omega) (fun j a hj ha=>by
  have:=h0 j a hj ha;cases j with
  | zero=>simpa [aG] using this
  | succ j=>rw [ab6 (by omega)];exact this)
 rw [this,adC hk,hka,first]
 have hp:(if k=0 then none else aG key l k)=aG key l k:=by
  cases k with
  | zero=>rfl
  | succ k=>rw [ab6 (by omega)]
 rw [hp,he,ab7 hne]
theorem YG: ∀(l:List α) (p:Option κ) (i:Nat),(first f key p l i).1=0-> ∀j a,l[j]?=some a->f (if j=0 then p else aG key l j) a=0
 | [],_,_,_,j,a,h=>by simp at h
 | b :: r,p,i,h,j,a,hj=>by
  rw [first] at h
  split at h
  ·rename_i hne
   exact absurd h hne
  rename_i hne;have hb:f p b=0:=Decidable.not_not.1 hne;cases j with
  | zero=>simp only [ab9,ads] at hj;subst hj;simpa using hb
  | succ j=>
   have:=YG r (some (key b)) (i+1) h j a (by simpa using hj)
   rw [ab6 (by omega)]
   cases j with
   | zero=>simpa [aG] using this
   | succ j=>rw [ab6 (by omega)] at this;simpa [aG] using this
theorem MO {l:List α} {i:Nat} (h:(first f key none l i).1=0): ∀j a,l[j]?=some a->f (aG key l j) a=0:=fun j a ha=>by
 have:=YG f key l none i h j a ha;cases j with
 | zero=>simpa [aG] using this
 | succ j=>rw [ab6 (by omega)] at this;exact this
end
def jY (prev:Option L) (p:P):Nat:=if dw p.key=false then 60 else if prev.any (fun q=>decide (p.key<=q))=true then 6 else ak.check p.val
def dV (ps:List P):Nat:=if 16<ps.length then 64 else (first jY P.key none ps 0).1
def labelWrong (prev:Option L) (l:L):Nat:=if dw l=false then 60 else if prev.any (fun q=>decide (l<=q))=true then 6 else 0
def uj (ls:List L):Nat:=if 8<ls.length then 63 else (first labelWrong id none ls 0).1
def iI (prev:Option Int) (n:N):Nat:=
 if n.id<0\/1024<=n.id then 61 else if prev.any (fun q=>decide (n.id<=q))=true then 6 else if uj n.labels≠0 then uj n.labels else dV n.props
def jf (ids:List Int) (prev:Option Int) (r:R):Nat:=
 if r.id<0\/2048<=r.id then 62 else if prev.any (fun q=>decide (r.id<=q))=true then 6 else if dw r.type=false then 60 else
 if r.src∉ids\/r.dst∉ids then 65 else dV r.props
def dedup:List L->List L
 | []=> []
 | a :: r=>if a∈r then dedup r else a :: dedup r
def oL (g:G):List L:=g.nodes.flatMap N.labels
def names2 (g:G):List L:=g.au.map R.type
def fH (g:G):List P:=g.nodes.flatMap N.props ++ g.au.flatMap R.props
def nS (g:G):List L:=(fH g).map P.key
def kQ (v:ak.V):Nat:=
 if v.kind<4 then (if v.kind=1 then 2 else 9) else if v.kind=4 then 3+v.text.length else
 2+v.nums.length*(if v.kind=5 then 1 else 8)+(v.texts.map fun t=>2+t.length).sum
def bM (ps:List P):Nat:=(ps.map fun p=>kQ p.val).sum
def weight (g:G):Nat:=bM (fH g)
def check (g:G):Nat×Nat:=
 if (first iI N.id none g.nodes 0).1≠0 then first iI N.id none g.nodes 0 else
 if (first (jf (g.nodes.map N.id)) R.id none g.au g.nodes.length).1≠0 then first (jf (g.nodes.map N.id)) R.id none g.au g.nodes.length else
 if 200<(dedup (oL g)).length\/200<(dedup (names2 g)).length\/200<(dedup (nS g)).length then (66,0) else
 if 262144<weight g then (67,0) else (0,0)
theorem Iu {x:L}: ∀{l:List L},x∈dedup l↔x∈l
 | []=>by simp [dedup]
 | a :: r=>by
  rw [dedup]
  split
  ·rename_i h
   rw [Iu,adK];exact ⟨.inr,fun h'=>h'.elim (fun e=>e▸h) id⟩
  rw [adK,adK,Iu]
theorem MP: ∀l:List L,(dedup l).Nodup
 | []=>by simp [dedup]
 | a :: r=>by
  rw [dedup]
  split
  ·exact MP r
  rename_i h;exact List.nodup_cons.2 ⟨fun h'=>h (Iu.1 h'),MP r⟩
theorem agG {a b:List L} (ha:a.Nodup) (hb:b.Nodup) (h: ∀x,x∈a↔x∈b):a.Perm b:=(List.perm_ext_iff_of_nodup ha hb).2 h
theorem agH {a l:List L} (ha:a.Nodup) (h: ∀x,x∈a↔x∈l):a.length=(dedup l).length:=(agG ha (MP l) (fun x=>(h x).trans Iu.symm)).length_eq
def nJ {α κ:Type} (le:κ->κ->Bool) (key:α->κ) (l:List α):List α:=l.mergeSort fun a b=>le (key a) (key b)
def uo (ps:List P):List P:=nJ (fun a b:L=>decide (a<=b)) P.key ps
def xF (ls:List L):List L:=nJ (fun a b:L=>decide (a<=b)) id ls
def rU (n:N):N:=⟨n.id,xF n.labels,uo n.props⟩
def vK (r:R):R:=⟨r.id,r.type,r.src,r.dst,uo r.props⟩
def canon (g:G):G:=⟨nJ (fun a b:Int=>decide (a<=b)) N.id (g.nodes.map rU),nJ (fun a b:Int=>decide (a<=b)) R.id (g.au.map vK)⟩
end Go.Proofs.YtoofbflplhbpbaaGreatDoor.Gr
namespace Go.Proofs.YtoofbflplhbpbaaGreatDoor
open Go.RowKit
def cZ {α:Type} (W:World) (B size:Nat) (R:α->List Value->Prop) (A:Option Addr) (l:List α):Prop:=
 ∀(i:Nat) (a:α),l[i]?=some a-> ∃b off cs,A=some ⟨b,off,none⟩/\b<B/\R a cs/\cs.length=size/\ ∀(j:Nat) u,cs[j]?=some u->W.cell? ⟨b,off+i*size+j,none⟩=some u
theorem cZ.below {α:Type} {W W':World} {B size:Nat} {R R':α->List Value->Prop} {A:Option Addr} {l:List α} (h:cZ W B size R A l) (hb:Below B W W') (hR: ∀a cs,R a cs->R' a cs):cZ W' B size R' A l:=fun i a ha=>by
 obtain ⟨b,off,cs,e,hlt,hr,hl,hc⟩:=h i a ha
 exact ⟨b,off,cs,e,hlt,hR _ _ hr,hl,fun j u hu=>(hb.cell (by exact hlt)).trans (hc j u hu)⟩
theorem cZ.more {α:Type} {W:World} {B B' size:Nat} {R R':α->List Value->Prop} {A:Option Addr} {l:List α} (h:cZ W B size R A l) (hb:B<=B') (hR: ∀a cs,R a cs->R' a cs):cZ W B' size R' A l:=fun i a ha=>by
 obtain ⟨b,off,cs,e,hlt,hr,hl,hc⟩:=h i a ha;exact ⟨b,off,cs,e,by omega,hR _ _ hr,hl,hc⟩
theorem cZ.nil {α:Type} {W:World} {B size:Nat} {R:α->List Value->Prop} {A:Option Addr}:cZ W B size R A []:=fun i a ha=>by simp at ha
theorem cZ.je {α:Type} {W:World} {base e size c:Nat} {R:α->List Value->Prop} {A:Option Addr} {l:List α} {f:α->List Value} (h:W.ownsRow base e size (.slice A l.length c) l.length (l.flatMap f)) (hf: ∀a∈l,(f a).length=size) (hR: ∀a∈l,R a (f a)):cZ W W.heap.size size R A l:=fun i a ha=>by
 obtain ⟨hi,hia⟩:=acy.1 ha;obtain ⟨b,off,e,hb,hc⟩:=(Reads.je h).2 (by omega)
 have hm:a∈l:=acf ha;refine ⟨b,off,f a,e,hb,hR a hm,hf a hm,fun j u hu=> ?_⟩
 have hj:j<size:=by have:=(acy.1 hu).1;rw [hf a hm] at this;exact this
 have key: ∀(l:List α) (i:Nat) (a:α),(∀a∈l,(f a).length=size)->l[i]?=some a->(f a)[j]?=some u->(l.flatMap f)[i*size+j]?=some u:=by
  intro l
  induction l with
  | nil=>intro i a _ h;simp at h
  | cons x r ih=>
   intro i a hf h hu;rw [adz];have hx:(f x).length=size:=hf x (by simp)
   cases i with
   | zero=>
    simp only [ab9,ads] at h;subst h;rw [am8,akA,aky (by omega)]
    exact hu
   | succ i=>
    rw [aei (by rw [hx,alm];omega)]
    have:=ih i a (fun a ha=>hf a (by simp [ha])) (by simpa using h) hu
    rw [hx,show (i+1)*size+j - size=i*size+j by rw [alm];omega]
    exact this
 have:=hc _ u (key l i a hf ha hu)
 rwa [<-akR] at this
def aQ (W:World) (B:Nat) (p:Gr.P) (cs:List Value):Prop:=
 ∃An cn At ct,cs= [ST p.key, .int .i64 p.val.kind, .int .i64 p.val.num,ST p.val.text, .slice An p.val.nums.length cn, .slice At p.val.texts.length ct]/\Reads W B 1 An p.val.nums.length (p.val.nums.map I64)/\Reads W B 1 At p.val.texts.length (p.val.texts.map ST)
def gZ (W:World) (B:Nat) (n:Gr.N) (cs:List Value):Prop:=
 ∃Al cl Ap cp,cs= [.int .i64 n.id, .slice Al n.labels.length cl, .slice Ap n.props.length cp]/\Reads W B 1 Al n.labels.length (n.labels.map ST)/\cZ W B 6 (aQ W B) Ap n.props
def ig (W:World) (B:Nat) (r:Gr.R) (cs:List Value):Prop:=
 ∃Ap cp,cs= [.int .i64 r.id,ST r.type, .int .i64 r.src, .int .i64 r.dst, .slice Ap r.props.length cp]/\cZ W B 6 (aQ W B) Ap r.props
theorem aQ.below {W W':World} {B:Nat} (hb:Below B W W') (p:Gr.P) (cs:List Value) (h:aQ W B p cs):aQ W' B p cs:=by
 obtain ⟨An,cn,At,ct,e,h1,h2⟩:=h;exact ⟨An,cn,At,ct,e,h1.below hb,h2.below hb⟩
theorem gZ.below {W W':World} {B:Nat} (hb:Below B W W') (n:Gr.N) (cs:List Value) (h:gZ W B n cs):gZ W' B n cs:=by
 obtain ⟨Al,cl,Ap,cp,e,h1,h2⟩:=h
 exact ⟨Al,cl,Ap,cp,e,h1.below hb,h2.below hb (aQ.below hb)⟩
theorem ig.below {W W':World} {B:Nat} (hb:Below B W W') (r:Gr.R) (cs:List Value) (h:ig W B r cs):ig W' B r cs:=by
 obtain ⟨Ap,cp,e,h2⟩:=h;exact ⟨Ap,cp,e,h2.below hb (aQ.below hb)⟩
theorem aQ.more {W:World} {B B':Nat} (hb:B<=B') (p:Gr.P) (cs:List Value) (h:aQ W B p cs):aQ W B' p cs:=by
 obtain ⟨An,cn,At,ct,e,h1,h2⟩:=h;exact ⟨An,cn,At,ct,e,h1.more hb,h2.more hb⟩
theorem gZ.more {W:World} {B B':Nat} (hb:B<=B') (n:Gr.N) (cs:List Value) (h:gZ W B n cs):gZ W B' n cs:=by
 obtain ⟨Al,cl,Ap,cp,e,h1,h2⟩:=h;exact ⟨Al,cl,Ap,cp,e,h1.more hb,h2.more hb (aQ.more hb)⟩
theorem ig.more {W:World} {B B':Nat} (hb:B<=B') (r:Gr.R) (cs:List Value) (h:ig W B r cs):ig W B' r cs:=by
 obtain ⟨Ap,cp,e,h2⟩:=h;exact ⟨Ap,cp,e,h2.more hb (aQ.more hb)⟩
structure pV (p:Gr.P):Prop where
 key:p.key.length<=1073741824
 val:BN p.val
structure DW (n:Gr.N):Prop where
 id:ak.In64 n.id
 ll:n.labels.length<=1073741824
 ls: ∀l∈n.labels,l.length<=1073741824
 pl:n.props.length<=1073741824
 ps: ∀p∈n.props,pV p
structure Gl (r:Gr.R):Prop where
 id:ak.In64 r.id
 tl:r.type.length<=1073741824
 src:ak.In64 r.src
 dst:ak.In64 r.dst
 pl:r.props.length<=1073741824
 ps: ∀p∈r.props,pV p
structure xZ (g:Gr.G):Prop where
 nl:g.nodes.length<=1073741824
 ns: ∀n∈g.nodes,DW n
 rl:g.au.length<=1073741824
 rs: ∀r∈g.au,Gl r
structure fE (W:World) (B:Nat) (u:Value) (g:Gr.G):Prop where
 ex: ∃An cn Ar cr,u= .agg #[.slice An g.nodes.length cn, .slice Ar g.au.length cr]/\cZ W B 3 (gZ W B) An g.nodes/\cZ W B 5 (ig W B) Ar g.au
 ok:xZ g
theorem fE.below {W W':World} {B:Nat} {u:Value} {g:Gr.G} (h:fE W B u g) (hb:Below B W W'):fE W' B u g:=by
 obtain ⟨An,cn,Ar,cr,e,h1,h2⟩:=h.ex
 exact ⟨⟨An,cn,Ar,cr,e,h1.below hb (gZ.below hb),h2.below hb (ig.below hb)⟩,h.ok⟩
theorem fE.more {W:World} {B B':Nat} {u:Value} {g:Gr.G} (h:fE W B u g) (hb:B<=B'):fE W B' u g:=by
 obtain ⟨An,cn,Ar,cr,e,h1,h2⟩:=h.ex
 exact ⟨⟨An,cn,Ar,cr,e,h1.more hb (gZ.more hb),h2.more hb (ig.more hb)⟩,h.ok⟩
end Go.Proofs.YtoofbflplhbpbaaGreatDoor
namespace Go.Proofs.YtoofbflplhbpbaaGreatDoor
open Go.Joins Go.ChangeShapes Go.WideShapes Go.ChangeAt Go.RowKit Go.Deep
theorem agI {H:Type} (d:DataW H):1<=Rows.uptoBulk d:=by
 cases d with
 | lit l=>cases l<;> simp [Rows.uptoBulk]
 | _=>simp [Rows.uptoBulk]
theorem agJ {H:Type} (l r:List (DataW H)):Rows.uptoBulkAll (l ++ r)=Rows.uptoBulkAll l+Rows.uptoBulkAll r:=by
 induction l with
 | nil=>simp [Rows.uptoBulkAll]
 | cons x l ih=>simp only [adV,Rows.uptoBulkAll,ih];omega
theorem YH {H:Type} (D:Nat->DataW H): ∀len,len<=Rows.uptoBulkAll ((List.range len).map D)/\ ∀i,i<len->Rows.uptoBulk (D i)<=Rows.uptoBulkAll ((List.range len).map D)
 | 0=>⟨anN _,fun i h=>by omega⟩
 | len+1=>by
  have ih:=YH D len;have hp:=agI (D len);rw [List.range_succ,ade,agJ]
  simp only [adA,aek,Rows.uptoBulkAll];refine ⟨by omega,fun i hi=> ?_⟩
  by_cases e:i=len
  ·subst e;omega
  have:=ih.2 i (by omega);omega
section
variable {H:Type} {enc:TypeId×Value->H} {W:World}
theorem QN {α:Type} {t e:TypeId} {k n M:Nat} {v:Value} {y:DataW H×List MemPlace} {R:α->List Value->Prop} {Q:α->Prop} (ht:Tryz.prog.underlying t=some (.slice e)) (hk:Tryz.prog.cellsOf e=k) (hk0:0<k)
  (h:DataW.trod enc Tryz.prog W 0 (fun _=>true) true n t [v]=some y) (hM:Rows.uptoBulk y.1<=M)
  (hel: ∀m cs d p,DataW.trod enc Tryz.prog W 0 (fun _=>true) true m e cs=some (d,p)->Rows.uptoBulk d<=M-> ∃a,R a cs/\Q a):
  ∃A c,∃l:List α,v= .slice A l.length c/\cZ W W.heap.size k R A l/\(∀a∈l,Q a)/\l.length<=M:=by
 rcases open_slice ht h with ⟨hc,hx⟩ |⟨a,len,cap,mm,m,D,Pl,hc,_,hl,hm,hmm,hx,hall⟩
 ·simp only [akq,al7] at hc
  exact ⟨none,0, [],hc,cZ.nil,by simp,by simp⟩
 simp only [akq,al7] at hc;simp only [alQ] at hmm;subst hmm;rw [hk] at hall
 have hb:=YH D len;rw [hx] at hM;simp only [Rows.uptoBulk] at hM
 have hone: ∀i:Fin len,∃a' cs',R a' cs'/\Q a'/\cs'.length=k/\ ∀j,j<k->W.cell? ((a.add (i.1*k)).add j)=cs'[j]?:=fun i=>by
  obtain ⟨cs',h1,h2⟩:=hall i.1 (by have:=i.2;omega)
  obtain ⟨_,hlen,hcell⟩:=World.cells?_some h1
  obtain ⟨a',h3,h4⟩:=hel _ _ _ _ h2 (by have:=hb.2 i.1 i.2;omega)
  exact ⟨a',cs',h3,h4,hlen,hcell⟩
 let F:Fin len->α:=fun i=>(hone i).choose
 have hF:=fun i=>(hone i).choose_spec
 refine ⟨some a,mm,List.ofFn F,by rw [aoW];exact hc,fun i a' ha=> ?_,fun a' ha=> ?_,by rw [aoW];omega⟩
 ·obtain ⟨hi,e1⟩:=acy.1 ha
  rw [aoW] at hi;rw [List.getElem_ofFn] at e1;obtain ⟨cs',h1,h2,h3,h4⟩:=hF ⟨i,hi⟩
  obtain ⟨cs0,g1,g2,g3,g4⟩:=hF ⟨0,by omega⟩
  obtain ⟨u0,hu0⟩: ∃u,cs0[0]?=some u:=⟨_,ab2 (by omega)⟩
  have c0:=(g4 0 hk0).trans hu0
  have hsp:a.spot=none:=by simpa [Addr.add] using World.cell?_spot c0
  obtain ⟨b,o,sp⟩:=a;simp only at hsp;subst hsp
  refine ⟨b,o,cs',rfl,by have:=cell_lt c0;simpa [X8] using this,by rw [<-e1];exact h1,h3,fun j u hu=> ?_⟩
  have hj:j<k:=by have:=(acy.1 hu).1;omega
  have:=(h4 j hj).trans hu
  rwa [y7,y7] at this
 obtain ⟨i,e1⟩:=List.mem_ofFn.1 ha;obtain ⟨cs',h1,h2,h3,h4⟩:=hF i;rw [<-e1];exact h2
theorem MQ {t:TypeId} {fs:Array Field} {n:Nat} {cs:List Value} {y:DataW H×List MemPlace} (hs:Tryz.prog.underlying t=some (.struct fs)) (hone:oneCellFields Tryz.prog fs=true) (h:DataW.trod enc Tryz.prog W 0 (fun _=>true) true n t cs=some y):
  ∃(xs:List (DataW H×List MemPlace)) (m:Nat),y.1= .agg (xs.map (·.1))/\cs.length=Tryz.prog.cellsOf t/\xs.length=fs.size/\ ∀(i:Nat) (f:Field),fs[i]?=some f->DataW.trod enc Tryz.prog W 0 (fun _=>true) true m f.type ((cs.drop i).take 1)=xs[i]?:=by
 obtain ⟨xs,m,_,hx,hl,hlen,hg⟩:=DataW.trod_struct hs h
 refine ⟨xs,m,by rw [hx],hl,hlen,fun i f hf=> ?_⟩
 obtain ⟨o,k⟩:=hone_of hone i f hf;have:=hg i f hf
 rwa [o,k] at this
theorem agK {n:Nat} {c1 c2 c3 c4 c5:Value} {y:DataW H×List MemPlace} (h:DataW.trod enc Tryz.prog W 0 (fun _=>true) true n 25 [c1,c2,c3,c4,c5]=some y) (hk:Rows.uptoBulk y.1<=1048576):
  ∃v:ak.V,BN v/\ ∃An cn At ct,c1= .int .i64 v.kind/\c2= .int .i64 v.num/\c3=ST v.text/\c4= .slice An v.nums.length cn/\c5= .slice At v.texts.length ct/\Reads W W.heap.size 1 An v.nums.length (v.nums.map I64)/\Reads W W.heap.size 1 At v.texts.length (v.texts.map ST):=by
 obtain ⟨xs,m,hy,-,hlen,hg⟩:=MQ Tryz.underlying25 (by kernel_rfl) h
 match xs,hlen with
 | [y0,y1,y2,y3,y4],_=>
  have h0:=hg 0 _ rfl;have h1:=hg 1 _ rfl;have h2:=hg 2 _ rfl;have h3:=hg 3 _ rfl
  have h4:=hg 4 _ rfl;simp only [aeC,adU,akt,akd,ab9,acB] at h0 h1 h2 h3 h4
  obtain ⟨k,e0,z0,w0⟩:=DataW.trod_int Tryz.underlying3 h0
  obtain ⟨q,e1,z1,w1⟩:=DataW.trod_int Tryz.underlying2 h1
  obtain ⟨s,e2,z2,w2⟩:=DataW.trod_string Tryz.underlying9 h2
  obtain ⟨A3,d3,ns,e3,r3,i3,b3⟩:=agF h3;obtain ⟨A4,d4,ts,e4,r4,i4,b4⟩:=YF h4
  simp only [akq,al7] at e0 e1 e2;subst e0 e1 e2 e3 e4;rw [hy] at hk
  simp only [adA,aek,Rows.uptoBulk,Rows.uptoBulkAll,z2] at hk
  simp only [Lit.wf,adr,acZ] at w0 w1
  exact ⟨⟨k,q,s.data.toList,ns,ts⟩,⟨w0,w1,i3,by show s.data.toList.length<=_;omega,by show ns.length<=_;omega,by show ts.length<=_;omega,fun t ht=>by have:=i4 t ht;omega⟩,A3,d3,A4,d4,rfl,rfl,rfl,rfl,rfl,r3,r4⟩
theorem agL {n:Nat} {cs:List Value} {d:DataW H} {p:List MemPlace} (h:DataW.trod enc Tryz.prog W 0 (fun _=>true) true n 61 cs=some (d,p)) (hk:Rows.uptoBulk d<=1048576): ∃q:Gr.P,aQ W W.heap.size q cs/\pV q:=by
 obtain ⟨xs,m,_,hx,hl,hlen,hg⟩:=DataW.trod_struct Tryz.underlying61 h
 rw [show Tryz.prog.cellsOf 61=6 by kernel_rfl] at hl
 match cs,hl with
 | [c0,c1,c2,c3,c4,c5],_=>
  match xs,hlen with
  | [y0,y1],_=>
   have h0:DataW.trod enc Tryz.prog W 0 (fun _=>true) true m 9 (([c0,c1,c2,c3,c4,c5].drop 0).take (Tryz.prog.cellsOf 9))=some y0:=hg 0 _ rfl
   have h1:DataW.trod enc Tryz.prog W 0 (fun _=>true) true m 25 (([c0,c1,c2,c3,c4,c5].drop 1).take (Tryz.prog.cellsOf 25))=some y1:=hg 1 _ rfl
   rw [show Tryz.prog.cellsOf 9=1 by kernel_rfl] at h0
   rw [show Tryz.prog.cellsOf 25=5 by kernel_rfl] at h1
   obtain ⟨s,e0,z0,w0⟩:=DataW.trod_string Tryz.underlying9 h0
   obtain rfl:c0= .string s:=by simpa using e0
   rw [(Prod.mk.inj hx).1] at hk
   simp only [adA,aek,Rows.uptoBulk,Rows.uptoBulkAll,z0] at hk
   obtain ⟨v,hv,An,cn,At,ct,rfl,rfl,rfl,rfl,rfl,r1,r2⟩:=agK (y:=y1) h1 (by omega)
   exact ⟨⟨s.data.toList,v⟩,⟨An,cn,At,ct,rfl,r1,r2⟩,⟨by show s.data.toList.length<=_;omega,hv⟩⟩
theorem YI {n:Nat} {v:Value} {y:DataW H×List MemPlace} (h:DataW.trod enc Tryz.prog W 0 (fun _=>true) true n 57 [v]=some y) (hk:Rows.uptoBulk y.1<=1048576):
  ∃A c,∃l:List Gr.P,v= .slice A l.length c/\cZ W W.heap.size 6 (aQ W W.heap.size) A l/\(∀a∈l,pV a)/\l.length<=1048576:=
 QN Tryz.underlying57 (by kernel_rfl) (by decide) h hk fun _ _ _ _ h1 h2=>agL h1 h2
theorem agM {n:Nat} {cs:List Value} {d:DataW H} {p:List MemPlace} (h:DataW.trod enc Tryz.prog W 0 (fun _=>true) true n 59 cs=some (d,p)) (hk:Rows.uptoBulk d<=1048576): ∃q:Gr.N,gZ W W.heap.size q cs/\(DW q/\q.labels.length<=1048576/\q.props.length<=1048576):=by
 obtain ⟨xs,m,hy,hl,hlen,hg⟩:=MQ Tryz.underlying59 (by kernel_rfl) h
 rw [show Tryz.prog.cellsOf 59=3 by kernel_rfl] at hl
 match cs,hl with
 | [c0,c1,c2],_=>
  match xs,hlen with
  | [y0,y1,y2],_=>
   have h0:DataW.trod enc Tryz.prog W 0 (fun _=>true) true m 3 [c0]=some y0:=hg 0 _ rfl
   have h1:DataW.trod enc Tryz.prog W 0 (fun _=>true) true m 23 [c1]=some y1:=hg 1 _ rfl
   have h2:DataW.trod enc Tryz.prog W 0 (fun _=>true) true m 57 [c2]=some y2:=hg 2 _ rfl
   have hy:d= .agg [y0.1,y1.1,y2.1]:=hy;rw [hy] at hk
   simp only [Rows.uptoBulk,Rows.uptoBulkAll] at hk
   obtain ⟨k,e0,z0,w0⟩:=DataW.trod_int Tryz.underlying3 h0
   obtain rfl:c0= .int .i64 k:=by simpa using e0
   obtain ⟨A1,d1,ts,rfl,r1,i1,b1⟩:=YF h1;obtain ⟨A2,d2,ps,rfl,r2,i2,b2⟩:=YI h2 (by omega)
   simp only [Lit.wf,adr,acZ] at w0
   exact ⟨⟨k,ts,ps⟩,⟨A1,d1,A2,d2,rfl,r1,r2⟩,⟨⟨w0,by show ts.length<=_;omega,fun t ht=>by have:=i1 t ht;omega,by show ps.length<=_;omega,i2⟩,by show ts.length<=_;omega,b2⟩⟩
theorem agN {n:Nat} {cs:List Value} {d:DataW H} {p:List MemPlace} (h:DataW.trod enc Tryz.prog W 0 (fun _=>true) true n 63 cs=some (d,p)) (hk:Rows.uptoBulk d<=1048576): ∃q:Gr.R,ig W W.heap.size q cs/\(Gl q/\q.props.length<=1048576):=by
 obtain ⟨xs,m,hy,hl,hlen,hg⟩:=MQ Tryz.underlying63 (by kernel_rfl) h
 rw [show Tryz.prog.cellsOf 63=5 by kernel_rfl] at hl
 match cs,hl with
 | [c0,c1,c2,c3,c4],_=>
  match xs,hlen with
  | [y0,y1,y2,y3,y4],_=>
   have h0:DataW.trod enc Tryz.prog W 0 (fun _=>true) true m 3 [c0]=some y0:=hg 0 _ rfl
   have h1:DataW.trod enc Tryz.prog W 0 (fun _=>true) true m 9 [c1]=some y1:=hg 1 _ rfl
   have h2:DataW.trod enc Tryz.prog W 0 (fun _=>true) true m 3 [c2]=some y2:=hg 2 _ rfl
   have h3:DataW.trod enc Tryz.prog W 0 (fun _=>true) true m 3 [c3]=some y3:=hg 3 _ rfl
   have h4:DataW.trod enc Tryz.prog W 0 (fun _=>true) true m 57 [c4]=some y4:=hg 4 _ rfl
   have hy:d= .agg [y0.1,y1.1,y2.1,y3.1,y4.1]:=hy;rw [hy] at hk
   obtain ⟨k,e0,z0,w0⟩:=DataW.trod_int Tryz.underlying3 h0
   obtain ⟨s,e1,z1,w1⟩:=DataW.trod_string Tryz.underlying9 h1
   obtain ⟨k2,e2,z2,w2⟩:=DataW.trod_int Tryz.underlying3 h2
   obtain ⟨k3,e3,z3,w3⟩:=DataW.trod_int Tryz.underlying3 h3
   simp only [adA,aek,Rows.uptoBulk,Rows.uptoBulkAll,z1] at hk
   obtain rfl:c0= .int .i64 k:=by simpa using e0
   obtain rfl:c1= .string s:=by simpa using e1
   obtain rfl:c2= .int .i64 k2:=by simpa using e2
   obtain rfl:c3= .int .i64 k3:=by simpa using e3
   obtain ⟨A2,d2,ps,rfl,r2,i2,b2⟩:=YI h4 (by omega)
   simp only [Lit.wf,adr,acZ] at w0 w2 w3
   exact ⟨⟨k,s.data.toList,k2,k3,ps⟩,⟨A2,d2,rfl,r2⟩,⟨⟨w0,by show s.data.toList.length<=_;omega,w2,w3,by show ps.length<=_;omega,i2⟩,b2⟩⟩
theorem YJ {r:Reach} {b0:Nat} {v:Value} {d:DataW H} {p:List MemPlace} (hv:Value.okWide Tryz.prog W r b0 39 v) (h:DataW.Trod enc Tryz.prog W 0 (fun _=>true) true 39 v d p) (hk:Rows.uptoBulk d<=1048576):
  ∃g,fE W W.heap.size v g/\(g.nodes.length<=1048576/\g.au.length<=1048576/\(∀n∈g.nodes,n.labels.length<=1048576/\n.props.length<=1048576)/\ ∀r∈g.au,r.props.length<=1048576):=by
 obtain ⟨cs,rfl,hsz⟩:=okWide_struct Tryz.underlying39 hv
 rw [show Tryz.prog.cellsOf 39=2 by kernel_rfl] at hsz
 obtain ⟨l⟩:=cs
 match l,hsz with
 | [c0,c1],_=>
  obtain ⟨fuel,hf⟩:=h;obtain ⟨xs,m,hy,-,hlen,hg⟩:=MQ Tryz.underlying39 (by kernel_rfl) hf
  match xs,hlen with
  | [y0,y1],_=>
   have h0:DataW.trod enc Tryz.prog W 0 (fun _=>true) true m 36 [c0]=some y0:=hg 0 _ rfl
   have h1:DataW.trod enc Tryz.prog W 0 (fun _=>true) true m 37 [c1]=some y1:=hg 1 _ rfl
   have hy:d= .agg [y0.1,y1.1]:=hy;rw [hy] at hk
   simp only [Rows.uptoBulk,Rows.uptoBulkAll] at hk
   obtain ⟨A1,d1,ns,rfl,r1,i1,b1⟩:=QN (k:=3) (M:=1048576) (R:=gZ W W.heap.size) (Q:=fun q=>DW q/\q.labels.length<=1048576/\q.props.length<=1048576) Tryz.underlying36 (by kernel_rfl) (by decide) h0 (by omega) fun _ _ _ _ h1 h2=>agM h1 h2
   obtain ⟨A2,d2,rs,rfl,r2,i2,b2⟩:=QN (k:=5) (M:=1048576) (R:=ig W W.heap.size) (Q:=fun q=>Gl q/\q.props.length<=1048576) Tryz.underlying37 (by kernel_rfl) (by decide) h1 (by omega) fun _ _ _ _ h1 h2=>agN h1 h2
   exact ⟨⟨ns,rs⟩,⟨⟨A1,d1,A2,d2,rfl,r1,r2⟩,⟨by show ns.length<=_;omega,fun n hn=>(i1 n hn).1,by show rs.length<=_;omega,fun n hn=>(i2 n hn).1⟩⟩,b1,b2,fun n hn=>(i1 n hn).2,fun n hn=>(i2 n hn).2⟩
theorem MR {r:Reach} {b0:Nat} {v:Value} {d:DataW H} {p:List MemPlace} (hv:Value.okWide Tryz.prog W r b0 39 v) (h:DataW.Trod enc Tryz.prog W 0 (fun _=>true) true 39 v d p) (hk:Rows.uptoBulk d<=1048576):
  ∃g,fE W W.heap.size v g:=by
 obtain ⟨g,hg,-⟩:=YJ hv h hk;exact ⟨g,hg⟩
end
end Go.Proofs.YtoofbflplhbpbaaGreatDoor
namespace Go.Proofs.YtoofbflplhbpbaaGreatDoor.Cy
open Go
abbrev L:=List UInt8
def word (k:Int):L:=if k=1 then [98,111,111,108] else if k=2 then [105,110,116] else if k=3 then [102,108,111,97,116] else [116,101,120,116]
def scalar (k n:Int) (t:L):L:=if k=1 then (if n=1 then ak.TRUE else ak.FALSE) else if k=2 then Lib.itoa n else if k=3 then Num.fmt (ak.u64 n) else Lex.quote t
def join (sep:L):List L->L
 | []=> []
 | [a]=>a
 | a :: b :: r=>a ++ sep ++ join sep (b :: r)
def parts (v:ak.V):List L:=v.nums.map (fun n=>scalar (v.kind - 4) n []) ++ v.texts.map (fun t=>scalar (v.kind - 4) 0 t)
def lit (v:ak.V):L:=if v.kind<=4 then scalar v.kind v.num v.text else [91,58] ++ word (v.kind - 4) ++(if parts v= [] then [] else 32 :: join [44,32] (parts v)) ++ [93]
def rV (v:ak.V):L×Nat:=if ak.check v=0 then (lit v,0) else ([],ak.check v)
def iq (p:Gr.P):L:=p.key ++ [58,32] ++ lit p.val
def jL (ps:List Gr.P):L:=if ps= [] then [] else [32,123] ++ join [44,32] (ps.map iq) ++ [125]
def jM:L:= [67,82,69,65,84,69]
def bY (n:Gr.N):L:=jM ++ [32,40,110] ++ Lib.itoa n.id ++ n.labels.flatMap (fun l=>58 :: l) ++ jL n.props ++ [41,59,10]
def bD (r:Gr.R):L:=jM ++ [32,40,110] ++ Lib.itoa r.src ++ [41,45,91,114] ++ Lib.itoa r.id ++ [58] ++ r.type ++ jL r.props ++ [93,45,62,40,110] ++ Lib.itoa r.dst ++ [41,59,10]
def lines (g:Gr.G):List L:=g.nodes.map bY ++ g.au.map bD
def print (g:Gr.G):L:=(lines g).flatten
def lC (g:Gr.G):L×Nat:=if (Gr.check g).1=0 then (print g,0) else ([],(Gr.check g).1)
abbrev T:=List Lex.Tok
structure aZ where
 rel:Bool
 first:L
 word:L
 other:L
 names:List L
 props:List Gr.P
def mark (m:L):T->Option T
 | []=>none
 | t :: r=>if t.kind=5/\t.text=m then some r else none
def jg:T->Option (L×T)
 | []=>none
 | t :: r=>if t.kind=1 then some (t.text,r) else none
def nK:T->Option ((Int×Int×L)×T)
 | []=>none
 | t :: r=>
  if t.kind=1 then (if t.text=ak.TRUE then some ((1,1, []),r) else if t.text=ak.FALSE then some ((1,0, []),r) else none) else
  if t.kind=2 then some ((2,t.num, []),r) else
  if t.kind=3 then some ((3,t.num, []),r) else
  if t.kind=4 then some ((4,0,t.text),r) else none
def kindOf (w:L):Int:=if w=word 1 then 1 else if w=word 2 then 2 else if w=word 3 then 3 else if w=word 4 then 4 else 0
def elems (k:Int):Nat->T->List Int->List L->Option ((List Int×List L)×T)
 | 0,_,_,_=>none
 | f+1,l,ns,ts=>
  match nK l with
  | none=>none
  | some ((j,n,t),r)=>
   if j≠k then none else
   match mark [93] r with
   | some r'=>some ((if k=4 then ns else ns ++ [n],if k=4 then ts ++ [t] else ts),r')
   | none=>
    match mark [44] r with
    | none=>none
    | some r'=>elems k f r' (if k=4 then ns else ns ++ [n]) (if k=4 then ts ++ [t] else ts)
def qG (l:T):Option (ak.V×T):=
 match mark [91] l with
 | none=>(nK l).map fun x=>(⟨x.1.1,x.1.2.1,x.1.2.2, [], []⟩,x.2)
 | some r=>
  match mark [58] r with
  | none=>none
  | some r=>
   match jg r with
   | none=>none
   | some (w,r)=>
    if kindOf w=0 then none else
    match mark [93] r with
    | some r=>some (⟨kindOf w+4,0, [], [], []⟩,r)
    | none=>(elems (kindOf w) (r.length+1) r [] []).map fun x=>(⟨kindOf w+4,0, [],x.1.1,x.1.2⟩,x.2)
def xG:Nat->T->List Gr.P->Option (List Gr.P×T)
 | 0,_,_=>none
 | f+1,l,acc=>
  match jg l with
  | none=>none
  | some (k,r)=>
   match mark [58] r with
   | none=>none
   | some r=>
    match qG r with
    | none=>none
    | some (v,r)=>
     match mark [125] r with
     | some r=>some (acc ++ [⟨k,v⟩],r)
     | none=>
      match mark [44] r with
      | none=>none
      | some r=>xG f r (acc ++ [⟨k,v⟩])
def o9 (l:T):Option (List Gr.P×T):=
 match mark [123] l with
 | none=>some ([],l)
 | some r=>
  match mark [125] r with
  | some r=>some ([],r)
  | none=>xG (r.length+1) r []
def rW:Nat->T->List L->Option (List L×T)
 | 0,_,_=>none
 | f+1,l,acc=>
  match mark [58] l with
  | none=>some (acc,l)
  | some r=>
   match jg r with
   | none=>none
   | some (w,r)=>rW f r (acc ++ [w])
def Iw (first:L) (l:T):Option (aZ×T):=
 match mark [91] l with
 | none=>none
 | some l=>
  match jg l with
  | none=>none
  | some (w,l)=>
   match mark [58] l with
   | none=>none
   | some l=>
    match jg l with
    | none=>none
    | some (ty,l)=>
     match o9 l with
     | none=>none
     | some (ps,l)=>
      match mark [93] l with
      | none=>none
      | some l=>
       match mark [45,62] l with
       | none=>none
       | some l=>
        match mark [40] l with
        | none=>none
        | some l=>
         match jg l with
         | none=>none
         | some (o,l)=>(mark [41] l).map fun l=>(⟨true,first,w,o, [ty],ps⟩,l)
def rX (l:T):Option (aZ×T):=
 match mark [40] l with
 | none=>none
 | some l=>
  match jg l with
  | none=>none
  | some (w,l)=>
   match rW (l.length+1) l [] with
   | none=>none
   | some (ls,r)=>
    match o9 r with
    | none=>none
    | some (ps,r')=>
     match mark [41] r' with
     | none=>none
     | some r''=>
      if ls≠ []\/(mark [123] r).isSome=true then some (⟨false,w, [], [],ls,ps⟩,r'') else
      match mark [45] r'' with
      | none=>some (⟨false,w, [], [],ls,ps⟩,r'')
      | some r=>Iw w r
def pats:Nat->T->List aZ->Option (List aZ×T)
 | 0,_,_=>none
 | f+1,l,acc=>
  match rX l with
  | none=>none
  | some (p,r)=>
   match mark [59] r with
   | some r=>some (acc ++ [p],r)
   | none=>
    match mark [44] r with
    | none=>none
    | some r=>pats f r (acc ++ [p])
def script:Nat->T->List aZ->Option (List aZ)
 | 0,_,_=>none
 | _+1, [],acc=>some acc
 | f+1,t :: r,acc=>
  if t.kind=1/\t.text=jM then
   match pats (r.length+1) r acc with
   | none=>none
   | some (acc,r)=>script f r acc
  else none
def patterns (l:T):Option (List aZ):=script (l.length+1) l []
def mX (c:UInt8) (most:Int):L->Option Int
 | []=>none
 | d :: r=>if d=c/\(Num.fQ r).2=0/\0<=(Num.fQ r).1/\(Num.fQ r).1<most then some (Num.fQ r).1 else none
def y8:List L->List L->Nat
 | _, []=>0
 | seen,l :: r=>if Gr.dw l=false then 60 else if l∈seen then 7 else y8 (seen ++ [l]) r
def dV:List L->List Gr.P->Nat
 | _, []=>0
 | seen,p :: r=>if Gr.dw p.key=false then 60 else if p.key∈seen then 7 else if ak.check p.val≠0 then ak.check p.val else dV (seen ++ [p.key]) r
def endP (g:Gr.G) (w:L):Int×Nat:=
 match mX 110 1024 w with
 | none=>(0,61)
 | some n=>if n∈g.nodes.map Gr.N.id then (n,0) else (0,65)
def addNode (g:Gr.G) (p:aZ):Gr.G×Nat:=
 match mX 110 1024 p.first with
 | none=>(g,61)
 | some n=>
  if n∈g.nodes.map Gr.N.id then (g,7) else
  if y8 [] p.names≠0 then (g,y8 [] p.names) else
  (⟨g.nodes ++ [⟨n,p.names,p.props⟩],g.au⟩,dV [] p.props)
def Bj (g:Gr.G) (p:aZ):Gr.G×Nat:=
 if (endP g p.first).2≠0 then (g,(endP g p.first).2) else
 match mX 114 2048 p.word with
 | none=>(g,62)
 | some n=>
  if n∈g.au.map Gr.R.id then (g,7) else
  if Gr.dw (p.names.headD [])=false then (g,60) else
  if dV [] p.props≠0 then (g,dV [] p.props) else
  (⟨g.nodes,g.au ++ [⟨n,p.names.headD [],(endP g p.first).1,(endP g p.other).1,p.props⟩]⟩,(endP g p.other).2)
def add (g:Gr.G) (p:aZ):Gr.G×Nat:=if p.rel then Bj g p else addNode g p
def make:Gr.G->List aZ->Gr.G×Nat
 | g, []=>(g,0)
 | g,p :: r=>if (add g p).2≠0 then (Gr.G0,(add g p).2) else make (add g p).1 r
def parse (s:L):Gr.G×Nat:=
 match (Lex.read s).2 with
 | some (_,e)=>(Gr.G0,e)
 | none=>
  match patterns (Lex.read s).1 with
  | none=>(Gr.G0,250)
  | some ps=>
   if (make Gr.G0 ps).2≠0 then (Gr.G0,(make Gr.G0 ps).2) else
   if (Gr.check (Gr.canon (make Gr.G0 ps).1)).1≠0 then (Gr.G0,(Gr.check (Gr.canon (make Gr.G0 ps).1)).1) else (Gr.canon (make Gr.G0 ps).1,0)
end Go.Proofs.YtoofbflplhbpbaaGreatDoor.Cy
namespace Go.Proofs.YtoofbflplhbpbaaGreatDoor.Gr
open Go
theorem agO {κ α:Type} (key:α->κ) (l:List α) (k:Nat):aG key l (k+1)=l[k]?.map key:=rfl
theorem QO {κ α:Type} {key:α->κ} {l:List α} {k:Nat} {a:α} (h:l[k]?=some a):aG key l (k+1)=some (key a):=by rw [agO,h];rfl
structure YK (prev:Option L) (p:P):Prop where
 name:dw p.key=true
 lt: ∀q,prev=some q-> ¬p.key<=q
 val:ak.check p.val=0
theorem YL {prev:Option L} {p:P}:jY prev p=0↔YK prev p:=by
 unfold jY
 constructor
 ·intro h
  split at h
  ·omega
  rename_i h1
  split at h
  ·omega
  rename_i h2;refine ⟨by simpa using h1,fun q hq=> ?_,h⟩
  subst hq
  simpa using h2
 intro h;rw [ab6 (by rw [h.name];decide),ab6,h.val]
 cases prev with
 | none=>simp
 | some q=>simpa using h.lt q rfl
structure uq (ps:List P):Prop where
 len:ps.length<=16
 all: ∀(j:Nat) p,ps[j]?=some p->YK (aG P.key ps j) p
theorem MS {ps:List P}:dV ps=0↔uq ps:=by
 unfold dV
 constructor
 ·intro h
  split at h
  ·omega
  exact ⟨by omega,fun j p hp=>YL.1 (MO jY P.key h j p hp)⟩
 intro h;rw [ab6 (by have:=h.len;omega),Bh jY P.key fun j p hp=>YL.2 (h.all j p hp)]
theorem uq.val {ps:List P} (h:uq ps): ∀p∈ps,ak.check p.val=0:=fun p hp=>by
 obtain ⟨j,hj,e⟩:=ad2 hp;exact (h.all j p (by rw [ab2 hj,e])).val
theorem uq.name {ps:List P} (h:uq ps): ∀p∈ps,dw p.key=true:=fun p hp=>by
 obtain ⟨j,hj,e⟩:=ad2 hp;exact (h.all j p (by rw [ab2 hj,e])).name
structure YM (prev:Option L) (l:L):Prop where
 name:dw l=true
 lt: ∀q,prev=some q-> ¬l<=q
theorem YN {prev:Option L} {l:L}:labelWrong prev l=0↔YM prev l:=by
 unfold labelWrong
 constructor
 ·intro h
  split at h
  ·omega
  rename_i h1
  split at h
  ·omega
  rename_i h2;refine ⟨by simpa using h1,fun q hq=> ?_⟩
  subst hq
  simpa using h2
 intro h;rw [ab6 (by rw [h.name];decide),ab6]
 cases prev with
 | none=>simp
 | some q=>simpa using h.lt q rfl
structure Iy (ls:List L):Prop where
 len:ls.length<=8
 all: ∀(j:Nat) l,ls[j]?=some l->YM (aG id ls j) l
theorem YO {ls:List L}:uj ls=0↔Iy ls:=by
 unfold uj
 constructor
 ·intro h
  split at h
  ·omega
  exact ⟨by omega,fun j p hp=>YN.1 (MO labelWrong id h j p hp)⟩
 intro h;rw [ab6 (by have:=h.len;omega),Bh labelWrong id fun j p hp=>YN.2 (h.all j p hp)]
structure QS (prev:Option Int) (n:N):Prop where
 lo:0<=n.id
 hi:n.id<1024
 lt: ∀q,prev=some q->q<n.id
 labels:Iy n.labels
 props:uq n.props
theorem MV {prev:Option Int} {n:N}:iI prev n=0↔QS prev n:=by
 unfold iI
 constructor
 ·intro h
  split at h
  ·omega
  rename_i h1
  split at h
  ·omega
  rename_i h2
  split at h
  ·rename_i h3;exact absurd h h3
  rename_i h3
  refine ⟨by omega,by omega,fun q hq=> ?_,YO.1 (Decidable.not_not.1 h3),MS.1 h⟩
  subst hq;simp at h2;omega
 intro h
 rw [ab6 (by have:=h.lo;have:=h.hi;omega),ab6,ab6 (by rw [YO.2 h.labels];decide),MS.2 h.props]
 cases prev with
 | none=>simp
 | some q=>have:=h.lt q rfl;simp;omega
structure QT (ids:List Int) (prev:Option Int) (r:R):Prop where
 lo:0<=r.id
 hi:r.id<2048
 lt: ∀q,prev=some q->q<r.id
 name:dw r.type=true
 src:r.src∈ids
 dst:r.dst∈ids
 props:uq r.props
theorem MW {ids:List Int} {prev:Option Int} {r:R}:jf ids prev r=0↔QT ids prev r:=by
 unfold jf
 constructor
 ·intro h
  split at h
  ·omega
  rename_i h1
  split at h
  ·omega
  rename_i h2
  split at h
  ·omega
  rename_i h3
  split at h
  ·omega
  rename_i h4;simp only [aol,Decidable.not_not] at h4
  refine ⟨by omega,by omega,fun q hq=> ?_,by simpa using h3,h4.1,h4.2,MS.1 h⟩
  subst hq;simp at h2;omega
 intro h
 rw [ab6 (by have:=h.lo;have:=h.hi;omega),ab6,ab6 (by rw [h.name];decide),ab6 (by simp [h.src,h.dst]),MS.2 h.props]
 cases prev with
 | none=>simp
 | some q=>have:=h.lt q rfl;simp;omega
theorem YP {α:Type} {key:α->Int} {l:List α} (h: ∀(j:Nat) a,l[j]?=some a->0<=key a/\ ∀q,aG key l j=some q->q<key a): ∀(j:Nat) a,l[j]?=some a->(j:Int)<=key a
 | 0,a,ha=>(h 0 a ha).1
 | j+1,a,ha=>by
  have hj:j<l.length:=by have:=(acy.1 ha).1;omega
  have hb:=ab2 hj;have:=YP h j _ hb;have:=(h (j+1) a ha).2 _ (QO hb);omega
theorem YQ {α:Type} {key:α->Int} {l:List α} {m:Nat} (h: ∀(j:Nat) a,l[j]?=some a->0<=key a/\ ∀q,aG key l j=some q->q<key a) (hm: ∀a∈l,key a<m):l.length<=m:=by
 rcases akZ m l.length with hlt | hge
 ·have hb:=ab2 hlt
  have:=YP h m _ hb;have:=hm _ (acf hb);omega
 exact hge
theorem Iz {α β:Type} {f:α->List β} {c:Nat}: ∀{l:List α},(∀a∈l,(f a).length<=c)->(l.flatMap f).length<=c*l.length
 | [],_=>by simp
 | a :: l,h=>by
  have:=Iz fun b hb=>h b (adK.2 (.inr hb))
  have:=h a (adK.2 (.inl rfl));simp only [adz,dA,acd];rw [Nat.mul_succ];omega
structure uw (ns:List N):Prop where
 all: ∀(j:Nat) n,ns[j]?=some n->QS (aG N.id ns j) n
structure xH (ids:List Int) (rs:List R):Prop where
 all: ∀(j:Nat) r,rs[j]?=some r->QT ids (aG R.id rs j) r
theorem uw.mem {ns:List N} (h:uw ns) {n:N} (hn:n∈ns): ∃prev,QS prev n:=by
 obtain ⟨j,hj,e⟩:=ad2 hn;exact ⟨_,h.all j n (by rw [ab2 hj,e])⟩
theorem xH.mem {ids:List Int} {rs:List R} (h:xH ids rs) {r:R} (hn:r∈rs): ∃prev,QT ids prev r:=by
 obtain ⟨j,hj,e⟩:=ad2 hn;exact ⟨_,h.all j r (by rw [ab2 hj,e])⟩
theorem uw.len {ns:List N} (h:uw ns):ns.length<=1024:=
 YQ (key:=N.id) (fun j a ha=>⟨(h.all j a ha).lo,(h.all j a ha).lt⟩) (fun a ha=>by obtain ⟨_,hg⟩:=h.mem ha;exact hg.hi)
theorem xH.len {ids:List Int} {rs:List R} (h:xH ids rs):rs.length<=2048:=
 YQ (key:=R.id) (fun j a ha=>⟨(h.all j a ha).lo,(h.all j a ha).lt⟩) (fun a ha=>by obtain ⟨_,hg⟩:=h.mem ha;exact hg.hi)
theorem uw.YR {ns:List N} (h:uw ns):(ns.flatMap N.labels).length<=8192:=by
 have:=Iz (f:=N.labels) (l:=ns) (c:=8) fun n hn=>by obtain ⟨_,hg⟩:=h.mem hn;exact hg.labels.len
 have:=h.len;omega
theorem YS {g:G} (h:uw g.nodes) {ids:List Int} (k:xH ids g.au):(fH g).length<=49152:=by
 have h1:=Iz (f:=N.props) (l:=g.nodes) (c:=16) fun n hn=>by obtain ⟨_,hg⟩:=h.mem hn;exact hg.props.len
 have h2:=Iz (f:=R.props) (l:=g.au) (c:=16) fun n hn=>by obtain ⟨_,hg⟩:=k.mem hn;exact hg.props.len
 have:=h.len;have:=k.len;unfold fH;rw [dA];omega
theorem YT {g:G} (h:uw g.nodes) {ids:List Int} (k:xH ids g.au): ∀p∈fH g,ak.check p.val=0:=fun p hp=>by
 unfold fH at hp
 rcases acU.1 hp with hp | hp
 ·obtain ⟨n,hn,hq⟩:=ad1.1 hp
  obtain ⟨_,hg⟩:=h.mem hn;exact hg.props.val p hq
 obtain ⟨n,hn,hq⟩:=ad1.1 hp;obtain ⟨_,hg⟩:=k.mem hn;exact hg.props.val p hq
structure Good (g:G):Prop where
 nodes:uw g.nodes
 au:xH (g.nodes.map N.id) g.au
 names:(dedup (oL g)).length<=200/\(dedup (names2 g)).length<=200/\(dedup (nS g)).length<=200
 weight:weight g<=262144
theorem agP {g:G} (h:(check g).1=0):check g=(0,0):=by
 unfold check at h⊢
 split at h
 ·rename_i h1;exact absurd h h1
 rename_i h1;rw [ab6 h1]
 split at h
 ·rename_i h2;exact absurd h h2
 rename_i h2;rw [ab6 h2]
 split at h
 ·cases h
 rename_i h3;rw [ab6 h3]
 split at h
 ·cases h
 rename_i h4;rw [ab6 h4]
theorem xJ {g:G}:(check g).1=0↔Good g:=by
 unfold check
 constructor
 ·intro h
  split at h
  ·rename_i h1;exact absurd h h1
  rename_i h1
  split at h
  ·rename_i h2;exact absurd h h2
  rename_i h2
  split at h
  ·cases h
  rename_i h3
  split at h
  ·cases h
  rename_i h4
  refine ⟨⟨fun j n hn=>MV.1 (MO iI N.id (Decidable.not_not.1 h1) j n hn)⟩,⟨fun j r hr=>MW.1 (MO _ R.id (Decidable.not_not.1 h2) j r hr)⟩,by omega,by omega⟩
 intro h
 rw [ab6 (by rw [Bh iI N.id fun j n hn=>MV.2 (h.nodes.all j n hn)];decide),
  ab6 (by rw [Bh _ R.id fun j r hr=>MW.2 (h.au.all j r hr)];decide),ab6 (by have:=h.names;omega),ab6 (by have:=h.weight;omega)]
end Go.Proofs.YtoofbflplhbpbaaGreatDoor.Gr
