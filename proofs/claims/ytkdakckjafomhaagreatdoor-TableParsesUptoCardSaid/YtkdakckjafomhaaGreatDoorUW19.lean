/- Contracts and plain laws,part 19. -/
import Derived.Test.YtkdakckjafomhaaGreatDoorUW18
import Derived.Maps.Own
import Derived.Maps.OwnOps
import Derived.Maps.OwnIn
import Derived.Maps.Views
import Derived.StringKeys
set_option maxHeartbeats 64000000
set_option maxRecDepth 1000000
set_option linter.all false
namespace Go.Proofs.YtkdakckjafomhaaGreatDoor
open Go.RowKit Go.Maps
theorem aaM:Keyed Tryz.prog 3:=int_keyed Tryz.underlying3
theorem PK:Keyed Tryz.prog 9:=string_keyed Tryz.underlying9
theorem aaN (w:World):(zeroValue 3).run Tryz.prog w=.ok (.int .i64 0) w:=by kernel_rfl
abbrev ZL:DataW Unit:=.lit (.int .i64 0)
theorem wf64 {n:Int} (h:ak.In64 n):(Lit.int .i64 n).wf=true:=by
 unfold ak.In64 at h;simp only[Lit.wf,aeW,aei];exact h
structure eP (w:World) (b:Nat) (l:List Int):Prop where
 ex: ∃(n:Nat) (D:DataW Unit),n<=l.length/\w.ownsMap Tryz.prog 3 (plainElem Tryz.prog 3) b n D/\IsMap D/\ ∀i,ak.In64 i->D.atKey (.int .i64 i) ZL=.lit (.int .i64 (l.count i:Nat))
structure jJ (w:World) (b:Nat) (l:List (List UInt8)):Prop where
 ex: ∃(n:Nat) (D:DataW Unit),n<=l.length/\w.ownsMap Tryz.prog 9 (plainElem Tryz.prog 3) b n D/\Tidy D/\(∀t,D.atKey (.string t) ZL=.lit (.int .i64 (l.count t:Nat)))/\ ∀t,has D (.string t)=decide (t∈l)
section
variable {w w':World} {b:Nat}
theorem eP.made (w:World):eP (w.alloc (.map #[] 0)) w.heap.size []:=⟨0,.map [],ac4 _,World.ownsMap_made _ _ _ _,isMap_empty,fun i _=>rfl⟩
theorem jJ.made (w:World):jJ (w.alloc (.map #[] 0)) w.heap.size []:=⟨0,.map [],ac4 _,World.ownsMap_made _ _ _ _,tidy_empty,fun t=>rfl,fun t=>rfl⟩
theorem eP.lt {l:List Int} (h:eP w b l):b<w.heap.size:=by obtain⟨n,D,-,h,-⟩:=h.ex;exact h.lt
theorem eP.kept {row:Option Nat} {l:List Int} (h:eP w b l) (hg:w.grownBy w' row) (hne:some b≠row):eP w' b l:=by obtain⟨n,D,h1,h,h2⟩:=h.ex;exact⟨n,D,h1,h.kept hg hne,h2⟩
theorem jJ.kept {row:Option Nat} {l:List (List UInt8)} (h:jJ w b l) (hg:w.grownBy w' row) (hne:some b≠row):jJ w' b l:=by obtain⟨n,D,h1,h,h2⟩:=h.ex;exact⟨n,D,h1,h.kept hg hne,h2⟩
theorem eP.below {l:List Int} (h:eP w b l) (hb:Below w.heap.size w w'):eP w' b l:=h.kept (dL hb none) (by simp)
theorem jJ.below {l:List (List UInt8)} (h:jJ w b l) (hb:Below w.heap.size w w'):jJ w' b l:=h.kept (dL hb none) (by simp)
end
theorem Uc {α:Type} [BEq α] [LawfulBEq α] [DecidableEq α] (l:List α) (x i:α):(l++[x]).count i=l.count i+if x=i then 1 else 0:=by
 rw[apf,List.count_singleton];by_cases h:x=i<;>simp[h]
theorem eP.look {w:World} {b:Nat} {l:List Int} (h:eP w b l) {t:TypeId} (ht:Tryz.prog.underlying t=some (.map 3 3)) {i:Int} (hi:ak.In64 i):(Instr.lookup t (.map (some b)) (.int .i64 i) false).run Tryz.prog w=.ok (.int .i64 (l.count i:Nat)) w:=by
 obtain⟨n,D,-,hown,-,hc⟩:=h.ex
 obtain⟨c,hrun,hat,-⟩:=hown.lookup_int aaM ht Tryz.underlying3 (aaN _) (keyOf_int_mk Tryz.underlying3 (wf64 hi))
 rw[hc i hi]at hat
 have he:c=((l.count i:Nat):Int):=by injection hat with hat;injection hat with _ hat;exact hat.symm
 exact he▸hrun
theorem jJ.look {w:World} {b:Nat} {l:List (List UInt8)} (h:jJ w b l) {t:TypeId} (ht:Tryz.prog.underlying t=some (.map 9 3)) {s:ByteArray} (hs:s.size<=maxLen):(Instr.lookup t (.map (some b)) (.string s) false).run Tryz.prog w=.ok (.int .i64 (l.count s.data.toList:Nat)) w:=by
 obtain⟨n,D,-,hown,-,hc,-⟩:=h.ex
 obtain⟨c,hrun,hat,-⟩:=hown.lookup_int PK ht Tryz.underlying3 (aaN _) (Go.WideMaps.keyOf_string_mk Tryz.underlying9 hs)
 rw[hc]at hat
 have he:c=((l.count s.data.toList:Nat):Int):=by injection hat with hat;injection hat with _ hat;exact hat.symm
 exact he▸hrun
section
variable {P:Program} (w:World) {ops:Array Oper} {rest:List Oper} {o:Oper} {a:Act} {Q:Exit->Act->World->Prop} (hg:o.guard=none)
include hg
theorem PL {l:List Int} {b:Nat} (h:eP w b l) (hl:l.length<1152921504606846976) (m x v:Operand) (t:TypeId) (hop:o.op=Op.mapUpdate t m x v) (ht:Tryz.prog.underlying t=some (.map 3 3)) (hm:a.eval m=.map (some b)) (i:Int) (hi:ak.In64 i) (hx:a.eval x=.int .i64 i) (hv:a.eval v=.int .i64 ((l.count i:Nat)+1:Int))
  (hK: ∀w',eP w' b (l++[i])->w.grownBy w' (some b)->wpList Tryz.prog ops Q rest (a.put o.dst undef) w'):wpList Tryz.prog ops Q (o :: rest) a w:=by
 obtain⟨n,D,hn,hown,hD,hc⟩:=h.ex;have hcl:=afU (a:=i) (l:=l)
 refine wpList_mapUpdate_own w hg m x v t hop 3 3 aaM ht _ b n D hm hown (by unfold maxLen;omega) _ _ _ hx hv (keyOf_int_mk Tryz.underlying3 (wf64 hi)) _ [] (plainElem_int Tryz.underlying3 (wf64 (by unfold ak.In64;omega))) ?_
 intro w1 hown1 hgrow
 refine hK w1 ⟨n+1,_,by rw[adf];simp;omega,hown1,IsMap.put hD (.int .i64 i) _,fun j hj=> ?_⟩ hgrow
 rw[Uc];by_cases e:i=j
 ·subst e
  rw[atKey_put_same hD (k:=.int .i64 i) trivial,adk rfl];simp
 rw[atKey_put_other (k':=.int .i64 j) (by intro h;cases h;exact e rfl),hc j hj,ade e,aft]
theorem Ud {l:List (List UInt8)} {b:Nat} (h:jJ w b l) (hl:l.length<1152921504606846976) (m x v:Operand) (t:TypeId) (hop:o.op=Op.mapUpdate t m x v) (ht:Tryz.prog.underlying t=some (.map 9 3)) (hm:a.eval m=.map (some b)) (s:ByteArray) (hs:s.size<=maxLen) (hx:a.eval x=.string s) (hv:a.eval v=.int .i64 ((l.count s.data.toList:Nat)+1:Int))
  (hK: ∀w',jJ w' b (l++[s.data.toList])->w.grownBy w' (some b)->wpList Tryz.prog ops Q rest (a.put o.dst undef) w'):wpList Tryz.prog ops Q (o :: rest) a w:=by
 obtain⟨n,D,hn,hown,hD,hc,hh⟩:=h.ex;have hcl:=afU (a:=s.data.toList) (l:=l)
 refine wpList_mapUpdate_own w hg m x v t hop 9 3 PK ht _ b n D hm hown (by unfold maxLen;omega) _ _ _ hx hv (Go.WideMaps.keyOf_string_mk Tryz.underlying9 hs) _ [] (plainElem_int Tryz.underlying3 (wf64 (by unfold ak.In64;omega))) ?_
 intro w1 hown1 hgrow
 refine hK w1 ⟨n+1,_,by rw[adf];simp;omega,hown1,Tidy.put hD (k:=.string s.data.toList) trivial _,fun j=> ?_,fun j=> ?_⟩ hgrow
 ·rw[Uc]
  by_cases e:s.data.toList=j
  ·subst e
   rw[atKey_put_same hD.isMap (k:=.string s.data.toList) trivial,adk rfl];simp
  rw[atKey_put_other (k':=.string j) (by intro h;cases h;exact e rfl),hc j,ade e,aft]
 by_cases e:s.data.toList=j
 ·subst e
  rw[has_put_same hD.isMap (k:=.string s.data.toList) trivial];simp
 rw[has_put_other (k':=.string j) (by intro h;cases h;exact e rfl),hh j]
 simp[Ne.symm e]
end
theorem aT.aaO {T n₁ b:Nat} {A B:World} {l:List (List UInt8)} (h:aT T n₁ A B) (hc:jJ A b l):jJ B b l:=by
 obtain⟨n,D,h1,⟨es,clock,hb,F,hs,hD⟩,h2⟩:=hc.ex
 exact⟨n,D,h1,⟨es,clock,h.block b _ hb (fun r e=>by cases e) (fun c fz e=>by cases e),F,hs,hD⟩,h2⟩
section
variable {F:Fence} {nF:Nat} (w:World) {ops:Array Oper} {rest:List Oper} {o:Oper} {a:Act} {Q:Exit->Act->World->Prop} (hg:o.guard=none)
include hg
theorem ajr {l:List (List UInt8)} {b:Nat} (h:jJ w b l) (hl:l.length<1152921504606846976) (m x v:Operand) (t:TypeId) (hop:o.op=Op.mapUpdate t m x v) (ht:Tryz.prog.underlying t=some (.map 9 3)) (hm:a.eval m=.map (some b)) (s:ByteArray) (hs:s.size<=maxLen) (hx:a.eval x=.string s) (hv:a.eval v=.int .i64 ((l.count s.data.toList:Nat)+1:Int))
  (hK: ∀w',jJ w' b (l++[s.data.toList])->w.grownBy w' (some b)->wpListIn F nF Tryz.prog ops Q rest (a.put o.dst undef) w'):wpListIn F nF Tryz.prog ops Q (o :: rest) a w:=by
 obtain⟨n,D,hn,hown,hD,hc,hh⟩:=h.ex;have hcl:=afU (a:=s.data.toList) (l:=l)
 refine wpListIn_mapUpdate_own w hg m x v t hop 9 3 PK ht _ b n D hm hown (by unfold maxLen;omega) _ _ _ hx hv (Go.WideMaps.keyOf_string_mk Tryz.underlying9 hs) _ [] (plainElem_int Tryz.underlying3 (wf64 (by unfold ak.In64;omega))) ?_
 intro w1 hown1 hgrow
 refine hK w1 ⟨n+1,_,by rw[adf];simp;omega,hown1,Tidy.put hD (k:=.string s.data.toList) trivial _,fun j=> ?_,fun j=> ?_⟩ hgrow
 ·rw[Uc]
  by_cases e:s.data.toList=j
  ·subst e
   rw[atKey_put_same hD.isMap (k:=.string s.data.toList) trivial,adk rfl];simp
  rw[atKey_put_other (k':=.string j) (by intro h;cases h;exact e rfl),hc j,ade e,aft]
 by_cases e:s.data.toList=j
 ·subst e
  rw[has_put_same hD.isMap (k:=.string s.data.toList) trivial];simp
 rw[has_put_other (k':=.string j) (by intro h;cases h;exact e rfl),hh j]
 simp[Ne.symm e]
end
end Go.Proofs.YtkdakckjafomhaaGreatDoor
namespace Go.Proofs.YtkdakckjafomhaaGreatDoor
open Go.RowKit
structure Kp (base:Nat) (w w':World):Prop where
 bel:Below base w w'
 keep: ∀(b:Nat) (c:Array Value) (t:TypeId) (fz:Nat×Nat),w.heap[b]?=some (.cells c t fz)->t≠26->t≠42->t≠44->w'.heap[b]?=some (.cells c t fz)
theorem PN {base B e size n:Nat} {v:Value} {xs:List Value} {w w':World} (h:w.ownsRow B e size v n xs) (hk:Kp base w w') (h1:e≠26) (h2:e≠42) (h3:e≠44):w'.ownsRow B e size v n xs:=by
 obtain⟨hl,h⟩:=h;refine⟨hl, ?_⟩
 rcases h with h|⟨g,cap,cur,hv,hb,hc,hr⟩
 ·exact .inl h
 exact .inr ⟨g,cap,cur,hv,hb,hk.keep _ _ _ _ hc h1 h2 h3,hr⟩
theorem fB.kp {base B:Nat} {x:Gr.P×List Value} {w w':World} (h:fB w B x) (hk:Kp base w w'):fB w' B x:=by
 obtain⟨s,t,e,h1,h2⟩:=h
 exact⟨s,t,e,PN h1 hk (by decide) (by decide) (by decide),PN h2 hk (by decide) (by decide) (by decide)⟩
theorem cu.kp {T:TypeId} {base B:Nat} {v:Value} {ps:List Gr.P} {w w':World} (h:cu T w B v ps) (hk:Kp base w w') (h1:T≠26) (h2:T≠42) (h3:T≠44):cu T w' B v ps:=by
 obtain⟨l,e,hx,ho⟩:=h;exact⟨l,e,fun x hm=>(hx x hm).kp hk,PN ho hk h1 h2 h3⟩
theorem aaP:(Tryz.prog.info? 39).map (fun i=>(i.zero,i.size,i.bytes))=some (some (.agg #[.string ⟨#[]⟩,.int .i64 0,.int .i64 0,.string ⟨#[]⟩,.slice none 0 0,.slice none 0 0]),6,96):=by kernel_rfl
theorem eP.isMap {w:World} {b:Nat} {l:List Int} (h:eP w b l): ∀c t fz,w.heap[b]?≠some (.cells c t fz):=fun c t fz e=>by
 obtain⟨n,D,-,⟨es,cl,h1,-⟩,-⟩:=h.ex;rw[h1]at e;cases e
def je (W:World) (B:Nat) (x:Gr.N×List Value):Prop:=
 ∃sl sp,x.2=[.int .i64 x.1.id,sl,sp]/\W.ownsRow B 9 1 sl x.1.labels.length (x.1.labels.map ST)/\cu 39 W B sp x.1.props
def jy (W:World) (B:Nat) (x:Gr.R×List Value):Prop:=
 ∃sp,x.2=[.int .i64 x.1.id,ST x.1.type,.int .i64 x.1.src,.int .i64 x.1.dst,sp]/\cu 39 W B sp x.1.props
theorem je.kp {base B:Nat} {x:Gr.N×List Value} {w w':World} (h:je w B x) (hk:Kp base w w'):je w' B x:=by
 obtain⟨s,t,e,h1,h2⟩:=h
 exact⟨s,t,e,PN h1 hk (by decide) (by decide) (by decide),h2.kp hk (by decide) (by decide) (by decide)⟩
theorem jy.kp {base B:Nat} {x:Gr.R×List Value} {w w':World} (h:jy w B x) (hk:Kp base w w'):jy w' B x:=by
 obtain⟨t,e,h2⟩:=h;exact⟨t,e,h2.kp hk (by decide) (by decide) (by decide)⟩
theorem Ue {base e sz n m:Nat} {v:Value} {xs:List Value} {l:List Int} {w:World} (h:w.ownsRow base e sz v n xs) (hm:eP w m l):some m≠v.ownBlock:=fun e'=>by
 obtain⟨-,c,hc⟩:=tY h m e'.symm;exact hm.isMap _ _ _ hc
theorem wU {base e e' sz n b:Nat} {v:Value} {xs:List Value} {cs:Array Value} {w:World} (h:w.ownsRow base e sz v n xs) (hm:au w b e' cs) (hne:e'≠e):some b≠v.ownBlock:=fun x=>by
 obtain⟨-,c,hc⟩:=tY h b x.symm;have:=hm.symm.trans hc;cases this;exact hne rfl
theorem Uf {w w':World} {base e e' size n size' n':Nat} {v v':Value} {xs xs':List Value} (h:w.ownsRow base e size v n xs) (hv:w.ownsRow base e' size' v' n' xs') (hg:w.grownBy w' v'.ownBlock) (hne:e'≠e):w'.ownsRow base e size v n xs:=
 aW h hg fun g c t fz hr hc=>by
  obtain⟨-,c',hc'⟩:=tY hv g hr;rw[hc']at hc;cases hc;exact hne
theorem Iy {w:World} {base e e' size n b i:Nat} {v u:Value} {xs:List Value} {cs:Array Value} (h:w.ownsRow base e size v n xs) (hb:au w b e' cs) (hne:e'≠e):(w.setCell ⟨b,i,none⟩ u).ownsRow base e size v n xs:=
 aW h (grownBy_set w ⟨b,i,none⟩ u) fun g c t fz hr hc=>by
  cases hr;have:=hb.symm.trans hc;cases this;exact hne
theorem Ug:(Tryz.prog.info? 42).map (fun i=>(i.zero,i.size,i.bytes))=some (some (.agg #[.int .i64 0,.slice none 0 0,.slice none 0 0]),3,56):=by kernel_rfl
theorem Uh:(Tryz.prog.info? 44).map (fun i=>(i.zero,i.size,i.bytes))=some (some (.agg #[.int .i64 0,.string ⟨#[]⟩,.int .i64 0,.int .i64 0,.slice none 0 0]),5,64):=by kernel_rfl
end Go.Proofs.YtkdakckjafomhaaGreatDoor
namespace Go.Proofs.YtkdakckjafomhaaGreatDoor.Tb
open Go
abbrev L:=List UInt8
def ID:L:=[58,73,68]
def LABEL:L:=[58,76,65,66,69,76]
def START:L:=[58,83,84,65,82,84]
def ENDS:L:=[58,69,78,68]
def TYPE:L:=[58,84,89,80,69]
def iQ:List L:=[ID,LABEL]
def iR:List L:=[ID,START,ENDS,TYPE]
def keysOf (ps:List Gr.P):List L:=Gr.pU (Gr.dedup (ps.map Gr.P.key))
def iC (ps:List Gr.P) (k:L):L:=
 match ps.find? (fun p=>decide (p.key=k)) with
 |none=> []
 |some p=>ak.print p.val
def lT:List L->L
 |[]=> []
 |[a]=>a
 |a :: b :: r=>a++59 :: lT (b :: r)
def iD (keys:List L) (n:Gr.N):List L:=Lib.itoa n.id :: lT n.labels :: keys.map (iC n.props)
def iE (keys:List L) (r:Gr.R):List L:=Lib.itoa r.id :: Lib.itoa r.src :: Lib.itoa r.dst :: r.type :: keys.map (iC r.props)
def bU (g:Gr.G):List L:=keysOf (g.nodes.flatMap Gr.N.props)
def bV (g:Gr.G):List L:=keysOf (g.aA.flatMap Gr.R.props)
def zh (g:Gr.G):List (List L):=(iQ++bU g) :: g.nodes.map (iD (bU g))
def zo (g:Gr.G):List (List L):=(iR++bV g) :: g.aA.map (iE (bV g))
def print (g:Gr.G):L×L:=((zh g).flatMap ay.printRow,(zo g).flatMap ay.printRow)
def rV (g:Gr.G):(L×L)×Nat:=if(Gr.check g).1=0 then(print g,0) else(([],[]),(Gr.check g).1)
def dK (want:List L):List (List L)->Option (List L)
 |[]=>none
 |h :: _=>if h.take want.length=want/\(h.drop want.length).all Gr.bC=true/\(h.drop want.length).Nodup then some (h.drop want.length) else none
def known (most:Int) (s:L):Option Int:=if(Num.iK s).2=0/\0<=(Num.iK s).1/\(Num.iK s).1<most then some (Num.iK s).1 else none
def dA:L->List L
 |[]=> [[]]
 |c :: r=>
  if c=59 then[] :: dA r else
  match dA r with
  |[]=> [[c]]
  |a :: t=>(c :: a) :: t
def kT:List L->List L->Nat
 |_,[]=>0
 |seen,l :: r=>if Gr.bC l=false then 60 else if l∈seen then 7 else kT (seen++[l]) r
def oK (s:L):List L×Nat:=if s=[] then([],0) else if kT [] (dA s)=0 then(dA s,0) else([],kT [] (dA s))
def bM:List L->List L->List Gr.P×Nat
 |k :: ks,f :: fs=>
  if f=[] then bM ks fs else
  if(ak.parse f).2≠0 then([],(ak.parse f).2) else
  if(bM ks fs).2≠0 then([],(bM ks fs).2) else(⟨k,(ak.parse f).1⟩ ::(bM ks fs).1,0)
 |_,_=>([],0)
def nT (keys:List L) (w:Nat):List (List L)->List Gr.N->List Gr.N×Nat
 |[],acc=>(acc,0)
 |row :: r,acc=>
  if row.length≠w then([],231) else
  match known 1024 (row.getD 0 []) with
  |none=>([],61)
  |some n=>
   if n∈acc.map Gr.N.id then([],7) else
   if(oK (row.getD 1 [])).2≠0 then([],(oK (row.getD 1 [])).2) else
   if(bM keys (row.drop 2)).2≠0 then([],(bM keys (row.drop 2)).2) else
   nT keys w r (acc++[⟨n,(oK (row.getD 1 [])).1,(bM keys (row.drop 2)).1⟩])
def endP (ids:List Int) (s:L):Option Int:=
 match known 1024 s with
 |none=>none
 |some n=>if n∈ids then some n else none
def qI (keys:List L) (w:Nat) (ids:List Int):List (List L)->List Gr.R->List Gr.R×Nat
 |[],acc=>(acc,0)
 |row :: r,acc=>
  if row.length≠w then([],231) else
  match known 2048 (row.getD 0 []) with
  |none=>([],62)
  |some n=>
   if n∈acc.map Gr.R.id then([],7) else
   match endP ids (row.getD 1 []),endP ids (row.getD 2 []) with
   |some s,some d=>
    if Gr.bC (row.getD 3 [])=false then([],60) else
    if(bM keys (row.drop 4)).2≠0 then([],(bM keys (row.drop 4)).2) else
    qI keys w ids r (acc++[⟨n,row.getD 3 [],s,d,(bM keys (row.drop 4)).1⟩])
   |_,_=>([],65)
def nodesOf (rows:List (List L)):List Gr.N×Nat:=
 match dK iQ rows with
 |none=>([],230)
 |some ks=>nT ks (2+ks.length) rows.tail []
def oL (ids:List Int) (rows:List (List L)):List Gr.R×Nat:=
 match dK iR rows with
 |none=>([],230)
 |some ks=>qI ks (4+ks.length) ids rows.tail []
def parse (a b:L):Gr.G×Nat:=
 if 16777216<a.length\/16777216<b.length then(Gr.G0,1) else
 if(ay.rowsOf a).2≠0 then(Gr.G0,(ay.rowsOf a).2) else
 if(ay.rowsOf b).2≠0 then(Gr.G0,(ay.rowsOf b).2) else
 if(nodesOf (ay.rowsOf a).1).2≠0 then(Gr.G0,(nodesOf (ay.rowsOf a).1).2) else
 if(oL ((nodesOf (ay.rowsOf a).1).1.map Gr.N.id) (ay.rowsOf b).1).2≠0 then(Gr.G0,(oL ((nodesOf (ay.rowsOf a).1).1.map Gr.N.id) (ay.rowsOf b).1).2) else
 if(Gr.check (Gr.canon ⟨(nodesOf (ay.rowsOf a).1).1,(oL ((nodesOf (ay.rowsOf a).1).1.map Gr.N.id) (ay.rowsOf b).1).1⟩)).1≠0 then(Gr.G0,(Gr.check (Gr.canon ⟨(nodesOf (ay.rowsOf a).1).1,(oL ((nodesOf (ay.rowsOf a).1).1.map Gr.N.id) (ay.rowsOf b).1).1⟩)).1) else
 (Gr.canon ⟨(nodesOf (ay.rowsOf a).1).1,(oL ((nodesOf (ay.rowsOf a).1).1.map Gr.N.id) (ay.rowsOf b).1).1⟩,0)
theorem Ui {n m:Int} (h0:0<=n) (h1:n<m) (hm:m<=2048):known m (Lib.itoa n)=some n:=by
 have hp:=Num.Yv n (by omega) (by omega)
 unfold known;rw[hp,adk ⟨rfl,h0,h1⟩]
theorem ajs (s:L):dA s≠ []:=by
 induction s with
 |nil=>simp[dA]
 |cons c r ih=>
  rw[dA]
  split
  ·simp
  split<;>simp
theorem Uj: ∀(a r:L),(∀x∈a,x≠59)->dA (a++59 :: r)=a :: dA r
 |[],r,_=>by rw[aex,dA,adk rfl]
 |c :: a,r,h=>by
  rw[afq,dA,ade (h c (by simp)),Uj a r (fun x hx=>h x (by simp[hx]))]
theorem Uk: ∀a:L,(∀x∈a,x≠59)->dA a=[a]
 |[],_=>rfl
 |c :: a,h=>by rw[dA,ade (h c (by simp)),Uk a (fun x hx=>h x (by simp[hx]))]
theorem aaQ: ∀ls:List L,ls≠ []->(∀l∈ls,∀x∈l,x≠59)->dA (lT ls)=ls
 |[],h,_=>absurd rfl h
 |[a],_,h=>by rw[lT,Uk a (h a (by simp))]
 |a :: b :: r,_,h=>by rw[lT,Uj a _ (h a (by simp)),aaQ (b :: r) (by simp) (fun l hl=>h l (by simp[hl]))]
theorem join_nil {ls:List L} (h: ∀l∈ls,l≠ []):lT ls=[]↔ls=[]:=by
 match ls with
 |[]=>simp[lT]
 |[a]=>simp[lT,h a (by simp)]
 |a :: b :: r=>simp[lT]
theorem Ul {l:L} (h:Gr.bC l=true):l≠ []/\ ∀x∈l,x≠59:=by
 unfold Gr.bC at h;simp only[aeW,aei,afF]at h;refine⟨h.1.1.1,fun x hx e=> ?_⟩
 have:=h.2 x hx;rw[e]at this;exact absurd this (by decide)
theorem aaR: ∀(ls seen:List L),(∀l∈ls,Gr.bC l=true)->(seen++ls).Nodup->kT seen ls=0
 |[],_,_,_=>rfl
 |l :: ls,seen,hn,hd=>by
  rw[kT,ade (by rw[hn l (by simp)];decide),ade,aaR ls _ (fun x hx=>hn x (afg _ hx)) (by rw[aeG];exact hd)]
  rw[aoq]at hd;intro hx;exact hd.2.2 l hx l (by simp) rfl
theorem ajt {ls:List L} (hn: ∀l∈ls,Gr.bC l=true) (hd:ls.Nodup):oK (lT ls)=(ls,0):=by
 unfold oK;by_cases h:ls=[]
 ·subst h;rfl
 rw[ade (fun e=>h ((join_nil fun l hl=>(Ul (hn l hl)).1).1 e)),aaQ ls h fun l hl=>(Ul (hn l hl)).2,adk (aaR ls [] hn (by simpa using hd))]
theorem aaS {want ks:List L} {rows:List (List L)} (hg: ∀k∈ks,Gr.bC k=true) (hd:ks.Nodup):dK want ((want++ks) :: rows)=some ks:=by
 unfold dK;simp only[aph,ang];rw[adk ⟨trivial,afF.2 hg,hd⟩]
theorem aju (v:ak.V):ak.print v≠ []:=by
 unfold ak.print ak.letter
 split<;>simp
theorem aaT (ps:List Gr.P) (hv: ∀p∈ps,Cy.Fa p): ∀ks:List L,bM ks (ks.map (iC ps))=(ks.filterMap fun k=>ps.find? fun p=>decide (p.key=k),0)
 |[]=>rfl
 |k :: ks=>by
  rw[aeR,bM,aaT ps hv ks,anY];unfold iC;cases hf:ps.find? (fun p=>decide (p.key=k)) with
  |none=>rw[adk rfl]
  |some p=>
   have hk:p.key=k:=by have:=List.find?_some hf;simpa using this
   have hp:=hv p (aqM hf);simp only
   rw[ade (aju _),ak.there hp.val.ck hp.val.num hp.val.nums,ade (by simp),ade (by simp)]
   rw[<-hk]
theorem Fb {ps:List Gr.P} {k:L}:k∈keysOf ps↔k∈ps.map Gr.P.key:=by
 unfold keysOf Gr.pU Gr.jd;rw[(afz _ _).mem_iff,Gr.E9]
theorem Dh (ps:List Gr.P):(keysOf ps).Nodup:=by
 unfold keysOf Gr.pU Gr.jd;exact(afz _ _).nodup_iff.2 (Gr.JU _)
theorem Um (ps:List Gr.P):(keysOf ps).Pairwise fun a b=>decide (a<=b)=true:=by
 unfold keysOf Gr.pU Gr.jd
 exact aoa (le:=fun a b:L=>decide (a<=b)) (fun a b c h k=>adb (apN (adN h) (adN k))) (fun a b=>by simp only[af7,aei];exact aq8 a b) _
theorem aaU {α β:Type} {f:α->β} {l:List α} (h:(l.map f).Nodup):l.Nodup:=(anC.1 h).imp fun h e=>h (by rw[e])
theorem Un (ps:List Gr.P): ∀ks:List L,((ks.filterMap fun k=>ps.find? fun p=>decide (p.key=k)).map Gr.P.key).Sublist ks
 |[]=>List.Sublist.refl _
 |k :: ks=>by
  rw[anY];cases hf:ps.find? (fun p=>decide (p.key=k)) with
  |none=>exact(Un ps ks).cons _
  |some p=>
   have hk:p.key=k:=by have:=List.find?_some hf;simpa using this
   simp only[aeR,hk];exact(Un ps ks).cons_cons _
theorem Uo {ps:List Gr.P} (hd:(ps.map Gr.P.key).Nodup) {p:Gr.P} (hp:p∈ps):ps.find? (fun q=>decide (q.key=p.key))=some p:=by
 induction ps with
 |nil=>cases hp
 |cons a r ih=>
  rw[aeR,ars]at hd;rw[List.find?_cons]
  rcases aeY.1 hp with e|h
  ·subst e;simp
  have:a.key≠p.key:=fun e=>hd.1 (e▸afQ (f:=Gr.P.key) h)
  rw[ac5 this];exact ih hd.2 h
theorem aaV {ps:List Gr.P} {ks:List L} (hu:ps.Pairwise fun a b=>a.key<b.key) (hd:(ps.map Gr.P.key).Nodup) (hk:ks.Nodup) (hs:ks.Pairwise fun a b=>decide (a<=b)=true) (hm: ∀p∈ps,p.key∈ks):(ks.filterMap fun k=>ps.find? fun p=>decide (p.key=k))=ps:=by
 have hsub:=Un ps ks
 have hmem: ∀x,x∈(ks.filterMap fun k=>ps.find? fun p=>decide (p.key=k))↔x∈ps:=fun x=>by
  rw[List.mem_filterMap]
  constructor
  ·rintro⟨k,_,h⟩
   exact aqM h
  intro h;exact⟨x.key,hm x h,Uo hd h⟩
 have hn:(ks.filterMap fun k=>ps.find? fun p=>decide (p.key=k)).Nodup:=aaU (hsub.nodup hk)
 have hn2:ps.Nodup:=aaU hd
 refine((aqC hn hn2).2 hmem).eq_of_pairwise (le:=fun a b=>decide (a.key<=b.key)=true) (fun x y hx hy h1 h2=> ?_) (anC.1 (hs.sublist hsub)) (hu.imp fun h=>adb (aoU h))
 have e:x.key=y.key:=ark (adN h1) (adN h2);have h1:=Uo hd ((hmem x).1 hx)
 rw[e,Uo hd hy]at h1;exact(ad4 h1).symm
theorem aaW {ps all:List Gr.P} (hg: ∀p∈ps,Cy.Fa p) (hu:ps.Pairwise fun a b=>a.key<b.key) (hd:(ps.map Gr.P.key).Nodup) (hm: ∀p∈ps,p∈all):bM (keysOf all) ((keysOf all).map (iC ps))=(ps,0):=by
 rw[aaT ps hg,aaV hu hd (Dh all) (Um all) fun p hp=>Fb.2 (afQ (f:=Gr.P.key) (hm p hp))]
theorem aaX {g:Gr.G} (h:Cy.Fine g): ∀(ns acc:List Gr.N),acc++ns=g.nodes->nT (bU g) (2+(bU g).length) (ns.map (iD (bU g))) acc=(g.nodes,0)
 |[],acc,e=>by rw[aey]at e;rw[afX,nT,e]
 |n :: ns,acc,e=>by
  have hn:n∈g.nodes:=by rw[<-e];simp
  obtain⟨_,hg⟩:=h.good.nodes.mem hn;have hf:=h.node hn
  have hp:=aaW (all:=g.nodes.flatMap Gr.N.props) hf.good.props (Cy.Ip hg.props) hf.keys fun p hp=>ae9.2 ⟨n,hn,hp⟩
  have hnd:n.id∉acc.map Gr.N.id:=fun hm=>by
   have hu:=Cy.aay h.good.nodes;rw[<-e]at hu;obtain⟨a,ha,hae⟩:=afK.1 hm
   have:=(amM.1 hu).2.2 a ha n (by simp)
   omega
  rw[aeR,nT,ade (by unfold iD;simp;omega)]
  unfold iD;simp only[List.getD_cons_zero,List.getD_cons_succ,af9,afA]
  rw[Ui hf.good.lo hf.good.hi (by decide)]
  simp only;rw[ade hnd,ajt hf.good.labels hf.labels,ade (by simp)]
  unfold bU at hp⊢;rw[hp,ade (by simp)]
  exact aaX h ns (acc++[n]) (by rw[aeG];exact e)
theorem aaY {ids:List Int} {n:Int} (h0:0<=n) (h1:n<1024) (hm:n∈ids):endP ids (Lib.itoa n)=some n:=by
 unfold endP;rw[Ui h0 h1 (by decide)]
 simp only;rw[adk hm]
theorem aaZ {g:Gr.G} (h:Cy.Fine g): ∀(ns acc:List Gr.R),acc++ns=g.aA->qI (bV g) (4+(bV g).length) (g.nodes.map Gr.N.id) (ns.map (iE (bV g))) acc=(g.aA,0)
 |[],acc,e=>by rw[aey]at e;rw[afX,qI,e]
 |n :: ns,acc,e=>by
  have hn:n∈g.aA:=by rw[<-e];simp
  obtain⟨_,hg⟩:=h.good.aA.mem hn;have hf:=h.rel hn
  have hp:=aaW (all:=g.aA.flatMap Gr.R.props) hf.good.props (Cy.Ip hg.props) hf.keys fun p hp=>ae9.2 ⟨n,hn,hp⟩
  have hnd:n.id∉acc.map Gr.R.id:=fun hm=>by
   have hu:=Cy.aaz h.good.aA;rw[<-e]at hu;obtain⟨a,ha,hae⟩:=afK.1 hm
   have:=(amM.1 hu).2.2 a ha n (by simp)
   omega
  rw[aeR,qI,ade (by unfold iE;simp;omega)]
  unfold iE;simp only[List.getD_cons_zero,List.getD_cons_succ,af9,afA]
  rw[Ui hf.good.lo hf.good.hi (by decide)]
  simp only;rw[ade hnd,aaY hf.good.VN hf.good.VO hg.src,aaY hf.good.VP hf.good.VQ hg.dst]
  simp only;rw[ade (by rw[hg.name];decide)]
  unfold bV at hp⊢;rw[hp,ade (by simp)]
  exact aaZ h ns (acc++[n]) (by rw[aeG];exact e)
theorem Ur {g:Gr.G} (h:Cy.Fine g):(∀k∈bU g,Gr.bC k=true)/\ ∀k∈bV g,Gr.bC k=true:=by
 constructor
 ·intro k hk
  obtain⟨p,hp,rfl⟩:=afK.1 (Fb.1 hk);obtain⟨n,hn,hpn⟩:=ae9.1 hp
  exact((h.node hn).good.props p hpn).name
 intro k hk;obtain⟨p,hp,rfl⟩:=afK.1 (Fb.1 hk);obtain⟨n,hn,hpn⟩:=ae9.1 hp
 exact((h.rel hn).good.props p hpn).name
theorem Us (g:Gr.G): []∉zh g/\ []∉zo g:=by
 constructor
 ·unfold zh iQ iD
  intro h
  rcases aeY.1 h with e|e
  ·cases e
  obtain⟨n,_,e⟩:=afK.1 e;cases e
 unfold zo iR iE;intro h
 rcases aeY.1 h with e|e
 ·cases e
 obtain⟨n,_,e⟩:=afK.1 e;cases e
theorem ajv {g:Gr.G} (h:Cy.Fine g):Gr.canon g=g:=by
 unfold Gr.canon
 rw[aoR (g:=id) fun n hx=>(h.node hx).canon,aq3,aoR (g:=id) fun n hx=>(h.rel hx).canon,aq3,Cy.aau (anN _) (Cy.aay h.good.nodes),Cy.aau (anN _) (Cy.aaz h.good.aA)]
theorem ajw {g:Gr.G} (h:Cy.Fine g) (ha:(print g).1.length<=16777216) (hb:(print g).2.length<=16777216):parse (print g).1 (print g).2=(g,0):=by
 have e1:ay.rowsOf (print g).1=(zh g,0):=ay.Z7 _ (Us g).1
 have e2:ay.rowsOf (print g).2=(zo g,0):=ay.Z7 _ (Us g).2
 have e3:nodesOf (zh g)=(g.nodes,0):=by
  unfold nodesOf zh;rw[aaS (Ur h).1 (Dh _)];exact aaX h g.nodes [] rfl
 have e4:oL (g.nodes.map Gr.N.id) (zo g)=(g.aA,0):=by
  unfold oL zo;rw[aaS (Ur h).2 (Dh _)];exact aaZ h g.aA [] rfl
 have e5:(Gr.check g).1=0:=Gr.Pz.2 h.good;unfold parse;rw[ade (by omega),e1,e2]
 simp only;rw[ade (by simp),ade (by simp),e3]
 simp only;rw[ade (by simp),e4]
 simp only;rw[ade (by simp)]
 rw[show(⟨g.nodes,g.aA⟩:Gr.G)=g from rfl,ajv h,e5,ade (by simp)]
structure Fits (k:Nat) (s:ay.St):Prop where
 f:s.field.length<=k
 r:s.row.length<=k/\ ∀f∈s.row,f.length<=k
 rs: ∀r∈s.rows,r.length<=k+1/\ ∀f∈r,f.length<=k
theorem Fits.step {k:Nat} {s s':ay.St} {c:UInt8} (h:Fits k s) (hs:ay.step s c=.inl s'):Fits (k+1) s':=by
 have hf:=h.f;have hr:=h.r.1;have h1: ∀f∈s.row,f.length<=k+1:=fun f hf=>aq5 (h.r.2 f hf)
 have h2: ∀r∈s.rows,r.length<=k+1+1/\ ∀f∈r,f.length<=k+1:=fun r hr=>⟨aq5 (h.rs r hr).1,fun f hf=>aq5 ((h.rs r hr).2 f hf)⟩
 unfold ay.step at hs
 split at hs
 ·split at hs
  ·cases hs
   refine⟨by simp,⟨by simp,by simp⟩,fun r hm=> ?_⟩
   rcases aem.1 hm with hm|hm
   ·exact h2 r hm
   rw[ael.1 hm];exact⟨by omega,h1⟩
  cases hs
 split at hs
 ·split at hs
  ·cases hs;exact⟨by show s.field.length<=k+1;omega,⟨by show s.row.length<=k+1;omega,h1⟩,h2⟩
  cases hs;exact⟨by simp;omega,⟨by show s.row.length<=k+1;omega,h1⟩,h2⟩
 split at hs
 ·split at hs
  ·cases hs
  cases hs;refine⟨?_,⟨by show s.row.length<=k+1;omega,h1⟩,h2⟩
  show(if s.st=3 then s.field++[c] else s.field).length<=k+1
  split
  ·rw[adf,aeM];omega
  omega
 split at hs
 ·cases hs
  refine⟨by simp,⟨by simp;omega,fun f hm=> ?_⟩,h2⟩
  rcases aem.1 hm with hm|hm
  ·exact h1 f hm
  rw[ael.1 hm];omega
 split at hs
 ·cases hs
 split at hs
 ·cases hs
 cases hs;exact⟨by simp;omega,⟨by show s.row.length<=k+1;omega,h1⟩,h2⟩
theorem Fits.read: ∀(l:L) (k:Nat) (s:ay.St),Fits k s-> ∀r∈(ay.read s l).1,r.length<=k+l.length+1/\ ∀f∈r,f.length<=k+l.length
 |[],k,s,h=>by
  have hr:=h.r;have hs:=h.rs;have hf:=h.f;rw[ay.read];unfold ay.fin
  have h3: ∀r∈s.rows++[s.row++[s.field]],r.length<=k+1/\ ∀f∈r,f.length<=k:=fun r hm=>by
   rcases aem.1 hm with hm|hm
   ·exact hs r hm
   rw[ael.1 hm];refine⟨by simp;omega,fun f hm=> ?_⟩
   rcases aem.1 hm with hm|hm
   ·exact hr.2 f hm
   rw[ael.1 hm];exact hf
  split
  ·exact hs
  split
  ·exact hs
  split
  ·exact h3
  exact hs
 |c :: l,k,s,h=>by
  rw[ay.read];cases hs:ay.step s c with
  |inl s'=>
   have:=Fits.read l (k+1) s' (h.step hs)
   rw[adQ,show k+(l.length+1)=k+1+l.length by omega]
   exact this
  |inr e=>
   intro r hm;have:=h.rs r hm;rw[adQ]
   exact⟨by omega,fun f hf=>adg (this.2 f hf) (by omega)⟩
theorem ajx (l:L): ∀r∈(ay.rowsOf l).1,r.length<=l.length+1/\ ∀f∈r,f.length<=l.length:=by
 rw[ay.TQ];have:=Fits.read l 0 ⟨0,[],[],[]⟩ ⟨by simp,⟨by simp,by simp⟩,by simp⟩
 simpa using this
theorem PO {m n:Int} {s:L} (h:known m s=some n):0<=n/\n<m:=by
 unfold known at h
 split at h
 ·rename_i hc;cases h;exact hc.2
 cases h
theorem Ut: ∀(ls seen:List L),kT seen ls=0-> ∀l∈ls,Gr.bC l=true
 |[],_,_,_,hl=>by cases hl
 |a :: r,seen,h,l,hl=>by
  rw[kT]at h
  split at h
  ·cases h
  rename_i hg
  split at h
  ·cases h
  rcases aeY.1 hl with e|hl
  ·rw[e];simpa using hg
  exact Ut r _ h l hl
theorem ajy: ∀s:L,(dA s).length<=s.length+1
 |[]=>by simp[dA]
 |c :: r=>by
  have:=ajy r;rw[dA]
  split
  ·simp;omega
  split
  ·simp
  rename_i a t he;rw[he]at this;simp only[adQ]at this⊢;omega
theorem Uu: ∀s:L,((dA s).map List.length).sum+(dA s).length=s.length+1
 |[]=>rfl
 |c :: r=>by
  have ih:=Uu r;rw[dA]
  split
  ·simp only[aeR,agb,adQ,ae8];omega
  split
  ·rename_i he;exact absurd he (ajs r)
  rename_i a t he;rw[he]at ih;simp only[aeR,agb,adQ]at ih⊢;omega
theorem aa0: ∀l:List L,(∀a∈l,a≠ [])->l.length<=(l.map List.length).sum
 |[],_=>by simp
 |a :: r,h=>by
  have:=aa0 r fun x hx=>h x (afg _ hx)
  have:=aeX.2 (h a (by simp))
  rw[aeR,agb,adQ];omega
theorem aa1 {s:L} (h:Gr.bC s=true):s.length<=40:=by
 unfold Gr.bC at h;simp only[aeW,aei]at h;exact h.1.1.2
theorem ajz {s:L} {ls:List L} (h:oK s=(ls,0)):(∀l∈ls,l.length<=40)/\2*ls.length<=s.length+1:=by
 unfold oK at h
 split at h
 ·cases h;simp
 split at h
 ·rename_i hn
  cases h;have h1:=Uu s;have h2:=aa0 (dA s) fun l hl=>(Ul (Ut _ _ hn l hl)).1
  exact⟨fun l hl=>aa1 (Ut _ _ hn l hl),by omega⟩
 rename_i hn;rw[afu]at h;exact absurd h.2 hn
theorem ajA {s:L} {v:ak.V} (h:ak.parse s=(v,0)):Cy.Ll v:=by
 obtain⟨hc,-,hn,hns⟩:=ak.one h;obtain⟨p1,p2,-,p4,p5,p6,p7,-⟩:=ak.EO hc
 refine⟨⟨p1,p2⟩,hn,hns,by omega,by omega,by omega,fun t ht=> ?_⟩
 unfold ak.kP at p7;rw[aop]at p7;have:=p7 t ht;simp only[aei]at this;omega
theorem Iq: ∀(ks fs:List L) (ps:List Gr.P),bM ks fs=(ps,0)->(∀k∈ks,k.length<=16777216)->(∀p∈ps,Cy.Lm p)/\ps.length<=fs.length
 |[],fs,ps,h,_=>by simp only[bM]at h;cases h;simp
 |k :: ks,[],ps,h,_=>by simp only[bM]at h;cases h;simp
 |k :: ks,f :: fs,ps,h,hk=>by
  have ih:=fun qs hq=>Iq ks fs qs hq fun k hm=>hk k (afg _ hm)
  rw[bM]at h
  split at h
  ·have:=ih ps h
   exact⟨this.1,by rw[adQ];omega⟩
  split at h
  ·rename_i hc;rw[afu]at h;exact absurd h.2 hc
  rename_i hc
  split at h
  ·rename_i hq;rw[afu]at h;exact absurd h.2 hq
  rename_i hq;cases h;have:=ih _ (anG rfl (Decidable.not_not.1 hq))
  refine⟨fun p hp=> ?_,by rw[adQ,adQ];exact Nat.succ_le_succ this.2⟩
  rcases aeY.1 hp with e|hp
  ·rw[e]
   exact⟨hk k (by simp),ajA (v:=(ak.parse f).1) (anG rfl (Decidable.not_not.1 hc))⟩
  exact this.1 p hp
theorem PS: ∀(ks fs:List L) (ps:List Gr.P),bM ks fs=(ps,0)->(ps.map Gr.P.key).Sublist ks
 |[],fs,ps,h=>by simp only[bM]at h;cases h;simp
 |k :: ks,[],ps,h=>by simp only[bM]at h;cases h;simp
 |k :: ks,f :: fs,ps,h=>by
  rw[bM]at h
  split at h
  ·exact(PS ks fs ps h).cons _
  split at h
  ·rename_i hc;rw[afu]at h;exact absurd h.2 hc
  split at h
  ·rename_i hq;rw[afu]at h;exact absurd h.2 hq
  rename_i hq;cases h;exact(PS ks fs _ (anG rfl (Decidable.not_not.1 hq))).cons_cons _
structure Ns (ns:List Gr.N):Prop where
 sz: ∀n∈ns,Cy.QC n/\(n.props.map Gr.P.key).Nodup
 nd:(ns.map Gr.N.id).Nodup
structure Rs (ns:List Gr.R):Prop where
 sz: ∀n∈ns,Cy.QD n/\(n.props.map Gr.P.key).Nodup
 nd:(ns.map Gr.R.id).Nodup
def Row (r:List L):Prop:=r.length<=16777217/\ ∀f∈r,f.length<=16777216
theorem aa2 {r:List L} (h:Row r) (i:Nat):(r.getD i []).length<=16777216:=by
 rw[afN];cases hi:r[i]? with
 |none=>simp
 |some f=>exact h.2 f (adI hi)
theorem aa3 {ks:List L} (hk: ∀k∈ks,k.length<=16777216) (hd:ks.Nodup) {w:Nat}: ∀(rows:List (List L)) (acc ns:List Gr.N),nT ks w rows acc=(ns,0)->(∀r∈rows,Row r)->Ns acc->Ns ns
 |[],acc,ns,h,_,ha=>by rw[nT]at h;cases h;exact ha
 |row :: r,acc,ns,h,hr,ha=>by
  rw[nT]at h
  split at h
  ·cases h
  cases hn:known 1024 (row.getD 0 []) with
  |none=>rw[hn]at h;cases h
  |some n=>
   rw[hn]at h;simp only at h
   split at h
   ·cases h
   rename_i hid
   split at h
   ·rename_i hc;rw[afu]at h;exact absurd h.2 hc
   rename_i hl
   split at h
   ·rename_i hc;rw[afu]at h;exact absurd h.2 hc
   rename_i hp;have hrow:=hr row (by simp)
   have h1:=ajz (s:=row.getD 1 []) (ls:=(oK (row.getD 1 [])).1) (anG rfl (Decidable.not_not.1 hl))
   have h2:=Iq ks (row.drop 2) (bM ks (row.drop 2)).1 (anG rfl (Decidable.not_not.1 hp)) hk
   have h3:=PS ks (row.drop 2) (bM ks (row.drop 2)).1 (anG rfl (Decidable.not_not.1 hp))
   have hg:=PO hn;have hlen:=aa2 hrow 1
   refine aa3 hk hd r _ ns h (fun x hx=>hr x (afg _ hx)) ⟨fun x hx=> ?_, ?_⟩
   ·rcases aem.1 hx with hx|hx
    ·exact ha.sz x hx
    rw[ael.1 hx]
    refine⟨⟨hg.1,hg.2,by show(oK (row.getD 1 [])).1.length<=16777216;omega,fun l hl=>adg (h1.1 l hl) (by decide), ?_,h2.1⟩,h3.nodup hd⟩
    show(bM ks (row.drop 2)).1.length<=16777216
    have:=h2.2;rw[aej]at this;have:=hrow.1;omega
   rw[ad8];exact Cy.aaD ha.nd hid
theorem aa4 {ids:List Int} {n:Int} {s:L} (h:endP ids s=some n):0<=n/\n<1024:=by
 unfold endP at h;cases hk:known 1024 s with
 |none=>rw[hk]at h;cases h
 |some m=>
  rw[hk]at h;simp only at h
  split at h
  ·cases h;exact PO hk
  cases h
theorem aa5 {ks:List L} (hk: ∀k∈ks,k.length<=16777216) (hd:ks.Nodup) {w:Nat} {ids:List Int}: ∀(rows:List (List L)) (acc ns:List Gr.R),qI ks w ids rows acc=(ns,0)->(∀r∈rows,Row r)->Rs acc->Rs ns
 |[],acc,ns,h,_,ha=>by rw[qI]at h;cases h;exact ha
 |row :: r,acc,ns,h,hr,ha=>by
  rw[qI]at h
  split at h
  ·cases h
  cases hn:known 2048 (row.getD 0 []) with
  |none=>rw[hn]at h;cases h
  |some n=>
   rw[hn]at h;simp only at h
   split at h
   ·cases h
   rename_i hid;cases hs:endP ids (row.getD 1 []) with
   |none=>rw[hs]at h;cases h
   |some a=>
    cases ht:endP ids (row.getD 2 []) with
    |none=>rw[hs,ht]at h;cases h
    |some b=>
     rw[hs,ht]at h;simp only at h
     split at h
     ·cases h
     rename_i hgn
     split at h
     ·rename_i hc;rw[afu]at h;exact absurd h.2 hc
     rename_i hp;have hrow:=hr row (by simp)
     have h2:=Iq ks (row.drop 4) (bM ks (row.drop 4)).1 (anG rfl (Decidable.not_not.1 hp)) hk
     have h3:=PS ks (row.drop 4) (bM ks (row.drop 4)).1 (anG rfl (Decidable.not_not.1 hp))
     have hg:=PO hn
     refine aa5 hk hd r _ ns h (fun x hx=>hr x (afg _ hx)) ⟨fun x hx=> ?_, ?_⟩
     ·rcases aem.1 hx with hx|hx
      ·exact ha.sz x hx
      rw[ael.1 hx];refine⟨⟨hg.1,hg.2,aa2 hrow 3,aa4 hs,aa4 ht, ?_,h2.1⟩,h3.nodup hd⟩
      show(bM ks (row.drop 4)).1.length<=16777216
      have:=h2.2;rw[aej]at this;have:=hrow.1;omega
     rw[ad8];exact Cy.aaD ha.nd hid
theorem aa6 {want:List L} {rows:List (List L)} {ks:List L} (h:dK want rows=some ks):(∀k∈ks,k.length<=16777216)/\ks.Nodup:=by
 unfold dK at h
 split at h
 ·cases h
 split at h
 ·rename_i hc
  cases h;exact⟨fun k hk=>adg (aa1 (afF.1 hc.2.1 k hk)) (by decide),hc.2.2⟩
 cases h
theorem Uw {rows:List (List L)} {ns:List Gr.N} (h:nodesOf rows=(ns,0)) (hr: ∀r∈rows,Row r):Ns ns:=by
 unfold nodesOf at h
 split at h
 ·cases h
 rename_i ks hk;have:=aa6 hk
 exact aa3 this.1 this.2 _ _ _ h (fun r hm=>hr r (List.mem_of_mem_tail hm)) ⟨by simp,by simp⟩
theorem Ux {ids:List Int} {rows:List (List L)} {ns:List Gr.R} (h:oL ids rows=(ns,0)) (hr: ∀r∈rows,Row r):Rs ns:=by
 unfold oL at h
 split at h
 ·cases h
 rename_i ks hk;have:=aa6 hk
 exact aa5 this.1 this.2 _ _ _ h (fun r hm=>hr r (List.mem_of_mem_tail hm)) ⟨by simp,by simp⟩
theorem rows_row {l:L} (h:l.length<=16777216): ∀r∈(ay.rowsOf l).1,Row r:=fun r hr=>by
 have:=ajx l r hr;exact⟨by omega,fun f hf=>adg (this.2 f hf) h⟩
theorem Uy {ns:List Gr.N} {rs:List Gr.R} (hn:Ns ns) (hr:Rs rs):Cy.uD ⟨ns,rs⟩:=⟨fun n h=>(hn.sz n h).1,fun n h=>(hr.sz n h).1,hn.nd,hr.nd⟩
theorem aa7 {a b:L} {g:Gr.G} {e:Nat} (h:parse a b=(g,e)):Cy.uD g/\(e=0->Cy.Fine g)/\(e≠0->g=Gr.G0):=by
 have hg0: ∀{e:Nat},e≠0->Cy.uD Gr.G0/\(e=0->Cy.Fine Gr.G0)/\(e≠0->Gr.G0=Gr.G0):=fun he=>⟨Cy.ajm,fun h=>absurd h he,fun _=>rfl⟩
 unfold parse at h
 split at h
 ·cases h;exact hg0 (by decide)
 rename_i hlen
 split at h
 ·rename_i hc;cases h;exact hg0 hc
 split at h
 ·rename_i hc;cases h;exact hg0 hc
 split at h
 ·rename_i hc;cases h;exact hg0 hc
 rename_i hn
 split at h
 ·rename_i hc;cases h;exact hg0 hc
 rename_i hr
 split at h
 ·rename_i hc;cases h;exact hg0 hc
 rename_i hc;cases h
 have h1:=Uw (rows:=(ay.rowsOf a).1) (anG rfl (Decidable.not_not.1 hn)) (rows_row (by omega))
 have h2:=Ux (ids:=(nodesOf (ay.rowsOf a).1).1.map Gr.N.id) (rows:=(ay.rowsOf b).1) (anG rfl (Decidable.not_not.1 hr)) (rows_row (by omega))
 have hsz:=Cy.TY (Uy h1 h2)
 refine⟨hsz,fun _=>⟨Gr.Pz.1 (Decidable.not_not.1 hc),fun p hp=> ?_⟩,fun e=>absurd rfl e⟩
 unfold Gr.dX at hp
 have hv:Cy.Ll p.val:=by
  rcases aem.1 hp with hp|hp
  ·obtain⟨n,hn,hq⟩:=ae9.1 hp
   exact((hsz.ns n hn).ps p hq).val
  obtain⟨n,hn,hq⟩:=ae9.1 hp;exact((hsz.rs n hn).ps p hq).val
 exact⟨hv.num,hv.nums⟩
end Go.Proofs.YtkdakckjafomhaaGreatDoor.Tb
