/- Contracts and plain laws,part 21. -/
import Derived.Test.YtanlehkalkafdaaGreatDoorUT20
import Derived.Maps.Own
import Derived.Maps.OwnOps
import Derived.Maps.OwnIn
import Derived.Maps.Views
import Derived.StringKeys
set_option maxHeartbeats 64000000
set_option maxRecDepth 1000000
set_option linter.all false
namespace Go.Proofs.YtanlehkalkafdaaGreatDoor
open Go.RowKit Go.Maps
theorem lawI:Keyed Tryz.prog 3:=int_keyed Tryz.underlying3
theorem lawS:Keyed Tryz.prog 9:=string_keyed Tryz.underlying9
theorem zeroI (w:World):(zeroValue 3).run Tryz.prog w= .ok (.int .i64 0) w:=by kernel_rfl
abbrev ZL:DataW Unit:= .lit (.int .i64 0)
theorem wf64 {n:Int} (h:Cel.In64 n):(Lit.int .i64 n).wf=true:=by
 unfold Cel.In64 at h;simp only [Lit.wf,mY,mD];exact h
structure CntI (w:World) (b:Nat) (l:List Int):Prop where
 ex: ∃(n:Nat) (D:DataW Unit),n<=l.length/\w.ownsMap Tryz.prog 3 (plainElem Tryz.prog 3) b n D/\IsMap D/\ ∀i,Cel.In64 i->D.atKey (.int .i64 i) ZL= .lit (.int .i64 (l.count i:Nat))
structure CntS (w:World) (b:Nat) (l:List (List UInt8)):Prop where
 ex: ∃(n:Nat) (D:DataW Unit),n<=l.length/\w.ownsMap Tryz.prog 9 (plainElem Tryz.prog 3) b n D/\Tidy D/\(∀t,D.atKey (.string t) ZL= .lit (.int .i64 (l.count t:Nat)))/\ ∀t,has D (.string t)=decide (t∈l)
section
variable {w w':World} {b:Nat}
theorem CntI.made (w:World):CntI (w.alloc (.map #[] 0)) w.heap.size []:=⟨0, .map [],kV _,World.ownsMap_made _ _ _ _,isMap_empty,fun i _=>rfl⟩
theorem CntS.made (w:World):CntS (w.alloc (.map #[] 0)) w.heap.size []:=⟨0, .map [],kV _,World.ownsMap_made _ _ _ _,tidy_empty,fun t=>rfl,fun t=>rfl⟩
theorem CntI.lt {l:List Int} (h:CntI w b l):b<w.heap.size:=by obtain ⟨n,D,-,h,-⟩:=h.ex;exact h.lt
theorem CntS.lt {l:List (List UInt8)} (h:CntS w b l):b<w.heap.size:=by obtain ⟨n,D,-,h,-⟩:=h.ex;exact h.lt
theorem CntI.kept {row:Option Nat} {l:List Int} (h:CntI w b l) (hg:w.grownBy w' row) (hne:some b≠row):CntI w' b l:=by obtain ⟨n,D,h1,h,h2⟩:=h.ex;exact ⟨n,D,h1,h.kept hg hne,h2⟩
theorem CntS.kept {row:Option Nat} {l:List (List UInt8)} (h:CntS w b l) (hg:w.grownBy w' row) (hne:some b≠row):CntS w' b l:=by obtain ⟨n,D,h1,h,h2⟩:=h.ex;exact ⟨n,D,h1,h.kept hg hne,h2⟩
theorem CntI.below {l:List Int} (h:CntI w b l) (hb:Below w.heap.size w w'):CntI w' b l:=h.kept (only_of_below hb none) (by simp)
theorem CntS.below {l:List (List UInt8)} (h:CntS w b l) (hb:Below w.heap.size w w'):CntS w' b l:=h.kept (only_of_below hb none) (by simp)
end
theorem count_app {α:Type} [BEq α] [LawfulBEq α] [DecidableEq α] (l:List α) (x i:α):(l ++ [x]).count i=l.count i+if x=i then 1 else 0:=by
 rw [tZ,List.count_singleton];by_cases h:x=i<;> simp [h]
theorem CntI.look {w:World} {b:Nat} {l:List Int} (h:CntI w b l) {t:TypeId} (ht:Tryz.prog.underlying t=some (.map 3 3)) {i:Int} (hi:Cel.In64 i):(Instr.lookup t (.map (some b)) (.int .i64 i) false).run Tryz.prog w= .ok (.int .i64 (l.count i:Nat)) w:=by
 obtain ⟨n,D,-,hown,-,hc⟩:=h.ex
 obtain ⟨c,hrun,hat,-⟩:=hown.lookup_int lawI ht Tryz.underlying3 (zeroI _) (keyOf_int_mk Tryz.underlying3 (wf64 hi))
 rw [hc i hi] at hat
 have he:c=((l.count i:Nat):Int):=by injection hat with hat;injection hat with _ hat;exact hat.symm
 exact he▸hrun
theorem CntS.look {w:World} {b:Nat} {l:List (List UInt8)} (h:CntS w b l) {t:TypeId} (ht:Tryz.prog.underlying t=some (.map 9 3)) {s:ByteArray} (hs:s.size<=maxLen):(Instr.lookup t (.map (some b)) (.string s) false).run Tryz.prog w= .ok (.int .i64 (l.count s.data.toList:Nat)) w:=by
 obtain ⟨n,D,-,hown,-,hc,-⟩:=h.ex
 obtain ⟨c,hrun,hat,-⟩:=hown.lookup_int lawS ht Tryz.underlying3 (zeroI _) (Go.WideMaps.keyOf_string_mk Tryz.underlying9 hs)
 rw [hc] at hat
 have he:c=((l.count s.data.toList:Nat):Int):=by injection hat with hat;injection hat with _ hat;exact hat.symm
 exact he▸hrun
section
variable {P:Program} (w:World) {ops:Array Oper} {rest:List Oper} {o:Oper} {a:Act} {Q:Exit->Act->World->Prop} (hg:o.guard=none)
include hg
theorem wpList_put_I {l:List Int} {b:Nat} (h:CntI w b l) (hl:l.length<1152921504606846976) (m x v:Operand) (t:TypeId) (hop:o.op=Op.mapUpdate t m x v) (ht:Tryz.prog.underlying t=some (.map 3 3)) (hm:a.eval m= .map (some b)) (i:Int) (hi:Cel.In64 i) (hx:a.eval x= .int .i64 i) (hv:a.eval v= .int .i64 ((l.count i:Nat)+1:Int))
  (hK: ∀w',CntI w' b (l ++ [i])->w.grownBy w' (some b)->wpList Tryz.prog ops Q rest (a.put o.dst undef) w'):wpList Tryz.prog ops Q (o :: rest) a w:=by
 obtain ⟨n,D,hn,hown,hD,hc⟩:=h.ex;have hcl:=oI (a:=i) (l:=l)
 refine wpList_mapUpdate_own w hg m x v t hop 3 3 lawI ht _ b n D hm hown (by unfold maxLen;omega) _ _ _ hx hv (keyOf_int_mk Tryz.underlying3 (wf64 hi)) _ [] (plainElem_int Tryz.underlying3 (wf64 (by unfold Cel.In64;omega))) ?_
 intro w1 hown1 hgrow
 refine hK w1 ⟨n+1,_,by rw [kW];simp;omega,hown1,IsMap.put hD (.int .i64 i) _,fun j hj=> ?_⟩ hgrow
 rw [count_app];by_cases e:i=j
 ·subst e
  rw [atKey_put_same hD (k:= .int .i64 i) trivial,lu rfl];simp
 rw [atKey_put_other (k':= .int .i64 j) (by intro h;cases h;exact e rfl),hc j hj,kU e,oO]
theorem wpList_put_S {l:List (List UInt8)} {b:Nat} (h:CntS w b l) (hl:l.length<1152921504606846976) (m x v:Operand) (t:TypeId) (hop:o.op=Op.mapUpdate t m x v) (ht:Tryz.prog.underlying t=some (.map 9 3)) (hm:a.eval m= .map (some b)) (s:ByteArray) (hs:s.size<=maxLen) (hx:a.eval x= .string s) (hv:a.eval v= .int .i64 ((l.count s.data.toList:Nat)+1:Int))
  (hK: ∀w',CntS w' b (l ++ [s.data.toList])->w.grownBy w' (some b)->wpList Tryz.prog ops Q rest (a.put o.dst undef) w'):wpList Tryz.prog ops Q (o :: rest) a w:=by
 obtain ⟨n,D,hn,hown,hD,hc,hh⟩:=h.ex;have hcl:=oI (a:=s.data.toList) (l:=l)
 refine wpList_mapUpdate_own w hg m x v t hop 9 3 lawS ht _ b n D hm hown (by unfold maxLen;omega) _ _ _ hx hv (Go.WideMaps.keyOf_string_mk Tryz.underlying9 hs) _ [] (plainElem_int Tryz.underlying3 (wf64 (by unfold Cel.In64;omega))) ?_
 intro w1 hown1 hgrow
 refine hK w1 ⟨n+1,_,by rw [kW];simp;omega,hown1,Tidy.put hD (k:= .string s.data.toList) trivial _,fun j=> ?_,fun j=> ?_⟩ hgrow
 ·rw [count_app]
  by_cases e:s.data.toList=j
  ·subst e
   rw [atKey_put_same hD.isMap (k:= .string s.data.toList) trivial,lu rfl];simp
  rw [atKey_put_other (k':= .string j) (by intro h;cases h;exact e rfl),hc j,kU e,oO]
 by_cases e:s.data.toList=j
 ·subst e
  rw [has_put_same hD.isMap (k:= .string s.data.toList) trivial];simp
 rw [has_put_other (k':= .string j) (by intro h;cases h;exact e rfl),hh j]
 simp [Ne.symm e]
end
theorem Same1.cntS {T n₁ b:Nat} {A B:World} {l:List (List UInt8)} (h:Same1 T n₁ A B) (hc:CntS A b l):CntS B b l:=by
 obtain ⟨n,D,h1,⟨es,clock,hb,F,hs,hD⟩,h2⟩:=hc.ex
 exact ⟨n,D,h1,⟨es,clock,h.block b _ hb (fun r e=>by cases e) (fun c fz e=>by cases e),F,hs,hD⟩,h2⟩
section
variable {F:Fence} {nF:Nat} (w:World) {ops:Array Oper} {rest:List Oper} {o:Oper} {a:Act} {Q:Exit->Act->World->Prop} (hg:o.guard=none)
include hg
theorem wpListIn_put_S {l:List (List UInt8)} {b:Nat} (h:CntS w b l) (hl:l.length<1152921504606846976) (m x v:Operand) (t:TypeId) (hop:o.op=Op.mapUpdate t m x v) (ht:Tryz.prog.underlying t=some (.map 9 3)) (hm:a.eval m= .map (some b)) (s:ByteArray) (hs:s.size<=maxLen) (hx:a.eval x= .string s) (hv:a.eval v= .int .i64 ((l.count s.data.toList:Nat)+1:Int))
  (hK: ∀w',CntS w' b (l ++ [s.data.toList])->w.grownBy w' (some b)->wpListIn F nF Tryz.prog ops Q rest (a.put o.dst undef) w'):wpListIn F nF Tryz.prog ops Q (o :: rest) a w:=by
 obtain ⟨n,D,hn,hown,hD,hc,hh⟩:=h.ex;have hcl:=oI (a:=s.data.toList) (l:=l)
 refine wpListIn_mapUpdate_own w hg m x v t hop 9 3 lawS ht _ b n D hm hown (by unfold maxLen;omega) _ _ _ hx hv (Go.WideMaps.keyOf_string_mk Tryz.underlying9 hs) _ [] (plainElem_int Tryz.underlying3 (wf64 (by unfold Cel.In64;omega))) ?_
 intro w1 hown1 hgrow
 refine hK w1 ⟨n+1,_,by rw [kW];simp;omega,hown1,Tidy.put hD (k:= .string s.data.toList) trivial _,fun j=> ?_,fun j=> ?_⟩ hgrow
 ·rw [count_app]
  by_cases e:s.data.toList=j
  ·subst e
   rw [atKey_put_same hD.isMap (k:= .string s.data.toList) trivial,lu rfl];simp
  rw [atKey_put_other (k':= .string j) (by intro h;cases h;exact e rfl),hc j,kU e,oO]
 by_cases e:s.data.toList=j
 ·subst e
  rw [has_put_same hD.isMap (k:= .string s.data.toList) trivial];simp
 rw [has_put_other (k':= .string j) (by intro h;cases h;exact e rfl),hh j]
 simp [Ne.symm e]
end
end Go.Proofs.YtanlehkalkafdaaGreatDoor
namespace Go.Proofs.YtanlehkalkafdaaGreatDoor
open Go.RowKit
structure Kp (base:Nat) (w w':World):Prop where
 bel:Below base w w'
 keep: ∀(b:Nat) (c:Array Value) (t:TypeId) (fz:Nat×Nat),w.heap[b]?=some (.cells c t fz)->t≠25->t≠48->t≠55->w'.heap[b]?=some (.cells c t fz)
theorem Kp.refl (base:Nat) (w:World):Kp base w w:=⟨Below.refl _ _,fun _ _ _ _ h _ _ _=>h⟩
theorem Kp.trans {base:Nat} {a b c:World} (h:Kp base a b) (k:Kp base b c):Kp base a c:=
 ⟨h.bel.trans k.bel,fun i cs t fz hc h1 h2 h3=>k.keep i cs t fz (h.keep i cs t fz hc h1 h2 h3) h1 h2 h3⟩
theorem Kp.of_below {base:Nat} {w w':World} (h:Below w.heap.size w w') (hb:base<=w.heap.size):Kp base w w':=
 ⟨h.mono hb,fun b c t fz hc _ _ _=>(h.block b (lV.1 hc).1).trans hc⟩
theorem Kp.of_grown {base g:Nat} {w w':World} (h:w.grownBy w' (some g)) (hb:base<=w.heap.size) (hg:base<=g)
  (hty: ∀c t fz,w.heap[g]?=some (.cells c t fz)->t=25\/t=48\/t=55):Kp base w w':=by
 refine ⟨⟨h.os,h.tape,h.output,h.size,fun k hk=>h.block k (by omega) (fun e=>by cases e;omega)⟩,fun b c t fz hc h1 h2 h3=> ?_⟩
 rw [h.block b (lV.1 hc).1 ?_]
 ·exact hc
 intro e;cases e
 rcases hty c t fz hc with e | e | e
 ·exact h1 e
 ·exact h2 e
 exact h3 e
theorem own_kp {base B e size n:Nat} {v:Value} {xs:List Value} {w w':World} (h:w.ownsRow B e size v n xs) (hk:Kp base w w') (h1:e≠25) (h2:e≠48) (h3:e≠55):w'.ownsRow B e size v n xs:=by
 obtain ⟨hl,h⟩:=h;refine ⟨hl, ?_⟩
 rcases h with h |⟨g,cap,cur,hv,hb,hc,hr⟩
 ·exact .inl h
 exact .inr ⟨g,cap,cur,hv,hb,hk.keep _ _ _ _ hc h1 h2 h3,hr⟩
theorem PairOwn.kp {base B:Nat} {x:Gr.P×List Value} {w w':World} (h:PairOwn w B x) (hk:Kp base w w'):PairOwn w' B x:=by
 obtain ⟨s,t,e,h1,h2⟩:=h
 exact ⟨s,t,e,own_kp h1 hk (by decide) (by decide) (by decide),own_kp h2 hk (by decide) (by decide) (by decide)⟩
theorem PropsOwn.kp {T:TypeId} {base B:Nat} {v:Value} {ps:List Gr.P} {w w':World} (h:PropsOwn T w B v ps) (hk:Kp base w w') (h1:T≠25) (h2:T≠48) (h3:T≠55):PropsOwn T w' B v ps:=by
 obtain ⟨l,e,hx,ho⟩:=h;exact ⟨l,e,fun x hm=>(hx x hm).kp hk,own_kp ho hk h1 h2 h3⟩
theorem PairOwn.form {W:World} {B:Nat} {p:Gr.P} {cs:List Value} (h:PairOwn W B (p,cs)): ∃A1 c1 A2 c2,cs= [ST p.key, .int .i64 p.val.kind, .int .i64 p.val.num,ST p.val.text, .slice A1 p.val.nums.length c1, .slice A2 p.val.texts.length c2]/\
  W.ownsRow B 2 1 (.slice A1 p.val.nums.length c1) p.val.nums.length (p.val.nums.map I64)/\W.ownsRow B 9 1 (.slice A2 p.val.texts.length c2) p.val.texts.length (p.val.texts.map ST):=by
 obtain ⟨s,t,e,h1,h2⟩:=h;obtain ⟨A1,c1,rfl⟩:=own_form h1;obtain ⟨A2,c2,rfl⟩:=own_form h2
 exact ⟨A1,c1,A2,c2,e,h1,h2⟩
theorem PairOwn.below {w w':World} {B:Nat} {x:Gr.P×List Value} (h:PairOwn w B x) (hb:Below w.heap.size w w'):PairOwn w' B x:=h.row (only_of_below hb none) (fun g c t fz hr=>by cases hr)
theorem info_prop:(Tryz.prog.info? 53).map (fun i=>(i.zero,i.size,i.bytes))=some (some (.agg #[.string ⟨#[]⟩, .int .i64 0, .int .i64 0, .string ⟨#[]⟩, .slice none 0 0, .slice none 0 0]),6,96):=by kernel_rfl
theorem CntI.isMap {w:World} {b:Nat} {l:List Int} (h:CntI w b l): ∀c t fz,w.heap[b]?≠some (.cells c t fz):=fun c t fz e=>by
 obtain ⟨n,D,-,⟨es,cl,h1,-⟩,-⟩:=h.ex;rw [h1] at e;cases e
def NodeOwn (W:World) (B:Nat) (x:Gr.N×List Value):Prop:=
 ∃sl sp,x.2= [.int .i64 x.1.id,sl,sp]/\W.ownsRow B 9 1 sl x.1.labels.length (x.1.labels.map ST)/\PropsOwn 53 W B sp x.1.props
def RelOwn (W:World) (B:Nat) (x:Gr.R×List Value):Prop:=
 ∃sp,x.2= [.int .i64 x.1.id,ST x.1.type, .int .i64 x.1.src, .int .i64 x.1.dst,sp]/\PropsOwn 53 W B sp x.1.props
theorem NodeOwn.kp {base B:Nat} {x:Gr.N×List Value} {w w':World} (h:NodeOwn w B x) (hk:Kp base w w'):NodeOwn w' B x:=by
 obtain ⟨s,t,e,h1,h2⟩:=h
 exact ⟨s,t,e,own_kp h1 hk (by decide) (by decide) (by decide),h2.kp hk (by decide) (by decide) (by decide)⟩
theorem RelOwn.kp {base B:Nat} {x:Gr.R×List Value} {w w':World} (h:RelOwn w B x) (hk:Kp base w w'):RelOwn w' B x:=by
 obtain ⟨t,e,h2⟩:=h;exact ⟨t,e,h2.kp hk (by decide) (by decide) (by decide)⟩
theorem Kp.of_own {base e sz n:Nat} {v:Value} {xs:List Value} {w w':World} (h:w.ownsRow base e sz v n xs) (he:e=48\/e=55) (hb:base<=w.heap.size) (hg:w.grownBy w' v.ownBlock):Kp base w w':=by
 cases hv:v.ownBlock with
 | none=>
  rw [hv] at hg
  exact Kp.of_below ⟨hg.os,hg.tape,hg.output,hg.size,fun k hk=>hg.block k hk (by simp)⟩ hb
 | some i=>
  rw [hv] at hg;obtain ⟨hi,c,hc⟩:=own_blocks h i hv
  refine Kp.of_grown hg hb hi fun c' t fz e'=> ?_
  rw [hc] at e';cases e';exact .inr he
theorem own_ne_map {base e sz n m:Nat} {v:Value} {xs:List Value} {l:List Int} {w:World} (h:w.ownsRow base e sz v n xs) (hm:CntI w m l):some m≠v.ownBlock:=fun e'=>by
 obtain ⟨-,c,hc⟩:=own_blocks h m e'.symm;exact hm.isMap _ _ _ hc
theorem own_ne_blk {base e e' sz n b:Nat} {v:Value} {xs:List Value} {cs:Array Value} {w:World} (h:w.ownsRow base e sz v n xs) (hm:Blk w b e' cs) (hne:e'≠e):some b≠v.ownBlock:=fun x=>by
 obtain ⟨-,c,hc⟩:=own_blocks h b x.symm;have:=hm.symm.trans hc;cases this;exact hne rfl
theorem own_ty {w w':World} {base e e' size n size' n':Nat} {v v':Value} {xs xs':List Value} (h:w.ownsRow base e size v n xs) (hv:w.ownsRow base e' size' v' n' xs') (hg:w.grownBy w' v'.ownBlock) (hne:e'≠e):w'.ownsRow base e size v n xs:=
 own_kept_ty h hg fun g c t fz hr hc=>by
  obtain ⟨-,c',hc'⟩:=own_blocks hv g hr;rw [hc'] at hc;cases hc;exact hne
theorem own_setb {w:World} {base e e' size n b i:Nat} {v u:Value} {xs:List Value} {cs:Array Value} (h:w.ownsRow base e size v n xs) (hb:Blk w b e' cs) (hne:e'≠e):(w.setCell ⟨b,i,none⟩ u).ownsRow base e size v n xs:=
 own_kept_ty h (grownBy_set w ⟨b,i,none⟩ u) fun g c t fz hr hc=>by
  cases hr;have:=hb.symm.trans hc;cases this;exact hne
theorem Kp.set {w:World} {base b i:Nat} {u:Value} {cs:Array Value} (hb:Blk w b 25 cs) (hB:base<=b):Kp base w (w.setCell ⟨b,i,none⟩ u):=
 Kp.of_grown (grownBy_set w ⟨b,i,none⟩ u) (kZ hB (vZ hb.lt)) hB fun c t fz hc=>by
  have:=hb.symm.trans hc;cases this;exact .inl rfl
theorem info_node:(Tryz.prog.info? 48).map (fun i=>(i.zero,i.size,i.bytes))=some (some (.agg #[.int .i64 0, .slice none 0 0, .slice none 0 0]),3,56):=by kernel_rfl
theorem info_rel:(Tryz.prog.info? 55).map (fun i=>(i.zero,i.size,i.bytes))=some (some (.agg #[.int .i64 0, .string ⟨#[]⟩, .int .i64 0, .int .i64 0, .slice none 0 0]),5,64):=by kernel_rfl
end Go.Proofs.YtanlehkalkafdaaGreatDoor
namespace Go.Proofs.YtanlehkalkafdaaGreatDoor.Tb
open Go
abbrev L:=List UInt8
def ID:L:= [58,73,68]
def LABEL:L:= [58,76,65,66,69,76]
def START:L:= [58,83,84,65,82,84]
def ENDS:L:= [58,69,78,68]
def TYPE:L:= [58,84,89,80,69]
def headN:List L:= [ID,LABEL]
def headR:List L:= [ID,START,ENDS,TYPE]
def keysOf (ps:List Gr.P):List L:=Gr.canonLabels (Gr.dedup (ps.map Gr.P.key))
def fieldOf (ps:List Gr.P) (k:L):L:=
 match ps.find? (fun p=>decide (p.key=k)) with
 | none=> []
 | some p=>Cel.print p.val
def joinS:List L->L
 | []=> []
 | [a]=>a
 | a :: b :: r=>a ++ 59 :: joinS (b :: r)
def nodeRow (keys:List L) (n:Gr.N):List L:=Lib.itoa n.id :: joinS n.labels :: keys.map (fieldOf n.props)
def relRow (keys:List L) (r:Gr.R):List L:=Lib.itoa r.id :: Lib.itoa r.src :: Lib.itoa r.dst :: r.type :: keys.map (fieldOf r.props)
def keysN (g:Gr.G):List L:=keysOf (g.nodes.flatMap Gr.N.props)
def keysR (g:Gr.G):List L:=keysOf (g.rels.flatMap Gr.R.props)
def rowsN (g:Gr.G):List (List L):=(headN ++ keysN g) :: g.nodes.map (nodeRow (keysN g))
def rowsR (g:Gr.G):List (List L):=(headR ++ keysR g) :: g.rels.map (relRow (keysR g))
def print (g:Gr.G):L×L:=((rowsN g).flatMap Csv.printRow,(rowsR g).flatMap Csv.printRow)
def printR (g:Gr.G):(L×L)×Nat:=if (Gr.check g).1=0 then (print g,0) else (([], []),(Gr.check g).1)
def headP (want:List L):List (List L)->Option (List L)
 | []=>none
 | h :: _=>if h.take want.length=want/\(h.drop want.length).all Gr.goodName=true/\(h.drop want.length).Nodup then some (h.drop want.length) else none
def known (most:Int) (s:L):Option Int:=if (Num.parseInt s).2=0/\0<=(Num.parseInt s).1/\(Num.parseInt s).1<most then some (Num.parseInt s).1 else none
def splitS:L->List L
 | []=> [[]]
 | c :: r=>
  if c=59 then [] :: splitS r else
  match splitS r with
  | []=> [[c]]
  | a :: t=>(c :: a) :: t
def namesWrong:List L->List L->Nat
 | _, []=>0
 | seen,l :: r=>if Gr.goodName l=false then 60 else if l∈seen then 7 else namesWrong (seen ++ [l]) r
def labelsP (s:L):List L×Nat:=if s= [] then ([],0) else if namesWrong [] (splitS s)=0 then (splitS s,0) else ([],namesWrong [] (splitS s))
def propsP:List L->List L->List Gr.P×Nat
 | k :: ks,f :: fs=>
  if f= [] then propsP ks fs else
  if (Cel.parse f).2≠0 then ([],(Cel.parse f).2) else
  if (propsP ks fs).2≠0 then ([],(propsP ks fs).2) else (⟨k,(Cel.parse f).1⟩ ::(propsP ks fs).1,0)
 | _,_=>([],0)
def nodesP (keys:List L) (w:Nat):List (List L)->List Gr.N->List Gr.N×Nat
 | [],acc=>(acc,0)
 | row :: r,acc=>
  if row.length≠w then ([],231) else
  match known 1024 (row.getD 0 []) with
  | none=>([],61)
  | some n=>
   if n∈acc.map Gr.N.id then ([],7) else
   if (labelsP (row.getD 1 [])).2≠0 then ([],(labelsP (row.getD 1 [])).2) else
   if (propsP keys (row.drop 2)).2≠0 then ([],(propsP keys (row.drop 2)).2) else
   nodesP keys w r (acc ++ [⟨n,(labelsP (row.getD 1 [])).1,(propsP keys (row.drop 2)).1⟩])
def endP (ids:List Int) (s:L):Option Int:=
 match known 1024 s with
 | none=>none
 | some n=>if n∈ids then some n else none
def relsP (keys:List L) (w:Nat) (ids:List Int):List (List L)->List Gr.R->List Gr.R×Nat
 | [],acc=>(acc,0)
 | row :: r,acc=>
  if row.length≠w then ([],231) else
  match known 2048 (row.getD 0 []) with
  | none=>([],62)
  | some n=>
   if n∈acc.map Gr.R.id then ([],7) else
   match endP ids (row.getD 1 []),endP ids (row.getD 2 []) with
   | some s,some d=>
    if Gr.goodName (row.getD 3 [])=false then ([],60) else
    if (propsP keys (row.drop 4)).2≠0 then ([],(propsP keys (row.drop 4)).2) else
    relsP keys w ids r (acc ++ [⟨n,row.getD 3 [],s,d,(propsP keys (row.drop 4)).1⟩])
   | _,_=>([],65)
def nodesOf (rows:List (List L)):List Gr.N×Nat:=
 match headP headN rows with
 | none=>([],230)
 | some ks=>nodesP ks (2+ks.length) rows.tail []
def relsOf (ids:List Int) (rows:List (List L)):List Gr.R×Nat:=
 match headP headR rows with
 | none=>([],230)
 | some ks=>relsP ks (4+ks.length) ids rows.tail []
def parse (a b:L):Gr.G×Nat:=
 if 16777216<a.length\/16777216<b.length then (Gr.G0,1) else
 if (Csv.rowsOf a).2≠0 then (Gr.G0,(Csv.rowsOf a).2) else
 if (Csv.rowsOf b).2≠0 then (Gr.G0,(Csv.rowsOf b).2) else
 if (nodesOf (Csv.rowsOf a).1).2≠0 then (Gr.G0,(nodesOf (Csv.rowsOf a).1).2) else
 if (relsOf ((nodesOf (Csv.rowsOf a).1).1.map Gr.N.id) (Csv.rowsOf b).1).2≠0 then (Gr.G0,(relsOf ((nodesOf (Csv.rowsOf a).1).1.map Gr.N.id) (Csv.rowsOf b).1).2) else
 if (Gr.check (Gr.canon ⟨(nodesOf (Csv.rowsOf a).1).1,(relsOf ((nodesOf (Csv.rowsOf a).1).1.map Gr.N.id) (Csv.rowsOf b).1).1⟩)).1≠0 then (Gr.G0,(Gr.check (Gr.canon ⟨(nodesOf (Csv.rowsOf a).1).1,(relsOf ((nodesOf (Csv.rowsOf a).1).1.map Gr.N.id) (Csv.rowsOf b).1).1⟩)).1) else
 (Gr.canon ⟨(nodesOf (Csv.rowsOf a).1).1,(relsOf ((nodesOf (Csv.rowsOf a).1).1.map Gr.N.id) (Csv.rowsOf b).1).1⟩,0)
theorem known_of {n m:Int} (h0:0<=n) (h1:n<m) (hm:m<=2048):known m (Lib.itoa n)=some n:=by
 have hp:=Num.parse_itoa n (by omega) (by omega)
 unfold known;rw [hp,lu ⟨rfl,h0,h1⟩]
theorem split_ne (s:L):splitS s≠ []:=by
 induction s with
 | nil=>simp [splitS]
 | cons c r ih=>
  rw [splitS]
  split
  ·simp
  split<;> simp
theorem split_app: ∀(a r:L),(∀x∈a,x≠59)->splitS (a ++ 59 :: r)=a :: splitS r
 | [],r,_=>by rw [mP,splitS,lu rfl]
 | c :: a,r,h=>by
  rw [nG,splitS,kU (h c (by simp)),split_app a r (fun x hx=>h x (by simp [hx]))]
theorem split_one: ∀a:L,(∀x∈a,x≠59)->splitS a= [a]
 | [],_=>rfl
 | c :: a,h=>by rw [splitS,kU (h c (by simp)),split_one a (fun x hx=>h x (by simp [hx]))]
theorem split_join: ∀ls:List L,ls≠ []->(∀l∈ls,∀x∈l,x≠59)->splitS (joinS ls)=ls
 | [],h,_=>absurd rfl h
 | [a],_,h=>by rw [joinS,split_one a (h a (by simp))]
 | a :: b :: r,_,h=>by rw [joinS,split_app a _ (h a (by simp)),split_join (b :: r) (by simp) (fun l hl=>h l (by simp [hl]))]
theorem join_nil {ls:List L} (h: ∀l∈ls,l≠ []):joinS ls= []↔ls= []:=by
 match ls with
 | []=>simp [joinS]
 | [a]=>simp [joinS,h a (by simp)]
 | a :: b :: r=>simp [joinS]
theorem good_no {l:L} (h:Gr.goodName l=true):l≠ []/\ ∀x∈l,x≠59:=by
 unfold Gr.goodName at h;simp only [mY,mD,og] at h;refine ⟨h.1.1.1,fun x hx e=> ?_⟩
 have:=h.2 x hx;rw [e] at this;exact absurd this (by decide)
theorem names_zero: ∀(ls seen:List L),(∀l∈ls,Gr.goodName l=true)->(seen ++ ls).Nodup->namesWrong seen ls=0
 | [],_,_,_=>rfl
 | l :: ls,seen,hn,hd=>by
  rw [namesWrong,kU (by rw [hn l (by simp)];decide),kU,names_zero ls _ (fun x hx=>hn x (mg _ hx)) (by rw [lX];exact hd)]
  rw [qc] at hd;intro hx;exact hd.2.2 l hx l (by simp) rfl
theorem labels_of {ls:List L} (hn: ∀l∈ls,Gr.goodName l=true) (hd:ls.Nodup):labelsP (joinS ls)=(ls,0):=by
 unfold labelsP;by_cases h:ls= []
 ·subst h;rfl
 rw [kU (fun e=>h ((join_nil fun l hl=>(good_no (hn l hl)).1).1 e)),split_join ls h fun l hl=>(good_no (hn l hl)).2,lu (names_zero ls [] hn (by simpa using hd))]
theorem head_of {want ks:List L} {rows:List (List L)} (hg: ∀k∈ks,Gr.goodName k=true) (hd:ks.Nodup):headP want ((want ++ ks) :: rows)=some ks:=by
 unfold headP;simp only [rU,pK];rw [lu ⟨trivial,og.2 hg,hd⟩]
theorem cel_ne (v:Cel.V):Cel.print v≠ []:=by
 unfold Cel.print Cel.letter
 split<;> simp
theorem props_go (ps:List Gr.P) (hv: ∀p∈ps,Cy.PGood p): ∀ks:List L,propsP ks (ks.map (fieldOf ps))=(ks.filterMap fun k=>ps.find? fun p=>decide (p.key=k),0)
 | []=>rfl
 | k :: ks=>by
  rw [mJ,propsP,props_go ps hv ks,uS];unfold fieldOf
  cases hf:ps.find? (fun p=>decide (p.key=k)) with
  | none=>rw [lu rfl]
  | some p=>
   have hk:p.key=k:=by have:=List.find?_some hf;simpa using this
   have hp:=hv p (vG hf);simp only
   rw [kU (cel_ne _),Cel.there hp.val.ck hp.val.num hp.val.nums,kU (by simp),kU (by simp)]
   rw [<-hk]
theorem keys_mem {ps:List Gr.P} {k:L}:k∈keysOf ps↔k∈ps.map Gr.P.key:=by
 unfold keysOf Gr.canonLabels Gr.sortBy;rw [(oq _ _).mem_iff,Gr.mem_dedup]
theorem keys_nodup (ps:List Gr.P):(keysOf ps).Nodup:=by
 unfold keysOf Gr.canonLabels Gr.sortBy;exact (oq _ _).nodup_iff.2 (Gr.nodup_dedup _)
theorem keys_sorted (ps:List Gr.P):(keysOf ps).Pairwise fun a b=>decide (a<=b)=true:=by
 unfold keysOf Gr.canonLabels Gr.sortBy
 exact tH (le:=fun a b:L=>decide (a<=b)) (fun a b c h k=>kY (vO (lN h) (lN k))) (fun a b=>by simp only [o9,mD];exact wG a b) _
theorem nodup_map {α β:Type} {f:α->β} {l:List α} (h:(l.map f).Nodup):l.Nodup:=(rC.1 h).imp fun h e=>h (by rw [e])
theorem pick_sub (ps:List Gr.P): ∀ks:List L,((ks.filterMap fun k=>ps.find? fun p=>decide (p.key=k)).map Gr.P.key).Sublist ks
 | []=>List.Sublist.refl _
 | k :: ks=>by
  rw [uS];cases hf:ps.find? (fun p=>decide (p.key=k)) with
  | none=>exact (pick_sub ps ks).cons _
  | some p=>
   have hk:p.key=k:=by have:=List.find?_some hf;simpa using this
   simp only [mJ,hk];exact (pick_sub ps ks).cons_cons _
theorem find_own {ps:List Gr.P} (hd:(ps.map Gr.P.key).Nodup) {p:Gr.P} (hp:p∈ps):ps.find? (fun q=>decide (q.key=p.key))=some p:=by
 induction ps with
 | nil=>cases hp
 | cons a r ih=>
  rw [mJ,wB] at hd;rw [List.find?_cons]
  rcases mX.1 hp with e | h
  ·subst e;simp
  have:a.key≠p.key:=fun e=>hd.1 (e▸oD (f:=Gr.P.key) h)
  rw [kX this];exact ih hd.2 h
theorem pick_eq {ps:List Gr.P} {ks:List L} (hu:ps.Pairwise fun a b=>a.key<b.key) (hd:(ps.map Gr.P.key).Nodup) (hk:ks.Nodup) (hs:ks.Pairwise fun a b=>decide (a<=b)=true) (hm: ∀p∈ps,p.key∈ks):(ks.filterMap fun k=>ps.find? fun p=>decide (p.key=k))=ps:=by
 have hsub:=pick_sub ps ks
 have hmem: ∀x,x∈(ks.filterMap fun k=>ps.find? fun p=>decide (p.key=k))↔x∈ps:=fun x=>by
  rw [List.mem_filterMap]
  constructor
  ·rintro ⟨k,_,h⟩
   exact vG h
  intro h;exact ⟨x.key,hm x h,find_own hd h⟩
 have hn:(ks.filterMap fun k=>ps.find? fun p=>decide (p.key=k)).Nodup:=nodup_map (hsub.nodup hk)
 have hn2:ps.Nodup:=nodup_map hd
 refine ((uY hn hn2).2 hmem).eq_of_pairwise (le:=fun a b=>decide (a.key<=b.key)=true) (fun x y hx hy h1 h2=> ?_) (rC.1 (hs.sublist hsub)) (hu.imp fun h=>kY (sW h))
 have e:x.key=y.key:=vW (lN h1) (lN h2);have h1:=find_own hd ((hmem x).1 hx)
 rw [e,find_own hd hy] at h1;exact (mQ h1).symm
theorem props_of {ps all:List Gr.P} (hg: ∀p∈ps,Cy.PGood p) (hu:ps.Pairwise fun a b=>a.key<b.key) (hd:(ps.map Gr.P.key).Nodup) (hm: ∀p∈ps,p∈all):propsP (keysOf all) ((keysOf all).map (fieldOf ps))=(ps,0):=by
 rw [props_go ps hg,pick_eq hu hd (keys_nodup all) (keys_sorted all) fun p hp=>keys_mem.2 (oD (f:=Gr.P.key) (hm p hp))]
theorem nodes_go {g:Gr.G} (h:Cy.Fine g): ∀(ns acc:List Gr.N),acc ++ ns=g.nodes->nodesP (keysN g) (2+(keysN g).length) (ns.map (nodeRow (keysN g))) acc=(g.nodes,0)
 | [],acc,e=>by rw [mG] at e;rw [oh,nodesP,e]
 | n :: ns,acc,e=>by
  have hn:n∈g.nodes:=by rw [<-e];simp
  obtain ⟨_,hg⟩:=h.good.nodes.mem hn;have hf:=h.node hn
  have hp:=props_of (all:=g.nodes.flatMap Gr.N.props) hf.good.props (Cy.keys_up hg.props) hf.keys fun p hp=>nM.2 ⟨n,hn,hp⟩
  have hnd:n.id∉acc.map Gr.N.id:=fun hm=>by
   have hu:=Cy.nodes_up h.good.nodes;rw [<-e] at hu;obtain ⟨a,ha,hae⟩:=nR.1 hm
   have:=(pO.1 hu).2.2 a ha n (by simp)
   omega
  rw [mJ,nodesP,kU (by unfold nodeRow;simp;omega)]
  unfold nodeRow;simp only [List.getD_cons_zero,List.getD_cons_succ,oz,pG]
  rw [known_of hf.good.lo hf.good.hi (by decide)]
  simp only;rw [kU hnd,labels_of hf.good.labels hf.labels,kU (by simp)]
  unfold keysN at hp⊢;rw [hp,kU (by simp)]
  exact nodes_go h ns (acc ++ [n]) (by rw [lX];exact e)
theorem end_of {ids:List Int} {n:Int} (h0:0<=n) (h1:n<1024) (hm:n∈ids):endP ids (Lib.itoa n)=some n:=by
 unfold endP;rw [known_of h0 h1 (by decide)]
 simp only;rw [lu hm]
theorem rels_go {g:Gr.G} (h:Cy.Fine g): ∀(ns acc:List Gr.R),acc ++ ns=g.rels->relsP (keysR g) (4+(keysR g).length) (g.nodes.map Gr.N.id) (ns.map (relRow (keysR g))) acc=(g.rels,0)
 | [],acc,e=>by rw [mG] at e;rw [oh,relsP,e]
 | n :: ns,acc,e=>by
  have hn:n∈g.rels:=by rw [<-e];simp
  obtain ⟨_,hg⟩:=h.good.rels.mem hn;have hf:=h.rel hn
  have hp:=props_of (all:=g.rels.flatMap Gr.R.props) hf.good.props (Cy.keys_up hg.props) hf.keys fun p hp=>nM.2 ⟨n,hn,hp⟩
  have hnd:n.id∉acc.map Gr.R.id:=fun hm=>by
   have hu:=Cy.rels_up h.good.rels;rw [<-e] at hu;obtain ⟨a,ha,hae⟩:=nR.1 hm
   have:=(pO.1 hu).2.2 a ha n (by simp)
   omega
  rw [mJ,relsP,kU (by unfold relRow;simp;omega)]
  unfold relRow;simp only [List.getD_cons_zero,List.getD_cons_succ,oz,pG]
  rw [known_of hf.good.lo hf.good.hi (by decide)]
  simp only
  rw [kU hnd,end_of hf.good.slo hf.good.shi hg.src,end_of hf.good.dlo hf.good.dhi hg.dst]
  simp only;rw [kU (by rw [hg.name];decide)]
  unfold keysR at hp⊢;rw [hp,kU (by simp)]
  exact rels_go h ns (acc ++ [n]) (by rw [lX];exact e)
theorem keys_good {g:Gr.G} (h:Cy.Fine g):(∀k∈keysN g,Gr.goodName k=true)/\ ∀k∈keysR g,Gr.goodName k=true:=by
 constructor
 ·intro k hk
  obtain ⟨p,hp,rfl⟩:=nR.1 (keys_mem.1 hk);obtain ⟨n,hn,hpn⟩:=nM.1 hp
  exact ((h.node hn).good.props p hpn).name
 intro k hk;obtain ⟨p,hp,rfl⟩:=nR.1 (keys_mem.1 hk);obtain ⟨n,hn,hpn⟩:=nM.1 hp
 exact ((h.rel hn).good.props p hpn).name
theorem rows_ne (g:Gr.G): []∉rowsN g/\ []∉rowsR g:=by
 constructor
 ·unfold rowsN headN nodeRow
  intro h
  rcases mX.1 h with e | e
  ·cases e
  obtain ⟨n,_,e⟩:=nR.1 e;cases e
 unfold rowsR headR relRow;intro h
 rcases mX.1 h with e | e
 ·cases e
 obtain ⟨n,_,e⟩:=nR.1 e;cases e
theorem canon_fine {g:Gr.G} (h:Cy.Fine g):Gr.canon g=g:=by
 unfold Gr.canon
 rw [qL (g:=id) fun n hx=>(h.node hx).canon,uH,qL (g:=id) fun n hx=>(h.rel hx).canon,uH,Cy.sort_int (oV _) (Cy.nodes_up h.good.nodes),Cy.sort_int (oV _) (Cy.rels_up h.good.rels)]
theorem parse_print {g:Gr.G} (h:Cy.Fine g) (ha:(print g).1.length<=16777216) (hb:(print g).2.length<=16777216):parse (print g).1 (print g).2=(g,0):=by
 have e1:Csv.rowsOf (print g).1=(rowsN g,0):=Csv.rows_print _ (rows_ne g).1
 have e2:Csv.rowsOf (print g).2=(rowsR g,0):=Csv.rows_print _ (rows_ne g).2
 have e3:nodesOf (rowsN g)=(g.nodes,0):=by
  unfold nodesOf rowsN;rw [head_of (keys_good h).1 (keys_nodup _)]
  exact nodes_go h g.nodes [] rfl
 have e4:relsOf (g.nodes.map Gr.N.id) (rowsR g)=(g.rels,0):=by
  unfold relsOf rowsR;rw [head_of (keys_good h).2 (keys_nodup _)]
  exact rels_go h g.rels [] rfl
 have e5:(Gr.check g).1=0:=Gr.check_good.2 h.good;unfold parse;rw [kU (by omega),e1,e2]
 simp only;rw [kU (by simp),kU (by simp),e3]
 simp only;rw [kU (by simp),e4]
 simp only;rw [kU (by simp)]
 rw [show (⟨g.nodes,g.rels⟩:Gr.G)=g from rfl,canon_fine h,e5,kU (by simp)]
structure Fits (k:Nat) (s:Csv.St):Prop where
 f:s.field.length<=k
 r:s.row.length<=k/\ ∀f∈s.row,f.length<=k
 rs: ∀r∈s.rows,r.length<=k+1/\ ∀f∈r,f.length<=k
theorem Fits.step {k:Nat} {s s':Csv.St} {c:UInt8} (h:Fits k s) (hs:Csv.step s c= .inl s'):Fits (k+1) s':=by
 have hf:=h.f;have hr:=h.r.1;have h1: ∀f∈s.row,f.length<=k+1:=fun f hf=>vK (h.r.2 f hf)
 have h2: ∀r∈s.rows,r.length<=k+1+1/\ ∀f∈r,f.length<=k+1:=fun r hr=>⟨vK (h.rs r hr).1,fun f hf=>vK ((h.rs r hr).2 f hf)⟩
 unfold Csv.step at hs
 split at hs
 ·split at hs
  ·cases hs
   refine ⟨by simp,⟨by simp,by simp⟩,fun r hm=> ?_⟩
   rcases lW.1 hm with hm | hm
   ·exact h2 r hm
   rw [lY.1 hm];exact ⟨by omega,h1⟩
  cases hs
 split at hs
 ·split at hs
  ·cases hs;exact ⟨by show s.field.length<=k+1;omega,⟨by show s.row.length<=k+1;omega,h1⟩,h2⟩
  cases hs;exact ⟨by simp;omega,⟨by show s.row.length<=k+1;omega,h1⟩,h2⟩
 split at hs
 ·split at hs
  ·cases hs
  cases hs;refine ⟨?_,⟨by show s.row.length<=k+1;omega,h1⟩,h2⟩
  show (if s.st=3 then s.field ++ [c] else s.field).length<=k+1
  split
  ·rw [kW,nC];omega
  omega
 split at hs
 ·cases hs
  refine ⟨by simp,⟨by simp;omega,fun f hm=> ?_⟩,h2⟩
  rcases lW.1 hm with hm | hm
  ·exact h1 f hm
  rw [lY.1 hm];omega
 split at hs
 ·cases hs
 split at hs
 ·cases hs
 cases hs;exact ⟨by simp;omega,⟨by show s.row.length<=k+1;omega,h1⟩,h2⟩
theorem Fits.read: ∀(l:L) (k:Nat) (s:Csv.St),Fits k s-> ∀r∈(Csv.read s l).1,r.length<=k+l.length+1/\ ∀f∈r,f.length<=k+l.length
 | [],k,s,h=>by
  have hr:=h.r;have hs:=h.rs;have hf:=h.f;rw [Csv.read];unfold Csv.fin
  have h3: ∀r∈s.rows ++ [s.row ++ [s.field]],r.length<=k+1/\ ∀f∈r,f.length<=k:=fun r hm=>by
   rcases lW.1 hm with hm | hm
   ·exact hs r hm
   rw [lY.1 hm];refine ⟨by simp;omega,fun f hm=> ?_⟩
   rcases lW.1 hm with hm | hm
   ·exact hr.2 f hm
   rw [lY.1 hm];exact hf
  split
  ·exact hs
  split
  ·exact hs
  split
  ·exact h3
  exact hs
 | c :: l,k,s,h=>by
  rw [Csv.read];cases hs:Csv.step s c with
  | inl s'=>
   have:=Fits.read l (k+1) s' (h.step hs)
   rw [lF,show k+(l.length+1)=k+1+l.length by omega]
   exact this
  | inr e=>
   intro r hm;have:=h.rs r hm;rw [lF]
   exact ⟨by omega,fun f hf=>kZ (this.2 f hf) (by omega)⟩
theorem rows_fit (l:L): ∀r∈(Csv.rowsOf l).1,r.length<=l.length+1/\ ∀f∈r,f.length<=l.length:=by
 rw [Csv.rowsOf_read]
 have:=Fits.read l 0 ⟨0, [], [], []⟩ ⟨by simp,⟨by simp,by simp⟩,by simp⟩
 simpa using this
theorem known_range {m n:Int} {s:L} (h:known m s=some n):0<=n/\n<m:=by
 unfold known at h
 split at h
 ·rename_i hc;cases h;exact hc.2
 cases h
theorem names_fine: ∀(ls seen:List L),namesWrong seen ls=0-> ∀l∈ls,Gr.goodName l=true
 | [],_,_,_,hl=>by cases hl
 | a :: r,seen,h,l,hl=>by
  rw [namesWrong] at h
  split at h
  ·cases h
  rename_i hg
  split at h
  ·cases h
  rcases mX.1 hl with e | hl
  ·rw [e];simpa using hg
  exact names_fine r _ h l hl
theorem split_sum: ∀s:L,((splitS s).map List.length).sum+(splitS s).length=s.length+1
 | []=>rfl
 | c :: r=>by
  have ih:=split_sum r;rw [splitS]
  split
  ·simp only [mJ,oH,lF,nJ];omega
  split
  ·rename_i he;exact absurd he (split_ne r)
  rename_i a t he;rw [he] at ih;simp only [mJ,oH,lF] at ih⊢;omega
theorem sum_ge: ∀l:List L,(∀a∈l,a≠ [])->l.length<=(l.map List.length).sum
 | [],_=>by simp
 | a :: r,h=>by
  have:=sum_ge r fun x hx=>h x (mg _ hx)
  have:=nO.2 (h a (by simp))
  rw [mJ,oH,lF];omega
theorem goodName_40 {s:L} (h:Gr.goodName s=true):s.length<=40:=by
 unfold Gr.goodName at h;simp only [mY,mD] at h;exact h.1.1.2
theorem labels_fine {s:L} {ls:List L} (h:labelsP s=(ls,0)):(∀l∈ls,l.length<=40)/\2*ls.length<=s.length+1:=by
 unfold labelsP at h
 split at h
 ·cases h;simp
 split at h
 ·rename_i hn
  cases h;have h1:=split_sum s
  have h2:=sum_ge (splitS s) fun l hl=>(good_no (names_fine _ _ hn l hl)).1
  exact ⟨fun l hl=>goodName_40 (names_fine _ _ hn l hl),by omega⟩
 rename_i hn;rw [nH] at h;exact absurd h.2 hn
theorem cel_sz {s:L} {v:Cel.V} (h:Cel.parse s=(v,0)):Cy.VSz v:=by
 obtain ⟨hc,-,hn,hns⟩:=Cel.one h;obtain ⟨p1,p2,-,p4,p5,p6,p7,-⟩:=Cel.check_parts hc
 refine ⟨⟨p1,p2⟩,hn,hns,by omega,by omega,by omega,fun t ht=> ?_⟩
 unfold Cel.longs at p7;rw [sD] at p7;have:=p7 t ht;simp only [mD] at this;omega
theorem props_fine: ∀(ks fs:List L) (ps:List Gr.P),propsP ks fs=(ps,0)->(∀k∈ks,k.length<=16777216)->(∀p∈ps,Cy.PSz p)/\ps.length<=fs.length
 | [],fs,ps,h,_=>by simp only [propsP] at h;cases h;simp
 | k :: ks, [],ps,h,_=>by simp only [propsP] at h;cases h;simp
 | k :: ks,f :: fs,ps,h,hk=>by
  have ih:=fun qs hq=>props_fine ks fs qs hq fun k hm=>hk k (mg _ hm)
  rw [propsP] at h
  split at h
  ·have:=ih ps h
   exact ⟨this.1,by rw [lF];omega⟩
  split at h
  ·rename_i hc;rw [nH] at h;exact absurd h.2 hc
  rename_i hc
  split at h
  ·rename_i hq;rw [nH] at h;exact absurd h.2 hq
  rename_i hq;cases h;have:=ih _ (qJ rfl (Decidable.not_not.1 hq))
  refine ⟨fun p hp=> ?_,by rw [lF,lF];exact Nat.succ_le_succ this.2⟩
  rcases mX.1 hp with e | hp
  ·rw [e]
   exact ⟨hk k (by simp),cel_sz (v:=(Cel.parse f).1) (qJ rfl (Decidable.not_not.1 hc))⟩
  exact this.1 p hp
theorem props_keys: ∀(ks fs:List L) (ps:List Gr.P),propsP ks fs=(ps,0)->(ps.map Gr.P.key).Sublist ks
 | [],fs,ps,h=>by simp only [propsP] at h;cases h;simp
 | k :: ks, [],ps,h=>by simp only [propsP] at h;cases h;simp
 | k :: ks,f :: fs,ps,h=>by
  rw [propsP] at h
  split at h
  ·exact (props_keys ks fs ps h).cons _
  split at h
  ·rename_i hc;rw [nH] at h;exact absurd h.2 hc
  split at h
  ·rename_i hq;rw [nH] at h;exact absurd h.2 hq
  rename_i hq;cases h
  exact (props_keys ks fs _ (qJ rfl (Decidable.not_not.1 hq))).cons_cons _
structure Ns (ns:List Gr.N):Prop where
 sz: ∀n∈ns,Cy.NSz n/\(n.props.map Gr.P.key).Nodup
 nd:(ns.map Gr.N.id).Nodup
structure Rs (ns:List Gr.R):Prop where
 sz: ∀n∈ns,Cy.RSz n/\(n.props.map Gr.P.key).Nodup
 nd:(ns.map Gr.R.id).Nodup
def Row (r:List L):Prop:=r.length<=16777217/\ ∀f∈r,f.length<=16777216
theorem getD_len {r:List L} (h:Row r) (i:Nat):(r.getD i []).length<=16777216:=by
 rw [sN];cases hi:r[i]? with
 | none=>simp
 | some f=>exact h.2 f (lS hi)
theorem nodes_sz {ks:List L} (hk: ∀k∈ks,k.length<=16777216) (hd:ks.Nodup) {w:Nat}: ∀(rows:List (List L)) (acc ns:List Gr.N),nodesP ks w rows acc=(ns,0)->(∀r∈rows,Row r)->Ns acc->Ns ns
 | [],acc,ns,h,_,ha=>by rw [nodesP] at h;cases h;exact ha
 | row :: r,acc,ns,h,hr,ha=>by
  rw [nodesP] at h
  split at h
  ·cases h
  cases hn:known 1024 (row.getD 0 []) with
  | none=>rw [hn] at h;cases h
  | some n=>
   rw [hn] at h;simp only at h
   split at h
   ·cases h
   rename_i hid
   split at h
   ·rename_i hc;rw [nH] at h;exact absurd h.2 hc
   rename_i hl
   split at h
   ·rename_i hc;rw [nH] at h;exact absurd h.2 hc
   rename_i hp;have hrow:=hr row (by simp)
   have h1:=labels_fine (s:=row.getD 1 []) (ls:=(labelsP (row.getD 1 [])).1) (qJ rfl (Decidable.not_not.1 hl))
   have h2:=props_fine ks (row.drop 2) (propsP ks (row.drop 2)).1 (qJ rfl (Decidable.not_not.1 hp)) hk
   have h3:=props_keys ks (row.drop 2) (propsP ks (row.drop 2)).1 (qJ rfl (Decidable.not_not.1 hp))
   have hg:=known_range hn;have hlen:=getD_len hrow 1
   refine nodes_sz hk hd r _ ns h (fun x hx=>hr x (mg _ hx)) ⟨fun x hx=> ?_, ?_⟩
   ·rcases lW.1 hx with hx | hx
    ·exact ha.sz x hx
    rw [lY.1 hx]
    refine ⟨⟨hg.1,hg.2,by show (labelsP (row.getD 1 [])).1.length<=16777216;omega,fun l hl=>kZ (h1.1 l hl) (by decide), ?_,h2.1⟩,h3.nodup hd⟩
    show (propsP ks (row.drop 2)).1.length<=16777216
    have:=h2.2;rw [mM] at this;have:=hrow.1;omega
   rw [mV];exact Cy.nodup_snoc ha.nd hid
theorem end_range {ids:List Int} {n:Int} {s:L} (h:endP ids s=some n):0<=n/\n<1024:=by
 unfold endP at h;cases hk:known 1024 s with
 | none=>rw [hk] at h;cases h
 | some m=>
  rw [hk] at h;simp only at h
  split at h
  ·cases h;exact known_range hk
  cases h
theorem rels_sz {ks:List L} (hk: ∀k∈ks,k.length<=16777216) (hd:ks.Nodup) {w:Nat} {ids:List Int}: ∀(rows:List (List L)) (acc ns:List Gr.R),relsP ks w ids rows acc=(ns,0)->(∀r∈rows,Row r)->Rs acc->Rs ns
 | [],acc,ns,h,_,ha=>by rw [relsP] at h;cases h;exact ha
 | row :: r,acc,ns,h,hr,ha=>by
  rw [relsP] at h
  split at h
  ·cases h
  cases hn:known 2048 (row.getD 0 []) with
  | none=>rw [hn] at h;cases h
  | some n=>
   rw [hn] at h;simp only at h
   split at h
   ·cases h
   rename_i hid;cases hs:endP ids (row.getD 1 []) with
   | none=>rw [hs] at h;cases h
   | some a=>
    cases ht:endP ids (row.getD 2 []) with
    | none=>rw [hs,ht] at h;cases h
    | some b=>
     rw [hs,ht] at h;simp only at h
     split at h
     ·cases h
     rename_i hgn
     split at h
     ·rename_i hc;rw [nH] at h;exact absurd h.2 hc
     rename_i hp;have hrow:=hr row (by simp)
     have h2:=props_fine ks (row.drop 4) (propsP ks (row.drop 4)).1 (qJ rfl (Decidable.not_not.1 hp)) hk
     have h3:=props_keys ks (row.drop 4) (propsP ks (row.drop 4)).1 (qJ rfl (Decidable.not_not.1 hp))
     have hg:=known_range hn
     refine rels_sz hk hd r _ ns h (fun x hx=>hr x (mg _ hx)) ⟨fun x hx=> ?_, ?_⟩
     ·rcases lW.1 hx with hx | hx
      ·exact ha.sz x hx
      rw [lY.1 hx]
      refine ⟨⟨hg.1,hg.2,getD_len hrow 3,end_range hs,end_range ht, ?_,h2.1⟩,h3.nodup hd⟩
      show (propsP ks (row.drop 4)).1.length<=16777216
      have:=h2.2;rw [mM] at this;have:=hrow.1;omega
     rw [mV];exact Cy.nodup_snoc ha.nd hid
theorem head_keys {want:List L} {rows:List (List L)} {ks:List L} (h:headP want rows=some ks):(∀k∈ks,k.length<=16777216)/\ks.Nodup:=by
 unfold headP at h
 split at h
 ·cases h
 split at h
 ·rename_i hc
  cases h;exact ⟨fun k hk=>kZ (goodName_40 (og.1 hc.2.1 k hk)) (by decide),hc.2.2⟩
 cases h
theorem nodesOf_sz {rows:List (List L)} {ns:List Gr.N} (h:nodesOf rows=(ns,0)) (hr: ∀r∈rows,Row r):Ns ns:=by
 unfold nodesOf at h
 split at h
 ·cases h
 rename_i ks hk;have:=head_keys hk
 exact nodes_sz this.1 this.2 _ _ _ h (fun r hm=>hr r (List.mem_of_mem_tail hm)) ⟨by simp,by simp⟩
theorem relsOf_sz {ids:List Int} {rows:List (List L)} {ns:List Gr.R} (h:relsOf ids rows=(ns,0)) (hr: ∀r∈rows,Row r):Rs ns:=by
 unfold relsOf at h
 split at h
 ·cases h
 rename_i ks hk;have:=head_keys hk
 exact rels_sz this.1 this.2 _ _ _ h (fun r hm=>hr r (List.mem_of_mem_tail hm)) ⟨by simp,by simp⟩
theorem rows_row {l:L} (h:l.length<=16777216): ∀r∈(Csv.rowsOf l).1,Row r:=fun r hr=>by
 have:=rows_fit l r hr;exact ⟨by omega,fun f hf=>kZ (this.2 f hf) h⟩
theorem made_sz {ns:List Gr.N} {rs:List Gr.R} (hn:Ns ns) (hr:Rs rs):Cy.GSz ⟨ns,rs⟩:=⟨fun n h=>(hn.sz n h).1,fun n h=>(hr.sz n h).1,hn.nd,hr.nd⟩
theorem parse_sz {a b:L} {g:Gr.G} {e:Nat} (h:parse a b=(g,e)):Cy.GSz g/\(e=0->Cy.Fine g)/\(e≠0->g=Gr.G0):=by
 have hg0: ∀{e:Nat},e≠0->Cy.GSz Gr.G0/\(e=0->Cy.Fine Gr.G0)/\(e≠0->Gr.G0=Gr.G0):=fun he=>⟨Cy.G0_sz,fun h=>absurd h he,fun _=>rfl⟩
 unfold parse at h
 split at h
 ·cases h;exact hg0 (by decide)
 rename_i hlen
 split at h
 ·rename_i hc;cases h;exact hg0 hc
 split at h
 ·rename_i hc;cases h;exact hg0 hc
 split at h
 ·rename_i hc;cases h;exact hg0 hc
 rename_i hn
 split at h
 ·rename_i hc;cases h;exact hg0 hc
 rename_i hr
 split at h
 ·rename_i hc;cases h;exact hg0 hc
 rename_i hc;cases h
 have h1:=nodesOf_sz (rows:=(Csv.rowsOf a).1) (qJ rfl (Decidable.not_not.1 hn)) (rows_row (by omega))
 have h2:=relsOf_sz (ids:=(nodesOf (Csv.rowsOf a).1).1.map Gr.N.id) (rows:=(Csv.rowsOf b).1) (qJ rfl (Decidable.not_not.1 hr)) (rows_row (by omega))
 have hsz:=Cy.canon_sz (made_sz h1 h2)
 refine ⟨hsz,fun _=>⟨Gr.check_good.1 (Decidable.not_not.1 hc),fun p hp=> ?_⟩,fun e=>absurd rfl e⟩
 unfold Gr.allProps at hp
 have hv:Cy.VSz p.val:=by
  rcases lW.1 hp with hp | hp
  ·obtain ⟨n,hn,hq⟩:=nM.1 hp
   exact ((hsz.ns n hn).ps p hq).val
  obtain ⟨n,hn,hq⟩:=nM.1 hp;exact ((hsz.rs n hn).ps p hq).val
 exact ⟨hv.num,hv.nums⟩
end Go.Proofs.YtanlehkalkafdaaGreatDoor.Tb
