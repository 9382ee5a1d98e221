/- Contracts and plain laws,part 27. -/
import Derived.Test.YtoofbflplhbpbaaGreatDoorBK26
set_option maxHeartbeats 64000000
set_option maxRecDepth 1000000
set_option linter.all false
namespace Go.Proofs.YtoofbflplhbpbaaGreatDoor
open Go.RowKit
theorem aS.isMap {w:World} {b:Nat} {l:List Int} (h:aS w b l): ∀c t fz,w.heap[b]?≠some (.cells c t fz):=fun c t fz e=>by
 obtain ⟨n,D,-,⟨es,cl,h1,-⟩,-⟩:=h.ex
 rw [h1] at e
 cases e
def dh (W:World) (B:Nat) (x:Gr.N×List Value):Prop:=
 ∃sl sp,x.2= [.int .i64 x.1.id,sl,sp]∧W.ownsRow B 9 1 sl x.1.labels.length (x.1.labels.map ST)∧aC 61 W B sp x.1.props
def dw (W:World) (B:Nat) (x:Gr.R×List Value):Prop:=
 ∃sp,x.2= [.int .i64 x.1.id,ST x.1.type, .int .i64 x.1.src, .int .i64 x.1.dst,sp]∧aC 61 W B sp x.1.props
theorem dh.kp {base B:Nat} {x:Gr.N×List Value} {w w':World} (h:dh w B x) (hk:Kp base w w'):dh w' B x:=by
 obtain ⟨s,t,e,h1,h2⟩:=h
 exact ⟨s,t,e,fH h1 hk (by decide) (by decide) (by decide),h2.kp hk (by decide) (by decide) (by decide)⟩
theorem dw.kp {base B:Nat} {x:Gr.R×List Value} {w w':World} (h:dw w B x) (hk:Kp base w w'):dw w' B x:=by
 obtain ⟨t,e,h2⟩:=h
 exact ⟨t,e,h2.kp hk (by decide) (by decide) (by decide)⟩
structure MkS (base mk m1 m2:Nat) (g:Gr.G) (ni ri:List Int) (V:World):Prop where
 ex: ∃(sn sr:Value) (ln:List (Gr.N×List Value)) (lr:List (Gr.R×List Value)),Blk V mk 99 #[sn,sr, .map (some m1), .map (some m2)]∧
  ln.map Prod.fst=g.nodes∧(∀x∈ln,dh V base x)∧V.ownsRow base 59 3 sn g.nodes.length (ln.flatMap Prod.snd)∧
  lr.map Prod.fst=g.ah∧(∀x∈lr,dw V base x)∧V.ownsRow base 63 5 sr g.ah.length (lr.flatMap Prod.snd)
 n1:aS V m1 ni
 n2:aS V m2 ri
 bs:base≤mk∧base≤m1∧base≤m2∧m1≠m2
theorem MkS.below {base mk m1 m2:Nat} {g:Gr.G} {ni ri:List Int} {V V':World} (h:MkS base mk m1 m2 g ni ri V) (hb:Below V.heap.size V V'):MkS base mk m1 m2 g ni ri V':=by
 obtain ⟨sn,sr,ln,lr,h1,h2,h3,h4,h5,h6,h7⟩:=h.ex
 have hk:Kp base V V':=Kp.of_below hb (Nat.le_trans h.bs.1 (Nat.le_of_lt h1.lt))
 exact ⟨⟨sn,sr,ln,lr,h1.below hb h1.lt,h2,fun x hx=>(h3 x hx).kp hk,aP h4 (bJ hb none) (fun g c t fz hr=>by cases hr),h5,fun x hx=>(h6 x hx).kp hk,aP h7 (bJ hb none) (fun g c t fz hr=>by cases hr)⟩,h.n1.below hb,h.n2.below hb,h.bs⟩
theorem MkS.lt {base mk m1 m2:Nat} {g:Gr.G} {ni ri:List Int} {V:World} (h:MkS base mk m1 m2 g ni ri V):base≤V.heap.size:=by
 obtain ⟨sn,sr,ln,lr,h1,-⟩:=h.ex
 exact Nat.le_trans h.bs.1 (Nat.le_of_lt h1.lt)
theorem MkS.kpm {base m:Nat} {l:List Int} {V V':World} (h:aS V m l) (hs:base≤V.heap.size) (hm:base≤m) (hg:V.grownBy V' (some m)):Kp base V V':=
 Kp.iW hg hs hm fun c t fz e=>absurd e (h.isMap c t fz)
theorem MkS.rows {base mk m1 m2 m:Nat} {l:List Int} {g:Gr.G} {ni ri:List Int} {V V':World} (h:MkS base mk m1 m2 g ni ri V) (hm:aS V m l) (hb:base≤m) (hg:V.grownBy V' (some m)):
  ∃(sn sr:Value) (ln:List (Gr.N×List Value)) (lr:List (Gr.R×List Value)),Blk V' mk 99 #[sn,sr, .map (some m1), .map (some m2)]∧
  ln.map Prod.fst=g.nodes∧(∀x∈ln,dh V' base x)∧V'.ownsRow base 59 3 sn g.nodes.length (ln.flatMap Prod.snd)∧
  lr.map Prod.fst=g.ah∧(∀x∈lr,dw V' base x)∧V'.ownsRow base 63 5 sr g.ah.length (lr.flatMap Prod.snd):=by
 obtain ⟨sn,sr,ln,lr,h1,h2,h3,h4,h5,h6,h7⟩:=h.ex
 have hk:Kp base V V':=MkS.kpm hm h.lt hb hg
 have hty: ∀(T:TypeId) g c t fz,some m=some g→V.heap[g]?=some (.cells c t fz)→t≠T:=fun T g c t fz e hc=>by
  cases e
  exact absurd hc (hm.isMap c t fz)
 exact ⟨sn,sr,ln,lr,h1.grown hg (fun e=>by cases e;exact hm.isMap _ _ _ h1),h2,fun x hx=>(h3 x hx).kp hk,aP h4 hg (hty _),h5,fun x hx=>(h6 x hx).kp hk,aP h7 hg (hty _)⟩
theorem MkS.put1 {base mk m1 m2:Nat} {g:Gr.G} {ni ni' ri:List Int} {V V':World} (h:MkS base mk m1 m2 g ni ri V) (hc:aS V' m1 ni') (hg:V.grownBy V' (some m1)):MkS base mk m1 m2 g ni' ri V':=
 ⟨h.rows h.n1 h.bs.2.1 hg,hc,h.n2.kept hg (fun e=>h.bs.2.2.2 (Option.some.inj e).symm),h.bs⟩
theorem MkS.put2 {base mk m1 m2:Nat} {g:Gr.G} {ni ri ri':List Int} {V V':World} (h:MkS base mk m1 m2 g ni ri V) (hc:aS V' m2 ri') (hg:V.grownBy V' (some m2)):MkS base mk m1 m2 g ni ri' V':=
 ⟨h.rows h.n2 h.bs.2.2.1 hg,h.n1.kept hg (fun e=>h.bs.2.2.2 (Option.some.inj e)),hc,h.bs⟩
theorem MkS.cells {base mk m1 m2:Nat} {g:Gr.G} {ni ri:List Int} {V:World} (h:MkS base mk m1 m2 g ni ri V):V.cell? ⟨mk,2,none⟩=some (.map (some m1))∧V.cell? ⟨mk,3,none⟩=some (.map (some m2)):=by
 obtain ⟨sn,sr,ln,lr,h1,-⟩:=h.ex
 exact ⟨h1.cell 2,h1.cell 3⟩
def MJ (o:Int×Nat) (w:World) (e:Ending) (w':World):Prop:=e= .returned (.tuple #[.int .i64 o.1, .int .i64 (o.2:Nat)])∧Below w.heap.size w w'
theorem Dy {base mk m1 m2:Nat} {g:Gr.G} {ri:List Int} (z:ByteArray) (w:World) (h:MkS base mk m1 m2 g (g.nodes.map Gr.N.id) ri w) (hs:z.size≤16777216) (hn:g.nodes.length≤16777216) (hL:Laid w):
  Calls Tryz.prog 92 #[.pointer (some ⟨mk,0,none⟩), .string z] w (MJ (Cy.endP g z.data.toList) w):=by
 obtain ⟨o,ho⟩: ∃o,Cy.endP g z.data.toList=o:=⟨_,rfl⟩
 rw [ho]
 unfold Cy.endP at ho
 have hid:=vM z 110 1024 w (by omega) ⟨by decide,by decide⟩ hL
 obtain ⟨oi,hoi⟩: ∃oi,Cy.idP 110 1024 z.data.toList=oi:=⟨_,rfl⟩
 rw [hoi] at hid ho
 have HI:=hq7 hid
 have HO:=hq7 ho
 have HS:=hq7 h
 have HN:=hq7 hn
 have HU:=hq7 iC
 clear hid ho h hoi hL hn
 go_enter Tryz.func92,Tryz.ntmps92
 go_wp2_with fail
 refine HI.out.mono ?_
 rintro e w1 ⟨n,b,rfl,hb,hm⟩
 have HB:=hq7 hb
 have HS1:=hq7 (HS.out.below hb)
 clear hb HS
 cases oi with
 | none=>
  subst hm
  have he:=HO.out
  subst he
  go_wp2
  go_ret2
  exact ⟨rfl,HB.out⟩
 | some i=>
 obtain ⟨rfl,rfl,hi,hi0⟩:=hm
 have he:=HO.out
 try simp only at he
 have HE:=hq7 he
 have HII:=hq7 hi
 obtain ⟨c2,c3⟩:=HS1.out.cells
 have hlk:=HS1.out.n1.look (t:=97) Tryz.underlying97 hi
 obtain ⟨N,hN⟩: ∃N,(g.nodes.map Gr.N.id).count n=N:=⟨_,rfl⟩
 rw [hN] at hlk
 have HNC:=hq7 hN
 clear he HO hi hi0 hN
 by_cases hN0:N=0
 ·subst hN0
  have hx:o=(0,65):=by rw [←HE.out,if_neg (fun h=>by have:=List.count_pos_iff.2 h;rw [HNC.out] at this;omega)]
  subst hx
  clear HE
  go_wp2
  go_ret2
  exact ⟨rfl,HB.out⟩
 ·have hx:o=(n,0):=by rw [←HE.out,if_pos (List.count_pos_iff.1 (by rw [HNC.out];omega))]
  subst hx
  have t1:((N:Int) == 0)=false:=by rw [beq_eq_false_iff_ne];omega
  clear HE hN0
  go_wp2
  go_ret2
  exact ⟨rfl,HB.out⟩
theorem Kp.dL {base e sz n:Nat} {v:Value} {xs:List Value} {w w':World} (h:w.ownsRow base e sz v n xs) (he:e=59∨e=63) (hb:base≤w.heap.size) (hg:w.grownBy w' v.ownBlock):Kp base w w':=by
 cases hv:v.ownBlock with
 | none=>
  rw [hv] at hg
  exact Kp.of_below ⟨hg.os,hg.tape,hg.output,hg.size,fun k hk=>hg.block k hk (by simp)⟩ hb
 | some i=>
  rw [hv] at hg
  obtain ⟨hi,c,hc⟩:=dZ h i hv
  refine Kp.iW hg hb hi fun c' t fz e'=> ?_
  rw [hc] at e'
  cases e'
  exact .inr he
theorem qK {base e sz n m:Nat} {v:Value} {xs:List Value} {l:List Int} {w:World} (h:w.ownsRow base e sz v n xs) (hm:aS w m l):some m≠v.ownBlock:=fun e'=>by
 obtain ⟨-,c,hc⟩:=dZ h m e'.symm
 exact hm.isMap _ _ _ hc
theorem qL {base e e' sz n b:Nat} {v:Value} {xs:List Value} {cs:Array Value} {w:World} (h:w.ownsRow base e sz v n xs) (hm:Blk w b e' cs) (hne:e'≠e):some b≠v.ownBlock:=fun x=>by
 obtain ⟨-,c,hc⟩:=dZ h b x.symm
 have:=hm.symm.trans hc
 cases this
 exact hne rfl
theorem Dz {w w':World} {base e e' size n size' n':Nat} {v v':Value} {xs xs':List Value} (h:w.ownsRow base e size v n xs) (hv:w.ownsRow base e' size' v' n' xs') (hg:w.grownBy w' v'.ownBlock) (hne:e'≠e):w'.ownsRow base e size v n xs:=
 aP h hg fun g c t fz hr hc=>by
  obtain ⟨-,c',hc'⟩:=dZ hv g hr
  rw [hc'] at hc
  cases hc
  exact hne
theorem kK {w:World} {base e e' size n b i:Nat} {v u:Value} {xs:List Value} {cs:Array Value} (h:w.ownsRow base e size v n xs) (hb:Blk w b e' cs) (hne:e'≠e):(w.setCell ⟨b,i,none⟩ u).ownsRow base e size v n xs:=
 aP h (grownBy_set w ⟨b,i,none⟩ u) fun g c t fz hr hc=>by
  cases hr
  have:=hb.symm.trans hc
  cases this
  exact hne
theorem Kp.set {w:World} {base b i:Nat} {u:Value} {cs:Array Value} (hb:Blk w b 99 cs) (hB:base≤b):Kp base w (w.setCell ⟨b,i,none⟩ u):=
 Kp.iW (grownBy_set w ⟨b,i,none⟩ u) (Nat.le_trans hB (Nat.le_of_lt hb.lt)) hB fun c t fz hc=>by
  have:=hb.symm.trans hc
  cases this
  exact .inl rfl
section
variable {base mk m1 m2:Nat} {g:Gr.G} {ni ri:List Int} {W w9:World} {sn sr v':Value} {ln:List (Gr.N×List Value)} {lr:List (Gr.R×List Value)} {cs:List Value}
  (h:MkS base mk m1 m2 g ni ri W) (h1:Blk W mk 99 #[sn,sr, .map (some m1), .map (some m2)])
  (h2:ln.map Prod.fst=g.nodes) (h3: ∀x∈ln,dh W base x) (h4:W.ownsRow base 59 3 sn g.nodes.length (ln.flatMap Prod.snd))
  (h5:lr.map Prod.fst=g.ah) (h6: ∀x∈lr,dw W base x) (h7:W.ownsRow base 63 5 sr g.ah.length (lr.flatMap Prod.snd))
include h h1 h2 h3 h4 h5 h6 h7
theorem MkS.node {n:Gr.N} (hn:dh W base (n,cs)) (hg:W.grownBy w9 sn.ownBlock) (ho:w9.ownsRow base 59 3 v' (g.nodes.length+1) (ln.flatMap Prod.snd ++ cs)):
  MkS base mk m1 m2 ⟨g.nodes ++ [n],g.ah⟩ ni ri (w9.setCell ⟨mk,0,none⟩ v')∧Kp base W (w9.setCell ⟨mk,0,none⟩ v'):=by
 have hk9:Blk w9 mk _ _:=h1.grown hg (qL h4 h1 (by decide))
 have hkp:Kp base W (w9.setCell ⟨mk,0,none⟩ v'):=(Kp.dL h4 (.inl rfl) h.lt hg).trans (Kp.set hk9 h.bs.1)
 refine ⟨⟨⟨v',sr,ln ++ [(n,cs)],lr,by simpa using hk9.ay 0 v',by rw [List.map_append,h2];rfl,fun x hx=> ?_, ?_,h5,fun x hx=>(h6 x hx).kp hkp,kK (Dz h7 h4 hg (by decide)) hk9 (by decide)⟩, ?_, ?_,h.bs⟩,hkp⟩
 ·rcases List.mem_append.1 hx with hx | hx
  ·exact (h3 x hx).kp hkp
  ·rw [List.mem_singleton.1 hx];exact hn.kp hkp
 ·have:=kK (i:=0) (u:=v') ho hk9 (by decide)
  rw [List.length_append,List.flatMap_append]
  simpa using this
 ·exact (h.n1.kept hg (qK h4 h.n1)).kept (grownBy_set _ _ _) (fun e=>by have:=Option.some.inj e;subst this;exact h.n1.isMap _ _ _ h1)
 ·exact (h.n2.kept hg (qK h4 h.n2)).kept (grownBy_set _ _ _) (fun e=>by have:=Option.some.inj e;subst this;exact h.n2.isMap _ _ _ h1)
theorem MkS.rel {n:Gr.R} (hn:dw W base (n,cs)) (hg:W.grownBy w9 sr.ownBlock) (ho:w9.ownsRow base 63 5 v' (g.ah.length+1) (lr.flatMap Prod.snd ++ cs)):
  MkS base mk m1 m2 ⟨g.nodes,g.ah ++ [n]⟩ ni ri (w9.setCell ⟨mk,1,none⟩ v')∧Kp base W (w9.setCell ⟨mk,1,none⟩ v'):=by
 have hk9:Blk w9 mk _ _:=h1.grown hg (qL h7 h1 (by decide))
 have hkp:Kp base W (w9.setCell ⟨mk,1,none⟩ v'):=(Kp.dL h7 (.inr rfl) h.lt hg).trans (Kp.set hk9 h.bs.1)
 refine ⟨⟨⟨sn,v',ln,lr ++ [(n,cs)],by simpa using hk9.ay 1 v',h2,fun x hx=>(h3 x hx).kp hkp,kK (Dz h4 h7 hg (by decide)) hk9 (by decide),by rw [List.map_append,h5];rfl,fun x hx=> ?_, ?_⟩, ?_, ?_,h.bs⟩,hkp⟩
 ·rcases List.mem_append.1 hx with hx | hx
  ·exact (h6 x hx).kp hkp
  ·rw [List.mem_singleton.1 hx];exact hn.kp hkp
 ·have:=kK (i:=1) (u:=v') ho hk9 (by decide)
  rw [List.length_append,List.flatMap_append]
  simpa using this
 ·exact (h.n1.kept hg (qK h7 h.n1)).kept (grownBy_set _ _ _) (fun e=>by have:=Option.some.inj e;subst this;exact h.n1.isMap _ _ _ h1)
 ·exact (h.n2.kept hg (qK h7 h.n2)).kept (grownBy_set _ _ _) (fun e=>by have:=Option.some.inj e;subst this;exact h.n2.isMap _ _ _ h1)
end
theorem DC:(Tryz.prog.info? 59).map (fun i=>(i.zero,i.size,i.bytes))=some (some (.agg #[.int .i64 0, .slice none 0 0, .slice none 0 0]),3,56):=by kernel_rfl
theorem DF:(Tryz.prog.info? 63).map (fun i=>(i.zero,i.size,i.bytes))=some (some (.agg #[.int .i64 0, .string ⟨#[]⟩, .int .i64 0, .int .i64 0, .slice none 0 0]),5,64):=by kernel_rfl
def qM (base mk m1 m2:Nat) (R:Gr.G×Nat) (w:World) (e:Ending) (w':World):Prop:=
 e= .returned (.int .i64 (R.2:Nat))∧Kp base w w'∧(R.2=0→MkS base mk m1 m2 R.1 (R.1.nodes.map Gr.N.id) (R.1.ah.map Gr.R.id) w')
theorem eG.form {W:World} {B:Nat} {p:Cy.Pat} {cs:List Value} (h:eG W B (p,cs)): ∃A1 c1 A2 c2,cs= [ST p.first,ST p.word,ST p.other, .slice A1 p.names.length c1, .slice A2 p.props.length c2]∧
  W.ownsRow B 9 1 (.slice A1 p.names.length c1) p.names.length (p.names.map ST)∧aC 212 W B (.slice A2 p.props.length c2) p.props:=by
 obtain ⟨s,t,e,h1,h2⟩:=h
 obtain ⟨A1,c1,rfl⟩:=ak h1
 obtain ⟨A2,c2,rfl⟩:=h2.form
 exact ⟨A1,c1,A2,c2,e,h1,h2⟩
theorem cells4 {W:World} {b:Nat} {T:TypeId} {v0 v1 v2 v3:Value} (h:Blk W b T #[v0,v1,v2,v3]):
  W.cell? ⟨b,0,none⟩=some v0∧W.cell? ⟨b,1,none⟩=some v1∧W.cell? ⟨b,2,none⟩=some v2∧W.cell? ⟨b,3,none⟩=some v3:=
 ⟨h.cell 0,h.cell 1,h.cell 2,h.cell 3⟩
theorem MK {base mk m1 m2:Nat} {g:Gr.G} {p:Cy.Pat} {cs:List Value} {w:World} (h:MkS base mk m1 m2 g (g.nodes.map Gr.N.id) (g.ah.map Gr.R.id) w) (hp:eG w base (p,cs)) (hs:Cy.gB p) (hn:g.nodes.length≤16777216)
  (hL: ∀V,Below base w V→Laid V):Calls Tryz.prog 49 #[.pointer (some ⟨mk,0,none⟩), .agg cs.toArray] w (qM base mk m1 m2 (Cy.addNode g p) w):=by
 obtain ⟨R,hR⟩: ∃R,Cy.addNode g p=R:=⟨_,rfl⟩
 rw [hR]
 unfold Cy.addNode at hR
 obtain ⟨An,cn,Ap,cp,rfl,hnm,hpp⟩:=hp.form
 obtain ⟨nl,hnl⟩: ∃n,p.names.length=n:=⟨_,rfl⟩
 obtain ⟨pl,hpl⟩: ∃n,p.props.length=n:=⟨_,rfl⟩
 rw [hnl] at hnm⊢
 rw [hpl] at hpp⊢
 obtain ⟨zf,hzf⟩: ∃z:ByteArray,(⟨p.first.toArray⟩:ByteArray)=z:=⟨_,rfl⟩
 obtain ⟨zw,hzw⟩: ∃z:ByteArray,(⟨p.word.toArray⟩:ByteArray)=z:=⟨_,rfl⟩
 obtain ⟨zo,hzo⟩: ∃z:ByteArray,(⟨p.other.toArray⟩:ByteArray)=z:=⟨_,rfl⟩
 have e1:ST p.first= .string zf:=by rw [←hzf];rfl
 have e2:ST p.word= .string zw:=by rw [←hzw];rfl
 have e3:ST p.other= .string zo:=by rw [←hzo];rfl
 rw [e1,e2,e3]
 have hzfl:zf.data.toList=p.first:=by rw [←hzf]
 have hzfs:zf.size≤16777216:=by rw [←hzf,aJ];exact hs.first
 obtain ⟨WN,hWN⟩: ∃W,w.alloc (.cells #[.string zf, .string zw, .string zo, .slice An nl cn, .slice Ap pl cp] 102)=W:=⟨_,rfl⟩
 have hbn:Below w.heap.size w WN:=by rw [←hWN];exact (Below.refl _ _).alloc (Nat.le_refl _) _
 obtain ⟨pb,hpb⟩: ∃x,w.heap.size=x:=⟨_,rfl⟩
 have hk0:Blk WN pb 102 #[.string zf, .string zw, .string zo, .slice An nl cn, .slice Ap pl cp]:=by rw [←hWN,←hpb];exact Blk.new _ _ _
 have hid:=vM zf 110 1024 WN (by omega) ⟨by decide,by decide⟩ (hL WN (hbn.mono h.lt))
 rw [hzfl] at hid
 obtain ⟨oi,hoi⟩: ∃oi,Cy.idP 110 1024 p.first=oi:=⟨_,rfl⟩
 rw [hoi] at hid hR
 have hkp0:Kp base w WN:=Kp.of_below hbn h.lt
 have HI:=hq7 hid
 have HR:=hq7 hR
 have HSN:=hq7 (h.below hbn)
 have HKP:=hq7 hkp0
 have HKB:=hq7 hk0
 have HNM:=hq7 (fH hnm hkp0 (by decide) (by decide) (by decide))
 have HPP:=hq7 (hpp.kp hkp0 (by decide) (by decide) (by decide))
 have HWN:=hq7 hWN
 have HSZ:=hq7 hs
 have HNL:=hq7 hnl
 have HPL:=hq7 hpl
 have HGN:=hq7 hn
 have hnll:nl≤16777216:=by rw [←hnl];exact hs.nl
 have hmm:= @run_makeMap Tryz.prog
 clear h hp hs hn hL hR hnm hpp hnl hpl hzf hzw hzo e1 e2 e3 hzfl hzfs hWN hbn hk0 hid hoi hkp0
 go_enter Tryz.func49,Tryz.ntmps49
 go_upto_region 1 with fail
 rw [HWN.out]
 try rw [hpb]
 clear hpb HWN
 obtain ⟨d0,d1,d2,d3,d4⟩:=cells5 HKB.out
 go_wp2_with fail
 refine HI.out.mono ?_
 rintro e w1 ⟨n,b,rfl,hb,hm⟩
 have HK1:=hq7 (HKP.out.trans (Kp.of_below hb HSN.out.lt))
 have HS1:=hq7 (HSN.out.below hb)
 have HKB1:=hq7 (HKB.out.below hb HKB.out.lt)
 have HNM1:=hq7 (fH HNM.out (Kp.of_below hb HSN.out.lt) (by decide) (by decide) (by decide))
 have HPP1:=hq7 (HPP.out.kp (Kp.of_below hb HSN.out.lt) (by decide) (by decide) (by decide))
 clear hb HSN HKB HNM HPP d0 d1 d2 d3 d4 HKP
 cases oi with
 | none=>
  subst hm
  have he:=HR.out
  subst he
  go_wp2
  go_ret
  exact ⟨rfl,HK1.out,fun h=>absurd h (show (61:Nat)≠0 by decide)⟩
 | some i=>
 obtain ⟨rfl,rfl,hi,hi0⟩:=hm
 have he:=HR.out
 try simp only at he
 have HE:=hq7 he
 have HII:=hq7 hi
 obtain ⟨c2,c3⟩:=HS1.out.cells
 have hlk:=HS1.out.n1.look (t:=97) Tryz.underlying97 hi
 obtain ⟨N,hN⟩: ∃N,(g.nodes.map Gr.N.id).count n=N:=⟨_,rfl⟩
 have hNle:N≤g.nodes.length:=by rw [←hN];exact Nat.le_trans List.count_le_length (by rw [List.length_map];exact Nat.le_refl _)
 have hNi:(N:Int)≤16777216:=by have:=HGN.out;omega
 rw [hN] at hlk
 have HNC:=hq7 hN
 clear he HR hi hi0 hN hNle
 go_wp2_with (at_mapUpdate;refine vJ _ rfl HS1.out.n1 (by rw [List.length_map];have:=HGN.out;omega) (.tmp 23) (.tmp 24) (.tmp 26) 97 rfl Tryz.underlying97 rfl n HII.out rfl (by rw [HNC.out];rfl) ?_)
 intro w2 hc2 hg2
 have hkp:=MkS.kpm HS1.out.n1 HS1.out.lt HS1.out.bs.2.1 hg2
 have HK2:=hq7 (HK1.out.trans hkp)
 have HS2:=hq7 (HS1.out.put1 hc2 hg2)
 have hpm1:some pb≠some m1:=fun e=>by cases e;exact HS1.out.n1.isMap _ _ _ HKB1.out
 have HKB2:=hq7 (HKB1.out.grown hg2 hpm1)
 have HNM2:=hq7 (fH HNM1.out hkp (by decide) (by decide) (by decide))
 have HPP2:=hq7 (HPP1.out.kp hkp (by decide) (by decide) (by decide))
 clear hc2 hg2 hkp hpm1 c2 c3 hlk HS1 HKB1 HNM1 HPP1 HK1
 obtain ⟨c2,c3⟩:=HS2.out.cells
 have hlk:=HS2.out.n1.look (t:=97) Tryz.underlying97 HII.out
 rw [List.count_append,HNC.out,List.count_singleton_self] at hlk
 by_cases hN0:N=0
 case neg=>
  have t1:decide ((1:Int)<((N+1:Nat):Int))=true:=decide_eq_true (by omega)
  have hx:R=(g,7):=by rw [←HE.out,if_pos (List.count_pos_iff.1 (by rw [HNC.out];omega))]
  subst hx
  go_wp2
  go_ret
  exact ⟨rfl,HK2.out,fun h=>absurd h (show (7:Nat)≠0 by decide)⟩
 subst hN0
 have t1:decide ((1:Int)<((0+1:Nat):Int))=false:=decide_eq_false (by omega)
 have he:=HE.out
 rw [if_neg (fun h=>by have:=List.count_pos_iff.2 h;rw [HNC.out] at this;omega)] at he
 obtain ⟨D,hD⟩: ∃D,Cy.jH [] p.names=D:=⟨_,rfl⟩
 rw [hD] at he
 have HE2:=hq7 he
 have HD:=hq7 hD
 obtain ⟨W3,hW3⟩: ∃W,w2.alloc (.map #[] 0)=W:=⟨_,rfl⟩
 obtain ⟨sb,hsb⟩: ∃x,w2.heap.size=x:=⟨_,rfl⟩
 have HC3:=hq7 (show bn W3 sb [] by rw [←hW3,←hsb];exact bn.made w2)
 have HB3:=hq7 (show Below w2.heap.size w2 W3 by rw [←hW3];exact (Below.refl _ w2).alloc (Nat.le_refl _) _)
 have HW3:=hq7 hW3
 have HSB:=hq7 hsb
 clear he hD hW3 HE
 go_upto_region 8 with fail
 rw [HW3.out]
 try rw [hsb]
 clear hsb HW3 c2 c3 hlk t1 hmm
 obtain ⟨d0,d1,d2,d3,d4⟩:=cells5 (HKB2.out.below HB3.out HKB2.out.lt)
 go_wp2_with fail
 clear d0 d1 d2 d3 d4
 go_loopg [38] nl (fun q x wl=> ∃j:Nat,x= .int .i64 j∧j+q=nl∧Below w2.heap.size w2 wl∧bn wl sb (p.names.take j)∧Hid (Cy.jH (p.names.take j) (p.names.drop j)=D))
 case atStart=>exact ⟨0,rfl,by omega,HB3.out,HC3.out,HD.out⟩
 case round=>
  obtain ⟨j,rfl,hj,hb,hc,HDJ⟩:=hrel
  have HJ:=hq7 hj
  have HB:=hq7 hb
  have HC:=hq7 hc
  clear hb hc HB3 HC3
  cases gk with
  | succ q=>
   have hjn:j<nl:=by omega
   have hjnI:(j:Int)<nl:=by omega
   obtain ⟨y,hy⟩: ∃y,p.names[j]?=some y:=⟨_,List.getElem?_eq_getElem (by rw [HNL.out];exact hjn)⟩
   obtain ⟨lb,lo,x,rfl,hpB,hx,hc⟩:=((Reads.dL HNM2.out).below HB.out).cell hjn
   rw [List.getElem?_map,hy] at hx
   cases hx
   obtain ⟨z,hz⟩: ∃z:ByteArray,(⟨y.toArray⟩:ByteArray)=z:=⟨_,rfl⟩
   unfold ST at hc
   rw [hz] at hc
   have hys:y.length≤16777216:=HSZ.out.ns y (List.mem_of_getElem? hy)
   have hzs:z.size≤16777216:=by rw [←hz,aJ];exact hys
   have HZD:=hq7 (show z.data.toList=y by rw [←hz])
   have HTK:=hq7 (show p.names.take (j+1)=p.names.take j ++ [y] by rw [List.take_add_one,hy];rfl)
   have hdr:p.names.drop j=y :: p.names.drop (j+1):=by
    rw [List.drop_eq_getElem_cons (by rw [HNL.out];exact hjn)]
    congr 1
    exact Option.some.inj ((List.getElem?_eq_getElem _).symm.trans hy)
   have hdj:_=D:=HDJ
   rw [hdr,Cy.jH] at hdj
   have hgn:=lY z wr (by omega)
   rw [show z.data.toList=y from HZD.out] at hgn
   obtain ⟨GB,hGB⟩: ∃b,Gr.aI y=b:=⟨_,rfl⟩
   rw [hGB] at hgn hdj
   have HD2:=hq7 hdj
   have HGD:=hq7 hgn
   have HZS:=hq7 hzs
   clear hy hpB hz hys hzs hdr hdj hgn hGB HDJ hj
   go_wp2_with fail
   refine HGD.out.mono ?_
   rintro e w4 ⟨rfl,rfl⟩
   cases GB with
   | false=>
    have hd:D=60:=by rw [←HD2.out,if_pos rfl]
    subst hd
    have hx:R=(g,60):=by rw [←HE2.out,if_pos (by decide)]
    subst hx
    have HKF:=hq7 (HK2.out.trans (Kp.of_below HB.out HS2.out.lt))
    clear hc
    go_wp2
    go_ret
    exact ⟨rfl,HKF.out,fun h=>absurd h (show (60:Nat)≠0 by decide)⟩
   | true=>
   have hd:=HD2.out
   rw [if_neg (by decide)] at hd
   have HD3:=hq7 hd
   have hlk:=HC.out.look (t:=150) Tryz.underlying150 (s:=z) (by have:=HZS.out;unfold maxLen;omega)
   rw [show z.data.toList=y from HZD.out] at hlk
   obtain ⟨N,hN⟩: ∃N,(p.names.take j).count y=N:=⟨_,rfl⟩
   have hNle:N≤j:=by rw [←hN];exact Nat.le_trans List.count_le_length (by rw [List.length_take];omega)
   have hNi:(N:Int)≤16777216:=by omega
   rw [hN] at hlk
   have HNC2:=hq7 hN
   clear hd hN hNle HD2 HGD
   go_wp2_with (at_mapUpdate;refine qJ _ rfl HC.out (by rw [List.length_take];omega) (.tmp 45) (.tmp 46) (.tmp 48) 150 rfl Tryz.underlying150 rfl z (by have:=HZS.out;unfold maxLen;omega) rfl (by rw [show z.data.toList=y from HZD.out,HNC2.out];rfl) ?_)
   intro w5 hc5 hg5
   rw [show z.data.toList=y from HZD.out] at hc5
   have HB5:=hq7 (show Below w2.heap.size w2 w5 from HB.out.trans ⟨hg5.os,hg5.tape,hg5.output,hg5.size,fun i hi=>hg5.block i (Nat.lt_of_lt_of_le hi HB.out.size) (fun e=>by cases e;have:=HSB.out;omega)⟩)
   have HC5:=hq7 hc5
   have hlk2:=hc5.look (t:=150) Tryz.underlying150 (s:=z) (by have:=HZS.out;unfold maxLen;omega)
   rw [show z.data.toList=y from HZD.out,List.count_append,HNC2.out,List.count_singleton_self] at hlk2
   clear hc5 hg5 hlk hc
   by_cases hN0:N=0
   case neg=>
    have t1:decide ((1:Int)<((N+1:Nat):Int))=true:=decide_eq_true (by omega)
    have hd:D=7:=by rw [←HD3.out,if_pos (List.count_pos_iff.1 (by rw [HNC2.out];omega))]
    subst hd
    have hx:R=(g,7):=by rw [←HE2.out,if_pos (by decide)]
    subst hx
    have HKF:=hq7 (HK2.out.trans (Kp.of_below HB5.out HS2.out.lt))
    go_wp2
    go_ret
    exact ⟨rfl,HKF.out,fun h=>absurd h (show (7:Nat)≠0 by decide)⟩
   subst hN0
   have t1:decide ((1:Int)<((0+1:Nat):Int))=false:=decide_eq_false (by omega)
   have hd:=HD3.out
   rw [if_neg (fun h=>by have:=List.count_pos_iff.2 h;rw [HNC2.out] at this;omega)] at hd
   have HD4:=hq7 hd
   clear hd HD3
   go_wp2
   go_roundg q
   case measure=>omega
   case rel=>exact ⟨j+1,int_eq (by omega),by have:=HJ.out;omega,HB5.out,by rw [HTK.out];exact HC5.out,by rw [HTK.out];exact HD4.out⟩
  | zero=>
   obtain rfl:j=nl:=by omega
   have hd:_=D:=HDJ
   rw [List.drop_of_length_le (by rw [HNL.out];exact Nat.le_refl _)] at hd
   have hd0:D=0:=by rw [←hd];simp [Cy.jH]
   subst hd0
   have he:=HE2.out
   rw [if_neg (by simp)] at he
   obtain ⟨PW,hPW⟩: ∃x,Cy.aQ [] p.props=x:=⟨_,rfl⟩
   have HS6:=hq7 (HS2.out.below HB.out)
   have hkp6:Kp base w2 wr:=Kp.of_below HB.out HS2.out.lt
   have HK6:=hq7 (HK2.out.trans hkp6)
   have HPP6:=HPP2.out.kp hkp6 (by decide) (by decide) (by decide)
   have HNM6:=hq7 (fH HNM2.out hkp6 (by decide) (by decide) (by decide))
   have hkb6:=HKB2.out.below HB.out HKB2.out.lt
   have hmp:=Dx base Ap pl cp p.props wr HPP6 HPL.out (by rw [←HPL.out];exact HSZ.out.pl) HSZ.out.ps HS6.out.lt
   rw [hPW] at hmp he
   have HMP:=hq7 hmp
   have HE6:=hq7 he
   have HKB6:=hq7 hkb6
   obtain ⟨d0,d1,d2,d3,d4⟩:=cells5 hkb6
   clear hd he hPW hkp6 HPP6 hkb6 hmp HE2 HKB2 HNM2 HPP2 HS2 HK2 HDJ hj
   go_wp2_with fail
   refine HMP.out.mono ?_
   rintro e w7 ⟨v,rfl,hb7,hy7,hn7⟩
   obtain ⟨ps',Av,vn,vc,hps,rfl,hpo⟩: ∃(ps':List Gr.P) (Av:Option Addr) (vn vc:Nat),(PW=0→ps'=p.props)∧v= .slice Av vn vc∧aC 61 w7 base (.slice Av vn vc) ps':=by
    by_cases h0:PW=0
    ·have ho:=hy7 h0
     obtain ⟨A',c',rfl⟩:=ho.form
     exact ⟨p.props,A',_,c',fun _=>rfl,rfl,ho⟩
    ·rw [hn7 h0]
     exact ⟨[],none,0,0,fun h=>absurd h h0,rfl,aC.nil _ _ _⟩
   have hkp7:Kp base wr w7:=Kp.of_below hb7 HS6.out.lt
   have hs7:=HS6.out.below hb7
   have hkb7:=HKB6.out.below hb7 HKB6.out.lt
   have hnm7:=fH HNM6.out hkp7 (by decide) (by decide) (by decide)
   have hbd:Below w7.heap.size w7 (w7.drewN 1):=(Below.refl _ w7).drew
   have hs7d:=hs7.below hbd
   obtain ⟨sn,sr,ln,lr,h1,h2,h3,h4,h5,h6,h7⟩:=hs7d.ex
   obtain ⟨Nn,Nc,rfl⟩:=ak h4
   obtain ⟨Rn,Rc,rfl⟩:=ak h7
   obtain ⟨gn,hgn⟩: ∃x,g.nodes.length=x:=⟨_,rfl⟩
   have hkd:=Kp.of_below hbd hs7.lt
   have HK7:=hq7 ((HK6.out.trans hkp7).trans hkd)
   have hno:dh (w7.drewN 1) base (⟨n,p.names,ps'⟩, [.int .i64 n, .slice An j cn, .slice Av vn vc]):=⟨_,_,rfl,by rw [show p.names.length=j from HNL.out];exact fH hnm7 hkd (by decide) (by decide) (by decide),hpo.kp hkd (by decide) (by decide) (by decide)⟩
   have HND:=hq7 (fun (w9:World) (v':Value) (ho:w9.ownsRow base 59 3 v' (g.nodes.length+1) (ln.flatMap Prod.snd ++ [.int .i64 n, .slice An j cn, .slice Av vn vc])) (hg:(w7.drewN 1).grownBy w9 (Value.ownBlock (.slice Nn g.nodes.length Nc)))=>MkS.node hs7d h1 h2 h3 h4 h5 h6 h7 hno hg ho)
   have HMB:=hq7 (fun (w9:World) (hg:(w7.drewN 1).grownBy w9 (Value.ownBlock (.slice Nn g.nodes.length Nc)))=>h1.grown hg (qL h4 h1 (by decide)))
   have hgnl:gn<536870912:=by have:=HGN.out;omega
   rw [hgn] at h1 h4 HND HMB
   have H4:=hq7 (show (w7.drewN 1).ownsRow base 59 3 (.slice Nn gn Nc) gn (ln.flatMap Prod.snd) from h4)
   have HGNN:=hq7 hgn
   have HPS:=hq7 hps
   have hlt7:base≤(w7.drewN 1).heap.size:=hs7.lt
   obtain ⟨c0,c1,c2,c3⟩:=cells4 (show Blk w7 mk _ _ from h1)
   have c0a:(w7.alloc (.cells #[.int .i64 n, .slice An j cn, .slice Av vn vc] 59)).cell? ⟨mk,0,none⟩=some (.slice Nn gn Nc):=(Blk.alloc (show Blk w7 mk _ _ from h1) _).cell 0
   clear d0 d1 d2 d3 d4
   obtain ⟨d0,d1,d2,d3,d4⟩:=cells5 hkb7
   clear hy7 hn7 hb7 hkp7 hs7 hkb7 hnm7 h1 h2 h3 h4 h5 h6 h7 hgn hno hpo hps hbd hs7d hkd HNM6 HKB6 HS6 HK6 HMP
   go_wp2_with fail
   go_region_law (first |(refine lZ rfl (.tmp 65) (.tmp 71) 36 59 (.agg #[.int .i64 0, .slice none 0 0, .slice none 0 0]) 3 56 Tryz.underlying36 DC rfl (by decide) (by decide) rfl base (.slice Nn gn Nc) gn (ln.flatMap Prod.snd) (w7.drewN 1) rfl H4.out [.int .i64 n, .slice An j cn, .slice Av vn vc] _ rfl rfl (by simp [Value.oneCell']) rfl hgnl hlt7 ?_;intro v9 w9 hown9 hgr9 hwh9 hb9;obtain ⟨A9,c9,rfl⟩:=ak hown9;have hmb9:=HMB.out w9 hgr9;have hmc9:=hmb9.cell 0;have hmf9:=hmb9.frozen 0) | fail)
   all_goals
    obtain ⟨hms,hkf⟩:=HND.out w9 (.slice A9 (gn+1) c9) hown9 hgr9
    have HMS:=hq7 hms
    have HKF:=hq7 (HK7.out.trans hkf)
    have hx:R=(⟨g.nodes ++ [⟨n,p.names,p.props⟩],g.ah⟩,PW):=HE6.out.symm
    subst hx
    clear hms hkf hown9 hgr9 hwh9 hb9 hmb9 hmc9 hmf9 c0 c1 c2 c3 c0a d0 d1 d2 d3 d4 HE6
    go_wp2
    go_ret
    exact ⟨rfl,HKF.out,fun h=>by have h1:=HMS.out;rw [HPS.out h] at h1;simpa using h1⟩
end Go.Proofs.YtoofbflplhbpbaaGreatDoor
namespace Go.Proofs.YtoofbflplhbpbaaGreatDoor
open Go.RowKit
theorem ML {base mk m1 m2:Nat} {g:Gr.G} {p:Cy.Pat} {cs:List Value} {w:World} (h:MkS base mk m1 m2 g (g.nodes.map Gr.N.id) (g.ah.map Gr.R.id) w) (hp:eG w base (p,cs)) (hs:Cy.gB p) (hrel:p.rel=true) (hn:g.nodes.length≤16777216) (hr:g.ah.length≤16777216)
  (hL: ∀V,Below base w V→Laid V):Calls Tryz.prog 50 #[.pointer (some ⟨mk,0,none⟩), .agg cs.toArray] w (qM base mk m1 m2 (Cy.lg g p) w):=by
 obtain ⟨R,hR⟩: ∃R,Cy.lg g p=R:=⟨_,rfl⟩
 rw [hR]
 unfold Cy.lg at hR
 obtain ⟨x,hx⟩:=hs.one hrel
 obtain ⟨An,cn,Ap,cp,rfl,hnm,hpp⟩:=hp.form
 rw [hx] at hnm
 rw [hx] at hR
 rw [show p.names.length=1 by rw [hx];rfl]
 obtain ⟨pl,hpl⟩: ∃n,p.props.length=n:=⟨_,rfl⟩
 rw [hpl] at hpp⊢
 obtain ⟨zf,hzf⟩: ∃z:ByteArray,(⟨p.first.toArray⟩:ByteArray)=z:=⟨_,rfl⟩
 obtain ⟨zw,hzw⟩: ∃z:ByteArray,(⟨p.word.toArray⟩:ByteArray)=z:=⟨_,rfl⟩
 obtain ⟨zo,hzo⟩: ∃z:ByteArray,(⟨p.other.toArray⟩:ByteArray)=z:=⟨_,rfl⟩
 obtain ⟨zx,hzx⟩: ∃z:ByteArray,(⟨x.toArray⟩:ByteArray)=z:=⟨_,rfl⟩
 have e1:ST p.first= .string zf:=by rw [←hzf];rfl
 have e2:ST p.word= .string zw:=by rw [←hzw];rfl
 have e3:ST p.other= .string zo:=by rw [←hzo];rfl
 have e4:ST x= .string zx:=by rw [←hzx];rfl
 rw [e1,e2,e3]
 have hzfl:zf.data.toList=p.first:=by rw [←hzf]
 have hzwl:zw.data.toList=p.word:=by rw [←hzw]
 have hzol:zo.data.toList=p.other:=by rw [←hzo]
 have hzfs:zf.size≤16777216:=by rw [←hzf,aJ];exact hs.first
 have hzws:zw.size≤16777216:=by rw [←hzw,aJ];exact hs.word
 have hzos:zo.size≤16777216:=by rw [←hzo,aJ];exact hs.other
 have hzxs:zx.size≤16777216:=by rw [←hzx,aJ];exact hs.ns x (by rw [hx];simp)
 obtain ⟨WN,hWN⟩: ∃W,w.alloc (.cells #[.string zf, .string zw, .string zo, .slice An 1 cn, .slice Ap pl cp] 102)=W:=⟨_,rfl⟩
 have hbn:Below w.heap.size w WN:=by rw [←hWN];exact (Below.refl _ _).alloc (Nat.le_refl _) _
 obtain ⟨pb,hpb⟩: ∃x,w.heap.size=x:=⟨_,rfl⟩
 have hk0:Blk WN pb 102 #[.string zf, .string zw, .string zo, .slice An 1 cn, .slice Ap pl cp]:=by rw [←hWN,←hpb];exact Blk.new _ _ _
 have hkp0:Kp base w WN:=Kp.of_below hbn h.lt
 have he:=Dy zf WN (h.below hbn) hzfs hn (hL WN hkp0.bel)
 rw [hzfl] at he
 obtain ⟨o1,o1e,ho1⟩: ∃a b,Cy.endP g p.first=(a,b):=⟨_,_,rfl⟩
 rw [ho1] at he hR
 have HI:=hq7 he
 have HR:=hq7 hR
 have HSN:=hq7 (h.below hbn)
 have HKP:=hq7 hkp0
 have HKB:=hq7 hk0
 have HNM:=hq7 (fH hnm hkp0 (by decide) (by decide) (by decide))
 have HPP:=hq7 (hpp.kp hkp0 (by decide) (by decide) (by decide))
 have HWN:=hq7 hWN
 have HSZ:=hq7 hs
 have HPL:=hq7 hpl
 have HGN:=hq7 hn
 have HGR:=hq7 hr
 have HLD:=hq7 hL
 have HZW:=hq7 hzwl
 have HZO:=hq7 hzol
 have HZX:=hq7 hzx
 have HEX:=hq7 e4
 have HWS:=hq7 hzws
 have HOS:=hq7 hzos
 have HXS:=hq7 hzxs
 clear h hp hs hn hr hL hR hrel hx hnm hpp hpl hzf hzw hzo hzx e1 e2 e3 e4 hzfl hzwl hzol hzfs hzws hzos hzxs hWN hbn hk0 he ho1 hkp0
 go_enter Tryz.func50,Tryz.ntmps50
 go_upto_region 1 with fail
 rw [HWN.out]
 try rw [hpb]
 clear hpb HWN
 obtain ⟨d0,d1,d2,d3,d4⟩:=cells5 HKB.out
 go_wp2_with fail
 refine HI.out.mono ?_
 rintro e w1 ⟨rfl,hb⟩
 have hkp:=Kp.of_below hb HSN.out.lt
 have HK1:=hq7 (HKP.out.trans hkp)
 have HS1:=hq7 (HSN.out.below hb)
 have HKB1:=hq7 (HKB.out.below hb HKB.out.lt)
 have HNM1:=hq7 (fH HNM.out hkp (by decide) (by decide) (by decide))
 have HPP1:=hq7 (HPP.out.kp hkp (by decide) (by decide) (by decide))
 clear hb hkp HSN HKB HNM HPP d0 d1 d2 d3 d4 HKP
 by_cases ho1:o1e=0
 case neg=>
  have t1:((o1e:Int) !=0)=true:=by rw [bne_iff_ne];omega
  have hx:R=(g,o1e):=by rw [←HR.out,if_pos ho1]
  subst hx
  have HO1:=hq7 ho1
  clear ho1
  go_wp2
  go_ret
  exact ⟨rfl,HK1.out,fun h=>absurd h HO1.out⟩
 subst ho1
 have he:=HR.out
 rw [if_neg (by simp)] at he
 have hid:=vM zw 114 2048 w1 (by have:=HWS.out;omega) ⟨by decide,by decide⟩ (HLD.out w1 HK1.out.bel)
 rw [show zw.data.toList=p.word from HZW.out] at hid
 obtain ⟨oi,hoi⟩: ∃oi,Cy.idP 114 2048 p.word=oi:=⟨_,rfl⟩
 rw [hoi] at hid he
 have HR2:=hq7 he
 have HID:=hq7 hid
 clear he hid hoi HR HI
 obtain ⟨d0,d1,d2,d3,d4⟩:=cells5 HKB1.out
 go_wp2_with fail
 refine HID.out.mono ?_
 rintro e w2 ⟨n,b,rfl,hb,hm⟩
 have hkp:=Kp.of_below hb HS1.out.lt
 have HK2:=hq7 (HK1.out.trans hkp)
 have HS2:=hq7 (HS1.out.below hb)
 have HKB2:=hq7 (HKB1.out.below hb HKB1.out.lt)
 have HNM2:=hq7 (fH HNM1.out hkp (by decide) (by decide) (by decide))
 have HPP2:=hq7 (HPP1.out.kp hkp (by decide) (by decide) (by decide))
 clear hb hkp HS1 HKB1 HNM1 HPP1 d0 d1 d2 d3 d4 HK1
 cases oi with
 | none=>
  subst hm
  have he:=HR2.out
  subst he
  go_wp2
  go_ret
  exact ⟨rfl,HK2.out,fun h=>absurd h (show (62:Nat)≠0 by decide)⟩
 | some i=>
 obtain ⟨rfl,rfl,hi,hi0⟩:=hm
 have he:=HR2.out
 try simp only at he
 have HE:=hq7 he
 have HII:=hq7 hi
 obtain ⟨c2,c3⟩:=HS2.out.cells
 have hlk:=HS2.out.n2.look (t:=97) Tryz.underlying97 hi
 obtain ⟨N,hN⟩: ∃N,(g.ah.map Gr.R.id).count n=N:=⟨_,rfl⟩
 have hNle:N≤g.ah.length:=by rw [←hN];exact Nat.le_trans List.count_le_length (by rw [List.length_map];exact Nat.le_refl _)
 have hNi:(N:Int)≤16777216:=by have:=HGR.out;omega
 rw [hN] at hlk
 have HNC:=hq7 hN
 clear he HR2 hi hi0 hN hNle
 go_wp2_with (at_mapUpdate;refine vJ _ rfl HS2.out.n2 (by rw [List.length_map];have:=HGR.out;omega) (.tmp 32) (.tmp 33) (.tmp 35) 97 rfl Tryz.underlying97 rfl n HII.out rfl (by rw [HNC.out];rfl) ?_)
 intro w3 hc3 hg3
 have hkp:=MkS.kpm HS2.out.n2 HS2.out.lt HS2.out.bs.2.2.1 hg3
 have HK3:=hq7 (HK2.out.trans hkp)
 have HS3:=hq7 (HS2.out.put2 hc3 hg3)
 have hpm1:some pb≠some m2:=fun e=>by cases e;exact HS2.out.n2.isMap _ _ _ HKB2.out
 have HKB3:=hq7 (HKB2.out.grown hg3 hpm1)
 have HNM3:=hq7 (fH HNM2.out hkp (by decide) (by decide) (by decide))
 have HPP3:=hq7 (HPP2.out.kp hkp (by decide) (by decide) (by decide))
 clear hc3 hg3 hkp hpm1 c2 c3 hlk HS2 HKB2 HNM2 HPP2 HK2
 obtain ⟨c2,c3⟩:=HS3.out.cells
 have hlk:=HS3.out.n2.look (t:=97) Tryz.underlying97 HII.out
 rw [List.count_append,HNC.out,List.count_singleton_self] at hlk
 by_cases hN0:N=0
 case neg=>
  have t1:decide ((1:Int)<((N+1:Nat):Int))=true:=decide_eq_true (by omega)
  have hx:R=(g,7):=by rw [←HE.out,if_pos (List.count_pos_iff.1 (by rw [HNC.out];omega))]
  subst hx
  go_wp2
  go_ret
  exact ⟨rfl,HK3.out,fun h=>absurd h (show (7:Nat)≠0 by decide)⟩
 subst hN0
 have t1:decide ((1:Int)<((0+1:Nat):Int))=false:=decide_eq_false (by omega)
 have he:=HE.out
 rw [if_neg (fun h=>by have:=List.count_pos_iff.2 h;rw [HNC.out] at this;omega)] at he
 rw [show ([x]:List (List UInt8)).headD []=x from rfl] at he
 obtain ⟨GB,hGB⟩: ∃b,Gr.aI x=b:=⟨_,rfl⟩
 obtain ⟨lb,lo,x',hAn,hpB,hx',hcx⟩:=(Reads.dL HNM3.out).cell (show 0<([x]:List (List UInt8)).length from Nat.one_pos)
 cases hx'
 subst hAn
 rw [show ST x= .string zx from HEX.out,Nat.add_zero] at hcx
 have hgn:=lY zx w3 (by have:=HXS.out;omega)
 rw [show zx.data.toList=x by rw [←HZX.out],hGB] at hgn
 rw [hGB] at he
 have HE2:=hq7 he
 have HGD:=hq7 hgn
 have HCX:=hq7 hcx
 obtain ⟨d0,d1,d2,d3,d4⟩:=cells5 HKB3.out
 clear he hgn hGB HE
 go_wp2_with fail
 refine HGD.out.mono ?_
 rintro e w4 ⟨rfl,rfl⟩
 clear t1 hlk
 cases GB with
 | false=>
  have hx:R=(g,60):=by rw [←HE2.out,if_pos rfl]
  subst hx
  go_wp2
  go_ret
  exact ⟨rfl,HK3.out,fun h=>absurd h (show (60:Nat)≠0 by decide)⟩
 | true=>
 have he:=HE2.out
 rw [if_neg (by simp)] at he
 obtain ⟨PW,hPW⟩: ∃x,Cy.aQ [] p.props=x:=⟨_,rfl⟩
 have hmp:=Dx base Ap pl cp p.props w3 HPP3.out HPL.out (by rw [←HPL.out];exact HSZ.out.pl) HSZ.out.ps HS3.out.lt
 rw [hPW] at hmp he
 have HMP:=hq7 hmp
 have HE3:=hq7 he
 clear he hmp hPW HE2 HGD
 go_wp2_with fail
 refine HMP.out.mono ?_
 rintro e w5 ⟨v,rfl,hb5,hy5,hn5⟩
 have hkp:=Kp.of_below hb5 HS3.out.lt
 have HK5:=hq7 (HK3.out.trans hkp)
 by_cases hw0:PW=0
 case neg=>
  have t1:((PW:Int) !=0)=true:=by rw [bne_iff_ne];omega
  have hx:R=(g,PW):=by rw [←HE3.out,if_pos hw0]
  subst hx
  have HW0:=hq7 hw0
  clear hw0 hy5 hn5 hb5 hkp
  go_wp2
  go_ret
  exact ⟨rfl,HK5.out,fun h=>absurd h HW0.out⟩
 subst hw0
 have hpo:=hy5 rfl
 obtain ⟨Av,vc,rfl⟩:=hpo.form
 rw [show p.props.length=pl from HPL.out] at hpo⊢
 have he:=HE3.out
 rw [if_neg (by simp)] at he
 have HS5:=hq7 (HS3.out.below hb5)
 have HKB5:=hq7 (HKB3.out.below hb5 HKB3.out.lt)
 have hcx5:=(hb5.cell (p:=⟨lb,lo,none⟩) hpB).trans HCX.out
 have HPO5:=hq7 hpo
 have hen:=Dy zo w5 HS5.out HOS.out HGN.out (HLD.out w5 HK5.out.bel)
 rw [show zo.data.toList=p.other from HZO.out] at hen
 obtain ⟨o2,o2e,ho2⟩: ∃a b,Cy.endP g p.other=(a,b):=⟨_,_,rfl⟩
 rw [ho2] at hen he
 have HEN:=hq7 hen
 have HE4:=hq7 he
 have HCX5:=hq7 hcx5
 have HPB:=hq7 (show lb<w5.heap.size from Nat.lt_of_lt_of_le hpB hb5.size)
 clear hpo he hen ho2 hcx5 hy5 hn5 hb5 hkp c2 c3 d0 d1 d2 d3 d4 hcx hpB HCX HS3 HKB3 HNM3 HPP3 HK3 HMP HE3
 obtain ⟨d0,d1,d2,d3,d4⟩:=cells5 HKB5.out
 go_wp2_with fail
 refine HEN.out.mono ?_
 rintro e w7 ⟨rfl,hb7⟩
 have hkp:=Kp.of_below hb7 HS5.out.lt
 have hs7:=HS5.out.below hb7
 have hkb7:=HKB5.out.below hb7 HKB5.out.lt
 have hcx:=(hb7.cell (p:=⟨lb,lo,none⟩) HPB.out).trans HCX5.out
 have hbd:Below w7.heap.size w7 (w7.drewN 1):=(Below.refl _ w7).drew
 have hs7d:=hs7.below hbd
 obtain ⟨sn,sr,ln,lr,h1,h2,h3,h4,h5,h6,h7⟩:=hs7d.ex
 obtain ⟨Nn,Nc,rfl⟩:=ak h4
 obtain ⟨Rn,Rc,rfl⟩:=ak h7
 obtain ⟨gn,hgn⟩: ∃x,g.ah.length=x:=⟨_,rfl⟩
 have hkd:=Kp.of_below hbd hs7.lt
 have HK7:=hq7 ((HK5.out.trans hkp).trans hkd)
 have hno:dw (w7.drewN 1) base (⟨n,x,o1,o2,p.props⟩, [.int .i64 n, .string zx, .int .i64 o1, .int .i64 o2, .slice Av pl vc]):=⟨_,by rw [←HEX.out],(HPO5.out.kp hkp (by decide) (by decide) (by decide)).kp hkd (by decide) (by decide) (by decide)⟩
 have HND:=hq7 (fun (w9:World) (v':Value) (ho:w9.ownsRow base 63 5 v' (g.ah.length+1) (lr.flatMap Prod.snd ++ [.int .i64 n, .string zx, .int .i64 o1, .int .i64 o2, .slice Av pl vc])) (hg:(w7.drewN 1).grownBy w9 (Value.ownBlock (.slice Rn g.ah.length Rc)))=>MkS.rel hs7d h1 h2 h3 h4 h5 h6 h7 hno hg ho)
 have HMB:=hq7 (fun (w9:World) (hg:(w7.drewN 1).grownBy w9 (Value.ownBlock (.slice Rn g.ah.length Rc)))=>h1.grown hg (qL h7 h1 (by decide)))
 have hgnl:gn<536870912:=by have:=HGR.out;omega
 rw [hgn] at h1 h7 HND HMB
 have H4:=hq7 (show (w7.drewN 1).ownsRow base 63 5 (.slice Rn gn Rc) gn (lr.flatMap Prod.snd) from h7)
 have hlt7:base≤(w7.drewN 1).heap.size:=hs7.lt
 obtain ⟨c0,c1,c2,c3⟩:=cells4 (show Blk w7 mk _ _ from h1)
 have c0a:(w7.alloc (.cells #[.int .i64 n, .string zx, .int .i64 o1, .int .i64 o2, .slice Av pl vc] 63)).cell? ⟨mk,1,none⟩=some (.slice Rn gn Rc):=(Blk.alloc (show Blk w7 mk _ _ from h1) _).cell 1
 clear d0 d1 d2 d3 d4
 obtain ⟨d0,d1,d2,d3,d4⟩:=cells5 hkb7
 clear hkp hs7 hkb7 hb7 h1 h2 h3 h4 h5 h6 h7 hgn hno hbd hs7d hkd HS5 HKB5 HK5 HCX5 HPB HEN
 go_wp2_with fail
 go_region_law (first |(refine lZ rfl (.tmp 70) (.tmp 80) 37 63 (.agg #[.int .i64 0, .string ⟨#[]⟩, .int .i64 0, .int .i64 0, .slice none 0 0]) 5 64 Tryz.underlying37 DF rfl (by decide) (by decide) rfl base (.slice Rn gn Rc) gn (lr.flatMap Prod.snd) (w7.drewN 1) rfl H4.out [.int .i64 n, .string zx, .int .i64 o1, .int .i64 o2, .slice Av pl vc] _ rfl rfl (by simp [Value.oneCell']) rfl hgnl hlt7 ?_;intro v9 w9 hown9 hgr9 hwh9 hb9;obtain ⟨A9,c9,rfl⟩:=ak hown9;have hmb9:=HMB.out w9 hgr9;have hmc9:=hmb9.cell 1;have hmf9:=hmb9.frozen 1) | fail)
 all_goals
  obtain ⟨hms,hkf⟩:=HND.out w9 (.slice A9 (gn+1) c9) hown9 hgr9
  have HMS:=hq7 hms
  have HKF:=hq7 (HK7.out.trans hkf)
  have hx:R=(⟨g.nodes,g.ah ++ [⟨n,x,o1,o2,p.props⟩]⟩,o2e):=HE4.out.symm
  subst hx
  clear hms hkf hown9 hgr9 hwh9 hb9 hmb9 hmc9 hmf9 c0 c1 c2 c3 c0a d0 d1 d2 d3 d4 hcx HE4
  go_wp2
  go_ret
  exact ⟨rfl,HKF.out,fun h=>by have h1:=HMS.out;simpa using h1⟩
end Go.Proofs.YtoofbflplhbpbaaGreatDoor
