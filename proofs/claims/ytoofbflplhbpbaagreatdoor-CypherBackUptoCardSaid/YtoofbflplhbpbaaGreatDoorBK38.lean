/- Contracts and plain laws,part 38. -/
import Derived.Test.YtoofbflplhbpbaaGreatDoorBK33
import Derived.Test.YtoofbflplhbpbaaGreatDoorBK37
set_option maxHeartbeats 64000000
set_option maxRecDepth 1000000
set_option linter.all false
namespace Go.Proofs.YtoofbflplhbpbaaGreatDoor
open Go.RowKit
theorem Cy.VSz.ok {v:Cel.V} (h:Cy.VSz v):VOk v:=
 ⟨⟨by have:=h.kin;omega,by have:=h.kin;omega⟩,h.num,h.nums,Nat.le_trans h.tl (by decide),Nat.le_trans h.nl (by decide),Nat.le_trans h.sl (by decide),fun t ht=>Nat.le_trans (h.sz t ht) (by decide)⟩
theorem Cy.PSz.ok {p:Gr.P} (h:Cy.PSz p):POk p:=⟨Nat.le_trans h.key (by decide),h.val.ok⟩
theorem Cy.NSz.ok {n:Gr.N} (h:Cy.NSz n):NOk n:=
 ⟨⟨by have:=h.lo;omega,by have:=h.hi;omega⟩,Nat.le_trans h.ll (by decide),fun l hl=>Nat.le_trans (h.ls l hl) (by decide),Nat.le_trans h.pl (by decide),fun p hp=>(h.ps p hp).ok⟩
theorem Cy.RSz.ok {n:Gr.R} (h:Cy.RSz n):ROk n:=
 ⟨⟨by have:=h.lo;omega,by have:=h.hi;omega⟩,Nat.le_trans h.tl (by decide),⟨by have:=h.src;omega,by have:=h.src;omega⟩,⟨by have:=h.dst;omega,by have:=h.dst;omega⟩,Nat.le_trans h.pl (by decide),fun p hp=>(h.ps p hp).ok⟩
theorem Cy.GSz.ok {g:Gr.G} (h:Cy.GSz g):GOk g:=
 ⟨Nat.le_trans h.lens.1 (by decide),fun n hn=>(h.ns n hn).ok,Nat.le_trans h.lens.2 (by decide),fun n hn=>(h.rs n hn).ok⟩
theorem wO {β:Type} {W:World} {B e size n c:Nat} {A:Option Addr} {R:β→List Value→Prop} {l:List (β×List Value)} (h:W.ownsRow B e size (.slice A n c) n (l.flatMap Prod.snd)) (hn:l.length=n) (hs: ∀x∈l,x.2.length=size) (hR: ∀x∈l,R x.1 x.2):Lst W W.heap.size size R A (l.map Prod.fst):=fun i a ha=>by
 rw [List.getElem?_map] at ha
 obtain ⟨x,hx,rfl⟩:=Option.map_eq_some_iff.1 ha
 have hi:=(List.getElem?_eq_some_iff.1 hx).1
 obtain ⟨b,off,e,hb,hc⟩:=(Reads.dL h).2 (by omega)
 have hm:=List.mem_of_getElem? hx
 refine ⟨b,off,x.2,e,hb,hR x hm,hs x hm,fun j u hu=> ?_⟩
 have hj:j<size:=by have:=(List.getElem?_eq_some_iff.1 hu).1;rw [hs x hm] at this;exact this
 have:=hc _ u ((flat_get (f:=Prod.snd) hs hx j hj).trans hu)
 rwa [←Nat.add_assoc] at this
theorem aK.c {W:World} {B:Nat} {x:Gr.P×List Value} (h:aK W B x):aB W W.heap.size x.1 x.2:=by
 obtain ⟨s,t,e,h1,h2⟩:=h
 obtain ⟨A1,c1,rfl⟩:=ak h1
 obtain ⟨A2,c2,rfl⟩:=ak h2
 exact ⟨A1,c1,A2,c2,e,Reads.dL h1,Reads.dL h2⟩
theorem aC.lst {T:TypeId} {W:World} {B n c:Nat} {A:Option Addr} {ps:List Gr.P} (h:aC T W B (.slice A n c) ps):Lst W W.heap.size 6 (aB W W.heap.size) A ps:=by
 obtain ⟨l,rfl,h1,h2⟩:=h
 have e:(l.map Prod.fst).length=n:=by
  rcases h2.2 with ⟨e,h0⟩ |⟨g,cap,cur,e,-⟩
  ·injection e with _ e;rw [h0,e]
  ·injection e with _ e;exact e.symm
 rw [e] at h2
 exact wO h2 (by rw [←e,List.length_map]) (fun x hx=>(h1 x hx).len) (fun x hx=>(h1 x hx).c)
theorem dh.c {W:World} {B:Nat} {x:Gr.N×List Value} (h:dh W B x):bU W W.heap.size x.1 x.2:=by
 obtain ⟨s,t,e,h1,h2⟩:=h
 obtain ⟨A1,c1,rfl⟩:=ak h1
 obtain ⟨A2,c2,rfl⟩:=h2.form
 exact ⟨A1,c1,A2,c2,e,Reads.dL h1,h2.lst⟩
theorem dw.c {W:World} {B:Nat} {x:Gr.R×List Value} (h:dw W B x):bV W W.heap.size x.1 x.2:=by
 obtain ⟨t,e,h2⟩:=h
 obtain ⟨A2,c2,rfl⟩:=h2.form
 exact ⟨A2,c2,e,h2.lst⟩
theorem dA.gin {W:World} {B:Nat} {u:Value} {g:Gr.G} (h:dA W B u g) (ok:GOk g):GIn W W.heap.size u g:=by
 obtain ⟨sn,sr,ln,lr,rfl,q1,q2,q3,q4,q5,q6⟩:=h
 obtain ⟨A1,c1,rfl⟩:=ak q3
 obtain ⟨A2,c2,rfl⟩:=ak q6
 refine ⟨⟨A1,c1,A2,c2,rfl, ?_, ?_⟩,ok⟩
 ·have:=wO q3 (by rw [←q1,List.length_map]) (fun x hx=>(q2 x hx).len) (fun x hx=>(q2 x hx).c)
  rwa [q1] at this
 ·have:=wO q6 (by rw [←q4,List.length_map]) (fun x hx=>(q5 x hx).len) (fun x hx=>(q5 x hx).c)
  rwa [q4] at this
theorem dA.G0 (W:World) (B:Nat):dA W B (.agg #[.slice none 0 0, .slice none 0 0]) Gr.G0:=⟨_,_, [], [],rfl,rfl,by simp,World.ownsRow_nil _ _ _ _,rfl,by simp,World.ownsRow_nil _ _ _ _⟩
theorem dA.below {W W':World} {B:Nat} {u:Value} {g:Gr.G} (h:dA W B u g) (hb:Below W.heap.size W W'):dA W' B u g:=by
 have hk:Kt 0 0 W W':=Kt.of_below hb (Nat.zero_le _)
 obtain ⟨sn,sr,ln,lr,e,q1,q2,q3,q4,q5,q6⟩:=h
 exact ⟨sn,sr,ln,lr,e,q1,fun x hx=>(q2 x hx).kt hk (by decide) (by decide) (by decide),fC q3 hk (by decide),q4,fun x hx=>(q5 x hx).kt hk (by decide) (by decide) (by decide),fC q6 hk (by decide)⟩
theorem dA.lower {W:World} {B B':Nat} {u:Value} {g:Gr.G} (h:dA W B u g) (hb:B'≤B):dA W B' u g:=by
 obtain ⟨sn,sr,ln,lr,e,q1,q2,q3,q4,q5,q6⟩:=h
 refine ⟨sn,sr,ln,lr,e,q1,fun x hx=> ?_,dM q3 hb,q4,fun x hx=> ?_,dM q6 hb⟩
 ·obtain ⟨s,t,e,o1,o2⟩:=q2 x hx
  exact ⟨s,t,e,dM o1 hb,o2.base hb⟩
 ·obtain ⟨t,e,o2⟩:=q5 x hx
  exact ⟨t,e,o2.base hb⟩
theorem Cy.wP: ∀(ps:List Gr.P) (seen:List Cy.L),Cy.aQ seen ps=0→seen.Nodup→(seen ++ ps.map Gr.P.key).Nodup
 | [],seen,_,h=>by simpa using h
 | p :: r,seen,h,hs=>by
  rw [Cy.aQ] at h
  split at h
  ·cases h
  ·split at h
   ·cases h
   ·rename_i hm
    split at h
    ·rename_i hc;exact absurd h hc
    ·have:=wP r (seen ++ [p.key]) h (Cy.nU hs hm)
     simpa using this
theorem Cy.Oi {g:Gr.G} {p:Cy.Pat} (hg:oq g) (h:(Cy.add g p).2=0):oq (Cy.add g p).1:=by
 unfold Cy.add at h⊢
 split at h
 ·rename_i hr
  rw [if_pos hr]
  unfold Cy.lg at h⊢
  split at h
  ·rename_i hc;exact absurd h hc
  ·rename_i hc
   rw [if_neg hc]
   cases hn:Cy.idP 114 2048 p.word with
   | none=>simp only [hn] at h;cases h
   | some n=>
    simp only [hn] at h⊢
    split at h
    ·cases h
    ·rename_i hid
     rw [if_neg hid]
     split at h
     ·cases h
     ·rename_i hgn
      rw [if_neg hgn]
      split at h
      ·rename_i hp;exact absurd h hp
      ·rename_i hp
       rw [if_neg hp]
       refine ⟨hg.ni, ?_,hg.np,fun r hr=> ?_⟩
       ·show ((g.ah ++ [_]).map Gr.R.id).Nodup
        rw [List.map_append]
        exact Cy.nU hg.ri hid
       ·rcases List.mem_append.1 hr with hr | hr
        ·exact hg.rp r hr
        ·rw [List.mem_singleton.1 hr]
         have:=Cy.wP p.props [] (Decidable.not_not.1 hp) List.nodup_nil
         simpa using this
 ·rename_i hr
  rw [if_neg hr]
  unfold Cy.addNode at h⊢
  cases hn:Cy.idP 110 1024 p.first with
  | none=>simp only [hn] at h;cases h
  | some n=>
   simp only [hn] at h⊢
   split at h
   ·cases h
   ·rename_i hid
    rw [if_neg hid]
    split at h
    ·rename_i hp;exact absurd h hp
    ·rename_i hp
     rw [if_neg hp]
     refine ⟨?_,hg.ri,fun r hr=> ?_,hg.rp⟩
     ·show ((g.nodes ++ [_]).map Gr.N.id).Nodup
      rw [List.map_append]
      exact Cy.nU hg.ni hid
     ·rcases List.mem_append.1 hr with hr | hr
      ·exact hg.np r hr
      ·rw [List.mem_singleton.1 hr]
       have:=Cy.wP p.props [] h List.nodup_nil
       simpa using this
theorem dist0:oq Gr.G0:=⟨List.nodup_nil,List.nodup_nil,by simp [Gr.G0],by simp [Gr.G0]⟩
structure PaS (w:World) (mk m1 m2:Nat) (ps:List Cy.Pat) (A:Option Addr) (n c:Nat) (g:Gr.G) (k:Nat) (V:World):Prop where
 mks:MkS (w.heap.size+1) mk m1 m2 g (g.nodes.map Gr.N.id) (g.ah.map Gr.R.id) V
 rows:fB V (w.heap.size+1) (.slice A n c) ps
 res:Blk V w.heap.size 39 #[.slice none 0 0, .slice none 0 0]
 bel:Below w.heap.size w V
 mkd:Cy.make Gr.G0 ps=Cy.make g (ps.drop k)
 sz:Cy.GSz g
 ds:oq g
theorem fB.at {V:World} {B n c k:Nat} {A:Option Addr} {ps:List Cy.Pat} {p:Cy.Pat} (h:fB V B (.slice A n c) ps) (hn:ps.length=n) (hk:ps[k]?=some p): ∃g cs,A=some ⟨g,0,none⟩∧eG V B (p,cs)∧cs.length=5∧ ∀j,j<5→V.cell? ⟨g,k*5+j,none⟩=cs[j]?:=by
 obtain ⟨l,rfl,h1,h2⟩:=h
 rw [hn] at h2
 rw [List.getElem?_map] at hk
 obtain ⟨x,hx,rfl⟩:=Option.map_eq_some_iff.1 hk
 have hlen: ∀y∈l,y.2.length=5:=fun y hy=>by
  obtain ⟨s,t,e,-,-⟩:=h1 y hy
  rw [e];rfl
 have hm:=List.mem_of_getElem? hx
 have hkn:k<n:=by have:=(List.getElem?_eq_some_iff.1 hx).1;rw [List.length_map] at hn;omega
 obtain ⟨g,e,-⟩:=jQ h2 (t:=k*5) (by omega)
 refine ⟨g,x.2,e,h1 x hm,hlen x hm,fun j hj=> ?_⟩
 obtain ⟨g',e',-,hc,-⟩:=jQ h2 (t:=k*5+j) (by omega)
 rw [e] at e'
 cases e'
 rw [hc,flat_get hlen hx j hj]
theorem fB.lower {W:World} {B B':Nat} {v:Value} {ps:List Cy.Pat} (h:fB W B v ps) (hb:B'≤B):fB W B' v ps:=by
 obtain ⟨l,e,h1,h2⟩:=h
 refine ⟨l,e,fun x hx=> ?_,dM h2 hb⟩
 obtain ⟨s,t,e,o1,o2⟩:=h1 x hx
 exact ⟨s,t,e,dM o1 hb,o2.base hb⟩
theorem PaS.next {w V V5 V6:World} {mk m1 m2 n c k:Nat} {ps:List Cy.Pat} {A:Option Addr} {g:Gr.G} {p:Cy.Pat} (h:PaS w mk m1 m2 ps A n c g k V) (hp:ps[k]?=some p) (hz:Cy.gB p) (b5:Below V.heap.size V V5) (k6:Kp (w.heap.size+1) V5 V6) (he:(Cy.add g p).2=0) (hm:MkS (w.heap.size+1) mk m1 m2 (Cy.add g p).1 ((Cy.add g p).1.nodes.map Gr.N.id) ((Cy.add g p).1.ah.map Gr.R.id) V6):PaS w mk m1 m2 ps A n c (Cy.add g p).1 (k+1) V6:=by
 have k5:Kp (w.heap.size+1) V V5:=Kp.of_below b5 h.mks.lt
 have k7:=k5.trans k6
 refine ⟨hm,h.rows.kp k7,k7.keep _ _ _ _ h.res (by decide) (by decide) (by decide),h.bel.trans (k7.bel.mono (by omega)), ?_,Cy.BR h.sz hz,Cy.Oi h.ds he⟩
 rw [h.mkd,List.drop_eq_getElem_cons (List.getElem?_eq_some_iff.1 hp).1,(List.getElem?_eq_some_iff.1 hp).2,Cy.make,if_neg (by rw [he];decide)]
theorem PaS.stop {w V V5 V6:World} {mk m1 m2 n c k:Nat} {ps:List Cy.Pat} {A:Option Addr} {g:Gr.G} {p:Cy.Pat} (h:PaS w mk m1 m2 ps A n c g k V) (hp:ps[k]?=some p) (b5:Below V.heap.size V V5) (k6:Kp (w.heap.size+1) V5 V6) (he:(Cy.add g p).2≠0):
  Cy.make Gr.G0 ps=(Gr.G0,(Cy.add g p).2)∧Blk V6 w.heap.size 39 #[.slice none 0 0, .slice none 0 0]∧Below w.heap.size w V6:=by
 have k7:=(Kp.of_below b5 h.mks.lt:Kp (w.heap.size+1) V V5).trans k6
 refine ⟨?_,k7.keep _ _ _ _ h.res (by decide) (by decide) (by decide),h.bel.trans (k7.bel.mono (by omega))⟩
 rw [h.mkd,List.drop_eq_getElem_cons (List.getElem?_eq_some_iff.1 hp).1,(List.getElem?_eq_some_iff.1 hp).2,Cy.make,if_pos he]
def Oj (w:World) (R:Gr.G×Nat) (e:Ending) (w':World):Prop:= ∃u,e= .returned (.tuple #[u, .int .i64 (R.2:Nat)])∧dA w' w.heap.size u R.1∧Below w.heap.size w w'
theorem oD {fn:Func} {R:Ending→World→Prop} {tmps:Array Value} {W:World} {p q:Tmp} {b:Nat} {v0 v1 v2:Value} (hfn:fn.results= #[.cell p 39, .tmp q])
  (ht:tmps.getD p undef= .pointer (some ⟨b,0,none⟩)) (hq:tmps.getD q undef=v2) (hB:Blk W b 39 #[v0,v1]) (hR:R (.returned (.tuple #[.agg #[v0,v1],v2])) W):
  bodyPost Tryz.prog fn R .ret {tmps:=tmps,defers:= []} W:=by
 obtain ⟨c0,c1⟩:=cells2 hB
 refine bodyPost_ret (v:= .tuple #[.agg #[v0,v1],v2]) ?_ rfl hR
 simp at ht hq
 simp [results,hfn,go_sem,ht,hq,c0,c1]
theorem Blk.failed {w V:World} {u0 u1:Value} (h:Blk V w.heap.size 39 #[u0,u1]) (hb:Below w.heap.size w V) (v0 v1:Value):Blk ((V.setCell ⟨w.heap.size,0,none⟩ v0).setCell ⟨w.heap.size,1,none⟩ v1) w.heap.size 39 #[v0,v1]∧Below w.heap.size w ((V.setCell ⟨w.heap.size,0,none⟩ v0).setCell ⟨w.heap.size,1,none⟩ v1):=
 ⟨Blk.cast ((h.ay 0 v0).ay 1 v1) (by simp),(hb.setCell (p:=⟨w.heap.size,0,none⟩) (Nat.le_refl _) v0).setCell (p:=⟨w.heap.size,1,none⟩) (Nat.le_refl _) v1⟩
theorem qR (s:ByteArray) (hs:s.size≤1073741823) (w:World) (hL: ∀V,Below w.heap.size w V→Laid V):Calls Tryz.prog 23 #[.string s] w (Oj w (Cy.parse s.data.toList)):=by
 obtain ⟨R,hR⟩: ∃R,Cy.parse s.data.toList=R:=⟨_,rfl⟩
 rw [hR]
 unfold Cy.parse at hR
 have hb1:Below w.heap.size w (w.alloc (.cells #[.slice none 0 0, .slice none 0 0] 39)):=(Below.refl _ w).alloc (Nat.le_refl _) _
 have hk1:=Blk.new w 39 #[.slice none 0 0, .slice none 0 0]
 obtain ⟨W1,hW1⟩: ∃x,w.alloc (.cells #[.slice none 0 0, .slice none 0 0] 39)=x:=⟨_,rfl⟩
 have hsz1:W1.heap.size=w.heap.size+1:=by rw [←hW1];simp
 rw [hW1] at hb1 hk1
 have HA:=hq7 (Le s hs W1 (hL W1 hb1))
 have hok:=Cy.BA s.data.toList
 have htl:=Cy.BF s.data.toList
 obtain ⟨ts,oe,hrd⟩: ∃ts oe,Lex.read s.data.toList=(ts,oe):=⟨_,_,rfl⟩
 have herr:=fun (p e:Nat) (h:(Lex.read s.data.toList).2=some (p,e))=>Cy.BG h
 rw [hrd] at HA hok htl hR herr
 have HL:=hq7 hL
 have HB1:=hq7 hb1
 have HK1:=hq7 hk1
 have HSZ:=hq7 hsz1
 have HOK:=hq7 hok
 have HTL:=hq7 htl
 have HR:=hq7 hR
 have HE:=hq7 herr
 clear herr hL hb1 hk1 hsz1 hok htl hR hrd hs
 go_enter Tryz.func23,Tryz.ntmps23
 go_wp2_with fail
 refine HA.out.mono ?_
 rintro e w2 ⟨b2,hres⟩
 clear HA
 have hk2:=HK1.out.below b2 HK1.out.lt
 have hb2:=HB1.out.trans (b2.mono HB1.out.size)
 obtain ⟨a0,a1⟩:=cells2 hk2
 have f0:=hk2.frozen 0
 have f1:=hk2.frozen 1
 have HFAIL:=hq7 (hk2.failed hb2)
 have HK2:=hq7 hk2
 have HB2:=hq7 hb2
 clear hk2 hb2
 cases oe with
 | some pe=>
  obtain ⟨p,e0⟩:=pe
  subst hres
  have he:R=(Gr.G0,e0):=HR.out.symm
  subst he
  have hne:((e0:Int) !=0)=true:=by
   have:=HE.out p e0 rfl
   simp;omega
  go_wp2_with fail
  exact oD rfl (by simp) (by simp) (HFAIL.out _ _).1 ⟨_,rfl,dA.G0 _ _,(HFAIL.out _ _).2⟩
 | none=>
  obtain ⟨v2,rfl,o2⟩:=hres
  obtain ⟨A2,c2,e2⟩:=ak (show w2.ownsRow _ _ _ v2 _ _ from o2)
  obtain ⟨n,hn⟩: ∃n,ts.length=n:=⟨_,rfl⟩
  rw [hn] at e2
  subst e2
  have o3:w2.ownsRow W1.heap.size 138 4 (.slice A2 n c2) ts.length (fF ts):=o2
  rw [hn] at o3
  have hrt:=Reads.dL o3
  have HP:=hq7 (Md w2.heap.size A2 n c2 ts w2 hrt hn (hn▸HTL.out) HOK.out (Nat.le_refl _))
  obtain ⟨op,hop⟩: ∃op,Cy.patterns ts=op:=⟨_,rfl⟩
  rw [hop] at HP
  have HOP:=hq7 hop
  clear o2 o3 hrt hn hop
  go_wp2_with fail
  refine HP.out.mono ?_
  rintro e w3 ⟨b3,hres⟩
  clear HP
  have hk3:=HK2.out.below b3 HK2.out.lt
  have hb3:=HB2.out.trans (b3.mono HB2.out.size)
  obtain ⟨a0,a1⟩:=cells2 hk3
  have f0:=hk3.frozen 0
  have f1:=hk3.frozen 1
  have HFAIL:=hq7 (hk3.failed hb3)
  have HK3:=hq7 hk3
  have HB3:=hq7 hb3
  clear hk3 hb3
  cases op with
  | none=>
   subst hres
   have he:R=(Gr.G0,250):=by have:=HR.out;simp only [HOP.out] at this;exact this.symm
   subst he
   go_wp2_with fail
   exact oD rfl (by simp) (by simp) (HFAIL.out _ _).1 ⟨_,rfl,dA.G0 _ _,(HFAIL.out _ _).2⟩
  | some ps=>
   obtain ⟨v3,rfl,o3⟩:=hres
   obtain ⟨n3,hn3⟩: ∃n,ps.length=n:=⟨_,rfl⟩
   obtain ⟨A3,c3,e3⟩: ∃A c,v3= .slice A n3 c:=by
    obtain ⟨l,-,-,h⟩:=o3
    obtain ⟨A,c,rfl⟩:=ak h
    exact ⟨A,c,by rw [hn3]⟩
   subst e3
   have hpsz:=Cy.BP HOP.out HOK.out HTL.out
   have hR2:(if (Cy.make Gr.G0 ps).2≠0 then (Gr.G0,(Cy.make Gr.G0 ps).2) else if (Gr.check (Gr.canon (Cy.make Gr.G0 ps).1)).1≠0 then (Gr.G0,(Gr.check (Gr.canon (Cy.make Gr.G0 ps).1)).1) else (Gr.canon (Cy.make Gr.G0 ps).1,0))=R:=by have:=HR.out;simp only [HOP.out] at this;exact this
   have hn31:n3≤16777216:=hn3▸Nat.le_trans hpsz.2 HTL.out
   have hmm:= @run_makeMap Tryz.prog
   obtain ⟨W4,hW4⟩: ∃x,((w3.alloc (.map #[] 0)).alloc (.map #[] 0)).alloc (.cells #[.slice none 0 0, .slice none 0 0, .map (some w3.heap.size), .map (some (w3.heap.size+1))] 99)=x:=⟨_,rfl⟩
   have hs4:PaS w (w3.heap.size+1+1) w3.heap.size (w3.heap.size+1) ps A3 n3 c3 Gr.G0 0 W4:=by
    have hlt:=HK3.out.lt
    have b4:Below w3.heap.size w3 ((w3.alloc (.map #[] 0)).alloc (.map #[] 0)):=((Below.refl _ w3).alloc (Nat.le_refl _) _).alloc (by simp) _
    have b5:Below w3.heap.size w3 W4:=hW4▸b4.alloc (by simp;omega) _
    have n1:aS W4 w3.heap.size []:=hW4▸((aS.made w3).below ((Below.refl _ _).alloc (Nat.le_refl _) _)).below ((Below.refl _ _).alloc (Nat.le_refl _) _)
    have n2:aS W4 (w3.heap.size+1) []:=by
     have:=(aS.made (w3.alloc (.map #[] 0))).below ((Below.refl _ _).alloc (Nat.le_refl _) (.cells #[.slice none 0 0, .slice none 0 0, .map (some w3.heap.size), .map (some (w3.heap.size+1))] 99))
     rw [hW4] at this
     simpa using this
    have hkm:Blk W4 (w3.heap.size+1+1) 99 #[.slice none 0 0, .slice none 0 0, .map (some w3.heap.size), .map (some (w3.heap.size+1))]:=by
     have:=Blk.new ((w3.alloc (.map #[] 0)).alloc (.map #[] 0)) 99 #[.slice none 0 0, .slice none 0 0, .map (some w3.heap.size), .map (some (w3.heap.size+1))]
     rw [hW4] at this
     simpa using this
    have hsz:=HB2.out.size
    refine ⟨⟨⟨_,_, [], [],hkm,rfl,by simp,World.ownsRow_nil _ _ _ _,rfl,by simp,World.ownsRow_nil _ _ _ _⟩,n1,n2,⟨by omega,by omega,by omega,by omega⟩⟩, ?_,HK3.out.below b5 HK3.out.lt,HB3.out.trans (b5.mono (by omega)),rfl,Cy.uN,dist0⟩
    exact (o3.lower (by omega)).kp (Kp.of_below b5 (Nat.le_refl w3.heap.size))
   have HS:=hq7 hs4
   have HPZ:=hq7 hpsz.1
   have HN3:=hq7 hn3
   have HR2:=hq7 hR2
   clear hs4 hpsz hn3 hR2 HR o3
   go_wp2_with fail
   go_loopg [41] n3 (fun kx s41 wr=> ∃(k:Nat) (g:Gr.G),s41= .int .i64 k∧k+kx=n3∧PaS w (w3.heap.size+1+1) w3.heap.size (w3.heap.size+1) ps A3 n3 c3 g k wr)
   case atStart=>exact ⟨0,_,rfl,by omega,HS.out⟩
   case round=>
    obtain ⟨k,g,rfl,hk,hs⟩:=hrel
    clear HS HFAIL f0 f1 a0 a1 hW4
    have HS:=hq7 hs
    cases gk with
    | zero=>
     obtain rfl:k=n3:=by omega
     have hmk:Cy.make Gr.G0 ps=(g,0):=by rw [hs.mkd,List.drop_of_length_le (by rw [HN3.out];exact Nat.le_refl _)];rfl
     obtain ⟨sn,sr,ln,lr,hkm,p1,p2,p3,p4,p5,p6⟩:=hs.mks.ex
     obtain ⟨A1,c1,rfl⟩:=ak p3
     obtain ⟨A2,c2,rfl⟩:=ak p6
     obtain ⟨e0,e1,-,-⟩:=cells4 hkm
     have hgo:dA wr (w.heap.size+1) (.agg #[.slice A1 g.nodes.length c1, .slice A2 g.ah.length c2]) g:=⟨_,_,ln,lr,rfl,p1,p2,p3,p4,p5,p6⟩
     have HC:=hq7 (NS wr.heap.size _ g wr (hgo.gin hs.sz.ok) (Nat.le_refl _) hs.ds)
     have hR3:=HR2.out
     rw [hmk,if_neg (by simp)] at hR3
     have HR3:=hq7 hR3
     clear hmk hkm p1 p2 p3 p4 p5 p6 hgo hR3 hs HR2
     go_wp2_with fail
     refine HC.out.mono ?_
     rintro e w7 ⟨u7,rfl,g7,b7⟩
     obtain ⟨A3,m3,c5,A4,m4,c6,rfl⟩: ∃A n c B m d,u7= .agg #[.slice A n c, .slice B m d]:=by
      obtain ⟨sn,sr,ln,lr,rfl,-,-,h3,-,-,h6⟩:=g7
      obtain ⟨A,c,rfl⟩:=ak h3
      obtain ⟨B,d,rfl⟩:=ak h6
      exact ⟨A,_,c,B,_,d,rfl⟩
     have hb8:Below w7.heap.size w7 (w7.alloc (.cells #[.slice A3 m3 c5, .slice A4 m4 c6] 39)):=(Below.refl _ _).alloc (Nat.le_refl _) _
     have hk8:=Blk.new w7 39 #[.slice A3 m3 c5, .slice A4 m4 c6]
     have g8:=g7.below hb8
     have HCK:=hq7 (Es _ _ _ _ (g8.gin (Cy.BX HS.out.sz).ok) (Nat.le_refl _))
     obtain ⟨e0,e1⟩:=cells2 hk8
     have hres:=(HS.out.res.below b7 HS.out.res.lt).below hb8 (HS.out.res.below b7 HS.out.res.lt).lt
     have HX:=hq7 (And.intro g8 (And.intro hk8 (And.intro hres (HS.out.bel.trans ((b7.trans (hb8.mono b7.size)).mono HS.out.bel.size)))))
     have hwr:=HS.out.bel.size
     clear g7 b7 hb8 hk8 g8 hres HC
     go_wp2_with fail
     refine HCK.out.mono ?_
     rintro e w9 ⟨rfl,b9⟩
     clear HCK
     obtain ⟨g8,hk8,hres,hb8⟩:=HX.out
     have hk9:=hk8.below b9 hk8.lt
     have hr9:=hres.below b9 hres.lt
     have hb9:=hb8.trans (b9.mono hb8.size)
     obtain ⟨e0,e1⟩:=cells2 hk9
     obtain ⟨a0,a1⟩:=cells2 hr9
     have f0:=hr9.frozen 0
     have f1:=hr9.frozen 1
     have HFAIL:=hq7 (hr9.failed hb9)
     have HG9:=hq7 (((g8.below b9).kt (Kt.cell (base:=0) hr9 (Nat.zero_le _) 0 (.slice A3 m3 c5)) (by decide) (by decide) (by decide) (by decide) (by decide)).kt (Kt.cell (base:=0) (hr9.ay 0 (.slice A3 m3 c5)) (Nat.zero_le _) 1 (.slice A4 m4 c6)) (by decide) (by decide) (by decide) (by decide) (by decide))
     obtain ⟨E,hE⟩: ∃E,(Gr.check (Gr.canon g)).1=E:=⟨_,rfl⟩
     rw [hE]
     have hR4:=HR3.out
     rw [hE] at hR4
     clear g8 hk8 hres hb8 hk9 hr9 hb9 b9 HX HR3
     by_cases hE0:E=0
     ·subst hE0
      obtain rfl:R=(Gr.canon g,0):=hR4.symm
      go_wp2_with fail
      exact oD rfl (by simp) (by simp) (HFAIL.out _ _).1 ⟨_,rfl,HG9.out.lower hwr,(HFAIL.out _ _).2⟩
     ·obtain rfl:R=(Gr.G0,E):=by rw [if_pos hE0] at hR4;exact hR4.symm
      have hne:((E:Int) !=0)=true:=by simp;omega
      go_wp2_with fail
      exact oD rfl (by simp) (by simp) (HFAIL.out _ _).1 ⟨_,rfl,dA.G0 _ _,(HFAIL.out _ _).2⟩
    | succ kq=>
     have hkn:k<n3:=by omega
     have hkI:(k:Int)<(n3:Int):=by omega
     obtain ⟨p,hp⟩: ∃p,ps[k]?=some p:=⟨_,List.getElem?_eq_getElem (by rw [HN3.out];exact hkn)⟩
     have hpz:=HPZ.out p (List.mem_of_getElem? hp)
     obtain ⟨gp,cs,rfl,hpc,-,hcell⟩:=hs.rows.at HN3.out hp
     obtain ⟨A1,c1,A2,c2,rfl,-,-⟩:=hpc.form
     have q0:=hcell 0 (by decide)
     have q1:=hcell 1 (by decide)
     have q2:=hcell 2 (by decide)
     have q3:=hcell 3 (by decide)
     have q4:=hcell 4 (by decide)
     simp only [List.getElem?_cons_succ,List.getElem?_cons_zero,Nat.add_zero] at q0 q1 q2 q3 q4
     have hb5:Below wr.heap.size wr (wr.alloc (.cells #[ST p.first,ST p.word,ST p.other, .slice A1 p.names.length c1, .slice A2 p.props.length c2] 102)):=(Below.refl _ wr).alloc (Nat.le_refl _) _
     have hk5:=Blk.new wr 102 #[ST p.first,ST p.word,ST p.other, .slice A1 p.names.length c1, .slice A2 p.props.length c2]
     have hpc5:=hpc.kp (Kp.of_below hb5 hs.mks.lt)
     have hm5:=hs.mks.below hb5
     have hl5: ∀V,Below (w.heap.size+1) (wr.alloc (.cells #[ST p.first,ST p.word,ST p.other, .slice A1 p.names.length c1, .slice A2 p.props.length c2] 102)) V→Laid V:=fun V hV=>HL.out V ((hs.bel.trans (hb5.mono hs.bel.size)).trans (hV.mono (by omega)))
     have hgl:=hs.sz.lens
     have hadd:Calls Tryz.prog (if p.rel then 50 else 49) #[.pointer (some ⟨w3.heap.size+1+1,0,none⟩), .agg #[ST p.first,ST p.word,ST p.other, .slice A1 p.names.length c1, .slice A2 p.props.length c2]] (wr.alloc (.cells #[ST p.first,ST p.word,ST p.other, .slice A1 p.names.length c1, .slice A2 p.props.length c2] 102)) (qM (w.heap.size+1) (w3.heap.size+1+1) w3.heap.size (w3.heap.size+1) (Cy.add g p) (wr.alloc (.cells #[ST p.first,ST p.word,ST p.other, .slice A1 p.names.length c1, .slice A2 p.props.length c2] 102))):=by
      unfold Cy.add
      by_cases hr:p.rel=true
      ·rw [if_pos hr,if_pos hr]
       exact ML hm5 hpc5 hpz hr (by omega) (by omega) hl5
      ·rw [if_neg hr,if_neg hr]
       exact MK hm5 hpc5 hpz (by omega) hl5
     have hrw:p.rel=true↔(⟨p.word.toArray⟩:ByteArray).toList≠ []:=by rw [jr];exact hpz.rw_
     simp only [ST] at q0 q1 q2 hb5 hk5 hadd
     obtain ⟨z1,hz1⟩: ∃z:ByteArray,(⟨p.first.toArray⟩:ByteArray)=z:=⟨_,rfl⟩
     obtain ⟨z2,hz2⟩: ∃z:ByteArray,(⟨p.word.toArray⟩:ByteArray)=z:=⟨_,rfl⟩
     obtain ⟨z3,hz3⟩: ∃z:ByteArray,(⟨p.other.toArray⟩:ByteArray)=z:=⟨_,rfl⟩
     obtain ⟨nl,hnl⟩: ∃x,p.names.length=x:=⟨_,rfl⟩
     obtain ⟨pl,hpl⟩: ∃x,p.props.length=x:=⟨_,rfl⟩
     rw [hz1,hz2,hz3,hnl,hpl] at hb5 hk5 hadd
     rw [hz1] at q0
     rw [hz2] at q1 hrw
     rw [hz3] at q2
     rw [hnl] at q3
     rw [hpl] at q4
     obtain ⟨d0,d1,d2,d3,d4⟩:=cells5 hk5
     have HS5:=hq7 hs
     have HB5:=hq7 hb5
     have HADD:=hq7 hadd
     have HP:=hq7 hp
     have HPZ5:=hq7 hpz
     clear hs hb5 hadd hp hpz hk5 hz1 hz2 hz3 hnl hpl hpc5 hm5 hl5 hgl hpc hcell
     obtain ⟨b,hb⟩: ∃b,z2.toList.isEmpty=b:=⟨_,rfl⟩
     have hpr:p.rel= !b:=by
      rw [←hb]
      cases h:z2.toList with
      | nil=>rw [h] at hrw;cases hr:p.rel with
       | false=>rfl
       | true=>exact absurd rfl (hrw.1 hr)
      | cons x r=>exact hrw.2 (by rw [h];simp)
     have HADD2:=HADD
     rw [hpr] at HADD2
     have HPR:=hq7 hpr
     clear hrw hpr HADD
     have fin: ∀(e:Ending) (w6:World),qM (w.heap.size+1) (w3.heap.size+1+1) w3.heap.size (w3.heap.size+1) (Cy.add g p) (wr.alloc (.cells #[.string z1, .string z2, .string z3, .slice A1 nl c1, .slice A2 pl c2] 102)) e w6→
       ∃E:Nat,e= .returned (.int .i64 (E:Nat))∧((E=0∧PaS w (w3.heap.size+1+1) w3.heap.size (w3.heap.size+1) ps (some ⟨gp,0,none⟩) n3 c3 (Cy.add g p).1 (k+1) w6)∨(E≠0∧R=(Gr.G0,E)∧Blk w6 w.heap.size 39 #[.slice none 0 0, .slice none 0 0]∧Below w.heap.size w w6)):=fun e w6 h=>by
      obtain ⟨rfl,k6,hm6⟩:=h
      refine ⟨_,rfl, ?_⟩
      by_cases hE0:(Cy.add g p).2=0
      ·exact .inl ⟨hE0,HS5.out.next HP.out HPZ5.out HB5.out k6 hE0 (hm6 hE0)⟩
      ·obtain ⟨h1,h2,h3⟩:=HS5.out.stop HP.out HB5.out k6 hE0
       refine .inr ⟨hE0, ?_,h2,h3⟩
       have:=HR2.out
       rw [h1,if_pos hE0] at this
       exact this.symm
     have FIN:=hq7 fin
     clear fin HR2 HB5 HP HPZ5 HS5
     cases b
     all_goals
      go_wp2_with fail
      refine HADD2.out.mono ?_
      intro e w6 h6
      obtain ⟨E,rfl,⟨rfl,hs6⟩ |⟨hE,rfl,hk6,hb6⟩⟩:=FIN.out e w6 h6
      ·have HS6:=hq7 hs6
       clear h6 hs6
       go_wp2_with fail
       go_roundg kq
       case measure=>omega
       case rel=>exact ⟨k+1,_,by simp,by omega,HS6.out⟩
      ·have hne:((E:Int) !=0)=true:=by simp;omega
       obtain ⟨a0,a1⟩:=cells2 hk6
       have f0:=hk6.frozen 0
       have f1:=hk6.frozen 1
       have HFAIL:=hq7 (hk6.failed hb6)
       clear hk6 hb6 h6 hE
       go_wp2_with fail
       exact oD rfl (by simp) (by simp) (HFAIL.out _ _).1 ⟨_,rfl,dA.G0 _ _,(HFAIL.out _ _).2⟩
structure kS (p:Gr.P):Prop where
 ok:POk p
 key:p.key.length≤40
 val:Cel.check p.val=0
theorem Ol {p:Gr.P} (h:kS p):(Cy.bZ p).length≤400042:=by
 have:=D5 h.val h.ok.val.nums h.ok.val.num
 have:=h.key
 unfold Cy.bZ
 simp only [List.length_append,List.length_cons,List.length_nil]
 omega
theorem wQ {ps:List Gr.P} (hl:ps.length≤16) (hs: ∀p∈ps,kS p):(Cy.join [44,32] (ps.map Cy.bZ)).length≤6500000∧(Cy.fE ps).length≤6500003:=by
 have h1:=qP [44,32] 400042 (ps.map Cy.bZ) (fun x hx=>by obtain ⟨p,hp,rfl⟩:=List.mem_map.1 hx;exact Ol (hs p hp))
 have h2:(ps.map Cy.bZ).length*(400042+ [44,32].length)≤16*400044:=Nat.mul_le_mul (by rw [List.length_map];exact hl) (by decide)
 have h3:(Cy.join [44,32] (ps.map Cy.bZ)).length≤6500000:=by omega
 refine ⟨h3, ?_⟩
 unfold Cy.fE
 split
 ·simp
 ·simp only [List.length_append,List.length_cons,List.length_nil]
  omega
theorem wR (n:Int) (w:World) (hn:Cel.In64 n) (hL:Laid w):
  Calls Tryz.prog 42 #[.int .i64 n] w fun e w'=>e= .returned (.string ⟨(110 :: Lib.itoa n).toArray⟩)∧Below w.heap.size w w':=by
 have hc:=sK n w hn.1 hn.2 hL
 have hl:=iT hn.1 hn.2
 obtain ⟨z,hz⟩: ∃z:ByteArray,(⟨(Lib.itoa n).toArray⟩:ByteArray)=z:=⟨_,rfl⟩
 have hzs:z.size≤21:=by rw [←hz,aJ];exact hl
 have HR:=hq7 (show (⟨(110 :: Lib.itoa n).toArray⟩:ByteArray)=⟨#[110]⟩ ++ z by rw [←hz];apply ByteArray.ext;simp)
 rw [hz] at hc
 have HC:=hq7 hc
 clear hc hl hz
 go_enter Tryz.func42,Tryz.ntmps42
 go_wp2_with fail
 refine HC.out.mono ?_
 rintro e w' ⟨rfl,hb⟩
 have HB:=hq7 hb
 clear hb
 go_wp2
 go_ret
 exact ⟨by rw [HR.out];rfl,HB.out⟩
theorem Et (B:Nat) (A:Option Addr) (c:Nat) (ps:List Gr.P) (w:World) (h:Lst w B 6 (aB w B) A ps) (hB:B≤w.heap.size) (hl:ps.length≤16) (hs: ∀p∈ps,kS p) (hL:Laid w):
  Calls Tryz.prog 43 #[.slice A ps.length c] w fun e w'=>e= .returned (.string ⟨(Cy.fE ps).toArray⟩)∧Below w.heap.size w w':=by
 obtain ⟨R,hR⟩: ∃R,Cy.fE ps=R:=⟨_,rfl⟩
 rw [hR]
 unfold Cy.fE at hR
 have HJL:=hq7 (wQ hl hs).1
 obtain ⟨n,hn⟩: ∃n,ps.length=n:=⟨_,rfl⟩
 rw [hn] at hl⊢
 have HH:=hq7 h
 have HS:=hq7 hs
 have HN:=hq7 hn
 have HL:=hq7 hL
 have HBw:=hq7 hB
 have HR:=hq7 hR
 clear h hs hL hB hR
 by_cases h0:ps= []
 ·have hn0:n=0:=by rw [←hn,h0];rfl
  subst hn0
  have HF:=hq7 (show R= [] by rw [←HR.out,if_pos h0])
  clear h0 hn
  go_enter Tryz.func43,Tryz.ntmps43
  go_wp2
  go_ret
  exact ⟨by rw [HF.out];rfl,Below.refl _ _⟩
 have hpos:0<n:=by rw [←hn];exact List.length_pos_iff.2 h0
 have hne:(n == 0)=false:=beq_eq_false_iff_ne.2 (by omega)
 have hni:(0:Int)<n:=by omega
 have hni2:(n:Int)≤16:=by omega
 have hneI:((n:Int) == 0)=false:=beq_eq_false_iff_ne.2 (by omega)
 have HF:=hq7 (show R= [32,123] ++ Cy.join [44,32] (ps.map Cy.bZ) ++ [125] by rw [←HR.out,if_neg h0])
 clear h0 hn hpos HR
 go_enter Tryz.func43,Tryz.ntmps43
 go_wp2_with fail
 go_loopg [13,3] n (fun g x y wr=> ∃(k c:Nat) (A:Option Addr),x= .int .i64 k∧y= .slice A k c∧k+g=n∧PR w ((ps.take k).map Cy.bZ) A k c wr)
 case atStart=>exact ⟨0,0,none,rfl,rfl,by omega,rfl,World.ownsRow_nil _ _ _ _,Below.refl _ _⟩
 case round=>
  obtain ⟨k,ca,A2,rfl,rfl,hk,hrel⟩:=hrel
  have HK:=hq7 hk
  cases gk with
  | zero=>
   obtain rfl:k=n:=by omega
   rw [List.take_of_length_le (by have:=HN.out;omega)] at hrel
   have HQ:=hq7 hrel
   have hjc:=Di w.heap.size 9 A2 ca _ wr k HQ.out.len (by omega) HQ.out.own (by have:=HJL.out;omega)
   obtain ⟨jz,hjz⟩: ∃jz:ByteArray,(⟨(Cy.join [44,32] (ps.map Cy.bZ)).toArray⟩:ByteArray)=jz:=⟨_,rfl⟩
   rw [hjz] at hjc
   have hjs:jz.size≤6500000:=by rw [←hjz,aJ];exact HJL.out
   have HRF:=hq7 (show (⟨R.toArray⟩:ByteArray)=⟨#[32,123]⟩ ++ jz ++⟨#[125]⟩ by apply ByteArray.ext;rw [HF.out,←hjz];simp)
   have HJC:=hq7 hjc
   clear hjc hjz hrel hk
   have hq2:(⟨#[32,123]⟩ ++ jz:ByteArray).size≤6500002:=by rw [ByteArray.size_append];show 2+jz.size≤6500002;omega
   go_wp2_with fail
   refine HJC.out.mono ?_
   rintro e w4 ⟨rfl,hb4⟩
   have HBF:=hq7 (HQ.out.bel.trans (hb4.mono HQ.out.bel.size))
   clear hb4
   go_wp2
   go_ret
   exact ⟨by rw [HRF.out];rfl,HBF.out⟩
  | succ g=>
   have hkn:k<n:=by omega
   have hknI:(k:Int)<n:=by omega
   obtain ⟨p,hp⟩: ∃p,ps[k]?=some p:=⟨_,List.getElem?_eq_getElem (by rw [HN.out];exact hkn)⟩
   have hmt:=map_take hp Cy.bZ
   obtain ⟨LL,hLL⟩: ∃LL,(ps.take k).map Cy.bZ=LL:=⟨_,rfl⟩
   rw [hLL] at hrel hmt
   have HQ:=hq7 hrel
   have HMT:=hq7 hmt
   have hB:=HBw.out
   have hLB:=HH.out.below (HQ.out.bel.mono hB) (aB.below (HQ.out.bel.mono hB))
   obtain ⟨b,o,An,cn,At,ct,rfl,hbB,⟨c0,c1,c2,c3,c4,c5⟩,r1,r2⟩:=hLB.prop hp
   have hpp:=HS.out p (List.mem_of_getElem? hp)
   obtain ⟨z,hz⟩: ∃z:ByteArray,(⟨p.key.toArray⟩:ByteArray)=z:=⟨_,rfl⟩
   obtain ⟨zt,hzt⟩: ∃z:ByteArray,(⟨p.val.text.toArray⟩:ByteArray)=z:=⟨_,rfl⟩
   unfold ST at c0 c3
   rw [hz] at c0
   rw [hzt] at c3
   clear hp hk hkn hmt hLL hrel
   obtain ⟨W1,hW1⟩: ∃W1,wr.alloc (.cells #[.string z, .int .i64 p.val.kind, .int .i64 p.val.num, .string zt, .slice An p.val.nums.length cn, .slice At p.val.texts.length ct] 61)=W1:=⟨_,rfl⟩
   have hb1:Below wr.heap.size wr W1:=by rw [←hW1];exact (Below.refl _ wr).alloc (Nat.le_refl _) _
   have k1:Blk W1 wr.heap.size 61 #[.string z, .int .i64 p.val.kind, .int .i64 p.val.num, .string zt, .slice An p.val.nums.length cn, .slice At p.val.texts.length ct]:=by rw [←hW1];exact Blk.new _ _ _
   have hBr:B≤wr.heap.size:=Nat.le_trans hB HQ.out.bel.size
   have HQ1:=hq7 (HQ.out.below hb1)
   have hvin:=(jO (cn:=cn) (ct:=ct) hpp.ok.val r1 r2).below (hb1.mono hBr)
   unfold ST at hvin
   rw [hzt] at hvin
   have hcall:=D6 B _ p.val W1 hvin (Nat.le_trans hBr hb1.size) (HL.out.below HQ1.out.bel)
   rw [show Cy.kZ p.val=(Cy.lit p.val,0) by unfold Cy.kZ;rw [if_pos hpp.val]] at hcall
   obtain ⟨zl,hzl⟩: ∃zl:ByteArray,(⟨(Cy.lit p.val).toArray⟩:ByteArray)=zl:=⟨_,rfl⟩
   simp only at hcall
   rw [hzl] at hcall
   have HC:=hq7 hcall
   have HW1:=hq7 hW1
   have HK1:=hq7 k1
   have hzs:z.size≤40:=by rw [←hz,aJ];exact hpp.key
   have hzls:zl.size≤400000:=by rw [←hzl,aJ];exact D5 hpp.val hpp.ok.val.nums hpp.ok.val.num
   have HPS:=hq7 (show (⟨(Cy.bZ p).toArray⟩:ByteArray)=z ++⟨#[58,32]⟩ ++ zl by unfold Cy.bZ;apply ByteArray.ext;rw [←hz,←hzl];simp)
   have hq2:(z ++⟨#[58,32]⟩:ByteArray).size≤42:=by rw [ByteArray.size_append];show z.size+2≤42;omega
   clear hW1 hb1 k1 hvin hcall hz hzt hLB r1 r2 hBr hbB hpp hzl HQ
   go_upto_region 7 with fail
   rw [HW1.out]
   clear c0 c1 c2 c3 c4 c5 HW1
   obtain ⟨d0,d1,d2,d3,d4,d5⟩:=cells6 HK1.out
   go_wp2_with fail
   refine HC.out.mono ?_
   rintro e w3 ⟨rfl,hb3⟩
   have HQ3:=hq7 (HQ1.out.below hb3)
   have HK3:=hq7 (HK1.out.below hb3 HK1.out.lt)
   clear hb3 HQ1 d0 d1 d2 d3 d4 d5 HC
   obtain ⟨d0,d1,d2,d3,d4,d5⟩:=cells6 HK3.out
   have hbg:=HQ3.out.bel.size
   have hkl:k<1073741824:=by omega
   go_upto_region 8 with fail
   go_wp2_with (at_builtin;refine iD ?a1 (.tmp 23) (.tmp 29) 23 9 (.string ⟨#[]⟩) 16 ?a2 ?a3 ?a4 ?a5 ?a6 w.heap.size (.slice A2 k ca) k (LL.map ST) w3 ?a7 ?a8 (.string (z ++⟨#[58,32]⟩ ++ zl)) ?a9 ?a10 ?a11 ?a12 ?a13)
   case a2=>exact Tryz.underlying23
   case a3=>exact lV
   case a5=>decide
   case a8=>exact HQ3.out.own
   case a11=>exact hkl
   case a12=>exact hbg
   all_goals first | rfl | skip
   intro v9 w9 hown9 hgr9 hwh9 hb9
   obtain ⟨A9,c9,rfl⟩:=ak hown9
   have HNX:=hq7 (HQ3.out.next HPS.out hown9 hb9 HMT.out)
   clear hown9 hgr9 hwh9 hb9 d0 d1 d2 d3 d4 d5
   go_wp2
   go_roundg g
   case measure=>omega
   case rel=>exact ⟨k+1,c9,A9,int_eq (by omega),rfl,by have:=HK.out;omega,HNX.out⟩
theorem wS (sep:List UInt8): ∀l:List (List UInt8),(Cy.join sep l).length≤(l.map List.length).sum+sep.length*l.length
 | []=>by simp [Cy.join]
 | [a]=>by simp [Cy.join]
 | a :: b :: r=>by
  have ih:=wS sep (b :: r)
  rw [Cy.join,List.length_append,List.length_append,List.map_cons,List.sum_cons,List.length_cons,Nat.mul_add,Nat.mul_one]
  omega
theorem wU {α:Type} (f:α→Nat) (c:Nat): ∀l:List α,(∀a∈l,f a≤c)→(l.map f).sum≤c*l.length
 | [],_=>by simp
 | a :: r,h=>by
  have:=h a (by simp)
  have:=wU f c r fun x hx=>h x (List.mem_cons_of_mem _ hx)
  rw [List.map_cons,List.sum_cons,List.length_cons,Nat.mul_add,Nat.mul_one]
  omega
theorem Eu: ∀l:List Cel.L,(l.map fun t=>(Lex.quote t).length).sum≤2*(l.map fun t=>2+t.length).sum
  +2*(l.map fun t=>2+t.length).sum
 | []=>by simp
 | a :: r=>by
  have:=Eu r
  have:=Lex.sH a
  simp only [List.map_cons,List.sum_cons]
  omega
theorem Ew: ∀l:List Cel.L,2*l.length≤(l.map fun t=>2+t.length).sum
 | []=>by simp
 | a :: r=>by
  have:=Ew r
  simp only [List.map_cons,List.sum_cons,List.length_cons]
  omega
theorem Om {v:Cel.V} (h:Cel.check v=0) (hn: ∀n∈v.nums,Cel.In64 n) (h0:Cel.In64 v.num):(Cy.lit v).length≤7*Gr.dQ v+20:=by
 obtain ⟨p1,p2,p3,p4,p5,p6,p7,p8⟩:=Cel.jB h
 unfold Cel.Unused at p3
 simp only [not_or] at p3
 obtain ⟨u1,u2,u3,u4⟩:=p3
 have hs: ∀k n:Int,Cel.In64 n→k≤3→(Cy.scalar k n []).length≤24:=fun k n hn hk=>by
  have h1:=iT hn.1 hn.2
  have h2:=zK (Cel.u64 n)
  unfold Cy.scalar
  split
  ·split<;> decide
  ·split
   ·omega
   ·split
    ·omega
    ·decide
 unfold Cy.lit Gr.dQ
 by_cases h4:v.kind<4
 ·rw [if_pos (by omega),if_pos h4]
  have ht:v.text= []:=Decidable.not_not.1 fun e=>u2 ⟨e,by omega⟩
  have:=hs v.kind v.num h0 (by omega)
  rw [ht]
  split<;> omega
 by_cases h5:v.kind=4
 ·rw [if_pos (by omega),if_neg h4,if_pos h5]
  have:=Lex.sH v.text
  unfold Cy.scalar
  rw [if_neg (by omega),if_neg (by omega),if_neg (by omega)]
  omega
 rw [if_neg (by omega),if_neg h4,if_neg h5]
 have hw:=wu (v.kind - 4)
 have hj:=wS [44,32] (Cy.parts v)
 have hp:(Cy.parts v).length=v.nums.length+v.texts.length:=by unfold Cy.parts;rw [List.length_append,List.length_map,List.length_map]
 have hsum:((Cy.parts v).map List.length).sum+2*(Cy.parts v).length≤7*(v.nums.length*(if v.kind=5 then 1 else 8)+(v.texts.map fun t=>2+t.length).sum):=by
  rw [hp]
  unfold Cy.parts
  rw [List.map_append,List.sum_append,List.map_map,List.map_map]
  by_cases h8:v.kind=8
  ·have hnn:v.nums= []:=Decidable.not_not.1 fun e=>u3 ⟨e,by omega⟩
   rw [hnn]
   have e:(List.length ∘ fun t=>Cy.scalar (v.kind - 4) 0 t)=fun t=>(Lex.quote t).length:=by
    funext t
    show (Cy.scalar (v.kind - 4) 0 t).length=_
    unfold Cy.scalar
    rw [if_neg (by omega),if_neg (by omega),if_neg (by omega)]
   rw [e]
   have h1:=Eu v.texts
   have h2:=Ew v.texts
   simp only [List.map_nil,List.sum_nil,List.length_nil,Nat.zero_mul,Nat.zero_add]
   omega
  ·have htn:v.texts= []:=Decidable.not_not.1 fun e=>u4 ⟨e,by omega⟩
   rw [htn]
   simp only [List.map_nil,List.sum_nil,List.length_nil]
   by_cases h5:v.kind=5
   ·rw [if_pos h5]
    have:=wU (List.length ∘ fun n=>Cy.scalar (v.kind - 4) n []) 5 v.nums fun n _=>by
     show (Cy.scalar (v.kind - 4) n []).length≤5
     unfold Cy.scalar
     rw [if_pos (by omega)]
     split<;> decide
    omega
   ·rw [if_neg h5]
    have:=wU (List.length ∘ fun n=>Cy.scalar (v.kind - 4) n []) 24 v.nums fun n hm=>hs _ n (hn n hm) (by omega)
    omega
 simp only [List.length_append,List.length_cons,List.length_nil] at hj⊢
 split
 ·simp only [List.length_nil];omega
 ·simp only [List.length_cons];omega
theorem Ey: ∀ps:List Gr.P,(∀p∈ps,kS p)→(ps.map fun p=>(Cy.bZ p).length).sum≤62*ps.length+7*Gr.aG ps
 | [],_=>by simp
 | p :: r,h=>by
  have ih:=Ey r fun x hx=>h x (List.mem_cons_of_mem _ hx)
  have hp:=h p (by simp)
  have h1:=Om hp.val hp.ok.val.nums hp.ok.val.num
  have h2:=hp.key
  unfold Gr.aG at ih⊢
  simp only [List.map_cons,List.sum_cons,List.length_cons]
  have h3:(Cy.bZ p).length≤42+(7*Gr.dQ p.val+20):=by
   unfold Cy.bZ
   simp only [List.length_append,List.length_cons,List.length_nil]
   omega
  omega
theorem Ez {ps:List Gr.P} (hl:ps.length≤16) (h: ∀p∈ps,kS p):(Cy.fE ps).length≤1040+7*Gr.aG ps:=by
 have h1:=Ey ps h
 have h2:=wS [44,32] (ps.map Cy.bZ)
 rw [List.map_map,List.length_map] at h2
 unfold Cy.fE
 split
 ·simp
 ·have h3:(Cy.join [44,32] (ps.map Cy.bZ)).length≤(ps.map fun p=>(Cy.bZ p).length).sum+2*ps.length:=h2
  simp only [List.length_append,List.length_cons,List.length_nil]
  omega
structure EC (n:Gr.N):Prop where
 ok:NOk n
 pl:n.props.length≤16
 ps: ∀p∈n.props,kS p
 ll:n.labels.length≤8
 ls: ∀l∈n.labels,l.length≤40
structure ED (r:Gr.R):Prop where
 ok:ROk r
 tl:r.type.length≤40
 pl:r.props.length≤16
 ps: ∀p∈r.props,kS p
theorem wV {s:List UInt8} (h:Gr.aI s=true):s.length≤40:=by
 unfold Gr.aI at h
 simp only [Bool.and_eq_true,decide_eq_true_eq] at h
 exact h.1.1.2
theorem EF {ps:List Gr.P} (hg:Gr.iH ps) (hk: ∀p∈ps,POk p): ∀p∈ps,kS p:=fun p hp=>⟨hk p hp,wV (hg.name p hp),hg.val p hp⟩
theorem Good.node {g:Gr.G} (h:Gr.Good g) (ok:GOk g): ∀n∈g.nodes,EC n:=fun n hn=>by
 obtain ⟨_,hg⟩:=h.nodes.mem hn
 have hk:=ok.ns n hn
 refine ⟨hk,hg.props.len,EF hg.props hk.ps,hg.labels.len,fun l hl=> ?_⟩
 obtain ⟨j,hj,e⟩:=List.getElem_of_mem hl
 exact wV (hg.labels.all j l (by rw [List.getElem?_eq_getElem hj,e])).name
theorem Good.rel {g:Gr.G} (h:Gr.Good g) (ok:GOk g): ∀r∈g.ah,ED r:=fun r hr=>by
 obtain ⟨_,hg⟩:=h.ah.mem hr
 have hk:=ok.rs r hr
 exact ⟨hk,wV hg.name,hg.props.len,EF hg.props hk.ps⟩
theorem Oo {n:Gr.N} (h:EC n):(Cy.bM n).length≤1420+7*Gr.aG n.props:=by
 have h1:=iT h.ok.id.1 h.ok.id.2
 have h2:=Ez h.pl h.ps
 have h3:(n.labels.flatMap fun l=>58 :: l).length≤41*8:=by
  have:=Gr.nN (f:=fun l:List UInt8=>(58:UInt8) :: l) (l:=n.labels) (c:=41) fun l hl=>by have:=h.ls l hl;simp only [List.length_cons];omega
  have:=h.ll
  omega
 unfold Cy.bM Cy.fK
 simp only [List.length_append,List.length_cons,List.length_nil]
 omega
theorem Oq {r:Gr.R} (h:ED r):(Cy.dH r).length≤1184+7*Gr.aG r.props:=by
 have h1:=iT h.ok.id.1 h.ok.id.2
 have h2:=iT h.ok.src.1 h.ok.src.2
 have h3:=iT h.ok.dst.1 h.ok.dst.2
 have h4:=Ez h.pl h.ps
 have h5:=h.tl
 unfold Cy.dH Cy.fK
 simp only [List.length_append,List.length_cons,List.length_nil]
 omega
theorem wW {α:Type} (f:α→List UInt8) (q:α→List Gr.P) (c:Nat): ∀l:List α,(∀a∈l,(f a).length≤c+7*Gr.aG (q a))→(l.flatMap f).length≤c*l.length+7*Gr.aG (l.flatMap q)
 | [],_=>by simp
 | a :: r,h=>by
  have h1:=h a (by simp)
  have ih:=wW f q c r fun x hx=>h x (List.mem_cons_of_mem _ hx)
  unfold Gr.aG at h1 ih⊢
  rw [List.flatMap_cons,List.flatMap_cons,List.length_append,List.map_append,List.sum_append,List.length_cons,Nat.mul_add,Nat.mul_one]
  omega
theorem qU (g:Gr.G):Cy.print g=g.nodes.flatMap Cy.bM ++ g.ah.flatMap Cy.dH:=by
 unfold Cy.print Cy.lines
 rw [List.flatten_append,List.flatMap_def,List.flatMap_def]
theorem EH {g:Gr.G} (h:Gr.Good g) (ok:GOk g):(Cy.print g).length≤8388608:=by
 have h1:=wW Cy.bM Gr.N.props 1420 g.nodes fun n hn=>Oo (Good.node h ok n hn)
 have h2:=wW Cy.dH Gr.R.props 1184 g.ah fun n hn=>Oq (Good.rel h ok n hn)
 have h3:=h.nodes.len
 have h4:=h.ah.len
 have h5:=h.weight
 have h6:Gr.weight g=Gr.aG (g.nodes.flatMap Gr.N.props)+Gr.aG (g.ah.flatMap Gr.R.props):=by
  unfold Gr.weight Gr.bf Gr.aG
  rw [List.map_append,List.sum_append]
 rw [qU,List.length_append]
 omega
end Go.Proofs.YtoofbflplhbpbaaGreatDoor
