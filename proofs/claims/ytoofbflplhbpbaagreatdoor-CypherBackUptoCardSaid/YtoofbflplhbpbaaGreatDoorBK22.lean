/- Contracts and plain laws,part 22. -/
import Derived.Test.YtoofbflplhbpbaaGreatDoorBK21
set_option maxHeartbeats 64000000
set_option maxRecDepth 1000000
set_option linter.all false
namespace Go.Proofs.YtoofbflplhbpbaaGreatDoor
open Go.RowKit
theorem bG {w w':World} {B e k n b:Nat} {v:Value} {xs:List Value} (h:w.ownsRow B e k v n xs) (hg:w.grownBy w' (some b)) (hb:b<B):w'.ownsRow B e k v n xs:=
 h.kept hg (.inr fun e=>by have:=(dZ h b e).1;omega)
theorem gK.step {w w':World} {B b:Nat} {u:Value} {v:Cel.V} (h:gK w B u v) (hg:w.grownBy w' (some b)) (hb:b<B):gK w' B u v:=by
 obtain ⟨s,t,e,h1,h2⟩:=h.ex
 exact ⟨s,t,e,bG h1 hg hb,bG h2 hg hb⟩
structure dS (w:World) (b:Nat) (k:Int) (ns:List Int) (ts:List (List UInt8)) (V:World):Prop where
 ex: ∃s t,Blk V w.heap.size 25 #[.int .i64 k, .int .i64 0, .string ⟨#[]⟩,s,t]∧V.ownsRow (w.heap.size+1) 2 1 s ns.length (ns.map I64)∧V.ownsRow (w.heap.size+1) 9 1 t ts.length (ts.map ST)
 gr:w.grownBy V (some b)
theorem dS.step {w V V':World} {b:Nat} {k:Int} {ns:List Int} {ts:List (List UInt8)} (h:dS w b k ns ts V) (hb:b<w.heap.size) (hg:V.grownBy V' (some b)):dS w b k ns ts V':=by
 obtain ⟨s,t,h1,h2,h3⟩:=h.ex
 exact ⟨⟨s,t,h1.grown hg (fun e=>by have:=Option.some.inj e;omega),bG h2 hg (by omega),bG h3 hg (by omega)⟩,aT h.gr hg⟩
theorem RS.grown {q0:Nat×Nat} {b g:Nat} {l:List Lex.Tok} {w w':World} (h:RS q0 b l w) (hg:w.grownBy w' (some g)) (hlt:b<g):RS q0 b l w':=by
 obtain ⟨A,n,c,k,ts,hk,h1,h2,h3,h4,h5⟩:=h.ex
 have hb:Below b w w':=⟨hg.os,hg.tape,hg.output,hg.size,fun i hi=>hg.block i (by have:=hk.lt;omega) (fun e=>by have:=Option.some.inj e;omega)⟩
 exact ⟨⟨A,n,c,k,ts,hk.grown hg (fun e=>by have:=Option.some.inj e;omega),h1,h2,h3,h4,h5.below (hb.mono (Nat.min_le_left _ _))⟩,h.ok,by obtain ⟨A,c,v,ht⟩:=h.tot;exact ⟨A,c,v,ht.grown hg (fun e=>by have:=Option.some.inj e;omega)⟩⟩
theorem Blk.self5 {W:World} {g:Nat} {t:TypeId} {v0 v1 v2 v3 v4:Value} (h:Blk W g t #[v0,v1,v2,v3,v4]):
  Blk (((((W.setCell ⟨g,0,none⟩ v0).setCell ⟨g,1,none⟩ v1).setCell ⟨g,2,none⟩ v2).setCell ⟨g,3,none⟩ v3).setCell ⟨g,4,none⟩ v4) g t #[v0,v1,v2,v3,v4]:=by
 have:=((((h.ay 0 v0).ay 1 v1).ay 2 v2).ay 3 v3).ay 4 v4
 simpa using this
theorem kJ {w W:World} {g:Nat} (h:w.grownBy W (some g)) (i:Nat) (u:Value):w.grownBy (W.setCell ⟨g,i,none⟩ u) (some g):=aT h (grownBy_set W ⟨g,i,none⟩ u)
theorem qH {w W:World} {g:Nat} (h:w.grownBy W (some g)) (v0 v1 v2 v3 v4:Value):w.grownBy (((((W.setCell ⟨g,0,none⟩ v0).setCell ⟨g,1,none⟩ v1).setCell ⟨g,2,none⟩ v2).setCell ⟨g,3,none⟩ v3).setCell ⟨g,4,none⟩ v4) (some g):=
 kJ (kJ (kJ (kJ (kJ h 0 v0) 1 v1) 2 v2) 3 v3) 4 v4
theorem LG {q0:Nat×Nat} {b:Nat} {k n:Int} {x:List UInt8} {l r:List Lex.Tok} {w:World} (h:RS q0 b l w) (hm:Cy.mark [91] l=none) (hx:Cy.eX l=some ((k,n,x),r)):
  Calls Tryz.prog 205 #[.pointer (some ⟨b,0,none⟩)] w fun e w'=> ∃u,e= .returned u∧gK w' (w.heap.size+1) u ⟨k,n,x, [], []⟩∧RS q0 b r w'∧w.grownBy w' (some b):=by
 have hlt:=h.lt
 have hr1:=h.kept ((Below.refl _ w).alloc (Nat.le_refl _) (.cells #[.int .i64 0, .int .i64 0, .string ⟨#[]⟩, .slice none 0 0, .slice none 0 0] 25))
 obtain ⟨W1,hW1⟩: ∃W1,w.alloc (.cells #[.int .i64 0, .int .i64 0, .string ⟨#[]⟩, .slice none 0 0, .slice none 0 0] 25)=W1:=⟨_,rfl⟩
 rw [hW1] at hr1
 have k1:Blk W1 w.heap.size 25 #[.int .i64 0, .int .i64 0, .string ⟨#[]⟩, .slice none 0 0, .slice none 0 0]:=by rw [←hW1];exact Blk.new _ _ _
 have HG1:=hq7 (show w.grownBy W1 (some b) by rw [←hW1];exact jF (bF _ _) _)
 have HM:=hq7 (cZ (z:=⟨#[91]⟩) hr1 hm)
 have HW1:=hq7 hW1
 have HK1:=hq7 k1
 have HLT:=hq7 hlt
 have HX:=hq7 hx
 obtain ⟨zx,hzx⟩: ∃zx:ByteArray,(⟨x.toArray⟩:ByteArray)=zx:=⟨_,rfl⟩
 have HZX:=hq7 hzx
 clear h hr1 hm hx hW1 k1 hlt hzx
 go_enter Tryz.func205,Tryz.ntmps205
 go_upto_region 1 with fail
 rw [HW1.out]
 go_wp2_with fail
 refine HM.out.mono ?_
 rintro e w2 ⟨rfl,hr2,hg2⟩
 have HG2:=hq7 (aT HG1.out hg2)
 have HK2:=hq7 (HK1.out.grown hg2 (fun e=>by have:=Option.some.inj e;have:=HLT.out;omega))
 have hs:=CX hr2 HX.out
 rw [HZX.out] at hs
 have HS:=hq7 hs
 clear hr2 hg2 hs
 go_wp2_with fail
 refine HS.out.mono ?_
 rintro e w3 ⟨rfl,hr3,hg3⟩
 have HG3:=hq7 (aT HG2.out hg3)
 have HK3:=hq7 (HK2.out.grown hg3 (fun e=>by have:=Option.some.inj e;have:=HLT.out;omega))
 have HR3:=hq7 hr3
 clear hr3 hg3
 obtain ⟨a0,a1,a2,a3,a4,-⟩:=dG HK3.out
 have f0:=HK3.out.frozen 0
 have f1:=HK3.out.frozen 1
 have f2:=HK3.out.frozen 2
 have f3:=HK3.out.frozen 3
 have f4:=HK3.out.frozen 4
 go_wp2
 have hk4:=((HK3.out.ay 0 (.int .i64 k)).ay 1 (.int .i64 n)).ay 2 (.string zx)
 simp at hk4
 have hg5:=qH (kJ (kJ (kJ (bF w3 (some w.heap.size)) 0 (.int .i64 k)) 1 (.int .i64 n)) 2 (.string zx)) (.int .i64 k) (.int .i64 n) (.string zx) (.slice none 0 0) (.slice none 0 0)
 refine ret_val rfl rfl hk4.self5 ⟨_,rfl,⟨.slice none 0 0, .slice none 0 0,by rw [←HZX.out],World.ownsRow_nil _ _ _ _,World.ownsRow_nil _ _ _ _⟩,HR3.out.grown hg5 HLT.out,jf HG3.out hg5 (fun i hi=>by cases hi;exact Nat.le_refl _)⟩
def vw (q0:Nat×Nat) (b:Nat) (w:World) (o:Option (Cel.V×List Lex.Tok)) (e:Ending) (w':World):Prop:=
 w.grownBy w' (some b)∧match o with
  | none=>e= .panicked SYN
  | some (v,r)=> ∃u,e= .returned u∧gK w' (w.heap.size+1) u v∧RS q0 b r w'
theorem dS.nums {w V V':World} {b:Nat} {k n:Int} {ns:List Int} {ts:List (List UInt8)} {s t v:Value} (h:dS w b k ns ts V) (hb:b<w.heap.size)
  (hk:Blk V w.heap.size 25 #[.int .i64 k, .int .i64 0, .string ⟨#[]⟩,s,t]) (hs:V.ownsRow (w.heap.size+1) 2 1 s ns.length (ns.map I64)) (ht:V.ownsRow (w.heap.size+1) 9 1 t ts.length (ts.map ST))
  (hown:V'.ownsRow (w.heap.size+1) 2 1 v (ns.length+1) (ns.map I64 ++ [I64 n])) (hg:V.grownBy V' s.ownBlock) (hbl:Below (w.heap.size+1) V V'):dS w b k (ns ++ [n]) ts (V'.setCell ⟨w.heap.size,3,none⟩ v):=by
 have hne:some w.heap.size≠s.ownBlock:=fun e=>by have:=(dZ hs _ e.symm).1;omega
 have hset:=grownBy_set V' ⟨w.heap.size,3,none⟩ v
 have hk':=(hk.grown hg hne).ay 3 v
 simp at hk'
 refine ⟨⟨v,t,hk', ?_, ?_⟩, ?_⟩
 ·have:=bG hown hset (Nat.lt_succ_self _)
  rw [List.length_append,List.map_append]
  exact this
 ·refine bG (aP ht hg fun g c t' fz hr hc=> ?_) hset (Nat.lt_succ_self _)
  obtain ⟨-,c',hc'⟩:=dZ hs g hr
  rw [hc'] at hc
  cases hc
  decide
 ·have h1:w.grownBy V' (some b):=⟨hbl.os.trans h.gr.os,hbl.tape.trans h.gr.tape,hbl.output.trans h.gr.output,Nat.le_trans h.gr.size hbl.size,fun i hi hne=>(hbl.block i (by omega)).trans (h.gr.block i hi hne)⟩
  exact jf h1 hset (fun i e=>by cases e;exact Nat.le_refl _)
theorem dS.texts {w V V':World} {b:Nat} {k:Int} {x:List UInt8} {ns:List Int} {ts:List (List UInt8)} {s t v:Value} (h:dS w b k ns ts V) (hb:b<w.heap.size)
  (hk:Blk V w.heap.size 25 #[.int .i64 k, .int .i64 0, .string ⟨#[]⟩,s,t]) (hs:V.ownsRow (w.heap.size+1) 2 1 s ns.length (ns.map I64)) (ht:V.ownsRow (w.heap.size+1) 9 1 t ts.length (ts.map ST))
  (hown:V'.ownsRow (w.heap.size+1) 9 1 v (ts.length+1) (ts.map ST ++ [ST x])) (hg:V.grownBy V' t.ownBlock) (hbl:Below (w.heap.size+1) V V'):dS w b k ns (ts ++ [x]) (V'.setCell ⟨w.heap.size,4,none⟩ v):=by
 have hne:some w.heap.size≠t.ownBlock:=fun e=>by have:=(dZ ht _ e.symm).1;omega
 have hset:=grownBy_set V' ⟨w.heap.size,4,none⟩ v
 have hk':=(hk.grown hg hne).ay 4 v
 simp at hk'
 refine ⟨⟨s,v,hk', ?_, ?_⟩, ?_⟩
 ·refine bG (aP hs hg fun g c t' fz hr hc=> ?_) hset (Nat.lt_succ_self _)
  obtain ⟨-,c',hc'⟩:=dZ ht g hr
  rw [hc'] at hc
  cases hc
  decide
 ·have:=bG hown hset (Nat.lt_succ_self _)
  rw [List.length_append,List.map_append]
  exact this
 ·have h1:w.grownBy V' (some b):=⟨hbl.os.trans h.gr.os,hbl.tape.trans h.gr.tape,hbl.output.trans h.gr.output,Nat.le_trans h.gr.size hbl.size,fun i hi hne=>(hbl.block i (by omega)).trans (h.gr.block i hi hne)⟩
  exact jf h1 hset (fun i e=>by cases e;exact Nat.le_refl _)
theorem dS.cells {w V:World} {b:Nat} {k:Int} {ns:List Int} {ts:List (List UInt8)} (h:dS w b k ns ts V): ∃A1 c1 A2 c2,Blk V w.heap.size 25 #[.int .i64 k, .int .i64 0, .string ⟨#[]⟩, .slice A1 ns.length c1, .slice A2 ts.length c2]∧
  V.ownsRow (w.heap.size+1) 2 1 (.slice A1 ns.length c1) ns.length (ns.map I64)∧V.ownsRow (w.heap.size+1) 9 1 (.slice A2 ts.length c2) ts.length (ts.map ST):=by
 obtain ⟨s,t,h1,h2,h3⟩:=h.ex
 obtain ⟨A1,c1,rfl⟩:=ak h2
 obtain ⟨A2,c2,rfl⟩:=ak h3
 exact ⟨A1,c1,A2,c2,h1,h2,h3⟩
theorem dS.kind {w V:World} {b:Nat} {k:Int} {ns:List Int} {ts:List (List UInt8)} (h:dS w b k ns ts V) (k':Int):dS w b k' ns ts (V.setCell ⟨w.heap.size,0,none⟩ (.int .i64 k')):=by
 obtain ⟨s,t,h1,h2,h3⟩:=h.ex
 have hset:=grownBy_set V ⟨w.heap.size,0,none⟩ (.int .i64 k')
 have hk:=h1.ay 0 (.int .i64 k')
 simp at hk
 exact ⟨⟨s,t,hk,bG h2 hset (Nat.lt_succ_self _),bG h3 hset (Nat.lt_succ_self _)⟩,jf h.gr hset (fun i e=>by cases e;exact Nat.le_refl _)⟩
theorem dS.told {q0:Nat×Nat} {w V W:World} {b:Nat} {k:Int} {ns:List Int} {ts:List (List UInt8)} {s t:Value} {r:List Lex.Tok} (h:dS w b k ns ts V) (hb:b<w.heap.size) (hr:RS q0 b r V)
  (h2:V.ownsRow (w.heap.size+1) 2 1 s ns.length (ns.map I64)) (h3:V.ownsRow (w.heap.size+1) 9 1 t ts.length (ts.map ST)) (hg:V.grownBy W (some w.heap.size)):
  vw q0 b w (some (⟨k,0, [],ns,ts⟩,r)) (.returned (.agg #[.int .i64 k, .int .i64 0, .string ⟨#[]⟩,s,t])) W:=
 ⟨jf h.gr hg (fun i e=>by cases e;exact Nat.le_refl _),_,rfl,⟨s,t,rfl,bG h2 hg (Nat.lt_succ_self _),bG h3 hg (Nat.lt_succ_self _)⟩,hr.grown hg hb⟩
theorem RS.len {q0:Nat×Nat} {b:Nat} {l:List Lex.Tok} {w:World} (h:RS q0 b l w):l.length≤16777216:=by
 obtain ⟨A,n,c,k,ts,hk,h1,h2,h3,h4,h5⟩:=h.ex
 rw [←h2,List.length_drop]
 omega
theorem RS.below {q0:Nat×Nat} {b B:Nat} {l:List Lex.Tok} {w w':World} (h:RS q0 b l w) (hb:Below B w w') (hlt:b<B):RS q0 b l w':=by
 obtain ⟨A,n,c,k,ts,hk,h1,h2,h3,h4,h5⟩:=h.ex
 exact ⟨⟨A,n,c,k,ts,hk.below hb hlt,h1,h2,h3,h4,h5.below (hb.mono (by omega))⟩,h.ok,by obtain ⟨A,c,v,ht⟩:=h.tot;exact ⟨A,c,v,ht.below hb hlt⟩⟩
theorem LH {x:List UInt8} {j:Int} (h1:1≤j) (h4:j≤4) (hj:Cy.word j=x) (hn: ∀i:Int,1≤i→i<j→Cy.word i≠x):Cy.kindOf x=j:=by
 subst hj
 exact Cy.Ak h1 h4
theorem LM {x:List UInt8} (hn: ∀i:Int,1≤i→i≤4→Cy.word i≠x):Cy.kindOf x=0:=by
 unfold Cy.kindOf
 rw [if_neg (fun e=>hn 1 (by omega) (by omega) e.symm),if_neg (fun e=>hn 2 (by omega) (by omega) e.symm),if_neg (fun e=>hn 3 (by omega) (by omega) e.symm),if_neg (fun e=>hn 4 (by omega) (by omega) e.symm)]
theorem LP {q0:Nat×Nat} {b:Nat} {l r1:List Lex.Tok} {w:World} (h:RS q0 b l w) (hm:Cy.mark [91] l=some r1):
  Calls Tryz.prog 205 #[.pointer (some ⟨b,0,none⟩)] w (vw q0 b w (Cy.gy l)):=by
 obtain ⟨o,ho⟩: ∃o,Cy.gy l=o:=⟨_,rfl⟩
 rw [ho]
 unfold Cy.gy at ho
 rw [hm] at ho
 try simp only at ho
 have hlt:=h.lt
 have hr1:=h.kept ((Below.refl _ w).alloc (Nat.le_refl _) (.cells #[.int .i64 0, .int .i64 0, .string ⟨#[]⟩, .slice none 0 0, .slice none 0 0] 25))
 obtain ⟨W1,hW1⟩: ∃W1,w.alloc (.cells #[.int .i64 0, .int .i64 0, .string ⟨#[]⟩, .slice none 0 0, .slice none 0 0] 25)=W1:=⟨_,rfl⟩
 rw [hW1] at hr1
 have HL1:=hq7 (show dS w b 0 [] [] W1 by rw [←hW1];exact ⟨⟨_,_,Blk.new _ _ _,World.ownsRow_nil _ _ _ _,World.ownsRow_nil _ _ _ _⟩,jF (bF _ _) _⟩)
 have HM:=hq7 (dJ (z:=⟨#[91]⟩) hr1 hm)
 have HW1:=hq7 hW1
 have HLT:=hq7 hlt
 have HO:=hq7 ho
 have hu:=eu
 clear h hr1 hm hW1 hlt ho
 go_enter Tryz.func205,Tryz.ntmps205
 go_upto_region 1 with fail
 rw [HW1.out]
 go_wp2_with fail
 refine HM.out.mono ?_
 rintro e w2 ⟨rfl,hr2,hg2⟩
 have HL2:=hq7 (HL1.out.step HLT.out hg2)
 have HR2:=hq7 hr2
 clear hr2 hg2 HL1 HM HW1
 cases hc:Cy.mark [58] r1 with
 | none=>
  have HM:=hq7 (cZ (z:=⟨#[58]⟩) HR2.out hc)
  have ho:=HO.out
  rw [hc] at ho
  have HOF:=hq7 ho
  clear hc ho
  go_wp2_with fail
  refine HM.out.mono ?_
  rintro e w3 ⟨rfl,hr3,hg3⟩
  have HG:=hq7 (HL2.out.step HLT.out hg3).gr
  clear hr3 hg3
  go_wp2_with fail
  refine (dX _ _).mono ?_
  rintro e w4 ⟨rfl,rfl⟩
  exact ⟨rfl,HG.out,by rw [←HOF.out]⟩
 | some r2=>
  have HM:=hq7 (dJ (z:=⟨#[58]⟩) HR2.out hc)
  have ho:=HO.out
  rw [hc] at ho
  have HOF:=hq7 ho
  clear hc ho
  go_wp2_with fail
  refine HM.out.mono ?_
  rintro e w3 ⟨rfl,hr3,hg3⟩
  have HL3:=hq7 (HL2.out.step HLT.out hg3)
  have HR3:=hq7 hr3
  clear hr3 hg3 HL2 HR2
  go_wp2_with fail
  refine (dR _ _).mono ?_
  rintro e w4 ⟨rfl,rfl⟩
  cases hc:Cy.bT r2 with
  | none=>
   have HM:=hq7 (lH HR3.out hc)
   have ho:=HOF.out
   try simp only at ho
   rw [hc] at ho
   have HOF:=hq7 ho
   clear hc ho
   go_wp2_with fail
   refine HM.out.mono ?_
   rintro e w5 ⟨rfl,hg⟩
   exact ⟨rfl,(HL3.out.step HLT.out hg).gr,by rw [←HOF.out]⟩
  | some xr=>
   obtain ⟨x,r3⟩:=xr
   have hwd:=lG HR3.out hc
   obtain ⟨zx,hzx⟩: ∃zx:ByteArray,(⟨x.toArray⟩:ByteArray)=zx:=⟨_,rfl⟩
   rw [hzx] at hwd
   have HM:=hq7 hwd
   have HZX:=hq7 (show zx.data.toList=x by rw [←hzx])
   have ho:=HOF.out
   try simp only at ho
   rw [hc] at ho
   try simp only at ho
   have HOG:=hq7 ho
   clear hc ho hwd hzx HOF
   go_wp2_with fail
   refine HM.out.mono ?_
   rintro e w5 ⟨rfl,hr5,hg5⟩
   have HL5:=hq7 (HL3.out.step HLT.out hg5)
   have HR5:=hq7 hr5
   clear hr5 hg5 HL3 HR3 HM
   go_upto_block 0 with fail
   go_cut [4] (fun s4 wx=> ∃j:Nat,s4= .int .i64 (j:Nat)∧1≤j∧j≤4∧Hid (∀i:Int,1≤i→i<j→Cy.word i≠x)∧(j=4∨Cy.word j=x)∧w5=wx)
   case first=>
    go_wp2_with fail
    go_loopg [4] 4 (fun g s4 wr=> ∃j:Nat,s4= .int .i64 (j:Nat)∧1≤j∧j+g=5∧j≤4∧Hid (∀i:Int,1≤i→i<j→Cy.word i≠x)∧w5=wr)
    case atStart=>exact ⟨1,rfl,by omega,by omega,by omega,fun i h1 h2=>by omega,rfl⟩
    case round=>
     obtain ⟨j,rfl,hj1,hjg,hj4,HJ,rfl⟩:=hrel
     obtain ⟨zk,hzk⟩: ∃zk:ByteArray,(⟨(Cy.word j).toArray⟩:ByteArray)=zk:=⟨_,rfl⟩
     have hzkd:zk.data.toList=Cy.word j:=by rw [←hzk]
     have hkw:=uZ j w5 ⟨by omega,by omega⟩
     rw [hzk] at hkw
     have HKW:=hq7 hkw
     clear hkw hzk
     by_cases hlt:j<4
     ·have t0:decide (j<4)=true:=decide_eq_true hlt
      have hlti:(j:Int)<4:=by omega
      by_cases hw:Cy.word j=x
      ·have t1:(zk.toList == zx.toList)=true:=beq_iff_eq.2 (by rw [Lib.toList_data,Lib.toList_data,hzkd,HZX.out];exact hw)
       have HW:=hq7 hw
       clear hzkd hw
       go_wp2_with fail
       refine HKW.out.mono ?_
       rintro e w6 ⟨rfl,rfl⟩
       go_wp2_with fail
       go_meet
       exact ⟨j,rfl,hj1,hj4,HJ, .inr HW.out,rfl⟩
      ·have t1:(zk.toList == zx.toList)=false:=beq_eq_false_iff_ne.2 (by rw [Lib.toList_data,Lib.toList_data,hzkd,HZX.out];exact hw)
       have HNX:Hid (∀i:Int,1≤i→i<((j+1:Nat):Int)→Cy.word i≠x):=fun i h1 h2=>by
        by_cases e:i=j
        ·subst e;exact hw
        ·exact HJ i h1 (by omega)
       clear hzkd hw HJ
       go_wp2_with fail
       refine HKW.out.mono ?_
       rintro e w6 ⟨rfl,rfl⟩
       go_wp2
       go_roundg (4 - j)
       case measure=>omega
       case rel=>exact ⟨j+1,int_eq (by omega),by omega,by omega,by omega,HNX,rfl⟩
     ·have t0:decide (j<4)=false:=decide_eq_false hlt
      have hlti:(4:Int)≤j:=by omega
      clear hzkd
      go_wp2_with fail
      go_meet
      exact ⟨j,rfl,hj1,hj4,HJ, .inl (by omega),rfl⟩
   case rest=>
   obtain ⟨j,rfl,hj1,hj4,HJ,hje,rfl⟩:=hcut
   obtain ⟨zk,hzk⟩: ∃zk:ByteArray,(⟨(Cy.word j).toArray⟩:ByteArray)=zk:=⟨_,rfl⟩
   have hzkd:zk.data.toList=Cy.word j:=by rw [←hzk]
   have hkw:=uZ j w5 ⟨by omega,by omega⟩
   rw [hzk] at hkw
   have HKW:=hq7 hkw
   clear hkw hzk
   by_cases hw:Cy.word j=x
   case neg=>
    have t1:(zk.toList == zx.toList)=false:=beq_eq_false_iff_ne.2 (by rw [Lib.toList_data,Lib.toList_data,hzkd,HZX.out];exact hw)
    obtain rfl:j=4:=hje.resolve_right hw
    have hk0:Cy.kindOf x=0:=LM fun i h1 h2=>by
     by_cases e:i=4
     ·subst e;exact hw
     ·exact HJ i h1 (by omega)
    have ho:=HOG.out
    rw [hk0,if_pos rfl] at ho
    have HOF:=hq7 ho
    clear hzkd hw hk0 ho hje HJ
    go_wp2_with fail
    refine HKW.out.mono ?_
    rintro e w6 ⟨rfl,rfl⟩
    go_wp2_with fail
    refine (dX _ _).mono ?_
    rintro e w7 ⟨rfl,rfl⟩
    exact ⟨rfl,HL5.out.gr,by rw [←HOF.out]⟩
   have t1:(zk.toList == zx.toList)=true:=beq_iff_eq.2 (by rw [Lib.toList_data,Lib.toList_data,hzkd,HZX.out];exact hw)
   have hk0:Cy.kindOf x=j:=LH (by omega) (by omega) hw HJ
   have ho:=HOG.out
   rw [hk0,if_neg (by omega)] at ho
   have HOF:=hq7 ho
   clear hzkd hw hk0 ho hje HJ HOG
   go_wp2_with fail
   refine HKW.out.mono ?_
   rintro e w6 ⟨rfl,rfl⟩
   go_wp2_with fail
   refine (dR _ _).mono ?_
   rintro e w7 ⟨rfl,rfl⟩
   obtain ⟨W6,hW6⟩: ∃W6,w5.setCell ⟨w.heap.size,0,none⟩ (.int .i64 ((j:Int)+4))=W6:=⟨_,rfl⟩
   obtain ⟨K,hK⟩: ∃K:Int,(j:Int)+4=K:=⟨_,rfl⟩
   have HL6:=hq7 (show dS w b K [] [] W6 by rw [←hW6,←hK];exact HL5.out.kind _)
   have HR6:=hq7 (show RS q0 b r3 W6 by rw [←hW6];exact HR5.out.grown (grownBy_set w5 ⟨w.heap.size,0,none⟩ _) HLT.out)
   have HW6:=hq7 hW6
   have HKJ:=hq7 hK
   obtain ⟨A1,cc1,A2,cc2,hbk,-,-⟩:=HL5.out.cells
   obtain ⟨a0,a1,a2,a3,a4,f0,f1,f2,f3,f4⟩:=dG hbk
   have ho:=HOF.out
   rw [hK] at ho
   have HO:=hq7 ho
   clear hbk hW6 ho HOF hK
   go_upto_region 11 with fail
   rw [HW6.out]
   clear a0 a1 a2 a3 a4 f0 f1 f2 f3 f4 HL5 HR5
   cases hc:Cy.mark [93] r3 with
   | some r4=>
    have HM:=hq7 (dJ (z:=⟨#[93]⟩) HR6.out hc)
    have ho:=HO.out
    rw [hc] at ho
    have HOF:=hq7 ho
    clear hc ho HO
    go_wp2_with fail
    refine HM.out.mono ?_
    rintro e w8 ⟨rfl,hr8,hg8⟩
    have HR8:=hq7 hr8
    have HL8:=hq7 (HL6.out.step HLT.out hg8)
    clear hr8 hg8 HM HL6 HR6
    obtain ⟨A1,cc1,A2,cc2,hbk,hn8,ht8⟩:=HL8.out.cells
    obtain ⟨a0,a1,a2,a3,a4,f0,f1,f2,f3,f4⟩:=dG hbk
    have HBK:=hq7 hbk
    have HN8:=hq7 hn8
    have HT8:=hq7 ht8
    clear hbk hn8 ht8
    go_wp2
    exact ret_val rfl rfl (tK HBK.out _ _ _ _ _) (by rw [←HOF.out];exact HL8.out.told HLT.out HR8.out HN8.out HT8.out (tN _ _ _ _ _ _ _))
   | none=>
   have HM:=hq7 (cZ (z:=⟨#[93]⟩) HR6.out hc)
   have ho:=HO.out
   rw [hc] at ho
   have HOF:=hq7 ho
   clear hc ho HO
   go_wp2_with fail
   refine HM.out.mono ?_
   rintro e w8 ⟨rfl,hr8,hg8⟩
   have HR8:=hq7 hr8
   have HL8:=hq7 (HL6.out.step HLT.out hg8)
   clear hr8 hg8 HM HL6 HR6
   obtain ⟨E,hE⟩: ∃E,Cy.elems (j:Int) (r3.length+1) r3 [] []=E:=⟨_,rfl⟩
   have ho:=HOF.out
   try simp only at ho
   rw [hE] at ho
   have HO:=hq7 ho
   have HE0:=hq7 hE
   clear ho hE HOF
   go_wp2_with fail
   go_loopg [5] (r3.length+1) (fun g x5 wr=> ∃l' ns ts,RS q0 b l' wr∧dS w b K ns ts wr∧l'.length<g∧Hid (Cy.elems (j:Int) g l' ns ts=E)∧ns.length+l'.length≤16777216∧ts.length+l'.length≤16777216)
   case atStart=>exact ⟨r3, [], [],HR8.out,HL8.out,by omega,HE0.out,by have:=HR8.out.len;simp;omega,by have:=HR8.out.len;simp;omega⟩
   case round=>
    obtain ⟨l',ns,ts,hr,hl,hlg,HE,hnl,htl⟩:=hrel
    have HR:=hq7 hr
    have HL:=hq7 hl
    have HNL:=hq7 hnl
    have HTL:=hq7 htl
    clear hr hl hnl htl HE0 HR8 HL8
    cases gk with
    | zero=>omega
    | succ f=>
    have he:_=E:=HE
    rw [Cy.elems] at he
    cases hs:Cy.eX l' with
    | none=>
     have HS:=hq7 (CY HR.out hs)
     rw [hs] at he
     have HOF:=hq7 (show none=o by rw [←HO.out,←he];rfl)
     clear hs he HE hlg
     go_wp2_with fail
     refine HS.out.mono ?_
     rintro e w9 ⟨rfl,hg⟩
     exact ⟨rfl,(HL.out.step HLT.out hg).gr,by rw [←HOF.out]⟩
    | some q=>
    obtain ⟨⟨k1,n1,t1⟩,l1⟩:=q
    rw [hs] at he
    have HLL:=hq7 (show l1.length+1=l'.length from (Cy.uK hs HR.out.ok).2.2.2.2.2)
    have hsc:=CX HR.out hs
    obtain ⟨zt,hzt⟩: ∃zt:ByteArray,(⟨t1.toArray⟩:ByteArray)=zt:=⟨_,rfl⟩
    rw [hzt] at hsc
    have HS:=hq7 hsc
    have HZT:=hq7 hzt
    have HE1:=hq7 he
    have HLG:=hq7 hlg
    clear hs he HE hsc hzt hlg
    go_wp2_with fail
    refine HS.out.mono ?_
    rintro e w9 ⟨rfl,hr9,hg9⟩
    have HR9:=hq7 hr9
    have HL9:=hq7 (HL.out.step HLT.out hg9)
    clear hr9 hg9 HR HL HS
    by_cases hk:k1=(j:Int)
    case neg=>
     have tk:(k1 ==(j:Nat))=false:=beq_eq_false_iff_ne.2 hk
     have HOF:=hq7 (show none=o by rw [←HO.out,←HE1.out,if_pos hk];rfl)
     clear hk
     go_wp2_with fail
     refine (dX _ _).mono ?_
     rintro e w10 ⟨rfl,rfl⟩
     exact ⟨rfl,HL9.out.gr,by rw [←HOF.out]⟩
    subst hk
    have he:=HE1.out
    rw [if_neg (by simp)] at he
    have HE2:=hq7 he
    have tk:((j:Int) ==(j:Nat))=true:=beq_self_eq_true _
    clear he HE1
    go_wp2_with fail
    refine (dR _ _).mono ?_
    rintro e w10 ⟨rfl,rfl⟩
    go_upto_if 61 with fail
    go_cut [5] (fun s5 wx=>dS w b K (if (j:Int)=4 then ns else ns ++ [n1]) (if (j:Int)=4 then ts ++ [t1] else ts) wx∧RS q0 b l1 wx)
    case first=>
     obtain ⟨A1,cc1,A2,cc2,hbk,hn8,ht8⟩:=HL9.out.cells
     obtain ⟨a0,a1,a2,a3,a4,f0,f1,f2,f3,f4⟩:=dG hbk
     have hsz:w.heap.size+1≤w9.heap.size:=hbk.lt
     have HBK:=hq7 hbk
     have HN8:=hq7 hn8
     have HT8:=hq7 ht8
     obtain ⟨nl,hnl⟩: ∃n,ns.length=n:=⟨_,rfl⟩
     obtain ⟨tl,htl⟩: ∃n,ts.length=n:=⟨_,rfl⟩
     rw [hnl] at a3 HN8
     rw [htl] at a4 HT8
     have hnl2:nl<1073741824:=by have:=HNL.out;omega
     have htl2:tl<1073741824:=by have:=HTL.out;omega
     have HNE:=hq7 hnl
     have HTE:=hq7 htl
     clear hbk hn8 ht8 hnl htl
     by_cases h4:(j:Int)=4
     ·have t4:((j:Int) == 4)=true:=beq_iff_eq.2 h4
      have HH4:=hq7 h4
      clear h4
      go_wp2_with (at_builtin;refine iD rfl (.tmp 63) (.tmp 65) 23 9 (.string ⟨#[]⟩) 16 Tryz.underlying23 lV rfl (by decide) rfl (w.heap.size+1) (.slice A2 tl cc2) tl _ w9 rfl HT8.out (.string zt) rfl rfl htl2 hsz ?_)
      intro v9 w11 hown9 hgr9 hwh9 hb9
      obtain ⟨A9,c9,rfl⟩:=ak hown9
      have hbe:Below (w.heap.size+1) w9 w11:=hb9
      have hk11:=HBK.out.below hbe (Nat.lt_succ_self _)
      have g4:=hk11.frozen 4
      have e4:w11.cell? ⟨w.heap.size,4,none⟩=some (.slice A2 ts.length cc2):=hk11.cell 4
      have HL11:=hq7 (HL9.out.texts HLT.out (x:=t1) (v:= .slice A9 (tl+1) c9) HBK.out (by rw [HNE.out];exact HN8.out) (by rw [HTE.out];exact HT8.out) (by rw [HTE.out,show ST t1= .string zt by rw [←HZT.out];rfl];exact hown9) (by rw [HTE.out];exact hgr9) hbe)
      have HR11:=hq7 ((HR9.out.below hbe (by have:=HLT.out;omega)).grown (grownBy_set w11 ⟨w.heap.size,4,none⟩ (.slice A9 (tl+1) c9)) HLT.out)
      clear hown9 hgr9 hwh9 hb9 hbe hk11 a0 a1 a2 a3 a4 f0 f1 f2 f3 f4
      go_wp2_with fail
      go_meet
      rw [if_pos HH4.out,if_pos HH4.out]
      exact ⟨HL11.out,HR11.out⟩
     ·have t4:((j:Int) == 4)=false:=beq_eq_false_iff_ne.2 h4
      have HH4:=hq7 h4
      clear h4
      go_wp2_with (at_builtin;refine iD rfl (.tmp 69) (.tmp 71) 22 2 (.int .i64 0) 8 Tryz.underlying22 zF rfl (by decide) rfl (w.heap.size+1) (.slice A1 nl cc1) nl _ w9 rfl HN8.out (.int .i64 n1) rfl rfl hnl2 hsz ?_)
      intro v9 w11 hown9 hgr9 hwh9 hb9
      obtain ⟨A9,c9,rfl⟩:=ak hown9
      have hbe:Below (w.heap.size+1) w9 w11:=hb9
      have hk11:=HBK.out.below hbe (Nat.lt_succ_self _)
      have g4:=hk11.frozen 3
      have e4:w11.cell? ⟨w.heap.size,3,none⟩=some (.slice A1 ns.length cc1):=hk11.cell 3
      have HL11:=hq7 (HL9.out.nums HLT.out (n:=n1) (v:= .slice A9 (nl+1) c9) HBK.out (by rw [HNE.out];exact HN8.out) (by rw [HTE.out];exact HT8.out) (by rw [HNE.out];exact hown9) (by rw [HNE.out];exact hgr9) hbe)
      have HR11:=hq7 ((HR9.out.below hbe (by have:=HLT.out;omega)).grown (grownBy_set w11 ⟨w.heap.size,3,none⟩ (.slice A9 (nl+1) c9)) HLT.out)
      clear hown9 hgr9 hwh9 hb9 hbe hk11 a0 a1 a2 a3 a4 f0 f1 f2 f3 f4
      go_wp2_with fail
      go_meet
      rw [if_neg HH4.out,if_neg HH4.out]
      exact ⟨HL11.out,HR11.out⟩
    case rest=>
    obtain ⟨hl,hr⟩:=hcut
    have he:=HE2.out
    have hnl:(if (j:Int)=4 then ns else ns ++ [n1]).length+l1.length≤16777216:=by have:=HNL.out;have:=HLL.out;split<;> simp<;> omega
    have htl:(if (j:Int)=4 then ts ++ [t1] else ts).length+l1.length≤16777216:=by have:=HTL.out;have:=HLL.out;split<;> simp<;> omega
    obtain ⟨ns2,hns2⟩: ∃x,(if (j:Int)=4 then ns else ns ++ [n1])=x:=⟨_,rfl⟩
    obtain ⟨ts2,hts2⟩: ∃x,(if (j:Int)=4 then ts ++ [t1] else ts)=x:=⟨_,rfl⟩
    rw [hns2] at hl hnl he
    rw [hts2] at hl htl he
    have HL:=hq7 hl
    have HR:=hq7 hr
    have HNL2:=hq7 hnl
    have HTL2:=hq7 htl
    have HE3:=hq7 he
    clear hl hr hnl htl he hns2 hts2 HE2 HL9 HR9
    cases hc:Cy.mark [93] l1 with
    | some l2=>
     have HM:=hq7 (dJ (z:=⟨#[93]⟩) HR.out hc)
     have he:=HE3.out
     rw [hc] at he
     have HOF:=hq7 (show some (⟨K,0, [],ns2,ts2⟩,l2)=o by rw [←HO.out,←he];rfl)
     clear hc he
     go_wp2_with fail
     refine HM.out.mono ?_
     rintro e w12 ⟨rfl,hr8,hg8⟩
     have HR8:=hq7 hr8
     have HL8:=hq7 (HL.out.step HLT.out hg8)
     clear hr8 hg8 HM HL HR
     obtain ⟨A1,cc1,A2,cc2,hbk,hn8,ht8⟩:=HL8.out.cells
     obtain ⟨a0,a1,a2,a3,a4,f0,f1,f2,f3,f4⟩:=dG hbk
     have HBK:=hq7 hbk
     have HN8:=hq7 hn8
     have HT8:=hq7 ht8
     clear hbk hn8 ht8
     go_wp2
     exact ret_val rfl rfl (tK HBK.out _ _ _ _ _) (by rw [←HOF.out];exact HL8.out.told HLT.out HR8.out HN8.out HT8.out (tN _ _ _ _ _ _ _))
    | none=>
    have HM:=hq7 (cZ (z:=⟨#[93]⟩) HR.out hc)
    have he:=HE3.out
    rw [hc] at he
    have HE4:=hq7 he
    clear hc he HE3
    go_wp2_with fail
    refine HM.out.mono ?_
    rintro e w12 ⟨rfl,hr8,hg8⟩
    have HR8:=hq7 hr8
    have HL8:=hq7 (HL.out.step HLT.out hg8)
    clear hr8 hg8 HM HL HR
    cases hc:Cy.mark [44] l1 with
    | none=>
     have HM:=hq7 (cZ (z:=⟨#[44]⟩) HR8.out hc)
     have he:=HE4.out
     try simp only at he
     rw [hc] at he
     have HOF:=hq7 (show none=o by rw [←HO.out,←he];rfl)
     clear hc he
     go_wp2_with fail
     refine HM.out.mono ?_
     rintro e w13 ⟨rfl,hr9,hg9⟩
     have HG:=hq7 (HL8.out.step HLT.out hg9).gr
     clear hr9 hg9
     go_wp2_with fail
     refine (dX _ _).mono ?_
     rintro e w14 ⟨rfl,rfl⟩
     exact ⟨rfl,HG.out,by rw [←HOF.out]⟩
    | some l2=>
     have HM:=hq7 (dJ (z:=⟨#[44]⟩) HR8.out hc)
     have he:=HE4.out
     try simp only at he
     rw [hc] at he
     have HE5:=hq7 he
     have HL2:=hq7 (Cy.bg hc).2
     clear hc he
     go_wp2_with fail
     refine HM.out.mono ?_
     rintro e w13 ⟨rfl,hr9,hg9⟩
     have HR9:=hq7 hr9
     have HL9:=hq7 (HL8.out.step HLT.out hg9)
     clear hr9 hg9 HR8 HL8
     go_wp2_with fail
     refine (dR _ _).mono ?_
     rintro e w14 ⟨rfl,rfl⟩
     go_wp2
     go_roundg f
     case measure=>omega
     case rel=>exact ⟨l2,ns2,ts2,HR9.out,HL9.out,by have:=HLG.out;have:=HLL.out;have:=HL2.out;omega,HE5.out,by have:=HNL2.out;have:=HL2.out;omega,by have:=HTL2.out;have:=HL2.out;omega⟩
end Go.Proofs.YtoofbflplhbpbaaGreatDoor
