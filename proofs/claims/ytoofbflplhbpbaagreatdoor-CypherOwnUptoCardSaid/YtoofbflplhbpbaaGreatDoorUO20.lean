/- Contracts and plain laws,part 20. -/
import Derived.Test.YtoofbflplhbpbaaGreatDoorUO18
import Derived.Test.YtoofbflplhbpbaaGreatDoorUO19
set_option maxHeartbeats 64000000
set_option maxRecDepth 1000000
set_option linter.all false
namespace Go.Proofs.YtoofbflplhbpbaaGreatDoor
open Go.RowKit
theorem iw {w w':World} {B e k n b:Nat} {v:Value} {xs:List Value} (h:w.ownsRow B e k v n xs) (hg:w.grownBy w' (some b)) (hb:b<B):w'.ownsRow B e k v n xs:=
 h.kept hg (.inr fun e=>by have:=(mG h b e).1;omega)
theorem rQ.step {w w':World} {B b:Nat} {u:Value} {v:ak.V} (h:rQ w B u v) (hg:w.grownBy w' (some b)) (hb:b<B):rQ w' B u v:=by
 obtain ⟨s,t,e,h1,h2⟩:=h.ex;exact ⟨s,t,e,iw h1 hg hb,iw h2 hg hb⟩
structure kT (w:World) (b:Nat) (k:Int) (ns:List Int) (ts:List (List UInt8)) (V:World):Prop where
 ex: ∃s t,aj V w.heap.size 25 #[.int .i64 k, .int .i64 0, .string ⟨#[]⟩,s,t]/\V.ownsRow (w.heap.size+1) 2 1 s ns.length (ns.map I64)/\V.ownsRow (w.heap.size+1) 9 1 t ts.length (ts.map ST)
 gr:w.grownBy V (some b)
theorem kT.step {w V V':World} {b:Nat} {k:Int} {ns:List Int} {ts:List (List UInt8)} (h:kT w b k ns ts V) (hb:b<w.heap.size) (hg:V.grownBy V' (some b)):kT w b k ns ts V':=by
 obtain ⟨s,t,h1,h2,h3⟩:=h.ex
 exact ⟨⟨s,t,h1.grown hg (fun e=>by have:=acE e;omega),iw h2 hg (by omega),iw h3 hg (by omega)⟩,dU h.gr hg⟩
theorem RS.grown {q0:Nat×Nat} {b g:Nat} {l:List Lex.Tok} {w w':World} (h:RS q0 b l w) (hg:w.grownBy w' (some g)) (hlt:b<g):RS q0 b l w':=by
 obtain ⟨A,n,c,k,ts,hk,h1,h2,h3,h4,h5⟩:=h.ex
 have hb:Below b w w':=⟨hg.os,hg.tape,hg.output,hg.size,fun i hi=>hg.block i (by have:=hk.lt;omega) (fun e=>by have:=acE e;omega)⟩
 exact ⟨⟨A,n,c,k,ts,hk.grown hg (fun e=>by have:=acE e;omega),h1,h2,h3,h4,h5.below (hb.mono (Nat.min_le_left _ _))⟩,h.ok,by obtain ⟨A,c,v,ht⟩:=h.tot;exact ⟨A,c,v,ht.grown hg (fun e=>by have:=acE e;omega)⟩⟩
theorem aj.acw {W:World} {g:Nat} {t:TypeId} {v0 v1 v2 v3 v4:Value} (h:aj W g t #[v0,v1,v2,v3,v4]):
  aj (((((W.setCell ⟨g,0,none⟩ v0).setCell ⟨g,1,none⟩ v1).setCell ⟨g,2,none⟩ v2).setCell ⟨g,3,none⟩ v3).setCell ⟨g,4,none⟩ v4) g t #[v0,v1,v2,v3,v4]:=by
 have:=((((h.aS 0 v0).aS 1 v1).aS 2 v2).aS 3 v3).aS 4 v4
 simpa using this
theorem BD {w W:World} {g:Nat} (h:w.grownBy W (some g)) (i:Nat) (u:Value):w.grownBy (W.setCell ⟨g,i,none⟩ u) (some g):=dU h (grownBy_set W ⟨g,i,none⟩ u)
theorem Ns {w W:World} {g:Nat} (h:w.grownBy W (some g)) (v0 v1 v2 v3 v4:Value):w.grownBy (((((W.setCell ⟨g,0,none⟩ v0).setCell ⟨g,1,none⟩ v1).setCell ⟨g,2,none⟩ v2).setCell ⟨g,3,none⟩ v3).setCell ⟨g,4,none⟩ v4) (some g):=
 BD (BD (BD (BD (BD h 0 v0) 1 v1) 2 v2) 3 v3) 4 v4
theorem ahR {q0:Nat×Nat} {b:Nat} {k n:Int} {x:List UInt8} {l r:List Lex.Tok} {w:World} (h:RS q0 b l w) (hm:Cy.mark [91] l=none) (hx:Cy.nK l=some ((k,n,x),r)):
  Calls Tryz.prog 205 #[.pointer (some ⟨b,0,none⟩)] w fun e w'=> ∃u,e= .returned u/\rQ w' (w.heap.size+1) u ⟨k,n,x, [], []⟩/\RS q0 b r w'/\w.grownBy w' (some b):=by
 have hlt:=h.lt
 have hr1:=h.kept ((Below.refl _ w).alloc (ab1 _) (.cells #[.int .i64 0, .int .i64 0, .string ⟨#[]⟩, .slice none 0 0, .slice none 0 0] 25))
 obtain ⟨W1,hW1⟩: ∃W1,w.alloc (.cells #[.int .i64 0, .int .i64 0, .string ⟨#[]⟩, .slice none 0 0, .slice none 0 0] 25)=W1:=⟨_,rfl⟩
 rw [hW1] at hr1
 have k1:aj W1 w.heap.size 25 #[.int .i64 0, .int .i64 0, .string ⟨#[]⟩, .slice none 0 0, .slice none 0 0]:=by rw [<-hW1];exact aj.new _ _ _
 have wC:=ah (show w.grownBy W1 (some b) by rw [<-hW1];exact vH (fO _ _) _)
 have HM:=ah (jy (z:=⟨#[91]⟩) hr1 hm);have HW1:=ah hW1;have aT:=ah k1;have aB:=ah hlt
 have HX:=ah hx;obtain ⟨zx,hzx⟩: ∃zx:ByteArray,(⟨x.toArray⟩:ByteArray)=zx:=⟨_,rfl⟩
 have sW:=ah hzx;clear h hr1 hm hx hW1 k1 hlt hzx;go_enter Tryz.func205,Tryz.ntmps205
 go_upto_region 1 with fail
 rw [HW1.out];go_wp2_with fail;refine HM.out.mono ?_;rintro e w2 ⟨rfl,hr2,hg2⟩
 have HG2:=ah (dU wC.out hg2)
 have aC:=ah (aT.out.grown hg2 (fun e=>by have:=acE e;have:=aB.out;omega))
 have hs:=ZX hr2 HX.out;rw [sW.out] at hs;have HS:=ah hs;clear hr2 hg2 hs;go_wp2_with fail
 refine HS.out.mono ?_;rintro e w3 ⟨rfl,hr3,hg3⟩;have wE:=ah (dU HG2.out hg3)
 have bJ:=ah (aC.out.grown hg3 (fun e=>by have:=acE e;have:=aB.out;omega))
 have HR3:=ah hr3;clear hr3 hg3;obtain ⟨a0,a1,a2,a3,a4,-⟩:=gY bJ.out
 have f0:=bJ.out.frozen 0;have f1:=bJ.out.frozen 1;have f2:=bJ.out.frozen 2
 have f3:=bJ.out.frozen 3;have f4:=bJ.out.frozen 4;go_wp2
 have hk4:=((bJ.out.aS 0 (.int .i64 k)).aS 1 (.int .i64 n)).aS 2 (.string zx);simp at hk4
 have hg5:=Ns (BD (BD (BD (fO w3 (some w.heap.size)) 0 (.int .i64 k)) 1 (.int .i64 n)) 2 (.string zx)) (.int .i64 k) (.int .i64 n) (.string zx) (.slice none 0 0) (.slice none 0 0)
 refine ret_val rfl rfl hk4.acw ⟨_,rfl,⟨.slice none 0 0, .slice none 0 0,by rw [<-sW.out],World.ownsRow_nil _ _ _ _,World.ownsRow_nil _ _ _ _⟩,HR3.out.grown hg5 aB.out,xA wE.out hg5 (fun i hi=>by cases hi;exact ab1 _)⟩
def RQ (q0:Nat×Nat) (b:Nat) (w:World) (o:Option (ak.V×List Lex.Tok)) (e:Ending) (w':World):Prop:=
 w.grownBy w' (some b)/\match o with
  | none=>e= .panicked zO
  | some (v,r)=> ∃u,e= .returned u/\rQ w' (w.heap.size+1) u v/\RS q0 b r w'
theorem kT.nums {w V V':World} {b:Nat} {k n:Int} {ns:List Int} {ts:List (List UInt8)} {s t v:Value} (h:kT w b k ns ts V) (hb:b<w.heap.size)
  (hk:aj V w.heap.size 25 #[.int .i64 k, .int .i64 0, .string ⟨#[]⟩,s,t]) (hs:V.ownsRow (w.heap.size+1) 2 1 s ns.length (ns.map I64)) (ht:V.ownsRow (w.heap.size+1) 9 1 t ts.length (ts.map ST))
  (hown:V'.ownsRow (w.heap.size+1) 2 1 v (ns.length+1) (ns.map I64 ++ [I64 n])) (hg:V.grownBy V' s.ownBlock) (hbl:Below (w.heap.size+1) V V'):kT w b k (ns ++ [n]) ts (V'.setCell ⟨w.heap.size,3,none⟩ v):=by
 have hne:some w.heap.size≠s.ownBlock:=fun e=>by have:=(mG hs _ e.symm).1;omega
 have hset:=grownBy_set V' ⟨w.heap.size,3,none⟩ v;have hk':=(hk.grown hg hne).aS 3 v
 simp at hk';refine ⟨⟨v,t,hk', ?_, ?_⟩, ?_⟩
 ·have:=iw hown hset (adH _)
  rw [dA,ade];exact this
 ·refine iw (dS ht hg fun g c t' fz hr hc=> ?_) hset (adH _)
  obtain ⟨-,c',hc'⟩:=mG hs g hr;rw [hc'] at hc;cases hc
  decide
 have h1:w.grownBy V' (some b):=⟨hbl.os.trans h.gr.os,hbl.tape.trans h.gr.tape,hbl.output.trans h.gr.output,ab5 h.gr.size hbl.size,fun i hi hne=>(hbl.block i (by omega)).trans (h.gr.block i hi hne)⟩
 exact xA h1 hset (fun i e=>by cases e;exact ab1 _)
theorem kT.texts {w V V':World} {b:Nat} {k:Int} {x:List UInt8} {ns:List Int} {ts:List (List UInt8)} {s t v:Value} (h:kT w b k ns ts V) (hb:b<w.heap.size)
  (hk:aj V w.heap.size 25 #[.int .i64 k, .int .i64 0, .string ⟨#[]⟩,s,t]) (hs:V.ownsRow (w.heap.size+1) 2 1 s ns.length (ns.map I64)) (ht:V.ownsRow (w.heap.size+1) 9 1 t ts.length (ts.map ST))
  (hown:V'.ownsRow (w.heap.size+1) 9 1 v (ts.length+1) (ts.map ST ++ [ST x])) (hg:V.grownBy V' t.ownBlock) (hbl:Below (w.heap.size+1) V V'):kT w b k ns (ts ++ [x]) (V'.setCell ⟨w.heap.size,4,none⟩ v):=by
 have hne:some w.heap.size≠t.ownBlock:=fun e=>by have:=(mG ht _ e.symm).1;omega
 have hset:=grownBy_set V' ⟨w.heap.size,4,none⟩ v;have hk':=(hk.grown hg hne).aS 4 v
 simp at hk';refine ⟨⟨s,v,hk', ?_, ?_⟩, ?_⟩
 ·refine iw (dS hs hg fun g c t' fz hr hc=> ?_) hset (adH _)
  obtain ⟨-,c',hc'⟩:=mG ht g hr;rw [hc'] at hc;cases hc
  decide
 ·have:=iw hown hset (adH _)
  rw [dA,ade];exact this
 have h1:w.grownBy V' (some b):=⟨hbl.os.trans h.gr.os,hbl.tape.trans h.gr.tape,hbl.output.trans h.gr.output,ab5 h.gr.size hbl.size,fun i hi hne=>(hbl.block i (by omega)).trans (h.gr.block i hi hne)⟩
 exact xA h1 hset (fun i e=>by cases e;exact ab1 _)
theorem kT.cells {w V:World} {b:Nat} {k:Int} {ns:List Int} {ts:List (List UInt8)} (h:kT w b k ns ts V): ∃A1 c1 A2 c2,aj V w.heap.size 25 #[.int .i64 k, .int .i64 0, .string ⟨#[]⟩, .slice A1 ns.length c1, .slice A2 ts.length c2]/\
  V.ownsRow (w.heap.size+1) 2 1 (.slice A1 ns.length c1) ns.length (ns.map I64)/\V.ownsRow (w.heap.size+1) 9 1 (.slice A2 ts.length c2) ts.length (ts.map ST):=by
 obtain ⟨s,t,h1,h2,h3⟩:=h.ex;obtain ⟨A1,c1,rfl⟩:=aJ h2;obtain ⟨A2,c2,rfl⟩:=aJ h3
 exact ⟨A1,c1,A2,c2,h1,h2,h3⟩
theorem kT.kind {w V:World} {b:Nat} {k:Int} {ns:List Int} {ts:List (List UInt8)} (h:kT w b k ns ts V) (k':Int):kT w b k' ns ts (V.setCell ⟨w.heap.size,0,none⟩ (.int .i64 k')):=by
 obtain ⟨s,t,h1,h2,h3⟩:=h.ex;have hset:=grownBy_set V ⟨w.heap.size,0,none⟩ (.int .i64 k')
 have hk:=h1.aS 0 (.int .i64 k');simp at hk
 exact ⟨⟨s,t,hk,iw h2 hset (adH _),iw h3 hset (adH _)⟩,xA h.gr hset (fun i e=>by cases e;exact ab1 _)⟩
theorem kT.told {q0:Nat×Nat} {w V W:World} {b:Nat} {k:Int} {ns:List Int} {ts:List (List UInt8)} {s t:Value} {r:List Lex.Tok} (h:kT w b k ns ts V) (hb:b<w.heap.size) (hr:RS q0 b r V)
  (h2:V.ownsRow (w.heap.size+1) 2 1 s ns.length (ns.map I64)) (h3:V.ownsRow (w.heap.size+1) 9 1 t ts.length (ts.map ST)) (hg:V.grownBy W (some w.heap.size)):
  RQ q0 b w (some (⟨k,0, [],ns,ts⟩,r)) (.returned (.agg #[.int .i64 k, .int .i64 0, .string ⟨#[]⟩,s,t])) W:=
 ⟨xA h.gr hg (fun i e=>by cases e;exact ab1 _),_,rfl,⟨s,t,rfl,iw h2 hg (adH _),iw h3 hg (adH _)⟩,hr.grown hg hb⟩
theorem RS.len {q0:Nat×Nat} {b:Nat} {l:List Lex.Tok} {w:World} (h:RS q0 b l w):l.length<=16777216:=by
 obtain ⟨A,n,c,k,ts,hk,h1,h2,h3,h4,h5⟩:=h.ex;rw [<-h2,acM];omega
theorem RS.below {q0:Nat×Nat} {b B:Nat} {l:List Lex.Tok} {w w':World} (h:RS q0 b l w) (hb:Below B w w') (hlt:b<B):RS q0 b l w':=by
 obtain ⟨A,n,c,k,ts,hk,h1,h2,h3,h4,h5⟩:=h.ex
 exact ⟨⟨A,n,c,k,ts,hk.below hb hlt,h1,h2,h3,h4,h5.below (hb.mono (by omega))⟩,h.ok,by obtain ⟨A,c,v,ht⟩:=h.tot;exact ⟨A,c,v,ht.below hb hlt⟩⟩
theorem ahS {x:List UInt8} {j:Int} (h1:1<=j) (h4:j<=4) (hj:Cy.word j=x) (hn: ∀i:Int,1<=i->i<j->Cy.word i≠x):Cy.kindOf x=j:=by
 subst hj;exact Cy.Y3 h1 h4
theorem ahT {x:List UInt8} (hn: ∀i:Int,1<=i->i<=4->Cy.word i≠x):Cy.kindOf x=0:=by
 unfold Cy.kindOf
 rw [ab6 (fun e=>hn 1 (by omega) (by omega) e.symm),ab6 (fun e=>hn 2 (by omega) (by omega) e.symm),ab6 (fun e=>hn 3 (by omega) (by omega) e.symm),ab6 (fun e=>hn 4 (by omega) (by omega) e.symm)]
theorem ahU {q0:Nat×Nat} {b:Nat} {l r1:List Lex.Tok} {w:World} (h:RS q0 b l w) (hm:Cy.mark [91] l=some r1):
  Calls Tryz.prog 205 #[.pointer (some ⟨b,0,none⟩)] w (RQ q0 b w (Cy.qG l)):=by
 obtain ⟨o,ho⟩: ∃o,Cy.qG l=o:=⟨_,rfl⟩;rw [ho];unfold Cy.qG at ho;rw [hm] at ho
 try simp only at ho
 have hlt:=h.lt
 have hr1:=h.kept ((Below.refl _ w).alloc (ab1 _) (.cells #[.int .i64 0, .int .i64 0, .string ⟨#[]⟩, .slice none 0 0, .slice none 0 0] 25))
 obtain ⟨W1,hW1⟩: ∃W1,w.alloc (.cells #[.int .i64 0, .int .i64 0, .string ⟨#[]⟩, .slice none 0 0, .slice none 0 0] 25)=W1:=⟨_,rfl⟩
 rw [hW1] at hr1
 have dQ:=ah (show kT w b 0 [] [] W1 by rw [<-hW1];exact ⟨⟨_,_,aj.new _ _ _,World.ownsRow_nil _ _ _ _,World.ownsRow_nil _ _ _ _⟩,vH (fO _ _) _⟩)
 have HM:=ah (jP (z:=⟨#[91]⟩) hr1 hm);have HW1:=ah hW1;have aB:=ah hlt;have HO:=ah ho
 have hu:=lD;clear h hr1 hm hW1 hlt ho;go_enter Tryz.func205,Tryz.ntmps205
 go_upto_region 1 with fail
 rw [HW1.out];go_wp2_with fail;refine HM.out.mono ?_;rintro e w2 ⟨rfl,hr2,hg2⟩
 have HL2:=ah (dQ.out.step aB.out hg2);have HR2:=ah hr2;clear hr2 hg2 dQ HM HW1
 cases hc:Cy.mark [58] r1 with
 | none=>
  have HM:=ah (jy (z:=⟨#[58]⟩) HR2.out hc);have ho:=HO.out;rw [hc] at ho;have iZ:=ah ho
  clear hc ho;go_wp2_with fail;refine HM.out.mono ?_;rintro e w3 ⟨rfl,hr3,hg3⟩
  have HG:=ah (HL2.out.step aB.out hg3).gr;clear hr3 hg3;go_wp2_with fail
  refine (lH _ _).mono ?_;rintro e w4 ⟨rfl,rfl⟩;exact ⟨rfl,HG.out,by rw [<-iZ.out]⟩
 | some r2=>
  have HM:=ah (jP (z:=⟨#[58]⟩) HR2.out hc);have ho:=HO.out;rw [hc] at ho;have iZ:=ah ho
  clear hc ho;go_wp2_with fail;refine HM.out.mono ?_;rintro e w3 ⟨rfl,hr3,hg3⟩
  have nT:=ah (HL2.out.step aB.out hg3);have HR3:=ah hr3;clear hr3 hg3 HL2 HR2
  go_wp2_with fail;refine (kS _ _).mono ?_;rintro e w4 ⟨rfl,rfl⟩;cases hc:Cy.jg r2 with
  | none=>
   have HM:=ah (Dz HR3.out hc);have ho:=iZ.out
   try simp only at ho
   rw [hc] at ho;have iZ:=ah ho;clear hc ho;go_wp2_with fail;refine HM.out.mono ?_
   rintro e w5 ⟨rfl,hg⟩;exact ⟨rfl,(nT.out.step aB.out hg).gr,by rw [<-iZ.out]⟩
  | some xr=>
   obtain ⟨x,r3⟩:=xr;have hwd:=Dy HR3.out hc
   obtain ⟨zx,hzx⟩: ∃zx:ByteArray,(⟨x.toArray⟩:ByteArray)=zx:=⟨_,rfl⟩;rw [hzx] at hwd
   have HM:=ah hwd;have sW:=ah (show zx.data.toList=x by rw [<-hzx])
   have ho:=iZ.out
   try simp only at ho
   rw [hc] at ho
   try simp only at ho
   have Ur:=ah ho;clear hc ho hwd hzx iZ;go_wp2_with fail;refine HM.out.mono ?_
   rintro e w5 ⟨rfl,hr5,hg5⟩;have Gy:=ah (nT.out.step aB.out hg5);have yu:=ah hr5
   clear hr5 hg5 nT HR3 HM
   go_upto_block 0 with fail
   go_cut [4] (fun s4 wx=> ∃j:Nat,s4= .int .i64 (j:Nat)/\1<=j/\j<=4/\Hid (∀i:Int,1<=i->i<j->Cy.word i≠x)/\(j=4\/Cy.word j=x)/\w5=wx)
   case first=>
    go_wp2_with fail
    go_loopg [4] 4 (fun g s4 wr=> ∃j:Nat,s4= .int .i64 (j:Nat)/\1<=j/\j+g=5/\j<=4/\Hid (∀i:Int,1<=i->i<j->Cy.word i≠x)/\w5=wr)
    case atStart=>exact ⟨1,rfl,by omega,by omega,by omega,fun i h1 h2=>by omega,rfl⟩
    obtain ⟨j,rfl,hj1,hjg,Gz,HJ,rfl⟩:=hrel
    obtain ⟨zk,jk⟩: ∃zk:ByteArray,(⟨(Cy.word j).toArray⟩:ByteArray)=zk:=⟨_,rfl⟩
    have yw:zk.data.toList=Cy.word j:=by rw [<-jk]
    have hkw:=RJ j w5 ⟨by omega,by omega⟩
    rw [jk] at hkw;have zS:=ah hkw;clear hkw jk;by_cases hlt:j<4
    ·have t0:decide (j<4)=true:=abW hlt
     have zK:(j:Int)<4:=by omega
     by_cases hw:Cy.word j=x
     ·have t1:(zk.toList == zx.toList)=true:=adp.2 (by rw [Lib.toList_data,Lib.toList_data,yw,sW.out];exact hw)
      have HW:=ah hw;clear yw hw;go_wp2_with fail;refine zS.out.mono ?_
      rintro e w6 ⟨rfl,rfl⟩;go_wp2_with fail;go_meet
      exact ⟨j,rfl,hj1,Gz,HJ, .inr HW.out,rfl⟩
     have t1:(zk.toList == zx.toList)=false:=ab3.2 (by rw [Lib.toList_data,Lib.toList_data,yw,sW.out];exact hw)
     have iC:Hid (∀i:Int,1<=i->i<((j+1:Nat):Int)->Cy.word i≠x):=fun i h1 h2=>by
      by_cases e:i=j
      ·subst e;exact hw
      exact HJ i h1 (by omega)
     clear yw hw HJ;go_wp2_with fail;refine zS.out.mono ?_;rintro e w6 ⟨rfl,rfl⟩;go_wp2
     go_roundg (4 - j)
     case measure=>omega
     exact ⟨j+1,int_eq (by omega),by omega,by omega,by omega,iC,rfl⟩
    have t0:decide (j<4)=false:=abX hlt;have zK:(4:Int)<=j:=by omega
    clear yw;go_wp2_with fail;go_meet;exact ⟨j,rfl,hj1,Gz,HJ, .inl (by omega),rfl⟩
   case rest=>
   obtain ⟨j,rfl,hj1,Gz,HJ,hje,rfl⟩:=hcut
   obtain ⟨zk,jk⟩: ∃zk:ByteArray,(⟨(Cy.word j).toArray⟩:ByteArray)=zk:=⟨_,rfl⟩
   have yw:zk.data.toList=Cy.word j:=by rw [<-jk]
   have hkw:=RJ j w5 ⟨by omega,by omega⟩
   rw [jk] at hkw;have zS:=ah hkw;clear hkw jk;by_cases hw:Cy.word j=x
   case neg=>
    have t1:(zk.toList == zx.toList)=false:=ab3.2 (by rw [Lib.toList_data,Lib.toList_data,yw,sW.out];exact hw)
    obtain rfl:j=4:=hje.resolve_right hw
    have hk0:Cy.kindOf x=0:=ahT fun i h1 h2=>by
     by_cases e:i=4
     ·subst e;exact hw
     exact HJ i h1 (by omega)
    have ho:=Ur.out;rw [hk0,ab7 rfl] at ho;have iZ:=ah ho;clear yw hw hk0 ho hje HJ
    go_wp2_with fail;refine zS.out.mono ?_;rintro e w6 ⟨rfl,rfl⟩;go_wp2_with fail
    refine (lH _ _).mono ?_;rintro e w7 ⟨rfl,rfl⟩;exact ⟨rfl,Gy.out.gr,by rw [<-iZ.out]⟩
   have t1:(zk.toList == zx.toList)=true:=adp.2 (by rw [Lib.toList_data,Lib.toList_data,yw,sW.out];exact hw)
   have hk0:Cy.kindOf x=j:=ahS (by omega) (by omega) hw HJ
   have ho:=Ur.out;rw [hk0,ab6 (by omega)] at ho
   have iZ:=ah ho;clear yw hw hk0 ho hje HJ Ur;go_wp2_with fail;refine zS.out.mono ?_
   rintro e w6 ⟨rfl,rfl⟩;go_wp2_with fail;refine (kS _ _).mono ?_;rintro e w7 ⟨rfl,rfl⟩
   obtain ⟨W6,D5⟩: ∃W6,w5.setCell ⟨w.heap.size,0,none⟩ (.int .i64 ((j:Int)+4))=W6:=⟨_,rfl⟩
   obtain ⟨K,hK⟩: ∃K:Int,(j:Int)+4=K:=⟨_,rfl⟩
   have D6:=ah (show kT w b K [] [] W6 by rw [<-D5,<-hK];exact Gy.out.kind _)
   have ru:=ah (show RS q0 b r3 W6 by rw [<-D5];exact yu.out.grown (grownBy_set w5 ⟨w.heap.size,0,none⟩ _) aB.out)
   have JO:=ah D5;have Us:=ah hK;obtain ⟨A1,JQ,A2,JR,hbk,-,-⟩:=Gy.out.cells
   obtain ⟨a0,a1,a2,a3,a4,f0,f1,f2,f3,f4⟩:=gY hbk;have ho:=iZ.out;rw [hK] at ho
   have HO:=ah ho;clear hbk D5 ho iZ hK
   go_upto_region 11 with fail
   rw [JO.out];clear a0 a1 a2 a3 a4 f0 f1 f2 f3 f4 Gy yu;cases hc:Cy.mark [93] r3 with
   | some r4=>
    have HM:=ah (jP (z:=⟨#[93]⟩) ru.out hc);have ho:=HO.out;rw [hc] at ho;have iZ:=ah ho
    clear hc ho HO;go_wp2_with fail;refine HM.out.mono ?_;rintro e w8 ⟨rfl,wM,lW⟩
    have eU:=ah wM;have uM:=ah (D6.out.step aB.out lW);clear wM lW HM D6 ru
    obtain ⟨A1,JQ,A2,JR,hbk,nU,BR⟩:=uM.out.cells
    obtain ⟨a0,a1,a2,a3,a4,f0,f1,f2,f3,f4⟩:=gY hbk;have iL:=ah hbk;have kY:=ah nU
    have BU:=ah BR;clear hbk nU BR;go_wp2
    exact ret_val rfl rfl (QD iL.out _ _ _ _ _) (by rw [<-iZ.out];exact uM.out.told aB.out eU.out kY.out BU.out (QE _ _ _ _ _ _ _))
   | none=>
   have HM:=ah (jy (z:=⟨#[93]⟩) ru.out hc);have ho:=HO.out;rw [hc] at ho;have iZ:=ah ho
   clear hc ho HO;go_wp2_with fail;refine HM.out.mono ?_;rintro e w8 ⟨rfl,wM,lW⟩
   have eU:=ah wM;have uM:=ah (D6.out.step aB.out lW);clear wM lW HM D6 ru
   obtain ⟨E,hE⟩: ∃E,Cy.elems (j:Int) (r3.length+1) r3 [] []=E:=⟨_,rfl⟩;have ho:=iZ.out
   try simp only at ho
   rw [hE] at ho;have HO:=ah ho;have GH:=ah hE;clear ho hE iZ;go_wp2_with fail
   go_loopg [5] (r3.length+1) (fun g x5 wr=> ∃l' ns ts,RS q0 b l' wr/\kT w b K ns ts wr/\l'.length<g/\Hid (Cy.elems (j:Int) g l' ns ts=E)/\ns.length+l'.length<=16777216/\ts.length+l'.length<=16777216)
   case atStart=>exact ⟨r3, [], [],eU.out,uM.out,by omega,GH.out,by have:=eU.out.len;simp;omega,by have:=eU.out.len;simp;omega⟩
   obtain ⟨l',ns,ts,hr,hl,jF,HE,hnl,htl⟩:=hrel;have HR:=ah hr;have HL:=ah hl
   have zT:=ah hnl;have jh:=ah htl;clear hr hl hnl htl GH eU uM;cases gk with
   | zero=>omega
   | succ f=>
   have he:_=E:=HE;rw [Cy.elems] at he;cases hs:Cy.nK l' with
   | none=>
    have HS:=ah (ZY HR.out hs);rw [hs] at he
    have iZ:=ah (show none=o by rw [<-HO.out,<-he];rfl)
    clear hs he HE jF;go_wp2_with fail;refine HS.out.mono ?_;rintro e w9 ⟨rfl,hg⟩
    exact ⟨rfl,(HL.out.step aB.out hg).gr,by rw [<-iZ.out]⟩
   | some q=>
   obtain ⟨⟨k1,n1,t1⟩,l1⟩:=q;rw [hs] at he
   have dR:=ah (show l1.length+1=l'.length from (Cy.Ro hs HR.out.ok).2.2.2.2.2)
   have hsc:=ZX HR.out hs
   obtain ⟨zt,aO⟩: ∃zt:ByteArray,(⟨t1.toArray⟩:ByteArray)=zt:=⟨_,rfl⟩;rw [aO] at hsc
   have HS:=ah hsc;have HZT:=ah aO;have yx:=ah he;have qR:=ah jF;clear hs he HE hsc aO jF
   go_wp2_with fail;refine HS.out.mono ?_;rintro e w9 ⟨rfl,pY,bG⟩;have uN:=ah pY
   have D7:=ah (HL.out.step aB.out bG);clear pY bG HR HL HS;by_cases hk:k1=(j:Int)
   case neg=>
    have tk:(k1 ==(j:Nat))=false:=ab3.2 hk
    have iZ:=ah (show none=o by rw [<-HO.out,<-yx.out,ab7 hk];rfl)
    clear hk;go_wp2_with fail;refine (lH _ _).mono ?_;rintro e w10 ⟨rfl,rfl⟩
    exact ⟨rfl,D7.out.gr,by rw [<-iZ.out]⟩
   subst hk;have he:=yx.out;rw [ab6 (by simp)] at he
   have HE2:=ah he;have tk:((j:Int) ==(j:Nat))=true:=beq_self_eq_true _;clear he yx
   go_wp2_with fail;refine (kS _ _).mono ?_;rintro e w10 ⟨rfl,rfl⟩
   go_upto_if 61 with fail
   go_cut [5] (fun s5 wx=>kT w b K (if (j:Int)=4 then ns else ns ++ [n1]) (if (j:Int)=4 then ts ++ [t1] else ts) wx/\RS q0 b l1 wx)
   case first=>
    obtain ⟨A1,JQ,A2,JR,hbk,nU,BR⟩:=D7.out.cells
    obtain ⟨a0,a1,a2,a3,a4,f0,f1,f2,f3,f4⟩:=gY hbk
    have hsz:w.heap.size+1<=w9.heap.size:=hbk.lt;have iL:=ah hbk;have kY:=ah nU
    have BU:=ah BR;obtain ⟨nl,hnl⟩: ∃n,ns.length=n:=⟨_,rfl⟩
    obtain ⟨tl,htl⟩: ∃n,ts.length=n:=⟨_,rfl⟩;rw [hnl] at a3 kY;rw [htl] at a4 BU
    have Ut:nl<1073741824:=by have:=zT.out;omega
    have Uu:tl<1073741824:=by have:=jh.out;omega
    have kZ:=ah hnl;have Oh:=ah htl;clear hbk nU BR hnl htl;by_cases h4:(j:Int)=4
    ·have t4:((j:Int) == 4)=true:=adp.2 h4
     have sZ:=ah h4;clear h4
     go_wp2_with (at_builtin;refine rP rfl (.tmp 63) (.tmp 65) 23 9 (.string ⟨#[]⟩) 16 Tryz.underlying23 Fq rfl (by decide) rfl (w.heap.size+1) (.slice A2 tl JR) tl _ w9 rfl BU.out (.string zt) rfl rfl Uu hsz ?_)
     intro v9 zU aN bC dO aF;obtain ⟨A9,c9,rfl⟩:=aJ aN
     have hbe:Below (w.heap.size+1) w9 zU:=aF;have D8:=iL.out.below hbe (adH _)
     have g4:=D8.frozen 4
     have e4:zU.cell? ⟨w.heap.size,4,none⟩=some (.slice A2 ts.length JR):=D8.cell 4
     have Uw:=ah (D7.out.texts aB.out (x:=t1) (v:= .slice A9 (tl+1) c9) iL.out (by rw [kZ.out];exact kY.out) (by rw [Oh.out];exact BU.out) (by rw [Oh.out,show ST t1= .string zt by rw [<-HZT.out];rfl];exact aN) (by rw [Oh.out];exact bC) hbe)
     have zV:=ah ((uN.out.below hbe (by have:=aB.out;omega)).grown (grownBy_set zU ⟨w.heap.size,4,none⟩ (.slice A9 (tl+1) c9)) aB.out)
     clear aN bC dO aF hbe D8 a0 a1 a2 a3 a4 f0 f1 f2 f3 f4;go_wp2_with fail;go_meet
     rw [ab7 sZ.out,ab7 sZ.out];exact ⟨Uw.out,zV.out⟩
    have t4:((j:Int) == 4)=false:=ab3.2 h4;have sZ:=ah h4;clear h4
    go_wp2_with (at_builtin;refine rP rfl (.tmp 69) (.tmp 71) 22 2 (.int .i64 0) 8 Tryz.underlying22 Yv rfl (by decide) rfl (w.heap.size+1) (.slice A1 nl JQ) nl _ w9 rfl kY.out (.int .i64 n1) rfl rfl Ut hsz ?_)
    intro v9 zU aN bC dO aF;obtain ⟨A9,c9,rfl⟩:=aJ aN
    have hbe:Below (w.heap.size+1) w9 zU:=aF;have D8:=iL.out.below hbe (adH _)
    have g4:=D8.frozen 3
    have e4:zU.cell? ⟨w.heap.size,3,none⟩=some (.slice A1 ns.length JQ):=D8.cell 3
    have Uw:=ah (D7.out.nums aB.out (n:=n1) (v:= .slice A9 (nl+1) c9) iL.out (by rw [kZ.out];exact kY.out) (by rw [Oh.out];exact BU.out) (by rw [kZ.out];exact aN) (by rw [kZ.out];exact bC) hbe)
    have zV:=ah ((uN.out.below hbe (by have:=aB.out;omega)).grown (grownBy_set zU ⟨w.heap.size,3,none⟩ (.slice A9 (nl+1) c9)) aB.out)
    clear aN bC dO aF hbe D8 a0 a1 a2 a3 a4 f0 f1 f2 f3 f4;go_wp2_with fail;go_meet
    rw [ab6 sZ.out,ab6 sZ.out];exact ⟨Uw.out,zV.out⟩
   case rest=>
   obtain ⟨hl,hr⟩:=hcut;have he:=HE2.out
   have hnl:(if (j:Int)=4 then ns else ns ++ [n1]).length+l1.length<=16777216:=by have:=zT.out;have:=dR.out;split<;> simp<;> omega
   have htl:(if (j:Int)=4 then ts ++ [t1] else ts).length+l1.length<=16777216:=by have:=jh.out;have:=dR.out;split<;> simp<;> omega
   obtain ⟨ns2,acA⟩: ∃x,(if (j:Int)=4 then ns else ns ++ [n1])=x:=⟨_,rfl⟩
   obtain ⟨ts2,acC⟩: ∃x,(if (j:Int)=4 then ts ++ [t1] else ts)=x:=⟨_,rfl⟩
   rw [acA] at hl hnl he;rw [acC] at hl htl he;have HL:=ah hl;have HR:=ah hr
   have akO:=ah hnl;have akP:=ah htl;have fJ:=ah he
   clear hl hr hnl htl he acA acC HE2 D7 uN;cases hc:Cy.mark [93] l1 with
   | some l2=>
    have HM:=ah (jP (z:=⟨#[93]⟩) HR.out hc);have he:=fJ.out;rw [hc] at he
    have iZ:=ah (show some (⟨K,0, [],ns2,ts2⟩,l2)=o by rw [<-HO.out,<-he];rfl)
    clear hc he;go_wp2_with fail;refine HM.out.mono ?_;rintro e w12 ⟨rfl,wM,lW⟩
    have eU:=ah wM;have uM:=ah (HL.out.step aB.out lW);clear wM lW HM HL HR
    obtain ⟨A1,JQ,A2,JR,hbk,nU,BR⟩:=uM.out.cells
    obtain ⟨a0,a1,a2,a3,a4,f0,f1,f2,f3,f4⟩:=gY hbk;have iL:=ah hbk;have kY:=ah nU
    have BU:=ah BR;clear hbk nU BR;go_wp2
    exact ret_val rfl rfl (QD iL.out _ _ _ _ _) (by rw [<-iZ.out];exact uM.out.told aB.out eU.out kY.out BU.out (QE _ _ _ _ _ _ _))
   | none=>
   have HM:=ah (jy (z:=⟨#[93]⟩) HR.out hc);have he:=fJ.out;rw [hc] at he;have nV:=ah he
   clear hc he fJ;go_wp2_with fail;refine HM.out.mono ?_;rintro e w12 ⟨rfl,wM,lW⟩
   have eU:=ah wM;have uM:=ah (HL.out.step aB.out lW);clear wM lW HM HL HR
   cases hc:Cy.mark [44] l1 with
   | none=>
    have HM:=ah (jy (z:=⟨#[44]⟩) eU.out hc);have he:=nV.out
    try simp only at he
    rw [hc] at he;have iZ:=ah (show none=o by rw [<-HO.out,<-he];rfl)
    clear hc he;go_wp2_with fail;refine HM.out.mono ?_;rintro e w13 ⟨rfl,pY,bG⟩
    have HG:=ah (uM.out.step aB.out bG).gr;clear pY bG;go_wp2_with fail
    refine (lH _ _).mono ?_;rintro e w14 ⟨rfl,rfl⟩;exact ⟨rfl,HG.out,by rw [<-iZ.out]⟩
   | some l2=>
    have HM:=ah (jP (z:=⟨#[44]⟩) eU.out hc);have he:=nV.out
    try simp only at he
    rw [hc] at he;have zW:=ah he;have HL2:=ah (Cy.gJ hc).2;clear hc he;go_wp2_with fail
    refine HM.out.mono ?_;rintro e w13 ⟨rfl,pY,bG⟩;have uN:=ah pY
    have D7:=ah (uM.out.step aB.out bG);clear pY bG eU uM;go_wp2_with fail
    refine (kS _ _).mono ?_;rintro e w14 ⟨rfl,rfl⟩;go_wp2
    go_roundg f
    case measure=>omega
    exact ⟨l2,ns2,ts2,uN.out,D7.out,by have:=qR.out;have:=dR.out;have:=HL2.out;omega,zW.out,by have:=akO.out;have:=HL2.out;omega,by have:=akP.out;have:=HL2.out;omega⟩
theorem ahV {q0:Nat×Nat} {b:Nat} {l:List Lex.Tok} {w:World} (h:RS q0 b l w) (hm:Cy.mark [91] l=none) (hx:Cy.nK l=none):
  Calls Tryz.prog 205 #[.pointer (some ⟨b,0,none⟩)] w fun e w'=>e= .panicked zO/\w.grownBy w' (some b):=by
 have hr1:=h.kept ((Below.refl _ w).alloc (ab1 _) (.cells #[.int .i64 0, .int .i64 0, .string ⟨#[]⟩, .slice none 0 0, .slice none 0 0] 25))
 obtain ⟨W1,hW1⟩: ∃W1,w.alloc (.cells #[.int .i64 0, .int .i64 0, .string ⟨#[]⟩, .slice none 0 0, .slice none 0 0] 25)=W1:=⟨_,rfl⟩
 rw [hW1] at hr1;have wC:=ah (show w.grownBy W1 (some b) by rw [<-hW1];exact vH (fO _ _) _)
 have HM:=ah (jy (z:=⟨#[91]⟩) hr1 hm);have HW1:=ah hW1;have HX:=ah hx
 clear h hr1 hm hx hW1;go_enter Tryz.func205,Tryz.ntmps205
 go_upto_region 1 with fail
 rw [HW1.out];go_wp2_with fail;refine HM.out.mono ?_;rintro e w2 ⟨rfl,hr2,hg2⟩
 have HG2:=ah (dU wC.out hg2);have HS:=ah (ZY hr2 HX.out);clear hr2 hg2;go_wp2_with fail
 refine HS.out.mono ?_;rintro e w3 ⟨rfl,hg3⟩;exact ⟨rfl,rfl,dU HG2.out hg3⟩
theorem ahW {q0:Nat×Nat} {b:Nat} {l:List Lex.Tok} {w:World} (h:RS q0 b l w):Calls Tryz.prog 205 #[.pointer (some ⟨b,0,none⟩)] w (RQ q0 b w (Cy.qG l)):=by
 cases hm:Cy.mark [91] l with
 | some r=>exact ahU h hm
 | none=>
  cases hs:Cy.nK l with
  | none=>
   refine (ahV h hm hs).mono ?_;rintro e w' ⟨rfl,hg⟩;refine ⟨hg, ?_⟩
   have:Cy.qG l=none:=by unfold Cy.qG;rw [hm];simp only;rw [hs];rfl
   rw [this]
  | some q=>
   obtain ⟨⟨k,n,x⟩,r⟩:=q;refine (ahR h hm hs).mono ?_;rintro e w' ⟨u,rfl,h1,h2,h3⟩
   refine ⟨h3, ?_⟩
   have:Cy.qG l=some (⟨k,n,x, [], []⟩,r):=by unfold Cy.qG;rw [hm];simp only;rw [hs];rfl
   rw [this];exact ⟨u,rfl,h1,h2⟩
def dJ (W:World) (B:Nat) (x:Gr.P×List Value):Prop:=
 ∃s t,x.2= [ST x.1.key, .int .i64 x.1.val.kind, .int .i64 x.1.val.num,ST x.1.val.text,s,t]/\W.ownsRow B 2 1 s x.1.val.nums.length (x.1.val.nums.map I64)/\W.ownsRow B 9 1 t x.1.val.texts.length (x.1.val.texts.map ST)
theorem dJ.of {W:World} {B:Nat} {u:Value} {v:ak.V} (h:rQ W B u v) (key:List UInt8): ∃cs,u= .agg cs.toArray/\dJ W B (⟨key,v⟩,ST key :: cs):=by
 obtain ⟨s,t,e,h1,h2⟩:=h.ex
 exact ⟨[.int .i64 v.kind, .int .i64 v.num, .string ⟨v.text.toArray⟩,s,t],e,s,t,rfl,h1,h2⟩
theorem dJ.step {w w':World} {B b:Nat} {x:Gr.P×List Value} (h:dJ w B x) (hg:w.grownBy w' (some b)) (hb:b<B):dJ w' B x:=by
 obtain ⟨s,t,e,h1,h2⟩:=h;exact ⟨s,t,e,iw h1 hg hb,iw h2 hg hb⟩
theorem dJ.row {w w':World} {B:Nat} {row:Option Nat} {x:Gr.P×List Value} (h:dJ w B x) (hg:w.grownBy w' row) (hty: ∀g c t fz,row=some g->w.heap[g]?=some (.cells c t fz)->t≠2/\t≠9):dJ w' B x:=by
 obtain ⟨s,t,e,h1,h2⟩:=h
 exact ⟨s,t,e,dS h1 hg fun g c t' fz hr hc=>(hty g c t' fz hr hc).1,dS h2 hg fun g c t' fz hr hc=>(hty g c t' fz hr hc).2⟩
theorem dJ.base {w:World} {B B':Nat} {x:Gr.P×List Value} (h:dJ w B x) (hb:B'<=B):dJ w B' x:=by
 obtain ⟨s,t,e,h1,h2⟩:=h;exact ⟨s,t,e,own_base h1 hb,own_base h2 hb⟩
def aV (T:TypeId) (W:World) (B:Nat) (v:Value) (ps:List Gr.P):Prop:=
 ∃l:List (Gr.P×List Value),l.map Prod.fst=ps/\(∀x∈l,dJ W B x)/\W.ownsRow B T 6 v ps.length (l.flatMap Prod.snd)
theorem aV.nil (T:TypeId) (W:World) (B:Nat):aV T W B (.slice none 0 0) []:=⟨[],rfl,by simp,World.ownsRow_nil _ _ _ _⟩
theorem aV.step {T:TypeId} {w w':World} {B b:Nat} {v:Value} {ps:List Gr.P} (h:aV T w B v ps) (hg:w.grownBy w' (some b)) (hb:b<B):aV T w' B v ps:=by
 obtain ⟨l,e,h1,h2⟩:=h;exact ⟨l,e,fun x hx=>(h1 x hx).step hg hb,iw h2 hg hb⟩
theorem aV.base {T:TypeId} {w:World} {B B':Nat} {v:Value} {ps:List Gr.P} (h:aV T w B v ps) (hb:B'<=B):aV T w B' v ps:=by
 obtain ⟨l,e,h1,h2⟩:=h;exact ⟨l,e,fun x hx=>(h1 x hx).base hb,own_base h2 hb⟩
theorem aV.put {T:TypeId} {w w':World} {B:Nat} {v v':Value} {ps:List Gr.P} {p:Gr.P} {cs:List Value} {l:List (Gr.P×List Value)} (hT:T≠2/\T≠9) (hl:l.map Prod.fst=ps) (h1: ∀x∈l,dJ w B x) (hp:dJ w B (p,cs))
  (hv:w.ownsRow B T 6 v ps.length (l.flatMap Prod.snd)) (hg:w.grownBy w' v.ownBlock) (hown:w'.ownsRow B T 6 v' (ps.length+1) (l.flatMap Prod.snd ++ cs)):aV T w' B v' (ps ++ [p]):=by
 have hty: ∀g c t fz,v.ownBlock=some g->w.heap[g]?=some (.cells c t fz)->t≠2/\t≠9:=fun g c t fz hr hc=>by
  obtain ⟨-,c',hc'⟩:=mG hv g hr;rw [hc'] at hc;cases hc;exact hT
 refine ⟨l ++ [(p,cs)],by rw [ade,hl];rfl,fun x hx=> ?_, ?_⟩
 ·rcases acU.1 hx with hx | hx
  ·exact (h1 x hx).row hg hty
  rw [adg.1 hx];exact hp.row hg hty
 rw [dA,ad4]
 simpa using hown
def RU {α:Type} (q0:Nat×Nat) (b:Nat) (w:World) (R:World->Value->α->Prop) (o:Option (α×List Lex.Tok)) (e:Ending) (w':World):Prop:=
 w.grownBy w' (some b)/\match o with
  | none=>e= .panicked zO
  | some (v,r)=> ∃u,e= .returned u/\R w' u v/\RS q0 b r w'
theorem ahX:(Tryz.prog.info? 212).map (fun i=>(i.zero,i.size,i.bytes))=some (some (.agg #[.string ⟨#[]⟩, .int .i64 0, .int .i64 0, .string ⟨#[]⟩, .slice none 0 0, .slice none 0 0]),6,96):=by kernel_rfl
theorem aaf {q0:Nat×Nat} {b:Nat} {l:List Lex.Tok} {w:World} (h:RS q0 b l w):
  Calls Tryz.prog 146 #[.pointer (some ⟨b,0,none⟩)] w (RU q0 b w (fun W u v=>aV 212 W w.heap.size u v) (Cy.o9 l)):=by
 obtain ⟨o,ho⟩: ∃o,Cy.o9 l=o:=⟨_,rfl⟩;rw [ho];unfold Cy.o9 at ho;have hu:=lD
 have aB:=ah h.lt;cases hc:Cy.mark [123] l with
 | none=>
  rw [hc] at ho;have HM:=ah (jy (z:=⟨#[123]⟩) h hc);have HO:=ah ho;clear hc ho h
  go_enter Tryz.func146,Tryz.ntmps146;go_wp2_with fail;refine HM.out.mono ?_
  rintro e w1 ⟨rfl,hr,hg⟩;have HR:=ah hr;have HG:=ah hg;clear hr hg;go_wp2;go_ret
  exact ⟨HG.out,by rw [<-HO.out];exact ⟨_,rfl,aV.nil _ _ _,HR.out⟩⟩
 | some r1=>
 rw [hc] at ho;have HM:=ah (jP (z:=⟨#[123]⟩) h hc);cases hc2:Cy.mark [125] r1 with
 | some r2=>
  try simp only at ho
  rw [hc2] at ho;have HO:=ah ho;have HC:=ah hc2;clear hc hc2 ho h
  go_enter Tryz.func146,Tryz.ntmps146;go_wp2_with fail;refine HM.out.mono ?_
  rintro e w1 ⟨rfl,hr,hg⟩;have rC:=ah (jP (z:=⟨#[125]⟩) hr HC.out);have HG:=ah hg
  clear hr hg;go_wp2_with fail;refine rC.out.mono ?_;rintro e w2 ⟨rfl,hr,hg⟩
  have HR:=ah hr;have HG2:=ah (dU HG.out hg);clear hr hg;go_wp2;go_ret
  exact ⟨HG2.out,by rw [<-HO.out];exact ⟨_,rfl,aV.nil _ _ _,HR.out⟩⟩
 | none=>
 try simp only at ho
 rw [hc2] at ho
 try simp only at ho
 have HO:=ah ho;have HC:=ah hc2;clear hc hc2 ho h;go_enter Tryz.func146,Tryz.ntmps146
 go_wp2_with fail;refine HM.out.mono ?_;rintro e w1 ⟨rfl,hr,hg⟩
 have rC:=ah (jy (z:=⟨#[125]⟩) hr HC.out);have HG:=ah hg;clear hr hg;go_wp2_with fail
 refine rC.out.mono ?_;rintro e w2 ⟨rfl,hr,hg⟩;have HR:=ah hr;have HG2:=ah (dU HG.out hg)
 clear hr hg HG HM rC HC;go_wp2_with fail
 go_loopg [2] (r1.length+1) (fun g x2 wr=> ∃l' acc A c,x2= .slice A acc.length c/\RS q0 b l' wr/\w.grownBy wr (some b)/\aV 212 wr w.heap.size (.slice A acc.length c) acc/\l'.length<g/\Hid (Cy.xG g l' acc=o)/\acc.length+l'.length<=16777216)
 case atStart=>exact ⟨r1, [],none,0,rfl,HR.out,HG2.out,aV.nil _ _ _,by omega,HO.out,by have:=HR.out.len;simp;omega⟩
 obtain ⟨l',acc,A,c,rfl,hr,hg,hp,jF,HE,hal⟩:=hrel;have HR:=ah hr;have HG:=ah hg
 have HP:=ah hp;have uF:=ah hal;have qR:=ah jF;clear hr hg hp hal HO HG2;cases gk with
 | zero=>omega
 | succ f=>
 have he:_=o:=HE;rw [Cy.xG] at he;clear jF HE;cases hc:Cy.jg l' with
 | none=>
  rw [hc] at he;have HM:=ah (Dz HR.out hc);have HO:=ah he;clear hc he;go_wp2_with fail
  refine HM.out.mono ?_;rintro e w3 ⟨rfl,hg3⟩;exact ⟨rfl,dU HG.out hg3,by rw [<-HO.out]⟩
 | some q=>
 obtain ⟨key,l1⟩:=q;rw [hc] at he
 try simp only at he
 have hwd:=Dy HR.out hc;obtain ⟨zk,jk⟩: ∃z:ByteArray,(⟨key.toArray⟩:ByteArray)=z:=⟨_,rfl⟩
 rw [jk] at hwd;have HM:=ah hwd;have Oi:=ah jk;have HE:=ah he
 have dQ:=ah (Cy.zA hc HR.out.ok).2.2.1;clear hc he hwd jk;go_wp2_with fail
 refine HM.out.mono ?_;rintro e w3 ⟨rfl,hr3,hg3⟩;have HR3:=ah hr3
 have wE:=ah (dU HG.out hg3);have D9:=ah (HP.out.step hg3 aB.out)
 clear hr3 hg3 HR HG HP HM;cases hc:Cy.mark [58] l1 with
 | none=>
  have HM:=ah (jy (z:=⟨#[58]⟩) HR3.out hc);have he:=HE.out;rw [hc] at he;have HO:=ah he
  clear hc he;go_wp2_with fail;refine HM.out.mono ?_;rintro e w4 ⟨rfl,hr4,hg4⟩
  have sO:=ah (dU wE.out hg4);clear hr4 hg4;go_wp2_with fail;refine (lH _ _).mono ?_
  rintro e w5 ⟨rfl,rfl⟩;exact ⟨rfl,sO.out,by rw [<-HO.out]⟩
 | some l2=>
 have HM:=ah (jP (z:=⟨#[58]⟩) HR3.out hc);have he:=HE.out;rw [hc] at he
 try simp only at he
 have HE2:=ah he;have HL2:=ah (Cy.gJ hc).2;clear hc he HE;go_wp2_with fail
 refine HM.out.mono ?_;rintro e w4 ⟨rfl,hr4,hg4⟩;have HR4:=ah hr4
 have sO:=ah (dU wE.out hg4);have HP4:=ah (D9.out.step hg4 aB.out)
 clear hr4 hg4 HR3 wE D9 HM;go_wp2_with fail;refine (kS _ _).mono ?_;rintro e w5 ⟨rfl,rfl⟩
 have lX:=ah (ahW HR4.out);cases hc:Cy.qG l2 with
 | none=>
  have he:=HE2.out;rw [hc] at he lX;have HO:=ah he;clear hc he;go_wp2_with fail
  refine lX.out.mono ?_;rintro e w6 ⟨uO,rfl⟩;exact ⟨rfl,dU sO.out uO,by rw [<-HO.out]⟩
 | some q=>
 obtain ⟨v,l3⟩:=q;have he:=HE2.out;rw [hc] at he lX
 try simp only at he
 have fJ:=ah he;have nT:=ah (Cy.Zu hc HR4.out.ok HR4.out.len).2.2;clear hc he HE2
 go_wp2_with fail;refine lX.out.mono ?_;rintro e w6 ⟨uO,u,rfl,hv6,hr6⟩;have ru:=ah hr6
 have sQ:=ah (dU sO.out uO);have Ux:=ah (HP4.out.step uO aB.out)
 have akS:w.heap.size<=w4.heap.size:=sO.out.size
 have akT:w.heap.size<=w6.heap.size:=sQ.out.size;obtain ⟨s,t,rfl,Uy,Uz⟩:=hv6.ex
 obtain ⟨A1,c1,rfl⟩:=aJ Uy;obtain ⟨A2,c2,rfl⟩:=aJ Uz
 have Ea:=ah (show dJ w6 w.heap.size (⟨key,v⟩, [ST key, .int .i64 v.kind, .int .i64 v.num,ST v.text, .slice A1 v.nums.length c1, .slice A2 v.texts.length c2]) from ⟨_,_,rfl,own_base Uy (by omega),own_base Uz (by omega)⟩)
 obtain ⟨ll,e1,e2,e3⟩:=Ux.out;obtain ⟨al,hal⟩: ∃n,acc.length=n:=⟨_,rfl⟩;rw [hal] at e3 Ux⊢
 have akU:al<536870912:=by have:=uF.out;omega
 have H1:=ah e1;have H2:=ah e2;have H3:=ah e3;have lY:=ah hal
 obtain ⟨zv,hzv⟩: ∃z:ByteArray,(⟨v.text.toArray⟩:ByteArray)=z:=⟨_,rfl⟩;have HZV:=ah hzv
 rw [hzv];clear uO hv6 hr6 Uy Uz e1 e2 e3 hal hzv HR4 sO HP4 lX akS
 go_wp2_with (at_builtin;refine Yt rfl (.tmp 17) (.tmp 22) 100 212 (.agg #[.string ⟨#[]⟩, .int .i64 0, .int .i64 0, .string ⟨#[]⟩, .slice none 0 0, .slice none 0 0]) 6 96 Tryz.underlying100 ahX rfl (by decide) (by decide) rfl w.heap.size (.slice A al c) al (ll.flatMap Prod.snd) w6 rfl H3.out [.string zk, .int .i64 v.kind, .int .i64 v.num, .string zv, .slice A1 v.nums.length c1, .slice A2 v.texts.length c2] _ rfl rfl (by simp [Value.oneCell']) rfl akU akT ?_)
 intro v9 w9 aN bC dO aF;obtain ⟨A9,c9,rfl⟩:=aJ aN;have hpo:=Ea.out
 have hst1:ST key= .string zk:=by rw [<-Oi.out];rfl
 have hst2:ST v.text= .string zv:=by rw [<-HZV.out];rfl
 rw [hst1,hst2] at hpo
 have UA:=ah (aV.put (T:=212) (v:= .slice A acc.length c) (v':= .slice A9 (al+1) c9) (ps:=acc) ⟨by decide,by decide⟩ H1.out H2.out hpo (by rw [lY.out];exact H3.out) (by rw [lY.out];exact bC) (by rw [lY.out];exact aN))
 have uN:=ah (ru.out.below aF aB.out)
 have JU:=ah (show w.grownBy w9 (some b) from ⟨aF.os.trans sQ.out.os,aF.tape.trans sQ.out.tape,aF.output.trans sQ.out.output,ab5 sQ.out.size aF.size,fun i hi hne=>(aF.block i hi).trans (sQ.out.block i hi hne)⟩)
 have Eb:(acc ++ [(⟨key,v⟩:Gr.P)]).length=al+1:=by rw [dA,lY.out];rfl
 have HLEN:=ah Eb;clear aN bC dO aF hpo hst1 hst2 Eb ru sQ Ux Ea H1 H2 H3
 cases hc:Cy.mark [125] l3 with
 | some l4=>
  have HM:=ah (jP (z:=⟨#[125]⟩) uN.out hc);have he:=fJ.out;rw [hc] at he;have HO:=ah he
  clear hc he;go_wp2_with fail;refine HM.out.mono ?_;rintro e w10 ⟨rfl,JV,Ec⟩
  have zX:=ah JV;have JW:=ah (dU JU.out Ec);have Oj:=ah (UA.out.step Ec aB.out)
  clear JV Ec;go_wp2;go_ret;exact ⟨JW.out,by rw [<-HO.out];exact ⟨_,rfl,Oj.out,zX.out⟩⟩
 | none=>
 have HM:=ah (jy (z:=⟨#[125]⟩) uN.out hc);have he:=fJ.out;rw [hc] at he;have nV:=ah he
 clear hc he fJ;go_wp2_with fail;refine HM.out.mono ?_;rintro e w10 ⟨rfl,JV,Ec⟩
 have zX:=ah JV;have JW:=ah (dU JU.out Ec);have Oj:=ah (UA.out.step Ec aB.out)
 clear JV Ec uN JU UA HM;cases hc:Cy.mark [44] l3 with
 | none=>
  have HM:=ah (jy (z:=⟨#[44]⟩) zX.out hc);have he:=nV.out
  try simp only at he
  rw [hc] at he;have HO:=ah he;clear hc he;go_wp2_with fail;refine HM.out.mono ?_
  rintro e zU ⟨rfl,Ol,GI⟩;have UC:=ah (dU JW.out GI);clear Ol GI;go_wp2_with fail
  refine (lH _ _).mono ?_;rintro e w12 ⟨rfl,rfl⟩;exact ⟨rfl,UC.out,by rw [<-HO.out]⟩
 | some l4=>
  have HM:=ah (jP (z:=⟨#[44]⟩) zX.out hc);have he:=nV.out
  try simp only at he
  rw [hc] at he;have zW:=ah he;have JX:=ah (Cy.gJ hc).2;clear hc he;go_wp2_with fail
  refine HM.out.mono ?_;rintro e zU ⟨rfl,Ol,GI⟩;have zV:=ah Ol;have UC:=ah (dU JW.out GI)
  have akW:=ah (Oj.out.step GI aB.out);clear Ol GI zX JW Oj;go_wp2_with fail
  refine (kS _ _).mono ?_;rintro e w12 ⟨rfl,rfl⟩;go_wp2
  go_roundg f
  case measure=>omega
  refine ⟨l4,acc ++ [(⟨key,v⟩:Gr.P)],A9,c9,by rw [HLEN.out],zV.out,UC.out, ?_, ?_,zW, ?_⟩
  ·rw [HLEN.out];exact akW.out
  ·have:=qR.out;have:=dQ.out;have:=HL2.out;have:=nT.out;have:=JX.out;omega
  have:=uF.out;have:=lY.out;have:=dQ.out;have:=HL2.out;have:=nT.out;have:=JX.out;rw [HLEN.out];omega
theorem FP {ops:Array Oper} {o:Oper} {a:Act} {K:Act->World->Prop} {Q:Exit->Act->World->Prop} {E:Prop} (f:FuncId) {args:Array Value} {W:World} {R:Value->World->Prop} (hgd:o.guard=none)
  (he:(execOp a.eval o).run Tryz.prog W= .ok (.enter f args) W) (hc:Calls Tryz.prog f args W fun e w'=> ∃v,e= .returned v/\R v w') (k: ∀v w',R v w'->K (a.put o.dst v) w'):
  if Region.wanted o (yielded ops a.tmps)=true then Oper.wp Tryz.prog o a W K Q else E:=by
 have hw:Region.wanted o (yielded ops a.tmps)=true:=by simp [Region.wanted,hgd]
 rw [ab7 hw];unfold Oper.wp;rw [he];refine hc.mono ?_;rintro e w' ⟨v,rfl,h⟩;exact k v w' h
theorem aag {f:FuncId} {args:Array Value} {W:World} {u:Value} {R:World->Prop} (h:Calls Tryz.prog f args W fun e w'=>e= .returned u/\R w'):Calls Tryz.prog f args W fun e w'=> ∃v,e= .returned v/\(v=u/\R w'):=
 h.mono fun _ _ ⟨he,hr⟩=>⟨u,he,rfl,hr⟩
theorem FQ {ops:Array Oper} {o:Oper} {a:Act} {K:Act->World->Prop} {Q:Exit->Act->World->Prop} {E:Prop} (hgd:o.guard=none) (s x:Operand) (T e:TypeId) (z:Value) (sz bytes:Nat)
  (hT:Tryz.prog.underlying T=some (.slice e)) (hinfo:(Tryz.prog.info? e).map (fun i=>(i.zero,i.size,i.bytes))=some (some z,sz,bytes)) (hz:z.cells.size=sz) (hsz:0<sz) (hby:bytes<=200)
  (ho:o.op= .call {callee:= .builtin .append,args:= #[s,x],argTypes:= #[T,T]})
  (B:Nat) (v:Value) (n:Nat) (xs:List Value) (W:World) (hs:a.eval s=v) (h:W.ownsRow B e sz v n xs) (news:List Value) (cs:Array Value) (hcs:cs=news.toArray) (hnl:news.length=sz) (hu: ∀u∈news,u.oneCell'=true)
  (hx:a.eval x= .slice (some ⟨W.heap.size,0,none⟩) 1 1) (hl:n<536870912) (hB:B<=W.heap.size)
  (k: ∀v' w',w'.ownsRow B e sz v' (n+1) (xs ++ news)->W.grownBy w' v.ownBlock->(v'.ownBlock=v.ownBlock\/ ∃g,v'.ownBlock=some g/\W.heap.size<=g)->Below B W w'->K (a.put o.dst v') w'):
  if Region.wanted o (yielded ops a.tmps)=true then Oper.wp Tryz.prog o a (W.alloc (.cells cs e)) K Q else E:=by
 subst hcs;have hw:Region.wanted o (yielded ops a.tmps)=true:=by simp [Region.wanted,hgd]
 rw [ab7 hw];obtain ⟨i0,hi,hz0,hz1,hz2⟩:=info_parts hinfo
 have hnews: ∀j u',news[j]?=some u'->(W.alloc (.cells news.toArray e)).cell? ((⟨W.heap.size,0,none⟩:Addr).add j)=some u':=Yr _ _ _
 obtain ⟨v',w',hrun,h2,h3,h4,h5⟩:=run_append_own_at (P:=Tryz.prog) (W.alloc (.cells news.toArray e)) B T o.type e i0 z sz bytes hT hi hz0 hz1 hz2 hz hsz v n xs (World.ownsRow.alloc h _) ⟨W.heap.size,0,none⟩ 1 1 news (by omega) hnews hu (by unfold maxLen;omega) (by
  have:(n+1)*bytes<=536870912*200:=alj (by omega) hby
  omega) (by simp;omega)
 unfold Oper.wp execOp
 simp only [ho,resolve,invoke,builtin,Sem.run_bind,Sem.run_pure,Result.andThen_ok,anx,adA,aek,hs,hx,hrun]
 refine k v' w' h2 (dU (vH (fO W _) _) h3) (h5.imp id (fun h=>⟨_,h,by simp⟩)) ?_
 exact ((Below.refl B W).alloc hB _).grown h3 (by simp;omega) (fun j e=>(World.ownsRow.lt h j e).1)
end Go.Proofs.YtoofbflplhbpbaaGreatDoor
