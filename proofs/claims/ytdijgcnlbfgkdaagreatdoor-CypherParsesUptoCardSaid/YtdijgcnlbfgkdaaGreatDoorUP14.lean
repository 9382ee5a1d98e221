/- Lemmas. -/
import Derived.Test.YtdijgcnlbfgkdaaGreatDoorUP12
import Derived.Test.YtdijgcnlbfgkdaaGreatDoorUP13
set_option maxHeartbeats 64000000
set_option maxRecDepth 1000000
set_option linter.all false
namespace Go.Proofs.YtdijgcnlbfgkdaaGreatDoor
open Go.RowKit Go.Proofs.Tryz
def fP {w w':World} {B e k n b:Nat} {v:Value} {xs:List Value} (h:w.ownsRow B e k v n xs) (hg:w.grownBy w' (some b)) (hb:b<B):w'.ownsRow B e k v n xs:=
 h.kept hg (.inr fun e=>by have:=(mW h b e).1;omega)
def uw.step {w w':World} {B b:Nat} {u:Value} {v:au.V} (h:uw w B u v) (hg:w.grownBy w' (some b)) (hb:b<B):uw w' B u v:=by
 obtain⟨s,t,e,h1,h2⟩:=h.ex;exact⟨s,t,e,fP h1 hg hb,fP h2 hg hb⟩
structure iZ (w:World) (b:Nat) (k:Int) (ns:List Int) (ts:List (List UInt8)) (V:World):Prop where
 ex: ∃s t,ak V w.heap.size 43 #[.int .i64 k,.int .i64 0,.string ⟨#[]⟩,s,t]/\V.ownsRow (w.heap.size+1) 2 1 s ns.length (ns.map I64)/\V.ownsRow (w.heap.size+1) 9 1 t ts.length (ts.map ST)
 gr:w.grownBy V (some b)
def iZ.step {w V V':World} {b:Nat} {k:Int} {ns:List Int} {ts:List (List UInt8)} (h:iZ w b k ns ts V) (hb:b<w.heap.size) (hg:V.grownBy V' (some b)):iZ w b k ns ts V':=by
 obtain⟨s,t,h1,h2,h3⟩:=h.ex;exact⟨⟨s,t,h1.grown hg (fun e=>by have:=aeM e;omega),fP h2 hg (by omega),fP h3 hg (by omega)⟩,aS h.gr hg⟩
def RS.grown {q0:Nat×Nat} {b g:Nat} {l:List Lex.Tok} {w w':World} (h:RS q0 b l w) (hg:w.grownBy w' (some g)) (hlt:b<g):RS q0 b l w':=by
 obtain⟨A,n,c,k,ts,hk,h1,h2,h3,h4,h5⟩:=h.ex;have hb:Below b w w':=⟨hg.os,hg.tape,hg.output,hg.size,fun i hi=>hg.block i (by have:=hk.lt;omega) (fun e=>by have:=aeM e;omega)⟩
 exact⟨⟨A,n,c,k,ts,hk.grown hg (fun e=>by have:=aeM e;omega),h1,h2,h3,h4,h5.below (hb.mono (Nat.min_le_left _ _))⟩,h.ok,by obtain⟨A,c,v,ht⟩:=h.tot;exact⟨A,c,v,ht.grown hg (fun e=>by have:=aeM e;omega)⟩⟩
def ak.aeC {W:World} {g:Nat} {t:TypeId} {v0 v1 v2 v3 v4:Value} (h:ak W g t #[v0,v1,v2,v3,v4]):
  ak (((((W.setCell ⟨g,0,none⟩ v0).setCell ⟨g,1,none⟩ v1).setCell ⟨g,2,none⟩ v2).setCell ⟨g,3,none⟩ v3).setCell ⟨g,4,none⟩ v4) g t #[v0,v1,v2,v3,v4]:=by
 have:=((((h.aG 0 v0).aG 1 v1).aG 2 v2).aG 3 v3).aG 4 v4
 simpa using this
def DV {w W:World} {g:Nat} (h:w.grownBy W (some g)) (i:Nat) (u:Value):w.grownBy (W.setCell ⟨g,i,none⟩ u) (some g):=aS h (grownBy_set W ⟨g,i,none⟩ u)
def Ql {w W:World} {g:Nat} (h:w.grownBy W (some g)) (v0 v1 v2 v3 v4:Value):w.grownBy (((((W.setCell ⟨g,0,none⟩ v0).setCell ⟨g,1,none⟩ v1).setCell ⟨g,2,none⟩ v2).setCell ⟨g,3,none⟩ v3).setCell ⟨g,4,none⟩ v4) (some g):=
 DV (DV (DV (DV (DV h 0 v0) 1 v1) 2 v2) 3 v3) 4 v4
def aj1 {q0:Nat×Nat} {b:Nat} {k n:Int} {x:List UInt8} {l r:List Lex.Tok} {w:World} (h:RS q0 b l w) (hm:Cy.mark [91] l=none) (hx:Cy.mZ l=some ((k,n,x),r)):
  Calls prog 140 #[.pointer (some ⟨b,0,none⟩)] w fun e w'=> ∃u,e=.returned u/\uw w' (w.heap.size+1) u ⟨k,n,x,[],[]⟩/\RS q0 b r w'/\w.grownBy w' (some b):=by
 have hlt:=h.lt;have hr1:=h.kept ((aoa _ w).alloc (aej _) (.cells #[.int .i64 0,.int .i64 0,.string ⟨#[]⟩,.slice none 0 0,.slice none 0 0] 43));obtain⟨W1,hW1⟩:=aj (w.alloc (.cells #[.int .i64 0,.int .i64 0,.string ⟨#[]⟩,.slice none 0 0,.slice none 0 0] 43));rw[hW1]at hr1;have k1:ak W1 w.heap.size 43 #[.int .i64 0,.int .i64 0,.string ⟨#[]⟩,.slice none 0 0,.slice none 0 0]:=by rw[<-hW1];exact ak.new _ _ _
 have dO:=ah (show w.grownBy W1 (some b) by rw[<-hW1];exact Bj (iw _ _) _)
 refine gq5 (kD (z:=⟨#[91]⟩) hr1 hm) hW1 k1 hlt hx fun HM HW1 dw aA HX=>?_;obtain⟨zx,hzx⟩:=aj (⟨x.toArray⟩:ByteArray);have yR:=ah hzx;clear h hr1 hm hx hW1 k1 hlt hzx;go_enter func140,ntmps140
 go_upto_region 1 with fail
 rw[HW1.out];go_wp2_with fail;refine tq8 HM fun w2 hr2 hg2=>?_;have HG2:=ah (aS dO.out hg2);have aP:=ah (dw.grown hg2 (fun e=>by have:=aeM e;have:=aA.out;omega))
 have hs:=abY hr2 HX.out;rw[yR.out]at hs;have HS:=ah hs;clear hr2 hg2 hs;go_wp2_with fail;refine tq8 HS fun w3 hr3 hg3=>?_;refine gq3 (aS HG2.out hg3) (aP.grown hg3 (fun e=>by have:=aeM e;have:=aA.out;omega)) hr3 fun jU dX HR3=>?_
 clear hr3 hg3;obtain⟨a0,a1,a2,a3,a4,-⟩:=gQ dX.out;have f0:=dX.frozen 0;have f1:=dX.frozen 1;have f2:=dX.frozen 2;have f3:=dX.frozen 3;have f4:=dX.frozen 4;go_wp2;have hk4:=((dX.aG 0 (.int .i64 k)).aG 1 (.int .i64 n)).aG 2 (.string zx);simp at hk4;have hg5:=Ql (DV (DV (DV (iw w3 (some w.heap.size)) 0 (.int .i64 k)) 1 (.int .i64 n)) 2 (.string zx)) (.int .i64 k) (.int .i64 n) (.string zx) (.slice none 0 0) (.slice none 0 0);refine ret_val rfl rfl hk4.aeC ⟨_,rfl,⟨.slice none 0 0,.slice none 0 0,by rw[<-yR.out],arU _ _ _ _,arU _ _ _ _⟩,HR3.grown hg5 aA.out,vC jU.out hg5 (fun i hi=>by cases hi;exact aej _)⟩
def U3 (q0:Nat×Nat) (b:Nat) (w:World) (o:Option (au.V×List Lex.Tok)) (e:Ending) (w':World):Prop:=
 w.grownBy w' (some b)/\match o with
  |none=>e=.panicked BX
  |some (v,r)=> ∃u,e=.returned u/\uw w' (w.heap.size+1) u v/\RS q0 b r w'
def iZ.nums {w V V':World} {b:Nat} {k n:Int} {ns:List Int} {ts:List (List UInt8)} {s t v:Value} (h:iZ w b k ns ts V) (hb:b<w.heap.size)
  (hk:ak V w.heap.size 43 #[.int .i64 k,.int .i64 0,.string ⟨#[]⟩,s,t]) (hs:V.ownsRow (w.heap.size+1) 2 1 s ns.length (ns.map I64)) (ht:V.ownsRow (w.heap.size+1) 9 1 t ts.length (ts.map ST))
  (hown:V'.ownsRow (w.heap.size+1) 2 1 v (ns.length+1) (ns.map I64++[I64 n])) (hg:V.grownBy V' s.ownBlock) (hbl:Below (w.heap.size+1) V V'):iZ w b k (ns++[n]) ts (V'.setCell ⟨w.heap.size,3,none⟩ v):=by
 have hne:some w.heap.size≠s.ownBlock:=fun e=>by have:=(mW hs _ e.symm).1;omega
 have hset:=grownBy_set V' ⟨w.heap.size,3,none⟩ v;have hk':=(hk.grown hg hne).aG 3 v;simp at hk';refine⟨⟨v,t,hk', ?_, ?_⟩, ?_⟩
 ·have:=fP hown hset (aeX _)
  rw[aeo,afg];exact this
 ·refine fP (eu ht hg fun g c t' fz hr hc=> ?_) hset (aeX _)
  obtain⟨-,c',hc'⟩:=mW hs g hr;rw[hc']at hc;cases hc
  decide
 have h1:w.grownBy V' (some b):=⟨hbl.os.trans h.gr.os,hbl.tape.trans h.gr.tape,hbl.output.trans h.gr.output,aep h.gr.size hbl.size,fun i hi hne=>(hbl.block i (by omega)).trans (h.gr.block i hi hne)⟩
 exact vC h1 hset (fun i e=>by cases e;exact aej _)
def iZ.texts {w V V':World} {b:Nat} {k:Int} {x:List UInt8} {ns:List Int} {ts:List (List UInt8)} {s t v:Value} (h:iZ w b k ns ts V) (hb:b<w.heap.size)
  (hk:ak V w.heap.size 43 #[.int .i64 k,.int .i64 0,.string ⟨#[]⟩,s,t]) (hs:V.ownsRow (w.heap.size+1) 2 1 s ns.length (ns.map I64)) (ht:V.ownsRow (w.heap.size+1) 9 1 t ts.length (ts.map ST))
  (hown:V'.ownsRow (w.heap.size+1) 9 1 v (ts.length+1) (ts.map ST++[ST x])) (hg:V.grownBy V' t.ownBlock) (hbl:Below (w.heap.size+1) V V'):iZ w b k ns (ts++[x]) (V'.setCell ⟨w.heap.size,4,none⟩ v):=by
 have hne:some w.heap.size≠t.ownBlock:=fun e=>by have:=(mW ht _ e.symm).1;omega
 have hset:=grownBy_set V' ⟨w.heap.size,4,none⟩ v;have hk':=(hk.grown hg hne).aG 4 v;simp at hk';refine⟨⟨s,v,hk', ?_, ?_⟩, ?_⟩
 ·refine fP (eu hs hg fun g c t' fz hr hc=> ?_) hset (aeX _)
  obtain⟨-,c',hc'⟩:=mW ht g hr;rw[hc']at hc;cases hc
  decide
 ·have:=fP hown hset (aeX _)
  rw[aeo,afg];exact this
 have h1:w.grownBy V' (some b):=⟨hbl.os.trans h.gr.os,hbl.tape.trans h.gr.tape,hbl.output.trans h.gr.output,aep h.gr.size hbl.size,fun i hi hne=>(hbl.block i (by omega)).trans (h.gr.block i hi hne)⟩
 exact vC h1 hset (fun i e=>by cases e;exact aej _)
def iZ.cells {w V:World} {b:Nat} {k:Int} {ns:List Int} {ts:List (List UInt8)} (h:iZ w b k ns ts V): ∃A1 c1 A2 c2,ak V w.heap.size 43 #[.int .i64 k,.int .i64 0,.string ⟨#[]⟩,.slice A1 ns.length c1,.slice A2 ts.length c2]/\
  V.ownsRow (w.heap.size+1) 2 1 (.slice A1 ns.length c1) ns.length (ns.map I64)/\V.ownsRow (w.heap.size+1) 9 1 (.slice A2 ts.length c2) ts.length (ts.map ST):=by
 obtain⟨s,t,h1,h2,h3⟩:=h.ex;obtain⟨A1,c1,rfl⟩:=aH h2;obtain⟨A2,c2,rfl⟩:=aH h3;exact⟨A1,c1,A2,c2,h1,h2,h3⟩
def iZ.kind {w V:World} {b:Nat} {k:Int} {ns:List Int} {ts:List (List UInt8)} (h:iZ w b k ns ts V) (k':Int):iZ w b k' ns ts (V.setCell ⟨w.heap.size,0,none⟩ (.int .i64 k')):=by
 obtain⟨s,t,h1,h2,h3⟩:=h.ex;have hset:=grownBy_set V ⟨w.heap.size,0,none⟩ (.int .i64 k');have hk:=h1.aG 0 (.int .i64 k');simp at hk;exact⟨⟨s,t,hk,fP h2 hset (aeX _),fP h3 hset (aeX _)⟩,vC h.gr hset (fun i e=>by cases e;exact aej _)⟩
def iZ.told {q0:Nat×Nat} {w V W:World} {b:Nat} {k:Int} {ns:List Int} {ts:List (List UInt8)} {s t:Value} {r:List Lex.Tok} (h:iZ w b k ns ts V) (hb:b<w.heap.size) (hr:RS q0 b r V)
  (h2:V.ownsRow (w.heap.size+1) 2 1 s ns.length (ns.map I64)) (h3:V.ownsRow (w.heap.size+1) 9 1 t ts.length (ts.map ST)) (hg:V.grownBy W (some w.heap.size)):
  U3 q0 b w (some (⟨k,0,[],ns,ts⟩,r)) (.returned (.agg #[.int .i64 k,.int .i64 0,.string ⟨#[]⟩,s,t])) W:=
 ⟨vC h.gr hg (fun i e=>by cases e;exact aej _),_,rfl,⟨s,t,rfl,fP h2 hg (aeX _),fP h3 hg (aeX _)⟩,hr.grown hg hb⟩
def RS.len {q0:Nat×Nat} {b:Nat} {l:List Lex.Tok} {w:World} (h:RS q0 b l w):l.length<=16777216:=by
 obtain⟨A,n,c,k,ts,hk,h1,h2,h3,h4,h5⟩:=h.ex;rw[<-h2,ae1];omega
def RS.below {q0:Nat×Nat} {b B:Nat} {l:List Lex.Tok} {w w':World} (h:RS q0 b l w) (hb:Below B w w') (hlt:b<B):RS q0 b l w':=by
 obtain⟨A,n,c,k,ts,hk,h1,h2,h3,h4,h5⟩:=h.ex;exact⟨⟨A,n,c,k,ts,hk.below hb hlt,h1,h2,h3,h4,h5.below (hb.mono (by omega))⟩,h.ok,by obtain⟨A,c,v,ht⟩:=h.tot;exact⟨A,c,v,ht.below hb hlt⟩⟩
def aj2 {x:List UInt8} {j:Int} (h1:1<=j) (h4:j<=4) (hj:Cy.word j=x) (hn: ∀i:Int,1<=i->i<j->Cy.word i≠x):Cy.kindOf x=j:=by
 subst hj;exact Cy.aju h1 h4
def aj3 {x:List UInt8} (hn: ∀i:Int,1<=i->i<=4->Cy.word i≠x):Cy.kindOf x=0:=by
 unfold Cy.kindOf;rw[aer (fun e=>hn 1 (by omega) (by omega) e.symm),aer (fun e=>hn 2 (by omega) (by omega) e.symm),aer (fun e=>hn 3 (by omega) (by omega) e.symm),aer (fun e=>hn 4 (by omega) (by omega) e.symm)]
def aj6 {q0:Nat×Nat} {b:Nat} {l r1:List Lex.Tok} {w:World} (h:RS q0 b l w) (hm:Cy.mark [91] l=some r1):
  Calls prog 140 #[.pointer (some ⟨b,0,none⟩)] w (U3 q0 b w (Cy.pq l)):=by
 obtain⟨o,ho⟩:=aj (Cy.pq l);rw[ho];unfold Cy.pq at ho;rw[hm]at ho
 try simp only at ho
 have hlt:=h.lt;have hr1:=h.kept ((aoa _ w).alloc (aej _) (.cells #[.int .i64 0,.int .i64 0,.string ⟨#[]⟩,.slice none 0 0,.slice none 0 0] 43));obtain⟨W1,hW1⟩:=aj (w.alloc (.cells #[.int .i64 0,.int .i64 0,.string ⟨#[]⟩,.slice none 0 0,.slice none 0 0] 43));rw[hW1]at hr1;have fB:=ah (show iZ w b 0 [] [] W1 by rw[<-hW1];exact⟨⟨_,_,ak.new _ _ _,arU _ _ _ _,arU _ _ _ _⟩,Bj (iw _ _) _⟩)
 refine gq4 (kW (z:=⟨#[91]⟩) hr1 hm) hW1 hlt ho fun HM HW1 aA HO=>?_;have hu:=o9;clear h hr1 hm hW1 hlt ho;go_enter func140,ntmps140
 go_upto_region 1 with fail
 rw[HW1.out];go_wp2_with fail;refine tq8 HM fun w2 hr2 hg2=>?_;have HL2:=ah (fB.step aA.out hg2);have HR2:=ah hr2;clear hr2 hg2 fB HM HW1;cases hc:Cy.mark [58] r1 with
 |none=>
  have HM:=ah (kD (z:=⟨#[58]⟩) HR2.out hc);have ho:=HO.out;rw[hc]at ho;have jH:=ah ho;clear hc ho;go_wp2_with fail;refine tq8 HM fun w3 hr3 hg3=>?_;have HG:=ah (HL2.step aA.out hg3).gr;clear hr3 hg3;go_wp2_with fail;refine iq7 (og _ _) ?_;exact⟨rfl,HG.out,by rw[<-jH.out]⟩
 |some r2=>
  have HM:=ah (kW (z:=⟨#[58]⟩) HR2.out hc);have ho:=HO.out;rw[hc]at ho;have jH:=ah ho;clear hc ho;go_wp2_with fail;refine tq8 HM fun w3 hr3 hg3=>?_;have rZ:=ah (HL2.step aA.out hg3);have HR3:=ah hr3;clear hr3 hg3 HL2 HR2;go_wp2_with fail;refine iq7 (nD _ _) ?_;cases hc:Cy.dS r2 with
  |none=>
   have HM:=ah (FQ HR3.out hc);have ho:=jH.out
   try simp only at ho
   rw[hc]at ho;have jH:=ah ho;clear hc ho;go_wp2_with fail;refine mq8 HM fun w5 hg=>?_;exact⟨rfl,(rZ.step aA.out hg).gr,by rw[<-jH.out]⟩
  |some xr=>
   obtain⟨x,r3⟩:=xr;have hwd:=FP HR3.out hc;obtain⟨zx,hzx⟩:=aj (⟨x.toArray⟩:ByteArray);rw[hzx]at hwd;have HM:=ah hwd;have yR:=ah (show zx.data.toList=x by rw[<-hzx])
   have ho:=jH.out
   try simp only at ho
   rw[hc]at ho
   try simp only at ho
   have WU:=ah ho;clear hc ho hwd hzx jH;go_wp2_with fail;refine tq8 HM fun w5 hr5 hg5=>?_;have Ju:=ah (rZ.step aA.out hg5);have qV:=ah hr5;clear hr5 hg5 rZ HR3 HM
   go_upto_block 0 with fail
   go_cut [4] (fun s4 wx=> ∃j:Nat,s4=.int .i64 (j:Nat)/\1<=j/\j<=4/\Hid (∀i:Int,1<=i->i<j->Cy.word i≠x)/\(j=4\/Cy.word j=x)/\w5=wx)
   case first=>
    go_wp2_with fail
    go_loopg [4] 4 (fun g s4 wr=> ∃j:Nat,s4=.int .i64 (j:Nat)/\1<=j/\j+g=5/\j<=4/\Hid (∀i:Int,1<=i->i<j->Cy.word i≠x)/\w5=wr)
    case atStart=>exact⟨1,rfl,by omega,by omega,by omega,fun i h1 h2=>by omega,rfl⟩
    obtain⟨j,rfl,hj1,hjg,Jv,HJ,rfl⟩:=hrel;obtain⟨zk,fJ⟩:=aj (⟨(Cy.word j).toArray⟩:ByteArray);have Aj:zk.data.toList=Cy.word j:=by rw[<-fJ]
    have hkw:=U1 j w5 ⟨by omega,by omega⟩
    rw[fJ]at hkw;have Gu:=ah hkw;clear hkw fJ;by_cases hlt:j<4
    ·have t0:decide (j<4)=true:=aei hlt
     have yF:(j:Int)<4:=by omega
     by_cases hw:Cy.word j=x
     ·have t1:(zk.toList == zx.toList)=true:=afc.2 (by rw[aod,aod,Aj,yR.out];exact hw)
      have HW:=ah hw;clear Aj hw;go_wp2_with fail;refine iq8 Gu ?_;go_wp2_with fail;go_meet;exact⟨j,rfl,hj1,Jv,HJ,.inr HW.out,rfl⟩
     have t1:(zk.toList == zx.toList)=false:=aek.2 (by rw[aod,aod,Aj,yR.out];exact hw)
     have oC:Hid (∀i:Int,1<=i->i<((j+1:Nat):Int)->Cy.word i≠x):=fun i h1 h2=>by
      by_cases e:i=j
      ·subst e;exact hw
      exact HJ i h1 (by omega)
     clear Aj hw HJ;go_wp2_with fail;refine iq8 Gu ?_;go_wp2
     go_roundg (4 - j)
     case measure=>omega
     exact⟨j+1,int_eq (by omega),by omega,by omega,by omega,oC,rfl⟩
    have t0:decide (j<4)=false:=dF hlt;have yF:(4:Int)<=j:=by omega
    clear Aj;go_wp2_with fail;go_meet;exact⟨j,rfl,hj1,Jv,HJ,.inl (by omega),rfl⟩
   case rest=>
   obtain⟨j,rfl,hj1,Jv,HJ,hje,rfl⟩:=hcut;obtain⟨zk,fJ⟩:=aj (⟨(Cy.word j).toArray⟩:ByteArray);have Aj:zk.data.toList=Cy.word j:=by rw[<-fJ]
   have hkw:=U1 j w5 ⟨by omega,by omega⟩
   rw[fJ]at hkw;have Gu:=ah hkw;clear hkw fJ;by_cases hw:Cy.word j=x
   case neg=>
    have t1:(zk.toList == zx.toList)=false:=aek.2 (by rw[aod,aod,Aj,yR.out];exact hw)
    obtain rfl:j=4:=hje.resolve_right hw
    have hk0:Cy.kindOf x=0:=aj3 fun i h1 h2=>by
     by_cases e:i=4
     ·subst e;exact hw
     exact HJ i h1 (by omega)
    have ho:=WU.out;rw[hk0,aeu rfl]at ho;have jH:=ah ho;clear Aj hw hk0 ho hje HJ;go_wp2_with fail;refine iq8 Gu ?_;go_wp2_with fail;refine iq7 (og _ _) ?_;exact⟨rfl,Ju.gr,by rw[<-jH.out]⟩
   have t1:(zk.toList == zx.toList)=true:=afc.2 (by rw[aod,aod,Aj,yR.out];exact hw)
   have hk0:Cy.kindOf x=j:=aj2 (by omega) (by omega) hw HJ
   have ho:=WU.out;rw[hk0,aer (by omega)]at ho
   have jH:=ah ho;clear Aj hw hk0 ho hje HJ WU;go_wp2_with fail;refine iq8 Gu ?_;go_wp2_with fail;refine iq7 (nD _ _) ?_;obtain⟨W6,xB⟩:=aj (w5.setCell ⟨w.heap.size,0,none⟩ (.int .i64 ((j:Int)+4)));obtain⟨K,hK⟩:=aj ((j:Int)+4:Int);have QW:=ah (show iZ w b K [] [] W6 by rw[<-xB,<-hK];exact Ju.kind _)
   have oJ:=ah (show RS q0 b r3 W6 by rw[<-xB];exact qV.grown (grownBy_set w5 ⟨w.heap.size,0,none⟩ _) aA.out)
   have Gv:=ah xB;have HKJ:=ah hK;obtain⟨A1,je,A2,jI,hbk,-,-⟩:=Ju.cells;obtain⟨a0,a1,a2,a3,a4,f0,f1,f2,f3,f4⟩:=gQ hbk;have ho:=jH.out;rw[hK]at ho;have HO:=ah ho;clear hbk xB ho jH hK
   go_upto_region 11 with fail
   rw[Gv.out];clear a0 a1 a2 a3 a4 f0 f1 f2 f3 f4 Ju qV;cases hc:Cy.mark [93] r3 with
   |some r4=>
    have HM:=ah (kW (z:=⟨#[93]⟩) oJ.out hc);have ho:=HO.out;rw[hc]at ho;have jH:=ah ho;clear hc ho HO;go_wp2_with fail;refine tq8 HM fun w8 pW lG=>?_;have fF:=ah pW;have qW:=ah (QW.step aA.out lG);clear pW lG HM QW oJ;obtain⟨A1,je,A2,jI,hbk,gq,pX⟩:=qW.cells;obtain⟨a0,a1,a2,a3,a4,f0,f1,f2,f3,f4⟩:=gQ hbk;refine gq3 hbk gq pX fun dP jV xC=>?_;clear hbk gq pX;go_wp2;exact ret_val rfl rfl (P5 dP.out _ _ _ _ _) (by rw[<-jH.out];exact qW.told aA.out fF.out jV.out xC.out (P6 _ _ _ _ _ _ _))
   |none=>
   have HM:=ah (kD (z:=⟨#[93]⟩) oJ.out hc);have ho:=HO.out;rw[hc]at ho;have jH:=ah ho;clear hc ho HO;go_wp2_with fail;refine tq8 HM fun w8 pW lG=>?_;have fF:=ah pW;have qW:=ah (QW.step aA.out lG);clear pW lG HM QW oJ;obtain⟨E,hE⟩:=aj (Cy.elems (j:Int) (r3.length+1) r3 [] []);have ho:=jH.out
   try simp only at ho
   rw[hE]at ho;have HO:=ah ho;have Jw:=ah hE;clear ho hE jH;go_wp2_with fail
   go_loopg [5] (r3.length+1) (fun g x5 wr=> ∃l' ns ts,RS q0 b l' wr/\iZ w b K ns ts wr/\l'.length<g/\Hid (Cy.elems (j:Int) g l' ns ts=E)/\ns.length+l'.length<=16777216/\ts.length+l'.length<=16777216)
   case atStart=>exact⟨r3,[],[],fF.out,qW.out,by omega,Jw.out,by have:=fF.len;simp;omega,by have:=fF.len;simp;omega⟩
   obtain⟨l',ns,ts,hr,hl,kK,HE,hnl,htl⟩:=hrel;refine gq4 hr hl hnl htl fun HR HL jf kJ=>?_;clear hr hl hnl htl Jw fF qW;cases gk with
   |zero=>omega
   |succ f=>
   have he:_=E:=HE;rw[Cy.elems]at he;cases hs:Cy.mZ l' with
   |none=>
    have HS:=ah (abZ HR.out hs);rw[hs]at he;have jH:=ah (show none=o by rw[<-HO.out,<-he];rfl)
    clear hs he HE kK;go_wp2_with fail;refine mq8 HS fun w9 hg=>?_;exact⟨rfl,(HL.step aA.out hg).gr,by rw[<-jH.out]⟩
   |some q=>
   obtain⟨⟨k1,n1,t1⟩,l1⟩:=q;rw[hs]at he;have bY:=ah (show l1.length+1=l'.length from(Cy.UG hs HR.ok).2.2.2.2.2)
   have hsc:=abY HR.out hs;obtain⟨zt,aK⟩:=aj (⟨t1.toArray⟩:ByteArray);rw[aK]at hsc;refine gq4 hsc aK he kK fun HS nP mF uI=>?_;clear hs he HE hsc aK kK;go_wp2_with fail;refine tq8 HS fun w9 jW bC=>?_;have xE:=ah jW;have jJ:=ah (HL.step aA.out bC);clear jW bC HR HL HS;by_cases hk:k1=(j:Int)
   case neg=>
    have tk:(k1 ==(j:Nat))=false:=aek.2 hk;have jH:=ah (show none=o by rw[<-HO.out,<-mF.out,aeu hk];rfl)
    clear hk;go_wp2_with fail;refine iq7 (og _ _) ?_;exact⟨rfl,jJ.gr,by rw[<-jH.out]⟩
   subst hk;have he:=mF.out;rw[aer (by simp)]at he
   have HE2:=ah he;have tk:((j:Int) ==(j:Nat))=true:=beq_self_eq_true _;clear he mF;go_wp2_with fail;refine iq7 (nD _ _) ?_
   go_upto_if 61 with fail
   go_cut [5] (fun s5 wx=>iZ w b K (if(j:Int)=4 then ns else ns++[n1]) (if(j:Int)=4 then ts++[t1] else ts) wx/\RS q0 b l1 wx)
   case first=>
    obtain⟨A1,je,A2,jI,hbk,gq,pX⟩:=jJ.cells;obtain⟨a0,a1,a2,a3,a4,f0,f1,f2,f3,f4⟩:=gQ hbk;have hsz:w.heap.size+1<=w9.heap.size:=hbk.lt;refine gq3 hbk gq pX fun dP jV xC=>?_;obtain⟨nl,hnl⟩:=aj ns.length;obtain⟨tl,htl⟩:=aj ts.length;rw[hnl]at a3 jV;rw[htl]at a4 xC;have yS:nl<1073741824:=by have:=jf.out;omega
    have ML:tl<1073741824:=by have:=kJ.out;omega
    have mG:=ah hnl;have QX:=ah htl;clear hbk gq pX hnl htl;by_cases h4:(j:Int)=4
    ·have t4:((j:Int) == 4)=true:=afc.2 h4
     have oK:=ah h4;clear h4;go_wp2_with (at_builtin;refine jD rfl (.tmp 63) (.tmp 65) 34 9 (.string ⟨#[]⟩) 16 ar0 DK rfl (by decide) rfl (w.heap.size+1) (.slice A2 tl jI) tl _ w9 rfl xC.out (.string zt) rfl rfl ML hsz ?_)
     intro v9 jg aF aO bI aB;obtain⟨A9,c9,rfl⟩:=aH aF;have hbe:Below (w.heap.size+1) w9 jg:=aB;have gB:=dP.below hbe (aeX _);have g4:=gB.frozen 4;have e4:jg.cell? ⟨w.heap.size,4,none⟩=some (.slice A2 ts.length jI):=gB.cell 4;have Jy:=ah (jJ.texts aA.out (x:=t1) (v:=.slice A9 (tl+1) c9) dP.out (by rw[mG.out];exact jV.out) (by rw[QX.out];exact xC.out) (by rw[QX.out,show ST t1=.string zt by rw[<-nP.out];rfl];exact aF) (by rw[QX.out];exact aO) hbe)
     have qX:=ah ((xE.below hbe (by have:=aA.out;omega)).grown (grownBy_set jg ⟨w.heap.size,4,none⟩ (.slice A9 (tl+1) c9)) aA.out)
     clear aF aO bI aB hbe gB a0 a1 a2 a3 a4 f0 f1 f2 f3 f4;go_wp2_with fail;go_meet;rw[aeu oK.out,aeu oK.out];exact⟨Jy.out,qX.out⟩
    have t4:((j:Int) == 4)=false:=aek.2 h4;have oK:=ah h4;clear h4;go_wp2_with (at_builtin;refine jD rfl (.tmp 69) (.tmp 71) 41 2 (.int .i64 0) 8 as4 Uo rfl (by decide) rfl (w.heap.size+1) (.slice A1 nl je) nl _ w9 rfl jV.out (.int .i64 n1) rfl rfl yS hsz ?_)
    intro v9 jg aF aO bI aB;obtain⟨A9,c9,rfl⟩:=aH aF;have hbe:Below (w.heap.size+1) w9 jg:=aB;have gB:=dP.below hbe (aeX _);have g4:=gB.frozen 3;have e4:jg.cell? ⟨w.heap.size,3,none⟩=some (.slice A1 ns.length je):=gB.cell 3;have Jy:=ah (jJ.nums aA.out (n:=n1) (v:=.slice A9 (nl+1) c9) dP.out (by rw[mG.out];exact jV.out) (by rw[QX.out];exact xC.out) (by rw[mG.out];exact aF) (by rw[mG.out];exact aO) hbe)
    have qX:=ah ((xE.below hbe (by have:=aA.out;omega)).grown (grownBy_set jg ⟨w.heap.size,3,none⟩ (.slice A9 (nl+1) c9)) aA.out)
    clear aF aO bI aB hbe gB a0 a1 a2 a3 a4 f0 f1 f2 f3 f4;go_wp2_with fail;go_meet;rw[aer oK.out,aer oK.out];exact⟨Jy.out,qX.out⟩
   case rest=>
   obtain⟨hl,hr⟩:=hcut;have he:=HE2.out;have hnl:(if(j:Int)=4 then ns else ns++[n1]).length+l1.length<=16777216:=by have:=jf.out;have:=bY.out;split<;>simp<;>omega
   have htl:(if(j:Int)=4 then ts++[t1] else ts).length+l1.length<=16777216:=by have:=kJ.out;have:=bY.out;split<;>simp<;>omega
   obtain⟨ns2,aeF⟩:=aj (if(j:Int)=4 then ns else ns++[n1])
   obtain⟨ts2,aeH⟩:=aj (if(j:Int)=4 then ts++[t1] else ts)
   rw[aeF]at hl hnl he;rw[aeH]at hl htl he;refine gq5 hl hr hnl htl he fun HL HR anT anU dU=>?_;clear hl hr hnl htl he aeF aeH HE2 jJ xE;cases hc:Cy.mark [93] l1 with
   |some l2=>
    have HM:=ah (kW (z:=⟨#[93]⟩) HR.out hc);have he:=dU.out;rw[hc]at he;have jH:=ah (show some (⟨K,0,[],ns2,ts2⟩,l2)=o by rw[<-HO.out,<-he];rfl)
    clear hc he;go_wp2_with fail;refine tq8 HM fun w12 pW lG=>?_;have fF:=ah pW;have qW:=ah (HL.step aA.out lG);clear pW lG HM HL HR;obtain⟨A1,je,A2,jI,hbk,gq,pX⟩:=qW.cells;obtain⟨a0,a1,a2,a3,a4,f0,f1,f2,f3,f4⟩:=gQ hbk;refine gq3 hbk gq pX fun dP jV xC=>?_;clear hbk gq pX;go_wp2;exact ret_val rfl rfl (P5 dP.out _ _ _ _ _) (by rw[<-jH.out];exact qW.told aA.out fF.out jV.out xC.out (P6 _ _ _ _ _ _ _))
   |none=>
   have HM:=ah (kD (z:=⟨#[93]⟩) HR.out hc);have he:=dU.out;rw[hc]at he;have jh:=ah he;clear hc he dU;go_wp2_with fail;refine tq8 HM fun w12 pW lG=>?_;have fF:=ah pW;have qW:=ah (HL.step aA.out lG);clear pW lG HM HL HR;cases hc:Cy.mark [44] l1 with
   |none=>
    have HM:=ah (kD (z:=⟨#[44]⟩) fF.out hc);have he:=jh.out
    try simp only at he
    rw[hc]at he;have jH:=ah (show none=o by rw[<-HO.out,<-he];rfl)
    clear hc he;go_wp2_with fail;refine tq8 HM fun WX jW bC=>?_;have HG:=ah (qW.step aA.out bC).gr;clear jW bC;go_wp2_with fail;refine iq7 (og _ _) ?_;exact⟨rfl,HG.out,by rw[<-jH.out]⟩
   |some l2=>
    have HM:=ah (kW (z:=⟨#[44]⟩) fF.out hc);have he:=jh.out
    try simp only at he
    rw[hc]at he;have yT:=ah he;have HL2:=ah (Cy.iM hc).2;clear hc he;go_wp2_with fail;refine tq8 HM fun WX jW bC=>?_;have xE:=ah jW;have jJ:=ah (qW.step aA.out bC);clear jW bC fF qW;go_wp2_with fail;refine iq7 (nD _ _) ?_;go_wp2
    go_roundg f
    case measure=>omega
    exact⟨l2,ns2,ts2,xE.out,jJ.out,by have:=uI.out;have:=bY.out;have:=HL2.out;omega,yT.out,by have:=anT.out;have:=HL2.out;omega,by have:=anU.out;have:=HL2.out;omega⟩
def aj7 {q0:Nat×Nat} {b:Nat} {l:List Lex.Tok} {w:World} (h:RS q0 b l w) (hm:Cy.mark [91] l=none) (hx:Cy.mZ l=none):
  Calls prog 140 #[.pointer (some ⟨b,0,none⟩)] w fun e w'=>e=.panicked BX/\w.grownBy w' (some b):=by
 have hr1:=h.kept ((aoa _ w).alloc (aej _) (.cells #[.int .i64 0,.int .i64 0,.string ⟨#[]⟩,.slice none 0 0,.slice none 0 0] 43));obtain⟨W1,hW1⟩:=aj (w.alloc (.cells #[.int .i64 0,.int .i64 0,.string ⟨#[]⟩,.slice none 0 0,.slice none 0 0] 43));rw[hW1]at hr1;have dO:=ah (show w.grownBy W1 (some b) by rw[<-hW1];exact Bj (iw _ _) _)
 refine gq3 (kD (z:=⟨#[91]⟩) hr1 hm) hW1 hx fun HM HW1 HX=>?_;clear h hr1 hm hx hW1;go_enter func140,ntmps140
 go_upto_region 1 with fail
 rw[HW1.out];go_wp2_with fail;refine tq8 HM fun w2 hr2 hg2=>?_;have HG2:=ah (aS dO.out hg2);have HS:=ah (abZ hr2 HX.out);clear hr2 hg2;go_wp2_with fail;refine mq8 HS fun w3 hg3=>?_;exact⟨rfl,rfl,aS HG2.out hg3⟩
def aj8 {q0:Nat×Nat} {b:Nat} {l:List Lex.Tok} {w:World} (h:RS q0 b l w):Calls prog 140 #[.pointer (some ⟨b,0,none⟩)] w (U3 q0 b w (Cy.pq l)):=by
 cases hm:Cy.mark [91] l with
 |some r=>exact aj6 h hm
 |none=>
  cases hs:Cy.mZ l with
  |none=>
   refine mq7 (aj7 h hm hs) fun w' hg=>?_;refine⟨hg, ?_⟩;have:Cy.pq l=none:=by unfold Cy.pq;rw[hm];simp only;rw[hs];rfl
   rw[this]
  |some q=>
   obtain⟨⟨k,n,x⟩,r⟩:=q;refine(aj1 h hm hs).mono ?_;rintro e w' ⟨u,rfl,h1,h2,h3⟩;refine⟨h3, ?_⟩;have:Cy.pq l=some (⟨k,n,x,[],[]⟩,r):=by unfold Cy.pq;rw[hm];simp only;rw[hs];rfl
   rw[this];exact⟨u,rfl,h1,h2⟩
def eG (W:World) (B:Nat) (x:Gr.P×List Value):Prop:=
 ∃s t,x.2=[ST x.1.key,.int .i64 x.1.val.kind,.int .i64 x.1.val.num,ST x.1.val.text,s,t]/\W.ownsRow B 2 1 s x.1.val.nums.length (x.1.val.nums.map I64)/\W.ownsRow B 9 1 t x.1.val.texts.length (x.1.val.texts.map ST)
def eG.step {w w':World} {B b:Nat} {x:Gr.P×List Value} (h:eG w B x) (hg:w.grownBy w' (some b)) (hb:b<B):eG w' B x:=by
 obtain⟨s,t,e,h1,h2⟩:=h;exact⟨s,t,e,fP h1 hg hb,fP h2 hg hb⟩
def eG.row {w w':World} {B:Nat} {row:Option Nat} {x:Gr.P×List Value} (h:eG w B x) (hg:w.grownBy w' row) (hty: ∀g c t fz,row=some g->w.heap[g]?=some (.cells c t fz)->t≠2/\t≠9):eG w' B x:=by
 obtain⟨s,t,e,h1,h2⟩:=h;exact⟨s,t,e,eu h1 hg fun g c t' fz hr hc=>(hty g c t' fz hr hc).1,eu h2 hg fun g c t' fz hr hc=>(hty g c t' fz hr hc).2⟩
def eG.base {w:World} {B B':Nat} {x:Gr.P×List Value} (h:eG w B x) (hb:B'<=B):eG w B' x:=by
 obtain⟨s,t,e,h1,h2⟩:=h;exact⟨s,t,e,own_base h1 hb,own_base h2 hb⟩
def aT (T:TypeId) (W:World) (B:Nat) (v:Value) (ps:List Gr.P):Prop:=
 ∃l:List (Gr.P×List Value),l.map Prod.fst=ps/\(∀x∈l,eG W B x)/\W.ownsRow B T 6 v ps.length (l.flatMap Prod.snd)
def aT.nil (T:TypeId) (W:World) (B:Nat):aT T W B (.slice none 0 0) []:=⟨[],rfl,by simp,arU _ _ _ _⟩
def aT.step {T:TypeId} {w w':World} {B b:Nat} {v:Value} {ps:List Gr.P} (h:aT T w B v ps) (hg:w.grownBy w' (some b)) (hb:b<B):aT T w' B v ps:=by
 obtain⟨l,e,h1,h2⟩:=h;exact⟨l,e,fun x hx=>(h1 x hx).step hg hb,fP h2 hg hb⟩
def aT.base {T:TypeId} {w:World} {B B':Nat} {v:Value} {ps:List Gr.P} (h:aT T w B v ps) (hb:B'<=B):aT T w B' v ps:=by
 obtain⟨l,e,h1,h2⟩:=h;exact⟨l,e,fun x hx=>(h1 x hx).base hb,own_base h2 hb⟩
def aT.put {T:TypeId} {w w':World} {B:Nat} {v v':Value} {ps:List Gr.P} {p:Gr.P} {cs:List Value} {l:List (Gr.P×List Value)} (hT:T≠2/\T≠9) (hl:l.map Prod.fst=ps) (h1: ∀x∈l,eG w B x) (hp:eG w B (p,cs))
  (hv:w.ownsRow B T 6 v ps.length (l.flatMap Prod.snd)) (hg:w.grownBy w' v.ownBlock) (hown:w'.ownsRow B T 6 v' (ps.length+1) (l.flatMap Prod.snd++cs)):aT T w' B v' (ps++[p]):=by
 have hty: ∀g c t fz,v.ownBlock=some g->w.heap[g]?=some (.cells c t fz)->t≠2/\t≠9:=fun g c t fz hr hc=>by
  obtain⟨-,c',hc'⟩:=mW hv g hr;rw[hc']at hc;cases hc;exact hT
 refine⟨l++[(p,cs)],by rw[afg,hl];rfl,fun x hx=> ?_, ?_⟩
 ·rcases afq.1 hx with hx|hx
  ·exact(h1 x hx).row hg hty
  rw[afm.1 hx];exact hp.row hg hty
 rw[aeo,afR]
 simpa using hown
def U4 {α:Type} (q0:Nat×Nat) (b:Nat) (w:World) (R:World->Value->α->Prop) (o:Option (α×List Lex.Tok)) (e:Ending) (w':World):Prop:=
 w.grownBy w' (some b)/\match o with
  |none=>e=.panicked BX
  |some (v,r)=> ∃u,e=.returned u/\R w' u v/\RS q0 b r w'
def aj9:(prog.info? 165).map (fun i=>(i.zero,i.size,i.bytes))=some (some (.agg #[.string ⟨#[]⟩,.int .i64 0,.int .i64 0,.string ⟨#[]⟩,.slice none 0 0,.slice none 0 0]),6,96):=by kernel_rfl
def ab9 {q0:Nat×Nat} {b:Nat} {l:List Lex.Tok} {w:World} (h:RS q0 b l w):
  Calls prog 88 #[.pointer (some ⟨b,0,none⟩)] w (U4 q0 b w (fun W u v=>aT 165 W w.heap.size u v) (Cy.qx l)):=by
 obtain⟨o,ho⟩:=aj (Cy.qx l);rw[ho];unfold Cy.qx at ho;have hu:=o9;have aA:=ah h.lt;cases hc:Cy.mark [123] l with
 |none=>
  rw[hc]at ho;have HM:=ah (kD (z:=⟨#[123]⟩) h hc);have HO:=ah ho;clear hc ho h;go_enter func88,ntmps88;go_wp2_with fail;refine tq8 HM fun w1 hr hg=>?_;have HR:=ah hr;have HG:=ah hg;clear hr hg;go_wp2;go_ret;exact⟨HG.out,by rw[<-HO.out];exact⟨_,rfl,aT.nil _ _ _,HR.out⟩⟩
 |some r1=>
 rw[hc]at ho;have HM:=ah (kW (z:=⟨#[123]⟩) h hc);cases hc2:Cy.mark [125] r1 with
 |some r2=>
  try simp only at ho
  rw[hc2]at ho;have HO:=ah ho;have HC:=ah hc2;clear hc hc2 ho h;go_enter func88,ntmps88;go_wp2_with fail;refine tq8 HM fun w1 hr hg=>?_;have qY:=ah (kW (z:=⟨#[125]⟩) hr HC.out);have HG:=ah hg;clear hr hg;go_wp2_with fail;refine tq8 qY fun w2 hr hg=>?_;have HR:=ah hr;have HG2:=ah (aS HG.out hg);clear hr hg;go_wp2;go_ret;exact⟨HG2.out,by rw[<-HO.out];exact⟨_,rfl,aT.nil _ _ _,HR.out⟩⟩
 |none=>
 try simp only at ho
 rw[hc2]at ho
 try simp only at ho
 have HO:=ah ho;have HC:=ah hc2;clear hc hc2 ho h;go_enter func88,ntmps88;go_wp2_with fail;refine tq8 HM fun w1 hr hg=>?_;have qY:=ah (kD (z:=⟨#[125]⟩) hr HC.out);have HG:=ah hg;clear hr hg;go_wp2_with fail;refine tq8 qY fun w2 hr hg=>?_;have HR:=ah hr;have HG2:=ah (aS HG.out hg);clear hr hg HG HM qY HC;go_wp2_with fail
 go_loopg [2] (r1.length+1) (fun g x2 wr=> ∃l' acc A c,x2=.slice A acc.length c/\RS q0 b l' wr/\w.grownBy wr (some b)/\aT 165 wr w.heap.size (.slice A acc.length c) acc/\l'.length<g/\Hid (Cy.zQ g l' acc=o)/\acc.length+l'.length<=16777216)
 case atStart=>exact⟨r1,[],none,0,rfl,HR.out,HG2.out,aT.nil _ _ _,by omega,HO.out,by have:=HR.len;simp;omega⟩
 obtain⟨l',acc,A,c,rfl,hr,hg,hp,kK,HE,hal⟩:=hrel;refine gq5 hr hg hp hal kK fun HR HG HP fZ uI=>?_;clear hr hg hp hal HO HG2;cases gk with
 |zero=>omega
 |succ f=>
 have he:_=o:=HE;rw[Cy.zQ]at he;clear kK HE;cases hc:Cy.dS l' with
 |none=>
  rw[hc]at he;have HM:=ah (FQ HR.out hc);have HO:=ah he;clear hc he;go_wp2_with fail;refine mq8 HM fun w3 hg3=>?_;exact⟨rfl,aS HG.out hg3,by rw[<-HO.out]⟩
 |some q=>
 obtain⟨key,l1⟩:=q;rw[hc]at he
 try simp only at he
 have hwd:=FP HR.out hc;obtain⟨zk,fJ⟩:=aj (⟨key.toArray⟩:ByteArray);rw[fJ]at hwd;refine gq4 hwd fJ he (Cy.Bv hc HR.ok).2.2.1 fun HM Gw HE fB=>?_;clear hc he hwd fJ;go_wp2_with fail;refine tq8 HM fun w3 hr3 hg3=>?_;refine gq3 hr3 (aS HG.out hg3) (HP.step hg3 aA.out) fun HR3 jU Eo=>?_;clear hr3 hg3 HR HG HP HM;cases hc:Cy.mark [58] l1 with
 |none=>
  have HM:=ah (kD (z:=⟨#[58]⟩) HR3.out hc);have he:=HE.out;rw[hc]at he;have HO:=ah he;clear hc he;go_wp2_with fail;refine tq8 HM fun w4 hr4 hg4=>?_;have uN:=ah (aS jU.out hg4);clear hr4 hg4;go_wp2_with fail;refine iq7 (og _ _) ?_;exact⟨rfl,uN.out,by rw[<-HO.out]⟩
 |some l2=>
 have HM:=ah (kW (z:=⟨#[58]⟩) HR3.out hc);have he:=HE.out;rw[hc]at he
 try simp only at he
 have HE2:=ah he;have HL2:=ah (Cy.iM hc).2;clear hc he HE;go_wp2_with fail;refine tq8 HM fun w4 hr4 hg4=>?_;refine gq3 hr4 (aS jU.out hg4) (Eo.step hg4 aA.out) fun HR4 uN HP4=>?_;clear hr4 hg4 HR3 jU Eo HM;go_wp2_with fail;refine iq7 (nD _ _) ?_;have Ak:=ah (aj8 HR4.out);cases hc:Cy.pq l2 with
 |none=>
  have he:=HE2.out;rw[hc]at he Ak;have HO:=ah he;clear hc he;go_wp2_with fail;refine Ak.mono ?_;rintro e w6 ⟨uP,rfl⟩;exact⟨rfl,aS uN.out uP,by rw[<-HO.out]⟩
 |some q=>
 obtain⟨v,l3⟩:=q;have he:=HE2.out;rw[hc]at he Ak
 try simp only at he
 have dU:=ah he;have rZ:=ah (Cy.abv hc HR4.ok HR4.len).2.2;clear hc he HE2;go_wp2_with fail;refine Ak.mono ?_;rintro e w6 ⟨uP,u,rfl,hv6,Cb⟩;refine gq3 Cb (aS uN.out uP) (HP4.step uP aA.out) fun oJ rX WZ=>?_;have Gx:w.heap.size<=w4.heap.size:=uN.size;have anV:w.heap.size<=w6.heap.size:=rX.size;obtain⟨s,t,rfl,Gy,W9⟩:=hv6.ex;obtain⟨A1,c1,rfl⟩:=aH Gy;obtain⟨A2,c2,rfl⟩:=aH W9;have xF:=ah (show eG w6 w.heap.size (⟨key,v⟩,[ST key,.int .i64 v.kind,.int .i64 v.num,ST v.text,.slice A1 v.nums.length c1,.slice A2 v.texts.length c2]) from⟨_,_,rfl,own_base Gy (by omega),own_base W9 (by omega)⟩)
 obtain⟨ll,e1,e2,e3⟩:=WZ.out;obtain⟨al,hal⟩:=aj acc.length;rw[hal]at e3 WZ⊢;have Cc:al<536870912:=by have:=fZ.out;omega
 refine gq4 e1 e2 e3 hal fun H1 H2 H3 oL=>?_;obtain⟨zv,hzv⟩:=aj (⟨v.text.toArray⟩:ByteArray);have Xa:=ah hzv;rw[hzv];clear uP hv6 Cb Gy W9 e1 e2 e3 hal hzv HR4 uN HP4 Ak Gx;go_wp2_with (at_builtin;refine DJ rfl (.tmp 17) (.tmp 22) 54 165 (.agg #[.string ⟨#[]⟩,.int .i64 0,.int .i64 0,.string ⟨#[]⟩,.slice none 0 0,.slice none 0 0]) 6 96 underlying54 aj9 rfl (by decide) (by decide) rfl w.heap.size (.slice A al c) al (ll.flatMap Prod.snd) w6 rfl H3.out [.string zk,.int .i64 v.kind,.int .i64 v.num,.string zv,.slice A1 v.nums.length c1,.slice A2 v.texts.length c2] _ rfl rfl (by simp[Value.oneCell']) rfl Cc anV ?_)
 intro v9 w9 aF aO bI aB;obtain⟨A9,c9,rfl⟩:=aH aF;have hpo:=xF.out;have hst1:ST key=.string zk:=by rw[<-Gw.out];rfl
 have hst2:ST v.text=.string zv:=by rw[<-Xa.out];rfl
 rw[hst1,hst2]at hpo;have oM:=ah (aT.put (T:=165) (v:=.slice A acc.length c) (v':=.slice A9 (al+1) c9) (ps:=acc) ⟨by decide,by decide⟩ H1.out H2.out hpo (by rw[oL.out];exact H3.out) (by rw[oL.out];exact aO) (by rw[oL.out];exact aF))
 have xE:=ah (oJ.below aB aA.out);have pY:=ah (show w.grownBy w9 (some b) from⟨aB.os.trans rX.os,aB.tape.trans rX.tape,aB.output.trans rX.out.output,aep rX.size aB.size,fun i hi hne=>(aB.block i hi).trans (rX.block i hi hne)⟩)
 have su:(acc++[(⟨key,v⟩:Gr.P)]).length=al+1:=by rw[aeo,oL.out];rfl
 have HLEN:=ah su;clear aF aO bI aB hpo hst1 hst2 su oJ rX WZ xF H1 H2 H3;cases hc:Cy.mark [125] l3 with
 |some l4=>
  have HM:=ah (kW (z:=⟨#[125]⟩) xE.out hc);have he:=dU.out;rw[hc]at he;have HO:=ah he;clear hc he;go_wp2_with fail;refine tq8 HM fun w10 MN qc=>?_;refine gq3 MN (aS pY.out qc) (oM.step qc aA.out) fun Ce Ep Gz=>?_;clear MN qc;go_wp2;go_ret;exact⟨Ep.out,by rw[<-HO.out];exact⟨_,rfl,Gz.out,Ce.out⟩⟩
 |none=>
 have HM:=ah (kD (z:=⟨#[125]⟩) xE.out hc);have he:=dU.out;rw[hc]at he;have jh:=ah he;clear hc he dU;go_wp2_with fail;refine tq8 HM fun w10 MN qc=>?_;refine gq3 MN (aS pY.out qc) (oM.step qc aA.out) fun Ce Ep Gz=>?_;clear MN qc xE pY oM HM;cases hc:Cy.mark [44] l3 with
 |none=>
  have HM:=ah (kD (z:=⟨#[44]⟩) Ce.out hc);have he:=jh.out
  try simp only at he
  rw[hc]at he;have HO:=ah he;clear hc he;go_wp2_with fail;refine tq8 HM fun jg Am Jz=>?_;have GH:=ah (aS Ep.out Jz);clear Am Jz;go_wp2_with fail;refine iq7 (og _ _) ?_;exact⟨rfl,GH.out,by rw[<-HO.out]⟩
 |some l4=>
  have HM:=ah (kW (z:=⟨#[44]⟩) Ce.out hc);have he:=jh.out
  try simp only at he
  rw[hc]at he;have yT:=ah he;have MO:=ah (Cy.iM hc).2;clear hc he;go_wp2_with fail;refine tq8 HM fun jg Am Jz=>?_;refine gq3 Am (aS Ep.out Jz) (Gz.step Jz aA.out) fun qX GH QY=>?_;clear Am Jz Ce Ep Gz;go_wp2_with fail;refine iq7 (nD _ _) ?_;go_wp2
  go_roundg f
  case measure=>omega
  refine⟨l4,acc++[(⟨key,v⟩:Gr.P)],A9,c9,by rw[HLEN.out],qX.out,GH.out, ?_, ?_,yT, ?_⟩
  ·rw[HLEN.out];exact QY.out
  ·have:=uI.out;have:=fB.out;have:=HL2.out;have:=rZ.out;have:=MO.out;omega
  have:=fZ.out;have:=oL.out;have:=fB.out;have:=HL2.out;have:=rZ.out;have:=MO.out;rw[HLEN.out];omega
def IU {ops:Array Oper} {o:Oper} {a:Act} {K:Act->World->Prop} {Q:Exit->Act->World->Prop} {E:Prop} (f:FuncId) {args:Array Value} {W:World} {R:Value->World->Prop} (hgd:o.guard=none)
  (he:(execOp a.eval o).run prog W=.ok (.enter f args) W) (hc:Calls prog f args W fun e w'=> ∃v,e=.returned v/\R v w') (k: ∀v w',R v w'->K (a.put o.dst v) w'):
  if Region.wanted o (yielded ops a.tmps)=true then Oper.wp prog o a W K Q else E:=by
 have hw:Region.wanted o (yielded ops a.tmps)=true:=by simp[Region.wanted,hgd]
 rw[aeu hw];unfold Oper.wp;rw[he];refine hc.mono ?_;rintro e w' ⟨v,rfl,h⟩;exact k v w' h
def akb {f:FuncId} {args:Array Value} {W:World} {u:Value} {R:World->Prop} (h:Calls prog f args W fun e w'=>e=.returned u/\R w'):Calls prog f args W fun e w'=> ∃v,e=.returned v/\(v=u/\R w'):=
 h.mono fun _ _ ⟨he,hr⟩=>⟨u,he,rfl,hr⟩
def FV {ops:Array Oper} {o:Oper} {a:Act} {K:Act->World->Prop} {Q:Exit->Act->World->Prop} {E:Prop} (hgd:o.guard=none) (s x:Operand) (T e:TypeId) (z:Value) (sz bytes:Nat)
  (hT:prog.underlying T=some (.slice e)) (hinfo:(prog.info? e).map (fun i=>(i.zero,i.size,i.bytes))=some (some z,sz,bytes)) (hz:z.cells.size=sz) (hsz:0<sz) (hby:bytes<=200)
  (ho:o.op=.call {callee:=.builtin .append,args:= #[s,x],argTypes:= #[T,T]})
  (B:Nat) (v:Value) (n:Nat) (xs:List Value) (W:World) (hs:a.eval s=v) (h:W.ownsRow B e sz v n xs) (news:List Value) (cs:Array Value) (hcs:cs=news.toArray) (hnl:news.length=sz) (hu: ∀u∈news,u.oneCell'=true)
  (hx:a.eval x=.slice (some ⟨W.heap.size,0,none⟩) 1 1) (hl:n<536870912) (hB:B<=W.heap.size)
  (k: ∀v' w',w'.ownsRow B e sz v' (n+1) (xs++news)->W.grownBy w' v.ownBlock->(v'.ownBlock=v.ownBlock\/ ∃g,v'.ownBlock=some g/\W.heap.size<=g)->Below B W w'->K (a.put o.dst v') w'):
  if Region.wanted o (yielded ops a.tmps)=true then Oper.wp prog o a (W.alloc (.cells cs e)) K Q else E:=by
 subst hcs;have hw:Region.wanted o (yielded ops a.tmps)=true:=by simp[Region.wanted,hgd]
 rw[aeu hw];obtain⟨i0,hi,hz0,hz1,hz2⟩:=asM hinfo;have hnews: ∀j u',news[j]?=some u'->(W.alloc (.cells news.toArray e)).cell? ((⟨W.heap.size,0,none⟩:Addr).add j)=some u':=aa4 _ _ _
 obtain⟨v',w',hrun,h2,h3,h4,h5⟩:=atq (P:=prog) (W.alloc (.cells news.toArray e)) B T o.type e i0 z sz bytes hT hi hz0 hz1 hz2 hz hsz v n xs (asi h _) ⟨W.heap.size,0,none⟩ 1 1 news (by omega) hnews hu (by unfold maxLen;omega) (by
  have:(n+1)*bytes<=536870912*200:=aoL (by omega) hby
  omega) (by simp;omega)
 unfold Oper.wp execOp;simp only[ho,resolve,invoke,builtin,Sem.run_bind,Sem.run_pure,atr,arh,agQ,ahr,hs,hx,hrun];refine k v' w' h2 (aS (Bj (iw W _) _) h3) (h5.imp id (fun h=>⟨_,h,by simp⟩)) ?_
 exact((aoa B W).alloc hB _).grown h3 (by simp;omega) (fun j e=>(ar5 h j e).1)
end Go.Proofs.YtdijgcnlbfgkdaaGreatDoor
