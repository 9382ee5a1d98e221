/- Lemmas. -/
import Derived.Test.YtdijgcnlbfgkdaaGreatDoorUP11
import Derived.RegionIn
import Derived.Below
import Derived.Sort.Grow
import Derived.StillTail
set_option maxHeartbeats 64000000
set_option maxRecDepth 1000000
set_option linter.all false
namespace Go.Proofs.YtdijgcnlbfgkdaaGreatDoor
open Go.RowKit Go.Proofs.Tryz
attribute [local go_sem] ar4
namespace Lex
def abM: ∀(k:Nat) (l:List UInt8) (i:Nat),(scan k l i).1.length<=l.length
 |0,l,i=>by simp[scan]
 |k+1,[],i=>by simp[scan]
 |k+1,c :: r,i=>by
  cases ht:tok1 (c :: r) with
  |err o e=>rw[FC (by simp) ht];simp
  |tok kd tx nm n=>
   obtain⟨t1,t2⟩:=Px ht;have ih:=abM k ((c :: r).drop (n+gap false ((c :: r).drop n))) (i+n+gap false ((c :: r).drop n));rw[FB ht rfl,ae7];rw[ae1]at ih;omega
def KL: ∀(k:Nat) (l:List UInt8) (i:Nat) {p e:Nat},(scan k l i).2=some (p,e)->e≠0
 |0,l,i,p,e,h=>by simp[scan]at h
 |k+1,[],i,p,e,h=>by simp[scan]at h
 |k+1,c :: r,i,p,e,h=>by
  cases ht:tok1 (c :: r) with
  |err o e'=>
   rw[FC (by simp) ht]at h
   have:=(Py (by simp) ht).1
   cases h;exact this
  |tok kd tx nm n=>
   rw[FB ht rfl]at h;exact KL k _ _ h
def ajO (l:List UInt8):(read l).1.length<=16777216:=by
 unfold read
 split
 ·simp
 have:=abM (l.length+1) (l.drop (gap false l)) (0+gap false l);unfold body;rw[ae1]at this;omega
def ajP {l:List UInt8} {p e:Nat} (h:(read l).2=some (p,e)):e≠0:=by
 unfold read at h
 split at h
 ·cases h;decide
 exact KL _ _ _ h
def ajQ (x:List Tok×Option (Nat×Nat)):(items x).length<=x.1.length+1:=by
 unfold items;rw[aeo,aeP];cases x.2<;>simp
def ajR {x:List Tok×Option (Nat×Nat)} {t:Tok} {e:Nat} (h:(t,e)∈items x) (he:e≠0):x.2=some (t.pos,e)/\t=⟨0,[],0,t.pos⟩:=by
 unfold items at h
 rcases afq.1 h with h|h
 ·obtain⟨u,_,hu⟩:=ant.1 h
  cases hu;exact absurd rfl he
 cases hx:x.2 with
 |none=>rw[hx]at h;cases h
 |some y=>
  obtain⟨p,e'⟩:=y;rw[hx]at h;obtain h:=afm.1 h;cases h;exact⟨rfl,rfl⟩
def ajS {x:List Tok×Option (Nat×Nat)} (hx: ∀p e,x.2=some (p,e)->e≠0) (h: ∀y∈items x,y.2=0):x.2=none/\items x=x.1.map (fun t=>(t,0)):=by
 cases h2:x.2 with
 |none=>
  refine⟨rfl, ?_⟩;unfold items;rw[h2,afy]
 |some y=>
  obtain⟨p,e⟩:=y;exact absurd (h (⟨0,[],0,p⟩,e) (by unfold items;rw[h2];simp)) (hx p e h2)
end Lex
def UY {V:World} {b:Nat} {t:TypeId} {c:Array Value} (h:ak V b t c):ak V.drew b t c:=h
def zT (t:Lex.Tok):List Value:=[.int .i64 (t.kind:Int),.string ⟨t.text.toArray⟩,.int .i64 t.num,.int .i64 (t.pos:Int)]
def nC (l:List Lex.Tok):List Value:=l.flatMap zT
def abN (l:List Lex.Tok) (t:Lex.Tok):nC (l++[t])=nC l++zT t:=by simp[nC]
def pz (w:World) (B:Nat) (v:Value) (l:List Lex.Tok):Prop:=w.ownsRow B 94 4 v l.length (nC l)
def abO:(prog.info? 94).map (fun i=>(i.zero,i.size,i.bytes))=some (some (.agg #[.int .i64 0,.string ⟨#[]⟩,.int .i64 0,.int .i64 0]),4,40):=by kernel_rfl
def ajT (s:ByteArray) (w:World):
  Calls prog 32 #[.string s] w fun e w'=>e=.returned (.func (.func 83) #[] #[.pointer (some ⟨w.heap.size,0,none⟩)])/\w.alloc (.cells #[.string s] 9)=w':=by
 go_enter func32,ntmps32;go_wp2;go_ret;exact⟨rfl,rfl⟩
def ajU (x:List Lex.Tok×Option (Nat×Nat)) (w:World) (e:Ending) (w':World):Prop:=
 Below w.heap.size w w'/\match x.2 with
  |none=> ∃v,e=.returned (.tuple #[v,.int .i64 0,.int .i64 0])/\pz w' w.heap.size v x.1
  |some (p,k)=>e=.returned (.tuple #[.slice none 0 0,.int .i64 (p:Int),.int .i64 (k:Int)])
def anS (x:LY) (W:World):World:=W.alloc (.cells #[.int .i64 (x.1.kind:Int),.string ⟨x.1.text.toArray⟩,.int .i64 x.1.num,.int .i64 (x.1.pos:Int)] 94)
def ajV (s:ByteArray) (hs:s.size<=1073741823) (w:World) (hL:Laid w):
  Calls prog 10 #[.string s] w (ajU (Lex.read s.data.toList) w):=by
 obtain⟨i0,hi,hz0,hz1,hz2⟩:=asM abO;have bY:=ah hL;clear hL;refine UQ func10 rfl ?_;simp only[ntmps10,apJ,ae7,afQ,Nat.reduceAdd,Nat.reduceSub,ap7,ap8,aqU,aon,agJ,anr];go_wp2_with (go_at_call 32;refine(ajT _ _).mono ?_;rintro e w' ⟨rfl,rfl⟩);obtain⟨W,hW⟩:=aj ((((w.alloc (.cells #[.slice none 0 0] 44)).alloc (.cells #[.int .i64 0] 3)).alloc (.cells #[.int .i64 0] 27)).alloc (.cells #[.string s] 9));have hsz:W.heap.size=w.heap.size+4:=by rw[<-hW];simp
 have b0:ak W w.heap.size 44 #[.slice none 0 0]:=by rw[<-hW];exact(((ak.new _ _ _).alloc _).alloc _).alloc _
 have b1:ak W (w.heap.size+1) 3 #[.int .i64 0]:=by rw[<-hW];have:=((ak.new (w.alloc (.cells #[.slice none 0 0] 44)) 3 #[.int .i64 0]).alloc (.cells #[.int .i64 0] 27)).alloc (.cells #[.string s] 9);simpa using this
 have b2:ak W (w.heap.size+2) 27 #[.int .i64 0]:=by rw[<-hW];have:=(ak.new ((w.alloc (.cells #[.slice none 0 0] 44)).alloc (.cells #[.int .i64 0] 3)) 27 #[.int .i64 0]).alloc (.cells #[.string s] 9);simpa using this
 have b3:ak W (w.heap.size+3) 9 #[.string s]:=by rw[<-hW];have:=ak.new (((w.alloc (.cells #[.slice none 0 0] 44)).alloc (.cells #[.int .i64 0] 3)).alloc (.cells #[.int .i64 0] 27)) 9 #[.string s];simpa using this
 have bb:Below w.heap.size w W:=by rw[<-hW];exact((((aoa _ w).alloc (aej _) _).alloc (by simp) _).alloc (by simp;omega) _).alloc (by simp;omega) _
 rw[hW];clear hW;refine(ata (n:=9)).1 ?_
 refine' UW 156 (gf:=83) (lb:= #[.pointer (some ⟨w.heap.size+3,0,none⟩)]) rfl (atd func83 (by kernel_rfl) rfl) (encs:=UR) (fun x=>rfl) (Pre:=fun _ _ _=>True) _ anS (fun x W=>(aoa _ W).alloc (aej _) _) (fun _ _ _ _ _ _ _ _=>trivial)
  (fun W1 hb hn=>ajN s hs W.heap.size (w.heap.size+3) (by omega) W1 hn)
  (fun pre V=>(∃vo,ak V w.heap.size 44 #[vo]/\pz V w.heap.size vo (pre.map (·.1)))/\ak V (w.heap.size+1) 3 #[.int .i64 0]/\ak V (w.heap.size+2) 27 #[.int .i64 0]/\ak V (w.heap.size+3) 9 #[.string s]/\Below w.heap.size w V/\(∀y∈pre,y.2=0))
  (fun c V=>c=.ret/\ ∃p e,(Lex.read s.data.toList).2=some (p,e)/\ak V w.heap.size 44 #[.slice none 0 0]/\ak V (w.heap.size+1) 3 #[.int .i64 (p:Int)]/\ak V (w.heap.size+2) 27 #[.int .i64 (e:Int)]/\Below w.heap.size w V)
  ?hI ?hIx ?hAux ⟨⟨_,b0,arU _ _ _ _⟩,b1,b2,b3,bb,by simp⟩ ?assign ?body ?done ?stop
 case hI=>
  rintro pre A B ⟨⟨vo,h1,h2⟩,h3,h4,h5,h6,h7⟩ hs;exact⟨⟨vo,hs.blk h1 (by decide),hs.own h2 (by decide)⟩,hs.blk h3 (by decide),hs.blk h4 (by decide),hs.blk h5 (by decide),h6.trans (hs.below (by omega) h6.size),h7⟩
 case hIx=>
  rintro c A B ⟨hc,p,e,h0,h1,h2,h3,h4⟩ hs;exact⟨hc,p,e,h0,hs.blk h1 (by decide),hs.blk h2 (by decide),hs.blk h3 (by decide),h4.trans (hs.below (by omega) h4.size)⟩
 case hAux=>
  rintro pre V ⟨_,_,_,h5,h6,_⟩;exact⟨h5.cell 0,bY.below h6⟩
 case assign=>
  intro l x V K hK;simp only[UR,tokA]
  gi_wp2
  exact hK
 case body=>
  rintro l pre x W0 Va V ⟨⟨vo,h1,h2⟩,h3,h4,h5,h6,h7⟩ hs1 hs2 hblk - - hstep hl hn0;have hs':=hs1.trans hs2;obtain⟨⟨kd,tx,nm,ps⟩,e⟩:=x;have g1:=hs'.blk h1 (show 44≠156 by decide)
  have g3:=hs'.blk h3 (show 3≠156 by decide)
  have g4:=hs'.blk h4 (show 27≠156 by decide)
  have g5:=hs'.blk h5 (show 9≠156 by decide)
  have g6:=h6.trans (hs'.below (by omega) h6.size)
  have g2:pz V w.heap.size vo (pre.map (·.1)):=hs'.own h2 (by decide)
  have gt:=hblk Va.heap.size 94 #[.int .i64 (kd:Int),.string ⟨tx.toArray⟩,.int .i64 nm,.int .i64 (ps:Int)] (ak.new _ _ _);have c1:=g1.cell 0;have f1:=g1.frozen 0;have c3:=g3.cell 0;have f3:=g3.frozen 0;have c4:=g4.cell 0;have f4:=g4.frozen 0;have m0:=gt.cell 0;have m1:=gt.cell 1;have m2:=gt.cell 2;have m3:=gt.cell 3;simp at c1 c3 c4 m0 m1 m2 m3;refine gq8 g1 g3 g4 g5 g6 g2 hstep h7 fun dO jU uN MC rX HG2 HST H7=>?_
  have hlen:pre.length<=16777217:=by
   have q1:=hstep.length_le;have q2:=Lex.ajQ (Lex.read s.data.toList);have q3:=Lex.ajO s.data.toList;rw[aeo,afP]at q1;omega
  obtain⟨n,hn⟩:=aj pre.length
  have g2':V.ownsRow w.heap.size 94 4 vo n (nC (pre.map (·.1))):=by
   have:=g2;unfold pz at this
   rwa [aeP,hn]at this
  obtain⟨Ao,co,rfl⟩:=aH g2';have HN:=ah hn;have lW:=ah g2';rw[hn]at hlen;clear hn g2' HG2;clear hs' hs1 hs2 hblk h1 h2 h3 h4 h5 h6 h7 hstep g1 g2 g3 g4 g5 g6 gt hsz b0 b1 b2 b3 bb;by_cases he:e=0
  ·subst he
   gi_wp2_with (gi_at_builtin;refine wpListIn_append_own _ rfl _ _ 44 rfl w.heap.size 94 i0 (.agg #[.int .i64 0,.string ⟨#[]⟩,.int .i64 0,.int .i64 0]) 4 40 underlying44 hi hz0 hz1 hz2 rfl (by decide) _ _ _ rfl (asi lW.out _) ⟨V.heap.size,0,none⟩ 1 1 [.int .i64 (kd:Int),.string ⟨tx.toArray⟩,.int .i64 nm,.int .i64 (ps:Int)] rfl rfl ?c1 ?c2 ?c3 ?c4 ?c5 ?_)
   case c1=>
    intro j u h;have hb:=ak.new V 94 #[.int .i64 (kd:Int),.string ⟨tx.toArray⟩,.int .i64 nm,.int .i64 (ps:Int)]
    match j,h with
    |0,h=>cases h;exact hb.cell 0
    |1,h=>cases h;exact hb.cell 1
    |2,h=>cases h;exact hb.cell 2
    |3,h=>cases h;exact hb.cell 3
   case c2=>simp[Value.oneCell']
   case c3=>unfold maxLen;omega
   case c4=>omega
   case c5=>have:=rX.size;simp;omega
   intro v' V2 hown' hgrow _;obtain⟨g',cap',rfl⟩:=ownsRow_succ hown';have hnb:=mW lW.out
   have aez: ∀g c t fz,(Value.slice Ao n co).ownBlock=some g->(V.alloc (.cells #[.int .i64 (kd:Int),.string ⟨tx.toArray⟩,.int .i64 nm,.int .i64 (ps:Int)] 94)).heap[g]?=some (.cells c t fz)->t=94:=fun g c t fz e hc=>by
    obtain⟨_,c',hc'⟩:=hnb g e;rw[asU _ _ _ (afb.1 hc').1,hc']at hc;cases hc;rfl
   have hne: ∀(b:Nat) (t:TypeId) (c:Array Value),ak V b t c->t≠94->some b≠(Value.slice Ao n co).ownBlock:=fun b t c hb ht e=>by
    obtain⟨_,c',hc'⟩:=hnb b e.symm;unfold ak at hb;rw[hc']at hb;cases hb;exact ht rfl
   have k1:ak V2 w.heap.size 44 #[.slice Ao n co]:=ak.grown (ak.alloc dO.out _) hgrow (hne _ _ _ dO.out (by decide))
   have k3:ak V2 (w.heap.size+1) 3 #[.int .i64 0]:=ak.grown (ak.alloc jU.out _) hgrow (hne _ _ _ jU.out (by decide))
   have k4:ak V2 (w.heap.size+2) 27 #[.int .i64 0]:=ak.grown (ak.alloc uN.out _) hgrow (hne _ _ _ uN.out (by decide))
   have k5:ak V2 (w.heap.size+3) 9 #[.string s]:=ak.grown (ak.alloc MC.out _) hgrow (hne _ _ _ MC.out (by decide))
   have k6:Below w.heap.size w V2:=(rX.alloc rX.size _).grown hgrow (by have:=rX.size;simp;omega) (fun k e=>(hnb k e).1)
   have c2:=k1.cell 0;have f2:=k1.frozen 0;simp at c2;refine gq9 k1 k3 k4 k5 k6 hown' hgrow hnb aez fun dw dX lX pV rY HOW uO jd QV=>?_;clear k1 k3 k4 k5 k6 hne hnb hown' hgrow aez c1 f1 c3 f3 c4 f4 m0 m1 m2 m3
   gi_wp2
   have hset:=grownBy_set V2 ⟨w.heap.size,0,none⟩ (.slice (some ⟨g',0,none⟩) (n+1) cap')
   have aeA: ∀g c t fz,some (⟨w.heap.size,0,none⟩:Addr).block=some g->V2.heap[g]?=some (.cells c t fz)->t=44:=fun g c t fz e hc=>by
    cases e;have:=dw.out;unfold ak at this;rw[show V2.heap[w.heap.size]?=some (.cells c t fz) from hc]at this
    cases this;rfl
   refine⟨((KeepsOthers.alloc _ _).from _).trans (((KeepsOthers.of_grownBy uO.out (fun j o e ho=> ?_)).from _).trans ((asY _ _ _).from _)), ?_,⟨_,ak.aG dw.out 0 _, ?_⟩,ak.far dX.out (by simp) _,ak.far lX.out (by simp) _,ak.far pV.out (by simp) _,rY.setCell (p:=⟨w.heap.size,0,none⟩) (aej _) _, ?_⟩
   ·obtain⟨_,c',hc'⟩:=jd.out j e
    rw[asU _ _ _ (afb.1 hc').1,hc']at ho;cases ho;rfl
   ·refine(ny.yg (World.grownBy_alloc _ _ none) (fun g c fz e=>by cases e)).trans ((ny.yg uO.out (fun g c fz e hc=> ?_)).trans (ny.yg hset (fun g c fz e hc=> ?_)))
    ·exact absurd (QV.out g c _ fz e hc) (by decide)
    exact absurd (aeA g c _ fz e hc) (by decide)
   ·have:=eu HOW.out hset (fun g c t fz e hc=>by rw[aeA g c t fz e hc];decide)
    unfold pz;rw[afg,aeo,aeP,HN.out]
    show World.ownsRow _ _ _ _ _ (n+1) (nC (pre.map (·.1)++[_]))
    rw[abN];exact this
   intro y hy
   rcases afq.1 hy with h|h
   ·exact H7.out y h
   rw[afm.1 h]
  have heb:((e:Int) !=0)=true:=by rw[afd];omega
  have hmem:((⟨kd,tx,nm,ps⟩:Lex.Tok),e)∈Lex.items (Lex.read s.data.toList):=HST.subset (by simp)
  obtain⟨q1,q2⟩:=Lex.ajR hmem he;have Q1:=ah q1;clear q1 q2 hmem
  gi_wp2
  gi_region
  all_goals gi_wp2
  all_goals
   refine⟨((((asY _ _ _).from _).trans ((asY _ _ _).from _)).trans ((asY _ _ _).from _)).trans ((KeepsOthers.drew _).from _),rfl,ps,e,Q1.out, ?_, ?_, ?_, ?_⟩
   ·exact UY (ak.far (ak.far (ak.aG dO.out 0 _) (by first|(simp;done)|(simp;omega)) _) (by first|(simp;done)|(simp;omega)) _)
   ·exact UY (ak.far (ak.aG (ak.far jU.out (by first|(simp;done)|(simp;omega)) _) 0 _) (by first|(simp;done)|(simp;omega)) _)
   ·exact UY (ak.aG (ak.far (ak.far uN.out (by first|(simp;done)|(simp;omega)) _) (by first|(simp;done)|(simp;omega)) _) 0 _)
   exact Below.drew (((rX.setCell (by first|(simp;done)|(simp;omega)) _).setCell (by first|(simp;done)|(simp;omega)) _).setCell (by first|(simp;done)|(simp;omega)) _)
 case done=>
  rintro D xs V hD hend ⟨⟨vo,h1,h2⟩,h3,h4,h5,h6,h7⟩ hK;have hall:(Lex.read s.data.toList).2=none/\Lex.items (Lex.read s.data.toList)=(Lex.read s.data.toList).1.map (fun t=>(t,0)):=Lex.ajS (fun p e h=>Lex.ajP h) (fun y hy=>h7 y (by rw[hend];exact hy))
  have hxs:xs.map (·.1)=(Lex.read s.data.toList).1:=by
   rw[hend,hall.2,ahs];exact List.map_id' _
  rw[hxs]at h2;obtain⟨T,hT⟩:=aj ((Lex.read s.data.toList).1);rw[hT]at h2;obtain⟨Ao,co,rfl⟩:=aH h2;have c1:=h1.cell 0;have f1:=h1.frozen 0;have c3:=h3.cell 0;have f3:=h3.frozen 0;have c4:=h4.cell 0;have f4:=h4.frozen 0;simp at c1 c3 c4;refine gq9 hall.1 hT h1 h2 h3 h4 h6 hK hsz fun HA HT H1 H2 H3 H4 H6 lY bf=>?_;have lD:=ah hD;obtain⟨n,hn⟩:=aj T.length;rw[hn]at c1;have aC:=ah hn;clear hall hxs hT h1 h2 h3 h4 h5 h6 h7 hend hK hsz hD hn b0 b1 b2 b3 bb;go_wp2;have n0:D≠w.heap.size:=by have:=bf.out;have:=lD.out;omega
  have n1:D≠w.heap.size+1:=by have:=bf.out;have:=lD.out;omega
  have n2:D≠w.heap.size+1+1:=by have:=bf.out;have:=lD.out;omega
  have hK2:(((V.setCell ⟨w.heap.size,0,none⟩ (.slice Ao n co)).setCell ⟨w.heap.size+1,0,none⟩ (.int .i64 0)).setCell ⟨w.heap.size+1+1,0,none⟩ (.int .i64 0)).heap[D]?=some (.deferred (some [])):=by
   rw[asP _ _ _ _ n2,asP _ _ _ _ n1,asP _ _ _ _ n0];exact lY.out
  have B1:=FN (o:=.deferred none) hK2 (ak.far (p:=⟨w.heap.size+1+1,0,none⟩) (ak.far (ak.aG H1.out 0 (.slice Ao n co)) (p:=⟨w.heap.size+1,0,none⟩) (by simp) (.int .i64 0)) (by simp;omega) (.int .i64 0))
  have B3:=FN (o:=.deferred none) hK2 (ak.far (p:=⟨w.heap.size+1+1,0,none⟩) (ak.aG (ak.far H3.out (p:=⟨w.heap.size,0,none⟩) (by simp) (.slice Ao n co)) 0 (.int .i64 0)) (by simp) (.int .i64 0))
  have B4:=FN (o:=.deferred none) hK2 (ak.aG (ak.far (p:=⟨w.heap.size+1,0,none⟩) (ak.far H4.out (p:=⟨w.heap.size,0,none⟩) (by simp) (.slice Ao n co)) (by simp) (.int .i64 0)) 0 (.int .i64 0))
  have q1:=B1.cell 0;have q3:=B3.cell 0;have q4:=B4.cell 0;simp at q1 q3 q4;refine Qi hK2 (v:=.tuple #[.slice Ao n co,.int .i64 0,.int .i64 0]) (by simp[results,results10,go_sem,q1,q3,q4]) ?_
  refine⟨Qh (((H6.setCell (p:=⟨w.heap.size,0,none⟩) (aej _) _).setCell (p:=⟨w.heap.size+1,0,none⟩) (by simp) _).setCell (p:=⟨w.heap.size+1+1,0,none⟩) (by simp;omega) _) (by have:=bf.out;have:=lD.out;omega), ?_⟩
  rw[HA.out];refine⟨_,rfl, ?_⟩;rw[HT.out];unfold pz;rw[aC.out];refine abL hK2 ?_;have h2':=H2.out;unfold pz at h2';rw[aC.out]at h2'
  have ty: ∀{X:World} {b:Nat} {t:TypeId} {c0:Array Value} {v:Value},ak X b t c0->t≠94->X.ownsRow w.heap.size 94 4 (.slice Ao n co) n (nC T)->(X.setCell ⟨b,0,none⟩ v).ownsRow w.heap.size 94 4 (.slice Ao n co) n (nC T):=fun {X b t c0 v} hb ht ho=>
   eu ho (grownBy_set _ _ _) (fun g c t' fz e hc=>by
    cases e;unfold ak at hb;rw[show X.heap[b]?=some (.cells c t' fz) from hc]at hb
    cases hb
    exact ht)
  exact ty (ak.far (p:=⟨w.heap.size+1,0,none⟩) (ak.far H4.out (p:=⟨w.heap.size,0,none⟩) (by simp) _) (by simp) _) (by decide) (ty (ak.far H3.out (p:=⟨w.heap.size,0,none⟩) (by simp) _) (by decide) (ty H1.out (by decide) h2'))
 rintro D c V hD ⟨rfl,p,e,h0,h1,h3,h4,h6⟩ hK;refine ata.2 ?_;refine gq8 h0 h1 h3 h4 h6 hK hsz hD fun H0 H1 H3 H4 H6 lY bf lD=>?_;clear h0 h1 h3 h4 h6 hK hsz hD b0 b1 b2 b3 bb;go_wp2;have B1:=FN (o:=.deferred none) lY.out H1.out;have B3:=FN (o:=.deferred none) lY.out H3.out;have B4:=FN (o:=.deferred none) lY.out H4.out;have q1:=B1.cell 0;have q3:=B3.cell 0;have q4:=B4.cell 0;simp at q1 q3 q4;refine Qi lY.out (v:=.tuple #[.slice none 0 0,.int .i64 p,.int .i64 e]) (by simp[results,results10,go_sem,q1,q3,q4]) ?_
 exact⟨Qh H6.out (by have:=bf.out;have:=lD.out;omega),by rw[H0.out]⟩
end Go.Proofs.YtdijgcnlbfgkdaaGreatDoor
namespace Go.Proofs.YtdijgcnlbfgkdaaGreatDoor
open Go.RowKit Go.Proofs.Tryz
def abP: ∀(l:List Lex.Tok) (i:Nat) (t:Lex.Tok) (j:Nat),j<4->l[i]?=some t->(nC l)[i*4+j]?=(zT t)[j]?
 |[],i,t,j,hj,h=>by simp at h
 |u :: r,0,t,j,hj,h=>by
  simp at h;subst h;rw[nC,agF,anD (by simp[zT];omega)]
  simp
 |u :: r,i+1,t,j,hj,h=>by
  rw[aeQ]at h;have ih:=abP r i t j hj h;rw[nC,agF,ag1 (by simp[zT];omega),<-nC]
  rw[show(i+1)*4+j -(zT u).length=i*4+j by simp[zT];omega]
  exact ih
end Go.Proofs.YtdijgcnlbfgkdaaGreatDoor
namespace Go.Proofs.YtdijgcnlbfgkdaaGreatDoor
open Go Go.RowKit Go.Proofs.Tryz
variable {P:Program} {md:Region.Mode} {ops:Array Oper} {C:World->Prop}
def KP (P:Program) (md:Region.Mode) (ops:Array Oper) (C:World->Prop) (n:Nat) (L:Array Bool->Act->Prop):Nat->Array Bool->Act->Prop
 |0,listed,a=>L listed a
 |f+1,listed,a=>Region.ready md ops listed≠ []/\ ∀i∈Region.ready md ops listed,i<n/\qOp P ops C i (KP P md ops C n L f (listed.setIfInBounds i true)) a
def abQ {n g:Nat} {L:Array Bool->Act->Prop} {Q':Exit->Act->World->Prop} (hL: ∀listed a w,C w->L listed a->wpAny P md ops Q' g listed a w):
  ∀(f:Nat) (listed:Array Bool) (a:Act) (w:World),C w->KP P md ops C n L f listed a->wpAny P md ops Q' (f+g) listed a w
 |0,listed,a,w,hw,h=>by rw[agO];exact hL _ _ _ hw h
 |f+1,listed,a,w,hw,h=>by
  rw[Nat.add_right_comm];exact⟨fun h0=>absurd h0 h.1,fun i hi=>wpOp_of_qOp hw (fun a' w' hw' h'=>abQ hL f _ a' w' hw' h') (h.2 i hi).2⟩
def abR {n i:Nat} {oi:Oper} {v:Value} {L:Array Bool->Act->Prop} (hi:ops[i]?=some oi) (hsel: ∀(j:Nat) (o:Oper) cs b,ops[j]?=some o->o.op≠ .select cs b)
  (hs:Region.sinkB md ops n=true) (hc:Region.chainB md ops n=true) (hn:n<ops.size) (hin:i<n) (hdone: ∀listed a,L listed a-> ∀j∈Region.ready md ops listed,n<=j):
  ∀(f:Nat) (listed:Array Bool) (a:Act),HeadInv md ops n listed->
   (∀j oj,ops[j]?=some oj->j≠i->listed.getD j true=false->(∀e∈oj.after,Region.binds md e=true->e.on≠i)->oi.apart ops oj=true)->
   i∈Region.ready md ops listed->YieldsIn P ops C oi v a->KP P md ops C n L f (listed.setIfInBounds i true) (a.put oi.dst v)->KP P md ops C n L (f+1) listed a
 |0,listed,a,inv,_,hr,hy,H=>by
  refine⟨List.ne_nil_of_mem hr,fun j hj=> ?_⟩
  have hjn:j<n:=Nat.lt_of_not_le fun h=>absurd hj (tail_waits hs hc hn inv _ i rfl hin (asV.1 hr).1 j h)
  by_cases hji:j=i
  ·subst hji;exact⟨hjn,hy.qOp hi H⟩
  exact absurd (hdone _ _ H j (ready_mono hj hji)) (by omega)
 |f+1,listed,a,inv,hfree,hr,hy,H=>by
  have hun:=(asV.1 hr).1;refine⟨List.ne_nil_of_mem hr,fun j hj=> ?_⟩
  have hjn:j<n:=Nat.lt_of_not_le fun h=>absurd hj (tail_waits hs hc hn inv _ i rfl hin hun j h)
  by_cases hji:j=i
  ·subst hji;exact⟨hjn,hy.qOp hi H⟩
  obtain⟨hjun,oj,hoj,hall⟩:=asV.1 hj
  have hnot: ∀e∈oj.after,Region.binds md e=true->e.on≠i:=fun e he hb heq=>by
   have h1:=hall e he hb;rw[heq,getD_both hun]at h1;cases h1
  have h2:=qOp_put hoj (hfree j oj hoj hji hjun hnot) (fun cs b=>hsel i oi cs b hi) (fun cs b=>hsel j oj cs b hoj) hy (H.2 j (ready_mono hj hji)).2
  refine⟨hjn,qOp_mono (fun a' h3=>abR hi hsel hs hc hn hin hdone f (listed.setIfInBounds j true) a' (inv.set hj hjn) (fun k ok hk hki hu hno=>hfree k ok hk hki ?_ hno) (ready_mono hr (atx hji)) h3.1 ?_) h2⟩
  ·by_cases hjk:j=k
   ·subst hjk;exact hjun
   rw[atD true hjk]at hu;exact hu
  rw[Array.setIfInBounds_comm _ _ hji];exact h3.2
def abS {n g:Nat} {Lq:Act->Prop} (hsel:Region.noSelect ops=true) (hs:Region.sinkB md ops n=true) (hc:Region.chainB md ops n=true) (hn:n<ops.size):
  ∀(l:List Oper) (k:Nat) (listed:Array Bool) (a:Act),(∀j,j<l.length->l[j]?=ops[k+j]?)->k+l.length=n->HeadInv md ops n listed->
  Region.lexHead md ops g l.length k listed=true->wpQuiet P ops C Lq l a->KP P md ops C n (fun listed' a'=>Region.seqB md ops g n listed'=true/\Lq a') l.length listed a
 |[],k,listed,a,_,hk,_,hB,h=>by
  obtain rfl:k=n:=by simpa using hk
  exact⟨by simpa[Region.lexHead] using hB,h⟩
 |o :: l,k,listed,a,hl,hk,inv,hB,h=>by
  have h0:ops[k]?=some o:=by simpa using(hl 0 (by simp)).symm
  simp only[ae7,Region.lexHead,afx]at hB;obtain⟨⟨hr,hf⟩,hB'⟩:=hB;have hkn:k<n:=by simp only[ae7]at hk;omega
  have hr':k∈Region.ready md ops listed:=by simpa using hr
  have hst:qOp P ops C k (wpQuiet P ops C Lq l) a:=by unfold qOp;simp only[h0];exact h
  obtain⟨v,hy,hK⟩:=yieldsIn_of_qOp h0 hst
  exact abR h0 (Region.noSelect_spec hsel) hs hc hn hkn (fun listed' a' hL=>seqB_ready hL.1) l.length listed a inv (Region.free_spec h0 hf) hr' hy
   (abS hsel hs hc hn l (k+1) _ _ (fun j hj=>by have:=hl (j+1) (by simp;omega);simpa[anL,an8 1 j] using this) (by simp only[ae7]at hk;omega) (inv.set hr' hkn) hB' hK)
def abT {id:Nat} {Q:Exit->Act->World->Prop} {a:Act} {w:World} {l:List Oper} (n:Nat) (hm:P.follows .mixedOrders=true) (hB:Region.lexTailB .any l.toArray n=true) (hC:C {w with drawn:=w.drawn+1})
  (h:wpQuiet P l.toArray C (fun a'=> ∀w',C w'->wpList P l.toArray Q (l.drop n) a' w') (l.take n) a):(Code.region id l.toArray true).wp P Q a w:=by
 simp only[Region.lexTailB,afx,aeU]at hB;obtain⟨⟨⟨⟨hsel,hn⟩,hs⟩,hc⟩,hlex⟩:=hB;have hn':n<l.length:=by simpa using hn
 have htl:(l.take n).length=n:=by simp;omega
 have hdl:(l.drop n).length=l.toArray.size - n:=by simp
 have inv0:HeadInv .any l.toArray n (Array.replicate l.toArray.size false):=
  ⟨by simp,fun j oj _ hl=>(by rw[asQ]at hl;cases hl),fun t _ ht=>getD_in (by simpa using ht) (asQ _ _)⟩
 have H:=abS (md:=.any) (g:=l.toArray.size - n) hsel hs hc hn (l.take n) 0 _ a (fun j hj=>by
  have hj':j<n:=by rw[htl]at hj;exact hj
  simp[hj']) (by simpa using htl) inv0 (by rw[htl];exact hlex) h
 refine wp_region_any hm ?_
 have:=abQ (Q':=Q) (g:=l.toArray.size - n) (fun listed a' w' hw hL=>by
  have:=wpAny_of_seq (md:=.any) (Q':=Q) (l.drop n) n listed a' w' (fun j=>by simp[aot]) (by rw[hdl];exact hL.1) (hL.2 w' hw)
  rwa [hdl]at this) _ _ _ {w with drawn:=w.drawn+1} hC H
 rw[htl,show n+(l.toArray.size - n)=l.toArray.size by omega]at this
 exact this
def wide (w:World) (n:Nat) (os:Array Obj):World:={w with drawn:=n,heap:=w.heap++os}
structure Bz where
 n:Nat
 os:Array Obj
instance:Inhabited Bz:=⟨⟨0,#[]⟩⟩
def UZ (w:World) (n:Nat) (os:Array Obj):w.heap.size<=(wide w n os).heap.size:=by unfold wide;rw[Array.size_append];omega
def zU (w:World) (n:Nat) (os:Array Obj):Below w.heap.size w (wide w n os):=⟨rfl,rfl,rfl,UZ w n os,fun k hk=>by unfold wide;exact aoW hk⟩
def qy {w:World} {a:Addr} {v:Value} (hb:a.block<w.heap.size) (h:w.cell? a=some v) (n:Nat) (os:Array Obj):(wide w n os).cell? a=some v:=by rw[<-h];exact(zU w n os).cell hb
def U0 {w w':World} (h:Below w.heap.size w w'): ∃p:Bz,w'=wide w p.n p.os:=by
 refine⟨⟨w'.drawn,w'.heap.extract w.heap.size w'.heap.size⟩, ?_⟩
 have hh:w'.heap=w.heap++w'.heap.extract w.heap.size w'.heap.size:=by
  refine Array.ext_getElem? fun i=> ?_
  rcases ahi i w.heap.size with hi|hi
  ·rw[aoW hi,h.block i hi]
  rw[Array.getElem?_append_right hi,Array.getElem?_extract];have:=h.size
  split
  ·congr 1;omega
  exact apC (by omega)
 have h1:=h.os;have h2:=h.tape;have h3:=h.output;cases w';cases w;simp only[wide] at*;subst h1 h2 h3;rw[<-hh]
def KQ {f:FuncId} {args:Array Value} {w:World} {n:Nat} {os:Array Obj} {v:Value} (h:Calls P f args (wide w n os) fun e w'=>e=.returned v/\Below (wide w n os).heap.size (wide w n os) w'):
  Calls P f args (wide w n os) fun e w'=>e=.returned v/\ ∃p:Bz,w'=wide w p.n p.os:=
 h.mono fun _ _ ⟨he,hb⟩=>⟨he,U0 ((zU w n os).trans (hb.mono (UZ w n os)))⟩
def abU {id:Nat} {Q:Exit->Act->World->Prop} {a:Act} {w:World} {l:List Oper} (n:Nat) (hm:P.follows .mixedOrders=true) (hB:Region.lexTailB .any l.toArray n=true)
  (h:wpQuiet P l.toArray (fun w'=> ∃p:Bz,w'=wide w p.n p.os) (fun a'=> ∀w',(∃p:Bz,w'=wide w p.n p.os)->wpList P l.toArray Q (l.drop n) a' w') (l.take n) a):(Code.region id l.toArray true).wp P Q a w:=
 abT (C:=fun w'=> ∃p:Bz,w'=wide w p.n p.os) n hm hB (U0 ⟨rfl,rfl,rfl,aej _,fun _ _=>rfl⟩) h
def abV {id:Nat} {Q:Exit->Act->World->Prop} {a:Act} {w:World} {l:List Oper} (n:Nat) (hm:P.follows .mixedOrders=true) (hB:Region.lexTailB .any l.toArray n=true)
  (h:wpQuiet P l.toArray (fun w'=> ∃n,w'=w.drewN n) (fun a'=> ∀w',(∃n,w'=w.drewN n)->wpList P l.toArray Q (l.drop n) a' w') (l.take n) a):(Code.region id l.toArray true).wp P Q a w:=
 abT (C:=fun w'=> ∃n,w'=w.drewN n) n hm hB ⟨1,rfl⟩ h
def ajW {id:Nat} {Q:Exit->Act->World->Prop} {a:Act} {w:World} {l:List Oper} (hm:P.follows .mixedOrders=true) (hB:Region.lexB .any l.toArray=true)
  (h:wpQuiet P l.toArray (fun w'=> ∃p:Bz,w'=wide w p.n p.os) (fun a'=> ∀w',(∃p:Bz,w'=wide w p.n p.os)->Q .normal a' w') l a):(Code.region id l.toArray true).wp P Q a w:=
 wp_region_quiet (C:=fun w'=> ∃p:Bz,w'=wide w p.n p.os) hm hB (U0 ⟨rfl,rfl,rfl,aej _,fun _ _=>rfl⟩) (by simpa using h)
end Go.Proofs.YtdijgcnlbfgkdaaGreatDoor
namespace Go.Proofs.YtdijgcnlbfgkdaaGreatDoor
open Go.RowKit Go.Proofs.Tryz
attribute [local go_sem] ar4
def BX:List PanicEntry:=[{v:=.iface 96 (.agg #[]),recovered:=false}]
structure RS (q0:Nat×Nat) (b:Nat) (l:List Lex.Tok) (w:World):Prop where
 ex: ∃A n c k ts,ak w b 100 #[.slice A n c,.int .i64 (k:Nat)]/\ts.length=n/\ts.drop k=l/\k<=n/\n<=16777216/\Reads w (min b q0.2) 4 A n (nC ts)
 ok: ∀t∈l,Cy.lS t
 tot: ∃A c v,ak w b 100 #[.slice A q0.1 c,v]
def RS.kept {q0:Nat×Nat} {b:Nat} {l:List Lex.Tok} {w w':World} (h:RS q0 b l w) (hb:Below w.heap.size w w'):RS q0 b l w':=by
 obtain⟨A,n,c,k,ts,hk,h1,h2,h3,h4,h5⟩:=h.ex;exact⟨⟨A,n,c,k,ts,hk.below hb hk.lt,h1,h2,h3,h4,h5.below (hb.mono (by have:=hk.lt;omega))⟩,h.ok,by obtain⟨A,c,v,ht⟩:=h.tot;exact⟨A,c,v,ht.below hb ht.lt⟩⟩
def RS.lt {q0:Nat×Nat} {b:Nat} {l:List Lex.Tok} {w:World} (h:RS q0 b l w):b<w.heap.size:=by
 obtain⟨A,n,c,k,ts,hk,-⟩:=h.ex;exact hk.lt
def DT {w:World} {B:Nat} {A:Option Addr} {ts:List Lex.Tok} (h:Reads w B 4 A ts.length (nC ts)) {k:Nat} {t:Lex.Tok} (hk:ts[k]?=some t):
  ∃g o,A=some ⟨g,o,none⟩/\g<B/\w.cell? ⟨g,o+k*4,none⟩=some (.int .i64 (t.kind:Int))/\w.cell? ⟨g,o+k*4+1,none⟩=some (.string ⟨t.text.toArray⟩)/\w.cell? ⟨g,o+k*4+2,none⟩=some (.int .i64 t.num)/\w.cell? ⟨g,o+k*4+3,none⟩=some (.int .i64 (t.pos:Int)):=by
 obtain⟨hlt,-⟩:=aeK.1 hk;obtain⟨g,o,e,hg,hc⟩:=h.2 (by omega)
 have key: ∀j u,j<4->(zT t)[j]?=some u->w.cell? ⟨g,o+k*4+j,none⟩=some u:=fun j u hj hu=>by
  have:=hc (k*4+j) u (by rw[abP ts k t j hj hk];exact hu)
  rwa [<-anL]at this
 exact⟨g,o,e,hg,key 0 _ (by omega) rfl,key 1 _ (by omega) rfl,key 2 _ (by omega) rfl,key 3 _ (by omega) rfl⟩
def sV:Lex.Tok:=⟨0,[],0,0⟩
def vU (t:Lex.Tok):Value:=.agg #[.int .i64 (t.kind:Int),.string ⟨t.text.toArray⟩,.int .i64 t.num,.int .i64 (t.pos:Int)]
def IK {q0:Nat×Nat} (b:Nat) (l:List Lex.Tok) (w:World) (h:RS q0 b l w):
  Calls prog 86 #[.pointer (some ⟨b,0,none⟩)] w fun e w'=>e=.returned (vU (l.headD sV))/\Below w.heap.size w w':=by
 obtain⟨A,n,c,k,ts,hk,h1,h2,h3,h4,h5⟩:=h.ex;clear h;have a0:w.cell? ⟨b,0,none⟩=some (.slice A n c):=hk.cell 0;have a1:w.cell? ⟨b,1,none⟩=some (.int .i64 (k:Nat)):=hk.cell 1;have hlt:=hk.lt;rw[<-h1]at h5
 rcases ahi k n with hkn|hge
 ·have hkt:ts[k]?=some (l.headD sV):=by
   rw[<-h2];have hk':k<ts.length:=by omega
   rw[afk hk',an2,aen hk']
  obtain⟨t,ht⟩:=aj (l.headD sV);rw[ht]at hkt⊢;obtain⟨g,o,rfl,hg,d0,d1,d2,d3⟩:=DT h5 hkt;unfold vU;have fQ:(k:Int)<n:=by omega
  have hk0:(0:Int)<=k:=by omega
  have hgw:g<w.heap.size:=by omega
  clear h1 h2 h3 h5 ht hk hkt;go_enter func86,ntmps86;go_wp2_with fail
  go_quiet (fail)
  go_wp2_with fail;refine abV 10 (by kernel_rfl) (by kernel_rfl) ?_
  simp only[ag7,agL,af9,afW]
  repeat (quiet_step (fail))
  refine atj ?_;rintro _ ⟨m,rfl⟩;go_wp2
  exact arW (v:=.agg #[.int .i64 (t.kind:Int),.string ⟨t.text.toArray⟩,.int .i64 t.num,.int .i64 (t.pos:Int)]) (by simp[results,results86,go_sem]) rfl
   ⟨rfl,((((below_drewN ((aoa _ _).alloc (aej _) _) (nq+m)).setCell (by simp) _).setCell (by simp) _).setCell (by simp) _).setCell (by simp) _⟩
 have hl:l=[]:=by rw[<-h2];exact af8 (by omega)
 subst hl;have fQ:(n:Int)<=k:=by omega
 clear h1 h2 h3 h5 hk;unfold vU sV;go_enter func86,ntmps86;go_wp2_with fail
 go_quiet (fail)
 go_wp2
 exact arW (v:=.agg #[.int .i64 0,.string ⟨#[]⟩,.int .i64 0,.int .i64 0]) (by simp[results,results86,go_sem]) rfl
  ⟨rfl,((((below_drewN ((aoa _ _).alloc (aej _) _) nq).setCell (by simp) _).setCell (by simp) _).setCell (by simp) _).setCell (by simp) _⟩
def hv (kd:Nat) (m:List UInt8):List Lex.Tok->Option (List Lex.Tok)
 |[]=>none
 |t :: r=>if t.kind=kd/\t.text=m then some r else none
def ajX (m:List UInt8) (l:List Lex.Tok):hv 5 m l=Cy.mark m l:=by cases l<;>rfl
def RS.next {q0:Nat×Nat} {b:Nat} {t:Lex.Tok} {r:List Lex.Tok} {w:World} (h:RS q0 b (t :: r) w):
  ∃k:Nat,w.cell? ⟨b,1,none⟩=some (.int .i64 (k:Nat))/\w.frozen? ⟨b,1,none⟩=false/\k<1073741824/\RS q0 b r (w.setCell ⟨b,1,none⟩ (.int .i64 ((k:Int)+1))):=by
 obtain⟨A,n,c,k,ts,hk,h1,h2,h3,h4,h5⟩:=h.ex
 have hkn:k<n:=by
  rcases ahi k n with hlt|hge
  ·exact hlt
  rw[af8 (by omega)]at h2;cases h2
 refine⟨k,hk.cell 1,hk.frozen 1,by omega,⟨⟨A,n,c,k+1,ts, ?_,h1, ?_,by omega,h4, ?_⟩,fun x hx=>h.ok x (ahj _ hx),by obtain⟨A,c,v,ht⟩:=h.tot;exact⟨A,c,.int .i64 ((k:Int)+1),(ht.aG 1 (.int .i64 ((k:Int)+1))).cast (by simp)⟩⟩⟩
 ·have:=hk.aG 1 (.int .i64 ((k:Int)+1))
  simpa using this
 ·rw[afk (by omega)]at h2
  exact(aq3 h2).2
 exact h5.below ((aoa _ w).setCell (p:=⟨b,1,none⟩) (show min b q0.2<=b by omega) _)
def RS.step {q0:Nat×Nat} {b:Nat} {l:List Lex.Tok} {w w':World} (h:RS q0 b l w) (hb:Below w.heap.size w w') (o:Obj):RS q0 b l (w'.alloc o):=h.kept (hb.alloc hb.size o)
def nD (p:Value) (w:World):Calls prog 34 #[p,.bool true] w fun e w'=>e=.returned (.tuple #[])/\w=w':=by
 go_enter func34,ntmps34;go_wp2
 go_end0
 exact⟨rfl,rfl⟩
def og (p:Value) (w:World):Calls prog 34 #[p,.bool false] w fun e w'=>e=.panicked BX/\w=w':=by
 go_enter func34,ntmps34;go_wp2;exact⟨rfl,rfl,rfl⟩
def abW {q0:Nat×Nat} (b kd:Nat) (z:ByteArray) (l:List Lex.Tok) (w:World) (h:RS q0 b l w) (hkd:kd≠0):
  Calls prog 35 #[.pointer (some ⟨b,0,none⟩),.int .i64 (kd:Nat),.string z] w fun e w'=>e=.returned (.bool (hv kd z.data.toList l).isSome)/\RS q0 b ((hv kd z.data.toList l).getD l) w'/\w.grownBy w' (some b):=by
 have HP:=ah (IK b l w h);obtain⟨t,ht⟩:=aj (l.headD sV);rw[ht]at HP;unfold vU at HP;obtain⟨zt,aK⟩:=aj (⟨t.text.toArray⟩:ByteArray);rw[aK]at HP;have lZ:zt.data.toList=t.text:=by rw[<-aK]
 have HR:=ah h;clear h aK;by_cases hk:t.kind=kd
 case neg=>
  have hnone:hv kd z.data.toList l=none:=by
   cases l with
   |nil=>rfl
   |cons u r=>rw[hv,aer];rintro⟨h1,-⟩;rw[an2]at ht;exact hk (ht▸h1)
  rw[hnone];have t1:((t.kind:Int) ==(kd:Nat))=false:=aek.2 (by omega)
  have t2:((t.kind:Int) !=(kd:Nat))=true:=by rw[afd];omega
  clear ht hnone hk lZ;go_enter func35,ntmps35;go_wp2_with fail;refine mq8 HP fun w1 hb=>?_;have HB:=ah hb;clear hb;go_wp2;go_ret;exact⟨rfl,HR.step HB.out _,bV (HB.alloc HB.size _) _⟩
 subst hk;have hkk:((t.kind:Int) !=(t.kind:Int))=false:=by simp
 by_cases hz:t.text=z.data.toList
 case neg=>
  have hnone:hv t.kind z.data.toList l=none:=by
   cases l with
   |nil=>rfl
   |cons u r=>rw[hv,aer];rintro⟨-,h1⟩;rw[an2]at ht;exact hz (ht▸h1)
  rw[hnone];have t3:(zt.toList == z.toList)=false:=aek.2 (by rw[aod,aod,lZ];exact hz)
  clear ht hnone hz lZ hkd;go_enter func35,ntmps35;go_wp2_with fail;refine mq8 HP fun w1 hb=>?_;have HB:=ah hb;clear hb;go_wp2;go_ret;exact⟨rfl,HR.step HB.out _,bV (HB.alloc HB.size _) _⟩
 obtain⟨r,rfl⟩: ∃r,l=t :: r:=by
  cases l with
  |nil=>rw[List.headD_nil]at ht;rw[<-ht]at hkd;exact absurd rfl hkd
  |cons u r=>rw[an2]at ht;exact⟨r,by rw[ht]⟩
 have hsome:hv t.kind z.data.toList (t :: r)=some r:=by rw[hv,aeu ⟨rfl,hz⟩]
 rw[hsome];have t3:(zt.toList == z.toList)=true:=afc.2 (by rw[aod,aod,lZ];exact hz)
 clear ht hsome hz lZ hkd;go_enter func35,ntmps35;go_wp2_with fail;refine mq8 HP fun w1 hb=>?_;obtain⟨W2,hW2⟩:=aj (w1.alloc (.cells #[.int .i64 (t.kind:Int),.string zt,.int .i64 t.num,.int .i64 (t.pos:Int)] 94));have hr2:RS q0 b (t :: r) W2:=by rw[<-hW2];exact HR.step hb _
 have hg2:w.grownBy W2 (some b):=by rw[<-hW2];exact bV (hb.alloc hb.size _) _
 have hk2:ak W2 w1.heap.size 94 #[.int .i64 (t.kind:Int),.string zt,.int .i64 t.num,.int .i64 (t.pos:Int)]:=by rw[<-hW2];exact ak.new _ _ _
 obtain⟨k,e1,e2,e3,e4⟩:=hr2.next;refine gq3 hg2 e4 hW2 fun HG HN HW2=>?_;have d0:W2.cell? ⟨w1.heap.size,0,none⟩=some (.int .i64 (t.kind:Int)):=hk2.cell 0;have d1:W2.cell? ⟨w1.heap.size,1,none⟩=some (.string zt):=hk2.cell 1;have hki:(k:Int)<1073741824:=by omega
 clear hW2 hr2 hg2 hk2 e4 e3 hb
 go_upto_region 2 with fail
 rw[HW2.out];go_wp2;go_ret;exact⟨rfl,HN.out,mX HG.out (.inl rfl) _⟩
def RS.raw {q0:Nat×Nat} {b:Nat} {l:List Lex.Tok} {w:World} (h:RS q0 b l w): ∃k:Nat,w.cell? ⟨b,1,none⟩=some (.int .i64 (k:Nat))/\w.frozen? ⟨b,1,none⟩=false/\k<1073741824:=by
 obtain⟨A,n,c,k,ts,hk,h1,h2,h3,h4,h5⟩:=h.ex;exact⟨k,hk.cell 1,hk.frozen 1,by omega⟩
def abX {q0:Nat×Nat} (b:Nat) (z:ByteArray) (l:List Lex.Tok) (w:World) (h:RS q0 b l w):
  Calls prog 37 #[.pointer (some ⟨b,0,none⟩),.string z] w fun e w'=>e=.returned (.bool (Cy.mark z.data.toList l).isSome)/\RS q0 b ((Cy.mark z.data.toList l).getD l) w'/\w.grownBy w' (some b):=by
 have HC:=ah (abW b 5 z l w h (by decide))
 rw[ajX]at HC;obtain⟨m,hm⟩:=aj (Cy.mark z.data.toList l);rw[hm]at HC⊢;clear hm h;go_enter func37,ntmps37;go_wp2_with fail;refine tq8 HC fun w1 h1 h2=>?_;have H1:=ah h1;have H2:=ah h2;clear h1 h2;go_wp2;go_ret;exact⟨rfl,H1.out,H2.out⟩
def kW {q0:Nat×Nat} {b:Nat} {z:ByteArray} {l r:List Lex.Tok} {w:World} (h:RS q0 b l w) (hm:Cy.mark z.data.toList l=some r):
  Calls prog 37 #[.pointer (some ⟨b,0,none⟩),.string z] w fun e w'=>e=.returned (.bool true)/\RS q0 b r w'/\w.grownBy w' (some b):=by
 have:=abX b z l w h;rw[hm]at this;exact this
def kD {q0:Nat×Nat} {b:Nat} {z:ByteArray} {l:List Lex.Tok} {w:World} (h:RS q0 b l w) (hm:Cy.mark z.data.toList l=none):
  Calls prog 37 #[.pointer (some ⟨b,0,none⟩),.string z] w fun e w'=>e=.returned (.bool false)/\RS q0 b l w'/\w.grownBy w' (some b):=by
 have:=abX b z l w h;rw[hm]at this;exact this
def FP {q0:Nat×Nat} {b:Nat} {x:List UInt8} {l r:List Lex.Tok} {w:World} (h:RS q0 b l w) (hx:Cy.dS l=some (x,r)):
  Calls prog 87 #[.pointer (some ⟨b,0,none⟩)] w fun e w'=>e=.returned (.string ⟨x.toArray⟩)/\RS q0 b r w'/\w.grownBy w' (some b):=by
 cases l with
 |nil=>simp[Cy.dS]at hx
 |cons t l'=>
 rw[Cy.dS]at hx
 split at hx
 case isFalse=>cases hx
 case isTrue hk=>
 cases hx;have HP:=ah (IK b (t :: r) w h);rw[an2]at HP;unfold vU at HP;obtain⟨zt,aK⟩:=aj (⟨t.text.toArray⟩:ByteArray);rw[aK]at HP⊢;rw[hk]at HP;have HR:=ah h;clear h aK hk;go_enter func87,ntmps87;go_wp2_with fail;refine mq8 HP fun w1 hb=>?_;obtain⟨W2,hW2⟩:=aj (w1.alloc (.cells #[.int .i64 1,.string zt,.int .i64 t.num,.int .i64 (t.pos:Int)] 94));have hr2:RS q0 b (t :: r) W2:=by rw[<-hW2];exact HR.step hb _
 have hg2:w.grownBy W2 (some b):=by rw[<-hW2];exact bV (hb.alloc hb.size _) _
 have hk2:ak W2 w1.heap.size 94 #[.int .i64 1,.string zt,.int .i64 t.num,.int .i64 (t.pos:Int)]:=by rw[<-hW2];exact ak.new _ _ _
 obtain⟨k,e1,e2,e3,e4⟩:=hr2.next;refine gq3 hg2 e4 hW2 fun HG HN HW2=>?_;have d0:W2.cell? ⟨w1.heap.size,0,none⟩=some (.int .i64 1):=hk2.cell 0;have d1:W2.cell? ⟨w1.heap.size,1,none⟩=some (.string zt):=hk2.cell 1;have hki:(k:Int)<1073741824:=by omega
 have hbw:b≠w1.heap.size:=by have:=HR.lt;have:=hb.size;omega
 have d1':(W2.setCell ⟨b,1,none⟩ (.int .i64 ((k:Int)+1))).cell? ⟨w1.heap.size,1,none⟩=some (.string zt):=(hk2.far (p:=⟨b,1,none⟩) (fun e=>hbw e.symm) _).cell 1
 clear hW2 hr2 hg2 hk2 e4 e3 hb
 go_upto_region 2 with fail
 rw[HW2.out];go_wp2_with fail;refine iq7 (nD _ _) ?_;go_wp2;go_ret;exact⟨rfl,HN.out,mX HG.out (.inl rfl) _⟩
def FQ {q0:Nat×Nat} {b:Nat} {l:List Lex.Tok} {w:World} (h:RS q0 b l w) (hx:Cy.dS l=none):
  Calls prog 87 #[.pointer (some ⟨b,0,none⟩)] w fun e w'=>e=.panicked BX/\w.grownBy w' (some b):=by
 have HP:=ah (IK b l w h);obtain⟨t,ht⟩:=aj (l.headD sV)
 have hk:t.kind≠1:=by
  cases l with
  |nil=>rw[<-ht];simp[sV]
  |cons u r=>
   rw[Cy.dS]at hx
   split at hx
   ·cases hx
   rename_i hn;rw[an2]at ht;rw[<-ht];exact hn
 rw[ht]at HP;unfold vU at HP;obtain⟨zt,aK⟩:=aj (⟨t.text.toArray⟩:ByteArray);rw[aK]at HP;have t1:((t.kind:Int) == 1)=false:=aek.2 (by omega)
 clear h aK hk hx ht;go_enter func87,ntmps87;go_wp2_with fail;refine mq8 HP fun w1 hb=>?_;have HB:=ah hb;clear hb;go_wp2_with fail;refine iq7 (og _ _) ?_;exact⟨rfl,rfl,bV (HB.alloc HB.size _) _⟩
def FU {q0:Nat×Nat} {b:Nat} {t:Lex.Tok} {l:List Lex.Tok} {w w1:World} {K:Int} {zt:ByteArray} (h:RS q0 b l w) (hb:Below w.heap.size w w1) (hl:l.headD sV=t):
  ∃W2 k,w1.alloc (.cells #[.int .i64 K,.string zt,.int .i64 t.num,.int .i64 (t.pos:Int)] 94)=W2/\W2.cell? ⟨b,1,none⟩=some (.int .i64 (k:Nat))/\W2.frozen? ⟨b,1,none⟩=false/\(k:Int)<1073741824/\
   Hid ((∀r,l=t :: r->RS q0 b r (W2.setCell ⟨b,1,none⟩ (.int .i64 ((k:Int)+1))))/\w.grownBy (W2.setCell ⟨b,1,none⟩ (.int .i64 ((k:Int)+1))) (some b))/\
   (W2.setCell ⟨b,1,none⟩ (.int .i64 ((k:Int)+1))).cell? ⟨w1.heap.size,0,none⟩=some (.int .i64 K)/\(W2.setCell ⟨b,1,none⟩ (.int .i64 ((k:Int)+1))).cell? ⟨w1.heap.size,1,none⟩=some (.string zt)/\(W2.setCell ⟨b,1,none⟩ (.int .i64 ((k:Int)+1))).cell? ⟨w1.heap.size,2,none⟩=some (.int .i64 t.num):=by
 have hk2:=ak.new w1 94 #[.int .i64 K,.string zt,.int .i64 t.num,.int .i64 (t.pos:Int)];have hr2:=h.step hb (.cells #[.int .i64 K,.string zt,.int .i64 t.num,.int .i64 (t.pos:Int)] 94);obtain⟨k,e1,e2,e3⟩:=hr2.raw;have hbw:b≠w1.heap.size:=by have:=h.lt;have:=hb.size;omega
 have hk3:=hk2.far (p:=⟨b,1,none⟩) (fun e=>hbw e.symm) (.int .i64 ((k:Int)+1))
 refine⟨_,k,rfl,e1,e2,by omega,ah ⟨fun r hr=> ?_,mX (bV (hb.alloc hb.size _) _) (.inl rfl) _⟩,hk3.cell 0,hk3.cell 1,hk3.cell 2⟩
 subst hr;obtain⟨k',c1,-,-,e4⟩:=hr2.next;rw[e1]at c1;have:(k:Int)=(k':Int):=by injection c1 with c1;injection c1
 rw[this];exact e4
def abY {q0:Nat×Nat} {b:Nat} {k n:Int} {x:List UInt8} {l r:List Lex.Tok} {w:World} (h:RS q0 b l w) (hx:Cy.mZ l=some ((k,n,x),r)):
  Calls prog 189 #[.pointer (some ⟨b,0,none⟩)] w fun e w'=>e=.returned (.tuple #[.int .i64 k,.int .i64 n,.string ⟨x.toArray⟩])/\RS q0 b r w'/\w.grownBy w' (some b):=by
 cases l with
 |nil=>simp[Cy.mZ]at hx
 |cons t l'=>
 rw[Cy.mZ]at hx;have HP:=ah (IK b (t :: l') w h);rw[an2]at HP;unfold vU at HP;have HR:=ah h;obtain⟨zt,aK⟩:=aj (⟨t.text.toArray⟩:ByteArray);have lZ:zt.data.toList=t.text:=by rw[<-aK]
 obtain⟨K,hK⟩:=aj (t.kind:Int);rw[aK,hK]at HP;have hu:=rG;clear h;by_cases h1:t.kind=1
 ·rw[aeu h1]at hx
  obtain rfl:K=1:=by omega
  have ht:(zt.toList ==[116,114,117,101])=(t.text == au.TRUE):=by rw[aod,lZ];rfl
  have hf:(zt.toList ==[102,97,108,115,101])=(t.text == au.FALSE):=by rw[aod,lZ];rfl
  by_cases e1:t.text=au.TRUE
  ·rw[aeu e1]at hx
   cases hx;rw[show(t.text == au.TRUE)=true from afc.2 e1]at ht
   clear hf e1 h1 lZ aK hK;go_enter func189,ntmps189;go_wp2_with fail;refine mq8 HP fun w1 hb=>?_;obtain⟨W2,k2,hW2,c1,f1,hki,mg,d0,d1,d2⟩:=FU (t:=t) (K:=1) (zt:=zt) HR.out hb rfl;have HW2:=ah hW2;clear hW2 hb
   go_upto_region 2 with fail
   rw[HW2.out];go_wp2_with fail;refine iq7 (nD _ _) ?_;go_wp2
   go_ret3
   exact⟨rfl,mg.out.1 _ rfl,mg.out.2⟩
  rw[aer e1]at hx
  split at hx
  case isFalse=>cases hx
  case isTrue e2=>
  cases hx;rw[show(t.text == au.TRUE)=false from aek.2 e1]at ht
  rw[show(t.text == au.FALSE)=true from afc.2 e2]at hf
  clear e1 e2 h1 lZ aK hK;go_enter func189,ntmps189;go_wp2_with fail;refine mq8 HP fun w1 hb=>?_;obtain⟨W2,k2,hW2,c1,f1,hki,mg,d0,d1,d2⟩:=FU (t:=t) (K:=1) (zt:=zt) HR.out hb rfl;have HW2:=ah hW2;clear hW2 hb
  go_upto_region 2 with fail
  rw[HW2.out];go_wp2_with fail;refine iq7 (nD _ _) ?_;go_wp2
  go_ret3
  exact⟨rfl,mg.out.1 _ rfl,mg.out.2⟩
 rw[aer h1]at hx;have t1:(K == 1)=false:=aek.2 (by omega)
 by_cases h2:t.kind=2
 ·rw[aeu h2]at hx
  cases hx;obtain rfl:K=2:=by omega
  clear h1 h2 lZ aK hK t1;go_enter func189,ntmps189;go_wp2_with fail;refine mq8 HP fun w1 hb=>?_;obtain⟨W2,k2,hW2,c1,f1,hki,mg,d0,d1,d2⟩:=FU (t:=t) (K:=2) (zt:=zt) HR.out hb rfl;have HW2:=ah hW2;clear hW2 hb
  go_upto_region 2 with fail
  rw[HW2.out];go_wp2_with fail
  go_quiet (fail)
  go_wp2
  go_ret3
  exact⟨rfl,(mg.out.1 _ rfl).kept (below_drewN (aoa _ _) nq),wH mg.out.2 nq⟩
 rw[aer h2]at hx;have t2:(K == 2)=false:=aek.2 (by omega)
 by_cases h3:t.kind=3
 ·rw[aeu h3]at hx
  cases hx;obtain rfl:K=3:=by omega
  clear h1 h2 h3 lZ aK hK t1 t2;go_enter func189,ntmps189;go_wp2_with fail;refine mq8 HP fun w1 hb=>?_;obtain⟨W2,k2,hW2,c1,f1,hki,mg,d0,d1,d2⟩:=FU (t:=t) (K:=3) (zt:=zt) HR.out hb rfl;have HW2:=ah hW2;clear hW2 hb
  go_upto_region 2 with fail
  rw[HW2.out];go_wp2_with fail
  go_quiet (fail)
  go_wp2
  go_ret3
  exact⟨rfl,(mg.out.1 _ rfl).kept (below_drewN (aoa _ _) nq),wH mg.out.2 nq⟩
 rw[aer h3]at hx
 split at hx
 case isFalse=>cases hx
 case isTrue h4=>
 cases hx;obtain rfl:K=4:=by omega
 have HZ:=ah aK;clear h1 h2 h3 h4 lZ aK hK t1 t2;go_enter func189,ntmps189;go_wp2_with fail;refine mq8 HP fun w1 hb=>?_;obtain⟨W2,k2,hW2,c1,f1,hki,mg,d0,d1,d2⟩:=FU (t:=t) (K:=4) (zt:=zt) HR.out hb rfl;have HW2:=ah hW2;clear hW2 hb
 go_upto_region 2 with fail
 rw[HW2.out];go_wp2_with fail;refine iq7 (nD _ _) ?_;go_wp2_with fail
 go_quiet (fail)
 go_wp2
 go_ret3
 exact⟨by rw[HZ.out];rfl,(mg.out.1 _ rfl).kept (below_drewN (aoa _ _) nq),wH mg.out.2 nq⟩
def abZ {q0:Nat×Nat} {b:Nat} {l:List Lex.Tok} {w:World} (h:RS q0 b l w) (hx:Cy.mZ l=none):
  Calls prog 189 #[.pointer (some ⟨b,0,none⟩)] w fun e w'=>e=.panicked BX/\w.grownBy w' (some b):=by
 have HP:=ah (IK b l w h);obtain⟨t,hlt⟩:=aj (l.headD sV);have HR:=ah h
 have hc:(t.kind=1/\t.text≠au.TRUE/\t.text≠au.FALSE)\/(t.kind≠1/\t.kind≠2/\t.kind≠3/\t.kind≠4):=by
  cases l with
  |nil=>rw[<-hlt];right;simp[sV]
  |cons u r=>
   rw[an2]at hlt;subst hlt;rw[Cy.mZ]at hx
   repeat' split at hx
   all_goals first|(cases hx;done)|(left;exact⟨by assumption,by assumption,by assumption⟩)|(right;exact⟨by assumption,by assumption,by assumption,by assumption⟩)
 rw[hlt]at HP;unfold vU at HP;obtain⟨zt,aK⟩:=aj (⟨t.text.toArray⟩:ByteArray);have lZ:zt.data.toList=t.text:=by rw[<-aK]
 obtain⟨K,hK⟩:=aj (t.kind:Int);rw[aK,hK]at HP;have hu:=rG;have aA:=ah hlt;clear h hx hlt
 rcases hc with⟨h1,e1,e2⟩|⟨h1,h2,h3,h4⟩
 ·obtain rfl:K=1:=by omega
  have ht:(zt.toList ==[116,114,117,101])=false:=aek.2 (by rw[aod,lZ];exact e1)
  have hf:(zt.toList ==[102,97,108,115,101])=false:=aek.2 (by rw[aod,lZ];exact e2)
  clear h1 e1 e2 aK lZ hK;go_enter func189,ntmps189;go_wp2_with fail;refine mq8 HP fun w1 hb=>?_;obtain⟨W2,k2,hW2,c1,f1,hki,mg,d0,d1,d2⟩:=FU (t:=t) (K:=1) (zt:=zt) HR.out hb aA.out;have HW2:=ah hW2;clear hW2 hb
  go_upto_region 2 with fail
  rw[HW2.out];go_wp2_with fail;refine iq7 (og _ _) ?_;exact⟨rfl,rfl,mg.out.2⟩
 have t1:(K == 1)=false:=aek.2 (by omega)
 have t2:(K == 2)=false:=aek.2 (by omega)
 have t3:(K == 3)=false:=aek.2 (by omega)
 have t4:(K == 4)=false:=aek.2 (by omega)
 clear h1 h2 h3 h4 aK lZ hK;go_enter func189,ntmps189;go_wp2_with fail;refine mq8 HP fun w1 hb=>?_;obtain⟨W2,k2,hW2,c1,f1,hki,mg,d0,d1,d2⟩:=FU (t:=t) (K:=K) (zt:=zt) HR.out hb aA.out;have HW2:=ah hW2;clear hW2 hb
 go_upto_region 2 with fail
 rw[HW2.out];go_wp2_with fail;refine iq7 (og _ _) ?_;exact⟨rfl,rfl,mg.out.2⟩
end Go.Proofs.YtdijgcnlbfgkdaaGreatDoor
