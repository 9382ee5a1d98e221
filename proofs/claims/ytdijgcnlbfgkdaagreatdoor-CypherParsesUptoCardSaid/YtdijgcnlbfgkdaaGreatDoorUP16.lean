/- Lemmas. -/
import Derived.Test.YtdijgcnlbfgkdaaGreatDoorUP15
import Derived.Defers
import Derived.Recover
import Derived.Laws.Pointers
import Derived.Maps.Own
import Derived.Maps.OwnOps
import Derived.Maps.OwnIn
import Derived.Maps.Views
import Derived.StringKeys
set_option maxHeartbeats 64000000
set_option maxRecDepth 1000000
set_option linter.all false
namespace Go.Proofs.YtdijgcnlbfgkdaaGreatDoor
open Go.RowKit Go.Proofs.Tryz
def ake (p q:Nat) (A:Option Addr) (n c:Nat) (e0:Int) (w:World) (h0:ak w p 47 #[.slice A n c]) (h1:ak w q 27 #[.int .i64 e0]) (hpq:p≠q):
  CallsD prog 33 #[.pointer (some ⟨p,0,none⟩),.pointer (some ⟨q,0,none⟩)] (.panicking BX) w fun e u' w'=>
   e=.returned (.tuple #[])/\u'=.panicking [{v:=.iface 96 (.agg #[]),recovered:=true}]/\ak w' p 47 #[.slice none 0 0]/\ak w' q 27 #[.int .i64 250]/\(∀B,B<=p->B<=q->B<=w.heap.size->Below B w w'):=by
 have c0:w.cell? ⟨p,0,none⟩=some (.slice A n c):=h0.cell 0;have c1:w.cell? ⟨q,0,none⟩=some (.int .i64 e0):=h1.cell 0;have f0:=h0.frozen 0;have f1:=h1.frozen 0;have lp:=h0.lt;have lq:=h1.lt;have H0:=ah h0;have H1:=ah h1;refine callsD_of_wpS func33 rfl fun c₀ cs hu=> ?_
 unfold BX at hu
 apply wpS_seq
 apply wpS_region
 simp[wpOpsS,go_sem,recoverD,hu,ntmps33,Exit.thenS];refine wpS_of_wp ?_
 change Code.wp _ _ _ {tmps:= #[.pointer (some ⟨p,0,none⟩),.pointer (some ⟨q,0,none⟩),.iface 96 (.agg #[]),undef,undef,.iface 96 (.agg #[]),undef,undef,undef,undef,undef,undef,undef,undef,undef,undef],defers:=[]} w
 have hta: ∀w:World,(Instr.typeAssert (.iface 96 (.agg #[])) 20 96 true).run prog w=.ok (.tuple #[.agg #[],.bool true]) w:=fun _=>by kernel_rfl
 clear h0 h1;go_wp2;refine⟨rfl,_,rfl,.tuple #[],by simp[results,results33,go_sem],rfl,rfl, ?_, ?_,fun B hp hq hB=>(((aoa B w).setCell (p:=⟨p,0,none⟩) hp _).setCell (p:=⟨q,0,none⟩) hq _).alloc (by simpa using hB) _⟩
 ·exact(((H0.aG 0 (.slice none 0 0)).far (p:=⟨q,0,none⟩) hpq _).alloc _).cast (by simp)
 exact(((H1.far (p:=⟨p,0,none⟩) (fun e=>hpq e.symm) _).aG 0 (.int .i64 250)).alloc _).cast (by simp)
def akf (p q:Nat) (w:World):
  CallsD prog 33 #[.pointer (some ⟨p,0,none⟩),.pointer (some ⟨q,0,none⟩)] .returning w fun e u' w'=>e=.returned (.tuple #[])/\u'=.returning/\w'=w:=by
 refine callsD_of_wpS func33 rfl fun c₀ cs hu=> ?_
 apply wpS_seq
 apply wpS_region
 simp[wpOpsS,go_sem,recoverD,hu,ntmps33,Exit.thenS];refine wpS_of_wp ?_
 change Code.wp _ _ _ {tmps:= #[.pointer (some ⟨p,0,none⟩),.pointer (some ⟨q,0,none⟩),.nilIface,undef,undef,.nilIface,undef,undef,undef,undef,undef,undef,undef,undef,undef,undef],defers:=[]} w
 go_wp2;refine⟨rfl,.returning, ?_,.tuple #[],by simp[results,results33,go_sem],rfl,rfl, ?_⟩
 ·cases c₀
  simp_all
 rfl
def aT.row {T:TypeId} {w w':World} {B:Nat} {row:Option Nat} {v:Value} {ps:List Gr.P} (h:aT T w B v ps) (hg:w.grownBy w' row) (hty: ∀g c t fz,row=some g->w.heap[g]?=some (.cells c t fz)->t≠2/\t≠9/\t≠T):aT T w' B v ps:=by
 obtain⟨l,e,h1,h2⟩:=h;exact⟨l,e,fun x hx=>(h1 x hx).row hg fun g c t fz hr hc=>⟨(hty g c t fz hr hc).1,(hty g c t fz hr hc).2.1⟩,eu h2 hg fun g c t fz hr hc=>(hty g c t fz hr hc).2.2⟩
def aT.below {T:TypeId} {w w':World} {B:Nat} {v:Value} {ps:List Gr.P} (h:aT T w B v ps) (hb:Below w.heap.size w w'):aT T w' B v ps:=h.row (bV hb none) (fun g c t fz hr=>by cases hr)
def pF (W:World) (B:Nat) (x:Cy.aI×List Value):Prop:=
 ∃sn sp,x.2=[ST x.1.first,ST x.1.word,ST x.1.other,sn,sp]/\W.ownsRow B 9 1 sn x.1.names.length (x.1.names.map ST)/\aT 165 W B sp x.1.props
def pF.step {w w':World} {B b:Nat} {x:Cy.aI×List Value} (h:pF w B x) (hg:w.grownBy w' (some b)) (hb:b<B):pF w' B x:=by
 obtain⟨s,t,e,h1,h2⟩:=h;exact⟨s,t,e,fP h1 hg hb,h2.step hg hb⟩
def pF.row {w w':World} {B:Nat} {row:Option Nat} {x:Cy.aI×List Value} (h:pF w B x) (hg:w.grownBy w' row) (hty: ∀g c t fz,row=some g->w.heap[g]?=some (.cells c t fz)->t≠2/\t≠9/\t≠165):pF w' B x:=by
 obtain⟨s,t,e,h1,h2⟩:=h;exact⟨s,t,e,eu h1 hg fun g c t' fz hr hc=>(hty g c t' fz hr hc).2.1,h2.row hg hty⟩
def qA (W:World) (B:Nat) (v:Value) (ps:List Cy.aI):Prop:=
 ∃l:List (Cy.aI×List Value),l.map Prod.fst=ps/\(∀x∈l,pF W B x)/\W.ownsRow B 56 5 v ps.length (l.flatMap Prod.snd)
def qA.step {w w':World} {B b:Nat} {v:Value} {ps:List Cy.aI} (h:qA w B v ps) (hg:w.grownBy w' (some b)) (hb:b<B):qA w' B v ps:=by
 obtain⟨l,e,h1,h2⟩:=h;exact⟨l,e,fun x hx=>(h1 x hx).step hg hb,fP h2 hg hb⟩
def qA.put {w w':World} {B:Nat} {v v':Value} {ps:List Cy.aI} {p:Cy.aI} {cs:List Value} {l:List (Cy.aI×List Value)} (hl:l.map Prod.fst=ps) (h1: ∀x∈l,pF w B x) (hp:pF w B (p,cs))
  (hv:w.ownsRow B 56 5 v ps.length (l.flatMap Prod.snd)) (hg:w.grownBy w' v.ownBlock) (hown:w'.ownsRow B 56 5 v' (ps.length+1) (l.flatMap Prod.snd++cs)):qA w' B v' (ps++[p]):=by
 have hty: ∀g c t fz,v.ownBlock=some g->w.heap[g]?=some (.cells c t fz)->t≠2/\t≠9/\t≠165:=fun g c t fz hr hc=>by
  obtain⟨-,c',hc'⟩:=mW hv g hr;rw[hc']at hc;cases hc
  decide
 refine⟨l++[(p,cs)],by rw[afg,hl];rfl,fun x hx=> ?_, ?_⟩
 ·rcases afq.1 hx with hx|hx
  ·exact(h1 x hx).row hg hty
  rw[afm.1 hx];exact hp.row hg hty
 rw[aeo,afR]
 simpa using hown
def akg:(prog.info? 56).map (fun i=>(i.zero,i.size,i.bytes))=some (some (.agg #[.string ⟨#[]⟩,.string ⟨#[]⟩,.string ⟨#[]⟩,.slice none 0 0,.slice none 0 0]),5,96):=by kernel_rfl
structure Aq (n:Nat) (w:World) (acc:List Cy.aI) (l:List Lex.Tok) (V:World):Prop where
 out: ∃A c,ak V w.heap.size 47 #[.slice A acc.length c]/\qA V (w.heap.size+3) (.slice A acc.length c) acc
 err:ak V (w.heap.size+1) 27 #[.int .i64 0]
 rs:RS (n,w.heap.size) (w.heap.size+2) l V
 bel:Below w.heap.size w V
def Aq.step {n:Nat} {w V V':World} {acc:List Cy.aI} {l l':List Lex.Tok} (h:Aq n w acc l V) (hr:RS (n,w.heap.size) (w.heap.size+2) l' V') (hg:V.grownBy V' (some (w.heap.size+2))):Aq n w acc l' V':=by
 obtain⟨A,c,h1,h2⟩:=h.out;exact⟨⟨A,c,h1.grown hg (fun e=>by have:=aeM e;omega),h2.step hg (by omega)⟩,h.err.grown hg (fun e=>by have:=aeM e;omega),hr,h.bel.trans ⟨hg.os,hg.tape,hg.output,hg.size,fun i hi=>hg.block i (by have:=h.bel.size;omega) (fun e=>by have:=aeM e;omega)⟩⟩
def Aq.sz {n:Nat} {w V:World} {acc:List Cy.aI} {l:List Lex.Tok} (h:Aq n w acc l V):w.heap.size+3<=V.heap.size:=h.rs.lt
def RS.lower {q0:Nat×Nat} {b g:Nat} {l:List Lex.Tok} {w w':World} (h:RS q0 b l w) (hg:w.grownBy w' (some g)) (h1:q0.2<=g) (h2:g≠b):RS q0 b l w':=by
 obtain⟨A,n,c,k,ts,hk,e1,e2,e3,e4,e5⟩:=h.ex;have hb:Below (min b q0.2) w w':=⟨hg.os,hg.tape,hg.output,hg.size,fun i hi=>hg.block i (by have:=hk.lt;omega) (fun e=>by have:=aeM e;omega)⟩
 exact⟨⟨A,n,c,k,ts,hk.grown hg (fun e=>h2 (aeM e).symm),e1,e2,e3,e4,e5.below hb⟩,h.ok,by obtain⟨A,c,v,ht⟩:=h.tot;exact⟨A,c,v,ht.grown hg (fun e=>h2 (aeM e).symm)⟩⟩
def RS.left {q0:Nat×Nat} {b:Nat} {l:List Lex.Tok} {w:World} (h:RS q0 b l w): ∃k:Nat,w.cell? ⟨b,1,none⟩=some (.int .i64 (k:Nat))/\k+l.length=q0.1:=by
 obtain⟨A,n,c,k,ts,hk,h1,h2,h3,h4,h5⟩:=h.ex;obtain⟨A',c',v,ht⟩:=h.tot;have e0:some (Value.slice A n c)=some (Value.slice A' q0.1 c'):=(hk.cell 0).symm.trans (ht.cell 0)
 injection e0 with e0
 injection e0 with _ e0 _
 refine⟨k,hk.cell 1, ?_⟩;rw[<-h2,ae1];omega
def ace (w:World) (o:Option (List Cy.aI)) (e:Ending) (w':World):Prop:=
 Below w.heap.size w w'/\match o with
  |none=>e=.returned (.tuple #[.slice none 0 0,.int .i64 250])
  |some ps=> ∃u,e=.returned (.tuple #[u,.int .i64 0])/\qA w' (w.heap.size+3) u ps
def KR {w V V':World} {n:Nat} {acc:List Cy.aI} {l:List Lex.Tok} {tmps:Array Value} (h:Aq n w acc l V) (hg:V.grownBy V' (some (w.heap.size+2)))
  (t2:tmps.getD 2 undef=.pointer (some ⟨w.heap.size,0,none⟩)) (t3:tmps.getD 3 undef=.pointer (some ⟨w.heap.size+1,0,none⟩)):
  bodyPostD prog Tryz.f11 (ace w none) (.panic BX) {tmps:=tmps,defers:=[{target:=.fn (.func 33) #[.pointer (some ⟨w.heap.size,0,none⟩),.pointer (some ⟨w.heap.size+1,0,none⟩)],args:= #[]}]} V':=by
 obtain⟨A,c,h1,-⟩:=h.out;have h1':=h1.grown hg (fun e=>by have:=aeM e;omega)
 have h2':=h.err.grown hg (fun e=>by have:=aeM e;omega)
 have hb':Below w.heap.size w V':=h.bel.trans ⟨hg.os,hg.tape,hg.output,hg.size,fun i hi=>hg.block i (by have:=h.bel.size;omega) (fun e=>by have:=aeM e;omega)⟩
 refine leaves_cons (f:=33) (args:= #[.pointer (some ⟨w.heap.size,0,none⟩),.pointer (some ⟨w.heap.size+1,0,none⟩)]) (by simp) (by simp[go_sem]) ?_
 refine(ake w.heap.size (w.heap.size+1) A acc.length c 0 V' h1' h2' (by omega)).mono ?_
 rintro e u' w'' ⟨rfl,rfl,k1,k2,k3⟩;have c0:=k1.cell 0;have c1:=k2.cell 0;simp at c0 c1 t2 t3;simp[Leaves,settle,results,results11,go_sem,t2,t3,c0,c1];exact⟨hb'.trans (k3 _ (aej _) (by omega) hb'.size),rfl⟩
def akh (B:Nat) (A:Option Addr) (n c:Nat) (ts:List Lex.Tok) (w:World) (hr:Reads w B 4 A n (nC ts)) (hn:ts.length=n) (hn2:n<=16777216) (hok: ∀t∈ts,Cy.lS t) (hB:B<=w.heap.size):
  Calls prog 11 #[.slice A n c] w (ace w (Cy.patterns ts)):=by
 obtain⟨o,ho⟩:=aj (Cy.patterns ts);rw[ho];unfold Cy.patterns at ho;obtain⟨W1,hW1⟩:=aj (((w.alloc (.cells #[.slice none 0 0] 47)).alloc (.cells #[.int .i64 0] 27)).alloc (.cells #[.slice A n c,.int .i64 0] 100));have hb1:Below w.heap.size w W1:=by rw[<-hW1];exact(((aoa _ w).alloc (aej _) _).alloc (by simp) _).alloc (by simp;omega) _
 have hs1:Aq n w [] ts W1:=by
  rw[<-hW1];refine⟨⟨none,0,((ak.new _ _ _).alloc _).alloc _,[],rfl,by simp,arU _ _ _ _⟩, ?_,⟨⟨A,n,c,0,ts, ?_,hn,rfl,by omega,hn2, ?_⟩,hok,⟨A,c,.int .i64 0, ?_⟩⟩, ?_⟩
  ·have:=(ak.new (w.alloc (.cells #[.slice none 0 0] 47)) 27 #[.int .i64 0]).alloc (.cells #[.slice A n c,.int .i64 0] 100)
   simpa using this
  ·have:=ak.new ((w.alloc (.cells #[.slice none 0 0] 47)).alloc (.cells #[.int .i64 0] 27)) 100 #[.slice A n c,.int .i64 0]
   simpa using this
  ·exact(hr.below ((((aoa B w).alloc hB _).alloc (by simp;omega) _).alloc (by simp;omega) _)).more (by omega)
  ·have:=ak.new ((w.alloc (.cells #[.slice none 0 0] 47)).alloc (.cells #[.int .i64 0] 27)) 100 #[.slice A n c,.int .i64 0]
   simpa using this
  rw[hW1];exact hb1
 refine gq3 hs1 hW1 ho fun dH HW1 HO=>?_;have hmf: ∀(fn:Fn) (first cap:Array Value) (w:World),(Instr.makeFunc fn first cap).run prog w=.ok (.func fn first cap) w:=fun _ _ _ _=>rfl
 clear hs1 hW1 ho hr hok hb1
 go_enter_defers func11,ntmps11
 go_upto_region 3 with fail
 rw[HW1.out];rw[show w.heap.size+1+1=w.heap.size+2 from rfl]
 clear HW1
 go_loopg [9] (ts.length+1) (fun g x wr=> ∃acc l,Aq n w acc l wr/\l.length<g/\Hid (Cy.script g l acc=o)/\acc.length+l.length<=16777216)
 case atStart=>exact⟨[],ts,dH.out,by omega,HO.out,by simp;omega⟩
 obtain⟨acc,l,hs,kK,HE,hal⟩:=hrel;refine gq3 hs hal kK fun HS fZ uI=>?_;obtain⟨k,a1,hkn⟩:=hs.rs.left;simp only at hkn;have fQ:(k:Int)<=n:=by omega
 cases gk with
 |zero=>omega
 |succ f=>
 clear hs hal kK dH HO;cases l with
 |nil=>
  have he:_=o:=HE;have HO:=ah (show some acc=o by rw[<-he];rfl)
  obtain⟨Ao,co,hk,hp⟩:=HS.out.out;have c0:wr.cell? ⟨w.heap.size,0,none⟩=some (.slice Ao acc.length co):=hk.cell 0;have c1:wr.cell? ⟨w.heap.size+1,0,none⟩=some (.int .i64 0):=HS.err.cell 0;have f0:=hk.frozen 0;have f1:=HS.err.frozen 0;have hkn2:(n:Int)<=k:=by simp at hkn;omega
  have HP:=ah hp;have HK:=ah hk;clear he HE hp hk hkn;have g1:=grownBy_set wr ⟨w.heap.size,0,none⟩ (.slice Ao acc.length co);have g2:=grownBy_set (wr.setCell ⟨w.heap.size,0,none⟩ (.slice Ao acc.length co)) ⟨w.heap.size+1,0,none⟩ (.int .i64 0);have jy:=ah ((HP.step g1 (show w.heap.size<w.heap.size+3 by omega)).step g2 (show w.heap.size+1<w.heap.size+3 by omega))
  have fV:=((HK.aG 0 (.slice Ao acc.length co)).far (p:=⟨w.heap.size+1,0,none⟩) (show w.heap.size≠w.heap.size+1 by omega) (.int .i64 0)).cell 0
  have hef:=((HS.err.far (p:=⟨w.heap.size,0,none⟩) (show w.heap.size+1≠w.heap.size by omega) (.slice Ao acc.length co)).aG 0 (.int .i64 0)).cell 0
  have oN:=ah (((HS.bel.setCell (p:=⟨w.heap.size,0,none⟩) (aej _) (.slice Ao acc.length co))).setCell (p:=⟨w.heap.size+1,0,none⟩) (ahy _) (.int .i64 0));simp at fV hef;have qZ:=ah fV;have HEF:=ah hef;clear g1 g2 fV hef;go_wp2;refine leaves_cons (f:=33) (args:= #[.pointer (some ⟨w.heap.size,0,none⟩),.pointer (some ⟨w.heap.size+1,0,none⟩)]) (by simp) (by simp[go_sem]) ?_
  refine(akf w.heap.size (w.heap.size+1) _).mono ?_;rintro e u' w'' ⟨rfl,rfl,rfl⟩;have c0':=qZ.out;have c1':=HEF.out;simp[Leaves,settle,results,results11,go_sem,c0',c1'];exact⟨oN.out,by rw[<-HO.out];exact⟨_,rfl,jy.out⟩⟩
 |cons t r=>
 have he:_=o:=HE;rw[Cy.script]at he;have hkn2:(k:Int)<n:=by simp at hkn;omega
 have hh:=abW _ 1 ⟨#[67,82,69,65,84,69]⟩ _ _ HS.rs (by decide)
 by_cases hcr:t.kind=1/\t.text=Cy.uz
 case neg=>
  rw[show hv 1 (⟨#[67,82,69,65,84,69]⟩:ByteArray).data.toList (t :: r)=none from by show hv 1 Cy.uz (t :: r)=none;rw[hv,aer hcr]]at hh
  rw[aer hcr]at he;have HH:=ah hh;have HO:=ah he;clear hh he HE hcr hkn;go_wp2_with fail;refine tq8 HH fun w3 hr3 hg3=>?_;have jU:=ah hg3;clear hr3 hg3;go_wp2_with fail;refine iq7 (og _ _) ?_;rw[<-HO.out];exact KR HS.out jU.out rfl rfl
 rw[show hv 1 (⟨#[67,82,69,65,84,69]⟩:ByteArray).data.toList (t :: r)=some r from by show hv 1 Cy.uz (t :: r)=some r;rw[hv,aeu hcr]]at hh
 rw[aeu hcr]at he;obtain⟨E,hE⟩:=aj (Cy.pats (r.length+1) r acc);rw[hE]at he;refine gq3 hh he hE fun HH HX uQ=>?_;clear hh he HE hE hcr hkn;go_wp2_with fail;refine tq8 HH fun w3 hr3 hg3=>?_;have bK:=ah (HS.step hr3 hg3);clear hr3 hg3 HS a1;go_wp2_with fail;refine iq7 (nD _ _) ?_;go_wp2_with fail
 go_loopg [20] (r.length+1) (fun g x wi=> ∃acc' l',Aq n w acc' l' wi/\l'.length<g/\Hid (Cy.pats g l' acc'=E)/\acc'.length+l'.length<=16777216/\l'.length<=r.length)
 case atStart=>exact⟨acc,r,bK.out,by omega,uQ.out,by have:=fZ.out;simp at this;omega,aej _⟩
 obtain⟨acc',l',hs,kK,HE,hal,hlr⟩:=hrel;refine gq4 hs hal kK hlr fun HS XD aol JC=>?_;cases gk with
 |zero=>omega
 |succ fi=>
 clear hs hal kK hlr bK uQ;have he:_=E:=HE;rw[Cy.pats]at he;have hp:=acd HS.rs;obtain⟨Ao,co,hko,hpo⟩:=HS.out.out;obtain⟨al,hal⟩:=aj acc'.length;rw[hal]at hko hpo;have c0:wr.cell? ⟨w.heap.size,0,none⟩=some (.slice Ao al co):=hko.cell 0;have f0:=hko.frozen 0;refine gq3 hko hpo hal fun HKO xF oL=>?_;have hlt0:=hko.lt;have JD:=acd (HS.rs.kept (w':=wr.drew) (below_drewN (aoa _ _) 1));clear HE hp hko hpo hal;cases hc:Cy.wM l' with
 |none=>
  rw[hc]at he JD;have HO:=ah (show none=o by rw[<-HX.out,<-he])
  have HP:=ah JD;clear hc he JD;go_wp2_with fail;refine wp_region_any (by kernel_rfl) ?_
  change wpAny _ _ _ _ _ _ _ (World.drew _)
  refine att (rs:=[0,1]) (by kernel_rfl) (by simp) ?_
  refine as3 rfl (fun K hK=> ?_) (as3 rfl (fun K hK=> ?_) atn)
  ·go_simp
   refine hK _ _ ?_;clear hK K;refine att (rs:=[1]) (by kernel_rfl) (by simp) ?_
   refine as3 rfl (fun K hK=> ?_) atn
   go_simp;refine hK _ _ ?_;clear hK K;refine att (rs:=[2]) (by kernel_rfl) (by simp) ?_
   refine as3 rfl (fun K hK=> ?_) atn
   go_simp;refine HP.mono ?_;rintro e w7 ⟨qg,rfl⟩;rw[<-HO.out];exact KR HS.out (aS (wH (iw wr _) 1) qg) rfl rfl
  go_simp;refine hK _ _ ?_;clear hK K;refine att (rs:=[0,2]) (by kernel_rfl) (by simp) ?_
  refine as3 rfl (fun K hK=> ?_) (as3 rfl (fun K hK=> ?_) atn)
  ·go_simp
   refine hK _ _ ?_;clear hK K;refine att (rs:=[2]) (by kernel_rfl) (by simp) ?_
   refine as3 rfl (fun K hK=> ?_) atn
   go_simp;refine HP.mono ?_;rintro e w7 ⟨qg,rfl⟩;rw[<-HO.out];exact KR HS.out (aS (wH (iw wr _) 1) qg) rfl rfl
  go_simp;refine HP.mono ?_;rintro e w7 ⟨qg,rfl⟩;rw[<-HO.out];exact KR HS.out (aS (wH (iw wr _) 1) qg) rfl rfl
 |some q=>
 obtain⟨p,l1⟩:=q;rw[hc]at he JD
 try simp only at he
 have HE2:=ah he;have vX:=ah (Cy.abz hc HS.rs.ok HS.rs.len);have hcx:Calls prog 36 #[.pointer (some ⟨w.heap.size+2,0,none⟩)] wr.drew fun e w'=> ∃v,e=.returned v/\(U5 w' wr.heap.size v p/\RS (n,w.heap.size) (w.heap.size+2) l1 w'/\wr.drew.grownBy w' (some (w.heap.size+2))):=JD.mono fun e w' ⟨h1,u,h2,h3,h4⟩=>⟨u,h2,h3,h4,h1⟩
 have HP:=ah hcx;have hall:al<536870912:=by have:=XD.out;have:=oL.out;omega
 have HKK:Hid (∀w',wr.drew.grownBy w' (some (w.heap.size+2))->w'.cell? ⟨w.heap.size,0,none⟩=some (.slice Ao al co)/\w'.frozen? ⟨w.heap.size,0,none⟩=false/\w.heap.size<w'.heap.size):=fun w' hg=>by
  have hk:=(show ak wr.drew _ _ _ from HKO.out).grown hg (fun e=>by have:=aeM e;omega)
  exact⟨hk.cell 0,hk.frozen 0,hk.lt⟩
 have hsz3:w.heap.size+3<=wr.heap.size:=HS.sz;clear hc he JD hcx;go_wp2_with fail;refine wp_region_noPanic ?_
 go_region_law (first|(refine IU 36 rfl (by go_simp) HP.out ?_;rintro u w7 ⟨hu7,Et,qg⟩;obtain⟨vW,Rh,QZ⟩:=HKK.out _ qg;obtain⟨sn,sp,rfl,Ci,Cj⟩:=hu7;obtain⟨A1,c1,rfl⟩:=aH Ci;obtain⟨A2,c2,rfl⟩:=Cj.form;have y5:=ah (show pF w7 (w.heap.size+3) (p,[ST p.first,ST p.word,ST p.other,.slice A1 p.names.length c1,.slice A2 p.props.length c2]) from⟨_,_,rfl,own_base Ci hsz3,Cj.base hsz3⟩);have XE:=aS (wH (iw wr (some (w.heap.size+2))) 1) qg;have aeR:=ah (xF.step XE (by omega));have dL:=ah (HS.step Et XE);obtain⟨ll,e1,e2,e3⟩:=aeR.out;rw[oL.out]at e3;have H1:=ah e1;have H2:=ah e2;have H3:=ah e3;have aoo:w.heap.size+3<=w7.heap.size:=dL.sz;clear Ci Cj Et e1 e2 e3 XE)|(refine FV rfl (.tmp 20) (.tmp 23) 47 56 (.agg #[.string ⟨#[]⟩,.string ⟨#[]⟩,.string ⟨#[]⟩,.slice none 0 0,.slice none 0 0]) 5 96 underlying47 akg rfl (by decide) (by decide) rfl (w.heap.size+3) (.slice Ao al co) al (ll.flatMap Prod.snd) _ rfl H3.out [ST p.first,ST p.word,ST p.other,.slice A1 p.names.length c1,.slice A2 p.props.length c2] _ rfl rfl (by simp[Value.oneCell',ST]) rfl hall aoo ?_;intro v9 w9 aF aO bI aB;obtain⟨A9,c9,rfl⟩:=aH aF;have hk9:w9.cell? ⟨w.heap.size,0,none⟩=some (.slice Ao al co):=(aB.cell (show w.heap.size<w.heap.size+3 by omega)).trans vW;have Xf:w9.frozen? ⟨w.heap.size,0,none⟩=false:=(aB.frozen (show w.heap.size<w.heap.size+3 by omega)).trans Rh))
 all_goals (refine NoPanic.normal ?_)
 all_goals
  have hset:=grownBy_set w9 ⟨w.heap.size,0,none⟩ (.slice A9 (al+1) c9);have aeS:=qA.put (v:=.slice Ao al co) (v':=.slice A9 (al+1) c9) (ps:=acc') H1.out H2.out y5.out (by rw[oL.out];exact H3.out) aO (by rw[oL.out];exact aF)
  have su:(acc' ++ [p]).length=al+1:=by rw[aeo,oL.out];rfl
  have GI:=ah (show Aq n w (acc' ++ [p]) l1 (w9.setCell ⟨w.heap.size,0,none⟩ (.slice A9 (al+1) c9)) by
   obtain⟨Ax,cx,hkx,-⟩:=dL.out.out;have aeT:=(hkx.below aB (show w.heap.size<w.heap.size+3 by omega)).aG 0 (.slice A9 (al+1) c9)
   simp at aeT
   exact⟨⟨A9,c9,by rw[su];exact aeT,by rw[su];exact aeS.step hset (show w.heap.size<w.heap.size+3 by omega)⟩,
    (dL.err.below aB (by omega)).far (p:=⟨w.heap.size,0,none⟩) (show w.heap.size+1≠w.heap.size by omega) _,
    (dL.rs.below aB (by omega)).lower hset (aej _) (show w.heap.size≠w.heap.size+2 by omega),(dL.bel.trans (aB.mono (by omega))).setCell (p:=⟨w.heap.size,0,none⟩) (aej _) _⟩)
  have gI:=ah su;clear hset aeS su aF aO bI aB hk9 Xf vW Rh dL aeR H1 H2 H3 y5;cases hc:Cy.mark [59] l1 with
  |some l2=>
   have HM:=ah (kW (z:=⟨#[59]⟩) GI.rs hc);have he:=HE2.out;rw[hc]at he;have HXF:=ah (show Cy.script f l2 (acc' ++ [p])=o by rw[<-HX.out,<-he])
   have HL2:=ah (Cy.iM hc).2;clear hc he;go_wp2_with fail;refine tq8 HM fun wm hrm hgm=>?_;have tH:=ah (GI.step hrm hgm);clear hrm hgm;go_wp2
   go_roundg f
   case measure=>omega
   exact⟨acc' ++ [p],l2,tH.out,by have:=uI.out;simp at this;have:=JC.out;have:=vX.out.2.2;have:=HL2.out;omega,HXF,by rw[gI.out];have:=XD.out;have:=oL.out;have:=vX.out.2.2;have:=HL2.out;omega⟩
  |none=>
  have HM:=ah (kD (z:=⟨#[59]⟩) GI.rs hc);have he:=HE2.out;rw[hc]at he;have dU:=ah he;clear hc he;go_wp2_with fail;refine tq8 HM fun wm hrm hgm=>?_;have tH:=ah (GI.step hrm hgm);clear hrm hgm GI HM;cases hc:Cy.mark [44] l1 with
  |none=>
   have HM:=ah (kD (z:=⟨#[44]⟩) tH.rs hc);have he:=dU.out
   try simp only at he
   rw[hc]at he;have HO:=ah (show none=o by rw[<-HX.out,<-he])
   clear hc he;go_wp2_with fail;refine tq8 HM fun wk hrk hgk=>?_;have HGk:=ah hgk;clear hrk hgk;go_wp2_with fail;refine iq7 (og _ _) ?_;rw[<-HO.out];exact KR tH.out HGk.out rfl rfl
  |some l2=>
   have HM:=ah (kW (z:=⟨#[44]⟩) tH.rs hc);have he:=dU.out
   try simp only at he
   rw[hc]at he;have jh:=ah he;have HL2:=ah (Cy.iM hc).2;clear hc he;go_wp2_with fail;refine tq8 HM fun wk hrk hgk=>?_;have HSk:=ah (tH.step hrk hgk);clear hrk hgk;go_wp2_with fail;refine iq7 (nD _ _) ?_;go_wp2
   go_roundg fi
   case measure=>omega
   exact⟨acc' ++ [p],l2,HSk.out,by have:=aol.out;have:=vX.out.2.2;have:=HL2.out;omega,jh,by rw[gI.out];have:=XD.out;have:=oL.out;have:=vX.out.2.2;have:=HL2.out;omega,by have:=JC.out;have:=vX.out.2.2;have:=HL2.out;omega⟩
end Go.Proofs.YtdijgcnlbfgkdaaGreatDoor
namespace Go.Proofs.YtdijgcnlbfgkdaaGreatDoor
open Go.RowKit Go.Maps Go.Proofs.Tryz
def acf:Keyed prog 3:=int_keyed asI
def Qm:Keyed prog 9:=string_keyed asa
def acg (w:World):(zeroValue 3).run prog w=.ok (.int .i64 0) w:=by kernel_rfl
abbrev ZL:DataW Unit:=.lit (.int .i64 0)
def wf64 {n:Int} (h:au.In64 n):(Lit.int .i64 n).wf=true:=by
 unfold au.In64 at h;simp only[Lit.wf,afx,aeU];exact h
structure gU (w:World) (b:Nat) (l:List Int):Prop where
 ex: ∃(n:Nat) (D:DataW Unit),n<=l.length/\w.ownsMap prog 3 (plainElem prog 3) b n D/\IsMap D/\ ∀i,au.In64 i->D.atKey (.int .i64 i) ZL=.lit (.int .i64 (l.count i:Nat))
structure iO (w:World) (b:Nat) (l:List (List UInt8)):Prop where
 ex: ∃(n:Nat) (D:DataW Unit),n<=l.length/\w.ownsMap prog 9 (plainElem prog 3) b n D/\Tidy D/\(∀t,D.atKey (.string t) ZL=.lit (.int .i64 (l.count t:Nat)))/\ ∀t,has D (.string t)=decide (t∈l)
section
variable {w w':World} {b:Nat}
def gU.made (w:World):gU (w.alloc (.map #[] 0)) w.heap.size []:=⟨0,.map [],aej _,World.ownsMap_made _ _ _ _,isMap_empty,fun i _=>rfl⟩
def iO.made (w:World):iO (w.alloc (.map #[] 0)) w.heap.size []:=⟨0,.map [],aej _,World.ownsMap_made _ _ _ _,tidy_empty,fun t=>rfl,fun t=>rfl⟩
def iO.lt {l:List (List UInt8)} (h:iO w b l):b<w.heap.size:=by obtain⟨n,D,-,h,-⟩:=h.ex;exact h.lt
def gU.kept {row:Option Nat} {l:List Int} (h:gU w b l) (hg:w.grownBy w' row) (hne:some b≠row):gU w' b l:=by obtain⟨n,D,h1,h,h2⟩:=h.ex;exact⟨n,D,h1,h.kept hg hne,h2⟩
def iO.kept {row:Option Nat} {l:List (List UInt8)} (h:iO w b l) (hg:w.grownBy w' row) (hne:some b≠row):iO w' b l:=by obtain⟨n,D,h1,h,h2⟩:=h.ex;exact⟨n,D,h1,h.kept hg hne,h2⟩
def gU.below {l:List Int} (h:gU w b l) (hb:Below w.heap.size w w'):gU w' b l:=h.kept (bV hb none) (by simp)
def iO.below {l:List (List UInt8)} (h:iO w b l) (hb:Below w.heap.size w w'):iO w' b l:=h.kept (bV hb none) (by simp)
end
def U8 {α:Type} [BEq α] [LawfulBEq α] [DecidableEq α] (l:List α) (x i:α):(l++[x]).count i=l.count i+if x=i then 1 else 0:=by
 rw[aoV,List.count_singleton];by_cases h:x=i<;>simp[h]
def gU.look {w:World} {b:Nat} {l:List Int} (h:gU w b l) {t:TypeId} (ht:prog.underlying t=some (.map 3 3)) {i:Int} (hi:au.In64 i):(Instr.lookup t (.map (some b)) (.int .i64 i) false).run prog w=.ok (.int .i64 (l.count i:Nat)) w:=by
 obtain⟨n,D,-,hown,-,hc⟩:=h.ex;obtain⟨c,hrun,hat,-⟩:=hown.lookup_int acf ht asI (acg _) (keyOf_int_mk asI (wf64 hi));rw[hc i hi]at hat;have he:c=((l.count i:Nat):Int):=by injection hat with hat;injection hat with _ hat;exact hat.symm
 exact he▸hrun
def iO.look {w:World} {b:Nat} {l:List (List UInt8)} (h:iO w b l) {t:TypeId} (ht:prog.underlying t=some (.map 9 3)) {s:ByteArray} (hs:s.size<=maxLen):(Instr.lookup t (.map (some b)) (.string s) false).run prog w=.ok (.int .i64 (l.count s.data.toList:Nat)) w:=by
 obtain⟨n,D,-,hown,-,hc,-⟩:=h.ex;obtain⟨c,hrun,hat,-⟩:=hown.lookup_int Qm ht asI (acg _) (as5 asa hs);rw[hc]at hat;have he:c=((l.count s.data.toList:Nat):Int):=by injection hat with hat;injection hat with _ hat;exact hat.symm
 exact he▸hrun
section
variable {P:Program} (w:World) {ops:Array Oper} {rest:List Oper} {o:Oper} {a:Act} {Q:Exit->Act->World->Prop} (hg:o.guard=none)
include hg
def U9 {l:List Int} {b:Nat} (h:gU w b l) (hl:l.length<1152921504606846976) (m x v:Operand) (t:TypeId) (hop:o.op=Op.mapUpdate t m x v) (ht:prog.underlying t=some (.map 3 3)) (hm:a.eval m=.map (some b)) (i:Int) (hi:au.In64 i) (hx:a.eval x=.int .i64 i) (hv:a.eval v=.int .i64 ((l.count i:Nat)+1:Int))
  (hK: ∀w',gU w' b (l++[i])->w.grownBy w' (some b)->wpList prog ops Q rest (a.put o.dst undef) w'):wpList prog ops Q (o :: rest) a w:=by
 obtain⟨n,D,hn,hown,hD,hc⟩:=h.ex;have hcl:=agV (a:=i) (l:=l);refine wpList_mapUpdate_own w hg m x v t hop 3 3 acf ht _ b n D hm hown (by unfold maxLen;omega) _ _ _ hx hv (keyOf_int_mk asI (wf64 hi)) _ [] (plainElem_int asI (wf64 (by unfold au.In64;omega))) ?_
 intro w1 hown1 hgrow;refine hK w1 ⟨n+1,_,by rw[aeo];simp;omega,hown1,IsMap.put hD (.int .i64 i) _,fun j hj=> ?_⟩ hgrow
 rw[U8];by_cases e:i=j
 ·subst e
  rw[atKey_put_same hD (k:=.int .i64 i) trivial,aeu rfl];simp
 rw[atKey_put_other (k':=.int .i64 j) (by intro h;cases h;exact e rfl),hc j hj,aer e,agw]
def Qn {l:List (List UInt8)} {b:Nat} (h:iO w b l) (hl:l.length<1152921504606846976) (m x v:Operand) (t:TypeId) (hop:o.op=Op.mapUpdate t m x v) (ht:prog.underlying t=some (.map 9 3)) (hm:a.eval m=.map (some b)) (s:ByteArray) (hs:s.size<=maxLen) (hx:a.eval x=.string s) (hv:a.eval v=.int .i64 ((l.count s.data.toList:Nat)+1:Int))
  (hK: ∀w',iO w' b (l++[s.data.toList])->w.grownBy w' (some b)->wpList prog ops Q rest (a.put o.dst undef) w'):wpList prog ops Q (o :: rest) a w:=by
 obtain⟨n,D,hn,hown,hD,hc,hh⟩:=h.ex;have hcl:=agV (a:=s.data.toList) (l:=l);refine wpList_mapUpdate_own w hg m x v t hop 9 3 Qm ht _ b n D hm hown (by unfold maxLen;omega) _ _ _ hx hv (as5 asa hs) _ [] (plainElem_int asI (wf64 (by unfold au.In64;omega))) ?_
 intro w1 hown1 hgrow;refine hK w1 ⟨n+1,_,by rw[aeo];simp;omega,hown1,Tidy.put hD (k:=.string s.data.toList) trivial _,fun j=> ?_,fun j=> ?_⟩ hgrow
 ·rw[U8]
  by_cases e:s.data.toList=j
  ·subst e
   rw[atKey_put_same hD.isMap (k:=.string s.data.toList) trivial,aeu rfl];simp
  rw[atKey_put_other (k':=.string j) (by intro h;cases h;exact e rfl),hc j,aer e,agw]
 by_cases e:s.data.toList=j
 ·subst e
  rw[has_put_same hD.isMap (k:=.string s.data.toList) trivial];simp
 rw[has_put_other (k':=.string j) (by intro h;cases h;exact e rfl),hh j]
 simp[atx e]
end
def cO.ach {T n₁ b:Nat} {A B:World} {l:List (List UInt8)} (h:cO T n₁ A B) (hc:iO A b l):iO B b l:=by
 obtain⟨n,D,h1,⟨es,clock,hb,F,hs,hD⟩,h2⟩:=hc.ex;exact⟨n,D,h1,⟨es,clock,h.block b _ hb (fun r e=>by cases e) (fun c fz e=>by cases e),F,hs,hD⟩,h2⟩
section
variable {F:Fence} {nF:Nat} (w:World) {ops:Array Oper} {rest:List Oper} {o:Oper} {a:Act} {Q:Exit->Act->World->Prop} (hg:o.guard=none)
include hg
def aki {l:List (List UInt8)} {b:Nat} (h:iO w b l) (hl:l.length<1152921504606846976) (m x v:Operand) (t:TypeId) (hop:o.op=Op.mapUpdate t m x v) (ht:prog.underlying t=some (.map 9 3)) (hm:a.eval m=.map (some b)) (s:ByteArray) (hs:s.size<=maxLen) (hx:a.eval x=.string s) (hv:a.eval v=.int .i64 ((l.count s.data.toList:Nat)+1:Int))
  (hK: ∀w',iO w' b (l++[s.data.toList])->w.grownBy w' (some b)->wpListIn F nF prog ops Q rest (a.put o.dst undef) w'):wpListIn F nF prog ops Q (o :: rest) a w:=by
 obtain⟨n,D,hn,hown,hD,hc,hh⟩:=h.ex;have hcl:=agV (a:=s.data.toList) (l:=l);refine wpListIn_mapUpdate_own w hg m x v t hop 9 3 Qm ht _ b n D hm hown (by unfold maxLen;omega) _ _ _ hx hv (as5 asa hs) _ [] (plainElem_int asI (wf64 (by unfold au.In64;omega))) ?_
 intro w1 hown1 hgrow;refine hK w1 ⟨n+1,_,by rw[aeo];simp;omega,hown1,Tidy.put hD (k:=.string s.data.toList) trivial _,fun j=> ?_,fun j=> ?_⟩ hgrow
 ·rw[U8]
  by_cases e:s.data.toList=j
  ·subst e
   rw[atKey_put_same hD.isMap (k:=.string s.data.toList) trivial,aeu rfl];simp
  rw[atKey_put_other (k':=.string j) (by intro h;cases h;exact e rfl),hc j,aer e,agw]
 by_cases e:s.data.toList=j
 ·subst e
  rw[has_put_same hD.isMap (k:=.string s.data.toList) trivial];simp
 rw[has_put_other (k':=.string j) (by intro h;cases h;exact e rfl),hh j]
 simp[atx e]
end
end Go.Proofs.YtdijgcnlbfgkdaaGreatDoor
namespace Go.Proofs.YtdijgcnlbfgkdaaGreatDoor
open Go.RowKit Go.Proofs.Tryz
structure Kp (base:Nat) (w w':World):Prop where
 bel:Below base w w'
 keep: ∀(b:Nat) (c:Array Value) (t:TypeId) (fz:Nat×Nat),w.heap[b]?=some (.cells c t fz)->t≠53->t≠37->t≠74->w'.heap[b]?=some (.cells c t fz)
def Kp.trans {base:Nat} {a b c:World} (h:Kp base a b) (k:Kp base b c):Kp base a c:=
 ⟨h.bel.trans k.bel,fun i cs t fz hc h1 h2 h3=>k.keep i cs t fz (h.keep i cs t fz hc h1 h2 h3) h1 h2 h3⟩
def Kp.of_below {base:Nat} {w w':World} (h:Below w.heap.size w w') (hb:base<=w.heap.size):Kp base w w':=
 ⟨h.mono hb,fun b c t fz hc _ _ _=>(h.block b (afb.1 hc).1).trans hc⟩
def Kp.yg {base g:Nat} {w w':World} (h:w.grownBy w' (some g)) (hb:base<=w.heap.size) (hg:base<=g)
  (hty: ∀c t fz,w.heap[g]?=some (.cells c t fz)->t=53\/t=37\/t=74):Kp base w w':=by
 refine⟨⟨h.os,h.tape,h.output,h.size,fun k hk=>h.block k (by omega) (fun e=>by cases e;omega)⟩,fun b c t fz hc h1 h2 h3=> ?_⟩
 rw[h.block b (afb.1 hc).1 ?_]
 ·exact hc
 intro e;cases e
 rcases hty c t fz hc with e|e|e
 ·exact h1 e
 ·exact h2 e
 exact h3 e
def nG {base B e size n:Nat} {v:Value} {xs:List Value} {w w':World} (h:w.ownsRow B e size v n xs) (hk:Kp base w w') (h1:e≠53) (h2:e≠37) (h3:e≠74):w'.ownsRow B e size v n xs:=by
 obtain⟨hl,h⟩:=h;refine⟨hl, ?_⟩
 rcases h with h|⟨g,cap,cur,hv,hb,hc,hr⟩
 ·exact .inl h
 exact .inr ⟨g,cap,cur,hv,hb,hk.keep _ _ _ _ hc h1 h2 h3,hr⟩
def eG.kp {base B:Nat} {x:Gr.P×List Value} {w w':World} (h:eG w B x) (hk:Kp base w w'):eG w' B x:=by
 obtain⟨s,t,e,h1,h2⟩:=h;exact⟨s,t,e,nG h1 hk (by decide) (by decide) (by decide),nG h2 hk (by decide) (by decide) (by decide)⟩
def aT.kp {T:TypeId} {base B:Nat} {v:Value} {ps:List Gr.P} {w w':World} (h:aT T w B v ps) (hk:Kp base w w') (h1:T≠53) (h2:T≠37) (h3:T≠74):aT T w' B v ps:=by
 obtain⟨l,e,hx,ho⟩:=h;exact⟨l,e,fun x hm=>(hx x hm).kp hk,nG ho hk h1 h2 h3⟩
def pF.kp {base B:Nat} {x:Cy.aI×List Value} {w w':World} (h:pF w B x) (hk:Kp base w w'):pF w' B x:=by
 obtain⟨s,t,e,h1,h2⟩:=h;exact⟨s,t,e,nG h1 hk (by decide) (by decide) (by decide),h2.kp hk (by decide) (by decide) (by decide)⟩
def qA.kp {base B:Nat} {v:Value} {ps:List Cy.aI} {w w':World} (h:qA w B v ps) (hk:Kp base w w'):qA w' B v ps:=by
 obtain⟨l,e,hx,ho⟩:=h;exact⟨l,e,fun x hm=>(hx x hm).kp hk,nG ho hk (by decide) (by decide) (by decide)⟩
def akj (o:Option Int) (w:World) (e:Ending) (w':World):Prop:=
 ∃n b,e=.returned (.tuple #[.int .i64 n,.bool b])/\Below w.heap.size w w'/\match o with
  |none=>b=false
  |some k=>b=true/\n=k/\au.In64 k/\0<=k
def aci (c:UInt8):Lib.trimPrefix ([]:List UInt8) [c]=[]/\Lib.hasPrefix ([]:List UInt8) [c]=false:=by
 constructor<;>rfl
def Vb (c:UInt8) (r:List UInt8):Lib.trimPrefix (c :: r) [c]=r/\Lib.hasPrefix (c :: r) [c]=true:=by
 constructor<;>simp[Lib.trimPrefix,Lib.hasPrefix]
def acj {c d:UInt8} (h:d≠c) (r:List UInt8):Lib.trimPrefix (d :: r) [c]=d :: r/\Lib.hasPrefix (d :: r) [c]=false:=by
 have e: [c].isPrefixOf (d :: r)=false:=by
  show(c == d && List.isPrefixOf [] r)=false
  rw[aek.2 (atx h)];rfl
 refine⟨?_,e⟩
 show(if[c].isPrefixOf (d :: r)=true then _ else _)=_
 rw[e];rfl
def akk (c:UInt8) (most:Int) (s:List UInt8) (h:Lib.hasPrefix s [c]=false):Cy.nM c most s=none:=by
 cases s with
 |nil=>rfl
 |cons d r=>
  show(if _ then _ else _)=_
  rw[aer];rintro⟨rfl,-⟩;rw[(Vb d r).2]at h;exact Bool.noConfusion h
def akl (c:UInt8) (most:Int) (s:List UInt8) (h:Lib.hasPrefix s [c]=true):Cy.nM c most s=if(Num.dM (Lib.trimPrefix s [c])).2=0/\0<=(Num.dM (Lib.trimPrefix s [c])).1/\(Num.dM (Lib.trimPrefix s [c])).1<most then some (Num.dM (Lib.trimPrefix s [c])).1 else none:=by
 cases s with
 |nil=>rw[(aci c).2]at h;exact absurd h (by simp)
 |cons d r=>
  by_cases e:d=c
  ·subst e
   rw[(Vb d r).1];unfold Cy.nM;simp
  rw[(acj e r).2]at h;exact absurd h (by simp)
def akm (s:List UInt8) (c:UInt8):(Lib.trimPrefix s [c]).length<=s.length:=by
 cases s with
 |nil=>simp[(aci c).1]
 |cons d r=>
  by_cases e:d=c
  ·subst e;rw[(Vb d r).1];simp
  rw[(acj e r).1];exact aej _
def Vd (z:ByteArray) (c:UInt8) (most:Int) (w:World) (hs:z.size<=1073741824) (hm:au.In64 most) (hL:Laid w):
  Calls prog 38 #[.string z,.string ⟨#[c]⟩,.int .i64 most] w (akj (Cy.nM c most z.data.toList) w):=by
 obtain⟨o,ho⟩:=aj (Cy.nM c most z.data.toList);rw[ho];obtain⟨H,hH⟩:=aj (Lib.hasPrefix z.data.toList [c]);obtain⟨y,hy⟩:=aj (⟨(Lib.trimPrefix z.data.toList [c]).toArray⟩:ByteArray);obtain⟨n,en,hne⟩: ∃n en,Num.dM y.data.toList=(n,en):=⟨_,_,rfl⟩;have hc:=Tryz.strings_CutPrefix z ⟨#[c]⟩ w
 change Calls _ _ _ _ (fun e w'=>e=.returned (.tuple #[.string ⟨(Lib.trimPrefix z.data.toList [c]).toArray⟩,.bool (Lib.hasPrefix z.data.toList [c])])/\w'=w) at hc
 rw[hH,hy]at hc;have hys:y.size<=1073741824:=by rw[<-hy,dR];exact aep (akm _ _) (by rw[<-aof];exact hs)
 have hpi:=aaD y w hys hL;rw[hne]at hpi;have h64:=Cy.abr y.data.toList;rw[hne]at h64;have HO:=ah ho;have HH:=ah hH;have HY:=ah hy;have HN:=ah hne;have HC:=ah hc;have rP:=ah hpi;have HU:=ah o9;have H64:=ah h64;clear ho hH hy hne hc hpi hs hys hL hm h64;go_enter func38,ntmps38;go_wp2_with fail;refine HC.mono ?_;rintro e w1 ⟨rfl,rfl⟩;go_wp2_with fail;refine rP.mono ?_;rintro e w2 ⟨rfl,hb⟩;have HB:=ah hb;clear hb;cases H with
 |false=>
  have HE:=ah (show o=none by rw[<-HO.out];exact akk _ _ _ HH.out)
  clear HO;go_wp2
  go_ret2
  exact⟨n,false,rfl,HB.out,by rw[HE.out]⟩
 |true=>
 have ho:=HO.out;rw[akl _ _ _ HH.out]at ho;have hyl:y.data.toList=Lib.trimPrefix z.data.toList [c]:=by rw[<-HY.out]
 rw[<-hyl,HN.out]at ho;have HE:=ah ho;clear ho hyl HO;by_cases h1:en=0
 case neg=>
  have t1:((en:Int) == 0)=false:=by rw[aek];omega
  have hx:o=none:=by rw[<-HE.out,aer (fun h=>h1 h.1)]
  have HX:=ah hx;clear hx h1;go_wp2
  go_ret2
  exact⟨n,false,rfl,HB.out,by rw[HX.out]⟩
 subst h1;by_cases h2:0<=n
 case neg=>
  have t2:decide (0<=n)=false:=dF h2;have hx:o=none:=by rw[<-HE.out,aer (fun h=>h2 h.2.1)]
  have HX:=ah hx;clear hx;go_wp2
  go_ret2
  exact⟨n,false,rfl,HB.out,by rw[HX.out]⟩
 have t2:decide (0<=n)=true:=aei h2;by_cases h3:n<most
 case neg=>
  have t3:decide (n<most)=false:=dF h3;have hx:o=none:=by rw[<-HE.out,aer (fun h=>h3 h.2.2)]
  have HX:=ah hx;clear hx;go_wp2
  go_ret2
  exact⟨n,false,rfl,HB.out,by rw[HX.out]⟩
 have t3:decide (n<most)=true:=aei h3;have hx:o=some n:=by rw[<-HE.out,aeu ⟨rfl,h2,h3⟩]
 have HX:=ah hx;have H2:=ah h2;clear hx;go_wp2
 go_ret2
 exact⟨n,true,rfl,HB.out,by rw[HX.out];exact⟨rfl,rfl,H64.out,H2.out⟩⟩
def pair_cells {W:World} {base:Nat} {T:TypeId} {A:Option Addr} {n c:Nat} {l:List (Gr.P×List Value)} (h:W.ownsRow base T 6 (.slice A n c) n (l.flatMap Prod.snd)) (hn:l.length=n) (hx: ∀x∈l,x.2.length=6)
  {k:Nat} {x:Gr.P×List Value} (hk:l[k]?=some x): ∃g off,A=some ⟨g,off,none⟩/\g<W.heap.size/\ ∀(j:Nat) u,x.2[j]?=some u->W.cell? ⟨g,off+k*6+j,none⟩=some u:=by
 subst hn;obtain⟨b,off,cs,e,hlt,hr,-,hc⟩:=dD.dZ (R:=fun a cs=>cs=a.2) (f:=Prod.snd) h hx (fun _ _=>rfl) k x hk
 subst hr;exact⟨b,off,e,hlt,hc⟩
def eG.form {W:World} {B:Nat} {p:Gr.P} {cs:List Value} (h:eG W B (p,cs)): ∃A1 c1 A2 c2,cs=[ST p.key,.int .i64 p.val.kind,.int .i64 p.val.num,ST p.val.text,.slice A1 p.val.nums.length c1,.slice A2 p.val.texts.length c2]/\
  W.ownsRow B 2 1 (.slice A1 p.val.nums.length c1) p.val.nums.length (p.val.nums.map I64)/\W.ownsRow B 9 1 (.slice A2 p.val.texts.length c2) p.val.texts.length (p.val.texts.map ST):=by
 obtain⟨s,t,e,h1,h2⟩:=h;obtain⟨A1,c1,rfl⟩:=aH h1;obtain⟨A2,c2,rfl⟩:=aH h2;exact⟨A1,c1,A2,c2,e,h1,h2⟩
def eG.below {w w':World} {B:Nat} {x:Gr.P×List Value} (h:eG w B x) (hb:Below w.heap.size w w'):eG w' B x:=h.row (bV hb none) (fun g c t fz hr=>by cases hr)
def rV.vok {p:Gr.P} (h:Cy.rV p):QM p.val:=by
 have h1:=h.val.tl;have h2:=h.val.nl;have h3:=h.val.sl;have h4:=h.val.kin;exact⟨⟨by omega,by omega⟩,h.val.num,h.val.nums,by omega,by omega,by omega,fun t ht=>by have:=h.val.sz t ht;omega⟩
structure JE (w:World) (B:Nat) (l:List (Gr.P×List Value)) (k:Nat) (v:Value) (V:World):Prop where
 bel:Below w.heap.size w V
 map:iO V w.heap.size ((l.take k).map fun x=>x.1.key)
 row:V.ownsRow (w.heap.size+1) 143 6 v k ((l.take k).flatMap Prod.snd)
def JE.below {w V V':World} {B k:Nat} {l:List (Gr.P×List Value)} {v:Value} (h:JE w B l k v V) (hb:Below V.heap.size V V'):JE w B l k v V':=
 ⟨h.bel.trans (hb.mono h.bel.size),h.map.below hb,eu h.row (bV hb none) (fun g c t fz hr=>by cases hr)⟩
def acn:(prog.info? 143).map (fun i=>(i.zero,i.size,i.bytes))=some (some (.agg #[.string ⟨#[]⟩,.int .i64 0,.int .i64 0,.string ⟨#[]⟩,.slice none 0 0,.slice none 0 0]),6,96):=by kernel_rfl
def akn (B:Nat) (w:World) (ps:List Gr.P) (R:Nat) (e:Ending) (w':World):Prop:=
 ∃v,e=.returned (.tuple #[v,.int .i64 (R:Nat)])/\Below w.heap.size w w'/\(R=0->aT 143 w' B v ps)/\(R≠0->v=.slice none 0 0)
def aco (B:Nat) (A:Option Addr) (n c:Nat) (ps:List Gr.P) (w:World) (h:aT 165 w B (.slice A n c) ps) (hn:ps.length=n) (hn2:n<=16777216) (hs: ∀p∈ps,Cy.rV p) (hB:B<=w.heap.size):
  Calls prog 40 #[.slice A n c] w (akn B w ps (Cy.dJ [] ps)):=by
 obtain⟨R,hR⟩:=aj (Cy.dJ [] ps);rw[hR];obtain⟨l,hl,hx,ho⟩:=h;rw[hn]at ho;have hll:l.length=n:=by rw[<-hn,<-hl,aeP]
 have HX:=ah hx;have HX6:=ah (show∀x∈l,x.2.length=6 from fun x hm=>by obtain⟨s,t,e,-⟩:=hx x hm;rw[e];rfl)
 refine gq6 ho hl hll hR hB hs fun HO HL bY HR eY bf=>?_;have jc:=ah (show JE w B l 0 (.slice none 0 0) (w.alloc (.map #[] 0)) from⟨(aoa _ w).alloc (aej _) _,by rw[agL];exact iO.made w,by rw[agL];exact arU _ _ _ _⟩)
 obtain⟨W0,hW0⟩:=aj (w.alloc (.map #[] 0));rw[hW0]at jc;have HW0:=ah hW0;have hmm:= @ate prog;clear hl hx ho hll hR hB hs hn hW0;go_enter func40,ntmps40
 go_upto_region 2 with fail
 rw[HW0.out];clear hmm HW0;go_wp2_with fail
 go_loopg [2,11] n (fun q x y wr=> ∃k:Nat,∃A' c',x=.slice A' k c'/\y=.int .i64 k/\k+q=n/\JE w B l k (.slice A' k c') wr/\Hid (Cy.dJ ((l.take k).map fun x=>x.1.key) (ps.drop k)=R))
 case atStart=>exact⟨0,none,0,rfl,rfl,by omega,jc.out,HR.out⟩
 obtain⟨k,A1,c1,rfl,rfl,hk,hs,HE⟩:=hrel;have HS:=ah hs;have HK:=ah hk;clear hs jc HR;cases gk with
 |zero=>
  obtain rfl:k=n:=by omega
  have he:_=R:=HE;have hd:ps.drop k=[]:=by rw[<-HL.out];exact agS (by rw[aeP,bY.out];exact aej _)
  rw[hd]at he;have hr0:R=0:=by rw[<-he];simp[Cy.dJ]
  have hrow:=HS.row;rw[aeG (by rw[bY.out];exact aej _)]at hrow
  subst hr0;have hpo:aT 143 wr B (.slice A1 k c1) ps:=⟨l,HL.out,fun x hm=>(HX.out x hm).below HS.bel,by rw[<-HL.out,aeP,bY.out];exact own_base hrow (by have:=eY.out;omega)⟩
  have xF:=ah hpo;clear he hd hrow hpo HE hk;go_wp2
  go_ret2
  exact⟨_,rfl,HS.bel,fun _=>xF.out,fun h=>absurd rfl h⟩
 |succ q=>
  have hkn:k<n:=by omega
  have dW:(k:Int)<n:=by omega
  obtain⟨x,hxk⟩: ∃x,l[k]?=some x:=⟨_,aen (by rw[bY.out];exact hkn)⟩
  obtain⟨p,cs⟩:=x;have hpk:ps[k]?=some p:=by rw[<-HL.out,aeY,hxk];rfl
  have hdr:ps.drop k=p :: ps.drop (k+1):=by
   rw[afk (by rw[<-HL.out,aeP,bY.out];exact hkn)]
   congr 1
   exact aeM ((aen _).symm.trans hpk)
  have htk:l.take (k+1)=l.take k++[(p,cs)]:=by rw[afS,hxk];rfl
  have hpo:=HX.out _ (aew hxk);obtain⟨g,off,rfl,hgl,hcl⟩:=pair_cells HO.out bY.out HX6.out hxk;obtain⟨An,cn,At,ct,rfl,hn1,ht1⟩:=hpo.form;have hcell:=fun(j:Nat) u (hu:([ST p.key,.int .i64 p.val.kind,.int .i64 p.val.num,ST p.val.text,.slice An p.val.nums.length cn,.slice At p.val.texts.length ct]:List Value)[j]?=some u)=>(HS.bel.cell (p:=⟨g,off+k*6+j,none⟩) hgl).trans (hcl j u hu)
  have d0:=hcell 0 _ rfl;have d1:=hcell 1 _ rfl;have d2:=hcell 2 _ rfl;have d3:=hcell 3 _ rfl;have d4:=hcell 4 _ rfl;have d5:=hcell 5 _ rfl;rw[agw]at d0;obtain⟨zk,fJ⟩:=aj (⟨p.key.toArray⟩:ByteArray);obtain⟨zt,aK⟩:=aj (⟨p.val.text.toArray⟩:ByteArray);have e1:ST p.key=.string zk:=by rw[<-fJ];rfl
  have e2:ST p.val.text=.string zt:=by rw[<-aK];rfl
  rw[e1]at d0;rw[e2]at d3;obtain⟨WN,bM⟩:=aj (wr.alloc (.cells #[.string zk,.int .i64 p.val.kind,.int .i64 p.val.num,.string zt,.slice An p.val.nums.length cn,.slice At p.val.texts.length ct] 165));have hbn:Below wr.heap.size wr WN:=by rw[<-bM];exact(aoa _ _).alloc (aej _) _
  obtain⟨nd,hnd⟩:=aj wr.heap.size;have hk0:ak WN nd 165 #[.string zk,.int .i64 p.val.kind,.int .i64 p.val.num,.string zt,.slice An p.val.nums.length cn,.slice At p.val.texts.length ct]:=by rw[<-bM,<-hnd];exact ak.new _ _ _
  have dB:=ah (HS.below hbn);have mG:=ah (show nd≠w.heap.size by have:=HS.map.lt;omega)
  have hps:=bf.out p (aew hpk);have aeV:zk.size<=16777216:=by rw[<-fJ,dR];exact hps.key
  have MR:=ah (show zk.data.toList=p.key by rw[<-fJ])
  refine gq8 (fun(V:World) (hb:Below w.heap.size w V)=>(show qM V V.heap.size (.agg #[.int .i64 p.val.kind,.int .i64 p.val.num,.string zt,.slice An p.val.nums.length cn,.slice At p.val.texts.length ct]) p.val by rw[<-e2];exact zX (rV.vok hps) ((Reads.dZ (eu hn1 (bV hb none) (fun g c t fz hr=>by cases hr)))) ((Reads.dZ (eu ht1 (bV hb none) (fun g c t fz hr=>by cases hr)))))) hk0 (HX.out _ (aew hxk)) hps bM htk hdr (And.intro e1 e2) fun HVI iR xF Ri gY nK HDR Eu=>?_
  have hgn:=IL zk WN (by omega)
  rw[show zk.data.toList=p.key from MR.out]at hgn
  have he:_=R:=HE;rw[hdr]at he;rw[Cy.dJ]at he;obtain⟨GB,mJ⟩:=aj (Gr.fD p.key);rw[mJ]at he hgn;have HE2:=ah he;have gW:=ah hgn;clear hxk hpk hdr htk hpo hgl hcl hn1 ht1 hcell fJ aK e1 e2 bM hbn hk0 hps hgn he mJ HE HS hk
  go_upto_region 5 with fail
  rw[gY.out]
  try rw[hnd]
  clear hnd d0 d1 d2 d3 d4 d5 gY;obtain⟨d0,d1,d2,d3,d4,d5⟩:=Ah iR.out;go_wp2_with fail;refine iq8 gW ?_;cases GB with
  |false=>
   have hr:R=60:=by rw[<-HE2.out,aeu rfl]
   subst hr;go_wp2
   go_ret2
   exact⟨_,rfl,dB.bel,fun h=>absurd h (by decide),fun _=>rfl⟩
  |true=>
  have he:=HE2.out;rw[aer (by decide)]at he
  have dU:=ah he;clear he HE2 gW;obtain⟨LK,Rj⟩: ∃L,(l.take k).map (fun x=>x.1.key)=L:=⟨_,rfl⟩
  have hlk:=dB.map;rw[Rj]at hlk;have XF:=hlk.look (t:=106) asf (s:=zk) (by unfold maxLen;omega)
  rw[show zk.data.toList=p.key from MR.out]at XF
  obtain⟨N,hN⟩:=aj (LK.count p.key);have mM:LK.length<=k:=by rw[<-Rj,aeP,afo];omega
  have tJ:N<=LK.length:=by rw[<-hN];exact agV
  rw[hN]at XF;have hNi:(N:Int)<=16777216:=by omega
  refine gq4 hlk hN Rj aeV fun HCM jK Rk Gw=>?_;have aeW:LK.length<=16777216:=by omega
  have vY:=ah aeW;clear hlk hN Rj mM tJ aeV aeW;go_wp2_with (at_mapUpdate;refine Qn _ rfl HCM.out (by have:=vY.out;omega) (.tmp 19) (.tmp 21) (.tmp 23) 106 rfl asf rfl zk (by have:=Gw.out;unfold maxLen;omega) rfl (by rw[show zk.data.toList=p.key from MR.out,jK.out];rfl) ?_)
  intro w1 hc1 hg1;rw[show zk.data.toList=p.key from MR.out]at hc1
  have HB1:=ah (show Below w.heap.size w w1 from dB.bel.trans ⟨hg1.os,hg1.tape,hg1.output,hg1.size,fun i hi=>hg1.block i (afn hi dB.bel.size) (fun e=>by cases e;omega)⟩)
  have HR1:=ah (fP dB.row hg1 (aeX _));have hk1:=iR.grown hg1 (fun e=>mG.out (aeM e))
  have lu:=ah hc1;have XG:=ah hk1;have hlk2:=hc1.look (t:=106) asf (s:=zk) (by have:=Gw.out;unfold maxLen;omega)
  rw[show zk.data.toList=p.key from MR.out,aoV,jK.out,aoz]at hlk2
  clear hc1 hg1 XF d0 d1 d2 d3 d4 d5 dB iR HCM;obtain⟨d0,d1,d2,d3,d4,d5⟩:=Ah hk1;clear hk1;by_cases hN0:N=0
  case neg=>
   have t1:decide ((1:Int)<((N+1:Nat):Int))=true:=aei (by omega)
   have hr:R=7:=by
    rw[<-dU.out,Rk.out,aeu (aht.1 (by rw[jK.out];omega))]
   subst hr;go_wp2
   go_ret2
   exact⟨_,rfl,HB1.out,fun h=>absurd h (by decide),fun _=>rfl⟩
  subst hN0;have he:=dU.out;rw[Rk.out,aer (fun h=>by have:=aht.2 h;rw[jK.out]at this;omega)]at he
  obtain⟨cv,hcv⟩:=aj (au.check p.val);rw[hcv]at he;have jh:=ah he;have hck:=check_any w1.heap.size _ p.val w1 (HVI.out w1 HB1.out) (aej _);rw[hcv]at hck;have bH:=ah hck;have t1:decide ((1:Int)<((0+1:Nat):Int))=false:=dF (by omega)
  clear he hcv hck dU;go_wp2_with fail;refine mq8 bH fun w2 hb2=>?_;have HB2:=ah (HB1.trans (hb2.mono HB1.size));have hr2:=eu HR1.out (bV hb2 none) (fun g c t fz hr=>by cases hr)
  have HC2:=ah (lu.below hb2);have hk2:=XG.below hb2 XG.lt;clear d0 d1 d2 d3 d4 d5 hlk2 t1 lu HB1 HR1 XG bH;by_cases hc0:cv=0
  case neg=>
   have t1:((cv:Int) !=0)=true:=by rw[afd];omega
   have hr:R=cv:=by rw[<-jh.out,aeu hc0]
   subst hr;clear hb2 hr2 hk2;have yL:=ah hc0;clear hc0;go_wp2
   go_ret2
   exact⟨_,rfl,HB2.out,fun h=>absurd h yL.out,fun _=>rfl⟩
  subst hc0;have he:=jh.out;rw[aer (by decide)]at he
  have yT:=ah he;have HR2:=ah hr2;obtain⟨d0,d1,d2,d3,d4,d5⟩:=Ah hk2;have hsz2:w.heap.size+1<=w2.heap.size:=HC2.lt;have hkb:k<536870912:=by omega
  clear hb2 hr2 hk2 he jh;go_wp2_with (at_builtin;refine DJ rfl (.tmp 35) (.tmp 41) 35 143 (.agg #[.string ⟨#[]⟩,.int .i64 0,.int .i64 0,.string ⟨#[]⟩,.slice none 0 0,.slice none 0 0]) 6 96 asX acn rfl (by decide) (by decide) rfl (w.heap.size+1) (.slice A1 k c1) k ((l.take k).flatMap Prod.snd) w2 rfl HR2.out [.string zk,.int .i64 p.val.kind,.int .i64 p.val.num,.string zt,.slice An p.val.nums.length cn,.slice At p.val.texts.length ct] _ rfl rfl (by simp[Value.oneCell']) rfl hkb hsz2 ?_)
  intro v9 w9 aF aO bI aB;obtain⟨A9,c9,rfl⟩:=aH aF;have GI:=ah (show JE w B l (k+1) (.slice A9 (k+1) c9) w9 from⟨HB2.trans (aB.mono (ahy _)),by rw[nK.out,afg,Rk.out];exact iO.kept HC2.out aO (fun e=>by have:=(mW HR2.out _ e.symm).1;omega),by rw[nK.out,afR,agF,arG,afy,Eu.out.1,Eu.out.2];exact aF⟩)
  clear aF aO bI aB d0 d1 d2 d3 d4 d5;go_wp2
  go_roundg q
  case measure=>omega
  exact⟨k+1,A9,c9,rfl,int_eq (by omega),by have:=HK.out;omega,GI.out,by rw[nK.out,afg,Rk.out];exact yT.out⟩
end Go.Proofs.YtdijgcnlbfgkdaaGreatDoor
